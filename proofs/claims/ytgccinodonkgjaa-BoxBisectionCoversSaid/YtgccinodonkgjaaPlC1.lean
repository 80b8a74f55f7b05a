/- Intervals: what the program's functions on them come to. Own work: the plain lemmas of the claims of law02, laid over this seat's functions. -/
import Derived.Test.YtgccinodonkgjaaDefs
import Derived.KernelRfl
import Derived.IntWalk
set_option maxRecDepth 10000
set_option linter.unusedVariables false
set_option linter.unusedSimpArgs false
namespace Go.Proofs.Ytgccinodonkgjaa
open Go
theorem w64 {x : Int} (h1 : -9223372036854775808 ≤ x) (h2 : x ≤ 9223372036854775807) : w_i64 x = x := by
  exact Go.IntWalk.i64_in x ⟨h1, h2⟩
theorem ediv_bounds {a b B : Int} (hb : 0 < b) (h1 : -B ≤ a) (h2 : a ≤ B) : -B ≤ a / b ∧ a / b ≤ B := by
  have hB : 0 ≤ B := by omega
  constructor
  · rw [Int.le_ediv_iff_mul_le hb]
    have : B * 1 ≤ B * b := Int.mul_le_mul_of_nonneg_left (by omega) hB
    have e : -B * b = -(B * b) := Int.neg_mul ..
    omega
  · apply Int.ediv_le_of_le_mul hb
    have : B * 1 ≤ B * b := Int.mul_le_mul_of_nonneg_left (by omega) hB
    omega
def cdiv (a b : Int) : Int := -((-a) / b)
theorem cdiv_le {a b c : Int} (hb : 0 < b) : cdiv a b ≤ c ↔ a ≤ c * b := by
  unfold cdiv
  have : -c ≤ (-a) / b ↔ -c * b ≤ -a := Int.le_ediv_iff_mul_le hb
  rw [Int.neg_mul] at this
  omega
theorem le_fdiv {a b c : Int} (hb : 0 < b) : c ≤ a / b ↔ c * b ≤ a := Int.le_ediv_iff_mul_le hb
theorem tdm (a b : Int) (hb : 0 < b) : (Int.tmod a b < 0 → Int.tdiv a b - 1 = a / b ∧ Int.tmod a b + b = a % b) ∧ (¬ Int.tmod a b < 0 → Int.tdiv a b = a / b ∧ Int.tmod a b = a % b) := by
  have h1 := Int.mul_tdiv_add_tmod a b
  have h2 := Int.tmod_lt_of_pos a hb
  have h3 : -b < Int.tmod a b := by
    have := Int.tmod_lt_of_pos (-a) hb
    rw [Int.neg_tmod] at this
    omega
  have e := fun q r => Int.ediv_emod_unique (a := a) (b := b) (r := r) (q := q) hb
  constructor
  · intro h
    have := (e (Int.tdiv a b - 1) (Int.tmod a b + b)).2 ⟨by rw [Int.mul_sub]; omega, by omega, by omega⟩
    exact ⟨this.1.symm, this.2.symm⟩
  · intro h
    have := (e (Int.tdiv a b) (Int.tmod a b)).2 ⟨by omega, by omega, by omega⟩
    exact ⟨this.1.symm, this.2.symm⟩
theorem cdiv_eq {a b : Int} (hb : 0 < b) : cdiv a b = a / b + mn (a % b) 1 := by
  have h1 := Int.mul_ediv_add_emod a b
  have h2 := Int.emod_nonneg a (by omega : b ≠ 0)
  have h3 := Int.emod_lt_of_pos a hb
  have h5 : mn (a % b) 1 = 0 ∧ a % b = 0 ∨ mn (a % b) 1 = 1 ∧ 1 ≤ a % b := by unfold mn; split <;> omega
  apply Int.le_antisymm
  · rw [cdiv_le hb, Int.add_mul, Int.mul_comm (a / b) b]
    rcases h5 with ⟨h5, h6⟩ | ⟨h5, h6⟩ <;> rw [h5] <;> omega
  · rcases h5 with ⟨h5, h6⟩ | ⟨h5, h6⟩ <;> rw [h5]
    · have := (cdiv_le (a := a) (c := cdiv a b) hb).1 (Int.le_refl _)
      have h7 : a / b ≤ cdiv a b := by
        apply Int.ediv_le_of_le_mul hb this
      omega
    · have h8 : ¬ cdiv a b ≤ a / b := by
        rw [cdiv_le hb, Int.mul_comm]
        omega
      omega
theorem floorCeil_eq {a b : Int} (hb : 0 < b) (ha1 : -4611686018427387904 ≤ a) (ha2 : a ≤ 4611686018427387904) (hb2 : b ≤ 4611686018427387904) : fixed_floorCeil_int64_s104 a b = some (a / b, cdiv a b) := by
  have hq := ediv_bounds hb ha1 ha2
  obtain ⟨t1, t2⟩ := tdm a b hb
  have h2 := Int.emod_nonneg a (by omega : b ≠ 0)
  have h3 := Int.emod_lt_of_pos a hb
  have hc := cdiv_eq (a := a) hb
  have hm : 0 ≤ mn (a % b) 1 ∧ mn (a % b) 1 ≤ 1 := by unfold mn; split <;> omega
  unfold fixed_floorCeil_int64_s104 fixed_divide_1
  rw [if_pos (by omega), if_pos (by omega)]
  by_cases h : Int.tmod a b < 0
  · obtain ⟨e1, e2⟩ := t1 h
    have e3 : w_i64 (Int.tdiv a b) = Int.tdiv a b := w64 (by omega) (by omega)
    have e4 : w_i64 (Int.tdiv a b - 1) = a / b := by rw [e1]; exact w64 (by omega) (by omega)
    have e5 : w_i64 (Int.tmod a b + b) = a % b := by rw [e2]; exact w64 (by omega) (by omega)
    simp only [h, decide_true, if_true, Option.bind_some, e3, e4, e5]
    rw [w64 (by omega) (by omega), ← hc]
  · obtain ⟨e1, e2⟩ := t2 h
    have e3 : w_i64 (Int.tdiv a b) = a / b := by rw [e1]; exact w64 (by omega) (by omega)
    have h' : ¬ a % b < 0 := by omega
    simp only [e2, h', decide_false, Bool.false_eq_true, if_false, Option.bind_some, e3]
    rw [w64 (by omega) (by omega), ← hc]
theorem divide_pos {a b : Int} (hb : 0 < b) (ha1 : -4611686018427387904 ≤ a) (ha2 : a ≤ 4611686018427387904) (hb2 : b ≤ 4611686018427387904) : fixed_divide a b = some (a / b, cdiv a b) := by
  unfold fixed_divide
  rw [if_neg (by simp; omega)]
  simp only [Option.bind_some, floorCeil_eq hb ha1 ha2 hb2]
theorem divide_neg {a b : Int} (hb : b < 0) (ha1 : -4611686018427387904 ≤ a) (ha2 : a ≤ 4611686018427387904) (hb2 : -4611686018427387904 ≤ b) : fixed_divide a b = some ((-a) / (-b), cdiv (-a) (-b)) := by
  unfold fixed_divide
  rw [if_pos (by simp; omega)]
  have e1 : w_i64 (0 - a) = -a := by rw [w64 (by omega) (by omega)]; omega
  have e2 : w_i64 (0 - b) = -b := by rw [w64 (by omega) (by omega)]; omega
  simp only [Option.bind_some, e1, e2, floorCeil_eq (a := -a) (b := -b) (by omega) (by omega) (by omega) (by omega)]
def Num (x : Int) : Prop := -2147483648 < x ∧ x < 2147483648
def Wid (x : Int) : Prop := -2147483648 ≤ x ∧ x ≤ 2147483648
theorem prod_bound {x y A B : Int} (hx : -A ≤ x ∧ x ≤ A) (hy : -B ≤ y ∧ y ≤ B) : -(A * B) ≤ x * y ∧ x * y ≤ A * B := by
  have hA : 0 ≤ A := by omega
  have hB : 0 ≤ B := by omega
  have h1 : x.natAbs * y.natAbs ≤ A.natAbs * B.natAbs := Nat.mul_le_mul (by omega) (by omega)
  have h2 : ((x * y).natAbs : Int) ≤ A * B := by
    rw [Int.natAbs_mul]
    have : ((A.natAbs * B.natAbs : Nat) : Int) = A * B := by
      rw [Int.natCast_mul, Int.natAbs_of_nonneg hA, Int.natAbs_of_nonneg hB]
    omega
  omega
theorem mul_eq {x y : Int} (hx : Wid x) (hy : Wid y) : fixed_Mul x y = some (x * y / 65536, cdiv (x * y) 65536) := by
  have := prod_bound (A := 2147483648) (B := 2147483648) hx hy
  unfold fixed_Mul
  rw [w64 (by omega) (by omega), divide_pos (by omega) (by omega) (by omega) (by omega)]
  rfl
def Ent : TInterval := ⟨-2147483648, 2147483648⟩
def Fin (a : TInterval) : Prop := -2147483648 < a.Lo ∧ a.Lo ≤ a.Hi ∧ a.Hi < 2147483648
def Ok (a : TInterval) : Prop := a = Ent ∨ Fin a
def nw (x y : Int) : TInterval := if x ≤ -2147483648 ∨ y ≥ 2147483648 ∨ x ≥ 2147483648 ∨ y ≤ -2147483648 then Ent else ⟨x, y⟩
theorem Fin.wlo {a : TInterval} (h : Fin a) : Wid a.Lo := by unfold Fin at h; unfold Wid; omega
theorem Fin.whi {a : TInterval} (h : Fin a) : Wid a.Hi := by unfold Fin at h; unfold Wid; omega
theorem isEnt {a : TInterval} : interval_IsEntire a = some (decide (a = Ent)) := by
  simp only [interval_IsEntire, interval_Entire, Option.bind_some, Option.some.injEq]
  obtain ⟨l, h⟩ := a
  simp only [Ent, TInterval.mk.injEq, Bool.decide_and, Bool.and_true]
  rfl
theorem ref_isEnt {a : TInterval} : armillaryref02_IsEntire a = some (decide (a = Ent)) := by
  obtain ⟨l, h⟩ := a
  simp only [armillaryref02_IsEntire, Ent, TInterval.mk.injEq, Bool.decide_and]
  rfl
theorem Fin.ne {a : TInterval} (h : Fin a) : decide (a = Ent) = false := by
  apply decide_eq_false
  rintro rfl
  simp [Fin, Ent] at h
theorem isEnt_fin {a : TInterval} (h : Fin a) : interval_IsEntire a = some false := by rw [isEnt, h.ne]
theorem ref_isEnt_fin {a : TInterval} (h : Fin a) : armillaryref02_IsEntire a = some false := by rw [ref_isEnt, h.ne]
theorem isEnt_ent : interval_IsEntire Ent = some true := by rw [isEnt]; simp
theorem ref_isEnt_ent : armillaryref02_IsEntire Ent = some true := by rw [ref_isEnt]; simp
theorem new_eq (x y : Int) : interval_New x y = some (nw x y) := by
  unfold interval_New nw interval_Entire
  simp only [Option.bind_some]
  by_cases h : x ≤ -2147483648 ∨ y ≥ 2147483648 ∨ x ≥ 2147483648 ∨ y ≤ -2147483648
  · rw [if_pos h, if_pos (by simp; omega)]; rfl
  · rw [if_neg h, if_neg (by simp; omega)]
theorem nw_fin {x y : Int} (h : Fin ⟨x, y⟩) : nw x y = ⟨x, y⟩ := by
  unfold Fin at h
  unfold nw
  simp only at h
  rw [if_neg (by omega)]
theorem nw_ok {x y : Int} (h : x ≤ y) : Ok (nw x y) := by
  unfold nw
  split
  · exact .inl rfl
  · exact .inr (by unfold Fin; simp only; omega)
theorem nw_cases (x y : Int) (h : x ≤ y) : nw x y = Ent ∧ (x ≤ -2147483648 ∨ 2147483648 ≤ y) ∨ nw x y = ⟨x, y⟩ ∧ Fin ⟨x, y⟩ := by
  unfold nw
  split
  · exact .inl ⟨rfl, by omega⟩
  · exact .inr ⟨rfl, by unfold Fin; simp only; omega⟩
theorem add_fin {a b : TInterval} (ha : Fin a) (hb : Fin b) : interval_Add a b = some (nw (a.Lo + b.Lo) (a.Hi + b.Hi)) := by
  unfold interval_Add
  rw [isEnt_fin ha, isEnt_fin hb]
  unfold Fin at ha hb
  simp only [Option.bind_some, beq_self_eq_true, if_true, Bool.or_self, Bool.false_eq_true, if_false, new_eq]
  rw [w64 (by omega) (by omega), w64 (by omega) (by omega)]
theorem add_entl (b : TInterval) : interval_Add Ent b = some Ent := by
  unfold interval_Add
  rw [isEnt_ent]
  rfl
theorem add_entr (a : TInterval) : interval_Add a Ent = some Ent := by
  unfold interval_Add
  rw [isEnt, isEnt_ent]
  cases decide (a = Ent) <;> rfl
theorem neg_eq {a : TInterval} (h : Wid a.Lo) (h' : Wid a.Hi) : interval_Neg a = some ⟨-a.Hi, -a.Lo⟩ := by
  unfold Wid at h h'
  unfold interval_Neg
  rw [w64 (by omega) (by omega), w64 (by omega) (by omega)]
  congr 2 <;> omega
theorem Ok.wlo {a : TInterval} (h : Ok a) : Wid a.Lo := by
  rcases h with rfl | h
  · simp [Ent, Wid]
  · exact h.wlo
theorem Ok.whi {a : TInterval} (h : Ok a) : Wid a.Hi := by
  rcases h with rfl | h
  · simp [Ent, Wid]
  · exact h.whi
theorem neg_ok {a : TInterval} (h : Ok a) : interval_Neg a = some ⟨-a.Hi, -a.Lo⟩ := neg_eq h.wlo h.whi
theorem neg_fin {a : TInterval} (h : Fin a) : Fin ⟨-a.Hi, -a.Lo⟩ := by unfold Fin at *; simp only; omega
theorem sub_fin {a b : TInterval} (ha : Fin a) (hb : Fin b) : interval_Sub a b = some (nw (a.Lo - b.Hi) (a.Hi - b.Lo)) := by
  unfold interval_Sub
  rw [neg_eq hb.wlo hb.whi]
  simp only [Option.bind_some, add_fin ha (neg_fin hb)]
  congr 2
theorem bT {α β : Type} {X : Option α} {v : α} {f : α → Option β} {r : Option β} (h : X = some v) (hf : f v = r) : X.bind f = r := by
  subst h
  exact hf
theorem gT {α β : Type} {c : Prop} [Decidable c] {X D : Option α} {v : α} {f : α → Option β} {r : Option β} (hc : c) (h : X = some v) (hf : f v = r) : (if c then X else D).bind f = r := by
  rw [if_pos hc]
  exact bT h hf
theorem gF {α β : Type} {c : Prop} [Decidable c] {X : Option α} {d : α} {f : α → Option β} {r : Option β} (hc : ¬ c) (hf : f d = r) : (if c then X else some d).bind f = r := by
  rw [if_neg hc]
  exact bT rfl hf
theorem iT {β : Type} {c : Prop} [Decidable c] {X Y : Option β} {r : Option β} (hc : c) (h : X = r) : (if c then X else Y) = r := by
  rw [if_pos hc]
  exact h
theorem iF {β : Type} {c : Prop} [Decidable c] {X Y : Option β} {r : Option β} (hc : ¬ c) (h : Y = r) : (if c then X else Y) = r := by
  rw [if_neg hc]
  exact h
theorem w64e {x y : Int} (e : x = y) (h1 : -9223372036854775808 ≤ y) (h2 : y ≤ 9223372036854775807) : w_i64 x = y := by
  rw [e]
  exact w64 h1 h2
theorem cmpR {x y : Int} (h : x ≤ y) (z : Int) : (z < 0 ∨ x * z ≤ y * z) ∧ (0 < z ∨ y * z ≤ x * z) := by
  constructor
  · rcases Int.lt_or_le z 0 with hz | hz
    · exact .inl hz
    · exact .inr (Int.mul_le_mul_of_nonneg_right h hz)
  · rcases Int.lt_or_le 0 z with hz | hz
    · exact .inl hz
    · exact .inr (Int.mul_le_mul_of_nonpos_right h hz)
theorem cmpL {x y : Int} (h : x ≤ y) (z : Int) : (z < 0 ∨ z * x ≤ z * y) ∧ (0 < z ∨ z * y ≤ z * x) := by
  have := cmpR h z
  rw [Int.mul_comm z x, Int.mul_comm z y]
  exact this
theorem mulR {x y z : Int} (h : x ≤ y) (hz : 0 ≤ z) : x * z ≤ y * z := Int.mul_le_mul_of_nonneg_right h hz
theorem mulRn {x y z : Int} (h : x ≤ y) (hz : z ≤ 0) : y * z ≤ x * z := Int.mul_le_mul_of_nonpos_right h hz
theorem mulL {x y z : Int} (h : x ≤ y) (hz : 0 ≤ z) : z * x ≤ z * y := Int.mul_le_mul_of_nonneg_left h hz
theorem mulLn {x y z : Int} (h : x ≤ y) (hz : z ≤ 0) : z * y ≤ z * x := Int.mul_le_mul_of_nonpos_left hz h
theorem contains_eq (a : TInterval) (x : Int) : interval_Contains a x = some (decide (a = Ent) || (decide (a.Lo ≤ x) && decide (x ≤ a.Hi))) := by
  unfold interval_Contains
  rw [isEnt]
  rfl
theorem contains_fin {a : TInterval} (h : Fin a) (x : Int) : interval_Contains a x = some (decide (a.Lo ≤ x ∧ x ≤ a.Hi)) := by
  rw [contains_eq, h.ne, Bool.false_or, Bool.decide_and]
def ngv (a : TInterval) : TInterval := ⟨-a.Hi, -a.Lo⟩
def sqm (a : TInterval) : Int := mx (mx a.Lo (-a.Hi)) 0
def mag (a : TInterval) : Int := mx a.Hi (-a.Lo)
theorem mag_eq {a : TInterval} (h : Ok a) : interval_Mag a = some (mag a) := by
  have := h.wlo
  unfold Wid at this
  unfold interval_Mag mag
  rw [w64 (by omega) (by omega)]
  congr 2
  omega
theorem sq_fin {a : TInterval} (h : Fin a) : interval_Square a = some (nw (sqm a * sqm a / 65536) (cdiv (mag a * mag a) 65536)) := by
  unfold interval_Square
  rw [isEnt_fin h, mag_eq (.inr h)]
  have h' := h
  unfold Fin at h'
  have e : w_i64 (0 - a.Hi) = -a.Hi := by rw [w64 (by omega) (by omega)]; omega
  have e1 : Wid (sqm a) := by unfold Wid sqm mx; split <;> split <;> omega
  have e2 : Wid (mag a) := by unfold Wid mag mx; split <;> omega
  simp only [Option.bind_some, Bool.false_eq_true, if_false, e]
  have e3 : mx (mx a.Lo (-a.Hi)) 0 = sqm a := rfl
  simp only [e3, mul_eq e1 e1, mul_eq e2 e2, Option.bind_some, new_eq]
theorem sq_ent : interval_Square Ent = some Ent := by
  unfold interval_Square
  rw [isEnt_ent]
  rfl
theorem sq_mem {a : TInterval} (h : Fin a) {p : Int} (hp : a.Lo ≤ p ∧ p ≤ a.Hi) : sqm a * sqm a ≤ p * p ∧ p * p ≤ mag a * mag a := by
  have h1 : 0 ≤ sqm a ∧ sqm a ≤ p.natAbs := by unfold sqm mx; split <;> split <;> omega
  have h2 : (p.natAbs : Int) ≤ mag a := by unfold mag mx; split <;> omega
  have e : p * p = (p.natAbs : Int) * p.natAbs := Int.natAbs_mul_self.symm
  rw [e]
  exact ⟨Int.mul_le_mul h1.2 h1.2 h1.1 (by omega), Int.mul_le_mul h2 h2 (by omega) (by omega)⟩
theorem rfloor {a b : Int} (hb : 0 < b) (ha1 : -4611686018427387904 ≤ a) (ha2 : a ≤ 4611686018427387904) (hb2 : b ≤ 4611686018427387904) : armillaryref02_Floor a b = some (a / b) := by
  have hq := ediv_bounds hb ha1 ha2
  obtain ⟨t1, t2⟩ := tdm a b hb
  have h2 := Int.emod_nonneg a (by omega : b ≠ 0)
  have h3 := Int.emod_lt_of_pos a hb
  have hb0 : decide (b < 0) = false := decide_eq_false (by omega)
  unfold armillaryref02_Floor
  rw [if_pos (by omega), if_pos (by omega)]
  by_cases h : Int.tmod a b < 0
  · obtain ⟨e1, e2⟩ := t1 h
    have e3 : w_i64 (Int.tdiv a b) = Int.tdiv a b := w64 (by omega) (by omega)
    have h4 : a < 0 := by
      rcases Int.lt_or_le a 0 with h5 | h5
      · exact h5
      · have := Int.tmod_nonneg b h5
        omega
    have h5 : (Int.tmod a b != 0) = true := by simp; omega
    simp only [h5, hb0, decide_eq_true h4, e3]
    rw [e1, w64 (by omega) (by omega)]
    simp
  · obtain ⟨e1, e2⟩ := t2 h
    have e3 : w_i64 (Int.tdiv a b) = a / b := by rw [e1]; exact w64 (by omega) (by omega)
    have h5 : ((Int.tmod a b != 0) && !(decide (a < 0) == decide (b < 0))) = false := by
      rw [hb0]
      by_cases h6 : a < 0
      · have : Int.tmod a b ≤ 0 := by
          have := Int.tmod_nonneg b (a := -a) (by omega)
          rw [Int.neg_tmod] at this
          omega
        have : Int.tmod a b = 0 := by omega
        simp [this]
      · simp [h6]
    rw [if_neg (by simp only [h5]; simp), e3]
    rfl
theorem rceil {a b : Int} (hb : 0 < b) (ha1 : -4611686018427387904 ≤ a) (ha2 : a ≤ 4611686018427387904) (hb2 : b ≤ 4611686018427387904) : armillaryref02_Ceil a b = some (cdiv a b) := by
  have hq := ediv_bounds (a := -a) (B := 4611686018427387904) hb (by omega) (by omega)
  unfold armillaryref02_Ceil
  have e1 : w_i64 (0 - a) = -a := by rw [w64 (by omega) (by omega)]; omega
  rw [e1, rfloor hb (by omega) (by omega) hb2]
  simp only [Option.bind_some]
  unfold cdiv
  rw [w64 (by omega) (by omega)]
  congr 1
  omega
theorem tm_bound (x : Int) : -16777216 < Int.tmod x 16777216 ∧ Int.tmod x 16777216 < 16777216 := by
  have h1 := Int.tmod_lt_of_pos x (b := 16777216) (by omega)
  have h2 := Int.tmod_lt_of_pos (-x) (b := 16777216) (by omega)
  rw [Int.neg_tmod] at h2
  omega
instance (a : TInterval) : Decidable (Fin a) := by unfold Fin; infer_instance
instance (a : TInterval) : Decidable (Ok a) := by unfold Ok; infer_instance
theorem valid_eq (a : TInterval) : armillaryref02_Valid a = some (decide (Ok a)) := by
  unfold armillaryref02_Valid armillaryref02_Number
  rw [ref_isEnt]
  by_cases h : a = Ent
  · have : Ok a := .inl h
    simp [h, this, Ok]
  · have e : Ok a ↔ Fin a := by unfold Ok; simp [h]
    rw [show decide (Ok a) = decide (Fin a) from by simp [e]]
    by_cases h1 : -2147483648 < a.Lo ∧ a.Lo < 2147483648 <;> by_cases h2 : -2147483648 < a.Hi ∧ a.Hi < 2147483648 <;> simp [h, Fin, h1, h2]
    all_goals try omega
    all_goals grind
theorem made_ok (a : TInterval) : ∃ b, armillaryref02_Made a = some b ∧ Ok b := by
  unfold armillaryref02_Made
  rw [valid_eq]
  simp only [Option.bind_some]
  by_cases h : Ok a
  · rw [if_pos (by simp [h])]
    exact ⟨a, rfl, h⟩
  · rw [if_neg (by simp [h])]
    split
    · exact ⟨Ent, rfl, .inl rfl⟩
    · refine ⟨_, rfl, .inr ?_⟩
      have h1 := tm_bound a.Lo
      have h2 := tm_bound a.Hi
      unfold Fin mn mx
      simp only
      split <;> split <;> omega
theorem fd (x c : Int) (h : 0 < c) : Int.fdiv x c = x / c := Int.fdiv_eq_ediv_of_nonneg _ (Int.le_of_lt h)
theorem sq_lt {s t : Int} (hs : 0 ≤ s) (ht : 0 ≤ t) (h : s * s < t * t) : s < t := by
  rcases Int.lt_or_le s t with h1 | h1
  · exact h1
  · have := Int.mul_le_mul h1 h1 ht hs
    omega
theorem sq_le {s t : Int} (hs : 0 ≤ s) (h : s ≤ t) : s * s ≤ t * t := Int.mul_le_mul h h hs (by omega)
theorem subset_of {a b : TInterval} (h : b.Lo ≤ a.Lo ∧ a.Hi ≤ b.Hi) : interval_Subset a b = some true := by
  unfold interval_Subset
  rw [decide_eq_true h.1, decide_eq_true h.2]
  rfl
theorem subset_ent {a : TInterval} (h : Ok a) : interval_Subset a Ent = some true := by
  have h1 := h.wlo
  have h2 := h.whi
  unfold Wid at h1 h2
  exact subset_of (by simp only [Ent]; omega)
theorem nw_self {a : TInterval} (h : Fin a) : nw a.Lo a.Hi = a := nw_fin h
theorem fc {l h d : Int} (hd : 0 < d) (hl : l ≤ h) : l / d ≤ cdiv h d := by
  have h1 := (cdiv_le (a := h) (c := cdiv h d) hd).1 (Int.le_refl _)
  have h2 := (le_fdiv (a := l) (c := l / d) hd).1 (Int.le_refl _)
  rcases Int.lt_or_le (cdiv h d) (l / d) with h3 | h3
  · have : (cdiv h d + 1) * d ≤ l / d * d := mulR (by omega) (by omega)
    rw [Int.add_mul] at this
    omega
  · exact h3
theorem le_cdiv {a b c : Int} (hb : 0 < b) (h : c * b ≤ a) : c ≤ cdiv a b := by
  have h1 := (cdiv_le (a := a) (c := cdiv a b) hb).1 (Int.le_refl _)
  exact Int.le_of_mul_le_mul_right (Int.le_trans h h1) hb
theorem fdiv_le_of {a b c : Int} (hb : 0 < b) (h : a ≤ c * b) : a / b ≤ c := by
  have h1 := (le_fdiv (a := a) (c := a / b) hb).1 (Int.le_refl _)
  exact Int.le_of_mul_le_mul_right (Int.le_trans h1 h) hb
theorem cdiv_mono {a b d : Int} (hd : 0 < d) (h : a ≤ b) : cdiv a d ≤ cdiv b d :=
  (cdiv_le hd).2 (Int.le_trans h ((cdiv_le hd).1 (Int.le_refl _)))
theorem f_le (x : Int) : x / 65536 * 65536 ≤ x := (le_fdiv (by omega)).1 (Int.le_refl _)
theorem c_le (x : Int) : x ≤ cdiv x 65536 * 65536 := (cdiv_le (by omega)).1 (Int.le_refl _)
theorem Ok.b {a : TInterval} (h : Ok a) : -2147483648 ≤ a.Lo ∧ a.Lo ≤ a.Hi ∧ a.Hi ≤ 2147483648 ∧ (a ≠ Ent → -2147483648 < a.Lo ∧ a.Hi < 2147483648) := by
  rcases h with rfl | h
  · simp [Ent]
  · unfold Fin at h
    exact ⟨by omega, by omega, by omega, fun _ => by omega⟩
theorem Ok.ent_of {a : TInterval} (h : Ok a) (h1 : a.Lo ≤ -2147483648 ∨ 2147483648 ≤ a.Hi) : a = Ent := by
  rcases h with h | h
  · exact h
  · unfold Fin at h; omega
theorem mnl (x y : Int) : mn x y ≤ x ∧ mn x y ≤ y ∧ (mn x y = x ∨ mn x y = y) := by unfold mn; split <;> omega
theorem mxl (x y : Int) : x ≤ mx x y ∧ y ≤ mx x y ∧ (mx x y = x ∨ mx x y = y) := by unfold mx; split <;> omega
theorem hull_eq (a b : TInterval) : interval_Hull a b = some ⟨mn a.Lo b.Lo, mx a.Hi b.Hi⟩ := rfl
theorem int_eq (a b : TInterval) : interval_Intersect a b = some (if mx a.Lo b.Lo ≤ mn a.Hi b.Hi then (⟨mx a.Lo b.Lo, mn a.Hi b.Hi⟩, true) else (⟨0, 0⟩, false)) := by
  unfold interval_Intersect api_Interval_92
  by_cases h : mx a.Lo b.Lo ≤ mn a.Hi b.Hi
  · rw [decide_eq_true h, if_pos rfl, if_pos h]; rfl
  · rw [decide_eq_false h, if_neg Bool.false_ne_true, if_neg h]; rfl
theorem int_yes {a b : TInterval} (h : mx a.Lo b.Lo ≤ mn a.Hi b.Hi) : interval_Intersect a b = some (⟨mx a.Lo b.Lo, mn a.Hi b.Hi⟩, true) := by rw [int_eq, if_pos h]
theorem int_no {a b : TInterval} (h : ¬ mx a.Lo b.Lo ≤ mn a.Hi b.Hi) : interval_Intersect a b = some (⟨0, 0⟩, false) := by rw [int_eq, if_neg h]
theorem subset_eq (a b : TInterval) : interval_Subset a b = some (decide (b.Lo ≤ a.Lo ∧ a.Hi ≤ b.Hi)) := by unfold interval_Subset; rw [Bool.decide_and]
theorem hull_ok {a b : TInterval} (ha : Ok a) (hb : Ok b) : Ok ⟨mn a.Lo b.Lo, mx a.Hi b.Hi⟩ := by
  have h1 := mnl a.Lo b.Lo; have h2 := mxl a.Hi b.Hi; have h3 := ha.b; have h4 := hb.b
  by_cases e : a = Ent
  · subst e; left; simp only [Ent, TInterval.mk.injEq] at *; omega
  · by_cases e' : b = Ent
    · subst e'; left; simp only [Ent, TInterval.mk.injEq] at *; omega
    · right; have h5 := h3.2.2.2 e; have h6 := h4.2.2.2 e'; unfold Fin; simp only; omega
theorem inter_ok {a b : TInterval} (ha : Ok a) (hb : Ok b) (h : mx a.Lo b.Lo ≤ mn a.Hi b.Hi) : Ok ⟨mx a.Lo b.Lo, mn a.Hi b.Hi⟩ := by
  have h1 := mxl a.Lo b.Lo; have h2 := mnl a.Hi b.Hi; have h3 := ha.b; have h4 := hb.b
  by_cases e : a = Ent
  · by_cases e' : b = Ent
    · subst e; subst e'; left; simp only [Ent, TInterval.mk.injEq] at *; omega
    · right; have h6 := h4.2.2.2 e'; subst e; unfold Fin; simp only [Ent] at *; omega
  · right; have h6 := h3.2.2.2 e; unfold Fin; simp only at *; omega
theorem fvalid_eq (x : Int) : fixed_Valid x = some (decide (-2147483648 < x ∧ x < 2147483648)) := by unfold fixed_Valid; rw [Bool.decide_and]
theorem ival {a : TInterval} (h : Ok a) : interval_Valid a = some true := by
  unfold interval_Valid
  rcases h with rfl | h
  · exact bT isEnt_ent (gF Bool.false_ne_true (gF Bool.false_ne_true rfl))
  · have h' := h
    unfold Fin at h'
    refine bT (isEnt_fin h) (gT rfl (fvalid_eq _) (gT ?_ (fvalid_eq _) ?_))
    · rw [decide_eq_true (by omega)]; rfl
    · rw [decide_eq_true (by omega), decide_eq_true (by omega), decide_eq_true (by omega)]; rfl
def In (a : TInterval) (x : Int) : Prop := a = Ent ∨ a.Lo ≤ x ∧ x ≤ a.Hi
instance (a : TInterval) (x : Int) : Decidable (In a x) := by unfold In; infer_instance
theorem cont_eq (a : TInterval) (x : Int) : interval_Contains a x = some (decide (In a x)) := by
  rw [contains_eq]
  congr 1
  apply Bool.eq_iff_iff.2
  rw [decide_eq_true_iff]
  simp [In]
theorem In_inter {a b : TInterval} (ha : Ok a) (hb : Ok b) (x : Int) (h : mx a.Lo b.Lo ≤ mn a.Hi b.Hi) : In ⟨mx a.Lo b.Lo, mn a.Hi b.Hi⟩ x ↔ In a x ∧ In b x := by
  have h1 := mxl a.Lo b.Lo; have h2 := mnl a.Hi b.Hi; have h3 := ha.b; have h4 := hb.b
  unfold In
  by_cases e : a = Ent
  · by_cases e' : b = Ent
    · subst e; subst e'
      have : (⟨mx Ent.Lo Ent.Lo, mn Ent.Hi Ent.Hi⟩ : TInterval) = Ent := by decide
      simp [this]
    · have h6 := h4.2.2.2 e'
      have e2 : (⟨mx a.Lo b.Lo, mn a.Hi b.Hi⟩ : TInterval) = b := by
        subst e
        cases b
        simp only [Ent, TInterval.mk.injEq] at *
        omega
      rw [e2]
      simp [e]
  · have h6 := h3.2.2.2 e
    by_cases e' : b = Ent
    · have e2 : (⟨mx a.Lo b.Lo, mn a.Hi b.Hi⟩ : TInterval) = a := by
        subst e'
        cases a
        simp only [Ent, TInterval.mk.injEq] at *
        omega
      rw [e2]
      simp [e']
    · have h7 := h4.2.2.2 e'
      have e2 : (⟨mx a.Lo b.Lo, mn a.Hi b.Hi⟩ : TInterval) ≠ Ent := by
        intro h8
        simp only [Ent, TInterval.mk.injEq] at h8
        omega
      simp only [e, e', e2, false_or]
      omega
theorem In_none {a b : TInterval} (ha : Ok a) (hb : Ok b) (x : Int) (h : ¬ mx a.Lo b.Lo ≤ mn a.Hi b.Hi) : ¬ (In a x ∧ In b x) := by
  have h1 := mxl a.Lo b.Lo; have h2 := mnl a.Hi b.Hi; have h3 := ha.b; have h4 := hb.b
  rintro ⟨h5, h6⟩
  unfold In at h5 h6
  rcases h5 with h5 | h5
  · subst h5; simp only [Ent] at *; omega
  · rcases h6 with h6 | h6
    · subst h6; simp only [Ent] at *; omega
    · omega
theorem Fin.le {a : TInterval} (h : Fin a) : a.Lo ≤ a.Hi := h.2.1
theorem add_ok' {a b : TInterval} (ha : Ok a) (hb : Ok b) : ∃ r, interval_Add a b = some r ∧ Ok r := by
  rcases ha with rfl | ha
  · exact ⟨Ent, add_entl _, .inl rfl⟩
  · rcases hb with rfl | hb
    · exact ⟨Ent, add_entr _, .inl rfl⟩
    · exact ⟨_, add_fin ha hb, nw_ok (by have := ha.le; have := hb.le; omega)⟩
theorem sub_entl {b : TInterval} (hb : Ok b) : interval_Sub Ent b = some Ent := by
  unfold interval_Sub
  exact bT (neg_ok hb) (bT (add_entl _) rfl)
theorem sub_entr (a : TInterval) : interval_Sub a Ent = some Ent := by
  unfold interval_Sub
  exact bT (neg_ok (.inl rfl)) (bT (v := Ent) (add_entr a) rfl)
theorem sub_ok {a b : TInterval} (ha : Ok a) (hb : Ok b) : ∃ r, interval_Sub a b = some r ∧ Ok r := by
  rcases ha with rfl | ha
  · exact ⟨Ent, sub_entl hb, .inl rfl⟩
  · rcases hb with rfl | hb
    · exact ⟨Ent, sub_entr _, .inl rfl⟩
    · exact ⟨_, sub_fin ha hb, nw_ok (by have := ha.le; have := hb.le; omega)⟩
theorem sqm_nn (a : TInterval) : 0 ≤ sqm a := (mxl _ _).2.1
theorem sq_le2 {a : TInterval} (h : Fin a) : sqm a * sqm a ≤ mag a * mag a := by
  have h1 := sq_mem h (p := a.Lo) ⟨by omega, h.le⟩
  omega
theorem sq_ok {a : TInterval} (ha : Ok a) : ∃ r, interval_Square a = some r ∧ Ok r := by
  rcases ha with rfl | ha
  · exact ⟨Ent, sq_ent, .inl rfl⟩
  · exact ⟨_, sq_fin ha, nw_ok (fc (by omega) (sq_le2 ha))⟩
def Le (a b : TInterval) : Prop := b.Lo ≤ a.Lo ∧ a.Hi ≤ b.Hi
theorem Le.ent {a b : TInterval} (h : Le a b) (hb : Ok b) (e : a = Ent) : b = Ent := by
  subst e
  exact hb.ent_of (.inl h.1)
theorem Le.fin {a b : TInterval} (h : Le a b) (ha : Ok a) (hb : Fin b) : Fin a := by
  rcases ha with rfl | ha
  · unfold Le Ent at h; unfold Fin at hb; simp only at h; omega
  · exact ha
theorem mid_fin {a : TInterval} (h : Ok a) : interval_Mid a = some ((a.Lo + a.Hi) / 2) := by
  have h1 := h.wlo
  have h2 := h.whi
  unfold Wid at h1 h2
  unfold interval_Mid
  rw [w64 (by omega) (by omega), fd _ _ (by omega)]
theorem width_ok {a : TInterval} (h : Ok a) : interval_Width a = some (a.Hi - a.Lo) := by
  have h1 := h.wlo
  have h2 := h.whi
  unfold Wid at h1 h2
  unfold interval_Width
  rw [w64 (by omega) (by omega)]
theorem refnum (x : Int) : armillaryref02_Number x = some (decide (-2147483648 < x ∧ x < 2147483648)) := by
  unfold armillaryref02_Number
  rw [Bool.decide_and]
theorem refnew (x y : Int) : armillaryref02_New x y = some (if (-2147483648 < x ∧ x < 2147483648) ∧ (-2147483648 < y ∧ y < 2147483648) then ⟨x, y⟩ else Ent) := by
  unfold armillaryref02_New
  by_cases h1 : -2147483648 < x ∧ x < 2147483648
  · refine bT ((refnum x).trans (congrArg some (decide_eq_true h1))) ?_
    by_cases h2 : -2147483648 < y ∧ y < 2147483648
    · refine gT rfl ((refnum y).trans (congrArg some (decide_eq_true h2))) (iF Bool.false_ne_true ?_)
      rw [if_pos ⟨h1, h2⟩]
    · refine gT rfl ((refnum y).trans (congrArg some (decide_eq_false h2))) (iT rfl ?_)
      rw [if_neg (fun h => h2 h.2)]
      rfl
  · refine bT ((refnum x).trans (congrArg some (decide_eq_false h1))) (gF Bool.false_ne_true (iT rfl ?_))
    rw [if_neg (fun h => h1 h.1)]
    rfl
theorem refnew_nw {x y : Int} (h : x ≤ y) : armillaryref02_New x y = some (nw x y) := by
  rw [refnew]
  congr 1
  unfold nw
  by_cases g : (-2147483648 < x ∧ x < 2147483648) ∧ (-2147483648 < y ∧ y < 2147483648)
  · rw [if_pos g, if_neg (by omega)]
  · rw [if_neg g, if_pos (by omega)]
theorem ngv_ent : ngv Ent = Ent := rfl
theorem ngv_fin {a : TInterval} (h : Fin a) : Fin (ngv a) := neg_fin h
theorem ngv_ok {a : TInterval} (h : Ok a) : Ok (ngv a) := by
  rcases h with rfl | h
  · exact .inl rfl
  · exact .inr (ngv_fin h)
theorem neg_is {a : TInterval} (h : Ok a) : interval_Neg a = some (ngv a) := neg_ok h
theorem sub_neg {a b : TInterval} (hb : Ok b) {r : TInterval} (hr : interval_Sub a b = some r) : interval_Add a (ngv b) = some r := by
  unfold interval_Sub at hr
  rw [neg_is hb] at hr
  simp only [Option.bind_some] at hr
  cases h : interval_Add a (ngv b) with
  | none => rw [h] at hr; cases hr
  | some q => rw [h] at hr; exact hr
theorem ivalid_eq (a : TInterval) : interval_Valid a = some (decide (Ok a)) := by
  unfold interval_Valid
  by_cases h : a = Ent
  · refine bT (isEnt.trans (congrArg some (decide_eq_true h))) (gF Bool.false_ne_true (gF Bool.false_ne_true ?_))
    rw [decide_eq_true (show Ok a from .inl h)]
    rfl
  · refine bT (isEnt.trans (congrArg some (decide_eq_false h))) (gT rfl (fvalid_eq _) ?_)
    have e : Ok a ↔ Fin a := ⟨fun g => g.resolve_left h, .inr⟩
    by_cases h1 : -2147483648 < a.Lo ∧ a.Lo < 2147483648
    · rw [decide_eq_true h1]
      refine gT rfl (fvalid_eq _) ?_
      by_cases h2 : (-2147483648 < a.Hi ∧ a.Hi < 2147483648) ∧ a.Lo ≤ a.Hi
      · rw [decide_eq_true h2.1, decide_eq_true h2.2, decide_eq_true (e.2 (by unfold Fin; omega))]
        rfl
      · have hno : decide (Ok a) = false := decide_eq_false (fun g => h2 (by have := e.1 g; unfold Fin at this; omega))
        rw [hno]
        by_cases h3 : -2147483648 < a.Hi ∧ a.Hi < 2147483648
        · have h4 : decide (a.Lo ≤ a.Hi) = false := decide_eq_false (fun g => h2 ⟨h3, g⟩)
          rw [h4]; simp
        · rw [decide_eq_false h3]; simp
    · have hno : decide (Ok a) = false := decide_eq_false (fun g => h1 (by have := e.1 g; unfold Fin at this; omega))
      rw [hno, decide_eq_false h1]
      exact gF Bool.false_ne_true rfl
theorem rcont_eq (a : TInterval) (x : Int) : armillaryref02_Contains a x = interval_Contains a x := by
  rw [contains_eq]
  unfold armillaryref02_Contains
  exact bT ref_isEnt rfl
theorem rint_eq (a b : TInterval) : armillaryref02_Intersect a b = interval_Intersect a b := by
  rw [int_eq]
  unfold armillaryref02_Intersect
  by_cases h : mx a.Lo b.Lo ≤ mn a.Hi b.Hi
  · rw [if_pos h]; exact iF (by simpa using h) rfl
  · rw [if_neg h]; exact iT (decide_eq_true (by omega)) rfl
theorem rmid_eq {a : TInterval} (ha : Ok a) : armillaryref02_Mid a = interval_Mid a := by
  have h1 := ha.wlo
  have h2 := ha.whi
  rw [mid_fin ha]
  unfold Wid at h1 h2
  unfold armillaryref02_Mid
  rw [w64 (by omega) (by omega)]
  exact bT (rfloor (by omega) (by omega) (by omega) (by omega)) rfl
theorem radd_eq {a b : TInterval} (ha : Ok a) (hb : Ok b) : armillaryref02_Add a b = interval_Add a b := by
  unfold armillaryref02_Add
  rcases ha with rfl | ha
  · rw [add_entl]; exact bT ref_isEnt_ent (gF Bool.false_ne_true (iT rfl rfl))
  · rcases hb with rfl | hb
    · rw [add_entr]; exact bT (ref_isEnt_fin ha) (gT rfl ref_isEnt_ent (iT rfl rfl))
    · rw [add_fin ha hb]
      refine bT (ref_isEnt_fin ha) (gT rfl (ref_isEnt_fin hb) (iF Bool.false_ne_true ?_))
      have la := ha.le; have lb := hb.le
      unfold Fin at ha hb
      rw [w64 (x := a.Lo + b.Lo) (by omega) (by omega), w64 (x := a.Hi + b.Hi) (by omega) (by omega)]
      exact bT (refnew_nw (by omega)) rfl
theorem rneg_eq (a : TInterval) : armillaryref02_Neg a = interval_Neg a := rfl
theorem rsub_eq {a b : TInterval} (ha : Ok a) (hb : Ok b) : armillaryref02_Sub a b = interval_Sub a b := by
  obtain ⟨t, ht, okt⟩ := sub_ok ha hb
  rw [ht]
  unfold armillaryref02_Sub
  rw [rneg_eq]
  refine bT (neg_is hb) (bT (v := t) ?_ rfl)
  rw [radd_eq ha (ngv_ok hb)]
  exact sub_neg hb ht
theorem rsq_eq {a : TInterval} (ha : Ok a) : armillaryref02_Square a = interval_Square a := by
  unfold armillaryref02_Square
  rcases ha with rfl | fa
  · rw [sq_ent]; exact bT ref_isEnt_ent (iT rfl rfl)
  have b1 := prod_bound (A := 2147483648) (B := 2147483648) fa.wlo fa.wlo
  have b4 := prod_bound (A := 2147483648) (B := 2147483648) fa.whi fa.whi
  have la := fa.le
  rw [sq_fin fa]
  refine bT (ref_isEnt_fin fa) (iF Bool.false_ne_true ?_)
  rw [w64 (x := a.Lo * a.Lo) (by omega) (by omega), w64 (x := a.Hi * a.Hi) (by omega) (by omega)]
  have q1 := cmpR la a.Lo; have q2 := cmpR la a.Hi; have q3 := Int.mul_comm a.Hi a.Lo
  have n1 : 0 ≤ a.Lo * a.Lo := by have := Int.natAbs_mul_self (a := a.Lo); omega
  have n2 : 0 ≤ a.Hi * a.Hi := by have := Int.natAbs_mul_self (a := a.Hi); omega
  have e2 : mx (a.Lo * a.Lo) (a.Hi * a.Hi) = mag a * mag a := by
    have hmag : mag a = a.Hi ∧ -a.Lo ≤ a.Hi ∨ mag a = -a.Lo ∧ a.Hi < -a.Lo := by unfold mag mx; split <;> omega
    have m := mxl (a.Lo * a.Lo) (a.Hi * a.Hi)
    rcases hmag with ⟨e, g⟩ | ⟨e, g⟩ <;> rw [e]
    · have : a.Lo * a.Lo ≤ a.Hi * a.Hi := by
        rcases Int.lt_or_le a.Lo 0 with h | h
        · have := sq_le (s := -a.Lo) (t := a.Hi) (by omega) g
          rw [Int.neg_mul_neg] at this
          exact this
        · exact sq_le h la
      omega
    · rw [Int.neg_mul_neg]
      have : a.Hi * a.Hi ≤ a.Lo * a.Lo := by
        rcases Int.lt_or_le a.Hi 0 with h | h
        · have := sq_le (s := -a.Hi) (t := -a.Lo) (by omega) (by omega)
          rw [Int.neg_mul_neg, Int.neg_mul_neg] at this
          exact this
        · have := sq_le (s := a.Hi) (t := -a.Lo) h (by omega)
          rw [Int.neg_mul_neg] at this
          exact this
      omega
  have e1 : (if ((decide (a.Lo ≤ 0)) && (decide (a.Hi ≥ 0))) = true then some (0 : Int) else some (mn (a.Lo * a.Lo) (a.Hi * a.Hi))) = some (sqm a * sqm a) := by
    have hsq : a.Lo ≤ 0 ∧ a.Hi ≥ 0 ∧ sqm a = 0 ∨ 0 < a.Lo ∧ sqm a = a.Lo ∨ a.Hi < 0 ∧ sqm a = -a.Hi := by unfold sqm mx; split <;> split <;> omega
    have m := mnl (a.Lo * a.Lo) (a.Hi * a.Hi)
    rcases hsq with ⟨h1, h2, e⟩ | ⟨h1, e⟩ | ⟨h1, e⟩ <;> rw [e]
    · rw [decide_eq_true h1, decide_eq_true h2]; rfl
    · refine iF (by simp; omega) ?_
      have := sq_le (Int.le_of_lt h1) la
      congr 1; omega
    · refine iF (by simp; omega) ?_
      have := sq_le (s := -a.Hi) (t := -a.Lo) (by omega) (by omega)
      rw [Int.neg_mul_neg] at this ⊢
      rw [Int.neg_mul_neg] at this
      congr 1; omega
  have sb := sq_le2 fa
  have s0 := Int.mul_nonneg (sqm_nn a) (sqm_nn a)
  have mb : mag a * mag a ≤ 2147483648 * 2147483648 := by have := mxl (a.Lo * a.Lo) (a.Hi * a.Hi); omega
  refine bT e1 (bT (rfloor (by omega) (by omega) (by omega) (by omega)) ?_)
  rw [e2]
  exact bT (rceil (by omega) (by omega) (by omega) (by omega)) (bT (refnew_nw (fc (by omega) sb)) rfl)
end Go.Proofs.Ytgccinodonkgjaa
