/- Texts of the plain laws, put together. Own work. -/
import Derived.Test.YtbpgobecpmjaeaaDoorDefs
import Derived.KernelRfl
import Derived.IntWalk
set_option maxRecDepth 10000
set_option linter.unusedVariables false
set_option linter.unusedSimpArgs false
namespace Go.Proofs.YtbpgobecpmjaeaaDoor
open Go
theorem w64 {x : Int} (h1 : -9223372036854775808 ≤ x) (h2 : x ≤ 9223372036854775807) : w_i64 x = x := by
  exact Go.IntWalk.i64_in x ⟨h1, h2⟩
theorem ediv_bounds {a b B : Int} (hb : 0 < b) (h1 : -B ≤ a) (h2 : a ≤ B) : -B ≤ a / b ∧ a / b ≤ B := by
  have hB : 0 ≤ B := by omega
  constructor
  · rw [Int.le_ediv_iff_mul_le hb]
    have : B * 1 ≤ B * b := Int.mul_le_mul_of_nonneg_left (by omega) hB
    have e : -B * b = -(B * b) := Int.neg_mul ..
    omega
  · apply Int.ediv_le_of_le_mul hb
    have : B * 1 ≤ B * b := Int.mul_le_mul_of_nonneg_left (by omega) hB
    omega
def cdiv (a b : Int) : Int := -((-a) / b)
theorem cdiv_le {a b c : Int} (hb : 0 < b) : cdiv a b ≤ c ↔ a ≤ c * b := by
  unfold cdiv
  have : -c ≤ (-a) / b ↔ -c * b ≤ -a := Int.le_ediv_iff_mul_le hb
  rw [Int.neg_mul] at this
  omega
theorem le_fdiv {a b c : Int} (hb : 0 < b) : c ≤ a / b ↔ c * b ≤ a := Int.le_ediv_iff_mul_le hb
theorem tdm (a b : Int) (hb : 0 < b) : (Int.tmod a b < 0 → Int.tdiv a b - 1 = a / b ∧ Int.tmod a b + b = a % b) ∧ (¬ Int.tmod a b < 0 → Int.tdiv a b = a / b ∧ Int.tmod a b = a % b) := by
  have h1 := Int.mul_tdiv_add_tmod a b
  have h2 := Int.tmod_lt_of_pos a hb
  have h3 : -b < Int.tmod a b := by
    have := Int.tmod_lt_of_pos (-a) hb
    rw [Int.neg_tmod] at this
    omega
  have e := fun q r => Int.ediv_emod_unique (a := a) (b := b) (r := r) (q := q) hb
  constructor
  · intro h
    have := (e (Int.tdiv a b - 1) (Int.tmod a b + b)).2 ⟨by rw [Int.mul_sub]; omega, by omega, by omega⟩
    exact ⟨this.1.symm, this.2.symm⟩
  · intro h
    have := (e (Int.tdiv a b) (Int.tmod a b)).2 ⟨by omega, by omega, by omega⟩
    exact ⟨this.1.symm, this.2.symm⟩
theorem cdiv_eq {a b : Int} (hb : 0 < b) : cdiv a b = a / b + mn (a % b) 1 := by
  have h1 := Int.mul_ediv_add_emod a b
  have h2 := Int.emod_nonneg a (by omega : b ≠ 0)
  have h3 := Int.emod_lt_of_pos a hb
  have h5 : mn (a % b) 1 = 0 ∧ a % b = 0 ∨ mn (a % b) 1 = 1 ∧ 1 ≤ a % b := by unfold mn; split <;> omega
  apply Int.le_antisymm
  · rw [cdiv_le hb, Int.add_mul, Int.mul_comm (a / b) b]
    rcases h5 with ⟨h5, h6⟩ | ⟨h5, h6⟩ <;> rw [h5] <;> omega
  · rcases h5 with ⟨h5, h6⟩ | ⟨h5, h6⟩ <;> rw [h5]
    · have := (cdiv_le (a := a) (c := cdiv a b) hb).1 (Int.le_refl _)
      have h7 : a / b ≤ cdiv a b := by
        apply Int.ediv_le_of_le_mul hb this
      omega
    · have h8 : ¬ cdiv a b ≤ a / b := by
        rw [cdiv_le hb, Int.mul_comm]
        omega
      omega
theorem floorCeil_eq {a b : Int} (hb : 0 < b) (ha1 : -4611686018427387904 ≤ a) (ha2 : a ≤ 4611686018427387904) (hb2 : b ≤ 4611686018427387904) : fixed_floorCeil_int64_s68 a b = some (a / b, cdiv a b) := by
  have hq := ediv_bounds hb ha1 ha2
  obtain ⟨t1, t2⟩ := tdm a b hb
  have h2 := Int.emod_nonneg a (by omega : b ≠ 0)
  have h3 := Int.emod_lt_of_pos a hb
  have hc := cdiv_eq (a := a) hb
  have hm : 0 ≤ mn (a % b) 1 ∧ mn (a % b) 1 ≤ 1 := by unfold mn; split <;> omega
  unfold fixed_floorCeil_int64_s68 fixed_divide_1
  rw [if_pos (by omega), if_pos (by omega)]
  by_cases h : Int.tmod a b < 0
  · obtain ⟨e1, e2⟩ := t1 h
    have e3 : w_i64 (Int.tdiv a b) = Int.tdiv a b := w64 (by omega) (by omega)
    have e4 : w_i64 (Int.tdiv a b - 1) = a / b := by rw [e1]; exact w64 (by omega) (by omega)
    have e5 : w_i64 (Int.tmod a b + b) = a % b := by rw [e2]; exact w64 (by omega) (by omega)
    simp only [h, decide_true, if_true, Option.bind_some, e3, e4, e5]
    rw [w64 (by omega) (by omega), ← hc]
  · obtain ⟨e1, e2⟩ := t2 h
    have e3 : w_i64 (Int.tdiv a b) = a / b := by rw [e1]; exact w64 (by omega) (by omega)
    have h' : ¬ a % b < 0 := by omega
    simp only [e2, h', decide_false, Bool.false_eq_true, if_false, Option.bind_some, e3]
    rw [w64 (by omega) (by omega), ← hc]
theorem divide_pos {a b : Int} (hb : 0 < b) (ha1 : -4611686018427387904 ≤ a) (ha2 : a ≤ 4611686018427387904) (hb2 : b ≤ 4611686018427387904) : fixed_divide a b = some (a / b, cdiv a b) := by
  unfold fixed_divide
  rw [if_neg (by simp; omega)]
  simp only [Option.bind_some, floorCeil_eq hb ha1 ha2 hb2]
theorem divide_neg {a b : Int} (hb : b < 0) (ha1 : -4611686018427387904 ≤ a) (ha2 : a ≤ 4611686018427387904) (hb2 : -4611686018427387904 ≤ b) : fixed_divide a b = some ((-a) / (-b), cdiv (-a) (-b)) := by
  unfold fixed_divide
  rw [if_pos (by simp; omega)]
  have e1 : w_i64 (0 - a) = -a := by rw [w64 (by omega) (by omega)]; omega
  have e2 : w_i64 (0 - b) = -b := by rw [w64 (by omega) (by omega)]; omega
  simp only [Option.bind_some, e1, e2, floorCeil_eq (a := -a) (b := -b) (by omega) (by omega) (by omega) (by omega)]
def Wid (x : Int) : Prop := -2147483648 ≤ x ∧ x ≤ 2147483648
theorem prod_bound {x y A B : Int} (hx : -A ≤ x ∧ x ≤ A) (hy : -B ≤ y ∧ y ≤ B) : -(A * B) ≤ x * y ∧ x * y ≤ A * B := by
  have hA : 0 ≤ A := by omega
  have hB : 0 ≤ B := by omega
  have h1 : x.natAbs * y.natAbs ≤ A.natAbs * B.natAbs := Nat.mul_le_mul (by omega) (by omega)
  have h2 : ((x * y).natAbs : Int) ≤ A * B := by
    rw [Int.natAbs_mul]
    have : ((A.natAbs * B.natAbs : Nat) : Int) = A * B := by
      rw [Int.natCast_mul, Int.natAbs_of_nonneg hA, Int.natAbs_of_nonneg hB]
    omega
  omega
theorem mul_eq {x y : Int} (hx : Wid x) (hy : Wid y) : fixed_Mul x y = some (x * y / 65536, cdiv (x * y) 65536) := by
  have := prod_bound (A := 2147483648) (B := 2147483648) hx hy
  unfold fixed_Mul
  rw [w64 (by omega) (by omega), divide_pos (by omega) (by omega) (by omega) (by omega)]
  rfl
theorem div_pos {x y : Int} (hx : Wid x) (hy : Wid y) (h : 0 < y) : fixed_Div x y = some (x * 65536 / y, cdiv (x * 65536) y, 0) := by
  unfold Wid at hx hy
  unfold fixed_Div
  rw [if_neg (by simp; omega), w64 (by omega) (by omega), divide_pos (by omega) (by omega) (by omega) (by omega)]
  rfl
theorem div_neg {x y : Int} (hx : Wid x) (hy : Wid y) (h : y < 0) : fixed_Div x y = some ((-x) * 65536 / (-y), cdiv ((-x) * 65536) (-y), 0) := by
  unfold Wid at hx hy
  unfold fixed_Div
  rw [if_neg (by simp; omega), w64 (by omega) (by omega), divide_neg (by omega) (by omega) (by omega) (by omega), Int.neg_mul]
  rfl
def Ent : TInterval := ⟨-2147483648, 2147483648⟩
def Fin (a : TInterval) : Prop := -2147483648 < a.Lo ∧ a.Lo ≤ a.Hi ∧ a.Hi < 2147483648
def Ok (a : TInterval) : Prop := a = Ent ∨ Fin a
def nw (x y : Int) : TInterval := if x ≤ -2147483648 ∨ y ≥ 2147483648 ∨ x ≥ 2147483648 ∨ y ≤ -2147483648 then Ent else ⟨x, y⟩
theorem Fin.wlo {a : TInterval} (h : Fin a) : Wid a.Lo := by unfold Fin at h; unfold Wid; omega
theorem Fin.whi {a : TInterval} (h : Fin a) : Wid a.Hi := by unfold Fin at h; unfold Wid; omega
theorem isEnt {a : TInterval} : interval_IsEntire a = some (decide (a = Ent)) := by
  simp only [interval_IsEntire, interval_Entire, Option.bind_some, Option.some.injEq]
  obtain ⟨l, h⟩ := a
  simp only [Ent, TInterval.mk.injEq, Bool.decide_and, Bool.and_true]
  rfl
theorem ref_isEnt {a : TInterval} : armillaryref02_IsEntire a = some (decide (a = Ent)) := by
  obtain ⟨l, h⟩ := a
  simp only [armillaryref02_IsEntire, Ent, TInterval.mk.injEq, Bool.decide_and]
  rfl
theorem Fin.ne {a : TInterval} (h : Fin a) : decide (a = Ent) = false := by
  apply decide_eq_false
  rintro rfl
  simp [Fin, Ent] at h
theorem isEnt_fin {a : TInterval} (h : Fin a) : interval_IsEntire a = some false := by rw [isEnt, h.ne]
theorem isEnt_ent : interval_IsEntire Ent = some true := by rw [isEnt]; simp
theorem new_eq (x y : Int) : interval_New x y = some (nw x y) := by
  unfold interval_New nw interval_Entire
  simp only [Option.bind_some]
  by_cases h : x ≤ -2147483648 ∨ y ≥ 2147483648 ∨ x ≥ 2147483648 ∨ y ≤ -2147483648
  · rw [if_pos h, if_pos (by simp; omega)]; rfl
  · rw [if_neg h, if_neg (by simp; omega)]
theorem nw_fin {x y : Int} (h : Fin ⟨x, y⟩) : nw x y = ⟨x, y⟩ := by
  unfold Fin at h
  unfold nw
  simp only at h
  rw [if_neg (by omega)]
theorem nw_ok {x y : Int} (h : x ≤ y) : Ok (nw x y) := by
  unfold nw
  split
  · exact .inl rfl
  · exact .inr (by unfold Fin; simp only; omega)
theorem add_fin {a b : TInterval} (ha : Fin a) (hb : Fin b) : interval_Add a b = some (nw (a.Lo + b.Lo) (a.Hi + b.Hi)) := by
  unfold interval_Add
  rw [isEnt_fin ha, isEnt_fin hb]
  unfold Fin at ha hb
  simp only [Option.bind_some, beq_self_eq_true, if_true, Bool.or_self, Bool.false_eq_true, if_false, new_eq]
  rw [w64 (by omega) (by omega), w64 (by omega) (by omega)]
theorem add_entl (b : TInterval) : interval_Add Ent b = some Ent := by
  unfold interval_Add
  rw [isEnt_ent]
  rfl
theorem add_entr (a : TInterval) : interval_Add a Ent = some Ent := by
  unfold interval_Add
  rw [isEnt, isEnt_ent]
  cases decide (a = Ent) <;> rfl
theorem neg_eq {a : TInterval} (h : Wid a.Lo) (h' : Wid a.Hi) : interval_Neg a = some ⟨-a.Hi, -a.Lo⟩ := by
  unfold Wid at h h'
  unfold interval_Neg
  rw [w64 (by omega) (by omega), w64 (by omega) (by omega)]
  congr 2 <;> omega
theorem Ok.wlo {a : TInterval} (h : Ok a) : Wid a.Lo := by
  rcases h with rfl | h
  · simp [Ent, Wid]
  · exact h.wlo
theorem Ok.whi {a : TInterval} (h : Ok a) : Wid a.Hi := by
  rcases h with rfl | h
  · simp [Ent, Wid]
  · exact h.whi
theorem neg_ok {a : TInterval} (h : Ok a) : interval_Neg a = some ⟨-a.Hi, -a.Lo⟩ := neg_eq h.wlo h.whi
theorem neg_fin {a : TInterval} (h : Fin a) : Fin ⟨-a.Hi, -a.Lo⟩ := by unfold Fin at *; simp only; omega
theorem sub_fin {a b : TInterval} (ha : Fin a) (hb : Fin b) : interval_Sub a b = some (nw (a.Lo - b.Hi) (a.Hi - b.Lo)) := by
  unfold interval_Sub
  rw [neg_eq hb.wlo hb.whi]
  simp only [Option.bind_some, add_fin ha (neg_fin hb)]
  congr 2
theorem bT {α β : Type} {X : Option α} {v : α} {f : α → Option β} {r : Option β} (h : X = some v) (hf : f v = r) : X.bind f = r := by
  subst h
  exact hf
theorem iT {β : Type} {c : Prop} [Decidable c] {X Y : Option β} {r : Option β} (hc : c) (h : X = r) : (if c then X else Y) = r := by
  rw [if_pos hc]
  exact h
theorem iF {β : Type} {c : Prop} [Decidable c] {X Y : Option β} {r : Option β} (hc : ¬ c) (h : Y = r) : (if c then X else Y) = r := by
  rw [if_neg hc]
  exact h
theorem cmpR {x y : Int} (h : x ≤ y) (z : Int) : (z < 0 ∨ x * z ≤ y * z) ∧ (0 < z ∨ y * z ≤ x * z) := by
  constructor
  · rcases Int.lt_or_le z 0 with hz | hz
    · exact .inl hz
    · exact .inr (Int.mul_le_mul_of_nonneg_right h hz)
  · rcases Int.lt_or_le 0 z with hz | hz
    · exact .inl hz
    · exact .inr (Int.mul_le_mul_of_nonpos_right h hz)
theorem cmpL {x y : Int} (h : x ≤ y) (z : Int) : (z < 0 ∨ z * x ≤ z * y) ∧ (0 < z ∨ z * y ≤ z * x) := by
  have := cmpR h z
  rw [Int.mul_comm z x, Int.mul_comm z y]
  exact this
theorem mulR {x y z : Int} (h : x ≤ y) (hz : 0 ≤ z) : x * z ≤ y * z := Int.mul_le_mul_of_nonneg_right h hz
theorem mulRn {x y z : Int} (h : x ≤ y) (hz : z ≤ 0) : y * z ≤ x * z := Int.mul_le_mul_of_nonpos_right h hz
structure Hull (a b : TInterval) (l h : Int) : Prop where
  lo : l ≤ a.Lo * b.Lo ∧ l ≤ a.Lo * b.Hi ∧ l ≤ a.Hi * b.Lo ∧ l ≤ a.Hi * b.Hi
  hi : a.Lo * b.Lo ≤ h ∧ a.Lo * b.Hi ≤ h ∧ a.Hi * b.Lo ≤ h ∧ a.Hi * b.Hi ≤ h
  isl : l = a.Lo * b.Lo ∨ l = a.Lo * b.Hi ∨ l = a.Hi * b.Lo ∨ l = a.Hi * b.Hi
  ish : h = a.Lo * b.Lo ∨ h = a.Lo * b.Hi ∨ h = a.Hi * b.Lo ∨ h = a.Hi * b.Hi
theorem Hull.le {a b : TInterval} {l h : Int} (H : Hull a b l h) : l ≤ h := by
  have := H.lo; have := H.hi; omega
theorem Hull.mem {a b : TInterval} {l h : Int} (H : Hull a b l h) {p q : Int} (hp : a.Lo ≤ p ∧ p ≤ a.Hi) (hq : b.Lo ≤ q ∧ q ≤ b.Hi) : l ≤ p * q ∧ p * q ≤ h := by
  have h1 := H.lo; have h2 := H.hi
  have e1 := cmpR hp.1 q; have e2 := cmpR hp.2 q
  have f1 := cmpL hq.1 a.Lo; have f2 := cmpL hq.2 a.Lo; have f3 := cmpL hq.1 a.Hi; have f4 := cmpL hq.2 a.Hi
  constructor <;> omega
theorem side_eq (a : TInterval) : interval_side a = some (if a.Hi ≤ 0 then 0 else if a.Lo ≥ 0 then 2 else 1) := by
  unfold interval_side
  by_cases h : a.Hi ≤ 0 <;> by_cases h' : a.Lo ≥ 0 <;> simp [h, h']
theorem mn_div (x y : Int) : mn (x / 65536) (y / 65536) = mn x y / 65536 := by unfold mn; split <;> split <;> omega
theorem mx_cdiv (x y : Int) : mx (cdiv x 65536) (cdiv y 65536) = cdiv (mx x y) 65536 := by unfold mx cdiv; split <;> split <;> omega
theorem mul_fin {a b : TInterval} (ha : Fin a) (hb : Fin b) : ∃ l h, interval_Mul a b = some (nw (l / 65536) (cdiv h 65536)) ∧ Hull a b l h := by
  have h1 := ha.2.1
  have h2 := hb.2.1
  have r1 := cmpR h1 b.Lo; have r2 := cmpR h1 b.Hi
  have r3 := cmpL h2 a.Lo; have r4 := cmpL h2 a.Hi
  unfold interval_Mul
  rw [isEnt_fin ha, isEnt_fin hb]
  simp only [Option.bind_some, beq_self_eq_true, if_true, Bool.or_self, Bool.false_eq_true, if_false, side_eq, interval_hh, interval_ll, interval_hl, interval_lh, mul_eq ha.wlo hb.wlo, mul_eq ha.wlo hb.whi, mul_eq ha.whi hb.wlo, mul_eq ha.whi hb.whi, new_eq, mn_div, mx_cdiv]
  by_cases s1 : a.Hi ≤ 0
  · by_cases s2 : b.Hi ≤ 0
    · simp only [s1, s2, if_true]
      refine ⟨a.Hi * b.Hi, a.Lo * b.Lo, rfl, ⟨?_, ?_, ?_, ?_⟩⟩ <;> omega
    · by_cases s3 : b.Lo ≥ 0
      · simp only [s1, s2, s3, if_true, if_false]
        refine ⟨a.Lo * b.Hi, a.Hi * b.Lo, rfl, ⟨?_, ?_, ?_, ?_⟩⟩ <;> omega
      · simp only [s1, s2, s3, if_true, if_false]
        refine ⟨a.Lo * b.Hi, a.Lo * b.Lo, rfl, ⟨?_, ?_, ?_, ?_⟩⟩ <;> omega
  · by_cases s4 : a.Lo ≥ 0
    · by_cases s2 : b.Hi ≤ 0
      · simp only [s1, s4, s2, if_true, if_false]
        refine ⟨a.Hi * b.Lo, a.Lo * b.Hi, rfl, ⟨?_, ?_, ?_, ?_⟩⟩ <;> omega
      · by_cases s3 : b.Lo ≥ 0
        · simp only [s1, s4, s2, s3, if_true, if_false]
          refine ⟨a.Lo * b.Lo, a.Hi * b.Hi, rfl, ⟨?_, ?_, ?_, ?_⟩⟩ <;> omega
        · simp only [s1, s4, s2, s3, if_true, if_false]
          refine ⟨a.Hi * b.Lo, a.Hi * b.Hi, rfl, ⟨?_, ?_, ?_, ?_⟩⟩ <;> omega
    · by_cases s2 : b.Hi ≤ 0
      · simp only [s1, s4, s2, if_true, if_false]
        refine ⟨a.Hi * b.Lo, a.Lo * b.Lo, rfl, ⟨?_, ?_, ?_, ?_⟩⟩ <;> omega
      · by_cases s3 : b.Lo ≥ 0
        · simp only [s1, s4, s2, s3, if_true, if_false]
          refine ⟨a.Lo * b.Hi, a.Hi * b.Hi, rfl, ⟨?_, ?_, ?_, ?_⟩⟩ <;> omega
        · simp only [s1, s4, s2, s3, if_true, if_false]
          refine ⟨mn (a.Lo * b.Hi) (a.Hi * b.Lo), mx (a.Lo * b.Lo) (a.Hi * b.Hi), rfl, ?_⟩
          unfold mn mx
          split <;> split <;> refine ⟨?_, ?_, ?_, ?_⟩ <;> omega
theorem mul_entl (b : TInterval) : interval_Mul Ent b = some Ent := by
  unfold interval_Mul
  rw [isEnt_ent]
  rfl
theorem mul_entr (a : TInterval) : interval_Mul a Ent = some Ent := by
  unfold interval_Mul
  rw [isEnt, isEnt_ent]
  cases decide (a = Ent) <;> rfl
structure DHull (a b : TInterval) (x y u v : Int) : Prop where
  ypos : 0 < y
  vpos : 0 < v
  x_ : x = a.Lo ∨ x = a.Hi
  y_ : y = b.Lo ∨ y = b.Hi
  u_ : u = a.Lo ∨ u = a.Hi
  v_ : v = b.Lo ∨ v = b.Hi
  lo : x * b.Lo ≤ a.Lo * y ∧ x * b.Hi ≤ a.Lo * y ∧ x * b.Lo ≤ a.Hi * y ∧ x * b.Hi ≤ a.Hi * y
  hi : a.Lo * v ≤ u * b.Lo ∧ a.Lo * v ≤ u * b.Hi ∧ a.Hi * v ≤ u * b.Lo ∧ a.Hi * v ≤ u * b.Hi
theorem DHull.mem {a b : TInterval} {x y u v : Int} (H : DHull a b x y u v) {p q : Int} (hp : a.Lo ≤ p ∧ p ≤ a.Hi) (hq : b.Lo ≤ q ∧ q ≤ b.Hi) : x * q ≤ p * y ∧ p * v ≤ u * q := by
  have h1 := H.lo; have h2 := H.hi
  have e1 := cmpL hq.1 x; have e2 := cmpL hq.2 x; have e3 := cmpL hq.1 u; have e4 := cmpL hq.2 u
  have f1 := mulR hp.1 (Int.le_of_lt H.ypos); have f2 := mulR hp.2 (Int.le_of_lt H.vpos)
  constructor <;> omega
theorem frac_mono {a b c d : Int} (hb : 0 < b) (hd : 0 < d) (h : a * d ≤ c * b) : a * 65536 / b ≤ c * 65536 / d := by
  rw [le_fdiv hd]
  have h1 := (le_fdiv (a := a * 65536) (c := a * 65536 / b) hb).1 (Int.le_refl _)
  have h2 : (a * 65536 / b * d) * b ≤ (c * 65536) * b := by
    have e1 : (a * 65536 / b * d) * b = (a * 65536 / b * b) * d := by grind
    have e2 : (a * 65536 / b * b) * d ≤ (a * 65536) * d := mulR h1 (by omega)
    have e3 : (a * 65536) * d = (a * d) * 65536 := by grind
    have e4 : (c * 65536) * b = (c * b) * 65536 := by grind
    omega
  exact Int.le_of_mul_le_mul_right h2 hb
theorem cfrac_mono {a b c d : Int} (hb : 0 < b) (hd : 0 < d) (h : a * d ≤ c * b) : cdiv (a * 65536) b ≤ cdiv (c * 65536) d := by
  rw [cdiv_le hb]
  have h1 := (cdiv_le (a := c * 65536) (c := cdiv (c * 65536) d) hd).1 (Int.le_refl _)
  have h2 : (a * 65536) * d ≤ (cdiv (c * 65536) d * b) * d := by
    have e1 : (cdiv (c * 65536) d * b) * d = (cdiv (c * 65536) d * d) * b := by grind
    have e2 : (c * 65536) * b ≤ (cdiv (c * 65536) d * d) * b := mulR h1 (by omega)
    have e3 : (a * 65536) * d = (a * d) * 65536 := by grind
    have e4 : (c * 65536) * b = (c * b) * 65536 := by grind
    omega
  exact Int.le_of_mul_le_mul_right h2 hd
theorem contains_eq (a : TInterval) (x : Int) : interval_Contains a x = some (decide (a = Ent) || (decide (a.Lo ≤ x) && decide (x ≤ a.Hi))) := by
  unfold interval_Contains
  rw [isEnt]
  rfl
theorem contains_fin {a : TInterval} (h : Fin a) (x : Int) : interval_Contains a x = some (decide (a.Lo ≤ x ∧ x ≤ a.Hi)) := by
  rw [contains_eq, h.ne, Bool.false_or, Bool.decide_and]
def ngv (a : TInterval) : TInterval := ⟨-a.Hi, -a.Lo⟩
theorem div_above {a b : TInterval} (ha : Fin a) (hb : Fin b) (h : 0 < b.Lo) : ∃ x y u v, interval_Div a b = some (nw (x * 65536 / y) (cdiv (u * 65536) v)) ∧ DHull a b x y u v := by
  have h1 := ha.2.1
  have h2 := hb.2.1
  have h3 : 0 < b.Hi := by omega
  have r1 := mulR h1 (Int.le_of_lt h); have r2 := mulR h1 (Int.le_of_lt h3)
  have r3 := cmpL h2 a.Lo; have r4 := cmpL h2 a.Hi
  have c1 := Int.mul_comm b.Lo a.Lo
  unfold interval_Div
  rw [isEnt_fin ha, isEnt_fin hb, contains_fin hb]
  have h4 : decide (b.Lo ≤ 0 ∧ 0 ≤ b.Hi) = false := by apply decide_eq_false; omega
  have h5 : decide (b.Lo > 0) = true := decide_eq_true h
  simp only [Option.bind_some, h4, h5, beq_self_eq_true, if_true, Bool.or_self, Bool.false_eq_true, if_false, side_eq, interval_pick_int, interval_hh, interval_ll, interval_hl, interval_lh, div_pos ha.wlo hb.wlo h, div_pos ha.wlo hb.whi h3, div_pos ha.whi hb.wlo h, div_pos ha.whi hb.whi h3, new_eq]
  by_cases s1 : a.Hi ≤ 0
  · simp only [s1, if_true]
    refine ⟨a.Lo, b.Lo, a.Hi, b.Hi, rfl, ⟨h, h3, .inl rfl, .inl rfl, .inr rfl, .inr rfl, ?_, ?_⟩⟩ <;> omega
  · by_cases s4 : a.Lo ≥ 0
    · simp only [s1, s4, if_true, if_false]
      refine ⟨a.Lo, b.Hi, a.Hi, b.Lo, rfl, ⟨h3, h, .inl rfl, .inr rfl, .inr rfl, .inl rfl, ?_, ?_⟩⟩ <;> omega
    · simp only [s1, s4, if_true, if_false]
      refine ⟨a.Lo, b.Lo, a.Hi, b.Lo, rfl, ⟨h, h, .inl rfl, .inl rfl, .inr rfl, .inl rfl, ?_, ?_⟩⟩ <;> omega
theorem div_below {a b : TInterval} (ha : Fin a) (hb : Fin b) (h3 : b.Hi < 0) : ∃ x y u v, interval_Div a b = some (nw (x * 65536 / y) (cdiv (u * 65536) v)) ∧ DHull (ngv a) (ngv b) x y u v := by
  have h1 := ha.2.1
  have h2 := hb.2.1
  have h : b.Lo < 0 := by omega
  have r1 := mulRn h1 (Int.le_of_lt h); have r2 := mulRn h1 (Int.le_of_lt h3)
  have r3 := cmpL h2 a.Lo; have r4 := cmpL h2 a.Hi
  unfold interval_Div
  rw [isEnt_fin ha, isEnt_fin hb, contains_fin hb]
  have h4 : decide (b.Lo ≤ 0 ∧ 0 ≤ b.Hi) = false := by apply decide_eq_false; omega
  have h5 : decide (b.Lo > 0) = false := decide_eq_false (by omega)
  simp only [Option.bind_some, h4, h5, beq_self_eq_true, if_true, Bool.or_self, Bool.false_eq_true, if_false, side_eq, interval_pick_int, interval_hh, interval_ll, interval_hl, interval_lh, div_neg ha.wlo hb.wlo h, div_neg ha.wlo hb.whi h3, div_neg ha.whi hb.wlo h, div_neg ha.whi hb.whi h3, new_eq]
  by_cases s1 : a.Hi ≤ 0
  · simp only [s1, if_true]
    refine ⟨-a.Hi, -b.Lo, -a.Lo, -b.Hi, rfl, ⟨by omega, by omega, .inl rfl, .inr rfl, .inr rfl, .inl rfl, ?_, ?_⟩⟩ <;> simp only [ngv, Int.neg_mul_neg] <;> omega
  · by_cases s4 : a.Lo ≥ 0
    · simp only [s1, s4, if_true, if_false]
      refine ⟨-a.Hi, -b.Hi, -a.Lo, -b.Lo, rfl, ⟨by omega, by omega, .inl rfl, .inl rfl, .inr rfl, .inr rfl, ?_, ?_⟩⟩ <;> simp only [ngv, Int.neg_mul_neg] <;> omega
    · simp only [s1, s4, if_true, if_false]
      refine ⟨-a.Hi, -b.Hi, -a.Lo, -b.Hi, rfl, ⟨by omega, by omega, .inl rfl, .inl rfl, .inr rfl, .inl rfl, ?_, ?_⟩⟩ <;> simp only [ngv, Int.neg_mul_neg] <;> omega
theorem div_zero {a b : TInterval} (ha : Fin a) (hb : Fin b) (h : b.Lo ≤ 0 ∧ 0 ≤ b.Hi) : interval_Div a b = some Ent := by
  unfold interval_Div
  rw [isEnt_fin ha, isEnt_fin hb, contains_fin hb, decide_eq_true h]
  rfl
theorem div_entl (b : TInterval) : interval_Div Ent b = some Ent := by
  unfold interval_Div
  rw [isEnt_ent]
  rfl
theorem div_entr (a : TInterval) : interval_Div a Ent = some Ent := by
  unfold interval_Div
  rw [isEnt, isEnt_ent]
  cases decide (a = Ent) <;> rfl
def sqm (a : TInterval) : Int := mx (mx a.Lo (-a.Hi)) 0
def mag (a : TInterval) : Int := mx a.Hi (-a.Lo)
theorem mag_eq {a : TInterval} (h : Ok a) : interval_Mag a = some (mag a) := by
  have := h.wlo
  unfold Wid at this
  unfold interval_Mag mag
  rw [w64 (by omega) (by omega)]
  congr 2
  omega
theorem sq_fin {a : TInterval} (h : Fin a) : interval_Square a = some (nw (sqm a * sqm a / 65536) (cdiv (mag a * mag a) 65536)) := by
  unfold interval_Square
  rw [isEnt_fin h, mag_eq (.inr h)]
  have h' := h
  unfold Fin at h'
  have e : w_i64 (0 - a.Hi) = -a.Hi := by rw [w64 (by omega) (by omega)]; omega
  have e1 : Wid (sqm a) := by unfold Wid sqm mx; split <;> split <;> omega
  have e2 : Wid (mag a) := by unfold Wid mag mx; split <;> omega
  simp only [Option.bind_some, Bool.false_eq_true, if_false, e]
  have e3 : mx (mx a.Lo (-a.Hi)) 0 = sqm a := rfl
  simp only [e3, mul_eq e1 e1, mul_eq e2 e2, Option.bind_some, new_eq]
theorem sq_ent : interval_Square Ent = some Ent := by
  unfold interval_Square
  rw [isEnt_ent]
  rfl
theorem sq_mem {a : TInterval} (h : Fin a) {p : Int} (hp : a.Lo ≤ p ∧ p ≤ a.Hi) : sqm a * sqm a ≤ p * p ∧ p * p ≤ mag a * mag a := by
  have h1 : 0 ≤ sqm a ∧ sqm a ≤ p.natAbs := by unfold sqm mx; split <;> split <;> omega
  have h2 : (p.natAbs : Int) ≤ mag a := by unfold mag mx; split <;> omega
  have e : p * p = (p.natAbs : Int) * p.natAbs := Int.natAbs_mul_self.symm
  rw [e]
  exact ⟨Int.mul_le_mul h1.2 h1.2 h1.1 (by omega), Int.mul_le_mul h2 h2 (by omega) (by omega)⟩
theorem tm_bound (x : Int) : -16777216 < Int.tmod x 16777216 ∧ Int.tmod x 16777216 < 16777216 := by
  have h1 := Int.tmod_lt_of_pos x (b := 16777216) (by omega)
  have h2 := Int.tmod_lt_of_pos (-x) (b := 16777216) (by omega)
  rw [Int.neg_tmod] at h2
  omega
instance (a : TInterval) : Decidable (Fin a) := by unfold Fin; infer_instance
instance (a : TInterval) : Decidable (Ok a) := by unfold Ok; infer_instance
theorem valid_eq (a : TInterval) : armillaryref02_Valid a = some (decide (Ok a)) := by
  unfold armillaryref02_Valid armillaryref02_Number
  rw [ref_isEnt]
  by_cases h : a = Ent
  · have : Ok a := .inl h
    simp [h, this, Ok]
  · have e : Ok a ↔ Fin a := by unfold Ok; simp [h]
    rw [show decide (Ok a) = decide (Fin a) from by simp [e]]
    by_cases h1 : -2147483648 < a.Lo ∧ a.Lo < 2147483648 <;> by_cases h2 : -2147483648 < a.Hi ∧ a.Hi < 2147483648 <;> simp [h, Fin, h1, h2]
    all_goals try omega
    all_goals grind
theorem root_loop (k0 : Nat) (a t8 n s : Int) (hn : w_i64 (a * 65536) = n) (hnp : 0 < n) (h0 : 0 ≤ s) (hs1 : s * s ≤ n) (hs2 : n < (s + 1) * (s + 1)) (hn2 : n ≤ 281474976710656) :
    ∀ (k : Nat) (x : Int), 0 < x → s ≤ x → x ≤ 4294967296 → x < k → fixed_Sqrt.l17 k0 a t8 k x = some s
  | 0, x, h1, _, _, h3 => by omega
  | k + 1, x, h1, h2, h4, h3 => by
    unfold fixed_Sqrt.l17
    rw [if_pos (by omega), hn]
    have hn0 : 0 ≤ n := by have := Int.mul_nonneg h0 h0; omega
    have d1 : Int.tdiv n x = n / x := Int.tdiv_eq_ediv_of_nonneg hn0
    have d2 := Int.ediv_nonneg hn0 (Int.le_of_lt h1)
    have d3 : n / x ≤ n := Int.ediv_le_self x hn0
    have e1 : w_i64 (Int.tdiv n x) = n / x := by rw [d1]; exact w64 (by omega) (by omega)
    have e2 : w_i64 (x + n / x) = x + n / x := w64 (by omega) (by omega)
    have d4 : Int.tdiv (x + n / x) 2 = (x + n / x) / 2 := Int.tdiv_eq_ediv_of_nonneg (by omega)
    have e3 : w_i64 (Int.tdiv (x + n / x) 2) = (x + n / x) / 2 := by rw [d4]; exact w64 (by omega) (by omega)
    rw [e1, e2, e3]
    simp only [Option.bind_some]
    have m1 := (le_fdiv (a := n) (c := n / x) h1).1 (Int.le_refl _)
    have m2 : n < (n / x + 1) * x := by
      have := Int.lt_ediv_add_one_mul_self n h1
      exact this
    by_cases hge : (x + n / x) / 2 ≥ x
    · rw [if_pos (by simp; omega)]
      -- x ≤ n / x, hence x * x ≤ n, hence x ≤ s
      have g1 : x ≤ n / x := by omega
      have g2 : x * x ≤ n := by
        have : x * x ≤ n / x * x := mulR g1 (by omega)
        omega
      have g3 : ¬ s + 1 ≤ x := fun h => by
        have : (s + 1) * (s + 1) ≤ x * x := Int.mul_le_mul h h (by omega) (by omega)
        omega
      congr 1
      omega
    · rw [if_neg (by simp; omega)]
      -- the next one is not below the root: (2 s - x) * x ≤ s * s ≤ n
      have g1 : (2 * s - x) * x ≤ s * s := by
        have h5 : 0 ≤ (s - x) * (s - x) := by
          have := Int.natAbs_mul_self (a := s - x)
          omega
        have h6 : (s - x) * (s - x) = s * s - (2 * s - x) * x := by grind
        omega
      have g2 : 2 * s - x ≤ n / x := (le_fdiv h1).2 (by omega)
      have g3 : 0 < (x + n / x) / 2 := by
        have : 1 ≤ x + n / x - 1 ∨ x = 1 := by omega
        rcases this with h5 | h5
        · omega
        · subst h5
          rw [Int.ediv_one] at hge g2 ⊢
          omega
      exact root_loop k0 a t8 n s hn hnp h0 hs1 hs2 hn2 k _ g3 (by omega) (by omega) (by omega)
def lenTab : ByteArray := (⟨#[0, 1, 2, 2, 3, 3, 3, 3, 4, 4, 4, 4, 4, 4, 4, 4, 5, 5, 5, 5, 5, 5, 5, 5, 5, 5, 5, 5, 5, 5, 5, 5, 6, 6, 6, 6, 6, 6, 6, 6, 6, 6, 6, 6, 6, 6, 6, 6, 6, 6, 6, 6, 6, 6, 6, 6, 6, 6, 6, 6, 6, 6, 6, 6, 7, 7, 7, 7, 7, 7, 7, 7, 7, 7, 7, 7, 7, 7, 7, 7, 7, 7, 7, 7, 7, 7, 7, 7, 7, 7, 7, 7, 7, 7, 7, 7, 7, 7, 7, 7, 7, 7, 7, 7, 7, 7, 7, 7, 7, 7, 7, 7, 7, 7, 7, 7, 7, 7, 7, 7, 7, 7, 7, 7, 7, 7, 7, 7, 8, 8, 8, 8, 8, 8, 8, 8, 8, 8, 8, 8, 8, 8, 8, 8, 8, 8, 8, 8, 8, 8, 8, 8, 8, 8, 8, 8, 8, 8, 8, 8, 8, 8, 8, 8, 8, 8, 8, 8, 8, 8, 8, 8, 8, 8, 8, 8, 8, 8, 8, 8, 8, 8, 8, 8, 8, 8, 8, 8, 8, 8, 8, 8, 8, 8, 8, 8, 8, 8, 8, 8, 8, 8, 8, 8, 8, 8, 8, 8, 8, 8, 8, 8, 8, 8, 8, 8, 8, 8, 8, 8, 8, 8, 8, 8, 8, 8, 8, 8, 8, 8, 8, 8, 8, 8, 8, 8, 8, 8, 8, 8, 8, 8, 8, 8, 8, 8, 8, 8, 8, 8, 8, 8, 8, 8, 8, 8]⟩ : ByteArray)
theorem tab_ok {y : Int} (h0 : 0 ≤ y) (h1 : y < 256) : ∃ v : Nat, strAt lenTab (w_u8 y) = some (v : Int) ∧ v ≤ 8 ∧ y < 2 ^ v := by
  have hall : ((List.range 256).all fun i => match strAt lenTab (i : Int) with | some v => decide (0 ≤ v) && decide (v.toNat ≤ 8) && decide ((i : Int) < 2 ^ v.toNat) | none => false) = true := by kernel_rfl
  have h := List.all_eq_true.1 hall y.toNat (List.mem_range.2 (by omega))
  have e : ((y.toNat : Nat) : Int) = y := by omega
  have e2 : w_u8 y = y := Go.IntWalk.u8_in y ⟨h0, by omega⟩
  rw [e2]
  rw [e] at h
  split at h
  · rename_i v hv
    simp only [Bool.and_eq_true, decide_eq_true_eq] at h
    exact ⟨v.toNat, by rw [hv]; congr 1; omega, h.1.2, h.2⟩
  · cases h
theorem fd (x c : Int) (h : 0 < c) : Int.fdiv x c = x / c := Int.fdiv_eq_ediv_of_nonneg _ (Int.le_of_lt h)
theorem pmono {i j : Nat} (h : i ≤ j) : (2 : Int) ^ i ≤ 2 ^ j := by
  have := Nat.pow_le_pow_right (n := 2) (by omega) h
  exact_mod_cast this
theorem pw (v c : Nat) : (2 : Int) ^ (v + c) = 2 ^ v * 2 ^ c := Int.pow_add ..
theorem len64 {n : Int} (h0 : 0 ≤ n) (h1 : n < 18446744073709551616) : ∃ m : Nat, bits_Len64 n = some (m : Int) ∧ m ≤ 64 ∧ n < 2 ^ m := by
  have key : ∀ (y : Int) (c : Nat), 0 ≤ y → y < 256 → c ≤ 56 → (∀ P : Int, y < P → n < P * 2 ^ c) → ∃ m : Nat, ((strAt lenTab (w_u8 y)).bind fun t12 => some (w_i64 ((c : Int) + (w_i64 t12)))) = some (m : Int) ∧ m ≤ 64 ∧ n < 2 ^ m := by
    intro y c g0 g1 g2 g3
    obtain ⟨v, hv, hv8, hlt⟩ := tab_ok g0 g1
    rw [hv]
    refine ⟨v + c, ?_, by omega, ?_⟩
    · simp only [Option.bind_some]
      rw [w64 (x := (v : Int)) (by omega) (by omega), w64 (by omega) (by omega)]
      congr 1
      omega
    · rw [pw]
      exact g3 _ hlt
  unfold bits_Len64
  have f1 := fd n 4294967296 (by omega)
  rw [f1]
  have s16 : ∀ x : Int, Int.fdiv x 65536 = x / 65536 := fun x => fd x _ (by omega)
  have s8 : ∀ x : Int, Int.fdiv x 256 = x / 256 := fun x => fd x _ (by omega)
  have w16 : w_i64 (0 + 16) = 16 := w64 (by omega) (by omega)
  have w48 : w_i64 (32 + 16) = 48 := w64 (by omega) (by omega)
  have w8 : w_i64 (0 + 8) = 8 := w64 (by omega) (by omega)
  have w24 : w_i64 (16 + 8) = 24 := w64 (by omega) (by omega)
  have w40 : w_i64 (32 + 8) = 40 := w64 (by omega) (by omega)
  have w56 : w_i64 (48 + 8) = 56 := w64 (by omega) (by omega)
  by_cases c1 : n ≥ 4294967296
  · rw [if_pos (by simpa using c1)]
    simp only [Option.bind_some]
    by_cases c2 : n / 4294967296 ≥ 65536
    · rw [if_pos (by simpa using c2)]
      simp only [Option.bind_some, s16, w48]
      by_cases c3 : n / 4294967296 / 65536 ≥ 256
      · rw [if_pos (by simpa using c3)]
        simp only [Option.bind_some, s8, w56]
        exact key _ 56 (by omega) (by omega) (by omega) (fun P hP => by simp only [Int.reducePow]; omega)
      · rw [if_neg (by simpa using c3)]
        exact key _ 48 (by omega) (by omega) (by omega) (fun P hP => by simp only [Int.reducePow]; omega)
    · rw [if_neg (by simpa using c2)]
      simp only [Option.bind_some]
      by_cases c3 : n / 4294967296 ≥ 256
      · rw [if_pos (by simpa using c3)]
        simp only [Option.bind_some, s8, w40]
        exact key _ 40 (by omega) (by omega) (by omega) (fun P hP => by simp only [Int.reducePow]; omega)
      · rw [if_neg (by simpa using c3)]
        exact key _ 32 (by omega) (by omega) (by omega) (fun P hP => by simp only [Int.reducePow]; omega)
  · rw [if_neg (by simpa using c1)]
    simp only [Option.bind_some]
    by_cases c2 : n ≥ 65536
    · rw [if_pos (by simpa using c2)]
      simp only [Option.bind_some, s16, w16]
      by_cases c3 : n / 65536 ≥ 256
      · rw [if_pos (by simpa using c3)]
        simp only [Option.bind_some, s8, w24]
        exact key _ 24 (by omega) (by omega) (by omega) (fun P hP => by simp only [Int.reducePow]; omega)
      · rw [if_neg (by simpa using c3)]
        exact key _ 16 (by omega) (by omega) (by omega) (fun P hP => by simp only [Int.reducePow]; omega)
    · rw [if_neg (by simpa using c2)]
      simp only [Option.bind_some]
      by_cases c3 : n ≥ 256
      · rw [if_pos (by simpa using c3)]
        simp only [Option.bind_some, s8, w8]
        exact key _ 8 (by omega) (by omega) (by omega) (fun P hP => by simp only [Int.reducePow]; omega)
      · rw [if_neg (by simpa using c3)]
        exact key _ 0 (by omega) (by omega) (by omega) (fun P hP => by simp only [Int.pow_zero]; omega)
theorem isqrt_nat : ∀ n : Nat, ∃ s : Nat, s * s ≤ n ∧ n < (s + 1) * (s + 1)
  | 0 => ⟨0, by simp⟩
  | n + 1 => by
    obtain ⟨s, h1, h2⟩ := isqrt_nat n
    by_cases h : n + 1 < (s + 1) * (s + 1)
    · exact ⟨s, by omega, h⟩
    · refine ⟨s + 1, by omega, ?_⟩
      have e : (s + 1 + 1) * (s + 1 + 1) = (s + 1) * (s + 1) + 2 * (s + 1) + 1 := by grind
      omega
theorem isqrt {n : Int} (h : 0 ≤ n) : ∃ s : Int, 0 ≤ s ∧ s * s ≤ n ∧ n < (s + 1) * (s + 1) := by
  obtain ⟨s, h1, h2⟩ := isqrt_nat n.toNat
  refine ⟨s, by omega, ?_, ?_⟩
  · have : ((s * s : Nat) : Int) ≤ n := by omega
    simpa using this
  · have : n < (((s + 1) * (s + 1) : Nat) : Int) := by omega
    simpa using this
theorem sq_lt {s t : Int} (hs : 0 ≤ s) (ht : 0 ≤ t) (h : s * s < t * t) : s < t := by
  rcases Int.lt_or_le s t with h1 | h1
  · exact h1
  · have := Int.mul_le_mul h1 h1 ht hs
    omega
theorem sq_le {s t : Int} (hs : 0 ≤ s) (h : s ≤ t) : s * s ≤ t * t := Int.mul_le_mul h h hs (by omega)
structure Root (n s t : Int) : Prop where
  s0 : 0 ≤ s
  le : s * s ≤ n
  lt : n < (s + 1) * (s + 1)
  t_ : t = if s * s < n then s + 1 else s
theorem Root.up {n s t : Int} (h : Root n s t) : n ≤ t * t := by
  have h1 := h.le; have h2 := h.lt; have h3 := h.t_
  split at h3 <;> subst h3 <;> omega
theorem Root.st {n s t : Int} (h : Root n s t) : s ≤ t ∧ t ≤ s + 1 := by
  have h3 := h.t_
  split at h3 <;> omega
theorem Root.low {n s t : Int} (h : Root n s t) : t = 0 ∨ (t - 1) * (t - 1) < n := by
  have h1 := h.le; have h3 := h.t_; have h0 := h.s0
  split at h3
  · right
    have : t - 1 = s := by omega
    rw [this]
    assumption
  · subst h3
    rcases Int.lt_or_le 0 t with h4 | h4
    · right
      have e : (t - 1) * (t - 1) = t * t - 2 * t + 1 := by grind
      omega
    · left; omega
theorem Root.bound {n s t : Int} (h : Root n s t) (hn : n ≤ 140737488355328) : s ≤ 16777216 ∧ t ≤ 16777216 := by
  have h1 := h.le; have h0 := h.s0; have h4 := h.st
  have a : s < 11863284 := sq_lt h0 (by omega) (by omega)
  omega
theorem sqrt_eq {k0 : Nat} (hk : 4294967296 < k0) {a : Int} (h0 : 0 ≤ a) (h1 : a ≤ 2147483648) : ∃ s t, fixed_Sqrt k0 a = some (s, t, 0) ∧ Root (a * 65536) s t := by
  have hn : w_i64 (a * 65536) = a * 65536 := w64 (by omega) (by omega)
  unfold fixed_Sqrt
  rw [if_neg (by simp; omega), hn]
  by_cases hz : a * 65536 = 0
  · rw [if_pos (by simpa using hz), hz]
    exact ⟨0, 0, rfl, ⟨by omega, by omega, by omega, by simp⟩⟩
  · rw [if_neg (by simpa using hz)]
    have hu : w_u64 (a * 65536) = a * 65536 := Go.IntWalk.u64_in _ ⟨by omega, by omega⟩
    obtain ⟨m, hm, hm64, hlt⟩ := len64 (n := a * 65536) (by omega) (by omega)
    rw [hu, hm]
    simp only [Option.bind_some]
    have e1 : w_i64 ((m : Int) + 1) = m + 1 := w64 (by omega) (by omega)
    have e2 : Int.tdiv ((m : Int) + 1) 2 = (m + 1) / 2 := Int.tdiv_eq_ediv_of_nonneg (by omega)
    have e3 : w_i64 (((m : Int) + 1) / 2) = (m + 1) / 2 := w64 (by omega) (by omega)
    rw [e1, e2, e3, if_pos (by omega)]
    have e4 : min (((m : Int) + 1) / 2).toNat 64 = (m + 1) / 2 := by omega
    rw [e4]
    generalize he : (m + 1) / 2 = e
    have p1 : (0 : Int) < 2 ^ e := Int.pow_pos (by omega)
    have p2 : (2 : Int) ^ e ≤ 2 ^ 32 := pmono (by omega)
    have p3 : (2 : Int) ^ m ≤ 2 ^ (e + e) := pmono (by omega)
    rw [pw] at p3
    have p4 : w_i64 (1 * 2 ^ e) = 2 ^ e := by rw [Int.one_mul]; exact w64 (by omega) (by omega)
    rw [p4]
    obtain ⟨s, s0, s1, s2⟩ := isqrt (n := a * 65536) (by omega)
    have s3 : s < 2 ^ e := sq_lt s0 (Int.le_of_lt p1) (by omega)
    rw [root_loop k0 a (m : Int) (a * 65536) s hn (by omega) s0 s1 s2 (by omega) k0 (2 ^ e) p1 (by omega) (by omega) (by omega)]
    simp only [Option.bind_some]
    have b1 : s < 11863284 := sq_lt s0 (by omega) (by omega)
    have b2 : w_i64 (s * s) = s * s := w64 (by have := Int.mul_nonneg s0 s0; omega) (by omega)
    have b3 : w_i64 (s + 1) = s + 1 := w64 (by omega) (by omega)
    rw [b2, b3]
    by_cases hs : s * s < a * 65536
    · rw [if_pos (by simpa using hs)]
      exact ⟨s, s + 1, rfl, ⟨s0, s1, s2, by rw [if_pos hs]⟩⟩
    · rw [if_neg (by simpa using hs)]
      exact ⟨s, s, rfl, ⟨s0, s1, s2, by rw [if_neg hs]⟩⟩
theorem isqrt_fin {k0 : Nat} (hk : 4294967296 < k0) {a : TInterval} (ha : Fin a) (h : 0 ≤ a.Hi) : ∃ s t u v, interval_Sqrt k0 a = some (⟨s, t⟩, true) ∧ Root (mx a.Lo 0 * 65536) s u ∧ Root (a.Hi * 65536) v t ∧ s ≤ t ∧ Fin ⟨s, t⟩ := by
  have ha' := ha
  unfold Fin at ha'
  have hm : 0 ≤ mx a.Lo 0 ∧ mx a.Lo 0 ≤ a.Hi := by unfold mx; split <;> omega
  obtain ⟨s, u, h1, h2⟩ := sqrt_eq hk (a := mx a.Lo 0) (by omega) (by omega)
  obtain ⟨v, t, h3, h4⟩ := sqrt_eq hk (a := a.Hi) (by omega) (by omega)
  have b1 := h2.bound (by omega)
  have b2 := h4.bound (by omega)
  have b0 := h2.s0
  have st : s ≤ t := by
    have c1 := h2.le
    have c2 := h4.up
    have c3 := h4.s0
    have c4 := h4.st
    rcases Int.lt_or_le t s with c5 | c5
    · have : t * t < s * s := by
        have d1 : (t + 1) * (t + 1) ≤ s * s := sq_le (by omega) (by omega)
        have d2 : (t + 1) * (t + 1) = t * t + 2 * t + 1 := by grind
        omega
      omega
    · exact c5
  have hf : Fin ⟨s, t⟩ := by unfold Fin; simp only; omega
  unfold interval_Sqrt
  rw [isEnt_fin ha]
  simp only [Option.bind_some, Bool.false_eq_true, if_false]
  rw [if_neg (by simpa using h), h1, h3]
  simp only [Option.bind_some, new_eq, nw_fin hf]
  exact ⟨s, t, u, v, rfl, h2, h4, st, hf⟩
theorem fc {l h d : Int} (hd : 0 < d) (hl : l ≤ h) : l / d ≤ cdiv h d := by
  have h1 := (cdiv_le (a := h) (c := cdiv h d) hd).1 (Int.le_refl _)
  have h2 := (le_fdiv (a := l) (c := l / d) hd).1 (Int.le_refl _)
  rcases Int.lt_or_le (cdiv h d) (l / d) with h3 | h3
  · have : (cdiv h d + 1) * d ≤ l / d * d := mulR (by omega) (by omega)
    rw [Int.add_mul] at this
    omega
  · exact h3
theorem Ok.b {a : TInterval} (h : Ok a) : -2147483648 ≤ a.Lo ∧ a.Lo ≤ a.Hi ∧ a.Hi ≤ 2147483648 ∧ (a ≠ Ent → -2147483648 < a.Lo ∧ a.Hi < 2147483648) := by
  rcases h with rfl | h
  · simp [Ent]
  · unfold Fin at h
    exact ⟨by omega, by omega, by omega, fun _ => by omega⟩
theorem Ok.ent_of {a : TInterval} (h : Ok a) (h1 : a.Lo ≤ -2147483648 ∨ 2147483648 ≤ a.Hi) : a = Ent := by
  rcases h with h | h
  · exact h
  · unfold Fin at h; omega
theorem mnl (x y : Int) : mn x y ≤ x ∧ mn x y ≤ y ∧ (mn x y = x ∨ mn x y = y) := by unfold mn; split <;> omega
theorem mxl (x y : Int) : x ≤ mx x y ∧ y ≤ mx x y ∧ (mx x y = x ∨ mx x y = y) := by unfold mx; split <;> omega
theorem Fin.le {a : TInterval} (h : Fin a) : a.Lo ≤ a.Hi := h.2.1
theorem add_ok' {a b : TInterval} (ha : Ok a) (hb : Ok b) : ∃ r, interval_Add a b = some r ∧ Ok r := by
  rcases ha with rfl | ha
  · exact ⟨Ent, add_entl _, .inl rfl⟩
  · rcases hb with rfl | hb
    · exact ⟨Ent, add_entr _, .inl rfl⟩
    · exact ⟨_, add_fin ha hb, nw_ok (by have := ha.le; have := hb.le; omega)⟩
theorem sub_entl {b : TInterval} (hb : Ok b) : interval_Sub Ent b = some Ent := by
  unfold interval_Sub
  exact bT (neg_ok hb) (bT (add_entl _) rfl)
theorem sub_entr (a : TInterval) : interval_Sub a Ent = some Ent := by
  unfold interval_Sub
  exact bT (neg_ok (.inl rfl)) (bT (v := Ent) (add_entr a) rfl)
theorem sub_ok {a b : TInterval} (ha : Ok a) (hb : Ok b) : ∃ r, interval_Sub a b = some r ∧ Ok r := by
  rcases ha with rfl | ha
  · exact ⟨Ent, sub_entl hb, .inl rfl⟩
  · rcases hb with rfl | hb
    · exact ⟨Ent, sub_entr _, .inl rfl⟩
    · exact ⟨_, sub_fin ha hb, nw_ok (by have := ha.le; have := hb.le; omega)⟩
theorem mul_ok {a b : TInterval} (ha : Ok a) (hb : Ok b) : ∃ r, interval_Mul a b = some r ∧ Ok r := by
  rcases ha with rfl | ha
  · exact ⟨Ent, mul_entl _, .inl rfl⟩
  · rcases hb with rfl | hb
    · exact ⟨Ent, mul_entr _, .inl rfl⟩
    · obtain ⟨l, h, hm, H⟩ := mul_fin ha hb
      exact ⟨_, hm, nw_ok (fc (by omega) H.le)⟩
theorem DHull.fits {a b : TInterval} {x y u v : Int} (H : DHull a b x y u v) (hb : 0 < b.Lo) : x * 65536 / y ≤ cdiv (u * 65536) v := by
  have h1 := frac_mono H.ypos hb H.lo.1
  have h2 := cfrac_mono hb H.vpos H.hi.1
  have h3 := fc (l := a.Lo * 65536) hb (Int.le_refl _)
  omega
theorem div_ok {a b : TInterval} (ha : Ok a) (hb : Ok b) : ∃ r, interval_Div a b = some r ∧ Ok r := by
  rcases ha with rfl | ha
  · exact ⟨Ent, div_entl _, .inl rfl⟩
  · rcases hb with rfl | hb
    · exact ⟨Ent, div_entr _, .inl rfl⟩
    · rcases Int.lt_or_le 0 b.Lo with h0 | h0
      · obtain ⟨x, y, u, v, hd, D⟩ := div_above ha hb h0
        exact ⟨_, hd, nw_ok (D.fits h0)⟩
      · rcases Int.lt_or_le b.Hi 0 with h1 | h1
        · obtain ⟨x, y, u, v, hd, D⟩ := div_below ha hb h1
          exact ⟨_, hd, nw_ok (D.fits (by simp only [ngv]; omega))⟩
        · exact ⟨Ent, div_zero ha hb ⟨h0, h1⟩, .inl rfl⟩
theorem sq_le2 {a : TInterval} (h : Fin a) : sqm a * sqm a ≤ mag a * mag a := by
  have h1 := sq_mem h (p := a.Lo) ⟨by omega, h.le⟩
  omega
theorem sq_ok {a : TInterval} (ha : Ok a) : ∃ r, interval_Square a = some r ∧ Ok r := by
  rcases ha with rfl | ha
  · exact ⟨Ent, sq_ent, .inl rfl⟩
  · exact ⟨_, sq_fin ha, nw_ok (fc (by omega) (sq_le2 ha))⟩
def Le (a b : TInterval) : Prop := b.Lo ≤ a.Lo ∧ a.Hi ≤ b.Hi
theorem Le.ent {a b : TInterval} (h : Le a b) (hb : Ok b) (e : a = Ent) : b = Ent := by
  subst e
  exact hb.ent_of (.inl h.1)
theorem Le.fin {a b : TInterval} (h : Le a b) (ha : Ok a) (hb : Fin b) : Fin a := by
  rcases ha with rfl | ha
  · unfold Le Ent at h; unfold Fin at hb; simp only at h; omega
  · exact ha
theorem Hull.mono {a b a' b' : TInterval} {l h l' h' : Int} (fa : Fin a) (fb : Fin b) (H : Hull a b l h) (H' : Hull a' b' l' h') (h1 : Le a a') (h2 : Le b b') : l' ≤ l ∧ h ≤ h' := by
  unfold Le at h1 h2
  have la := fa.le; have lb := fb.le
  have i := H.isl; have j := H.ish
  have m1 := H'.mem (p := a.Lo) (q := b.Lo) (by omega) (by omega)
  have m2 := H'.mem (p := a.Lo) (q := b.Hi) (by omega) (by omega)
  have m3 := H'.mem (p := a.Hi) (q := b.Lo) (by omega) (by omega)
  have m4 := H'.mem (p := a.Hi) (q := b.Hi) (by omega) (by omega)
  omega
theorem DHull.mono {a b a' b' : TInterval} {x y u v x' y' u' v' : Int} (la : a.Lo ≤ a.Hi) (lb : b.Lo ≤ b.Hi) (H : DHull a b x y u v) (H' : DHull a' b' x' y' u' v') (h1 : Le a a') (h2 : Le b b') : x' * 65536 / y' ≤ x * 65536 / y ∧ cdiv (u * 65536) v ≤ cdiv (u' * 65536) v' := by
  unfold Le at h1 h2
  have m1 := H'.mem (p := x) (q := y) (by have := H.x_; omega) (by have := H.y_; omega)
  have m2 := H'.mem (p := u) (q := v) (by have := H.u_; omega) (by have := H.v_; omega)
  exact ⟨frac_mono H'.ypos H.ypos m1.1, cfrac_mono H.vpos H'.vpos m2.2⟩
theorem Root.mono {n s t n' s' t' : Int} (h : Root n s t) (h' : Root n' s' t') (hn : n ≤ n') : s ≤ s' ∧ t ≤ t' := by
  constructor
  · have := sq_lt h.s0 (by have := h'.s0; omega) (Int.lt_of_le_of_lt (Int.le_trans h.le hn) h'.lt)
    omega
  · have h1 := h'.up
    have h2 := h'.s0
    have h3 := h'.st
    rcases h.low with h4 | h4
    · omega
    · rcases Int.lt_or_le (t - 1) 0 with h5 | h5
      · omega
      · have := sq_lt h5 (by omega : 0 ≤ t') (by omega)
        omega
theorem ngv_fin {a : TInterval} (h : Fin a) : Fin (ngv a) := neg_fin h
theorem ngv_ok {a : TInterval} (h : Ok a) : Ok (ngv a) := by
  rcases h with rfl | h
  · exact .inl rfl
  · exact .inr (ngv_fin h)
theorem neg_is {a : TInterval} (h : Ok a) : interval_Neg a = some (ngv a) := neg_ok h
def fq (n q : Int) : Int := if 0 < q then n / q else (-n) / (-q)
def cq (n q : Int) : Int := if 0 < q then cdiv n q else cdiv (-n) (-q)
structure Cor (a b : TInterval) (L U : Int) : Prop where
  le : L ≤ U
  lo : L ≤ fq (a.Lo * 65536) b.Lo ∧ L ≤ fq (a.Lo * 65536) b.Hi ∧ L ≤ fq (a.Hi * 65536) b.Lo ∧ L ≤ fq (a.Hi * 65536) b.Hi
  hi : cq (a.Lo * 65536) b.Lo ≤ U ∧ cq (a.Lo * 65536) b.Hi ≤ U ∧ cq (a.Hi * 65536) b.Lo ≤ U ∧ cq (a.Hi * 65536) b.Hi ≤ U
  isl : L = fq (a.Lo * 65536) b.Lo ∨ L = fq (a.Lo * 65536) b.Hi ∨ L = fq (a.Hi * 65536) b.Lo ∨ L = fq (a.Hi * 65536) b.Hi
  ish : U = cq (a.Lo * 65536) b.Lo ∨ U = cq (a.Lo * 65536) b.Hi ∨ U = cq (a.Hi * 65536) b.Lo ∨ U = cq (a.Hi * 65536) b.Hi
theorem fq_pos {n q : Int} (h : 0 < q) : fq n q = n / q := by unfold fq; rw [if_pos h]
theorem cq_pos {n q : Int} (h : 0 < q) : cq n q = cdiv n q := by unfold cq; rw [if_pos h]
theorem fq_neg {p q : Int} (h : q < 0) : fq (p * 65536) q = -p * 65536 / -q := by unfold fq; rw [if_neg (by omega), Int.neg_mul]
theorem cq_neg {p q : Int} (h : q < 0) : cq (p * 65536) q = cdiv (-p * 65536) (-q) := by unfold cq; rw [if_neg (by omega), Int.neg_mul]
theorem Cor.neg {a b : TInterval} {L U : Int} (C : Cor (ngv a) (ngv b) L U) (hb : b.Hi < 0) (lb : b.Lo ≤ b.Hi) : Cor a b L U := by
  have hb' : b.Lo < 0 := by omega
  obtain ⟨c0, c1, c2, c3, c4⟩ := C
  simp only [ngv] at c1 c2 c3 c4
  rw [fq_pos (q := -b.Lo) (by omega), fq_pos (q := -b.Hi) (by omega), fq_pos (q := -b.Lo) (by omega), fq_pos (q := -b.Hi) (by omega)] at c1 c3
  rw [cq_pos (q := -b.Lo) (by omega), cq_pos (q := -b.Hi) (by omega), cq_pos (q := -b.Lo) (by omega), cq_pos (q := -b.Hi) (by omega)] at c2 c4
  refine ⟨c0, ?_, ?_, ?_, ?_⟩
  · rw [fq_neg hb, fq_neg hb', fq_neg hb, fq_neg hb']; omega
  · rw [cq_neg hb, cq_neg hb', cq_neg hb, cq_neg hb']; omega
  · rw [fq_neg hb, fq_neg hb', fq_neg hb, fq_neg hb']; omega
  · rw [cq_neg hb, cq_neg hb', cq_neg hb, cq_neg hb']; omega
end Go.Proofs.YtbpgobecpmjaeaaDoor
set_option maxRecDepth 10000
set_option linter.unusedVariables false
set_option linter.unusedSimpArgs false
namespace Go.Proofs.YtbpgobecpmjaeaaDoor
open Go
inductive Ex where
  | num (c : TInterval)
  | var (n : Int)
  | time
  | neg (e : Ex)
  | sqr (e : Ex)
  | sqrt (e : Ex)
  | bin (op : Int) (a b : Ex)
abbrev Z0 : TInterval := ⟨0, 0⟩
def Ex.code : Ex → List TNode
  | .num c => [⟨1, 0, c⟩]
  | .var n => [⟨2, n, Z0⟩]
  | .time => [⟨3, 0, Z0⟩]
  | .neg e => ⟨4, 0, Z0⟩ :: e.code
  | .sqr e => ⟨5, 0, Z0⟩ :: e.code
  | .sqrt e => ⟨6, 0, Z0⟩ :: e.code
  | .bin op a b => ⟨op, 0, Z0⟩ :: (a.code ++ b.code)
def Ex.ok (n : Int) : Ex → Prop
  | .num c => Ok c
  | .var k => 0 ≤ k ∧ k < n
  | .time => True
  | .neg e => e.ok n
  | .sqr e => e.ok n
  | .sqrt e => e.ok n
  | .bin op a b => (7 ≤ op ∧ op ≤ 10) ∧ a.ok n ∧ b.ok n
def Ex.dep : Ex → Nat
  | .neg e => e.dep + 1
  | .sqr e => e.dep + 1
  | .sqrt e => e.dep + 1
  | .bin _ a b => max a.dep b.dep + 1
  | _ => 1
abbrev K32 : Nat := 4294967296
def sqv (a : TInterval) : Option TInterval := if a.Lo < 0 then some Ent else (interval_Sqrt (K32 + 1) a).map (·.1)
def Ex.ev (x : List TInterval) (t : TInterval) : Ex → Option TInterval
  | .num c => some c
  | .var n => x[n.toNat]?
  | .time => some t
  | .neg e => (e.ev x t).bind interval_Neg
  | .sqr e => (e.ev x t).bind interval_Square
  | .sqrt e => (e.ev x t).bind sqv
  | .bin op a b => (a.ev x t).bind fun u => (b.ev x t).bind fun v => if op = 7 then interval_Add u v else if op = 8 then interval_Sub u v else if op = 9 then interval_Mul u v else interval_Div u v
theorem Root.uniq {n s t s' t' : Int} (h : Root n s t) (h' : Root n s' t') : s = s' ∧ t = t' := by
  have h1 := Root.mono h h' (Int.le_refl _)
  have h2 := Root.mono h' h (Int.le_refl _)
  omega
theorem sqrt_k {a : TInterval} (ha : Ok a) (h0 : 0 ≤ a.Lo) {k : Nat} (hk : K32 < k) : ∃ r, Ok r ∧ interval_Sqrt k a = some (r, true) ∧ interval_Sqrt (K32 + 1) a = some (r, true) := by
  rcases ha with rfl | fa
  · exact absurd h0 (by decide)
  · have h2 : 0 ≤ a.Hi := by have := fa.le; omega
    obtain ⟨s, t, u, v, e1, r1, r2, h3, h4⟩ := isqrt_fin hk fa h2
    obtain ⟨s', t', u', v', e1', r1', r2', h3', h4'⟩ := isqrt_fin (k0 := K32 + 1) (by decide) fa h2
    obtain ⟨rfl, _⟩ := Root.uniq r1 r1'
    obtain ⟨_, rfl⟩ := Root.uniq r2 r2'
    exact ⟨⟨s, t⟩, .inr h4, e1, e1'⟩
theorem sqv_ok {a : TInterval} (ha : Ok a) : ∃ r, sqv a = some r ∧ Ok r := by
  unfold sqv
  by_cases h : a.Lo < 0
  · exact ⟨Ent, by rw [if_pos h], .inl rfl⟩
  · obtain ⟨r, h1, _, h3⟩ := sqrt_k ha (by omega) (k := K32 + 1) (by decide)
    exact ⟨r, by rw [if_neg h, h3]; rfl, h1⟩
structure Env (n : Int) (x : List TInterval) (t : TInterval) : Prop where
  len : (x.length : Int) = n
  ok : ∀ y ∈ x, Ok y
  tok : Ok t
theorem Env.get {n : Int} {x : List TInterval} {t : TInterval} (h : Env n x t) {k : Int} (hk : 0 ≤ k ∧ k < n) : ∃ y, x[k.toNat]? = some y ∧ Ok y := by
  have hlt : k.toNat < x.length := by have := h.len; omega
  exact ⟨x[k.toNat], List.getElem?_eq_getElem hlt, h.ok _ (List.getElem_mem hlt)⟩
theorem bin_ok {op : Int} {u v : TInterval} (hu : Ok u) (hv : Ok v) : ∃ r, (if op = 7 then interval_Add u v else if op = 8 then interval_Sub u v else if op = 9 then interval_Mul u v else interval_Div u v) = some r ∧ Ok r := by
  split
  · exact add_ok' hu hv
  split
  · exact sub_ok hu hv
  split
  · exact mul_ok hu hv
  · exact div_ok hu hv
theorem Ex.ev_ok {n : Int} {x : List TInterval} {t : TInterval} (h : Env n x t) : ∀ e : Ex, e.ok n → ∃ r, e.ev x t = some r ∧ Ok r
  | .num c, he => ⟨c, rfl, he⟩
  | .var k, he => h.get he
  | .time, _ => ⟨t, rfl, h.tok⟩
  | .neg e, he => by
    obtain ⟨r, h1, h2⟩ := Ex.ev_ok h e he
    exact ⟨ngv r, by simp only [Ex.ev, h1, Option.bind_some]; exact neg_is h2, ngv_ok h2⟩
  | .sqr e, he => by
    obtain ⟨r, h1, h2⟩ := Ex.ev_ok h e he
    obtain ⟨q, h3, h4⟩ := sq_ok h2
    exact ⟨q, by simp only [Ex.ev, h1, Option.bind_some]; exact h3, h4⟩
  | .sqrt e, he => by
    obtain ⟨r, h1, h2⟩ := Ex.ev_ok h e he
    obtain ⟨q, h3, h4⟩ := sqv_ok h2
    exact ⟨q, by simp only [Ex.ev, h1, Option.bind_some]; exact h3, h4⟩
  | .bin op a b, he => by
    obtain ⟨u, h1, h2⟩ := Ex.ev_ok h a he.2.1
    obtain ⟨v, h3, h4⟩ := Ex.ev_ok h b he.2.2
    obtain ⟨q, h5, h6⟩ := bin_ok (op := op) h2 h4
    exact ⟨q, by simp only [Ex.ev, h1, h3, Option.bind_some]; exact h5, h6⟩
theorem Ex.code_pos : ∀ e : Ex, 0 < e.code.length
  | .num _ | .var _ | .time | .neg _ | .sqr _ | .sqrt _ | .bin _ _ _ => by simp [Ex.code]
theorem get_mid {pre post : List TNode} {x : TNode} {r : List TNode} {l : List TNode} (hl : l = pre ++ (x :: r) ++ post) : l[((pre.length : Int)).toNat]? = some x := by
  subst hl
  rw [Int.toNat_natCast, List.append_assoc, List.getElem?_append_right (Nat.le_refl _), Nat.sub_self]
  rfl
theorem len_mid {pre post : List TNode} {x : TNode} {r : List TNode} {l : List TNode} (hl : l = pre ++ (x :: r) ++ post) : 0 ≤ (pre.length : Int) ∧ (pre.length : Int) < (l.length : Int) := by
  subst hl
  simp only [List.length_append, List.length_cons]
  omega
theorem Ex.eval {n : Int} {x : List TInterval} {t : TInterval} (h : Env n x t) {l : List TNode} (hlen : l.length < 1000000) : ∀ (e : Ex), e.ok n → ∀ (k : Nat), K32 + e.dep < k → ∀ (pre post : List TNode), l = pre ++ e.code ++ post →
    ∀ r, e.ev x t = some r → ode_Eval_1_m k l (pre.length : Int) x t = some (r, ((pre.length + e.code.length : Nat) : Int)) := by
  intro e
  have hw : ∀ {m : Nat}, m ≤ l.length → w_i64 ((m : Int)) = (m : Int) := fun hm => w64 (by omega) (by omega)
  have hw1 : ∀ {p : Nat}, p + 1 ≤ l.length → w_i64 ((p : Int) + 1) = ((p + 1 : Nat) : Int) := fun h => (w64 (by omega) (by omega)).trans (by omega)
  have hpl : ∀ {pre c post : List TNode}, l = pre ++ c ++ post → pre.length + c.length ≤ l.length := fun e => by rw [e]; simp only [List.length_append]; omega
  induction e with
  | num c =>
    intro he k hk pre post hl r hr
    obtain ⟨k, rfl⟩ : ∃ m, k = m + 1 := ⟨k - 1, by omega⟩
    obtain rfl := Option.some.inj hr
    have hp := hpl hl
    rw [ode_Eval_1_m, ode_Eval_1_m.body, if_pos (len_mid hl), get_mid hl, Option.bind_some, if_pos (by rfl)]
    have : w_i64 ((pre.length : Int) + 1) = ((pre.length + 1 : Nat) : Int) := hw1 hp
    rw [this]; rfl
  | var q =>
    intro he k hk pre post hl r hr
    obtain ⟨k, rfl⟩ : ∃ m, k = m + 1 := ⟨k - 1, by omega⟩
    have hp := hpl hl
    have hq : 0 ≤ q ∧ q < n := he
    have hlx := h.len
    rw [ode_Eval_1_m, ode_Eval_1_m.body, if_pos (len_mid hl), get_mid hl, Option.bind_some, if_neg (by show ¬ ((2 : Int) == 1) = true; decide), if_pos (by rfl), if_pos (by show 0 ≤ q ∧ q < (x.length : Int); omega)]
    have hr' : x[q.toNat]? = some r := hr
    have : w_i64 ((pre.length : Int) + 1) = ((pre.length + 1 : Nat) : Int) := hw1 hp
    show (x[q.toNat]?).bind _ = _
    rw [hr', Option.bind_some, this]; rfl
  | time =>
    intro he k hk pre post hl r hr
    obtain ⟨k, rfl⟩ : ∃ m, k = m + 1 := ⟨k - 1, by omega⟩
    obtain rfl := Option.some.inj hr
    have hp := hpl hl
    rw [ode_Eval_1_m, ode_Eval_1_m.body, if_pos (len_mid hl), get_mid hl, Option.bind_some, if_neg (by show ¬ ((3 : Int) == 1) = true; decide), if_neg (by show ¬ ((3 : Int) == 2) = true; decide), if_pos (by rfl)]
    have : w_i64 ((pre.length : Int) + 1) = ((pre.length + 1 : Nat) : Int) := hw1 hp
    rw [this]; rfl
  | neg e ih =>
    intro he k hk pre post hl r hr
    obtain ⟨k, rfl⟩ : ∃ m, k = m + 1 := ⟨k - 1, by omega⟩
    have hp := hpl hl
    obtain ⟨q, h1, h2⟩ := Ex.ev_ok h e he
    have hr2 : interval_Neg q = some r := by simpa [Ex.ev, h1] using hr
    have hl2 : l = (pre ++ [⟨4, 0, Z0⟩]) ++ e.code ++ post := by rw [hl]; simp [Ex.code]
    have hi := ih he k (by simp only [Ex.dep] at hk; omega) _ post hl2 q h1
    have e1 : w_i64 ((pre.length : Int) + 1) = ((pre.length + 1 : Nat) : Int) := hw1 (by have := Ex.code_pos (.neg e); omega)
    have e2 : ((pre ++ [⟨4, 0, Z0⟩] : List TNode).length : Int) = ((pre.length + 1 : Nat) : Int) := by simp
    rw [e2] at hi
    rw [ode_Eval_1_m, ode_Eval_1_m.body, if_pos (len_mid hl), get_mid hl, Option.bind_some, if_neg (by show ¬ ((4 : Int) == 1) = true; decide), if_neg (by show ¬ ((4 : Int) == 2) = true; decide), if_neg (by show ¬ ((4 : Int) == 3) = true; decide), if_pos (by rfl), e1, hi, Option.bind_some]
    show (interval_Neg q).bind _ = _
    rw [hr2, Option.bind_some]
    simp only [Ex.code, List.length_cons, List.length_append, List.length_nil]
    congr 2; omega
  | sqr e ih =>
    intro he k hk pre post hl r hr
    obtain ⟨k, rfl⟩ : ∃ m, k = m + 1 := ⟨k - 1, by omega⟩
    have hp := hpl hl
    obtain ⟨q, h1, h2⟩ := Ex.ev_ok h e he
    have hr2 : interval_Square q = some r := by simpa [Ex.ev, h1] using hr
    have hl2 : l = (pre ++ [⟨5, 0, Z0⟩]) ++ e.code ++ post := by rw [hl]; simp [Ex.code]
    have hi := ih he k (by simp only [Ex.dep] at hk; omega) _ post hl2 q h1
    have e1 : w_i64 ((pre.length : Int) + 1) = ((pre.length + 1 : Nat) : Int) := hw1 (by have := Ex.code_pos (.sqr e); omega)
    have e2 : ((pre ++ [⟨5, 0, Z0⟩] : List TNode).length : Int) = ((pre.length + 1 : Nat) : Int) := by simp
    rw [e2] at hi
    rw [ode_Eval_1_m, ode_Eval_1_m.body, if_pos (len_mid hl), get_mid hl, Option.bind_some, if_neg (by show ¬ ((5 : Int) == 1) = true; decide), if_neg (by show ¬ ((5 : Int) == 2) = true; decide), if_neg (by show ¬ ((5 : Int) == 3) = true; decide), if_neg (by show ¬ ((5 : Int) == 4) = true; decide), if_pos (by rfl), e1, hi, Option.bind_some]
    show (interval_Square q).bind _ = _
    rw [hr2, Option.bind_some]
    simp only [Ex.code, List.length_cons, List.length_append, List.length_nil]
    congr 2; omega
  | sqrt e ih =>
    intro he k hk pre post hl r hr
    obtain ⟨k, rfl⟩ : ∃ m, k = m + 1 := ⟨k - 1, by omega⟩
    have hp := hpl hl
    obtain ⟨q, h1, h2⟩ := Ex.ev_ok h e he
    have hr2 : sqv q = some r := by simpa [Ex.ev, h1] using hr
    have hl2 : l = (pre ++ [⟨6, 0, Z0⟩]) ++ e.code ++ post := by rw [hl]; simp [Ex.code]
    have hi := ih he k (by simp only [Ex.dep] at hk; omega) _ post hl2 q h1
    have e1 : w_i64 ((pre.length : Int) + 1) = ((pre.length + 1 : Nat) : Int) := hw1 (by have := Ex.code_pos (.sqrt e); omega)
    have e2 : ((pre ++ [⟨6, 0, Z0⟩] : List TNode).length : Int) = ((pre.length + 1 : Nat) : Int) := by simp
    rw [e2] at hi
    rw [ode_Eval_1_m, ode_Eval_1_m.body, if_pos (len_mid hl), get_mid hl, Option.bind_some, if_neg (by show ¬ ((6 : Int) == 1) = true; decide), if_neg (by show ¬ ((6 : Int) == 2) = true; decide), if_neg (by show ¬ ((6 : Int) == 3) = true; decide), if_neg (by show ¬ ((6 : Int) == 4) = true; decide), if_neg (by show ¬ ((6 : Int) == 5) = true; decide), if_pos (by rfl), e1, hi, Option.bind_some]
    by_cases hq : q.Lo < 0
    · rw [sqv, if_pos hq] at hr2
      obtain rfl := Option.some.inj hr2
      rw [if_pos (by simpa using hq)]
      show (some Ent : Option TInterval).bind _ = _
      rw [Option.bind_some]
      simp only [Ex.code, List.length_cons, List.length_append, List.length_nil]
      congr 2; omega
    · rw [sqv, if_neg hq] at hr2
      obtain ⟨r', h3, h4, h5⟩ := sqrt_k h2 (by omega) (k := k) (by simp only [Ex.dep] at hk; omega)
      rw [h5] at hr2
      obtain rfl := Option.some.inj hr2
      rw [if_neg (by simpa using hq)]
      show (interval_Sqrt k q).bind _ = _
      rw [h4, Option.bind_some]
      simp only [Ex.code, List.length_cons, List.length_append, List.length_nil]
      congr 2; omega
  | bin op a b iha ihb =>
    intro he k hk pre post hl r hr
    obtain ⟨k, rfl⟩ : ∃ m, k = m + 1 := ⟨k - 1, by omega⟩
    have hp := hpl hl
    obtain ⟨u, h1, h2⟩ := Ex.ev_ok h a he.2.1
    obtain ⟨v, h3, h4⟩ := Ex.ev_ok h b he.2.2
    have hop : 7 ≤ op ∧ op ≤ 10 := he.1
    have hr2 : (if op = 7 then interval_Add u v else if op = 8 then interval_Sub u v else if op = 9 then interval_Mul u v else interval_Div u v) = some r := by simpa [Ex.ev, h1, h3] using hr
    have hl2 : l = (pre ++ [⟨op, 0, Z0⟩]) ++ a.code ++ (b.code ++ post) := by rw [hl]; simp [Ex.code]
    have hl3 : l = (pre ++ [⟨op, 0, Z0⟩] ++ a.code) ++ b.code ++ post := by rw [hl]; simp [Ex.code]
    have hia := iha he.2.1 k (by simp only [Ex.dep] at hk; omega) _ _ hl2 u h1
    have hib := ihb he.2.2 k (by simp only [Ex.dep] at hk; omega) _ post hl3 v h3
    have e1 : w_i64 ((pre.length : Int) + 1) = ((pre.length + 1 : Nat) : Int) := hw1 (by have := Ex.code_pos (.bin op a b); omega)
    have e2 : (pre ++ [⟨op, 0, Z0⟩] : List TNode).length = pre.length + 1 := by simp
    have e3 : (pre ++ [⟨op, 0, Z0⟩] ++ a.code : List TNode).length = pre.length + 1 + a.code.length := by simp only [List.length_append, List.length_cons, List.length_nil]
    rw [e2] at hia
    rw [e3] at hib
    have hne : ∀ c : Int, c < 7 → ¬ ((op == c) = true) := fun c hc h => by have := eq_of_beq h; omega
    rw [ode_Eval_1_m, ode_Eval_1_m.body, if_pos (len_mid hl), get_mid hl, Option.bind_some, if_neg (hne 1 (by decide)), if_neg (hne 2 (by decide)), if_neg (hne 3 (by decide)), if_neg (hne 4 (by decide)), if_neg (hne 5 (by decide)), if_neg (hne 6 (by decide)), e1, hia, Option.bind_some]
    have hfin : (some (r, ((pre.length + 1 + a.code.length + b.code.length : Nat) : Int)) : Option (TInterval × Int)) = some (r, ((pre.length + (Ex.bin op a b).code.length : Nat) : Int)) := by
      simp only [Ex.code, List.length_cons, List.length_append]
      congr 2; omega
    rw [← hfin, Option.bind_some]
    simp only []
    by_cases c7 : op = 7
    · rw [if_pos c7] at hr2 ⊢
      rw [hib, Option.bind_some]
      show (interval_Add u v).bind _ = _
      rw [hr2]; rfl
    rw [if_neg c7] at hr2 ⊢
    by_cases c8 : op = 8
    · rw [if_pos c8] at hr2 ⊢
      rw [hib, Option.bind_some]
      show (interval_Sub u v).bind _ = _
      rw [hr2]; rfl
    rw [if_neg c8] at hr2 ⊢
    by_cases c9 : op = 9
    · rw [if_pos c9] at hr2 ⊢
      rw [hib, Option.bind_some]
      show (interval_Mul u v).bind _ = _
      rw [hr2]; rfl
    rw [if_neg c9] at hr2 ⊢
    have c10 : op = 10 := by omega
    rw [if_pos c10, hib, Option.bind_some]
    show (interval_Div u v).bind _ = _
    rw [hr2]; rfl
end Go.Proofs.YtbpgobecpmjaeaaDoor
set_option maxRecDepth 10000
set_option linter.unusedVariables false
set_option linter.unusedSimpArgs false
namespace Go.Proofs.YtbpgobecpmjaeaaDoor
open Go
def ar (op : Int) : Option Nat := if 1 ≤ op ∧ op ≤ 3 then some 0 else if 4 ≤ op ∧ op ≤ 6 then some 1 else if 7 ≤ op ∧ op ≤ 10 then some 2 else none
theorem ode_arity_eq (op : Int) : ode_arity op = some (match ar op with | some a => (a : Int) | none => -1) := by
  unfold ode_arity ar
  by_cases h1 : 1 ≤ op ∧ op ≤ 3
  · rw [if_pos (by simpa using h1), if_pos h1]; rfl
  rw [if_neg (by simpa using h1), if_neg h1]
  by_cases h2 : 4 ≤ op ∧ op ≤ 6
  · rw [if_pos (by simpa using h2), if_pos h2]; rfl
  rw [if_neg (by simpa using h2), if_neg h2]
  by_cases h3 : 7 ≤ op ∧ op ≤ 10
  · rw [if_pos (by simpa using h3), if_pos h3]; rfl
  · rw [if_neg (by simpa using h3), if_neg h3]
theorem ar_le {op : Int} {a : Nat} (h : ar op = some a) : a ≤ 2 := by
  unfold ar at h
  split at h
  · injection h with h; omega
  split at h
  · injection h with h; omega
  split at h
  · injection h with h; omega
  · cases h
def run : Nat → List TNode → Option Nat
  | 0, _ => some 0
  | _ + 1, [] => none
  | m + 1, x :: l => match ar x.Op with
    | none => none
    | some a => (run (m + a) l).map (· + 1)
theorem run_code : ∀ (e : Ex) (n : Int), e.ok n → ∀ (m : Nat) (post : List TNode), run (m + 1) (e.code ++ post) = (run m post).map (e.code.length + ·)
  | .num c, n, _, m, post | .var c, n, _, m, post | .time, n, _, m, post => by
    show (run (m + 0) post).map (· + 1) = _
    rw [Nat.add_zero]; congr 1; funext x; exact Nat.add_comm _ _
  | .neg e, n, h, m, post | .sqr e, n, h, m, post | .sqrt e, n, h, m, post => by
    show (run (m + 1) (e.code ++ post)).map (· + 1) = _
    rw [run_code e n h m post]
    cases run m post with
    | none => rfl
    | some k => simp only [Option.map_some, Ex.code, List.length_cons]; congr 1; omega
  | .bin op a b, n, h, m, post => by
    have ho : ar op = some 2 := by
      have := h.1
      unfold ar
      rw [if_neg (by omega), if_neg (by omega), if_pos (by omega)]
    show run (m + 1) (⟨op, 0, Z0⟩ :: (a.code ++ b.code) ++ post) = _
    rw [List.cons_append, run, show ar (⟨op, 0, Z0⟩ : TNode).Op = some 2 from ho]
    show (run (m + 2) _).map (· + 1) = _
    rw [List.append_assoc, show m + 2 = (m + 1) + 1 by omega, run_code a n h.2.1 (m + 1) (b.code ++ post), run_code b n h.2.2 m post]
    cases run m post with
    | none => rfl
    | some k => simp only [Option.map_some, Ex.code, List.length_cons, List.length_append]; congr 1; omega
theorem wk {x : Int} (h1 : -1000000000 ≤ x) (h2 : x ≤ 1000000000) : w_i64 x = x := w64 (by omega) (by omega)
theorem oexpr_loop (l : List TNode) (hl : l.length < 1000) (k0 : Nat) (hv : ∀ x ∈ l, ∃ a, ar x.Op = some a) : ∀ (r : List TNode) (i m k : Nat), l.drop i = r → i + r.length = l.length → r.length < k → m ≤ 2 * i + 1 → ode_exprLen.l8 k0 l k ((m + 1 : Nat) : Int) (i : Int) = some (match run (m + 1) r with | some n => .inl ((i + n : Nat) : Int) | none => .inr ())
  | [], i, m, k, hr, hi, hk, hm => by
    obtain ⟨k, rfl⟩ : ∃ j, k = j + 1 := ⟨k - 1, by omega⟩
    simp only [List.length_nil] at hi
    rw [ode_exprLen.l8, if_neg (by simp; omega), run]
  | x :: r, i, m, k, hr, hi, hk, hm => by
    obtain ⟨k, rfl⟩ : ∃ j, k = j + 1 := ⟨k - 1, by omega⟩
    simp only [List.length_cons] at hi hk
    have hx : l[i]? = some x := by
      have := List.getElem?_drop (xs := l) (i := i) (j := 0)
      rw [hr] at this; simpa using this.symm
    have hd : l.drop (i + 1) = r := by
      have : (l.drop i).drop 1 = r := by rw [hr]; rfl
      rwa [List.drop_drop] at this
    obtain ⟨a, ha⟩ := hv x (List.mem_of_getElem? hx)
    have ha2 := ar_le ha
    rw [ode_exprLen.l8, if_pos (by simp; omega), if_pos (by omega), Int.toNat_natCast, hx, Option.bind_some, ode_arity_eq, ha, Option.bind_some, run, ha]
    dsimp only
    have e1 : w_i64 (((m + 1 : Nat) : Int) + w_i64 ((a : Int) - 1)) = ((m + a : Nat) : Int) := by rw [wk (x := (a : Int) - 1) (by omega) (by omega), wk (by omega) (by omega)]; omega
    have e2 : w_i64 ((i : Int) + 1) = ((i + 1 : Nat) : Int) := by rw [wk (by omega) (by omega)]; omega
    rw [e1, e2]
    cases hma : m + a with
    | zero => rw [if_pos (by simp), run]; rfl
    | succ q =>
      rw [if_neg (by simp; omega), oexpr_loop l hl k0 hv r (i + 1) q k hd (by omega) (by omega) (by omega)]
      cases run (q + 1) r with
      | none => rfl
      | some n => simp only [Option.map_some]; congr 2; omega
theorem oexpr_eq {l : List TNode} (hl : l.length < 1000) {k : Nat} (hk : 1000 < k) (hv : ∀ x ∈ l, ∃ a, ar x.Op = some a) : ode_exprLen k l = some (match run 1 l with | some n => (n : Int) | none => (l.length : Int) + 1) := by
  unfold ode_exprLen
  have := oexpr_loop l hl k hv l 0 0 k (by simp) (by omega) (by omega) (by omega)
  rw [show ((0 + 1 : Nat) : Int) = 1 from rfl, show ((0 : Nat) : Int) = 0 from rfl] at this
  rw [this, Option.bind_some]
  cases run 1 l with
  | none => rw [wk (by omega) (by omega)]
  | some n => simp
end Go.Proofs.YtbpgobecpmjaeaaDoor
set_option maxRecDepth 10000
set_option linter.unusedVariables false
set_option linter.unusedSimpArgs false
namespace Go.Proofs.YtbpgobecpmjaeaaDoor
open Go
def Ex.subs : Ex → List Ex
  | .neg e => [e]
  | .sqr e => [e]
  | .sqrt e => [e]
  | .bin _ a b => [a, b]
  | _ => []
def Ex.op : Ex → Int
  | .num _ => 1
  | .var _ => 2
  | .time => 3
  | .neg _ => 4
  | .sqr _ => 5
  | .sqrt _ => 6
  | .bin op _ _ => op
theorem Ex.head (e : Ex) : ∃ x r, e.code = x :: r ∧ x.Op = e.op ∧ r = (e.subs.map Ex.code).flatten := by
  cases e <;> exact ⟨_, _, rfl, rfl, by simp [Ex.subs]⟩
theorem Ex.arity {n : Int} {e : Ex} (h : e.ok n) : ar e.op = some e.subs.length := by
  cases e with
  | bin op a b =>
    have := h.1
    show ar op = some 2
    unfold ar
    rw [if_neg (show ¬ (1 ≤ op ∧ op ≤ 3) by omega), if_neg (show ¬ (4 ≤ op ∧ op ≤ 6) by omega), if_pos (show 7 ≤ op ∧ op ≤ 10 by omega)]
  | _ => rfl
theorem Ex.subs_ok {n : Int} {e : Ex} (h : e.ok n) : ∀ s ∈ e.subs, s.ok n := by
  cases e <;> intro s hs <;> simp [Ex.subs] at hs
  · subst hs; exact h
  · subst hs; exact h
  · subst hs; exact h
  · rcases hs with rfl | rfl
    · exact h.2.1
    · exact h.2.2
inductive All2 {α β : Type} (R : α → β → Prop) : List α → List β → Prop
  | nil : All2 R [] []
  | cons {a : α} {b : β} {l : List α} {m : List β} (h : R a b) (t : All2 R l m) : All2 R (a :: l) (b :: m)
end Go.Proofs.YtbpgobecpmjaeaaDoor
set_option maxRecDepth 10000
set_option linter.unusedVariables false
set_option linter.unusedSimpArgs false
namespace Go.Proofs.YtbpgobecpmjaeaaDoor
open Go
theorem code_ar {n : Int} : ∀ (e : Ex), e.ok n → ∀ x ∈ e.code, ∃ a, ar x.Op = some a
  | .num _, _, x, hx | .var _, _, x, hx | .time, _, x, hx => by
    obtain rfl := List.mem_singleton.1 hx
    exact ⟨0, rfl⟩
  | .neg e, h, x, hx | .sqr e, h, x, hx | .sqrt e, h, x, hx => by
    rcases List.mem_cons.1 hx with rfl | hx
    · exact ⟨1, rfl⟩
    · exact code_ar e h x hx
  | .bin op a b, h, x, hx => by
    rcases List.mem_cons.1 hx with rfl | hx
    · exact ⟨2, Ex.arity (e := .bin op a b) h⟩
    · rcases List.mem_append.1 hx with hx | hx
      · exact code_ar a h.2.1 x hx
      · exact code_ar b h.2.2 x hx
theorem codes_ar {n : Int} {ss : List Ex} (h : ∀ s ∈ ss, s.ok n) : ∀ x ∈ (ss.map Ex.code).flatten, ∃ a, ar x.Op = some a := fun x hx => by
  obtain ⟨c, hc, hx⟩ := List.mem_flatten.1 hx
  obtain ⟨s, hs, rfl⟩ := List.mem_map.1 hc
  exact code_ar s (h s hs) x hx
theorem oexpr_code {n : Int} {e : Ex} (h : e.ok n) {ss : List Ex} (hs : ∀ s ∈ ss, s.ok n) (hl : (e.code ++ (ss.map Ex.code).flatten).length < 1000) {k : Nat} (hk : 2000 < k) : ode_exprLen k (e.code ++ (ss.map Ex.code).flatten) = some (e.code.length : Int) := by
  rw [oexpr_eq hl (by omega) (fun x hx => (List.mem_append.1 hx).elim (code_ar e h x) (codes_ar hs x))]
  have := run_code e n h 0 (ss.map Ex.code).flatten
  rw [Nat.zero_add, run] at this
  rw [this]; simp
theorem opers_loop {n : Int} {l : List TNode} (hl : l.length < 1000) {k0 : Nat} (hk0 : 2000 < k0) {q : Nat} (t9 : TNode) (hq2 : q ≤ 2) :
    ∀ (ss : List Ex) (pre : List TNode) (acc : List (List TNode)) (j k : Nat), (∀ s ∈ ss, s.ok n) → l = pre ++ (ss.map Ex.code).flatten → j + ss.length = q → ss.length < k → acc.length + ss.length < 1000 → ode_Operands.l14 k0 l t9 (q : Int) k acc (pre.length : Int) (j : Int) = some (acc ++ ss.map Ex.code)
  | [], pre, acc, j, k, _, _, hj, hk, _ => by
    obtain ⟨k, rfl⟩ : ∃ m, k = m + 1 := ⟨k - 1, by omega⟩
    rw [ode_Operands.l14, if_neg (by simp only [decide_eq_true_eq]; simp only [List.length_nil] at hj; omega)]
    simp
  | s :: ss, pre, acc, j, k, hok, hpre, hj, hk, hacc => by
    obtain ⟨k, rfl⟩ : ∃ m, k = m + 1 := ⟨k - 1, by omega⟩
    simp only [List.length_cons] at hj hk hacc
    have hpre' : l = pre ++ (s.code ++ (ss.map Ex.code).flatten) := by rw [hpre]; simp
    have hlen : l.length = pre.length + (s.code ++ (ss.map Ex.code).flatten).length := by rw [hpre', List.length_append]
    have hd : l.drop ((pre.length : Int)).toNat = s.code ++ (ss.map Ex.code).flatten := by rw [Int.toNat_natCast, hpre', List.drop_left]
    have hle : s.code.length ≤ (s.code ++ (ss.map Ex.code).flatten).length := by rw [List.length_append]; omega
    have hw : w_i64 ((pre.length : Int) + (s.code.length : Int)) = ((pre.length + s.code.length : Nat) : Int) := by rw [wk (by omega) (by omega)]; omega
    have hw2 : w_i64 ((j : Int) + 1) = ((j + 1 : Nat) : Int) := by rw [wk (by omega) (by omega)]; omega
    rw [ode_Operands.l14, if_pos (by simp only [decide_eq_true_eq]; omega), if_pos (by omega), hd, oexpr_code (hok s (by simp)) (fun z hz => hok z (by simp [hz])) (by omega) hk0, Option.bind_some, hw, if_pos (by omega), if_pos (by omega), hw2]
    have htk : (l.take (((pre.length + s.code.length : Nat) : Int)).toNat).drop ((pre.length : Int)).toNat = s.code := by
      rw [Int.toNat_natCast, Int.toNat_natCast, hpre', ← List.append_assoc, show pre.length + s.code.length = (pre ++ s.code).length by rw [List.length_append], List.take_left, List.drop_left]
    rw [htk]
    have := opers_loop hl hk0 t9 hq2 ss (pre ++ s.code) (acc ++ [s.code]) (j + 1) k (fun z hz => hok z (by simp [hz])) (by rw [hpre]; simp) (by omega) (by omega) (by simp only [List.length_append, List.length_cons, List.length_nil]; omega)
    rw [List.length_append] at this
    rw [this]; simp
theorem opers_eq {n : Int} {e : Ex} (h : e.ok n) (hl : e.code.length < 1000) {k : Nat} (hk : 2000 < k) : ode_Operands k e.code = some (e.subs.map Ex.code) := by
  obtain ⟨x, r, hx, ho, hr⟩ := e.head
  have hp := e.code_pos
  have hq : e.subs.length ≤ 2 := by cases e <;> simp [Ex.subs]
  have := opers_loop hl hk (n := n) (q := e.subs.length) x hq e.subs [x] [] 0 k (Ex.subs_ok h) (by rw [hx, hr]; rfl) (by omega) (by omega) (by simp only [List.length_nil]; omega)
  rw [show (([x] : List TNode).length : Int) = 1 from rfl, show ((0 : Nat) : Int) = 0 from rfl] at this
  unfold ode_Operands
  refine bT ?_ rfl
  rw [if_pos ⟨by omega, by omega⟩]
  refine bT (v := x) (by rw [hx]; rfl) (bT (ode_arity_eq x.Op) ?_)
  rw [ho, Ex.arity h]
  exact this
end Go.Proofs.YtbpgobecpmjaeaaDoor
set_option maxRecDepth 10000
set_option linter.unusedVariables false
set_option linter.unusedSimpArgs false
namespace Go.Proofs.YtbpgobecpmjaeaaDoor
open Go Go.Sx
def At (ts : List Ex) (a : Int) (e : Ex) : Prop := 0 ≤ a ∧ ts[a.toNat]? = some e
theorem At.mono {ts : List Ex} {a : Int} {e : Ex} (us : List Ex) (h : At ts a e) : At (ts ++ us) a e :=
  ⟨h.1, by
    have hlt : a.toNat < ts.length := (List.getElem?_eq_some_iff.1 h.2).1
    rw [List.getElem?_append_left hlt]; exact h.2⟩
theorem At.fn {ts : List Ex} {a : Int} {e e' : Ex} (h : At ts a e) (h' : At ts a e') : e = e' := Option.some.inj (h.2.symm.trans h'.2)
theorem At.lt {ts : List Ex} {a : Int} {e : Ex} (h : At ts a e) : a < (ts.length : Int) := by
  have hlt : a.toNat < ts.length := (List.getElem?_eq_some_iff.1 h.2).1
  have := h.1; omega
theorem At.mem {ts : List Ex} {a : Int} {e : Ex} (h : At ts a e) : e ∈ ts := List.mem_of_getElem? h.2
theorem At.inj {ts : List Ex} (hn : ts.Nodup) {a b : Int} {e : Ex} (h : At ts a e) (h' : At ts b e) : a = b := by
  have h1 := (List.getElem?_eq_some_iff.1 h.2).1
  have := (List.getElem?_inj h1 hn).1 (h.2.trans h'.2.symm)
  have := h.1; have := h'.1; omega
inductive Ins (n : Int) (ts : List Ex) : TInstruction → Ex → Prop
  | num (c : TInterval) (h : Ok c) : Ins n ts ⟨1, 0, 0, c⟩ (.num c)
  | var (k : Int) (h : 0 ≤ k ∧ k < n) : Ins n ts ⟨2, k, 0, Z0⟩ (.var k)
  | time : Ins n ts ⟨3, 0, 0, Z0⟩ .time
  | neg (a : Int) (e : Ex) (h : At ts a e) : Ins n ts ⟨4, a, 0, Z0⟩ (.neg e)
  | sqr (a : Int) (e : Ex) (h : At ts a e) : Ins n ts ⟨5, a, 0, Z0⟩ (.sqr e)
  | sqrt (a : Int) (e : Ex) (h : At ts a e) : Ins n ts ⟨6, a, 0, Z0⟩ (.sqrt e)
  | bin (op a b : Int) (u v : Ex) (ho : 7 ≤ op ∧ op ≤ 10) (h : At ts a u) (h' : At ts b v) : Ins n ts ⟨op, a, b, Z0⟩ (.bin op u v)
theorem Ins.mono {n : Int} {ts : List Ex} {x : TInstruction} {e : Ex} (us : List Ex) (h : Ins n ts x e) : Ins n (ts ++ us) x e := by
  cases h with
  | num c h => exact .num c h
  | var k h => exact .var k h
  | time => exact .time
  | neg a e h => exact .neg a e (h.mono us)
  | sqr a e h => exact .sqr a e (h.mono us)
  | sqrt a e h => exact .sqrt a e (h.mono us)
  | bin op a b u v ho h h' => exact .bin op a b u v ho (h.mono us) (h'.mono us)
theorem Ins.inj {n : Int} {ts : List Ex} (hn : ts.Nodup) {x y : TInstruction} {e : Ex} (h : Ins n ts x e) (h' : Ins n ts y e) : x = y := by
  cases h with
  | num c h => cases h'; rfl
  | var k h => cases h'; rfl
  | time => cases h'; rfl
  | neg a e h => cases h' with | neg b _ g => rw [h.inj hn g]
  | sqr a e h => cases h' with | sqr b _ g => rw [h.inj hn g]
  | sqrt a e h => cases h' with | sqrt b _ g => rw [h.inj hn g]
  | bin op a b u v ho h1 h2 => cases h' with | bin _ a' b' _ _ _ g1 g2 => rw [h1.inj hn g1, h2.inj hn g2]
theorem Ins.fn {n : Int} {ts : List Ex} {x : TInstruction} {e e' : Ex} (h : Ins n ts x e) (h' : Ins n ts x e') : e = e' := by
  cases h with
  | num c h => cases h' with
    | num => rfl
    | bin _ _ _ _ _ ho => exact absurd ho.1 (by decide)
  | var k h => cases h' with
    | var => rfl
    | bin _ _ _ _ _ ho => exact absurd ho.1 (by decide)
  | time => cases h' with
    | time => rfl
    | bin _ _ _ _ _ ho => exact absurd ho.1 (by decide)
  | neg a e h => cases h' with
    | neg _ _ g => rw [h.fn g]
    | bin _ _ _ _ _ ho => exact absurd ho.1 (by decide)
  | sqr a e h => cases h' with
    | sqr _ _ g => rw [h.fn g]
    | bin _ _ _ _ _ ho => exact absurd ho.1 (by decide)
  | sqrt a e h => cases h' with
    | sqrt _ _ g => rw [h.fn g]
    | bin _ _ _ _ _ ho => exact absurd ho.1 (by decide)
  | bin op a b u v ho h1 h2 => cases h' with
    | num => exact absurd ho.1 (by decide)
    | var => exact absurd ho.1 (by decide)
    | time => exact absurd ho.1 (by decide)
    | neg => exact absurd ho.1 (by decide)
    | sqr => exact absurd ho.1 (by decide)
    | sqrt => exact absurd ho.1 (by decide)
    | bin _ _ _ _ _ _ g1 g2 => rw [h1.fn g1, h2.fn g2]
inductive Tp (n : Int) : List TInstruction → List Ex → Prop
  | nil : Tp n [] []
  | snoc {l : List TInstruction} {ts : List Ex} {x : TInstruction} {e : Ex} (h : Tp n l ts) (i : Ins n ts x e) : Tp n (l ++ [x]) (ts ++ [e])
theorem Tp.len {n : Int} {l : List TInstruction} {ts : List Ex} (h : Tp n l ts) : l.length = ts.length := by
  induction h with
  | nil => rfl
  | snoc h i ih => simp [ih]
theorem Ins.ok {n : Int} {ts : List Ex} {x : TInstruction} {e : Ex} (h : Ins n ts x e) (ht : ∀ e ∈ ts, e.ok n) : e.ok n := by
  cases h with
  | num c h => exact h
  | var k h => exact h
  | time => exact True.intro
  | neg a e h => exact ht e h.mem
  | sqr a e h => exact ht e h.mem
  | sqrt a e h => exact ht e h.mem
  | bin op a b u v ho h h' => exact ⟨ho, ht u h.mem, ht v h'.mem⟩
theorem Tp.ok {n : Int} {l : List TInstruction} {ts : List Ex} (h : Tp n l ts) : ∀ e ∈ ts, e.ok n := by
  induction h with
  | nil => intro e he; cases he
  | snoc h i ih =>
    intro e he
    rcases List.mem_append.1 he with he | he
    · exact ih e he
    · obtain rfl := List.mem_singleton.1 he
      exact i.ok ih
theorem Tp.get {n : Int} {l : List TInstruction} {ts : List Ex} (h : Tp n l ts) {i : Nat} {x : TInstruction} (hx : l[i]? = some x) : ∃ e, ts[i]? = some e ∧ Ins n (ts.take i) x e := by
  induction h with
  | nil => simp at hx
  | @snoc l ts y e h g ih =>
    have hl := h.len
    by_cases hi : i < l.length
    · rw [List.getElem?_append_left hi] at hx
      obtain ⟨e', h1, h2⟩ := ih hx
      exact ⟨e', by rw [List.getElem?_append_left (by omega)]; exact h1, by rw [List.take_append_of_le_length (by omega)]; exact h2⟩
    · have hi2 : i = l.length := by
        have := (List.getElem?_eq_some_iff.1 hx).1
        simp only [List.length_append, List.length_cons, List.length_nil] at this; omega
      subst hi2
      rw [List.getElem?_append_right (Nat.le_refl _), Nat.sub_self] at hx
      obtain rfl := Option.some.inj hx
      rw [hl]
      refine ⟨e, ?_, ?_⟩
      · rw [List.getElem?_append_right (Nat.le_refl _), Nat.sub_self]; rfl
      · rw [List.take_append_of_le_length (Nat.le_refl _), List.take_length]; exact g
theorem Tp.get' {n : Int} {l : List TInstruction} {ts : List Ex} (h : Tp n l ts) {i : Nat} {x : TInstruction} (hx : l[i]? = some x) : ∃ e, ts[i]? = some e ∧ Ins n ts x e := by
  obtain ⟨e, h1, h2⟩ := h.get hx
  refine ⟨e, h1, ?_⟩
  have := h2.mono (ts.drop i)
  rwa [List.take_append_drop] at this
theorem pigeon : ∀ (ts S : List Ex), ts.Nodup → (∀ e ∈ ts, e ∈ S) → ts.length ≤ S.length
  | [], S, _, _ => Nat.zero_le _
  | e :: ts, S, hn, hs => by
    obtain ⟨p, q, rfl⟩ := List.append_of_mem (hs e (by simp))
    have hn' := List.nodup_cons.1 hn
    have := pigeon ts (p ++ q) hn'.2 (fun x hx => by
      have := hs x (by simp [hx])
      simp only [List.mem_append, List.mem_cons] at this ⊢
      rcases this with h | rfl | h
      · exact .inl h
      · exact absurd hx hn'.1
      · exact .inr h)
    simp only [List.length_append, List.length_cons] at this ⊢; omega
theorem mget_nil {T : Type} [DecidableEq T] (x : T) : mget ([] : List (T × Int)) x = none := rfl
theorem mfind_app {T : Type} [DecidableEq T] (x : T) (e : T × Int) : ∀ (l : List (T × Int)) (i : Nat), (mfind x i (l ++ [e])).map (·.2) = if ((mfind x i l).map (·.2)).isSome = true then (mfind x i l).map (·.2) else if x = e.1 then some e.2 else none
  | [], i => by
    simp only [List.nil_append, mfind]
    by_cases h : x = e.1
    · rw [if_pos h, if_pos h]; rfl
    · rw [if_neg h, if_neg h]; rfl
  | y :: l, i => by
    simp only [List.cons_append, mfind]
    by_cases h : x = y.1
    · simp only [if_pos h]; rfl
    · simp only [if_neg h]; exact mfind_app x e l (i + 1)
theorem mget_app {T : Type} [DecidableEq T] (l : List (T × Int)) (e : T × Int) (x : T) : mget (l ++ [e]) x = if (mget l x).isSome = true then mget l x else if x = e.1 then some e.2 else none := mfind_app x e l 0
structure Bd (n : Int) (S : List Ex) (l : List TInstruction) (m : List (TInstruction × Int)) (ts : List Ex) : Prop where
  tp : Tp n l ts
  nd : ts.Nodup
  sub : ∀ e ∈ ts, e ∈ S
  map : ∀ (x : TInstruction) (j : Int), mget m x = some j ↔ 0 ≤ j ∧ l[j.toNat]? = some x
theorem Bd.nil (n : Int) (S : List Ex) : Bd n S [] [] [] := ⟨.nil, List.nodup_nil, fun e he => (by cases he), fun x j => (by simp [mget_nil])⟩
theorem Bd.len {n : Int} {S : List Ex} {l : List TInstruction} {m : List (TInstruction × Int)} {ts : List Ex} (h : Bd n S l m ts) : l.length ≤ S.length := by
  rw [h.tp.len]; exact pigeon ts S h.nd h.sub
theorem Bd.emit {n : Int} {S : List Ex} {l : List TInstruction} {m : List (TInstruction × Int)} {ts : List Ex} (h : Bd n S l m ts) (hS : S.length < 1000000) {x : TInstruction} {e : Ex} (hx : Ins n ts x e) (he : e ∈ S) :
    ∃ j l' m' us, tape_builder_emit_m l m x = some (j, l', m') ∧ Bd n S l' m' (ts ++ us) ∧ At (ts ++ us) j e := by
  have hxx : (⟨x.Op, x.A, x.B, (⟨x.C.Lo, x.C.Hi⟩ : TInterval)⟩ : TInstruction) = x := rfl
  cases hg : mget m x with
  | some j =>
    obtain ⟨h0, hj⟩ := (h.map x j).1 hg
    obtain ⟨e', h1, h2⟩ := h.tp.get' hj
    obtain rfl := hx.fn h2
    refine ⟨j, l, m, [], ?_, by rw [List.append_nil]; exact h, by rw [List.append_nil]; exact ⟨h0, h1⟩⟩
    unfold tape_builder_emit_m
    rw [hxx, hg, Option.bind_some]; rfl
  | none =>
    have hl : l.length < 1000000 := Nat.lt_of_le_of_lt h.len hS
    have hnl : ∀ i : Nat, l[i]? ≠ some x := fun i hi => by
      have := (h.map x (i : Int)).2 ⟨by omega, by rw [Int.toNat_natCast]; exact hi⟩
      rw [hg] at this; cases this
    have hne : e ∉ ts := fun hm => by
      obtain ⟨i, hi⟩ := List.mem_iff_getElem?.1 hm
      have hil : i < l.length := by rw [h.tp.len]; exact (List.getElem?_eq_some_iff.1 hi).1
      obtain ⟨e', h1, h2⟩ := h.tp.get' (List.getElem?_eq_getElem hil)
      obtain rfl : e' = e := Option.some.inj (h1.symm.trans hi)
      have := h2.inj h.nd hx
      exact hnl i (by rw [List.getElem?_eq_getElem hil, this])
    refine ⟨(l.length : Int), l ++ [x], m ++ [(x, (l.length : Int))], [e], ?_, ⟨h.tp.snoc hx, ?_, ?_, ?_⟩, by omega, ?_⟩
    · unfold tape_builder_emit_m
      rw [hxx, hg, Option.bind_some, if_neg (by simp), if_pos hl]; rfl
    · rw [List.nodup_append]
      refine ⟨h.nd, by simp, fun a ha b hb => ?_⟩
      obtain rfl := List.mem_singleton.1 hb
      exact fun hab => hne (hab ▸ ha)
    · intro a ha
      rcases List.mem_append.1 ha with ha | ha
      · exact h.sub a ha
      · obtain rfl := List.mem_singleton.1 ha
        exact he
    · intro y j
      rw [mget_app]
      by_cases hy : (mget m y).isSome = true
      · rw [if_pos hy]
        obtain ⟨i, hi⟩ := Option.isSome_iff_exists.1 hy
        obtain ⟨h0, h1⟩ := (h.map y i).1 hi
        have hlt := (List.getElem?_eq_some_iff.1 h1).1
        rw [h.map y j]
        constructor
        · rintro ⟨g0, g1⟩
          exact ⟨g0, by rw [List.getElem?_append_left (List.getElem?_eq_some_iff.1 g1).1]; exact g1⟩
        · rintro ⟨g0, g1⟩
          refine ⟨g0, ?_⟩
          by_cases hj : j.toNat < l.length
          · rwa [List.getElem?_append_left hj] at g1
          · exfalso
            have hj2 : j.toNat = l.length := by
              have := (List.getElem?_eq_some_iff.1 g1).1
              simp only [List.length_append, List.length_cons, List.length_nil] at this; omega
            rw [hj2, List.getElem?_append_right (Nat.le_refl _), Nat.sub_self] at g1
            obtain rfl := Option.some.inj g1
            exact hnl _ h1
      · rw [if_neg hy]
        have hyn : mget m y = none := by simpa using hy
        have hny : ∀ i : Nat, l[i]? ≠ some y := fun i hi => by
          have := (h.map y (i : Int)).2 ⟨by omega, by rw [Int.toNat_natCast]; exact hi⟩
          rw [hyn] at this; cases this
        by_cases hyx : y = x
        · subst hyx
          rw [if_pos rfl]
          constructor
          · intro hj
            obtain rfl := Option.some.inj hj
            exact ⟨by omega, by rw [Int.toNat_natCast, List.getElem?_append_right (Nat.le_refl _), Nat.sub_self]; rfl⟩
          · rintro ⟨g0, g1⟩
            by_cases hj : j.toNat < l.length
            · rw [List.getElem?_append_left hj] at g1
              exact absurd g1 (hny _)
            · have := (List.getElem?_eq_some_iff.1 g1).1
              simp only [List.length_append, List.length_cons, List.length_nil] at this
              congr 1; show (l.length : Int) = j; omega
        · rw [if_neg hyx]
          refine ⟨fun hc => (by cases hc), ?_⟩
          rintro ⟨g0, g1⟩
          exfalso
          by_cases hj : j.toNat < l.length
          · rw [List.getElem?_append_left hj] at g1
            exact hny _ g1
          · have hj2 : j.toNat = l.length := by
              have := (List.getElem?_eq_some_iff.1 g1).1
              simp only [List.length_append, List.length_cons, List.length_nil] at this; omega
            rw [hj2, List.getElem?_append_right (Nat.le_refl _), Nat.sub_self] at g1
            exact hyx (Option.some.inj g1).symm
    · rw [Int.toNat_natCast, h.tp.len, List.getElem?_append_right (Nat.le_refl _), Nat.sub_self]; rfl
end Go.Proofs.YtbpgobecpmjaeaaDoor
set_option maxRecDepth 10000
set_option linter.unusedVariables false
set_option linter.unusedSimpArgs false
namespace Go.Proofs.YtbpgobecpmjaeaaDoor
open Go Go.Sx
def Cl (S : List Ex) : Prop := ∀ e ∈ S, ∀ s ∈ e.subs, s ∈ S
def Emits (n : Int) (S : List Ex) (e : Ex) (ts : List Ex) (r : Option (Int × List TInstruction × List (TInstruction × Int))) : Prop :=
  ∃ j l' m' us, r = some (j, l', m') ∧ Bd n S l' m' (ts ++ us) ∧ At (ts ++ us) j e
theorem l24_zero {k0 : Nat} {rec} {a0 : List TNode} {l0 : List TInstruction} {m0 : List (TInstruction × Int)} {t4 t7 : TNode} {j9 : Int} {k : Nat} (hk : 0 < k) (l : List TInstruction) (x20 x21 : Int) (m : List (TInstruction × Int)) :
    tape_Compile_1_m.l24 k0 rec a0 l0 m0 t4 t7 j9 [] k l x20 x21 m 0 = some (l, x20, x21, m) := by
  obtain ⟨k, rfl⟩ : ∃ q, k = q + 1 := ⟨k - 1, by omega⟩
  rw [tape_Compile_1_m.l24, if_neg (by decide)]
theorem l24_one {k0 : Nat} {rec} {a0 : List TNode} {l0 : List TInstruction} {m0 : List (TInstruction × Int)} {t4 t7 : TNode} {j9 : Int} {k : Nat} (hk : 1 < k) (c : List TNode) (l : List TInstruction) (x20 x21 : Int) (m : List (TInstruction × Int)) {j : Int} {l' : List TInstruction} {m' : List (TInstruction × Int)} (h : rec c l m = some (j, l', m')) :
    tape_Compile_1_m.l24 k0 rec a0 l0 m0 t4 t7 j9 [c] k l x20 x21 m 0 = some (l', j, x21, m') := by
  obtain ⟨k, rfl⟩ : ∃ q, k = q + 2 := ⟨k - 2, by omega⟩
  rw [tape_Compile_1_m.l24, if_pos (by rfl), if_pos (by show (0:Int) ≤ 0 ∧ (0:Int) < 1; decide)]
  show ((rec c l m).bind _).bind _ = _
  rw [h]
  show tape_Compile_1_m.l24 k0 rec a0 l0 m0 t4 t7 j9 [c] (k + 1) l' j x21 m' (w_i64 (0 + 1)) = _
  rw [tape_Compile_1_m.l24, if_neg (by show ¬ decide (w_i64 (0 + 1) < (1 : Int)) = true; decide)]
theorem l24_two {k0 : Nat} {rec} {a0 : List TNode} {l0 : List TInstruction} {m0 : List (TInstruction × Int)} {t4 t7 : TNode} {j9 : Int} {k : Nat} (hk : 2 < k) (c d : List TNode) (l : List TInstruction) (x20 x21 : Int) (m : List (TInstruction × Int)) {j i : Int} {l' l'' : List TInstruction} {m' m'' : List (TInstruction × Int)} (h : rec c l m = some (j, l', m')) (h' : rec d l' m' = some (i, l'', m'')) :
    tape_Compile_1_m.l24 k0 rec a0 l0 m0 t4 t7 j9 [c, d] k l x20 x21 m 0 = some (l'', j, i, m'') := by
  obtain ⟨k, rfl⟩ : ∃ q, k = q + 3 := ⟨k - 3, by omega⟩
  rw [tape_Compile_1_m.l24, if_pos (by rfl), if_pos (by show (0:Int) ≤ 0 ∧ (0:Int) < 2; decide)]
  show ((rec c l m).bind _).bind _ = _
  rw [h]
  show tape_Compile_1_m.l24 k0 rec a0 l0 m0 t4 t7 j9 [c, d] (k + 2) l' j x21 m' (w_i64 (0 + 1)) = _
  rw [tape_Compile_1_m.l24, if_pos (by rfl), if_pos (by show 0 ≤ w_i64 (0 + 1) ∧ w_i64 (0 + 1) < (2 : Int); decide)]
  show ((rec d l' m').bind _).bind _ = _
  rw [h']
  show tape_Compile_1_m.l24 k0 rec a0 l0 m0 t4 t7 j9 [c, d] (k + 1) l'' j i m'' (w_i64 (w_i64 (0 + 1) + 1)) = _
  rw [tape_Compile_1_m.l24, if_neg (by show ¬ decide (w_i64 (w_i64 (0 + 1) + 1) < (2 : Int)) = true; decide)]
theorem body_eq {k0 : Nat} {rec} {e : Ex} {n : Int} (h : e.ok n) (hl : e.code.length < 1000) (hk : 2000 < k0) {x : TNode} {r : List TNode} (hx : e.code = x :: r) {l : List TInstruction} {m : List (TInstruction × Int)} {l' : List TInstruction} {a b : Int} {m' : List (TInstruction × Int)}
    (hL : tape_Compile_1_m.l24 k0 rec e.code l m x x (if x.Op == 2 then x.N else 0) (e.subs.map Ex.code) k0 l (if x.Op == 2 then x.N else 0) 0 m 0 = some (l', a, b, m')) :
    tape_Compile_1_m.body k0 rec e.code l m = tape_builder_emit_m l' m' ⟨x.Op, a, b, x.C⟩ := by
  have hp : 0 ≤ (0 : Int) ∧ (0 : Int) < (e.code.length : Int) := ⟨by omega, by have := e.code_pos; omega⟩
  have hg : e.code[(0 : Int).toNat]? = some x := by rw [hx]; rfl
  unfold tape_Compile_1_m.body
  refine iT hp (bT hg (iT hp (bT hg ?_)))
  refine bT (v := if x.Op == 2 then x.N else 0) ?_ ?_
  · by_cases h2 : (x.Op == 2) = true
    · rw [if_pos h2, if_pos h2, if_pos hp, hg, Option.bind_some]
    · rw [if_neg h2, if_neg h2]
  · refine bT (v := (l', a, b, m')) (bT (opers_eq h hl hk) hL) ?_
    show (tape_builder_emit_m l' m' ⟨x.Op, a, b, x.C⟩).bind _ = _
    cases tape_builder_emit_m l' m' ⟨x.Op, a, b, x.C⟩ <;> rfl
theorem comp_one {n : Int} {S : List Ex} (hS : S.length < 1000000) (hc : Cl S) : ∀ (e : Ex), e.ok n → e ∈ S → e.code.length < 1000 → ∀ (k : Nat), 2000 + e.dep < k → ∀ {l : List TInstruction} {m : List (TInstruction × Int)} {ts : List Ex}, Bd n S l m ts → Emits n S e ts (tape_Compile_1_m k e.code l m) := by
  have leaf : ∀ (e : Ex) (x : TNode), e.code = [x] → e.subs = [] → e.ok n → e ∈ S → ∀ (k : Nat), 2000 < k → ∀ {l : List TInstruction} {m : List (TInstruction × Int)} {ts : List Ex}, Bd n S l m ts → Ins n ts ⟨x.Op, (if x.Op == 2 then x.N else 0), 0, x.C⟩ e → Emits n S e ts (tape_Compile_1_m.body k (tape_Compile_1_m k) e.code l m) := by
    intro e x hx hs he hm k hk l m ts hb hi
    rw [body_eq he (by rw [hx]; show 1 < 1000; decide) hk hx (by rw [hs]; exact l24_zero (by omega) l _ 0 m)]
    obtain ⟨j, l', m', us, h1, h2, h3⟩ := hb.emit hS hi hm
    exact ⟨j, l', m', us, h1, h2, h3⟩
  have un : ∀ (e c : Ex) (op : Int), e.code = ⟨op, 0, Z0⟩ :: c.code → e.subs = [c] → (op == 2) = false → (∀ (ts : List Ex) (a : Int), At ts a c → Ins n ts ⟨op, a, 0, Z0⟩ e) → e.ok n → e ∈ S → e.code.length < 1000 → ∀ (k : Nat), 2000 < k → (∀ {l : List TInstruction} {m : List (TInstruction × Int)} {ts : List Ex}, Bd n S l m ts → Emits n S c ts (tape_Compile_1_m k c.code l m)) → ∀ {l : List TInstruction} {m : List (TInstruction × Int)} {ts : List Ex}, Bd n S l m ts → Emits n S e ts (tape_Compile_1_m.body k (tape_Compile_1_m k) e.code l m) := by
    intro e c op hx hs ho hi he hm hl k hk ih l m ts hb
    obtain ⟨a, l1, m1, us, h1, h2, h3⟩ := ih hb
    rw [body_eq he hl hk hx (by rw [hs]; exact l24_one (by omega) c.code l _ 0 m h1)]
    obtain ⟨j, l', m', vs, h4, h5, h6⟩ := h2.emit hS (hi _ a h3) hm
    exact ⟨j, l', m', us ++ vs, h4, by rw [← List.append_assoc]; exact h5, by rw [← List.append_assoc]; exact h6⟩
  intro e
  induction e with
  | num c =>
    intro he hm hl k hk l m ts hb
    obtain ⟨k, rfl⟩ : ∃ q, k = q + 1 := ⟨k - 1, by omega⟩
    exact leaf (.num c) ⟨1, 0, c⟩ rfl rfl he hm k (by simp only [Ex.dep] at hk; omega) hb (.num c he)
  | var c =>
    intro he hm hl k hk l m ts hb
    obtain ⟨k, rfl⟩ : ∃ q, k = q + 1 := ⟨k - 1, by omega⟩
    exact leaf (.var c) ⟨2, c, Z0⟩ rfl rfl he hm k (by simp only [Ex.dep] at hk; omega) hb (.var c he)
  | time =>
    intro he hm hl k hk l m ts hb
    obtain ⟨k, rfl⟩ : ∃ q, k = q + 1 := ⟨k - 1, by omega⟩
    exact leaf .time ⟨3, 0, Z0⟩ rfl rfl he hm k (by simp only [Ex.dep] at hk; omega) hb .time
  | neg c ih =>
    intro he hm hl k hk l m ts hb
    obtain ⟨k, rfl⟩ : ∃ q, k = q + 1 := ⟨k - 1, by omega⟩
    simp only [Ex.dep] at hk
    have hl' : c.code.length < 1000 := by simp only [Ex.code, List.length_cons] at hl; omega
    exact un (.neg c) c 4 rfl rfl rfl (fun ts a h => .neg a c h) he hm hl k (by omega) (fun hb => ih he (hc _ hm c (by simp [Ex.subs])) hl' k (by omega) hb) hb
  | sqr c ih =>
    intro he hm hl k hk l m ts hb
    obtain ⟨k, rfl⟩ : ∃ q, k = q + 1 := ⟨k - 1, by omega⟩
    simp only [Ex.dep] at hk
    have hl' : c.code.length < 1000 := by simp only [Ex.code, List.length_cons] at hl; omega
    exact un (.sqr c) c 5 rfl rfl rfl (fun ts a h => .sqr a c h) he hm hl k (by omega) (fun hb => ih he (hc _ hm c (by simp [Ex.subs])) hl' k (by omega) hb) hb
  | sqrt c ih =>
    intro he hm hl k hk l m ts hb
    obtain ⟨k, rfl⟩ : ∃ q, k = q + 1 := ⟨k - 1, by omega⟩
    simp only [Ex.dep] at hk
    have hl' : c.code.length < 1000 := by simp only [Ex.code, List.length_cons] at hl; omega
    exact un (.sqrt c) c 6 rfl rfl rfl (fun ts a h => .sqrt a c h) he hm hl k (by omega) (fun hb => ih he (hc _ hm c (by simp [Ex.subs])) hl' k (by omega) hb) hb
  | bin op c d ihc ihd =>
    intro he hm hl k hk l m ts hb
    obtain ⟨k, rfl⟩ : ∃ q, k = q + 1 := ⟨k - 1, by omega⟩
    simp only [Ex.dep] at hk
    have hlc : c.code.length < 1000 := by simp only [Ex.code, List.length_cons, List.length_append] at hl; omega
    have hld : d.code.length < 1000 := by simp only [Ex.code, List.length_cons, List.length_append] at hl; omega
    obtain ⟨a, l1, m1, us, h1, h2, h3⟩ := ihc he.2.1 (hc _ hm c (by simp [Ex.subs])) hlc k (by omega) hb
    obtain ⟨b, l2, m2, vs, h4, h5, h6⟩ := ihd he.2.2 (hc _ hm d (by simp [Ex.subs])) hld k (by omega) h2
    obtain ⟨j, l', m', ws, h7, h8, h9⟩ := h5.emit hS (.bin op a b c d he.1 (h3.mono vs) h6) hm
    refine ⟨j, l', m', us ++ (vs ++ ws), ?_, by simpa using h8, by simpa using h9⟩
    show tape_Compile_1_m.body k (tape_Compile_1_m k) (Ex.bin op c d).code l m = _
    have ho : ((⟨op, 0, Z0⟩ : TNode).Op == 2) = false := by have := he.1; simp; omega
    rw [body_eq (e := .bin op c d) he hl (by omega) rfl (l24_two (by omega) c.code d.code l _ 0 m h1 h4)]
    exact h7
abbrev Outs (ts : List Ex) : List Int → List Ex → Prop := All2 (At ts)
theorem All2.app {α β : Type} {R : α → β → Prop} {l : List α} {m : List β} {a : α} {b : β} (h : All2 R l m) (hr : R a b) : All2 R (l ++ [a]) (m ++ [b]) := by
  induction h with
  | nil => exact .cons hr .nil
  | cons g t ih => exact .cons g ih
theorem All2.imp {α β : Type} {R Q : α → β → Prop} (hq : ∀ a b, R a b → Q a b) {l : List α} {m : List β} (h : All2 R l m) : All2 Q l m := by
  induction h with
  | nil => exact .nil
  | cons g t ih => exact .cons (hq _ _ g) ih
theorem All2.len {α β : Type} {R : α → β → Prop} {l : List α} {m : List β} (h : All2 R l m) : l.length = m.length := by
  induction h with
  | nil => rfl
  | cons g t ih => simp [ih]
theorem Outs.mono {ts us : List Ex} {o : List Int} {es : List Ex} (h : Outs ts o es) : Outs (ts ++ us) o es := h.imp fun _ _ g => g.mono us
theorem comp_loop {n : Int} {S : List Ex} (hS : S.length < 1000000) (hc : Cl S) {k0 : Nat} (hk0 : 4000 < k0) (s : TSystem) {es : List Ex} (hF : s.F = es.map Ex.code) (hel : es.length < 1000) (hes : ∀ e ∈ es, e.ok n ∧ e ∈ S ∧ e.code.length < 1000 ∧ e.dep ≤ 1000) :
    ∀ (r p : List Ex) (o : List Int) (k : Nat) {l : List TInstruction} {m : List (TInstruction × Int)} {ts : List Ex}, es = p ++ r → r.length < k → Bd n S l m ts → Outs ts o p → ∃ l' o' m' ts', tape_Compile.l20 k0 s k l o m (p.length : Int) = some (l', o', m') ∧ Bd n S l' m' ts' ∧ Outs ts' o' es
  | [], p, o, k, l, m, ts, hp, hk, hb, ho => by
    obtain ⟨k, rfl⟩ : ∃ q, k = q + 1 := ⟨k - 1, by omega⟩
    rw [List.append_nil] at hp
    subst hp
    exact ⟨l, o, m, ts, by rw [tape_Compile.l20, if_neg (by rw [hF]; simp)], hb, ho⟩
  | e :: r, p, o, k, l, m, ts, hp, hk, hb, ho => by
    obtain ⟨k, rfl⟩ : ∃ q, k = q + 1 := ⟨k - 1, by omega⟩
    simp only [List.length_cons] at hk
    have hpl : p.length + (r.length + 1) = es.length := by rw [hp]; simp
    have hFl : s.F.length = es.length := by rw [hF]; simp
    have hin : 0 ≤ (p.length : Int) ∧ (p.length : Int) < (s.F.length : Int) := by omega
    have hg : s.F[((p.length : Int)).toNat]? = some e.code := by rw [hF, Int.toNat_natCast, List.getElem?_map, hp, List.getElem?_append_right (Nat.le_refl _), Nat.sub_self]; rfl
    obtain ⟨h1, h2, h3, h4⟩ := hes e (by rw [hp]; simp)
    obtain ⟨j, l', m', us, g1, g2, g3⟩ := comp_one hS hc e h1 h2 h3 k0 (by omega) hb
    have hol := ho.len
    rw [tape_Compile.l20, if_pos (by simpa using hin.2), if_pos hin, hg, Option.bind_some, g1, Option.bind_some, if_pos (by omega), wk (by omega) (by omega)]
    have := comp_loop hS hc hk0 s hF hel hes r (p ++ [e]) (o ++ [j]) k (by rw [hp]; simp) (by omega) g2 ((Outs.mono ho).app g3)
    rw [List.length_append] at this
    exact this
theorem comp_eq {n : Int} {S : List Ex} (hS : S.length ≤ 400) (hc : Cl S) {k : Nat} (hk : 4000 < k) (s : TSystem) {es : List Ex} (hF : s.F = es.map Ex.code) (hel : es.length < 1000) (hes : ∀ e ∈ es, e.ok n ∧ e ∈ S ∧ e.code.length < 1000 ∧ e.dep ≤ 1000) :
    ∃ N l o ts, tape_Compile k s = some ⟨N, l, o⟩ ∧ Tp n l ts ∧ Outs ts o es ∧ l.length ≤ 400 := by
  obtain ⟨l, o, m, ts, h1, h2, h3⟩ := comp_loop (n := n) (by omega) hc hk s hF hel hes es [] [] k rfl (by omega) (Bd.nil n S) .nil
  refine ⟨(s.F.length : Int), l, o, ts, ?_, h2.tp, h3, Nat.le_trans h2.len hS⟩
  unfold tape_Compile
  refine bT h1 ?_
  have := h2.len
  exact iF (by simp only [decide_eq_true_eq]; show ¬ ((l.length : Int) > 400); omega) rfl
end Go.Proofs.YtbpgobecpmjaeaaDoor
set_option maxRecDepth 10000
set_option linter.unusedVariables false
set_option linter.unusedSimpArgs false
namespace Go.Proofs.YtbpgobecpmjaeaaDoor
open Go Go.Sx
theorem tar_one {k : Nat} {op : Int} (h : op = 4 ∨ op = 5 ∨ op = 6) : tape_arity k op = some 1 := by
  rcases h with rfl | rfl | rfl <;> rfl
theorem tar_two {k : Nat} {op : Int} (h : 7 ≤ op ∧ op ≤ 10) : tape_arity k op = some 2 := by
  rcases (show op = 7 ∨ op = 8 ∨ op = 9 ∨ op = 10 by omega) with rfl | rfl | rfl | rfl <;> rfl
def Kn (T0 ts : List Ex) (kn : List (Int × Int)) : Prop := ∀ i j, mget kn i = some j → ∃ e, At T0 i e ∧ At ts j e
theorem Kn.mono {T0 ts : List Ex} {kn : List (Int × Int)} (us : List Ex) (h : Kn T0 ts kn) : Kn T0 (ts ++ us) kn := fun i j hi => by
  obtain ⟨e, h1, h2⟩ := h i j hi
  exact ⟨e, h1, h2.mono us⟩
theorem Kn.add {T0 ts : List Ex} {kn : List (Int × Int)} (h : Kn T0 ts kn) {i j : Int} {e : Ex} (h1 : At T0 i e) (h2 : At ts j e) : Kn T0 ts (kn ++ [(i, j)]) := fun a b ha => by
  rw [mget_app] at ha
  by_cases hs : (mget kn a).isSome = true
  · rw [if_pos hs] at ha
    exact h a b ha
  · rw [if_neg hs] at ha
    by_cases hai : a = i
    · subst hai
      rw [if_pos rfl] at ha
      obtain rfl := Option.some.inj ha
      exact ⟨e, h1, h2⟩
    · rw [if_neg hai] at ha; cases ha
abbrev OptR := Option (List TInstruction × Int × (List (Int × Int)) × (List (TInstruction × Int)))
theorem opt_body {k0 : Nat} {rec} {i : Int} {kn : List (Int × Int)} {c : TTape} {l : List TInstruction} {m : List (TInstruction × Int)} {x : TInstruction} (hno : mget kn i = none) (hi : 0 ≤ i ∧ i < (c.L.length : Int)) (hx : c.L[i.toNat]? = some x)
    {l1 l2 l3 : List TInstruction} {m1 m2 m3 : List (TInstruction × Int)} {kn1 kn2 : List (Int × Int)} {a b j : Int}
    (hA : ((tape_arity k0 x.Op).bind fun t28 => if (decide (t28 > 0)) = true then (rec x.A kn c l m).bind fun (t30 : Int × List TInstruction × (List (Int × Int)) × (List (TInstruction × Int))) => some (t30.2.1, t30.1, t30.2.2.1, t30.2.2.2) else some (l, x.A, kn, m) : OptR) = some (l1, a, kn1, m1))
    (hB : ((tape_arity k0 x.Op).bind fun t23 => if (decide (t23 > 1)) = true then (rec x.B kn1 c l1 m1).bind fun (t25 : Int × List TInstruction × (List (Int × Int)) × (List (TInstruction × Int))) => some (t25.2.1, t25.1, t25.2.2.1, t25.2.2.2) else some (l1, x.B, kn1, m1) : OptR) = some (l2, b, kn2, m2))
    (hE : tape_builder_emit_m l2 m2 ⟨x.Op, a, b, x.C⟩ = some (j, l3, m3)) (hn2 : mget kn2 i = none) :
    tape_Optimize_1_m.body k0 rec i kn c l m = some (j, l3, kn2 ++ [(i, j)], m3) := by
  unfold tape_Optimize_1_m.body
  refine iF (by rw [hno]; simp) (iT hi (bT hx (bT hA (bT hB (bT hE ?_)))))
  refine iT (by rw [hn2]; rfl) ?_
  show some ((mget (kn2 ++ [(i, j)]) i).getD 0, l3, kn2 ++ [(i, j)], m3) = _
  rw [mget_app, hn2, if_neg (by simp), if_pos rfl]; rfl
theorem opt_one {n : Int} {c : TTape} {T0 : List Ex} (hT : Tp n c.L T0) (hS : T0.length < 1000000) : ∀ (i : Nat) (e : Ex), T0[i]? = some e → ∀ (k : Nat), i < k → ∀ {kn : List (Int × Int)} {l : List TInstruction} {m : List (TInstruction × Int)} {ts : List Ex}, Bd n T0 l m ts → Kn T0 ts kn →
    ∃ j l' kn' m' us, tape_Optimize_1_m k (i : Int) kn c l m = some (j, l', kn', m') ∧ Bd n T0 l' m' (ts ++ us) ∧ Kn T0 (ts ++ us) kn' ∧ At (ts ++ us) j e ∧ ∀ q : Int, (i : Int) < q → mget kn' q = mget kn q := by
  intro i
  induction i using Nat.strongRecOn with
  | _ i ih =>
  intro e he k hk kn l m ts hb hkn
  obtain ⟨k, rfl⟩ : ∃ q, k = q + 1 := ⟨k - 1, by omega⟩
  have hiT : i < T0.length := (List.getElem?_eq_some_iff.1 he).1
  have hiL : i < c.L.length := by rw [hT.len]; exact hiT
  have hAi : At T0 (i : Int) e := ⟨by omega, by rw [Int.toNat_natCast]; exact he⟩
  rw [tape_Optimize_1_m]
  cases hno : mget kn (i : Int) with
  | some j =>
    obtain ⟨e', h1, h2⟩ := hkn _ _ hno
    obtain rfl := hAi.fn h1
    refine ⟨j, l, kn, m, [], ?_, by rw [List.append_nil]; exact hb, by rw [List.append_nil]; exact hkn, by rw [List.append_nil]; exact h2, fun q _ => rfl⟩
    unfold tape_Optimize_1_m.body
    exact iT (by rw [hno]; rfl) (by rw [hno]; rfl)
  | none =>
    obtain ⟨e', h1, h2⟩ := hT.get (List.getElem?_eq_getElem hiL)
    obtain rfl : e = e' := Option.some.inj (he.symm.trans h1)
    have hx : c.L[((i : Int)).toNat]? = some c.L[i] := by rw [Int.toNat_natCast]; exact List.getElem?_eq_getElem hiL
    have hin : 0 ≤ (i : Int) ∧ (i : Int) < (c.L.length : Int) := by omega
    have hem : e ∈ T0 := hAi.mem
    have atl : ∀ {a : Int} {u : Ex}, At (T0.take i) a u → ∃ q : Nat, a = (q : Int) ∧ q < i ∧ T0[q]? = some u := fun {a u} h => by
      have hlt := h.lt
      rw [List.length_take] at hlt
      have h0 := h.1
      refine ⟨a.toNat, by omega, by omega, ?_⟩
      have := h.2
      rwa [List.getElem?_take_of_lt (by omega)] at this
    have fin : ∀ {j : Int} {l3 : List TInstruction} {m3 : List (TInstruction × Int)} {kn2 : List (Int × Int)} {us : List Ex}, Bd n T0 l3 m3 (ts ++ us) → Kn T0 (ts ++ us) kn2 → At (ts ++ us) j e → (∀ q : Int, (i : Int) ≤ q → mget kn2 q = mget kn q) → Bd n T0 l3 m3 (ts ++ us) ∧ Kn T0 (ts ++ us) (kn2 ++ [((i : Int), j)]) ∧ At (ts ++ us) j e ∧ ∀ q : Int, (i : Int) < q → mget (kn2 ++ [((i : Int), j)]) q = mget kn q := by
      intro j l3 m3 kn2 us g1 g2 g3 g4
      refine ⟨g1, g2.add hAi g3, g3, fun q hq => ?_⟩
      rw [mget_app, ← g4 q (by omega)]
      cases mget kn2 q with
      | some v => rfl
      | none => rw [if_neg (by simp), if_neg (by show q ≠ (i : Int); omega)]
    generalize hxx : c.L[i] = x at hx h2
    have leaf : Ins n ts x e → tape_arity k x.Op = some 0 → ∃ j l' kn' m' us, tape_Optimize_1_m.body k (tape_Optimize_1_m k) (i : Int) kn c l m = some (j, l', kn', m') ∧ Bd n T0 l' m' (ts ++ us) ∧ Kn T0 (ts ++ us) kn' ∧ At (ts ++ us) j e ∧ ∀ q : Int, (i : Int) < q → mget kn' q = mget kn q := by
      intro hI ha
      obtain ⟨j, l3, m3, us, g1, g2, g3⟩ := hb.emit hS hI hem
      refine ⟨j, l3, kn ++ [((i : Int), j)], m3, us, opt_body hno hin hx (l1 := l) (m1 := m) (kn1 := kn) (a := x.A) (l2 := l) (m2 := m) (kn2 := kn) (b := x.B) ?_ ?_ g1 hno, fin g2 (hkn.mono us) g3 (fun q _ => rfl)⟩
      · rw [ha]; rfl
      · rw [ha]; rfl
    have un : ∀ (a : Int) (u : Ex), At (T0.take i) a u → x.A = a → tape_arity k x.Op = some 1 → (∀ (ts : List Ex) (a' : Int), At ts a' u → Ins n ts ⟨x.Op, a', x.B, x.C⟩ e) → ∃ j l' kn' m' us, tape_Optimize_1_m.body k (tape_Optimize_1_m k) (i : Int) kn c l m = some (j, l', kn', m') ∧ Bd n T0 l' m' (ts ++ us) ∧ Kn T0 (ts ++ us) kn' ∧ At (ts ++ us) j e ∧ ∀ q : Int, (i : Int) < q → mget kn' q = mget kn q := by
      intro a u hu hxa ha hI
      obtain ⟨q, rfl, hq, hTq⟩ := atl hu
      obtain ⟨ja, l1, kn1, m1, us, f1, f2, f3, f4, f5⟩ := ih q hq u hTq k (by omega) hb hkn
      obtain ⟨j, l3, m3, vs, g1, g2, g3⟩ := f2.emit hS (hI _ ja f4) hem
      rw [List.append_assoc] at g2 g3
      refine ⟨j, l3, kn1 ++ [((i : Int), j)], m3, us ++ vs, opt_body hno hin hx (l1 := l1) (m1 := m1) (kn1 := kn1) (a := ja) (l2 := l1) (m2 := m1) (kn2 := kn1) (b := x.B) ?_ ?_ g1 ?_, fin g2 (by rw [← List.append_assoc]; exact f3.mono vs) g3 (fun q' hq' => f5 q' (by omega))⟩
      · rw [ha, hxa]
        show ((tape_Optimize_1_m k (q : Int) kn c l m).bind _) = _
        rw [f1]; rfl
      · rw [ha]; rfl
      · rw [f5 _ (by omega), hno]
    cases h2 with
    | num v h => exact leaf (.num v h) rfl
    | var v h => exact leaf (.var v h) rfl
    | time => exact leaf .time rfl
    | neg a u h => exact un a u h rfl (tar_one (by simp)) (fun ts a' h => .neg a' u h)
    | sqr a u h => exact un a u h rfl (tar_one (by simp)) (fun ts a' h => .sqr a' u h)
    | sqrt a u h => exact un a u h rfl (tar_one (by simp)) (fun ts a' h => .sqrt a' u h)
    | bin op a b u v ho h h' =>
      obtain ⟨q, rfl, hq, hTq⟩ := atl h
      obtain ⟨p, rfl, hp, hTp⟩ := atl h'
      obtain ⟨ja, l1, kn1, m1, us, f1, f2, f3, f4, f5⟩ := ih q hq u hTq k (by omega) hb hkn
      obtain ⟨jb, l2, kn2, m2, vs, d1, d2, d3, d4, d5⟩ := ih p hp v hTp k (by omega) f2 f3
      obtain ⟨j, l3, m3, ws, g1, g2, g3⟩ := d2.emit hS (.bin op ja jb u v ho (f4.mono vs) d4) hem
      have hta : tape_arity k op = some 2 := tar_two ho
      rw [List.append_assoc, List.append_assoc] at g2 g3
      refine ⟨j, l3, kn2 ++ [((i : Int), j)], m3, us ++ (vs ++ ws), opt_body hno hin hx (l1 := l1) (m1 := m1) (kn1 := kn1) (a := ja) (l2 := l2) (m2 := m2) (kn2 := kn2) (b := jb) ?_ ?_ g1 ?_, fin g2 (by rw [← List.append_assoc, ← List.append_assoc]; exact d3.mono ws) g3 (fun q' hq' => by rw [d5 q' (by omega), f5 q' (by omega)])⟩
      · show ((tape_arity k op).bind _) = _
        rw [hta]
        show ((tape_Optimize_1_m k (q : Int) kn c l m).bind _) = _
        rw [f1]; rfl
      · show ((tape_arity k op).bind _) = _
        rw [hta]
        show ((tape_Optimize_1_m k (p : Int) kn1 c l1 m1).bind _) = _
        rw [d1]; rfl
      · rw [d5 _ (by omega), f5 _ (by omega), hno]
theorem All2.cons_inv {α β : Type} {R : α → β → Prop} {a : α} {l : List α} {m : List β} (h : All2 R (a :: l) m) : ∃ b m', m = b :: m' ∧ R a b ∧ All2 R l m' := by
  cases h with
  | cons g t => exact ⟨_, _, rfl, g, t⟩
theorem opt_loop {n : Int} {c : TTape} {T0 : List Ex} (hT : Tp n c.L T0) (hS : T0.length < 1000000) {k0 : Nat} (hk0 : T0.length < k0) (hO : c.Out.length < 1000) :
    ∀ (r p : List Int) (er ep : List Ex) (o : List Int) (k : Nat) {kn : List (Int × Int)} {l : List TInstruction} {m : List (TInstruction × Int)} {ts : List Ex}, c.Out = p ++ r → r.length < k → Outs T0 r er → p.length = ep.length → Bd n T0 l m ts → Kn T0 ts kn → Outs ts o ep →
    ∃ l' o' m' kn' ts', tape_Optimize.l20 k0 c k l o m kn (p.length : Int) = some (l', o', m', kn') ∧ Bd n T0 l' m' ts' ∧ Outs ts' o' (ep ++ er)
  | [], p, er, ep, o, k, kn, l, m, ts, hp, hk, hr, hpe, hb, hkn, ho => by
    obtain ⟨k, rfl⟩ : ∃ q, k = q + 1 := ⟨k - 1, by omega⟩
    cases hr
    rw [List.append_nil] at hp
    refine ⟨l, o, m, kn, ts, by rw [tape_Optimize.l20, if_neg (by rw [hp]; simp)], hb, by rw [List.append_nil]; exact ho⟩
  | a :: r, p, er, ep, o, k, kn, l, m, ts, hp, hk, hr, hpe, hb, hkn, ho => by
    obtain ⟨k, rfl⟩ : ∃ q, k = q + 1 := ⟨k - 1, by omega⟩
    obtain ⟨e, er, rfl, ha, hr⟩ := hr.cons_inv
    simp only [List.length_cons] at hk
    have hpl : p.length + (r.length + 1) = c.Out.length := by rw [hp]; simp
    have hin : 0 ≤ (p.length : Int) ∧ (p.length : Int) < (c.Out.length : Int) := by omega
    have hg : c.Out[((p.length : Int)).toNat]? = some a := by rw [Int.toNat_natCast, hp, List.getElem?_append_right (Nat.le_refl _), Nat.sub_self]; rfl
    have hal := ha.lt
    have ha0 := ha.1
    obtain ⟨j, l', kn', m', us, g1, g2, g3, g4, _⟩ := opt_one hT hS a.toNat e ha.2 k0 (by omega) hb hkn
    rw [show ((a.toNat : Nat) : Int) = a by omega] at g1
    have hol := ho.len
    rw [tape_Optimize.l20, if_pos (by simpa using hin.2), if_pos hin, hg, Option.bind_some]
    show ∃ l' o' m' kn' ts', ((tape_Optimize_1_m k0 a kn c l m).bind fun t26 => if o.length < 1000000 then tape_Optimize.l20 k0 c k t26.2.1 (o ++ [t26.1]) t26.2.2.2 t26.2.2.1 (w_i64 ((p.length : Int) + 1)) else none) = some (l', o', m', kn') ∧ Bd n T0 l' m' ts' ∧ Outs ts' o' (ep ++ e :: er)
    rw [g1, Option.bind_some, if_pos (by omega), wk (by omega) (by omega)]
    obtain ⟨l2, o2, m2, kn2, ts2, f1, f2, f3⟩ := opt_loop hT hS hk0 hO r (p ++ [a]) er (ep ++ [e]) (o ++ [j]) k (by rw [hp]; simp) (by omega) hr (by simp [hpe]) g2 g3 ((Outs.mono ho).app g4)
    rw [List.length_append] at f1
    exact ⟨l2, o2, m2, kn2, ts2, f1, f2, by simpa using f3⟩
theorem opt_eq {n : Int} {c : TTape} {T0 es : List Ex} (hT : Tp n c.L T0) (hS : T0.length < 1000) {k : Nat} (hk : 2000 < k) (hO : c.Out.length < 1000) (ho : Outs T0 c.Out es) :
    ∃ l o ts, tape_Optimize k c = some ⟨c.N, l, o⟩ ∧ Tp n l ts ∧ Outs ts o es ∧ l.length < 1000 := by
  obtain ⟨l, o, m, kn, ts, h1, h2, h3⟩ := opt_loop hT (by omega) (k0 := k) (by omega) hO c.Out [] es [] [] k (kn := []) rfl (by omega) ho rfl (Bd.nil n T0) (fun i j h => by rw [mget_nil] at h; cases h) .nil
  refine ⟨l, o, ts, ?_, h2.tp, h3, Nat.lt_of_le_of_lt h2.len hS⟩
  unfold tape_Optimize
  exact bT h1 rfl
end Go.Proofs.YtbpgobecpmjaeaaDoor
set_option maxRecDepth 10000
set_option linter.unusedVariables false
set_option linter.unusedSimpArgs false
namespace Go.Proofs.YtbpgobecpmjaeaaDoor
open Go Go.Sx
def Vals (X : List TInterval) (t : TInterval) (ts : List Ex) (V : List TInterval) : Prop := All2 (fun e v => e.ev X t = some v) ts V
theorem vals_ok {n : Int} {X : List TInterval} {t : TInterval} (h : Env n X t) : ∀ (ts : List Ex), (∀ e ∈ ts, e.ok n) → ∃ V, Vals X t ts V
  | [], _ => ⟨[], .nil⟩
  | e :: ts, hok => by
    obtain ⟨v, h1, _⟩ := Ex.ev_ok h e (hok e (by simp))
    obtain ⟨V, hV⟩ := vals_ok h ts (fun x hx => hok x (by simp [hx]))
    exact ⟨v :: V, .cons h1 hV⟩
theorem All2.get {α β : Type} {R : α → β → Prop} {l : List α} {m : List β} (h : All2 R l m) : ∀ {i : Nat} {a : α}, l[i]? = some a → ∃ b, m[i]? = some b ∧ R a b := by
  induction h with
  | nil => intro i a hi; simp at hi
  | cons g t ih =>
    intro i a hi
    cases i with
    | zero =>
      obtain rfl := Option.some.inj hi
      exact ⟨_, rfl, g⟩
    | succ i => exact ih hi
def fil (V : List TInterval) (i : Nat) : List TInterval := V.take i ++ List.replicate (V.length - i) Z0
theorem fil_len (V : List TInterval) {i : Nat} (h : i ≤ V.length) : (fil V i).length = V.length := by
  simp only [fil, List.length_append, List.length_take, List.length_replicate]; omega
theorem fil_get {V : List TInterval} {i j : Nat} (h : j < i) (hi : i ≤ V.length) : (fil V i)[j]? = V[j]? := by
  rw [fil, List.getElem?_append_left (by rw [List.length_take]; omega), List.getElem?_take_of_lt h]
theorem fil_set {V : List TInterval} {i : Nat} {v : TInterval} (h : V[i]? = some v) : (fil V i).set i v = fil V (i + 1) := by
  have hlt := (List.getElem?_eq_some_iff.1 h).1
  have htl : (V.take i).length = i := by rw [List.length_take]; omega
  obtain ⟨d, hd⟩ : ∃ d, V.length - i = d + 1 := ⟨V.length - i - 1, by omega⟩
  have hv : V.take (i + 1) = V.take i ++ [v] := by rw [List.take_add_one, h]; rfl
  rw [fil, fil, hv, hd, show V.length - (i + 1) = d by omega, List.set_append, if_neg (by omega), htl, Nat.sub_self, List.append_assoc]
  rfl
theorem fil_all (V : List TInterval) : fil V V.length = V := by simp [fil]
theorem fil_zero (V : List TInterval) : fil V 0 = List.replicate V.length Z0 := by simp [fil]
theorem root_eq {a r : TInterval} (ha : Ok a) {k : Nat} (hk : K32 < k) (h : sqv a = some r) : tape_root k a = some r := by
  unfold tape_root
  unfold sqv at h
  by_cases hq : a.Lo < 0
  · rw [if_pos hq] at h
    obtain rfl := Option.some.inj h
    exact iT (by simpa using hq) rfl
  · rw [if_neg hq] at h
    obtain ⟨r', h1, h2, h3⟩ := sqrt_k ha (by omega) hk
    rw [h3] at h
    obtain rfl := Option.some.inj h
    exact iF (by simpa using hq) (bT h2 rfl)
theorem ev_step {n : Int} {c : TTape} {ts : List Ex} (hT : Tp n c.L ts) (hS : c.L.length < 1000) {X : List TInterval} {t : TInterval} (hE : Env n X t) {V : List TInterval} (hV : Vals X t ts V) {k0 : Nat} (hk0 : K32 < k0) {i : Nat} (hi : i < c.L.length) (k : Nat) :
    tape_Eval.l29 k0 c X t (k + 1) (fil V i) (i : Int) = tape_Eval.l29 k0 c X t k (fil V (i + 1)) ((i + 1 : Nat) : Int) := by
  have hl1 := hT.len
  have hl2 := All2.len hV
  have hin : 0 ≤ (i : Int) ∧ (i : Int) < (c.L.length : Int) := by omega
  have hfl := fil_len V (i := i) (by omega)
  have hin2 : 0 ≤ (i : Int) ∧ (i : Int) < ((fil V i).length : Int) := by omega
  have hx : c.L[((i : Int)).toNat]? = some c.L[i] := by rw [Int.toNat_natCast]; exact List.getElem?_eq_getElem hi
  obtain ⟨e, h1, h2⟩ := hT.get (List.getElem?_eq_getElem hi)
  obtain ⟨v, hv, hev⟩ := All2.get hV h1
  have hset : (fil V i).set (i : Int).toNat v = fil V (i + 1) := by rw [Int.toNat_natCast]; exact fil_set hv
  have hold : ∃ w, (fil V i)[((i : Int)).toNat]? = some w := ⟨(fil V i)[i]'(by omega), by rw [Int.toNat_natCast]; exact List.getElem?_eq_getElem _⟩
  obtain ⟨w, hw⟩ := hold
  -- an operand
  have opd : ∀ {a : Int} {u : Ex}, At (ts.take i) a u → (0 ≤ a ∧ a < ((fil V i).length : Int)) ∧ ∃ y, (fil V i)[a.toNat]? = some y ∧ u.ev X t = some y := fun {a u} h => by
    have hlt := h.lt
    rw [List.length_take] at hlt
    have h0 := h.1
    have h3 := h.2
    rw [List.getElem?_take_of_lt (by omega)] at h3
    obtain ⟨y, hy, hu⟩ := All2.get hV h3
    exact ⟨by omega, y, by rw [fil_get (by omega) (by omega)]; exact hy, hu⟩
  have uok : ∀ {a : Int} {u : Ex}, At (ts.take i) a u → u.ok n := fun {a u} h => hT.ok u (List.mem_of_mem_take h.mem)
  have fin : (if 0 ≤ (i : Int) ∧ (i : Int) < ((fil V i).length : Int) then ((fil V i)[((i : Int)).toNat]?).bind fun (t47 : TInterval) => some ((fil V i).set (i : Int).toNat v) else none) = some (fil V (i + 1)) := iT hin2 (bT hw (by rw [hset]))
  rw [tape_Eval.l29, if_pos (by simpa using hin.2), if_pos hin, hx, wk (by omega) (by omega)]
  have hii : ((i : Int) + 1) = ((i + 1 : Nat) : Int) := by omega
  rw [hii]
  generalize hxx : c.L[i] = x at h2
  refine bT (v := fil V (i + 1)) ?_ rfl
  rw [Option.bind_some]
  generalize hz : x.Op = z
  rw [Option.bind_some]
  cases h2 with
  | num q h =>
    obtain rfl := Option.some.inj hev
    have hz : 1 = z := hz
    exact iF (by omega) (iT (by omega) fin)
  | var q h =>
    have hz : 2 = z := hz
    have hlx := hE.len
    exact iF (by omega) (iF (by omega) (iT (by omega) (iT (by show 0 ≤ q ∧ q < (X.length : Int); omega) (bT hev fin))))
  | time =>
    obtain rfl := Option.some.inj hev
    have hz : 3 = z := hz
    exact iF (by omega) (iF (by omega) (iF (by omega) (iT (by omega) fin)))
  | neg a u h =>
    have hz : 4 = z := hz
    obtain ⟨g1, y, g2, g3⟩ := opd h
    simp only [Ex.ev, g3, Option.bind_some] at hev
    exact iF (by omega) (iF (by omega) (iF (by omega) (iF (by omega) (iT (by omega) (iT g1 (bT g2 (bT hev fin)))))))
  | sqr a u h =>
    have hz : 5 = z := hz
    obtain ⟨g1, y, g2, g3⟩ := opd h
    simp only [Ex.ev, g3, Option.bind_some] at hev
    exact iF (by omega) (iF (by omega) (iF (by omega) (iF (by omega) (iF (by omega) (iT (by omega) (iT g1 (bT g2 (bT hev fin))))))))
  | sqrt a u h =>
    have hz : 6 = z := hz
    obtain ⟨g1, y, g2, g3⟩ := opd h
    simp only [Ex.ev, g3, Option.bind_some] at hev
    obtain ⟨y', g4, g5⟩ := Ex.ev_ok hE u (uok h)
    obtain rfl := Option.some.inj (g3.symm.trans g4)
    exact iF (by omega) (iF (by omega) (iF (by omega) (iF (by omega) (iF (by omega) (iF (by omega) (iT (by omega) (iT g1 (bT g2 (bT (root_eq g5 hk0 hev) fin)))))))))
  | bin op a b u u' ho h h' =>
    have hz : op = z := hz
    obtain ⟨g1, y, g2, g3⟩ := opd h
    obtain ⟨d1, y', d2, d3⟩ := opd h'
    simp only [Ex.ev, g3, d3, Option.bind_some] at hev
    rcases (show op = 7 ∨ op = 8 ∨ op = 9 ∨ op = 10 by omega) with rfl | rfl | rfl | rfl
    · exact iF (by omega) (iF (by omega) (iF (by omega) (iF (by omega) (iF (by omega) (iF (by omega) (iF (by omega) (iT (by omega) (iT g1 (bT g2 (iT d1 (bT d2 (bT hev fin))))))))))))
    · exact iF (by omega) (iF (by omega) (iF (by omega) (iF (by omega) (iF (by omega) (iF (by omega) (iF (by omega) (iF (by omega) (iT (by omega) (iT g1 (bT g2 (iT d1 (bT d2 (bT hev fin)))))))))))))
    · exact iF (by omega) (iF (by omega) (iF (by omega) (iF (by omega) (iF (by omega) (iF (by omega) (iF (by omega) (iF (by omega) (iF (by omega) (iT (by omega) (iT g1 (bT g2 (iT d1 (bT d2 (bT hev fin))))))))))))))
    · exact iF (by omega) (iF (by omega) (iF (by omega) (iF (by omega) (iF (by omega) (iF (by omega) (iF (by omega) (iF (by omega) (iF (by omega) (iF (by omega) (iT (by omega) (iT g1 (bT g2 (iT d1 (bT d2 (bT hev fin)))))))))))))))
theorem ev_loop {n : Int} {c : TTape} {ts : List Ex} (hT : Tp n c.L ts) (hS : c.L.length < 1000) {X : List TInterval} {t : TInterval} (hE : Env n X t) {V : List TInterval} (hV : Vals X t ts V) {k0 : Nat} (hk0 : K32 < k0) : ∀ (r i k : Nat), i + r = c.L.length → r < k → tape_Eval.l29 k0 c X t k (fil V i) (i : Int) = some V
  | 0, i, k, hi, hk => by
    obtain ⟨k, rfl⟩ : ∃ q, k = q + 1 := ⟨k - 1, by omega⟩
    have hl1 := hT.len
    have hl2 := All2.len hV
    rw [tape_Eval.l29, if_neg (by simp; omega), show i = V.length by omega, fil_all]
  | r + 1, i, k, hi, hk => by
    obtain ⟨k, rfl⟩ : ∃ q, k = q + 1 := ⟨k - 1, by omega⟩
    rw [ev_step hT hS hE hV hk0 (by omega) k]
    exact ev_loop hT hS hE hV hk0 r (i + 1) k (by omega) (by omega)
theorem out_loop {c : TTape} {X : List TInterval} {t : TInterval} {V W : List TInterval} (hO : c.Out.length < 1000) (hWl : W.length = c.Out.length) (hW : ∀ (i : Nat) (o : Int), c.Out[i]? = some o → (0 ≤ o ∧ o < (V.length : Int)) ∧ ∃ v, V[o.toNat]? = some v ∧ W[i]? = some v) {k0 : Nat} : ∀ (r i k : Nat), i + r = c.Out.length → r < k → tape_Eval.l14 k0 c X t V k (fil W i) (i : Int) = some W
  | 0, i, k, hi, hk => by
    obtain ⟨k, rfl⟩ : ∃ q, k = q + 1 := ⟨k - 1, by omega⟩
    rw [tape_Eval.l14, if_neg (by simp; omega), show i = W.length by omega, fil_all]
  | r + 1, i, k, hi, hk => by
    obtain ⟨k, rfl⟩ : ∃ q, k = q + 1 := ⟨k - 1, by omega⟩
    have hlt : i < c.Out.length := by omega
    have hx : c.Out[((i : Int)).toNat]? = some c.Out[i] := by rw [Int.toNat_natCast]; exact List.getElem?_eq_getElem hlt
    obtain ⟨g1, v, g2, g3⟩ := hW i _ (List.getElem?_eq_getElem hlt)
    have hfl := fil_len W (i := i) (by omega)
    obtain ⟨w, hw⟩ : ∃ w, (fil W i)[((i : Int)).toNat]? = some w := ⟨(fil W i)[i]'(by omega), by rw [Int.toNat_natCast]; exact List.getElem?_eq_getElem _⟩
    rw [tape_Eval.l14, if_pos (by simp; omega), if_pos (by omega), hx, Option.bind_some, if_pos g1, g2, Option.bind_some, if_pos (by omega), hw, Option.bind_some, Int.toNat_natCast, fil_set g3, wk (by omega) (by omega)]
    exact out_loop hO hWl hW r (i + 1) k (by omega) (by omega)
theorem teval_eq {n : Int} {c : TTape} {ts es : List Ex} (hT : Tp n c.L ts) (hS : c.L.length < 1000) (hO : Outs ts c.Out es) (hO2 : es.length < 1000) {X : List TInterval} {t : TInterval} (hE : Env n X t) {W : List TInterval} (hW : Vals X t es W) {k : Nat} (hk : K32 + 1000 < k) : tape_Eval k c X t = some W := by
  obtain ⟨V, hV⟩ := vals_ok hE ts hT.ok
  have hl1 := hT.len
  have hl2 := All2.len hV
  have hl3 := hO.len
  have hl4 := All2.len hW
  unfold tape_Eval
  refine iT (by omega) (bT (v := V) ?_ (iT (by omega) (bT (v := W) ?_ rfl)))
  · have := ev_loop hT hS hE hV (k0 := k) (by omega) c.L.length 0 k (by omega) (by omega)
    rw [fil_zero] at this
    rw [Int.toNat_natCast, hl1, hl2]; exact this
  · have := out_loop (c := c) (X := X) (t := t) (V := V) (W := W) (k0 := k) (by omega) (by omega) (fun i o ho => by
      obtain ⟨e, h1, h2⟩ := All2.get hO ho
      obtain ⟨v, h3, h4⟩ := All2.get hV h2.2
      obtain ⟨v', h5, h6⟩ := All2.get hW h1
      obtain rfl := Option.some.inj (h4.symm.trans h6)
      have := h2.lt
      exact ⟨⟨h2.1, by omega⟩, v, h3, h5⟩) c.Out.length 0 k (by omega) (by omega)
    rw [fil_zero] at this
    rw [Int.toNat_natCast, hl3, hl4]; exact this
end Go.Proofs.YtbpgobecpmjaeaaDoor
set_option maxRecDepth 10000
set_option linter.unusedVariables false
set_option linter.unusedSimpArgs false
namespace Go.Proofs.YtbpgobecpmjaeaaDoor
open Go Go.Sx
theorem oeval_eq {n : Int} {X : List TInterval} {t : TInterval} (hE : Env n X t) {e : Ex} (he : e.ok n) (hl : e.code.length < 1000) {v : TInterval} (hv : e.ev X t = some v) {k : Nat} (hk : K32 + e.dep < k) : ode_Eval k e.code X t = some v := by
  have := Ex.eval hE (l := e.code) (by omega) e he k hk [] [] (by simp) v hv
  unfold ode_Eval
  exact bT this rfl
theorem der_loop {n : Int} {X : List TInterval} {t : TInterval} (hE : Env n X t) (s : TSystem) {es : List Ex} (hF : s.F = es.map Ex.code) (hel : es.length < 1000) (hes : ∀ e ∈ es, e.ok n ∧ e.code.length < 1000 ∧ e.dep ≤ 1000) {k0 : Nat} (hk0 : K32 + 1000 < k0) :
    ∀ (r p : List Ex) (V W : List TInterval) (k : Nat), es = p ++ r → r.length < k → V.length = p.length → Vals X t r W → ode_Derivatives.l9 k0 s X t k V (p.length : Int) = some (V ++ W)
  | [], p, V, W, k, hp, hk, hVp, hW => by
    obtain ⟨k, rfl⟩ : ∃ q, k = q + 1 := ⟨k - 1, by omega⟩
    cases hW
    rw [List.append_nil] at hp
    rw [ode_Derivatives.l9, if_neg (by rw [hF, hp]; simp), List.append_nil]
  | e :: r, p, V, W, k, hp, hk, hVp, hW => by
    obtain ⟨k, rfl⟩ : ∃ q, k = q + 1 := ⟨k - 1, by omega⟩
    obtain ⟨v, W, rfl, hv, hW⟩ := All2.cons_inv hW
    simp only [List.length_cons] at hk
    have hpl : p.length + (r.length + 1) = es.length := by rw [hp]; simp
    have hFl : s.F.length = es.length := by rw [hF]; simp
    have hin : 0 ≤ (p.length : Int) ∧ (p.length : Int) < (s.F.length : Int) := by omega
    have hg : s.F[((p.length : Int)).toNat]? = some e.code := by rw [hF, Int.toNat_natCast, List.getElem?_map, hp, List.getElem?_append_right (Nat.le_refl _), Nat.sub_self]; rfl
    obtain ⟨h1, h2, h3⟩ := hes e (by rw [hp]; simp)
    rw [ode_Derivatives.l9, if_pos (by simpa using hin.2), if_pos hin, hg, Option.bind_some, oeval_eq hE h1 h2 hv (by omega), Option.bind_some, if_pos (by omega), wk (by omega) (by omega)]
    have := der_loop hE s hF hel hes hk0 r (p ++ [e]) (V ++ [v]) W k (by rw [hp]; simp) (by omega) (by simp [hVp]) hW
    rw [List.length_append, List.append_assoc] at this
    exact this
theorem der_eq {n : Int} {X : List TInterval} {t : TInterval} (hE : Env n X t) (s : TSystem) {es : List Ex} (hF : s.F = es.map Ex.code) (hel : es.length < 1000) (hes : ∀ e ∈ es, e.ok n ∧ e.code.length < 1000 ∧ e.dep ≤ 1000) {k : Nat} (hk : K32 + 1000 < k) {W : List TInterval} (hW : Vals X t es W) : ode_Derivatives k s X t = some W := by
  unfold ode_Derivatives
  exact bT (der_loop hE s hF hel hes hk es [] [] W k rfl (by omega) rfl hW) rfl
theorem same_eq {W : List TInterval} (hl : W.length < 1000) {k : Nat} (hk : 1000 < k) : armillaryref08_SameBoxes k W W = some true := by
  have key : ∀ (r i k : Nat), i + r = W.length → r < k → ∀ k0, armillaryref08_SameBoxes.l8 k0 W W k (i : Int) = some (.inr ()) := by
    intro r
    induction r with
    | zero =>
      intro i k hi hk k0
      obtain ⟨k, rfl⟩ : ∃ q, k = q + 1 := ⟨k - 1, by omega⟩
      rw [armillaryref08_SameBoxes.l8, if_neg (by simp; omega)]
    | succ r ih =>
      intro i k hi hk k0
      obtain ⟨k, rfl⟩ : ∃ q, k = q + 1 := ⟨k - 1, by omega⟩
      have hlt : i < W.length := by omega
      have hx : W[((i : Int)).toNat]? = some W[i] := by rw [Int.toNat_natCast]; exact List.getElem?_eq_getElem hlt
      rw [armillaryref08_SameBoxes.l8, if_pos (by simp; omega), if_pos (by omega), hx, Option.bind_some, if_pos (by omega), Option.bind_some]
      have hs : armillaryref02_Same W[i] W[i] = some true := by unfold armillaryref02_Same; simp
      rw [hs, Option.bind_some, if_neg (by decide), wk (by omega) (by omega)]
      exact ih (i + 1) k (by omega) (by omega) k0
  unfold armillaryref08_SameBoxes
  refine iF (by simp) (bT (key W.length 0 k (by omega) (by omega) k) rfl)
end Go.Proofs.YtbpgobecpmjaeaaDoor
set_option maxRecDepth 10000
set_option linter.unusedVariables false
set_option linter.unusedSimpArgs false
namespace Go.Proofs.YtbpgobecpmjaeaaDoor
open Go Go.Sx
theorem band_le (x : Int) {c : Nat} (hc : c < 9223372036854775808) (h0 : (BitVec.ofInt 64 (c : Int)).toNat = c) : 0 ≤ b_and .i64 x (c : Int) ∧ b_and .i64 x (c : Int) ≤ (c : Int) := by
  have h : ((BitVec.ofInt 64 x) &&& (BitVec.ofInt 64 (c : Int))).toNat ≤ c := by
    rw [BitVec.toNat_and]
    refine Nat.le_trans Nat.and_le_right ?_
    rw [h0]; exact Nat.le_refl _
  show 0 ≤ IntKind.wrap .i64 (((BitVec.ofInt 64 x) &&& (BitVec.ofInt 64 (c : Int))).toNat : Int) ∧ IntKind.wrap .i64 (((BitVec.ofInt 64 x) &&& (BitVec.ofInt 64 (c : Int))).toNat : Int) ≤ (c : Int)
  have e : IntKind.wrap .i64 (((BitVec.ofInt 64 x) &&& (BitVec.ofInt 64 (c : Int))).toNat : Int) = (((BitVec.ofInt 64 x) &&& (BitVec.ofInt 64 (c : Int))).toNat : Int) := w64 (by omega) (by omega)
  rw [e]; omega
theorem band255 (x : Int) : 0 ≤ b_and .i64 x 255 ∧ b_and .i64 x 255 ≤ 255 := band_le x (c := 255) (by decide) (by decide)
theorem band16 (x : Int) : 0 ≤ b_and .i64 x 65535 ∧ b_and .i64 x 65535 ≤ 65535 := band_le x (c := 65535) (by decide) (by decide)
theorem tmb (x : Int) {m : Int} (hm : 0 < m) : -m < Int.tmod x m ∧ Int.tmod x m < m := by
  have h1 := Int.tmod_lt_of_pos x hm
  have h2 := Int.tmod_lt_of_pos (-x) hm
  rw [Int.neg_tmod] at h2
  omega
theorem tmp (x : Int) {m : Int} (hx : 0 ≤ x) (hm : 0 < m) : 0 ≤ Int.tmod x m ∧ Int.tmod x m < m := ⟨Int.tmod_nonneg m hx, Int.tmod_lt_of_pos x hm⟩
theorem near_ok (c : TInterval) {b : Int} (hb : 1 ≤ b ∧ b ≤ 1000000) : ∃ r, armillaryref02_Near c b = some r ∧ Ok r := by
  unfold armillaryref02_Near
  rw [if_pos (by omega), if_pos (by omega)]
  have h1 := tmb c.Lo (m := 1048576) (by omega)
  have h2 := tmb c.Hi (m := b) (by omega)
  have h3 : w_i64 (Int.tmod c.Hi b + b) = Int.tmod c.Hi b + b := w64 (by omega) (by omega)
  have h4 := tmp (Int.tmod c.Hi b + b) (m := b) (by omega) (by omega)
  rw [h3, w64 (by omega) (by omega)]
  refine ⟨_, rfl, .inr ?_⟩
  unfold Fin
  simp only
  omega
theorem rmade_ok (a : TInterval) : ∃ r, armillaryref02_Made a = some r ∧ Ok r := by
  unfold armillaryref02_Made
  by_cases h : Ok a
  · exact ⟨a, bT (valid_eq a) (iT (by simpa using h) rfl), h⟩
  · by_cases hb : (b_and .i64 a.Lo 31 == 7) = true
    · exact ⟨Ent, bT (valid_eq a) (iF (by simpa using h) (iT hb rfl)), .inl rfl⟩
    · refine ⟨_, bT (valid_eq a) (iF (by simpa using h) (iF hb rfl)), .inr ?_⟩
      have h1 := tm_bound a.Lo
      have h2 := tm_bound a.Hi
      have h3 := mnl (Int.tmod a.Lo 16777216) (Int.tmod a.Hi 16777216)
      have h4 := mxl (Int.tmod a.Lo 16777216) (Int.tmod a.Hi 16777216)
      unfold Fin
      simp only
      omega
theorem boxes_loop (a0 : List TInterval) {n : Int} (hn : 1 ≤ n ∧ n ≤ 6) (k0 : Nat) : ∀ (r i k : Nat) (l : List TInterval), (i : Int) + r = n → r < k → l.length = i → (∀ y ∈ l, Ok y) → ∃ l', armillaryref08_Boxes.l9 k0 a0 n 200000 k l (i : Int) = some l' ∧ (l'.length : Int) = n ∧ ∀ y ∈ l', Ok y
  | 0, i, k, l, hi, hk, hl, hok => by
    obtain ⟨k, rfl⟩ : ∃ q, k = q + 1 := ⟨k - 1, by omega⟩
    exact ⟨l, by rw [armillaryref08_Boxes.l9, if_neg (by simp; omega)], by omega, hok⟩
  | r + 1, i, k, l, hi, hk, hl, hok => by
    obtain ⟨k, rfl⟩ : ∃ q, k = q + 1 := ⟨k - 1, by omega⟩
    have hj : ∃ j : Int × Int, (if (decide ((i : Int) < (a0.length : Int))) = true then if 0 ≤ (i : Int) ∧ (i : Int) < (a0.length : Int) then (a0[((i : Int)).toNat]?).bind fun t22 => some (t22.Lo, t22.Hi) else none else some (0, 0)) = some j := by
      by_cases h : (i : Int) < (a0.length : Int)
      · exact ⟨_, iT (by simpa using h) (iT (by omega) (bT (List.getElem?_eq_getElem (by omega)) rfl))⟩
      · exact ⟨_, iF (by simpa using h) rfl⟩
    obtain ⟨j, hj⟩ := hj
    obtain ⟨y, h1, h2⟩ := near_ok ⟨j.1, j.2⟩ (b := 200000) (by decide)
    rw [armillaryref08_Boxes.l9, if_pos (by simp; omega), hj, Option.bind_some, h1, Option.bind_some, if_pos (by omega), wk (by omega) (by omega)]
    exact boxes_loop a0 hn k0 r (i + 1) k (l ++ [y]) (by omega) (by omega) (by simp [hl]) (fun z hz => by
      rcases List.mem_append.1 hz with hz | hz
      · exact hok z hz
      · obtain rfl := List.mem_singleton.1 hz
        exact h2)
theorem boxes_ok (a0 : List TInterval) {n : Int} (hn : 1 ≤ n ∧ n ≤ 6) {k : Nat} (hk : 100 < k) : ∃ l, armillaryref08_Boxes k a0 n 200000 = some l ∧ (l.length : Int) = n ∧ ∀ y ∈ l, Ok y := by
  obtain ⟨l, h1, h2, h3⟩ := boxes_loop a0 hn k n.toNat 0 k [] (by omega) (by omega) rfl (fun y hy => by cases hy)
  refine ⟨l, ?_, h2, h3⟩
  unfold armillaryref08_Boxes
  exact bT h1 rfl
theorem r8ar (op : Int) : armillaryref08_Arity op = some (match ar op with | some a => (a : Int) | none => -1) := ode_arity_eq op
theorem ar0 {op : Int} (h : 1 ≤ op ∧ op ≤ 3) : ar op = some 0 := by unfold ar; rw [if_pos h]
theorem ar1 {op : Int} (h : 4 ≤ op ∧ op ≤ 6) : ar op = some 1 := by unfold ar; rw [if_neg (by omega), if_pos h]
theorem ar2 {op : Int} (h : 7 ≤ op ∧ op ≤ 10) : ar op = some 2 := by unfold ar; rw [if_neg (by omega), if_neg (by omega), if_pos h]
theorem ra0 {op : Int} (h : 1 ≤ op ∧ op ≤ 3) : armillaryref08_Arity op = some 0 := by rw [r8ar, ar0 h]; rfl
theorem ra1 {op : Int} (h : 4 ≤ op ∧ op ≤ 6) : armillaryref08_Arity op = some 1 := by rw [r8ar, ar1 h]; rfl
theorem ra2 {op : Int} (h : 7 ≤ op ∧ op ≤ 10) : armillaryref08_Arity op = some 2 := by rw [r8ar, ar2 h]; rfl
theorem ra {op : Int} (h : 1 ≤ op ∧ op ≤ 10) : ∃ a : Int, armillaryref08_Arity op = some a ∧ (op ≤ 3 ↔ a ≤ 0) ∧ (op ≤ 6 ↔ a ≤ 1) := by
  by_cases h3 : op ≤ 3
  · exact ⟨0, ra0 (by omega), by omega, by omega⟩
  by_cases h6 : op ≤ 6
  · exact ⟨1, ra1 (by omega), by omega, by omega⟩
  · exact ⟨2, ra2 (by omega), by omega, by omega⟩
def opOf (x : TInstruction) : Int := w_i64 (1 + (Int.tmod (b_and .i64 (w_i64 (x.Op + 9)) 255) 10))
theorem opOf_r (x : TInstruction) : 1 ≤ opOf x ∧ opOf x ≤ 10 := by
  unfold opOf
  have h1 := band255 (w_i64 (x.Op + 9))
  have h2 := tmp (b_and .i64 (w_i64 (x.Op + 9)) 255) (m := 10) h1.1 (by decide)
  rw [w64 (by omega) (by omega)]; omega
def nOf (N : Int) : Int := w_i64 (1 + (Int.tmod (b_and .i64 N 255) 3))
theorem nOf_r (N : Int) : 1 ≤ nOf N ∧ nOf N ≤ 3 := by
  unfold nOf
  have h1 := band255 N
  have h2 := tmp (b_and .i64 N 255) (m := 3) h1.1 (by decide)
  rw [w64 (by omega) (by omega)]; omega
theorem made_step (a0 : TTape) {k0 : Nat} {i : Nat} (hi : i < a0.L.length) (hi2 : i < 25) (k : Nat) {l : List TInstruction} {ts : List Ex} (hT : Tp (nOf a0.N) l ts) (hl : l.length = i) :
    ∃ x e, armillaryref08_Made.l35 k0 a0 25 (k + 1) l (i : Int) = armillaryref08_Made.l35 k0 a0 25 k (l ++ [x]) ((i + 1 : Nat) : Int) ∧ Tp (nOf a0.N) (l ++ [x]) (ts ++ [e]) := by
  have hin : 0 ≤ (i : Int) ∧ (i : Int) < (a0.L.length : Int) := by omega
  have hx : a0.L[((i : Int)).toNat]? = some a0.L[i] := by rw [Int.toNat_natCast]; exact List.getElem?_eq_getElem hi
  generalize hxx : a0.L[i] = x at hx
  have hn := nOf_r a0.N
  have hop := opOf_r x
  -- the operation
  have hJ : ∃ J : Int, ((if ((((i : Int)) == 0) == true) = true then armillaryref08_Arity (opOf x) else some default).bind fun t83 => if (((i : Int) == 0) && (decide (t83 > 0))) = true then some (2 : Int) else some (opOf x)) = some J ∧ (1 ≤ J ∧ J ≤ 10) ∧ (i = 0 → J ≤ 3) := by
    obtain ⟨a, h1, h2, _⟩ := ra hop
    by_cases h0 : i = 0
    · subst h0
      by_cases ha : a > 0
      · exact ⟨2, bT (v := a) (iT (by decide) h1) (iT (by simpa using ha) rfl), by decide, fun _ => by decide⟩
      · exact ⟨opOf x, bT (v := a) (iT (by decide) h1) (iF (by simpa using ha) rfl), hop, fun _ => by omega⟩
    · exact ⟨opOf x, bT (iF (by simpa using h0) rfl) (iF (by simp [h0]) rfl), hop, fun h => absurd h h0⟩
  obtain ⟨J, hJ, hJr, hJ0⟩ := hJ
  have bnd : ∀ z : Int, i ≠ 0 → 0 ≤ Int.tmod (b_and .i64 z 255) (i : Int) ∧ Int.tmod (b_and .i64 z 255) (i : Int) < (i : Int) := fun z h0 => tmp _ (band255 z).1 (by omega)
  have hA : ∃ a : Int, ((armillaryref08_Arity J).bind fun t76 => if (decide (t76 > 0)) = true then if 0 ≤ (i : Int) ∧ (i : Int) < (a0.L.length : Int) then (a0.L[((i : Int)).toNat]?).bind fun t79 => if (i : Int) ≠ 0 then some (Int.tmod (b_and .i64 t79.A 255) (i : Int)) else none else none else some 0) = some a ∧ (J ≤ 3 → a = 0) ∧ (4 ≤ J → 0 ≤ a ∧ a < (i : Int)) := by
    obtain ⟨a, h1, h2, _⟩ := ra hJr
    by_cases ha : a > 0
    · have h0 : i ≠ 0 := fun h => by have := hJ0 h; omega
      exact ⟨_, bT h1 (iT (by simpa using ha) (iT hin (bT hx (iT (by omega) rfl)))), fun h => by omega, fun _ => bnd _ h0⟩
    · exact ⟨0, bT h1 (iF (by simpa using ha) rfl), fun _ => rfl, fun h => by omega⟩
  obtain ⟨a, hA, hA0, hAr⟩ := hA
  have hB : ∃ b : Int, ((armillaryref08_Arity J).bind fun t69 => if (decide (t69 > 1)) = true then if 0 ≤ (i : Int) ∧ (i : Int) < (a0.L.length : Int) then (a0.L[((i : Int)).toNat]?).bind fun t72 => if (i : Int) ≠ 0 then some (Int.tmod (b_and .i64 t72.B 255) (i : Int)) else none else none else some 0) = some b ∧ (J ≤ 6 → b = 0) ∧ (7 ≤ J → 0 ≤ b ∧ b < (i : Int)) := by
    obtain ⟨a, h1, _, h2⟩ := ra hJr
    by_cases ha : a > 1
    · have h0 : i ≠ 0 := fun h => by have := hJ0 h; omega
      exact ⟨_, bT h1 (iT (by simpa using ha) (iT hin (bT hx (iT (by omega) rfl)))), fun h => by omega, fun _ => bnd _ h0⟩
    · exact ⟨0, bT h1 (iF (by simpa using ha) rfl), fun _ => rfl, fun h => by omega⟩
  obtain ⟨b, hB, hB0, hBr⟩ := hB
  have hV : ∃ v : Int, (if (J == 2) = true then if 0 ≤ (i : Int) ∧ (i : Int) < (a0.L.length : Int) then (a0.L[((i : Int)).toNat]?).bind fun t64 => if nOf a0.N ≠ 0 then some (Int.tmod (b_and .i64 t64.A 255) (nOf a0.N)) else none else none else some a) = some v ∧ (J = 2 → 0 ≤ v ∧ v < nOf a0.N) ∧ (J ≠ 2 → v = a) := by
    by_cases h2 : J = 2
    · exact ⟨_, iT (by simpa using h2) (iT hin (bT hx (iT (by omega) rfl))), fun _ => tmp _ (band255 _).1 (by omega), fun h => absurd h2 h⟩
    · exact ⟨a, iF (by simpa using h2) rfl, fun h => absurd h h2, fun _ => rfl⟩
  obtain ⟨v, hV, hV2, hVn⟩ := hV
  have hC : ∃ c : Int × Int, (if (J == 1) = true then if 0 ≤ (i : Int) ∧ (i : Int) < (a0.L.length : Int) then (a0.L[((i : Int)).toNat]?).bind fun t58 => (armillaryref02_Near (⟨t58.C.Lo, t58.C.Hi⟩ : TInterval) 4096).bind fun t59 => some (t59.Lo, t59.Hi) else none else some (0, 0)) = some c ∧ (J = 1 → Ok ⟨c.1, c.2⟩) ∧ (J ≠ 1 → c = (0, 0)) := by
    by_cases h1 : J = 1
    · obtain ⟨r, h2, h3⟩ := near_ok ⟨x.C.Lo, x.C.Hi⟩ (b := 4096) (by decide)
      exact ⟨(r.Lo, r.Hi), iT (by simpa using h1) (iT hin (bT hx (bT h2 rfl))), fun _ => h3, fun h => absurd h1 h⟩
    · exact ⟨(0, 0), iF (by simpa using h1) rfl, fun h => absurd h h1, fun _ => rfl⟩
  obtain ⟨c, hC, hC1, hCn⟩ := hC
  have hI : ∃ e, Ins (nOf a0.N) ts ⟨J, v, b, ⟨c.1, c.2⟩⟩ e := by
    have hlt := hT.len
    have at_ : ∀ {z : Int}, 0 ≤ z ∧ z < (i : Int) → ∃ u, At ts z u := fun {z} hz => ⟨ts[z.toNat]'(by omega), hz.1, List.getElem?_eq_getElem _⟩
    by_cases h1 : J = 1
    · obtain rfl := hVn (by omega)
      obtain rfl := hA0 (by omega)
      obtain rfl := hB0 (by omega)
      subst h1
      exact ⟨_, .num _ (hC1 rfl)⟩
    obtain rfl := hCn h1
    by_cases h2 : J = 2
    · obtain rfl := hB0 (by omega)
      subst h2
      exact ⟨_, .var _ (hV2 rfl)⟩
    obtain rfl := hVn h2
    by_cases h3 : J = 3
    · obtain rfl := hA0 (by omega)
      obtain rfl := hB0 (by omega)
      subst h3
      exact ⟨_, .time⟩
    obtain ⟨u, hu⟩ := at_ (hAr (by omega))
    by_cases h6 : J ≤ 6
    · obtain rfl := hB0 (by omega)
      rcases (show J = 4 ∨ J = 5 ∨ J = 6 by omega) with rfl | rfl | rfl
      · exact ⟨_, .neg _ u hu⟩
      · exact ⟨_, .sqr _ u hu⟩
      · exact ⟨_, .sqrt _ u hu⟩
    · obtain ⟨w, hw⟩ := at_ (hBr (by omega))
      exact ⟨_, .bin J _ _ u w (by omega) hu hw⟩
  obtain ⟨e, hI⟩ := hI
  refine ⟨⟨J, v, b, ⟨c.1, c.2⟩⟩, e, ?_, hT.snoc hI⟩
  rw [armillaryref08_Made.l35, if_pos (by simp; omega), wk (x := (i : Int) + 1) (by omega) (by omega), show ((i : Int) + 1) = ((i + 1 : Nat) : Int) by omega]
  refine iT hin (bT hx ?_)
  refine bT hJ (bT hA (bT hB (bT hV (bT hC ?_))))
  exact iT (by omega) rfl
theorem made_loop (a0 : TTape) (k0 : Nat) : ∀ (r i k : Nat) (l : List TInstruction) (ts : List Ex), i + r = min a0.L.length 25 → r < k → Tp (nOf a0.N) l ts → l.length = i → ∃ l' ts', armillaryref08_Made.l35 k0 a0 25 k l (i : Int) = some l' ∧ Tp (nOf a0.N) l' ts' ∧ l'.length ≤ 25
  | 0, i, k, l, ts, hi, hk, hT, hl => by
    obtain ⟨k, rfl⟩ : ∃ q, k = q + 1 := ⟨k - 1, by omega⟩
    exact ⟨l, ts, by rw [armillaryref08_Made.l35, if_neg (by simp; omega)], hT, by omega⟩
  | r + 1, i, k, l, ts, hi, hk, hT, hl => by
    obtain ⟨k, rfl⟩ : ∃ q, k = q + 1 := ⟨k - 1, by omega⟩
    obtain ⟨x, e, h1, h2⟩ := made_step a0 (k0 := k0) (i := i) (by omega) (by omega) k hT hl
    rw [h1]
    exact made_loop a0 k0 r (i + 1) k _ _ (by omega) (by omega) h2 (by simp [hl])
theorem mout_loop (a0 : TTape) (k0 : Nat) (j4 : List TInstruction) {l : List TInstruction} {ts : List Ex} (hlt : l.length = ts.length) (hl : 1 ≤ l.length ∧ l.length ≤ 25) : ∀ (r i k : Nat) (o : List Int) (es : List Ex), (i : Int) + r = nOf a0.N → r < k → o.length = i → Outs ts o es → ∃ o' es', armillaryref08_Made.l13 k0 a0 25 j4 l k o (i : Int) = some o' ∧ Outs ts o' es' ∧ (es'.length : Int) = nOf a0.N
  | 0, i, k, o, es, hi, hk, ho, hO => by
    obtain ⟨k, rfl⟩ : ∃ q, k = q + 1 := ⟨k - 1, by omega⟩
    have := All2.len hO
    exact ⟨o, es, by rw [armillaryref08_Made.l13, if_neg (by rw [decide_eq_true_eq]; show ¬ (i : Int) < nOf a0.N; omega)], hO, by omega⟩
  | r + 1, i, k, o, es, hi, hk, ho, hO => by
    obtain ⟨k, rfl⟩ : ∃ q, k = q + 1 := ⟨k - 1, by omega⟩
    have hn := nOf_r a0.N
    have hj : ∃ j : Int, (if (decide ((i : Int) < (a0.Out.length : Int))) = true then if 0 ≤ (i : Int) ∧ (i : Int) < (a0.Out.length : Int) then (a0.Out[((i : Int)).toNat]?).bind fun t24 => if (l.length : Int) ≠ 0 then some (Int.tmod (b_and .i64 t24 65535) (l.length : Int)) else none else none else some (w_i64 ((l.length : Int) - 1))) = some j ∧ 0 ≤ j ∧ j < (l.length : Int) := by
      by_cases h : (i : Int) < (a0.Out.length : Int)
      · exact ⟨_, iT (by simpa using h) (iT (by omega) (bT (List.getElem?_eq_getElem (by omega)) (iT (by omega) rfl))), tmp _ (band16 _).1 (by omega)⟩
      · exact ⟨_, iF (by simpa using h) rfl, by rw [wk (by omega) (by omega)]; omega⟩
    obtain ⟨j, hj, hjr⟩ := hj
    rw [armillaryref08_Made.l13, if_pos (by rw [decide_eq_true_eq]; show (i : Int) < nOf a0.N; omega), hj, Option.bind_some, if_pos (by omega), wk (x := (i : Int) + 1) (by omega) (by omega)]
    exact mout_loop a0 k0 j4 hlt hl r (i + 1) k (o ++ [j]) (es ++ [ts[j.toNat]'(by omega)]) (by omega) (by omega) (by simp [ho]) (hO.app ⟨hjr.1, List.getElem?_eq_getElem _⟩)
theorem made_ok (a0 : TTape) {k : Nat} (hk : 100 < k) : ∃ (n : Int) (l : List TInstruction) (o : List Int) (ts es : List Ex), armillaryref08_Made k a0 25 = some ⟨n, l, o⟩ ∧ (1 ≤ n ∧ n ≤ 3) ∧ Tp n l ts ∧ Outs ts o es ∧ l.length ≤ 25 ∧ (es.length : Int) = n := by
  have hn := nOf_r a0.N
  obtain ⟨l, ts, h1, h2, h3⟩ := made_loop a0 k (min a0.L.length 25) 0 k [] [] (by omega) (by omega) .nil rfl
  have h4 : ∃ l' ts', (if ((l.length : Int) == 0) = true then some (([(⟨2, 0, 0, (⟨0, 0⟩ : TInterval)⟩ : TInstruction)] : List TInstruction)) else some l) = some l' ∧ Tp (nOf a0.N) l' ts' ∧ (1 ≤ l'.length ∧ l'.length ≤ 25) := by
    by_cases h0 : l.length = 0
    · exact ⟨_, _, iT (by simpa using h0) rfl, Tp.snoc (l := []) (ts := []) .nil (.var 0 (by omega)), by decide⟩
    · exact ⟨l, ts, iF (by simpa using h0) rfl, h2, by omega⟩
  obtain ⟨l', ts', h5, h6, h7⟩ := h4
  obtain ⟨o, es, h8, h9, h10⟩ := mout_loop a0 k l h6.len h7 (nOf a0.N).toNat 0 k [] [] (by omega) (by omega) rfl .nil
  refine ⟨nOf a0.N, l', o, ts', es, ?_, hn, h6, h9, h7.2, h10⟩
  unfold armillaryref08_Made
  exact bT h1 (bT h5 (bT h8 rfl))
end Go.Proofs.YtbpgobecpmjaeaaDoor
set_option maxRecDepth 10000
namespace Go.Proofs.YtbpgobecpmjaeaaDoor
open Go
theorem sane (m : Nat) : armillarylaw08_sanity (m + 100) = some true := by kernel_rfl
end Go.Proofs.YtbpgobecpmjaeaaDoor
