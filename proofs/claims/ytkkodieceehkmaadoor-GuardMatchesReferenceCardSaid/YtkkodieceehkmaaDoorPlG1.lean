/- Intervals: what the program's functions on them come to. Own work: the plain lemmas of the claims of law02, laid over this seat's functions. -/
import Derived.Test.YtkkodieceehkmaaDoorDefs
import Derived.KernelRfl
import Derived.IntWalk
set_option maxRecDepth 10000
set_option linter.unusedVariables false
set_option linter.unusedSimpArgs false
namespace Go.Proofs.YtkkodieceehkmaaDoor
open Go
theorem w64 {x : Int} (h1 : -9223372036854775808 ≤ x) (h2 : x ≤ 9223372036854775807) : w_i64 x = x := by
  exact Go.IntWalk.i64_in x ⟨h1, h2⟩
theorem ediv_bounds {a b B : Int} (hb : 0 < b) (h1 : -B ≤ a) (h2 : a ≤ B) : -B ≤ a / b ∧ a / b ≤ B := by
  have hB : 0 ≤ B := by omega
  constructor
  · rw [Int.le_ediv_iff_mul_le hb]
    have : B * 1 ≤ B * b := Int.mul_le_mul_of_nonneg_left (by omega) hB
    have e : -B * b = -(B * b) := Int.neg_mul ..
    omega
  · apply Int.ediv_le_of_le_mul hb
    have : B * 1 ≤ B * b := Int.mul_le_mul_of_nonneg_left (by omega) hB
    omega
def cdiv (a b : Int) : Int := -((-a) / b)
theorem cdiv_le {a b c : Int} (hb : 0 < b) : cdiv a b ≤ c ↔ a ≤ c * b := by
  unfold cdiv
  have : -c ≤ (-a) / b ↔ -c * b ≤ -a := Int.le_ediv_iff_mul_le hb
  rw [Int.neg_mul] at this
  omega
theorem le_fdiv {a b c : Int} (hb : 0 < b) : c ≤ a / b ↔ c * b ≤ a := Int.le_ediv_iff_mul_le hb
theorem tdm (a b : Int) (hb : 0 < b) : (Int.tmod a b < 0 → Int.tdiv a b - 1 = a / b ∧ Int.tmod a b + b = a % b) ∧ (¬ Int.tmod a b < 0 → Int.tdiv a b = a / b ∧ Int.tmod a b = a % b) := by
  have h1 := Int.mul_tdiv_add_tmod a b
  have h2 := Int.tmod_lt_of_pos a hb
  have h3 : -b < Int.tmod a b := by
    have := Int.tmod_lt_of_pos (-a) hb
    rw [Int.neg_tmod] at this
    omega
  have e := fun q r => Int.ediv_emod_unique (a := a) (b := b) (r := r) (q := q) hb
  constructor
  · intro h
    have := (e (Int.tdiv a b - 1) (Int.tmod a b + b)).2 ⟨by rw [Int.mul_sub]; omega, by omega, by omega⟩
    exact ⟨this.1.symm, this.2.symm⟩
  · intro h
    have := (e (Int.tdiv a b) (Int.tmod a b)).2 ⟨by omega, by omega, by omega⟩
    exact ⟨this.1.symm, this.2.symm⟩
theorem cdiv_eq {a b : Int} (hb : 0 < b) : cdiv a b = a / b + mn (a % b) 1 := by
  have h1 := Int.mul_ediv_add_emod a b
  have h2 := Int.emod_nonneg a (by omega : b ≠ 0)
  have h3 := Int.emod_lt_of_pos a hb
  have h5 : mn (a % b) 1 = 0 ∧ a % b = 0 ∨ mn (a % b) 1 = 1 ∧ 1 ≤ a % b := by unfold mn; split <;> omega
  apply Int.le_antisymm
  · rw [cdiv_le hb, Int.add_mul, Int.mul_comm (a / b) b]
    rcases h5 with ⟨h5, h6⟩ | ⟨h5, h6⟩ <;> rw [h5] <;> omega
  · rcases h5 with ⟨h5, h6⟩ | ⟨h5, h6⟩ <;> rw [h5]
    · have := (cdiv_le (a := a) (c := cdiv a b) hb).1 (Int.le_refl _)
      have h7 : a / b ≤ cdiv a b := by
        apply Int.ediv_le_of_le_mul hb this
      omega
    · have h8 : ¬ cdiv a b ≤ a / b := by
        rw [cdiv_le hb, Int.mul_comm]
        omega
      omega
theorem floorCeil_eq {a b : Int} (hb : 0 < b) (ha1 : -4611686018427387904 ≤ a) (ha2 : a ≤ 4611686018427387904) (hb2 : b ≤ 4611686018427387904) : fixed_floorCeil_int64_s105 a b = some (a / b, cdiv a b) := by
  have hq := ediv_bounds hb ha1 ha2
  obtain ⟨t1, t2⟩ := tdm a b hb
  have h2 := Int.emod_nonneg a (by omega : b ≠ 0)
  have h3 := Int.emod_lt_of_pos a hb
  have hc := cdiv_eq (a := a) hb
  have hm : 0 ≤ mn (a % b) 1 ∧ mn (a % b) 1 ≤ 1 := by unfold mn; split <;> omega
  unfold fixed_floorCeil_int64_s105 fixed_divide_1
  rw [if_pos (by omega), if_pos (by omega)]
  by_cases h : Int.tmod a b < 0
  · obtain ⟨e1, e2⟩ := t1 h
    have e3 : w_i64 (Int.tdiv a b) = Int.tdiv a b := w64 (by omega) (by omega)
    have e4 : w_i64 (Int.tdiv a b - 1) = a / b := by rw [e1]; exact w64 (by omega) (by omega)
    have e5 : w_i64 (Int.tmod a b + b) = a % b := by rw [e2]; exact w64 (by omega) (by omega)
    simp only [h, decide_true, if_true, Option.bind_some, e3, e4, e5]
    rw [w64 (by omega) (by omega), ← hc]
  · obtain ⟨e1, e2⟩ := t2 h
    have e3 : w_i64 (Int.tdiv a b) = a / b := by rw [e1]; exact w64 (by omega) (by omega)
    have h' : ¬ a % b < 0 := by omega
    simp only [e2, h', decide_false, Bool.false_eq_true, if_false, Option.bind_some, e3]
    rw [w64 (by omega) (by omega), ← hc]
theorem divide_pos {a b : Int} (hb : 0 < b) (ha1 : -4611686018427387904 ≤ a) (ha2 : a ≤ 4611686018427387904) (hb2 : b ≤ 4611686018427387904) : fixed_divide a b = some (a / b, cdiv a b) := by
  unfold fixed_divide
  rw [if_neg (by simp; omega)]
  simp only [Option.bind_some, floorCeil_eq hb ha1 ha2 hb2]
theorem divide_neg {a b : Int} (hb : b < 0) (ha1 : -4611686018427387904 ≤ a) (ha2 : a ≤ 4611686018427387904) (hb2 : -4611686018427387904 ≤ b) : fixed_divide a b = some ((-a) / (-b), cdiv (-a) (-b)) := by
  unfold fixed_divide
  rw [if_pos (by simp; omega)]
  have e1 : w_i64 (0 - a) = -a := by rw [w64 (by omega) (by omega)]; omega
  have e2 : w_i64 (0 - b) = -b := by rw [w64 (by omega) (by omega)]; omega
  simp only [Option.bind_some, e1, e2, floorCeil_eq (a := -a) (b := -b) (by omega) (by omega) (by omega) (by omega)]
def Num (x : Int) : Prop := -2147483648 < x ∧ x < 2147483648
def Wid (x : Int) : Prop := -2147483648 ≤ x ∧ x ≤ 2147483648
theorem prod_bound {x y A B : Int} (hx : -A ≤ x ∧ x ≤ A) (hy : -B ≤ y ∧ y ≤ B) : -(A * B) ≤ x * y ∧ x * y ≤ A * B := by
  have hA : 0 ≤ A := by omega
  have hB : 0 ≤ B := by omega
  have h1 : x.natAbs * y.natAbs ≤ A.natAbs * B.natAbs := Nat.mul_le_mul (by omega) (by omega)
  have h2 : ((x * y).natAbs : Int) ≤ A * B := by
    rw [Int.natAbs_mul]
    have : ((A.natAbs * B.natAbs : Nat) : Int) = A * B := by
      rw [Int.natCast_mul, Int.natAbs_of_nonneg hA, Int.natAbs_of_nonneg hB]
    omega
  omega
theorem mul_eq {x y : Int} (hx : Wid x) (hy : Wid y) : fixed_Mul x y = some (x * y / 65536, cdiv (x * y) 65536) := by
  have := prod_bound (A := 2147483648) (B := 2147483648) hx hy
  unfold fixed_Mul
  rw [w64 (by omega) (by omega), divide_pos (by omega) (by omega) (by omega) (by omega)]
  rfl
theorem div_pos {x y : Int} (hx : Wid x) (hy : Wid y) (h : 0 < y) : fixed_Div x y = some (x * 65536 / y, cdiv (x * 65536) y, 0) := by
  unfold Wid at hx hy
  unfold fixed_Div
  rw [if_neg (by simp; omega), w64 (by omega) (by omega), divide_pos (by omega) (by omega) (by omega) (by omega)]
  rfl
theorem div_neg {x y : Int} (hx : Wid x) (hy : Wid y) (h : y < 0) : fixed_Div x y = some ((-x) * 65536 / (-y), cdiv ((-x) * 65536) (-y), 0) := by
  unfold Wid at hx hy
  unfold fixed_Div
  rw [if_neg (by simp; omega), w64 (by omega) (by omega), divide_neg (by omega) (by omega) (by omega) (by omega), Int.neg_mul]
  rfl
def Ent : TInterval := ⟨-2147483648, 2147483648⟩
def Fin (a : TInterval) : Prop := -2147483648 < a.Lo ∧ a.Lo ≤ a.Hi ∧ a.Hi < 2147483648
def Ok (a : TInterval) : Prop := a = Ent ∨ Fin a
def nw (x y : Int) : TInterval := if x ≤ -2147483648 ∨ y ≥ 2147483648 ∨ x ≥ 2147483648 ∨ y ≤ -2147483648 then Ent else ⟨x, y⟩
theorem Fin.wlo {a : TInterval} (h : Fin a) : Wid a.Lo := by unfold Fin at h; unfold Wid; omega
theorem Fin.whi {a : TInterval} (h : Fin a) : Wid a.Hi := by unfold Fin at h; unfold Wid; omega
theorem isEnt {a : TInterval} : interval_IsEntire a = some (decide (a = Ent)) := by
  simp only [interval_IsEntire, interval_Entire, Option.bind_some, Option.some.injEq]
  obtain ⟨l, h⟩ := a
  simp only [Ent, TInterval.mk.injEq, Bool.decide_and, Bool.and_true]
  rfl
theorem ref_isEnt {a : TInterval} : armillaryref02_IsEntire a = some (decide (a = Ent)) := by
  obtain ⟨l, h⟩ := a
  simp only [armillaryref02_IsEntire, Ent, TInterval.mk.injEq, Bool.decide_and]
  rfl
theorem Fin.ne {a : TInterval} (h : Fin a) : decide (a = Ent) = false := by
  apply decide_eq_false
  rintro rfl
  simp [Fin, Ent] at h
theorem isEnt_fin {a : TInterval} (h : Fin a) : interval_IsEntire a = some false := by rw [isEnt, h.ne]
theorem ref_isEnt_fin {a : TInterval} (h : Fin a) : armillaryref02_IsEntire a = some false := by rw [ref_isEnt, h.ne]
theorem isEnt_ent : interval_IsEntire Ent = some true := by rw [isEnt]; simp
theorem ref_isEnt_ent : armillaryref02_IsEntire Ent = some true := by rw [ref_isEnt]; simp
theorem new_eq (x y : Int) : interval_New x y = some (nw x y) := by
  unfold interval_New nw interval_Entire
  simp only [Option.bind_some]
  by_cases h : x ≤ -2147483648 ∨ y ≥ 2147483648 ∨ x ≥ 2147483648 ∨ y ≤ -2147483648
  · rw [if_pos h, if_pos (by simp; omega)]; rfl
  · rw [if_neg h, if_neg (by simp; omega)]
theorem nw_fin {x y : Int} (h : Fin ⟨x, y⟩) : nw x y = ⟨x, y⟩ := by
  unfold Fin at h
  unfold nw
  simp only at h
  rw [if_neg (by omega)]
theorem nw_ok {x y : Int} (h : x ≤ y) : Ok (nw x y) := by
  unfold nw
  split
  · exact .inl rfl
  · exact .inr (by unfold Fin; simp only; omega)
theorem nw_cases (x y : Int) (h : x ≤ y) : nw x y = Ent ∧ (x ≤ -2147483648 ∨ 2147483648 ≤ y) ∨ nw x y = ⟨x, y⟩ ∧ Fin ⟨x, y⟩ := by
  unfold nw
  split
  · exact .inl ⟨rfl, by omega⟩
  · exact .inr ⟨rfl, by unfold Fin; simp only; omega⟩
theorem add_fin {a b : TInterval} (ha : Fin a) (hb : Fin b) : interval_Add a b = some (nw (a.Lo + b.Lo) (a.Hi + b.Hi)) := by
  unfold interval_Add
  rw [isEnt_fin ha, isEnt_fin hb]
  unfold Fin at ha hb
  simp only [Option.bind_some, beq_self_eq_true, if_true, Bool.or_self, Bool.false_eq_true, if_false, new_eq]
  rw [w64 (by omega) (by omega), w64 (by omega) (by omega)]
theorem add_entl (b : TInterval) : interval_Add Ent b = some Ent := by
  unfold interval_Add
  rw [isEnt_ent]
  rfl
theorem add_entr (a : TInterval) : interval_Add a Ent = some Ent := by
  unfold interval_Add
  rw [isEnt, isEnt_ent]
  cases decide (a = Ent) <;> rfl
theorem neg_eq {a : TInterval} (h : Wid a.Lo) (h' : Wid a.Hi) : interval_Neg a = some ⟨-a.Hi, -a.Lo⟩ := by
  unfold Wid at h h'
  unfold interval_Neg
  rw [w64 (by omega) (by omega), w64 (by omega) (by omega)]
  congr 2 <;> omega
theorem Ok.wlo {a : TInterval} (h : Ok a) : Wid a.Lo := by
  rcases h with rfl | h
  · simp [Ent, Wid]
  · exact h.wlo
theorem Ok.whi {a : TInterval} (h : Ok a) : Wid a.Hi := by
  rcases h with rfl | h
  · simp [Ent, Wid]
  · exact h.whi
theorem neg_ok {a : TInterval} (h : Ok a) : interval_Neg a = some ⟨-a.Hi, -a.Lo⟩ := neg_eq h.wlo h.whi
theorem neg_fin {a : TInterval} (h : Fin a) : Fin ⟨-a.Hi, -a.Lo⟩ := by unfold Fin at *; simp only; omega
theorem sub_fin {a b : TInterval} (ha : Fin a) (hb : Fin b) : interval_Sub a b = some (nw (a.Lo - b.Hi) (a.Hi - b.Lo)) := by
  unfold interval_Sub
  rw [neg_eq hb.wlo hb.whi]
  simp only [Option.bind_some, add_fin ha (neg_fin hb)]
  congr 2
theorem bT {α β : Type} {X : Option α} {v : α} {f : α → Option β} {r : Option β} (h : X = some v) (hf : f v = r) : X.bind f = r := by
  subst h
  exact hf
theorem gT {α β : Type} {c : Prop} [Decidable c] {X D : Option α} {v : α} {f : α → Option β} {r : Option β} (hc : c) (h : X = some v) (hf : f v = r) : (if c then X else D).bind f = r := by
  rw [if_pos hc]
  exact bT h hf
theorem gF {α β : Type} {c : Prop} [Decidable c] {X : Option α} {d : α} {f : α → Option β} {r : Option β} (hc : ¬ c) (hf : f d = r) : (if c then X else some d).bind f = r := by
  rw [if_neg hc]
  exact bT rfl hf
theorem iT {β : Type} {c : Prop} [Decidable c] {X Y : Option β} {r : Option β} (hc : c) (h : X = r) : (if c then X else Y) = r := by
  rw [if_pos hc]
  exact h
theorem iF {β : Type} {c : Prop} [Decidable c] {X Y : Option β} {r : Option β} (hc : ¬ c) (h : Y = r) : (if c then X else Y) = r := by
  rw [if_neg hc]
  exact h
theorem w64e {x y : Int} (e : x = y) (h1 : -9223372036854775808 ≤ y) (h2 : y ≤ 9223372036854775807) : w_i64 x = y := by
  rw [e]
  exact w64 h1 h2
theorem cmpR {x y : Int} (h : x ≤ y) (z : Int) : (z < 0 ∨ x * z ≤ y * z) ∧ (0 < z ∨ y * z ≤ x * z) := by
  constructor
  · rcases Int.lt_or_le z 0 with hz | hz
    · exact .inl hz
    · exact .inr (Int.mul_le_mul_of_nonneg_right h hz)
  · rcases Int.lt_or_le 0 z with hz | hz
    · exact .inl hz
    · exact .inr (Int.mul_le_mul_of_nonpos_right h hz)
theorem cmpL {x y : Int} (h : x ≤ y) (z : Int) : (z < 0 ∨ z * x ≤ z * y) ∧ (0 < z ∨ z * y ≤ z * x) := by
  have := cmpR h z
  rw [Int.mul_comm z x, Int.mul_comm z y]
  exact this
theorem mulR {x y z : Int} (h : x ≤ y) (hz : 0 ≤ z) : x * z ≤ y * z := Int.mul_le_mul_of_nonneg_right h hz
theorem mulRn {x y z : Int} (h : x ≤ y) (hz : z ≤ 0) : y * z ≤ x * z := Int.mul_le_mul_of_nonpos_right h hz
theorem mulL {x y z : Int} (h : x ≤ y) (hz : 0 ≤ z) : z * x ≤ z * y := Int.mul_le_mul_of_nonneg_left h hz
theorem mulLn {x y z : Int} (h : x ≤ y) (hz : z ≤ 0) : z * y ≤ z * x := Int.mul_le_mul_of_nonpos_left hz h
structure Hull (a b : TInterval) (l h : Int) : Prop where
  lo : l ≤ a.Lo * b.Lo ∧ l ≤ a.Lo * b.Hi ∧ l ≤ a.Hi * b.Lo ∧ l ≤ a.Hi * b.Hi
  hi : a.Lo * b.Lo ≤ h ∧ a.Lo * b.Hi ≤ h ∧ a.Hi * b.Lo ≤ h ∧ a.Hi * b.Hi ≤ h
  isl : l = a.Lo * b.Lo ∨ l = a.Lo * b.Hi ∨ l = a.Hi * b.Lo ∨ l = a.Hi * b.Hi
  ish : h = a.Lo * b.Lo ∨ h = a.Lo * b.Hi ∨ h = a.Hi * b.Lo ∨ h = a.Hi * b.Hi
theorem Hull.le {a b : TInterval} {l h : Int} (H : Hull a b l h) : l ≤ h := by
  have := H.lo; have := H.hi; omega
theorem Hull.mem {a b : TInterval} {l h : Int} (H : Hull a b l h) {p q : Int} (hp : a.Lo ≤ p ∧ p ≤ a.Hi) (hq : b.Lo ≤ q ∧ q ≤ b.Hi) : l ≤ p * q ∧ p * q ≤ h := by
  have h1 := H.lo; have h2 := H.hi
  have e1 := cmpR hp.1 q; have e2 := cmpR hp.2 q
  have f1 := cmpL hq.1 a.Lo; have f2 := cmpL hq.2 a.Lo; have f3 := cmpL hq.1 a.Hi; have f4 := cmpL hq.2 a.Hi
  constructor <;> omega
theorem side_eq (a : TInterval) : interval_side a = some (if a.Hi ≤ 0 then 0 else if a.Lo ≥ 0 then 2 else 1) := by
  unfold interval_side
  by_cases h : a.Hi ≤ 0 <;> by_cases h' : a.Lo ≥ 0 <;> simp [h, h']
theorem mn_div (x y : Int) : mn (x / 65536) (y / 65536) = mn x y / 65536 := by unfold mn; split <;> split <;> omega
theorem mx_cdiv (x y : Int) : mx (cdiv x 65536) (cdiv y 65536) = cdiv (mx x y) 65536 := by unfold mx cdiv; split <;> split <;> omega
theorem mul_fin {a b : TInterval} (ha : Fin a) (hb : Fin b) : ∃ l h, interval_Mul a b = some (nw (l / 65536) (cdiv h 65536)) ∧ Hull a b l h := by
  have h1 := ha.2.1
  have h2 := hb.2.1
  have r1 := cmpR h1 b.Lo; have r2 := cmpR h1 b.Hi
  have r3 := cmpL h2 a.Lo; have r4 := cmpL h2 a.Hi
  unfold interval_Mul
  rw [isEnt_fin ha, isEnt_fin hb]
  simp only [Option.bind_some, beq_self_eq_true, if_true, Bool.or_self, Bool.false_eq_true, if_false, side_eq, interval_hh, interval_ll, interval_hl, interval_lh, mul_eq ha.wlo hb.wlo, mul_eq ha.wlo hb.whi, mul_eq ha.whi hb.wlo, mul_eq ha.whi hb.whi, new_eq, mn_div, mx_cdiv]
  by_cases s1 : a.Hi ≤ 0
  · by_cases s2 : b.Hi ≤ 0
    · simp only [s1, s2, if_true]
      refine ⟨a.Hi * b.Hi, a.Lo * b.Lo, rfl, ⟨?_, ?_, ?_, ?_⟩⟩ <;> omega
    · by_cases s3 : b.Lo ≥ 0
      · simp only [s1, s2, s3, if_true, if_false]
        refine ⟨a.Lo * b.Hi, a.Hi * b.Lo, rfl, ⟨?_, ?_, ?_, ?_⟩⟩ <;> omega
      · simp only [s1, s2, s3, if_true, if_false]
        refine ⟨a.Lo * b.Hi, a.Lo * b.Lo, rfl, ⟨?_, ?_, ?_, ?_⟩⟩ <;> omega
  · by_cases s4 : a.Lo ≥ 0
    · by_cases s2 : b.Hi ≤ 0
      · simp only [s1, s4, s2, if_true, if_false]
        refine ⟨a.Hi * b.Lo, a.Lo * b.Hi, rfl, ⟨?_, ?_, ?_, ?_⟩⟩ <;> omega
      · by_cases s3 : b.Lo ≥ 0
        · simp only [s1, s4, s2, s3, if_true, if_false]
          refine ⟨a.Lo * b.Lo, a.Hi * b.Hi, rfl, ⟨?_, ?_, ?_, ?_⟩⟩ <;> omega
        · simp only [s1, s4, s2, s3, if_true, if_false]
          refine ⟨a.Hi * b.Lo, a.Hi * b.Hi, rfl, ⟨?_, ?_, ?_, ?_⟩⟩ <;> omega
    · by_cases s2 : b.Hi ≤ 0
      · simp only [s1, s4, s2, if_true, if_false]
        refine ⟨a.Hi * b.Lo, a.Lo * b.Lo, rfl, ⟨?_, ?_, ?_, ?_⟩⟩ <;> omega
      · by_cases s3 : b.Lo ≥ 0
        · simp only [s1, s4, s2, s3, if_true, if_false]
          refine ⟨a.Lo * b.Hi, a.Hi * b.Hi, rfl, ⟨?_, ?_, ?_, ?_⟩⟩ <;> omega
        · simp only [s1, s4, s2, s3, if_true, if_false]
          refine ⟨mn (a.Lo * b.Hi) (a.Hi * b.Lo), mx (a.Lo * b.Lo) (a.Hi * b.Hi), rfl, ?_⟩
          unfold mn mx
          split <;> split <;> refine ⟨?_, ?_, ?_, ?_⟩ <;> omega
theorem mul_entl (b : TInterval) : interval_Mul Ent b = some Ent := by
  unfold interval_Mul
  rw [isEnt_ent]
  rfl
theorem mul_entr (a : TInterval) : interval_Mul a Ent = some Ent := by
  unfold interval_Mul
  rw [isEnt, isEnt_ent]
  cases decide (a = Ent) <;> rfl
structure DHull (a b : TInterval) (x y u v : Int) : Prop where
  ypos : 0 < y
  vpos : 0 < v
  x_ : x = a.Lo ∨ x = a.Hi
  y_ : y = b.Lo ∨ y = b.Hi
  u_ : u = a.Lo ∨ u = a.Hi
  v_ : v = b.Lo ∨ v = b.Hi
  lo : x * b.Lo ≤ a.Lo * y ∧ x * b.Hi ≤ a.Lo * y ∧ x * b.Lo ≤ a.Hi * y ∧ x * b.Hi ≤ a.Hi * y
  hi : a.Lo * v ≤ u * b.Lo ∧ a.Lo * v ≤ u * b.Hi ∧ a.Hi * v ≤ u * b.Lo ∧ a.Hi * v ≤ u * b.Hi
theorem DHull.mem {a b : TInterval} {x y u v : Int} (H : DHull a b x y u v) {p q : Int} (hp : a.Lo ≤ p ∧ p ≤ a.Hi) (hq : b.Lo ≤ q ∧ q ≤ b.Hi) : x * q ≤ p * y ∧ p * v ≤ u * q := by
  have h1 := H.lo; have h2 := H.hi
  have e1 := cmpL hq.1 x; have e2 := cmpL hq.2 x; have e3 := cmpL hq.1 u; have e4 := cmpL hq.2 u
  have f1 := mulR hp.1 (Int.le_of_lt H.ypos); have f2 := mulR hp.2 (Int.le_of_lt H.vpos)
  constructor <;> omega
theorem frac_mono {a b c d : Int} (hb : 0 < b) (hd : 0 < d) (h : a * d ≤ c * b) : a * 65536 / b ≤ c * 65536 / d := by
  rw [le_fdiv hd]
  have h1 := (le_fdiv (a := a * 65536) (c := a * 65536 / b) hb).1 (Int.le_refl _)
  have h2 : (a * 65536 / b * d) * b ≤ (c * 65536) * b := by
    have e1 : (a * 65536 / b * d) * b = (a * 65536 / b * b) * d := by grind
    have e2 : (a * 65536 / b * b) * d ≤ (a * 65536) * d := mulR h1 (by omega)
    have e3 : (a * 65536) * d = (a * d) * 65536 := by grind
    have e4 : (c * 65536) * b = (c * b) * 65536 := by grind
    omega
  exact Int.le_of_mul_le_mul_right h2 hb
theorem cfrac_mono {a b c d : Int} (hb : 0 < b) (hd : 0 < d) (h : a * d ≤ c * b) : cdiv (a * 65536) b ≤ cdiv (c * 65536) d := by
  rw [cdiv_le hb]
  have h1 := (cdiv_le (a := c * 65536) (c := cdiv (c * 65536) d) hd).1 (Int.le_refl _)
  have h2 : (a * 65536) * d ≤ (cdiv (c * 65536) d * b) * d := by
    have e1 : (cdiv (c * 65536) d * b) * d = (cdiv (c * 65536) d * d) * b := by grind
    have e2 : (c * 65536) * b ≤ (cdiv (c * 65536) d * d) * b := mulR h1 (by omega)
    have e3 : (a * 65536) * d = (a * d) * 65536 := by grind
    have e4 : (c * 65536) * b = (c * b) * 65536 := by grind
    omega
  exact Int.le_of_mul_le_mul_right h2 hd
theorem contains_eq (a : TInterval) (x : Int) : interval_Contains a x = some (decide (a = Ent) || (decide (a.Lo ≤ x) && decide (x ≤ a.Hi))) := by
  unfold interval_Contains
  rw [isEnt]
  rfl
theorem contains_fin {a : TInterval} (h : Fin a) (x : Int) : interval_Contains a x = some (decide (a.Lo ≤ x ∧ x ≤ a.Hi)) := by
  rw [contains_eq, h.ne, Bool.false_or, Bool.decide_and]
def ngv (a : TInterval) : TInterval := ⟨-a.Hi, -a.Lo⟩
theorem div_above {a b : TInterval} (ha : Fin a) (hb : Fin b) (h : 0 < b.Lo) : ∃ x y u v, interval_Div a b = some (nw (x * 65536 / y) (cdiv (u * 65536) v)) ∧ DHull a b x y u v := by
  have h1 := ha.2.1
  have h2 := hb.2.1
  have h3 : 0 < b.Hi := by omega
  have r1 := mulR h1 (Int.le_of_lt h); have r2 := mulR h1 (Int.le_of_lt h3)
  have r3 := cmpL h2 a.Lo; have r4 := cmpL h2 a.Hi
  have c1 := Int.mul_comm b.Lo a.Lo
  unfold interval_Div
  rw [isEnt_fin ha, isEnt_fin hb, contains_fin hb]
  have h4 : decide (b.Lo ≤ 0 ∧ 0 ≤ b.Hi) = false := by apply decide_eq_false; omega
  have h5 : decide (b.Lo > 0) = true := decide_eq_true h
  simp only [Option.bind_some, h4, h5, beq_self_eq_true, if_true, Bool.or_self, Bool.false_eq_true, if_false, side_eq, interval_pick_int, interval_hh, interval_ll, interval_hl, interval_lh, div_pos ha.wlo hb.wlo h, div_pos ha.wlo hb.whi h3, div_pos ha.whi hb.wlo h, div_pos ha.whi hb.whi h3, new_eq]
  by_cases s1 : a.Hi ≤ 0
  · simp only [s1, if_true]
    refine ⟨a.Lo, b.Lo, a.Hi, b.Hi, rfl, ⟨h, h3, .inl rfl, .inl rfl, .inr rfl, .inr rfl, ?_, ?_⟩⟩ <;> omega
  · by_cases s4 : a.Lo ≥ 0
    · simp only [s1, s4, if_true, if_false]
      refine ⟨a.Lo, b.Hi, a.Hi, b.Lo, rfl, ⟨h3, h, .inl rfl, .inr rfl, .inr rfl, .inl rfl, ?_, ?_⟩⟩ <;> omega
    · simp only [s1, s4, if_true, if_false]
      refine ⟨a.Lo, b.Lo, a.Hi, b.Lo, rfl, ⟨h, h, .inl rfl, .inl rfl, .inr rfl, .inl rfl, ?_, ?_⟩⟩ <;> omega
theorem div_below {a b : TInterval} (ha : Fin a) (hb : Fin b) (h3 : b.Hi < 0) : ∃ x y u v, interval_Div a b = some (nw (x * 65536 / y) (cdiv (u * 65536) v)) ∧ DHull (ngv a) (ngv b) x y u v := by
  have h1 := ha.2.1
  have h2 := hb.2.1
  have h : b.Lo < 0 := by omega
  have r1 := mulRn h1 (Int.le_of_lt h); have r2 := mulRn h1 (Int.le_of_lt h3)
  have r3 := cmpL h2 a.Lo; have r4 := cmpL h2 a.Hi
  unfold interval_Div
  rw [isEnt_fin ha, isEnt_fin hb, contains_fin hb]
  have h4 : decide (b.Lo ≤ 0 ∧ 0 ≤ b.Hi) = false := by apply decide_eq_false; omega
  have h5 : decide (b.Lo > 0) = false := decide_eq_false (by omega)
  simp only [Option.bind_some, h4, h5, beq_self_eq_true, if_true, Bool.or_self, Bool.false_eq_true, if_false, side_eq, interval_pick_int, interval_hh, interval_ll, interval_hl, interval_lh, div_neg ha.wlo hb.wlo h, div_neg ha.wlo hb.whi h3, div_neg ha.whi hb.wlo h, div_neg ha.whi hb.whi h3, new_eq]
  by_cases s1 : a.Hi ≤ 0
  · simp only [s1, if_true]
    refine ⟨-a.Hi, -b.Lo, -a.Lo, -b.Hi, rfl, ⟨by omega, by omega, .inl rfl, .inr rfl, .inr rfl, .inl rfl, ?_, ?_⟩⟩ <;> simp only [ngv, Int.neg_mul_neg] <;> omega
  · by_cases s4 : a.Lo ≥ 0
    · simp only [s1, s4, if_true, if_false]
      refine ⟨-a.Hi, -b.Hi, -a.Lo, -b.Lo, rfl, ⟨by omega, by omega, .inl rfl, .inl rfl, .inr rfl, .inr rfl, ?_, ?_⟩⟩ <;> simp only [ngv, Int.neg_mul_neg] <;> omega
    · simp only [s1, s4, if_true, if_false]
      refine ⟨-a.Hi, -b.Hi, -a.Lo, -b.Hi, rfl, ⟨by omega, by omega, .inl rfl, .inl rfl, .inr rfl, .inl rfl, ?_, ?_⟩⟩ <;> simp only [ngv, Int.neg_mul_neg] <;> omega
theorem div_zero {a b : TInterval} (ha : Fin a) (hb : Fin b) (h : b.Lo ≤ 0 ∧ 0 ≤ b.Hi) : interval_Div a b = some Ent := by
  unfold interval_Div
  rw [isEnt_fin ha, isEnt_fin hb, contains_fin hb, decide_eq_true h]
  rfl
theorem div_entl (b : TInterval) : interval_Div Ent b = some Ent := by
  unfold interval_Div
  rw [isEnt_ent]
  rfl
theorem div_entr (a : TInterval) : interval_Div a Ent = some Ent := by
  unfold interval_Div
  rw [isEnt, isEnt_ent]
  cases decide (a = Ent) <;> rfl
def sqm (a : TInterval) : Int := mx (mx a.Lo (-a.Hi)) 0
def mag (a : TInterval) : Int := mx a.Hi (-a.Lo)
theorem mag_eq {a : TInterval} (h : Ok a) : interval_Mag a = some (mag a) := by
  have := h.wlo
  unfold Wid at this
  unfold interval_Mag mag
  rw [w64 (by omega) (by omega)]
  congr 2
  omega
theorem sq_fin {a : TInterval} (h : Fin a) : interval_Square a = some (nw (sqm a * sqm a / 65536) (cdiv (mag a * mag a) 65536)) := by
  unfold interval_Square
  rw [isEnt_fin h, mag_eq (.inr h)]
  have h' := h
  unfold Fin at h'
  have e : w_i64 (0 - a.Hi) = -a.Hi := by rw [w64 (by omega) (by omega)]; omega
  have e1 : Wid (sqm a) := by unfold Wid sqm mx; split <;> split <;> omega
  have e2 : Wid (mag a) := by unfold Wid mag mx; split <;> omega
  simp only [Option.bind_some, Bool.false_eq_true, if_false, e]
  have e3 : mx (mx a.Lo (-a.Hi)) 0 = sqm a := rfl
  simp only [e3, mul_eq e1 e1, mul_eq e2 e2, Option.bind_some, new_eq]
theorem sq_ent : interval_Square Ent = some Ent := by
  unfold interval_Square
  rw [isEnt_ent]
  rfl
theorem sq_mem {a : TInterval} (h : Fin a) {p : Int} (hp : a.Lo ≤ p ∧ p ≤ a.Hi) : sqm a * sqm a ≤ p * p ∧ p * p ≤ mag a * mag a := by
  have h1 : 0 ≤ sqm a ∧ sqm a ≤ p.natAbs := by unfold sqm mx; split <;> split <;> omega
  have h2 : (p.natAbs : Int) ≤ mag a := by unfold mag mx; split <;> omega
  have e : p * p = (p.natAbs : Int) * p.natAbs := Int.natAbs_mul_self.symm
  rw [e]
  exact ⟨Int.mul_le_mul h1.2 h1.2 h1.1 (by omega), Int.mul_le_mul h2 h2 (by omega) (by omega)⟩
theorem rfloor {a b : Int} (hb : 0 < b) (ha1 : -4611686018427387904 ≤ a) (ha2 : a ≤ 4611686018427387904) (hb2 : b ≤ 4611686018427387904) : armillaryref02_Floor a b = some (a / b) := by
  have hq := ediv_bounds hb ha1 ha2
  obtain ⟨t1, t2⟩ := tdm a b hb
  have h2 := Int.emod_nonneg a (by omega : b ≠ 0)
  have h3 := Int.emod_lt_of_pos a hb
  have hb0 : decide (b < 0) = false := decide_eq_false (by omega)
  unfold armillaryref02_Floor
  rw [if_pos (by omega), if_pos (by omega)]
  by_cases h : Int.tmod a b < 0
  · obtain ⟨e1, e2⟩ := t1 h
    have e3 : w_i64 (Int.tdiv a b) = Int.tdiv a b := w64 (by omega) (by omega)
    have h4 : a < 0 := by
      rcases Int.lt_or_le a 0 with h5 | h5
      · exact h5
      · have := Int.tmod_nonneg b h5
        omega
    have h5 : (Int.tmod a b != 0) = true := by simp; omega
    simp only [h5, hb0, decide_eq_true h4, e3]
    rw [e1, w64 (by omega) (by omega)]
    simp
  · obtain ⟨e1, e2⟩ := t2 h
    have e3 : w_i64 (Int.tdiv a b) = a / b := by rw [e1]; exact w64 (by omega) (by omega)
    have h5 : ((Int.tmod a b != 0) && !(decide (a < 0) == decide (b < 0))) = false := by
      rw [hb0]
      by_cases h6 : a < 0
      · have : Int.tmod a b ≤ 0 := by
          have := Int.tmod_nonneg b (a := -a) (by omega)
          rw [Int.neg_tmod] at this
          omega
        have : Int.tmod a b = 0 := by omega
        simp [this]
      · simp [h6]
    rw [if_neg (by simp only [h5]; simp), e3]
    rfl
theorem rceil {a b : Int} (hb : 0 < b) (ha1 : -4611686018427387904 ≤ a) (ha2 : a ≤ 4611686018427387904) (hb2 : b ≤ 4611686018427387904) : armillaryref02_Ceil a b = some (cdiv a b) := by
  have hq := ediv_bounds (a := -a) (B := 4611686018427387904) hb (by omega) (by omega)
  unfold armillaryref02_Ceil
  have e1 : w_i64 (0 - a) = -a := by rw [w64 (by omega) (by omega)]; omega
  rw [e1, rfloor hb (by omega) (by omega) hb2]
  simp only [Option.bind_some]
  unfold cdiv
  rw [w64 (by omega) (by omega)]
  congr 1
  omega
theorem rfloor_neg {a b : Int} (hb : b < 0) (ha1 : -4611686018427387904 ≤ a) (ha2 : a ≤ 4611686018427387904) (hb2 : -4611686018427387904 ≤ b) : armillaryref02_Floor a b = some ((-a) / (-b)) := by
  have e : armillaryref02_Floor a b = armillaryref02_Floor (-a) (-b) := by
    unfold armillaryref02_Floor
    rw [Int.neg_tmod, Int.tmod_neg, Int.neg_tdiv, Int.tdiv_neg, Int.neg_neg]
    have n1 : b ≠ 0 := by omega
    have n2 : -b ≠ 0 := by omega
    rw [if_pos n1, if_pos n1, if_pos n2, if_pos n2]
    have hb0 : decide (b < 0) = true := decide_eq_true hb
    have hb1 : decide (-b < 0) = false := decide_eq_false (by omega)
    have h5 : ((Int.tmod a b != 0) && !(decide (a < 0) == decide (b < 0))) = ((-Int.tmod a b != 0) && !(decide (-a < 0) == decide (-b < 0))) := by
      rw [hb0, hb1]
      rcases Int.lt_trichotomy a 0 with h | h | h
      · have h1 : decide (a < 0) = true := decide_eq_true h
        have h2 : decide (-a < 0) = false := decide_eq_false (by omega)
        rw [h1, h2]
        simp
      · subst h
        simp
      · have h1 : decide (a < 0) = false := decide_eq_false (by omega)
        have h2 : decide (-a < 0) = true := decide_eq_true (by omega)
        rw [h1, h2]
        by_cases h3 : Int.tmod a b = 0
        · simp [h3]
        · have h4 : (-Int.tmod a b != 0) = true := by simp; omega
          have h5 : (Int.tmod a b != 0) = true := by simp; omega
          rw [h4, h5]
          rfl
    rw [h5]
  rw [e]
  exact rfloor (by omega) (by omega) (by omega) (by omega)
theorem tm_bound (x : Int) : -16777216 < Int.tmod x 16777216 ∧ Int.tmod x 16777216 < 16777216 := by
  have h1 := Int.tmod_lt_of_pos x (b := 16777216) (by omega)
  have h2 := Int.tmod_lt_of_pos (-x) (b := 16777216) (by omega)
  rw [Int.neg_tmod] at h2
  omega
instance (a : TInterval) : Decidable (Fin a) := by unfold Fin; infer_instance
instance (a : TInterval) : Decidable (Ok a) := by unfold Ok; infer_instance
theorem valid_eq (a : TInterval) : armillaryref02_Valid a = some (decide (Ok a)) := by
  unfold armillaryref02_Valid armillaryref02_Number
  rw [ref_isEnt]
  by_cases h : a = Ent
  · have : Ok a := .inl h
    simp [h, this, Ok]
  · have e : Ok a ↔ Fin a := by unfold Ok; simp [h]
    rw [show decide (Ok a) = decide (Fin a) from by simp [e]]
    by_cases h1 : -2147483648 < a.Lo ∧ a.Lo < 2147483648 <;> by_cases h2 : -2147483648 < a.Hi ∧ a.Hi < 2147483648 <;> simp [h, Fin, h1, h2]
    all_goals try omega
    all_goals grind
theorem root_loop (k0 : Nat) (a t8 n s : Int) (hn : w_i64 (a * 65536) = n) (hnp : 0 < n) (h0 : 0 ≤ s) (hs1 : s * s ≤ n) (hs2 : n < (s + 1) * (s + 1)) (hn2 : n ≤ 281474976710656) :
    ∀ (k : Nat) (x : Int), 0 < x → s ≤ x → x ≤ 4294967296 → x < k → fixed_Sqrt.l17 k0 a t8 k x = some s
  | 0, x, h1, _, _, h3 => by omega
  | k + 1, x, h1, h2, h4, h3 => by
    unfold fixed_Sqrt.l17
    rw [if_pos (by omega), hn]
    have hn0 : 0 ≤ n := by have := Int.mul_nonneg h0 h0; omega
    have d1 : Int.tdiv n x = n / x := Int.tdiv_eq_ediv_of_nonneg hn0
    have d2 := Int.ediv_nonneg hn0 (Int.le_of_lt h1)
    have d3 : n / x ≤ n := Int.ediv_le_self x hn0
    have e1 : w_i64 (Int.tdiv n x) = n / x := by rw [d1]; exact w64 (by omega) (by omega)
    have e2 : w_i64 (x + n / x) = x + n / x := w64 (by omega) (by omega)
    have d4 : Int.tdiv (x + n / x) 2 = (x + n / x) / 2 := Int.tdiv_eq_ediv_of_nonneg (by omega)
    have e3 : w_i64 (Int.tdiv (x + n / x) 2) = (x + n / x) / 2 := by rw [d4]; exact w64 (by omega) (by omega)
    rw [e1, e2, e3]
    simp only [Option.bind_some]
    have m1 := (le_fdiv (a := n) (c := n / x) h1).1 (Int.le_refl _)
    have m2 : n < (n / x + 1) * x := by
      have := Int.lt_ediv_add_one_mul_self n h1
      exact this
    by_cases hge : (x + n / x) / 2 ≥ x
    · rw [if_pos (by simp; omega)]
      -- x ≤ n / x, hence x * x ≤ n, hence x ≤ s
      have g1 : x ≤ n / x := by omega
      have g2 : x * x ≤ n := by
        have : x * x ≤ n / x * x := mulR g1 (by omega)
        omega
      have g3 : ¬ s + 1 ≤ x := fun h => by
        have : (s + 1) * (s + 1) ≤ x * x := Int.mul_le_mul h h (by omega) (by omega)
        omega
      congr 1
      omega
    · rw [if_neg (by simp; omega)]
      -- the next one is not below the root: (2 s - x) * x ≤ s * s ≤ n
      have g1 : (2 * s - x) * x ≤ s * s := by
        have h5 : 0 ≤ (s - x) * (s - x) := by
          have := Int.natAbs_mul_self (a := s - x)
          omega
        have h6 : (s - x) * (s - x) = s * s - (2 * s - x) * x := by grind
        omega
      have g2 : 2 * s - x ≤ n / x := (le_fdiv h1).2 (by omega)
      have g3 : 0 < (x + n / x) / 2 := by
        have : 1 ≤ x + n / x - 1 ∨ x = 1 := by omega
        rcases this with h5 | h5
        · omega
        · subst h5
          rw [Int.ediv_one] at hge g2 ⊢
          omega
      exact root_loop k0 a t8 n s hn hnp h0 hs1 hs2 hn2 k _ g3 (by omega) (by omega) (by omega)
def lenTab : ByteArray := (⟨#[0, 1, 2, 2, 3, 3, 3, 3, 4, 4, 4, 4, 4, 4, 4, 4, 5, 5, 5, 5, 5, 5, 5, 5, 5, 5, 5, 5, 5, 5, 5, 5, 6, 6, 6, 6, 6, 6, 6, 6, 6, 6, 6, 6, 6, 6, 6, 6, 6, 6, 6, 6, 6, 6, 6, 6, 6, 6, 6, 6, 6, 6, 6, 6, 7, 7, 7, 7, 7, 7, 7, 7, 7, 7, 7, 7, 7, 7, 7, 7, 7, 7, 7, 7, 7, 7, 7, 7, 7, 7, 7, 7, 7, 7, 7, 7, 7, 7, 7, 7, 7, 7, 7, 7, 7, 7, 7, 7, 7, 7, 7, 7, 7, 7, 7, 7, 7, 7, 7, 7, 7, 7, 7, 7, 7, 7, 7, 7, 8, 8, 8, 8, 8, 8, 8, 8, 8, 8, 8, 8, 8, 8, 8, 8, 8, 8, 8, 8, 8, 8, 8, 8, 8, 8, 8, 8, 8, 8, 8, 8, 8, 8, 8, 8, 8, 8, 8, 8, 8, 8, 8, 8, 8, 8, 8, 8, 8, 8, 8, 8, 8, 8, 8, 8, 8, 8, 8, 8, 8, 8, 8, 8, 8, 8, 8, 8, 8, 8, 8, 8, 8, 8, 8, 8, 8, 8, 8, 8, 8, 8, 8, 8, 8, 8, 8, 8, 8, 8, 8, 8, 8, 8, 8, 8, 8, 8, 8, 8, 8, 8, 8, 8, 8, 8, 8, 8, 8, 8, 8, 8, 8, 8, 8, 8, 8, 8, 8, 8, 8, 8, 8, 8, 8, 8, 8, 8]⟩ : ByteArray)
theorem tab_ok {y : Int} (h0 : 0 ≤ y) (h1 : y < 256) : ∃ v : Nat, strAt lenTab (w_u8 y) = some (v : Int) ∧ v ≤ 8 ∧ y < 2 ^ v := by
  have hall : ((List.range 256).all fun i => match strAt lenTab (i : Int) with | some v => decide (0 ≤ v) && decide (v.toNat ≤ 8) && decide ((i : Int) < 2 ^ v.toNat) | none => false) = true := by kernel_rfl
  have h := List.all_eq_true.1 hall y.toNat (List.mem_range.2 (by omega))
  have e : ((y.toNat : Nat) : Int) = y := by omega
  have e2 : w_u8 y = y := Go.IntWalk.u8_in y ⟨h0, by omega⟩
  rw [e2]
  rw [e] at h
  split at h
  · rename_i v hv
    simp only [Bool.and_eq_true, decide_eq_true_eq] at h
    exact ⟨v.toNat, by rw [hv]; congr 1; omega, h.1.2, h.2⟩
  · cases h
theorem fd (x c : Int) (h : 0 < c) : Int.fdiv x c = x / c := Int.fdiv_eq_ediv_of_nonneg _ (Int.le_of_lt h)
theorem pmono {i j : Nat} (h : i ≤ j) : (2 : Int) ^ i ≤ 2 ^ j := by
  have := Nat.pow_le_pow_right (n := 2) (by omega) h
  exact_mod_cast this
theorem pw (v c : Nat) : (2 : Int) ^ (v + c) = 2 ^ v * 2 ^ c := Int.pow_add ..
theorem len64 {n : Int} (h0 : 0 ≤ n) (h1 : n < 18446744073709551616) : ∃ m : Nat, bits_Len64 n = some (m : Int) ∧ m ≤ 64 ∧ n < 2 ^ m := by
  have key : ∀ (y : Int) (c : Nat), 0 ≤ y → y < 256 → c ≤ 56 → (∀ P : Int, y < P → n < P * 2 ^ c) → ∃ m : Nat, ((strAt lenTab (w_u8 y)).bind fun t12 => some (w_i64 ((c : Int) + (w_i64 t12)))) = some (m : Int) ∧ m ≤ 64 ∧ n < 2 ^ m := by
    intro y c g0 g1 g2 g3
    obtain ⟨v, hv, hv8, hlt⟩ := tab_ok g0 g1
    rw [hv]
    refine ⟨v + c, ?_, by omega, ?_⟩
    · simp only [Option.bind_some]
      rw [w64 (x := (v : Int)) (by omega) (by omega), w64 (by omega) (by omega)]
      congr 1
      omega
    · rw [pw]
      exact g3 _ hlt
  unfold bits_Len64
  have f1 := fd n 4294967296 (by omega)
  rw [f1]
  have s16 : ∀ x : Int, Int.fdiv x 65536 = x / 65536 := fun x => fd x _ (by omega)
  have s8 : ∀ x : Int, Int.fdiv x 256 = x / 256 := fun x => fd x _ (by omega)
  have w16 : w_i64 (0 + 16) = 16 := w64 (by omega) (by omega)
  have w48 : w_i64 (32 + 16) = 48 := w64 (by omega) (by omega)
  have w8 : w_i64 (0 + 8) = 8 := w64 (by omega) (by omega)
  have w24 : w_i64 (16 + 8) = 24 := w64 (by omega) (by omega)
  have w40 : w_i64 (32 + 8) = 40 := w64 (by omega) (by omega)
  have w56 : w_i64 (48 + 8) = 56 := w64 (by omega) (by omega)
  by_cases c1 : n ≥ 4294967296
  · rw [if_pos (by simpa using c1)]
    simp only [Option.bind_some]
    by_cases c2 : n / 4294967296 ≥ 65536
    · rw [if_pos (by simpa using c2)]
      simp only [Option.bind_some, s16, w48]
      by_cases c3 : n / 4294967296 / 65536 ≥ 256
      · rw [if_pos (by simpa using c3)]
        simp only [Option.bind_some, s8, w56]
        exact key _ 56 (by omega) (by omega) (by omega) (fun P hP => by simp only [Int.reducePow]; omega)
      · rw [if_neg (by simpa using c3)]
        exact key _ 48 (by omega) (by omega) (by omega) (fun P hP => by simp only [Int.reducePow]; omega)
    · rw [if_neg (by simpa using c2)]
      simp only [Option.bind_some]
      by_cases c3 : n / 4294967296 ≥ 256
      · rw [if_pos (by simpa using c3)]
        simp only [Option.bind_some, s8, w40]
        exact key _ 40 (by omega) (by omega) (by omega) (fun P hP => by simp only [Int.reducePow]; omega)
      · rw [if_neg (by simpa using c3)]
        exact key _ 32 (by omega) (by omega) (by omega) (fun P hP => by simp only [Int.reducePow]; omega)
  · rw [if_neg (by simpa using c1)]
    simp only [Option.bind_some]
    by_cases c2 : n ≥ 65536
    · rw [if_pos (by simpa using c2)]
      simp only [Option.bind_some, s16, w16]
      by_cases c3 : n / 65536 ≥ 256
      · rw [if_pos (by simpa using c3)]
        simp only [Option.bind_some, s8, w24]
        exact key _ 24 (by omega) (by omega) (by omega) (fun P hP => by simp only [Int.reducePow]; omega)
      · rw [if_neg (by simpa using c3)]
        exact key _ 16 (by omega) (by omega) (by omega) (fun P hP => by simp only [Int.reducePow]; omega)
    · rw [if_neg (by simpa using c2)]
      simp only [Option.bind_some]
      by_cases c3 : n ≥ 256
      · rw [if_pos (by simpa using c3)]
        simp only [Option.bind_some, s8, w8]
        exact key _ 8 (by omega) (by omega) (by omega) (fun P hP => by simp only [Int.reducePow]; omega)
      · rw [if_neg (by simpa using c3)]
        exact key _ 0 (by omega) (by omega) (by omega) (fun P hP => by simp only [Int.pow_zero]; omega)
theorem isqrt_nat : ∀ n : Nat, ∃ s : Nat, s * s ≤ n ∧ n < (s + 1) * (s + 1)
  | 0 => ⟨0, by simp⟩
  | n + 1 => by
    obtain ⟨s, h1, h2⟩ := isqrt_nat n
    by_cases h : n + 1 < (s + 1) * (s + 1)
    · exact ⟨s, by omega, h⟩
    · refine ⟨s + 1, by omega, ?_⟩
      have e : (s + 1 + 1) * (s + 1 + 1) = (s + 1) * (s + 1) + 2 * (s + 1) + 1 := by grind
      omega
theorem isqrt {n : Int} (h : 0 ≤ n) : ∃ s : Int, 0 ≤ s ∧ s * s ≤ n ∧ n < (s + 1) * (s + 1) := by
  obtain ⟨s, h1, h2⟩ := isqrt_nat n.toNat
  refine ⟨s, by omega, ?_, ?_⟩
  · have : ((s * s : Nat) : Int) ≤ n := by omega
    simpa using this
  · have : n < (((s + 1) * (s + 1) : Nat) : Int) := by omega
    simpa using this
theorem sq_lt {s t : Int} (hs : 0 ≤ s) (ht : 0 ≤ t) (h : s * s < t * t) : s < t := by
  rcases Int.lt_or_le s t with h1 | h1
  · exact h1
  · have := Int.mul_le_mul h1 h1 ht hs
    omega
theorem sq_le {s t : Int} (hs : 0 ≤ s) (h : s ≤ t) : s * s ≤ t * t := Int.mul_le_mul h h hs (by omega)
structure Root (n s t : Int) : Prop where
  s0 : 0 ≤ s
  le : s * s ≤ n
  lt : n < (s + 1) * (s + 1)
  t_ : t = if s * s < n then s + 1 else s
theorem Root.up {n s t : Int} (h : Root n s t) : n ≤ t * t := by
  have h1 := h.le; have h2 := h.lt; have h3 := h.t_
  split at h3 <;> subst h3 <;> omega
theorem Root.st {n s t : Int} (h : Root n s t) : s ≤ t ∧ t ≤ s + 1 := by
  have h3 := h.t_
  split at h3 <;> omega
theorem Root.low {n s t : Int} (h : Root n s t) : t = 0 ∨ (t - 1) * (t - 1) < n := by
  have h1 := h.le; have h3 := h.t_; have h0 := h.s0
  split at h3
  · right
    have : t - 1 = s := by omega
    rw [this]
    assumption
  · subst h3
    rcases Int.lt_or_le 0 t with h4 | h4
    · right
      have e : (t - 1) * (t - 1) = t * t - 2 * t + 1 := by grind
      omega
    · left; omega
theorem Root.bound {n s t : Int} (h : Root n s t) (hn : n ≤ 140737488355328) : s ≤ 16777216 ∧ t ≤ 16777216 := by
  have h1 := h.le; have h0 := h.s0; have h4 := h.st
  have a : s < 11863284 := sq_lt h0 (by omega) (by omega)
  omega
theorem sqrt_eq {k0 : Nat} (hk : 4294967296 < k0) {a : Int} (h0 : 0 ≤ a) (h1 : a ≤ 2147483648) : ∃ s t, fixed_Sqrt k0 a = some (s, t, 0) ∧ Root (a * 65536) s t := by
  have hn : w_i64 (a * 65536) = a * 65536 := w64 (by omega) (by omega)
  unfold fixed_Sqrt
  rw [if_neg (by simp; omega), hn]
  by_cases hz : a * 65536 = 0
  · rw [if_pos (by simpa using hz), hz]
    exact ⟨0, 0, rfl, ⟨by omega, by omega, by omega, by simp⟩⟩
  · rw [if_neg (by simpa using hz)]
    have hu : w_u64 (a * 65536) = a * 65536 := Go.IntWalk.u64_in _ ⟨by omega, by omega⟩
    obtain ⟨m, hm, hm64, hlt⟩ := len64 (n := a * 65536) (by omega) (by omega)
    rw [hu, hm]
    simp only [Option.bind_some]
    have e1 : w_i64 ((m : Int) + 1) = m + 1 := w64 (by omega) (by omega)
    have e2 : Int.tdiv ((m : Int) + 1) 2 = (m + 1) / 2 := Int.tdiv_eq_ediv_of_nonneg (by omega)
    have e3 : w_i64 (((m : Int) + 1) / 2) = (m + 1) / 2 := w64 (by omega) (by omega)
    rw [e1, e2, e3, if_pos (by omega)]
    have e4 : min (((m : Int) + 1) / 2).toNat 64 = (m + 1) / 2 := by omega
    rw [e4]
    generalize he : (m + 1) / 2 = e
    have p1 : (0 : Int) < 2 ^ e := Int.pow_pos (by omega)
    have p2 : (2 : Int) ^ e ≤ 2 ^ 32 := pmono (by omega)
    have p3 : (2 : Int) ^ m ≤ 2 ^ (e + e) := pmono (by omega)
    rw [pw] at p3
    have p4 : w_i64 (1 * 2 ^ e) = 2 ^ e := by rw [Int.one_mul]; exact w64 (by omega) (by omega)
    rw [p4]
    obtain ⟨s, s0, s1, s2⟩ := isqrt (n := a * 65536) (by omega)
    have s3 : s < 2 ^ e := sq_lt s0 (Int.le_of_lt p1) (by omega)
    rw [root_loop k0 a (m : Int) (a * 65536) s hn (by omega) s0 s1 s2 (by omega) k0 (2 ^ e) p1 (by omega) (by omega) (by omega)]
    simp only [Option.bind_some]
    have b1 : s < 11863284 := sq_lt s0 (by omega) (by omega)
    have b2 : w_i64 (s * s) = s * s := w64 (by have := Int.mul_nonneg s0 s0; omega) (by omega)
    have b3 : w_i64 (s + 1) = s + 1 := w64 (by omega) (by omega)
    rw [b2, b3]
    by_cases hs : s * s < a * 65536
    · rw [if_pos (by simpa using hs)]
      exact ⟨s, s + 1, rfl, ⟨s0, s1, s2, by rw [if_pos hs]⟩⟩
    · rw [if_neg (by simpa using hs)]
      exact ⟨s, s, rfl, ⟨s0, s1, s2, by rw [if_neg hs]⟩⟩
theorem isqrt_ent (k0 : Nat) : interval_Sqrt k0 Ent = some (Ent, true) := by
  unfold interval_Sqrt
  rw [isEnt_ent]
  rfl
theorem isqrt_below (k0 : Nat) {a : TInterval} (ha : Fin a) (h : a.Hi < 0) : interval_Sqrt k0 a = some (⟨0, 0⟩, false) := by
  unfold interval_Sqrt
  rw [isEnt_fin ha]
  simp only [Option.bind_some, Bool.false_eq_true, if_false]
  rw [if_pos (by simpa using h)]
theorem isqrt_fin {k0 : Nat} (hk : 4294967296 < k0) {a : TInterval} (ha : Fin a) (h : 0 ≤ a.Hi) : ∃ s t u v, interval_Sqrt k0 a = some (⟨s, t⟩, true) ∧ Root (mx a.Lo 0 * 65536) s u ∧ Root (a.Hi * 65536) v t ∧ s ≤ t ∧ Fin ⟨s, t⟩ := by
  have ha' := ha
  unfold Fin at ha'
  have hm : 0 ≤ mx a.Lo 0 ∧ mx a.Lo 0 ≤ a.Hi := by unfold mx; split <;> omega
  obtain ⟨s, u, h1, h2⟩ := sqrt_eq hk (a := mx a.Lo 0) (by omega) (by omega)
  obtain ⟨v, t, h3, h4⟩ := sqrt_eq hk (a := a.Hi) (by omega) (by omega)
  have b1 := h2.bound (by omega)
  have b2 := h4.bound (by omega)
  have b0 := h2.s0
  have st : s ≤ t := by
    have c1 := h2.le
    have c2 := h4.up
    have c3 := h4.s0
    have c4 := h4.st
    rcases Int.lt_or_le t s with c5 | c5
    · have : t * t < s * s := by
        have d1 : (t + 1) * (t + 1) ≤ s * s := sq_le (by omega) (by omega)
        have d2 : (t + 1) * (t + 1) = t * t + 2 * t + 1 := by grind
        omega
      omega
    · exact c5
  have hf : Fin ⟨s, t⟩ := by unfold Fin; simp only; omega
  unfold interval_Sqrt
  rw [isEnt_fin ha]
  simp only [Option.bind_some, Bool.false_eq_true, if_false]
  rw [if_neg (by simpa using h), h1, h3]
  simp only [Option.bind_some, new_eq, nw_fin hf]
  exact ⟨s, t, u, v, rfl, h2, h4, st, hf⟩
theorem subset_of {a b : TInterval} (h : b.Lo ≤ a.Lo ∧ a.Hi ≤ b.Hi) : interval_Subset a b = some true := by
  unfold interval_Subset
  rw [decide_eq_true h.1, decide_eq_true h.2]
  rfl
theorem subset_ent {a : TInterval} (h : Ok a) : interval_Subset a Ent = some true := by
  have h1 := h.wlo
  have h2 := h.whi
  unfold Wid at h1 h2
  exact subset_of (by simp only [Ent]; omega)
theorem sub_nw {x y x' y' : Int} (h : x ≤ y) (h1 : x' ≤ x) (h2 : y ≤ y') : interval_Subset (nw x y) (nw x' y') = some true := by
  rcases nw_cases x' y' (by omega) with ⟨e, _⟩ | ⟨e, f⟩
  · rw [e]
    exact subset_ent (nw_ok h)
  · have f' : Fin ⟨x, y⟩ := by unfold Fin at *; simp only at *; omega
    rw [e, nw_fin f']
    exact subset_of (by simp only; omega)
theorem nw_self {a : TInterval} (h : Fin a) : nw a.Lo a.Hi = a := nw_fin h
theorem sub_nw_l {a : TInterval} (h : Fin a) {x' y' : Int} (h1 : x' ≤ a.Lo) (h2 : a.Hi ≤ y') : interval_Subset a (nw x' y') = some true := by
  have := sub_nw (x := a.Lo) (y := a.Hi) h.2.1 h1 h2
  rw [nw_self h] at this
  exact this
theorem fc {l h d : Int} (hd : 0 < d) (hl : l ≤ h) : l / d ≤ cdiv h d := by
  have h1 := (cdiv_le (a := h) (c := cdiv h d) hd).1 (Int.le_refl _)
  have h2 := (le_fdiv (a := l) (c := l / d) hd).1 (Int.le_refl _)
  rcases Int.lt_or_le (cdiv h d) (l / d) with h3 | h3
  · have : (cdiv h d + 1) * d ≤ l / d * d := mulR (by omega) (by omega)
    rw [Int.add_mul] at this
    omega
  · exact h3
theorem le_cdiv {a b c : Int} (hb : 0 < b) (h : c * b ≤ a) : c ≤ cdiv a b := by
  have h1 := (cdiv_le (a := a) (c := cdiv a b) hb).1 (Int.le_refl _)
  exact Int.le_of_mul_le_mul_right (Int.le_trans h h1) hb
theorem fdiv_le_of {a b c : Int} (hb : 0 < b) (h : a ≤ c * b) : a / b ≤ c := by
  have h1 := (le_fdiv (a := a) (c := a / b) hb).1 (Int.le_refl _)
  exact Int.le_of_mul_le_mul_right (Int.le_trans h1 h) hb
theorem cdiv_mono {a b d : Int} (hd : 0 < d) (h : a ≤ b) : cdiv a d ≤ cdiv b d :=
  (cdiv_le hd).2 (Int.le_trans h ((cdiv_le hd).1 (Int.le_refl _)))
theorem f_le (x : Int) : x / 65536 * 65536 ≤ x := (le_fdiv (by omega)).1 (Int.le_refl _)
theorem c_le (x : Int) : x ≤ cdiv x 65536 * 65536 := (cdiv_le (by omega)).1 (Int.le_refl _)
theorem Ok.b {a : TInterval} (h : Ok a) : -2147483648 ≤ a.Lo ∧ a.Lo ≤ a.Hi ∧ a.Hi ≤ 2147483648 ∧ (a ≠ Ent → -2147483648 < a.Lo ∧ a.Hi < 2147483648) := by
  rcases h with rfl | h
  · simp [Ent]
  · unfold Fin at h
    exact ⟨by omega, by omega, by omega, fun _ => by omega⟩
theorem Ok.ent_of {a : TInterval} (h : Ok a) (h1 : a.Lo ≤ -2147483648 ∨ 2147483648 ≤ a.Hi) : a = Ent := by
  rcases h with h | h
  · exact h
  · unfold Fin at h; omega
theorem mnl (x y : Int) : mn x y ≤ x ∧ mn x y ≤ y ∧ (mn x y = x ∨ mn x y = y) := by unfold mn; split <;> omega
theorem mxl (x y : Int) : x ≤ mx x y ∧ y ≤ mx x y ∧ (mx x y = x ∨ mx x y = y) := by unfold mx; split <;> omega
theorem subset_eq (a b : TInterval) : interval_Subset a b = some (decide (b.Lo ≤ a.Lo ∧ a.Hi ≤ b.Hi)) := by unfold interval_Subset; rw [Bool.decide_and]
theorem hull_ok {a b : TInterval} (ha : Ok a) (hb : Ok b) : Ok ⟨mn a.Lo b.Lo, mx a.Hi b.Hi⟩ := by
  have h1 := mnl a.Lo b.Lo; have h2 := mxl a.Hi b.Hi; have h3 := ha.b; have h4 := hb.b
  by_cases e : a = Ent
  · subst e; left; simp only [Ent, TInterval.mk.injEq] at *; omega
  · by_cases e' : b = Ent
    · subst e'; left; simp only [Ent, TInterval.mk.injEq] at *; omega
    · right; have h5 := h3.2.2.2 e; have h6 := h4.2.2.2 e'; unfold Fin; simp only; omega
theorem fvalid_eq (x : Int) : fixed_Valid x = some (decide (-2147483648 < x ∧ x < 2147483648)) := by unfold fixed_Valid; rw [Bool.decide_and]
theorem ival {a : TInterval} (h : Ok a) : interval_Valid a = some true := by
  unfold interval_Valid
  rcases h with rfl | h
  · exact bT isEnt_ent (gF Bool.false_ne_true (gF Bool.false_ne_true rfl))
  · have h' := h
    unfold Fin at h'
    refine bT (isEnt_fin h) (gT rfl (fvalid_eq _) (gT ?_ (fvalid_eq _) ?_))
    · rw [decide_eq_true (by omega)]; rfl
    · rw [decide_eq_true (by omega), decide_eq_true (by omega), decide_eq_true (by omega)]; rfl
theorem Fin.le {a : TInterval} (h : Fin a) : a.Lo ≤ a.Hi := h.2.1
theorem add_ok' {a b : TInterval} (ha : Ok a) (hb : Ok b) : ∃ r, interval_Add a b = some r ∧ Ok r := by
  rcases ha with rfl | ha
  · exact ⟨Ent, add_entl _, .inl rfl⟩
  · rcases hb with rfl | hb
    · exact ⟨Ent, add_entr _, .inl rfl⟩
    · exact ⟨_, add_fin ha hb, nw_ok (by have := ha.le; have := hb.le; omega)⟩
theorem sub_entl {b : TInterval} (hb : Ok b) : interval_Sub Ent b = some Ent := by
  unfold interval_Sub
  exact bT (neg_ok hb) (bT (add_entl _) rfl)
theorem sub_entr (a : TInterval) : interval_Sub a Ent = some Ent := by
  unfold interval_Sub
  exact bT (neg_ok (.inl rfl)) (bT (v := Ent) (add_entr a) rfl)
theorem sub_ok {a b : TInterval} (ha : Ok a) (hb : Ok b) : ∃ r, interval_Sub a b = some r ∧ Ok r := by
  rcases ha with rfl | ha
  · exact ⟨Ent, sub_entl hb, .inl rfl⟩
  · rcases hb with rfl | hb
    · exact ⟨Ent, sub_entr _, .inl rfl⟩
    · exact ⟨_, sub_fin ha hb, nw_ok (by have := ha.le; have := hb.le; omega)⟩
theorem mul_ok {a b : TInterval} (ha : Ok a) (hb : Ok b) : ∃ r, interval_Mul a b = some r ∧ Ok r := by
  rcases ha with rfl | ha
  · exact ⟨Ent, mul_entl _, .inl rfl⟩
  · rcases hb with rfl | hb
    · exact ⟨Ent, mul_entr _, .inl rfl⟩
    · obtain ⟨l, h, hm, H⟩ := mul_fin ha hb
      exact ⟨_, hm, nw_ok (fc (by omega) H.le)⟩
theorem DHull.fits {a b : TInterval} {x y u v : Int} (H : DHull a b x y u v) (hb : 0 < b.Lo) : x * 65536 / y ≤ cdiv (u * 65536) v := by
  have h1 := frac_mono H.ypos hb H.lo.1
  have h2 := cfrac_mono hb H.vpos H.hi.1
  have h3 := fc (l := a.Lo * 65536) hb (Int.le_refl _)
  omega
theorem div_ok {a b : TInterval} (ha : Ok a) (hb : Ok b) : ∃ r, interval_Div a b = some r ∧ Ok r := by
  rcases ha with rfl | ha
  · exact ⟨Ent, div_entl _, .inl rfl⟩
  · rcases hb with rfl | hb
    · exact ⟨Ent, div_entr _, .inl rfl⟩
    · rcases Int.lt_or_le 0 b.Lo with h0 | h0
      · obtain ⟨x, y, u, v, hd, D⟩ := div_above ha hb h0
        exact ⟨_, hd, nw_ok (D.fits h0)⟩
      · rcases Int.lt_or_le b.Hi 0 with h1 | h1
        · obtain ⟨x, y, u, v, hd, D⟩ := div_below ha hb h1
          exact ⟨_, hd, nw_ok (D.fits (by simp only [ngv]; omega))⟩
        · exact ⟨Ent, div_zero ha hb ⟨h0, h1⟩, .inl rfl⟩
theorem sqm_nn (a : TInterval) : 0 ≤ sqm a := (mxl _ _).2.1
theorem sq_le2 {a : TInterval} (h : Fin a) : sqm a * sqm a ≤ mag a * mag a := by
  have h1 := sq_mem h (p := a.Lo) ⟨by omega, h.le⟩
  omega
theorem sq_ok {a : TInterval} (ha : Ok a) : ∃ r, interval_Square a = some r ∧ Ok r := by
  rcases ha with rfl | ha
  · exact ⟨Ent, sq_ent, .inl rfl⟩
  · exact ⟨_, sq_fin ha, nw_ok (fc (by omega) (sq_le2 ha))⟩
def Le (a b : TInterval) : Prop := b.Lo ≤ a.Lo ∧ a.Hi ≤ b.Hi
theorem Le.ent {a b : TInterval} (h : Le a b) (hb : Ok b) (e : a = Ent) : b = Ent := by
  subst e
  exact hb.ent_of (.inl h.1)
theorem Le.fin {a b : TInterval} (h : Le a b) (ha : Ok a) (hb : Fin b) : Fin a := by
  rcases ha with rfl | ha
  · unfold Le Ent at h; unfold Fin at hb; simp only at h; omega
  · exact ha
theorem mono_add {a b a' b' : TInterval} (ha : Ok a) (hb : Ok b) (ha' : Ok a') (hb' : Ok b') (h1 : Le a a') (h2 : Le b b') : ∃ r r', interval_Add a b = some r ∧ interval_Add a' b' = some r' ∧ interval_Subset r r' = some true := by
  obtain ⟨r, hr, okr⟩ := add_ok' ha hb
  rcases ha' with rfl | fa'
  · exact ⟨r, Ent, hr, add_entl _, subset_ent okr⟩
  rcases hb' with rfl | fb'
  · exact ⟨r, Ent, hr, add_entr _, subset_ent okr⟩
  have fa := h1.fin ha fa'
  have fb := h2.fin hb fb'
  unfold Le at h1 h2
  exact ⟨_, _, add_fin fa fb, add_fin fa' fb', sub_nw (by have := fa.le; have := fb.le; omega) (by omega) (by omega)⟩
theorem mono_sub {a b a' b' : TInterval} (ha : Ok a) (hb : Ok b) (ha' : Ok a') (hb' : Ok b') (h1 : Le a a') (h2 : Le b b') : ∃ r r', interval_Sub a b = some r ∧ interval_Sub a' b' = some r' ∧ interval_Subset r r' = some true := by
  obtain ⟨r, hr, okr⟩ := sub_ok ha hb
  have hb2 := hb'
  rcases ha' with rfl | fa'
  · exact ⟨r, Ent, hr, sub_entl hb2, subset_ent okr⟩
  rcases hb' with rfl | fb'
  · exact ⟨r, Ent, hr, sub_entr _, subset_ent okr⟩
  have fa := h1.fin ha fa'
  have fb := h2.fin hb fb'
  unfold Le at h1 h2
  exact ⟨_, _, sub_fin fa fb, sub_fin fa' fb', sub_nw (by have := fa.le; have := fb.le; omega) (by omega) (by omega)⟩
theorem Hull.mono {a b a' b' : TInterval} {l h l' h' : Int} (fa : Fin a) (fb : Fin b) (H : Hull a b l h) (H' : Hull a' b' l' h') (h1 : Le a a') (h2 : Le b b') : l' ≤ l ∧ h ≤ h' := by
  unfold Le at h1 h2
  have la := fa.le; have lb := fb.le
  have i := H.isl; have j := H.ish
  have m1 := H'.mem (p := a.Lo) (q := b.Lo) (by omega) (by omega)
  have m2 := H'.mem (p := a.Lo) (q := b.Hi) (by omega) (by omega)
  have m3 := H'.mem (p := a.Hi) (q := b.Lo) (by omega) (by omega)
  have m4 := H'.mem (p := a.Hi) (q := b.Hi) (by omega) (by omega)
  omega
theorem mono_mul {a b a' b' : TInterval} (ha : Ok a) (hb : Ok b) (ha' : Ok a') (hb' : Ok b') (h1 : Le a a') (h2 : Le b b') : ∃ r r', interval_Mul a b = some r ∧ interval_Mul a' b' = some r' ∧ interval_Subset r r' = some true := by
  obtain ⟨r, hr, okr⟩ := mul_ok ha hb
  rcases ha' with rfl | fa'
  · exact ⟨r, Ent, hr, mul_entl _, subset_ent okr⟩
  rcases hb' with rfl | fb'
  · exact ⟨r, Ent, hr, mul_entr _, subset_ent okr⟩
  have fa := h1.fin ha fa'
  have fb := h2.fin hb fb'
  obtain ⟨l, h, hm, H⟩ := mul_fin fa fb
  obtain ⟨l', h', hm', H'⟩ := mul_fin fa' fb'
  have m := Hull.mono fa fb H H' h1 h2
  exact ⟨_, _, hm, hm', sub_nw (fc (by omega) H.le) (by omega) (cdiv_mono (by omega) m.2)⟩
theorem DHull.mono {a b a' b' : TInterval} {x y u v x' y' u' v' : Int} (la : a.Lo ≤ a.Hi) (lb : b.Lo ≤ b.Hi) (H : DHull a b x y u v) (H' : DHull a' b' x' y' u' v') (h1 : Le a a') (h2 : Le b b') : x' * 65536 / y' ≤ x * 65536 / y ∧ cdiv (u * 65536) v ≤ cdiv (u' * 65536) v' := by
  unfold Le at h1 h2
  have m1 := H'.mem (p := x) (q := y) (by have := H.x_; omega) (by have := H.y_; omega)
  have m2 := H'.mem (p := u) (q := v) (by have := H.u_; omega) (by have := H.v_; omega)
  exact ⟨frac_mono H'.ypos H.ypos m1.1, cfrac_mono H.vpos H'.vpos m2.2⟩
theorem mono_div {a b a' b' : TInterval} (ha : Ok a) (hb : Ok b) (ha' : Ok a') (hb' : Ok b') (h1 : Le a a') (h2 : Le b b') : ∃ r r', interval_Div a b = some r ∧ interval_Div a' b' = some r' ∧ interval_Subset r r' = some true := by
  obtain ⟨r, hr, okr⟩ := div_ok ha hb
  rcases ha' with rfl | fa'
  · exact ⟨r, Ent, hr, div_entl _, subset_ent okr⟩
  rcases hb' with rfl | fb'
  · exact ⟨r, Ent, hr, div_entr _, subset_ent okr⟩
  have fa := h1.fin ha fa'
  have fb := h2.fin hb fb'
  have la := fa.le; have lb := fb.le
  rcases Int.lt_or_le 0 b'.Lo with h0 | h0
  · have h3 : 0 < b.Lo := by unfold Le at h2; omega
    obtain ⟨x, y, u, v, hd, D⟩ := div_above fa fb h3
    obtain ⟨x', y', u', v', hd', D'⟩ := div_above fa' fb' h0
    have m := DHull.mono la lb D D' h1 h2
    exact ⟨_, _, hd, hd', sub_nw (D.fits h3) m.1 m.2⟩
  · rcases Int.lt_or_le b'.Hi 0 with h4 | h4
    · have h3 : b.Hi < 0 := by unfold Le at h2; omega
      obtain ⟨x, y, u, v, hd, D⟩ := div_below fa fb h3
      obtain ⟨x', y', u', v', hd', D'⟩ := div_below fa' fb' h4
      have m := DHull.mono (by simp only [ngv]; omega) (by simp only [ngv]; omega) D D' (by unfold Le ngv at *; simp only; omega) (by unfold Le ngv at *; simp only; omega)
      exact ⟨_, _, hd, hd', sub_nw (D.fits (by simp only [ngv]; omega)) m.1 m.2⟩
    · exact ⟨r, Ent, hr, div_zero fa' fb' ⟨h0, h4⟩, subset_ent okr⟩
theorem mono_sq {a a' : TInterval} (ha : Ok a) (ha' : Ok a') (h1 : Le a a') : ∃ r r', interval_Square a = some r ∧ interval_Square a' = some r' ∧ interval_Subset r r' = some true := by
  obtain ⟨r, hr, okr⟩ := sq_ok ha
  rcases ha' with rfl | fa'
  · exact ⟨r, Ent, hr, sq_ent, subset_ent okr⟩
  have fa := h1.fin ha fa'
  have la := fa.le
  unfold Le at h1
  have s1 : sqm a' ≤ sqm a := by unfold sqm mx; split <;> split <;> split <;> split <;> omega
  have s2 : mag a ≤ mag a' := by unfold mag mx; split <;> split <;> omega
  have s3 : 0 ≤ mag a := by unfold mag mx; split <;> omega
  have q1 := sq_le (sqm_nn a') s1
  have q2 := sq_le s3 s2
  exact ⟨_, _, sq_fin fa, sq_fin fa', sub_nw (fc (by omega) (sq_le2 fa)) (by omega) (cdiv_mono (by omega) q2)⟩
theorem Root.mono {n s t n' s' t' : Int} (h : Root n s t) (h' : Root n' s' t') (hn : n ≤ n') : s ≤ s' ∧ t ≤ t' := by
  constructor
  · have := sq_lt h.s0 (by have := h'.s0; omega) (Int.lt_of_le_of_lt (Int.le_trans h.le hn) h'.lt)
    omega
  · have h1 := h'.up
    have h2 := h'.s0
    have h3 := h'.st
    rcases h.low with h4 | h4
    · omega
    · rcases Int.lt_or_le (t - 1) 0 with h5 | h5
      · omega
      · have := sq_lt h5 (by omega : 0 ≤ t') (by omega)
        omega
theorem refnum (x : Int) : armillaryref02_Number x = some (decide (-2147483648 < x ∧ x < 2147483648)) := by
  unfold armillaryref02_Number
  rw [Bool.decide_and]
theorem refnew (x y : Int) : armillaryref02_New x y = some (if (-2147483648 < x ∧ x < 2147483648) ∧ (-2147483648 < y ∧ y < 2147483648) then ⟨x, y⟩ else Ent) := by
  unfold armillaryref02_New
  by_cases h1 : -2147483648 < x ∧ x < 2147483648
  · refine bT ((refnum x).trans (congrArg some (decide_eq_true h1))) ?_
    by_cases h2 : -2147483648 < y ∧ y < 2147483648
    · refine gT rfl ((refnum y).trans (congrArg some (decide_eq_true h2))) (iF Bool.false_ne_true ?_)
      rw [if_pos ⟨h1, h2⟩]
    · refine gT rfl ((refnum y).trans (congrArg some (decide_eq_false h2))) (iT rfl ?_)
      rw [if_neg (fun h => h2 h.2)]
      rfl
  · refine bT ((refnum x).trans (congrArg some (decide_eq_false h1))) (gF Bool.false_ne_true (iT rfl ?_))
    rw [if_neg (fun h => h1 h.1)]
    rfl
theorem refnew_nw {x y : Int} (h : x ≤ y) : armillaryref02_New x y = some (nw x y) := by
  rw [refnew]
  congr 1
  unfold nw
  by_cases g : (-2147483648 < x ∧ x < 2147483648) ∧ (-2147483648 < y ∧ y < 2147483648)
  · rw [if_pos g, if_neg (by omega)]
  · rw [if_neg g, if_pos (by omega)]
theorem ngv_ent : ngv Ent = Ent := rfl
theorem ngv_fin {a : TInterval} (h : Fin a) : Fin (ngv a) := neg_fin h
theorem ngv_ok {a : TInterval} (h : Ok a) : Ok (ngv a) := by
  rcases h with rfl | h
  · exact .inl rfl
  · exact .inr (ngv_fin h)
theorem neg_is {a : TInterval} (h : Ok a) : interval_Neg a = some (ngv a) := neg_ok h
theorem ngv_le {a : TInterval} (h : a.Lo ≤ a.Hi) : (ngv a).Lo ≤ (ngv a).Hi := by unfold ngv; simp only; omega
theorem sub_neg {a b : TInterval} (hb : Ok b) {r : TInterval} (hr : interval_Sub a b = some r) : interval_Add a (ngv b) = some r := by
  unfold interval_Sub at hr
  rw [neg_is hb] at hr
  simp only [Option.bind_some] at hr
  cases h : interval_Add a (ngv b) with
  | none => rw [h] at hr; cases hr
  | some q => rw [h] at hr; exact hr
def fq (n q : Int) : Int := if 0 < q then n / q else (-n) / (-q)
def cq (n q : Int) : Int := if 0 < q then cdiv n q else cdiv (-n) (-q)
theorem rceil_neg {a b : Int} (hb : b < 0) (ha1 : -4611686018427387904 ≤ a) (ha2 : a ≤ 4611686018427387904) (hb2 : -4611686018427387904 ≤ b) : armillaryref02_Ceil a b = some (cdiv (-a) (-b)) := by
  have hq := ediv_bounds (a := a) (b := -b) (B := 4611686018427387904) (by omega) (by omega) (by omega)
  unfold armillaryref02_Ceil
  have e1 : w_i64 (0 - a) = -a := by rw [w64 (by omega) (by omega)]; omega
  rw [e1]
  refine bT (rfloor_neg hb (by omega) (by omega) hb2) ?_
  unfold cdiv
  rw [Int.neg_neg, w64 (by omega) (by omega)]
  congr 1
  omega
theorem rfq {n q : Int} (h : q ≠ 0) (h1 : -4611686018427387904 ≤ n) (h2 : n ≤ 4611686018427387904) (h3 : -4611686018427387904 ≤ q) (h4 : q ≤ 4611686018427387904) : armillaryref02_Floor n q = some (fq n q) := by
  unfold fq
  by_cases g : 0 < q
  · rw [if_pos g]; exact rfloor g h1 h2 h4
  · rw [if_neg g]; exact rfloor_neg (by omega) h1 h2 h3
theorem rcq {n q : Int} (h : q ≠ 0) (h1 : -4611686018427387904 ≤ n) (h2 : n ≤ 4611686018427387904) (h3 : -4611686018427387904 ≤ q) (h4 : q ≤ 4611686018427387904) : armillaryref02_Ceil n q = some (cq n q) := by
  unfold cq
  by_cases g : 0 < q
  · rw [if_pos g]; exact rceil g h1 h2 h4
  · rw [if_neg g]; exact rceil_neg (by omega) h1 h2 h3
theorem sign_eq (a : TInterval) : interval_Sign a = some (if a.Lo > 0 then 1 else if a.Hi < 0 then -1 else 0) := by
  unfold interval_Sign interval_pick_int
  by_cases h1 : a.Lo > 0 <;> by_cases h2 : a.Hi < 0 <;> simp [h1, h2]
theorem ivalid_eq (a : TInterval) : interval_Valid a = some (decide (Ok a)) := by
  unfold interval_Valid
  by_cases h : a = Ent
  · refine bT (isEnt.trans (congrArg some (decide_eq_true h))) (gF Bool.false_ne_true (gF Bool.false_ne_true ?_))
    rw [decide_eq_true (show Ok a from .inl h)]
    rfl
  · refine bT (isEnt.trans (congrArg some (decide_eq_false h))) (gT rfl (fvalid_eq _) ?_)
    have e : Ok a ↔ Fin a := ⟨fun g => g.resolve_left h, .inr⟩
    by_cases h1 : -2147483648 < a.Lo ∧ a.Lo < 2147483648
    · rw [decide_eq_true h1]
      refine gT rfl (fvalid_eq _) ?_
      by_cases h2 : (-2147483648 < a.Hi ∧ a.Hi < 2147483648) ∧ a.Lo ≤ a.Hi
      · rw [decide_eq_true h2.1, decide_eq_true h2.2, decide_eq_true (e.2 (by unfold Fin; omega))]
        rfl
      · have hno : decide (Ok a) = false := decide_eq_false (fun g => h2 (by have := e.1 g; unfold Fin at this; omega))
        rw [hno]
        by_cases h3 : -2147483648 < a.Hi ∧ a.Hi < 2147483648
        · have h4 : decide (a.Lo ≤ a.Hi) = false := decide_eq_false (fun g => h2 ⟨h3, g⟩)
          rw [h4]; simp
        · rw [decide_eq_false h3]; simp
    · have hno : decide (Ok a) = false := decide_eq_false (fun g => h1 (by have := e.1 g; unfold Fin at this; omega))
      rw [hno, decide_eq_false h1]
      exact gF Bool.false_ne_true rfl
theorem root_ref (k0 : Nat) {n s : Int} (s0 : 0 ≤ s) (s1 : s * s ≤ n) (s2 : n < (s + 1) * (s + 1)) :
    ∀ (j K : Nat) (x : Int), j + 2 ≤ K → 0 ≤ x → x * x ≤ n → n < (x + 2 * 2 ^ j) * (x + 2 * 2 ^ j) → x + 2 * 2 ^ j ≤ 2147483648 → armillaryref02_Root.l9 k0 n K x (2 ^ j) = some s
  | j, 0, x, h, _, _, _, _ => by omega
  | j, K + 1, x, h, h0, h1, h2, h3 => by
    unfold armillaryref02_Root.l9
    have p1 : (0 : Int) < 2 ^ j := Int.pow_pos (by omega)
    refine iT (decide_eq_true p1) ?_
    have w1 : w_i64 (x + 2 ^ j) = x + 2 ^ j := w64 (by omega) (by omega)
    have b := prod_bound (x := x + 2 ^ j) (y := x + 2 ^ j) (A := 2147483648) (B := 2147483648) (by omega) (by omega)
    rw [w1, w64 (x := (x + 2 ^ j) * (x + 2 ^ j)) (by omega) (by omega)]
    have key : ∀ y : Int, 0 ≤ y → y * y ≤ n → n < (y + 2 ^ j) * (y + 2 ^ j) → y + 2 ^ j ≤ 2147483648 → armillaryref02_Root.l9 k0 n K y (w_i64 (Int.tdiv (2 ^ j) 2)) = some s := by
      intro y y0 y1 y2 y3
      cases j with
      | zero =>
        have e : w_i64 (Int.tdiv (2 ^ 0) 2) = 0 := by decide
        rw [e]
        obtain ⟨K', rfl⟩ : ∃ K', K = K' + 1 := ⟨K - 1, by omega⟩
        unfold armillaryref02_Root.l9
        refine iF Bool.false_ne_true ?_
        have a1 := sq_lt y0 (by omega : 0 ≤ s + 1) (by omega)
        have a2 := sq_lt s0 (by omega : 0 ≤ y + 2 ^ 0) (by omega)
        congr 1
        have e2 : (2 : Int) ^ 0 = 1 := by decide
        rw [e2] at a2
        omega
      | succ j =>
        have e : (2 : Int) ^ (j + 1) = 2 * 2 ^ j := by rw [Int.pow_succ]; omega
        have p2 : (0 : Int) < 2 ^ j := Int.pow_pos (by omega)
        have e3 : w_i64 (Int.tdiv (2 ^ (j + 1)) 2) = 2 ^ j := by
          rw [e, Int.tdiv_eq_ediv_of_nonneg (by omega)]
          rw [show (2 * (2 : Int) ^ j) / 2 = 2 ^ j by omega]
          rw [e] at y3
          exact w64 (by omega) (by omega)
        rw [e3]
        rw [e] at y2 y3
        exact root_ref k0 s0 s1 s2 j K y (by omega) y0 y1 y2 y3
    by_cases g : (x + 2 ^ j) * (x + 2 ^ j) ≤ n
    · refine bT (v := x + 2 ^ j) (iT (decide_eq_true g) rfl) (key _ (by omega) g ?_ (by omega))
      have e : x + 2 ^ j + 2 ^ j = x + 2 * 2 ^ j := by omega
      rw [e]
      exact h2
    · exact bT (v := x) (iF (by simpa using g) rfl) (key _ h0 h1 (by omega) (by omega))
theorem root_is {k0 : Nat} (hk : 4294967296 < k0) {n s t : Int} (R : Root n s t) (hn : n ≤ 140737488355328) : armillaryref02_Root k0 n = some s := by
  unfold armillaryref02_Root
  have h0 : 0 ≤ n := by have := R.le; have := Int.mul_nonneg R.s0 R.s0; omega
  have e : (1073741824 : Int) = 2 ^ 30 := by decide
  rw [e]
  exact bT (root_ref k0 R.s0 R.le R.lt 30 k0 0 (by omega) (by omega) (by omega) (by simp only [Int.reducePow]; omega) (by simp only [Int.reducePow]; omega)) rfl
theorem rsqrt_eq {k0 : Nat} (hk : 4294967296 < k0) {a : TInterval} (ha : Ok a) : ∃ R, interval_Sqrt k0 a = some R ∧ armillaryref02_Sqrt k0 a = some R := by
  unfold armillaryref02_Sqrt
  rcases ha with rfl | fa
  · exact ⟨_, isqrt_ent k0, bT ref_isEnt_ent (iT rfl rfl)⟩
  · rcases Int.lt_or_le a.Hi 0 with h0 | h0
    · exact ⟨_, isqrt_below k0 fa h0, bT (ref_isEnt_fin fa) (iF Bool.false_ne_true (iT (decide_eq_true h0) rfl))⟩
    · obtain ⟨s, t, u, v, hs, R1, R2, st, fs⟩ := isqrt_fin hk fa h0
      have fa' := fa
      unfold Fin at fa'
      have x1 := mxl a.Lo 0
      have b2 := R2.bound (by omega)
      have v0 := R2.s0
      have vt := R2.st
      have pb := prod_bound (x := v) (y := v) (A := 16777216) (B := 16777216) (by omega) (by omega)
      refine ⟨_, hs, bT (ref_isEnt_fin fa) (iF Bool.false_ne_true (iF (by simpa using h0) ?_))⟩
      rw [w64 (x := mx a.Lo 0 * 65536) (by omega) (by omega), w64 (x := a.Hi * 65536) (by omega) (by omega)]
      refine bT (root_is hk R1 (by omega)) (bT (root_is hk R2 (by omega)) (bT (v := t) ?_ (bT ((refnew_nw st).trans (congrArg some (nw_fin fs))) rfl)))
      rw [w64 (x := v * v) (by omega) (by omega), w64 (x := v + 1) (by omega) (by omega)]
      have ht := R2.t_
      by_cases g : v * v < a.Hi * 65536
      · rw [if_pos g] at ht
        exact iT (decide_eq_true g) (by rw [ht])
      · rw [if_neg g] at ht
        exact iF (by simpa using g) (by rw [ht])
theorem rsign_eq (a : TInterval) : armillaryref02_Sign a = interval_Sign a := by
  rw [sign_eq]
  unfold armillaryref02_Sign
  by_cases h : a.Lo > 0
  · rw [if_pos h]; exact iT (decide_eq_true h) rfl
  · rw [if_neg h]
    refine iF (by simpa using h) ?_
    by_cases h2 : a.Hi < 0
    · rw [if_pos h2]; exact iT (decide_eq_true h2) rfl
    · rw [if_neg h2]; exact iF (by simpa using h2) rfl
theorem radd_eq {a b : TInterval} (ha : Ok a) (hb : Ok b) : armillaryref02_Add a b = interval_Add a b := by
  unfold armillaryref02_Add
  rcases ha with rfl | ha
  · rw [add_entl]; exact bT ref_isEnt_ent (gF Bool.false_ne_true (iT rfl rfl))
  · rcases hb with rfl | hb
    · rw [add_entr]; exact bT (ref_isEnt_fin ha) (gT rfl ref_isEnt_ent (iT rfl rfl))
    · rw [add_fin ha hb]
      refine bT (ref_isEnt_fin ha) (gT rfl (ref_isEnt_fin hb) (iF Bool.false_ne_true ?_))
      have la := ha.le; have lb := hb.le
      unfold Fin at ha hb
      rw [w64 (x := a.Lo + b.Lo) (by omega) (by omega), w64 (x := a.Hi + b.Hi) (by omega) (by omega)]
      exact bT (refnew_nw (by omega)) rfl
theorem rneg_eq (a : TInterval) : armillaryref02_Neg a = interval_Neg a := rfl
theorem rsub_eq {a b : TInterval} (ha : Ok a) (hb : Ok b) : armillaryref02_Sub a b = interval_Sub a b := by
  obtain ⟨t, ht, okt⟩ := sub_ok ha hb
  rw [ht]
  unfold armillaryref02_Sub
  rw [rneg_eq]
  refine bT (neg_is hb) (bT (v := t) ?_ rfl)
  rw [radd_eq ha (ngv_ok hb)]
  exact sub_neg hb ht
theorem rmul_step {k0 : Nat} {a b : TInterval} {t3 t4 : Bool} {A B C D : Int} (hA : w_i64 (a.Lo * b.Lo) = A) (hB : w_i64 (a.Lo * b.Hi) = B) (hC : w_i64 (a.Hi * b.Lo) = C) (hD : w_i64 (a.Hi * b.Hi) = D) {i v : Int} (hi : 0 ≤ i ∧ i < 4) (hv : [A, B, C, D][i.toNat]? = some v) (k : Nat) (l h : Int) :
    armillaryref02_Mul.l20 k0 a b t3 t4 (k + 1) l h i = armillaryref02_Mul.l20 k0 a b t3 t4 k (mn l v) (mx h v) (i + 1) := by
  conv => lhs; unfold armillaryref02_Mul.l20
  rw [hA, hB, hC, hD]
  refine iT (decide_eq_true hi.2) (iT hi (bT hv (iT hi (bT hv ?_))))
  rw [w64 (x := i + 1) (by omega) (by omega)]
theorem rmul_eq {k0 : Nat} (hk : 4294967296 < k0) {a b : TInterval} (ha : Ok a) (hb : Ok b) : armillaryref02_Mul k0 a b = interval_Mul a b := by
  unfold armillaryref02_Mul
  rcases ha with rfl | fa
  · rw [mul_entl]; exact bT ref_isEnt_ent (gF Bool.false_ne_true (iT rfl rfl))
  rcases hb with rfl | fb
  · rw [mul_entr]; exact bT (ref_isEnt_fin fa) (gT rfl ref_isEnt_ent (iT rfl rfl))
  obtain ⟨l, h, hm, H⟩ := mul_fin fa fb
  rw [hm]
  have b1 := prod_bound (A := 2147483648) (B := 2147483648) fa.wlo fb.wlo
  have b2 := prod_bound (A := 2147483648) (B := 2147483648) fa.wlo fb.whi
  have b3 := prod_bound (A := 2147483648) (B := 2147483648) fa.whi fb.wlo
  have b4 := prod_bound (A := 2147483648) (B := 2147483648) fa.whi fb.whi
  have w1 : w_i64 (a.Lo * b.Lo) = a.Lo * b.Lo := w64 (by omega) (by omega)
  have w2 : w_i64 (a.Lo * b.Hi) = a.Lo * b.Hi := w64 (by omega) (by omega)
  have w3 : w_i64 (a.Hi * b.Lo) = a.Hi * b.Lo := w64 (by omega) (by omega)
  have w4 : w_i64 (a.Hi * b.Hi) = a.Hi * b.Hi := w64 (by omega) (by omega)
  refine bT (ref_isEnt_fin fa) (gT rfl (ref_isEnt_fin fb) (iF Bool.false_ne_true ?_))
  have loop : ∀ K, 4 ≤ K → armillaryref02_Mul.l20 k0 a b false false K (a.Lo * b.Lo) (a.Lo * b.Lo) 1 = some (l, h) := by
    intro K hK
    obtain ⟨m, rfl⟩ : ∃ m, K = m + 4 := ⟨K - 4, by omega⟩
    rw [rmul_step w1 w2 w3 w4 (i := 1) (v := a.Lo * b.Hi) (by omega) rfl (m + 3), rmul_step w1 w2 w3 w4 (i := 1 + 1) (v := a.Hi * b.Lo) (by omega) rfl (m + 2), rmul_step w1 w2 w3 w4 (i := 1 + 1 + 1) (v := a.Hi * b.Hi) (by omega) rfl (m + 1)]
    unfold armillaryref02_Mul.l20
    refine iF Bool.false_ne_true ?_
    have h1 := H.lo; have h2 := H.hi; have h3 := H.isl; have h4 := H.ish
    have m1 := mnl (a.Lo * b.Lo) (a.Lo * b.Hi); have m2 := mnl (mn (a.Lo * b.Lo) (a.Lo * b.Hi)) (a.Hi * b.Lo); have m3 := mnl (mn (mn (a.Lo * b.Lo) (a.Lo * b.Hi)) (a.Hi * b.Lo)) (a.Hi * b.Hi)
    have n1 := mxl (a.Lo * b.Lo) (a.Lo * b.Hi); have n2 := mxl (mx (a.Lo * b.Lo) (a.Lo * b.Hi)) (a.Hi * b.Lo); have n3 := mxl (mx (mx (a.Lo * b.Lo) (a.Lo * b.Hi)) (a.Hi * b.Lo)) (a.Hi * b.Hi)
    have e1 : mn (mn (mn (a.Lo * b.Lo) (a.Lo * b.Hi)) (a.Hi * b.Lo)) (a.Hi * b.Hi) = l := by omega
    have e2 : mx (mx (mx (a.Lo * b.Lo) (a.Lo * b.Hi)) (a.Hi * b.Lo)) (a.Hi * b.Hi) = h := by omega
    rw [e1, e2]
  rw [w1]
  have hl := H.isl
  have hh := H.ish
  exact bT (loop k0 (by omega)) (bT (rfloor (by omega) (by simp only; omega) (by simp only; omega) (by omega)) (bT (rceil (by omega) (by simp only; omega) (by simp only; omega) (by omega)) (bT (refnew_nw (fc (by omega) H.le)) rfl)))
theorem rsq_eq {a : TInterval} (ha : Ok a) : armillaryref02_Square a = interval_Square a := by
  unfold armillaryref02_Square
  rcases ha with rfl | fa
  · rw [sq_ent]; exact bT ref_isEnt_ent (iT rfl rfl)
  have b1 := prod_bound (A := 2147483648) (B := 2147483648) fa.wlo fa.wlo
  have b4 := prod_bound (A := 2147483648) (B := 2147483648) fa.whi fa.whi
  have la := fa.le
  rw [sq_fin fa]
  refine bT (ref_isEnt_fin fa) (iF Bool.false_ne_true ?_)
  rw [w64 (x := a.Lo * a.Lo) (by omega) (by omega), w64 (x := a.Hi * a.Hi) (by omega) (by omega)]
  have q1 := cmpR la a.Lo; have q2 := cmpR la a.Hi; have q3 := Int.mul_comm a.Hi a.Lo
  have n1 : 0 ≤ a.Lo * a.Lo := by have := Int.natAbs_mul_self (a := a.Lo); omega
  have n2 : 0 ≤ a.Hi * a.Hi := by have := Int.natAbs_mul_self (a := a.Hi); omega
  have e2 : mx (a.Lo * a.Lo) (a.Hi * a.Hi) = mag a * mag a := by
    have hmag : mag a = a.Hi ∧ -a.Lo ≤ a.Hi ∨ mag a = -a.Lo ∧ a.Hi < -a.Lo := by unfold mag mx; split <;> omega
    have m := mxl (a.Lo * a.Lo) (a.Hi * a.Hi)
    rcases hmag with ⟨e, g⟩ | ⟨e, g⟩ <;> rw [e]
    · have : a.Lo * a.Lo ≤ a.Hi * a.Hi := by
        rcases Int.lt_or_le a.Lo 0 with h | h
        · have := sq_le (s := -a.Lo) (t := a.Hi) (by omega) g
          rw [Int.neg_mul_neg] at this
          exact this
        · exact sq_le h la
      omega
    · rw [Int.neg_mul_neg]
      have : a.Hi * a.Hi ≤ a.Lo * a.Lo := by
        rcases Int.lt_or_le a.Hi 0 with h | h
        · have := sq_le (s := -a.Hi) (t := -a.Lo) (by omega) (by omega)
          rw [Int.neg_mul_neg, Int.neg_mul_neg] at this
          exact this
        · have := sq_le (s := a.Hi) (t := -a.Lo) h (by omega)
          rw [Int.neg_mul_neg] at this
          exact this
      omega
  have e1 : (if ((decide (a.Lo ≤ 0)) && (decide (a.Hi ≥ 0))) = true then some (0 : Int) else some (mn (a.Lo * a.Lo) (a.Hi * a.Hi))) = some (sqm a * sqm a) := by
    have hsq : a.Lo ≤ 0 ∧ a.Hi ≥ 0 ∧ sqm a = 0 ∨ 0 < a.Lo ∧ sqm a = a.Lo ∨ a.Hi < 0 ∧ sqm a = -a.Hi := by unfold sqm mx; split <;> split <;> omega
    have m := mnl (a.Lo * a.Lo) (a.Hi * a.Hi)
    rcases hsq with ⟨h1, h2, e⟩ | ⟨h1, e⟩ | ⟨h1, e⟩ <;> rw [e]
    · rw [decide_eq_true h1, decide_eq_true h2]; rfl
    · refine iF (by simp; omega) ?_
      have := sq_le (Int.le_of_lt h1) la
      congr 1; omega
    · refine iF (by simp; omega) ?_
      have := sq_le (s := -a.Hi) (t := -a.Lo) (by omega) (by omega)
      rw [Int.neg_mul_neg] at this ⊢
      rw [Int.neg_mul_neg] at this
      congr 1; omega
  have sb := sq_le2 fa
  have s0 := Int.mul_nonneg (sqm_nn a) (sqm_nn a)
  have mb : mag a * mag a ≤ 2147483648 * 2147483648 := by have := mxl (a.Lo * a.Lo) (a.Hi * a.Hi); omega
  refine bT e1 (bT (rfloor (by omega) (by omega) (by omega) (by omega)) ?_)
  rw [e2]
  exact bT (rceil (by omega) (by omega) (by omega) (by omega)) (bT (refnew_nw (fc (by omega) sb)) rfl)
structure Cor (a b : TInterval) (L U : Int) : Prop where
  le : L ≤ U
  lo : L ≤ fq (a.Lo * 65536) b.Lo ∧ L ≤ fq (a.Lo * 65536) b.Hi ∧ L ≤ fq (a.Hi * 65536) b.Lo ∧ L ≤ fq (a.Hi * 65536) b.Hi
  hi : cq (a.Lo * 65536) b.Lo ≤ U ∧ cq (a.Lo * 65536) b.Hi ≤ U ∧ cq (a.Hi * 65536) b.Lo ≤ U ∧ cq (a.Hi * 65536) b.Hi ≤ U
  isl : L = fq (a.Lo * 65536) b.Lo ∨ L = fq (a.Lo * 65536) b.Hi ∨ L = fq (a.Hi * 65536) b.Lo ∨ L = fq (a.Hi * 65536) b.Hi
  ish : U = cq (a.Lo * 65536) b.Lo ∨ U = cq (a.Lo * 65536) b.Hi ∨ U = cq (a.Hi * 65536) b.Lo ∨ U = cq (a.Hi * 65536) b.Hi
theorem fq_pos {n q : Int} (h : 0 < q) : fq n q = n / q := by unfold fq; rw [if_pos h]
theorem cq_pos {n q : Int} (h : 0 < q) : cq n q = cdiv n q := by unfold cq; rw [if_pos h]
theorem fq_neg {p q : Int} (h : q < 0) : fq (p * 65536) q = -p * 65536 / -q := by unfold fq; rw [if_neg (by omega), Int.neg_mul]
theorem cq_neg {p q : Int} (h : q < 0) : cq (p * 65536) q = cdiv (-p * 65536) (-q) := by unfold cq; rw [if_neg (by omega), Int.neg_mul]
theorem DHull.cor {a b : TInterval} {x y u v : Int} (D : DHull a b x y u v) (hb : 0 < b.Lo) (lb : b.Lo ≤ b.Hi) : Cor a b (x * 65536 / y) (cdiv (u * 65536) v) := by
  have hb' : 0 < b.Hi := by omega
  have h1 := D.lo; have h2 := D.hi; have hy := D.ypos; have hv := D.vpos
  refine ⟨D.fits hb, ?_, ?_, ?_, ?_⟩
  · rw [fq_pos hb, fq_pos hb', fq_pos hb, fq_pos hb']
    exact ⟨frac_mono hy hb h1.1, frac_mono hy hb' h1.2.1, frac_mono hy hb h1.2.2.1, frac_mono hy hb' h1.2.2.2⟩
  · rw [cq_pos hb, cq_pos hb', cq_pos hb, cq_pos hb']
    exact ⟨cfrac_mono hb hv h2.1, cfrac_mono hb' hv h2.2.1, cfrac_mono hb hv h2.2.2.1, cfrac_mono hb' hv h2.2.2.2⟩
  · rw [fq_pos hb, fq_pos hb', fq_pos hb, fq_pos hb']
    rcases D.x_ with rfl | rfl <;> rcases D.y_ with rfl | rfl <;> simp
  · rw [cq_pos hb, cq_pos hb', cq_pos hb, cq_pos hb']
    rcases D.u_ with rfl | rfl <;> rcases D.v_ with rfl | rfl <;> simp
theorem Cor.neg {a b : TInterval} {L U : Int} (C : Cor (ngv a) (ngv b) L U) (hb : b.Hi < 0) (lb : b.Lo ≤ b.Hi) : Cor a b L U := by
  have hb' : b.Lo < 0 := by omega
  obtain ⟨c0, c1, c2, c3, c4⟩ := C
  simp only [ngv] at c1 c2 c3 c4
  rw [fq_pos (q := -b.Lo) (by omega), fq_pos (q := -b.Hi) (by omega), fq_pos (q := -b.Lo) (by omega), fq_pos (q := -b.Hi) (by omega)] at c1 c3
  rw [cq_pos (q := -b.Lo) (by omega), cq_pos (q := -b.Hi) (by omega), cq_pos (q := -b.Lo) (by omega), cq_pos (q := -b.Hi) (by omega)] at c2 c4
  refine ⟨c0, ?_, ?_, ?_, ?_⟩
  · rw [fq_neg hb, fq_neg hb', fq_neg hb, fq_neg hb']; omega
  · rw [cq_neg hb, cq_neg hb', cq_neg hb, cq_neg hb']; omega
  · rw [fq_neg hb, fq_neg hb', fq_neg hb, fq_neg hb']; omega
  · rw [cq_neg hb, cq_neg hb', cq_neg hb, cq_neg hb']; omega
theorem div_cor {a b : TInterval} (fa : Fin a) (fb : Fin b) (h : 0 < b.Lo ∨ b.Hi < 0) : ∃ L U, interval_Div a b = some (nw L U) ∧ Cor a b L U := by
  rcases h with h | h
  · obtain ⟨x, y, u, v, hd, D⟩ := div_above fa fb h
    exact ⟨_, _, hd, D.cor h fb.le⟩
  · obtain ⟨x, y, u, v, hd, D⟩ := div_below fa fb h
    exact ⟨_, _, hd, (D.cor (by simp only [ngv]; omega) (ngv_le fb.le)).neg h fb.le⟩
theorem rdiv_step {k0 : Nat} {a b : TInterval} {t3 t4 : Bool} {t9 t10 x17 x18 : Int} (fa : Fin a) (fb : Fin b) {i j p q : Int} (hi : 0 ≤ i ∧ i < 2) (hj : 0 ≤ j ∧ j < 2) (hA : [a.Lo, a.Hi][i.toNat]? = some p) (hB : [b.Lo, b.Hi][j.toNat]? = some q) (hp : Wid p) (hq : Wid q) (hz : q ≠ 0) (k : Nat) (l h : Int) :
    armillaryref02_Div.l30 k0 a b t3 t4 t9 t10 x17 x18 i (k + 1) l h j = armillaryref02_Div.l30 k0 a b t3 t4 t9 t10 x17 x18 i k (mn l (fq (p * 65536) q)) (mx h (cq (p * 65536) q)) (j + 1) := by
  unfold Wid at hp hq
  conv => lhs; unfold armillaryref02_Div.l30
  refine iT (decide_eq_true hj.2) (iT hi (bT hA (iT hj (bT hB (bT (v := fq (p * 65536) q) ?_ (iT hi (bT hA (iT hj (bT hB (bT (v := cq (p * 65536) q) ?_ ?_))))))))))
  · rw [w64 (x := p * 65536) (by omega) (by omega)]; exact rfq hz (by omega) (by omega) (by omega) (by omega)
  · rw [w64 (x := p * 65536) (by omega) (by omega)]; exact rcq hz (by omega) (by omega) (by omega) (by omega)
  · rw [w64 (x := j + 1) (by omega) (by omega)]
theorem rdiv_inner {k0 : Nat} {a b : TInterval} {t3 t4 : Bool} {t9 t10 x17 x18 : Int} (fa : Fin a) (fb : Fin b) {i p : Int} (hi : 0 ≤ i ∧ i < 2) (hA : [a.Lo, a.Hi][i.toNat]? = some p) (hp : Wid p) (hz : 0 < b.Lo ∨ b.Hi < 0) {K : Nat} (hK : 3 ≤ K) (l h : Int) :
    armillaryref02_Div.l30 k0 a b t3 t4 t9 t10 x17 x18 i K l h 0 = some (mn (mn l (fq (p * 65536) b.Lo)) (fq (p * 65536) b.Hi), mx (mx h (cq (p * 65536) b.Lo)) (cq (p * 65536) b.Hi)) := by
  obtain ⟨k, rfl⟩ : ∃ k, K = k + 3 := ⟨K - 3, by omega⟩
  have lb := fb.le
  rw [rdiv_step fa fb hi (j := 0) (q := b.Lo) (by omega) hA rfl hp fb.wlo (by omega) (k + 2), rdiv_step fa fb hi (j := 0 + 1) (q := b.Hi) (by omega) hA rfl hp fb.whi (by omega) (k + 1)]
  unfold armillaryref02_Div.l30
  exact iF Bool.false_ne_true rfl
theorem chain_mn {f1 f2 f3 f4 L : Int} (h : L ≤ f1 ∧ L ≤ f2 ∧ L ≤ f3 ∧ L ≤ f4) (g : L = f1 ∨ L = f2 ∨ L = f3 ∨ L = f4) : mn (mn (mn (mn f1 f1) f2) f3) f4 = L := by
  have m1 := mnl f1 f1; have m2 := mnl (mn f1 f1) f2; have m3 := mnl (mn (mn f1 f1) f2) f3; have m4 := mnl (mn (mn (mn f1 f1) f2) f3) f4
  omega
theorem chain_mx {f1 f2 f3 f4 L : Int} (h : f1 ≤ L ∧ f2 ≤ L ∧ f3 ≤ L ∧ f4 ≤ L) (g : L = f1 ∨ L = f2 ∨ L = f3 ∨ L = f4) : mx (mx (mx (mx f1 f1) f2) f3) f4 = L := by
  have m1 := mxl f1 f1; have m2 := mxl (mx f1 f1) f2; have m3 := mxl (mx (mx f1 f1) f2) f3; have m4 := mxl (mx (mx (mx f1 f1) f2) f3) f4
  omega
theorem rdiv_eq {k0 : Nat} (hk : 4294967296 < k0) {a b : TInterval} (ha : Ok a) (hb : Ok b) : armillaryref02_Div k0 a b = interval_Div a b := by
  unfold armillaryref02_Div
  rcases ha with rfl | fa
  · rw [div_entl]; exact bT ref_isEnt_ent (gF Bool.false_ne_true (iT rfl rfl))
  rcases hb with rfl | fb
  · rw [div_entr]; exact bT (ref_isEnt_fin fa) (gT rfl ref_isEnt_ent (iT rfl rfl))
  refine bT (ref_isEnt_fin fa) (gT rfl (ref_isEnt_fin fb) ?_)
  by_cases hz : b.Lo ≤ 0 ∧ 0 ≤ b.Hi
  · rw [div_zero fa fb hz]
    have h2 : b.Hi ≥ 0 := hz.2
    rw [decide_eq_true hz.1, decide_eq_true h2]
    exact iT rfl rfl
  · have hz' : 0 < b.Lo ∨ b.Hi < 0 := by omega
    obtain ⟨L, U, hd, C⟩ := div_cor fa fb hz'
    rw [hd]
    refine iF (by simp; omega) ?_
    have lb := fb.le
    have wa := fa.wlo
    have wb := fb.wlo
    have ne : b.Lo ≠ 0 := by omega
    have wa' := wa
    have wb' := wb
    unfold Wid at wa' wb'
    rw [w64 (x := a.Lo * 65536) (by omega) (by omega)]
    refine bT (rfq ne (by omega) (by omega) (by omega) (by omega)) (bT (rcq ne (by omega) (by omega) (by omega) (by omega)) (bT (v := (L, U)) ?_ (bT (refnew_nw C.le) rfl)))
    have loop : ∀ K, 3 ≤ K → armillaryref02_Div.l20 k0 a b false false (fq (a.Lo * 65536) b.Lo) (cq (a.Lo * 65536) b.Lo) K (fq (a.Lo * 65536) b.Lo) (cq (a.Lo * 65536) b.Lo) 0 = some (L, U) := by
      intro K hK
      obtain ⟨m, rfl⟩ : ∃ m, K = m + 3 := ⟨K - 3, by omega⟩
      unfold armillaryref02_Div.l20
      refine iT rfl (bT (rdiv_inner fa fb (i := 0) (p := a.Lo) (by omega) rfl fa.wlo hz' (by omega) _ _) ?_)
      rw [w64 (x := 0 + 1) (by omega) (by omega)]
      unfold armillaryref02_Div.l20
      refine iT rfl (bT (rdiv_inner fa fb (i := 0 + 1) (p := a.Hi) (by omega) rfl fa.whi hz' (by omega) _ _) ?_)
      rw [w64 (x := 0 + 1 + 1) (by omega) (by omega)]
      unfold armillaryref02_Div.l20
      refine iF Bool.false_ne_true ?_
      simp only
      rw [chain_mn C.lo C.isl, chain_mx C.hi C.ish]
    exact loop k0 (by omega)
end Go.Proofs.YtkkodieceehkmaaDoor
