/- Intervals: what the program's functions on them come to. Own work: the plain lemmas of the claims of law02, laid over this seat's functions. -/
import Derived.Test.YtglcmhldonkfdaaDoorDefs
import Derived.KernelRfl
import Derived.IntWalk
set_option maxRecDepth 10000
set_option linter.unusedVariables false
set_option linter.unusedSimpArgs false
namespace Go.Proofs.YtglcmhldonkfdaaDoor
open Go
theorem w64 {x : Int} (h1 : -9223372036854775808 ≤ x) (h2 : x ≤ 9223372036854775807) : w_i64 x = x := by
  exact Go.IntWalk.i64_in x ⟨h1, h2⟩
theorem ediv_bounds {a b B : Int} (hb : 0 < b) (h1 : -B ≤ a) (h2 : a ≤ B) : -B ≤ a / b ∧ a / b ≤ B := by
  have hB : 0 ≤ B := by omega
  constructor
  · rw [Int.le_ediv_iff_mul_le hb]
    have : B * 1 ≤ B * b := Int.mul_le_mul_of_nonneg_left (by omega) hB
    have e : -B * b = -(B * b) := Int.neg_mul ..
    omega
  · apply Int.ediv_le_of_le_mul hb
    have : B * 1 ≤ B * b := Int.mul_le_mul_of_nonneg_left (by omega) hB
    omega
def cdiv (a b : Int) : Int := -((-a) / b)
theorem cdiv_le {a b c : Int} (hb : 0 < b) : cdiv a b ≤ c ↔ a ≤ c * b := by
  unfold cdiv
  have : -c ≤ (-a) / b ↔ -c * b ≤ -a := Int.le_ediv_iff_mul_le hb
  rw [Int.neg_mul] at this
  omega
theorem le_fdiv {a b c : Int} (hb : 0 < b) : c ≤ a / b ↔ c * b ≤ a := Int.le_ediv_iff_mul_le hb
theorem tdm (a b : Int) (hb : 0 < b) : (Int.tmod a b < 0 → Int.tdiv a b - 1 = a / b ∧ Int.tmod a b + b = a % b) ∧ (¬ Int.tmod a b < 0 → Int.tdiv a b = a / b ∧ Int.tmod a b = a % b) := by
  have h1 := Int.mul_tdiv_add_tmod a b
  have h2 := Int.tmod_lt_of_pos a hb
  have h3 : -b < Int.tmod a b := by
    have := Int.tmod_lt_of_pos (-a) hb
    rw [Int.neg_tmod] at this
    omega
  have e := fun q r => Int.ediv_emod_unique (a := a) (b := b) (r := r) (q := q) hb
  constructor
  · intro h
    have := (e (Int.tdiv a b - 1) (Int.tmod a b + b)).2 ⟨by rw [Int.mul_sub]; omega, by omega, by omega⟩
    exact ⟨this.1.symm, this.2.symm⟩
  · intro h
    have := (e (Int.tdiv a b) (Int.tmod a b)).2 ⟨by omega, by omega, by omega⟩
    exact ⟨this.1.symm, this.2.symm⟩
theorem cdiv_eq {a b : Int} (hb : 0 < b) : cdiv a b = a / b + mn (a % b) 1 := by
  have h1 := Int.mul_ediv_add_emod a b
  have h2 := Int.emod_nonneg a (by omega : b ≠ 0)
  have h3 := Int.emod_lt_of_pos a hb
  have h5 : mn (a % b) 1 = 0 ∧ a % b = 0 ∨ mn (a % b) 1 = 1 ∧ 1 ≤ a % b := by unfold mn; split <;> omega
  apply Int.le_antisymm
  · rw [cdiv_le hb, Int.add_mul, Int.mul_comm (a / b) b]
    rcases h5 with ⟨h5, h6⟩ | ⟨h5, h6⟩ <;> rw [h5] <;> omega
  · rcases h5 with ⟨h5, h6⟩ | ⟨h5, h6⟩ <;> rw [h5]
    · have := (cdiv_le (a := a) (c := cdiv a b) hb).1 (Int.le_refl _)
      have h7 : a / b ≤ cdiv a b := by
        apply Int.ediv_le_of_le_mul hb this
      omega
    · have h8 : ¬ cdiv a b ≤ a / b := by
        rw [cdiv_le hb, Int.mul_comm]
        omega
      omega
theorem floorCeil_eq {a b : Int} (hb : 0 < b) (ha1 : -4611686018427387904 ≤ a) (ha2 : a ≤ 4611686018427387904) (hb2 : b ≤ 4611686018427387904) : fixed_floorCeil_int64_s112 a b = some (a / b, cdiv a b) := by
  have hq := ediv_bounds hb ha1 ha2
  obtain ⟨t1, t2⟩ := tdm a b hb
  have h2 := Int.emod_nonneg a (by omega : b ≠ 0)
  have h3 := Int.emod_lt_of_pos a hb
  have hc := cdiv_eq (a := a) hb
  have hm : 0 ≤ mn (a % b) 1 ∧ mn (a % b) 1 ≤ 1 := by unfold mn; split <;> omega
  unfold fixed_floorCeil_int64_s112 fixed_divide_1
  rw [if_pos (by omega), if_pos (by omega)]
  by_cases h : Int.tmod a b < 0
  · obtain ⟨e1, e2⟩ := t1 h
    have e3 : w_i64 (Int.tdiv a b) = Int.tdiv a b := w64 (by omega) (by omega)
    have e4 : w_i64 (Int.tdiv a b - 1) = a / b := by rw [e1]; exact w64 (by omega) (by omega)
    have e5 : w_i64 (Int.tmod a b + b) = a % b := by rw [e2]; exact w64 (by omega) (by omega)
    simp only [h, decide_true, if_true, Option.bind_some, e3, e4, e5]
    rw [w64 (by omega) (by omega), ← hc]
  · obtain ⟨e1, e2⟩ := t2 h
    have e3 : w_i64 (Int.tdiv a b) = a / b := by rw [e1]; exact w64 (by omega) (by omega)
    have h' : ¬ a % b < 0 := by omega
    simp only [e2, h', decide_false, Bool.false_eq_true, if_false, Option.bind_some, e3]
    rw [w64 (by omega) (by omega), ← hc]
theorem divide_pos {a b : Int} (hb : 0 < b) (ha1 : -4611686018427387904 ≤ a) (ha2 : a ≤ 4611686018427387904) (hb2 : b ≤ 4611686018427387904) : fixed_divide a b = some (a / b, cdiv a b) := by
  unfold fixed_divide
  rw [if_neg (by simp; omega)]
  simp only [Option.bind_some, floorCeil_eq hb ha1 ha2 hb2]
theorem divide_neg {a b : Int} (hb : b < 0) (ha1 : -4611686018427387904 ≤ a) (ha2 : a ≤ 4611686018427387904) (hb2 : -4611686018427387904 ≤ b) : fixed_divide a b = some ((-a) / (-b), cdiv (-a) (-b)) := by
  unfold fixed_divide
  rw [if_pos (by simp; omega)]
  have e1 : w_i64 (0 - a) = -a := by rw [w64 (by omega) (by omega)]; omega
  have e2 : w_i64 (0 - b) = -b := by rw [w64 (by omega) (by omega)]; omega
  simp only [Option.bind_some, e1, e2, floorCeil_eq (a := -a) (b := -b) (by omega) (by omega) (by omega) (by omega)]
def Wid (x : Int) : Prop := -2147483648 ≤ x ∧ x ≤ 2147483648
theorem prod_bound {x y A B : Int} (hx : -A ≤ x ∧ x ≤ A) (hy : -B ≤ y ∧ y ≤ B) : -(A * B) ≤ x * y ∧ x * y ≤ A * B := by
  have hA : 0 ≤ A := by omega
  have hB : 0 ≤ B := by omega
  have h1 : x.natAbs * y.natAbs ≤ A.natAbs * B.natAbs := Nat.mul_le_mul (by omega) (by omega)
  have h2 : ((x * y).natAbs : Int) ≤ A * B := by
    rw [Int.natAbs_mul]
    have : ((A.natAbs * B.natAbs : Nat) : Int) = A * B := by
      rw [Int.natCast_mul, Int.natAbs_of_nonneg hA, Int.natAbs_of_nonneg hB]
    omega
  omega
theorem mul_eq {x y : Int} (hx : Wid x) (hy : Wid y) : fixed_Mul x y = some (x * y / 65536, cdiv (x * y) 65536) := by
  have := prod_bound (A := 2147483648) (B := 2147483648) hx hy
  unfold fixed_Mul
  rw [w64 (by omega) (by omega), divide_pos (by omega) (by omega) (by omega) (by omega)]
  rfl
theorem div_pos {x y : Int} (hx : Wid x) (hy : Wid y) (h : 0 < y) : fixed_Div x y = some (x * 65536 / y, cdiv (x * 65536) y, 0) := by
  unfold Wid at hx hy
  unfold fixed_Div
  rw [if_neg (by simp; omega), w64 (by omega) (by omega), divide_pos (by omega) (by omega) (by omega) (by omega)]
  rfl
theorem div_neg {x y : Int} (hx : Wid x) (hy : Wid y) (h : y < 0) : fixed_Div x y = some ((-x) * 65536 / (-y), cdiv ((-x) * 65536) (-y), 0) := by
  unfold Wid at hx hy
  unfold fixed_Div
  rw [if_neg (by simp; omega), w64 (by omega) (by omega), divide_neg (by omega) (by omega) (by omega) (by omega), Int.neg_mul]
  rfl
def Ent : TInterval := ⟨-2147483648, 2147483648⟩
def Fin (a : TInterval) : Prop := -2147483648 < a.Lo ∧ a.Lo ≤ a.Hi ∧ a.Hi < 2147483648
def Ok (a : TInterval) : Prop := a = Ent ∨ Fin a
def nw (x y : Int) : TInterval := if x ≤ -2147483648 ∨ y ≥ 2147483648 ∨ x ≥ 2147483648 ∨ y ≤ -2147483648 then Ent else ⟨x, y⟩
theorem Fin.wlo {a : TInterval} (h : Fin a) : Wid a.Lo := by unfold Fin at h; unfold Wid; omega
theorem Fin.whi {a : TInterval} (h : Fin a) : Wid a.Hi := by unfold Fin at h; unfold Wid; omega
theorem isEnt {a : TInterval} : interval_IsEntire a = some (decide (a = Ent)) := by
  simp only [interval_IsEntire, interval_Entire, Option.bind_some, Option.some.injEq]
  obtain ⟨l, h⟩ := a
  simp only [Ent, TInterval.mk.injEq, Bool.decide_and, Bool.and_true]
  rfl
theorem ref_isEnt {a : TInterval} : armillaryref02_IsEntire a = some (decide (a = Ent)) := by
  obtain ⟨l, h⟩ := a
  simp only [armillaryref02_IsEntire, Ent, TInterval.mk.injEq, Bool.decide_and]
  rfl
theorem Fin.ne {a : TInterval} (h : Fin a) : decide (a = Ent) = false := by
  apply decide_eq_false
  rintro rfl
  simp [Fin, Ent] at h
theorem isEnt_fin {a : TInterval} (h : Fin a) : interval_IsEntire a = some false := by rw [isEnt, h.ne]
theorem ref_isEnt_fin {a : TInterval} (h : Fin a) : armillaryref02_IsEntire a = some false := by rw [ref_isEnt, h.ne]
theorem isEnt_ent : interval_IsEntire Ent = some true := by rw [isEnt]; simp
theorem ref_isEnt_ent : armillaryref02_IsEntire Ent = some true := by rw [ref_isEnt]; simp
theorem new_eq (x y : Int) : interval_New x y = some (nw x y) := by
  unfold interval_New nw interval_Entire
  simp only [Option.bind_some]
  by_cases h : x ≤ -2147483648 ∨ y ≥ 2147483648 ∨ x ≥ 2147483648 ∨ y ≤ -2147483648
  · rw [if_pos h, if_pos (by simp; omega)]; rfl
  · rw [if_neg h, if_neg (by simp; omega)]
theorem nw_fin {x y : Int} (h : Fin ⟨x, y⟩) : nw x y = ⟨x, y⟩ := by
  unfold Fin at h
  unfold nw
  simp only at h
  rw [if_neg (by omega)]
theorem nw_ok {x y : Int} (h : x ≤ y) : Ok (nw x y) := by
  unfold nw
  split
  · exact .inl rfl
  · exact .inr (by unfold Fin; simp only; omega)
theorem add_fin {a b : TInterval} (ha : Fin a) (hb : Fin b) : interval_Add a b = some (nw (a.Lo + b.Lo) (a.Hi + b.Hi)) := by
  unfold interval_Add
  rw [isEnt_fin ha, isEnt_fin hb]
  unfold Fin at ha hb
  simp only [Option.bind_some, beq_self_eq_true, if_true, Bool.or_self, Bool.false_eq_true, if_false, new_eq]
  rw [w64 (by omega) (by omega), w64 (by omega) (by omega)]
theorem add_entl (b : TInterval) : interval_Add Ent b = some Ent := by
  unfold interval_Add
  rw [isEnt_ent]
  rfl
theorem add_entr (a : TInterval) : interval_Add a Ent = some Ent := by
  unfold interval_Add
  rw [isEnt, isEnt_ent]
  cases decide (a = Ent) <;> rfl
theorem neg_eq {a : TInterval} (h : Wid a.Lo) (h' : Wid a.Hi) : interval_Neg a = some ⟨-a.Hi, -a.Lo⟩ := by
  unfold Wid at h h'
  unfold interval_Neg
  rw [w64 (by omega) (by omega), w64 (by omega) (by omega)]
  congr 2 <;> omega
theorem Ok.wlo {a : TInterval} (h : Ok a) : Wid a.Lo := by
  rcases h with rfl | h
  · simp [Ent, Wid]
  · exact h.wlo
theorem Ok.whi {a : TInterval} (h : Ok a) : Wid a.Hi := by
  rcases h with rfl | h
  · simp [Ent, Wid]
  · exact h.whi
theorem neg_ok {a : TInterval} (h : Ok a) : interval_Neg a = some ⟨-a.Hi, -a.Lo⟩ := neg_eq h.wlo h.whi
theorem neg_fin {a : TInterval} (h : Fin a) : Fin ⟨-a.Hi, -a.Lo⟩ := by unfold Fin at *; simp only; omega
theorem sub_fin {a b : TInterval} (ha : Fin a) (hb : Fin b) : interval_Sub a b = some (nw (a.Lo - b.Hi) (a.Hi - b.Lo)) := by
  unfold interval_Sub
  rw [neg_eq hb.wlo hb.whi]
  simp only [Option.bind_some, add_fin ha (neg_fin hb)]
  congr 2
theorem bT {α β : Type} {X : Option α} {v : α} {f : α → Option β} {r : Option β} (h : X = some v) (hf : f v = r) : X.bind f = r := by
  subst h
  exact hf
theorem gT {α β : Type} {c : Prop} [Decidable c] {X D : Option α} {v : α} {f : α → Option β} {r : Option β} (hc : c) (h : X = some v) (hf : f v = r) : (if c then X else D).bind f = r := by
  rw [if_pos hc]
  exact bT h hf
theorem gF {α β : Type} {c : Prop} [Decidable c] {X : Option α} {d : α} {f : α → Option β} {r : Option β} (hc : ¬ c) (hf : f d = r) : (if c then X else some d).bind f = r := by
  rw [if_neg hc]
  exact bT rfl hf
theorem iT {β : Type} {c : Prop} [Decidable c] {X Y : Option β} {r : Option β} (hc : c) (h : X = r) : (if c then X else Y) = r := by
  rw [if_pos hc]
  exact h
theorem iF {β : Type} {c : Prop} [Decidable c] {X Y : Option β} {r : Option β} (hc : ¬ c) (h : Y = r) : (if c then X else Y) = r := by
  rw [if_neg hc]
  exact h
theorem cmpR {x y : Int} (h : x ≤ y) (z : Int) : (z < 0 ∨ x * z ≤ y * z) ∧ (0 < z ∨ y * z ≤ x * z) := by
  constructor
  · rcases Int.lt_or_le z 0 with hz | hz
    · exact .inl hz
    · exact .inr (Int.mul_le_mul_of_nonneg_right h hz)
  · rcases Int.lt_or_le 0 z with hz | hz
    · exact .inl hz
    · exact .inr (Int.mul_le_mul_of_nonpos_right h hz)
theorem cmpL {x y : Int} (h : x ≤ y) (z : Int) : (z < 0 ∨ z * x ≤ z * y) ∧ (0 < z ∨ z * y ≤ z * x) := by
  have := cmpR h z
  rw [Int.mul_comm z x, Int.mul_comm z y]
  exact this
theorem mulR {x y z : Int} (h : x ≤ y) (hz : 0 ≤ z) : x * z ≤ y * z := Int.mul_le_mul_of_nonneg_right h hz
theorem mulRn {x y z : Int} (h : x ≤ y) (hz : z ≤ 0) : y * z ≤ x * z := Int.mul_le_mul_of_nonpos_right h hz
theorem mulL {x y z : Int} (h : x ≤ y) (hz : 0 ≤ z) : z * x ≤ z * y := Int.mul_le_mul_of_nonneg_left h hz
structure Hull (a b : TInterval) (l h : Int) : Prop where
  lo : l ≤ a.Lo * b.Lo ∧ l ≤ a.Lo * b.Hi ∧ l ≤ a.Hi * b.Lo ∧ l ≤ a.Hi * b.Hi
  hi : a.Lo * b.Lo ≤ h ∧ a.Lo * b.Hi ≤ h ∧ a.Hi * b.Lo ≤ h ∧ a.Hi * b.Hi ≤ h
  isl : l = a.Lo * b.Lo ∨ l = a.Lo * b.Hi ∨ l = a.Hi * b.Lo ∨ l = a.Hi * b.Hi
  ish : h = a.Lo * b.Lo ∨ h = a.Lo * b.Hi ∨ h = a.Hi * b.Lo ∨ h = a.Hi * b.Hi
theorem Hull.le {a b : TInterval} {l h : Int} (H : Hull a b l h) : l ≤ h := by
  have := H.lo; have := H.hi; omega
theorem Hull.mem {a b : TInterval} {l h : Int} (H : Hull a b l h) {p q : Int} (hp : a.Lo ≤ p ∧ p ≤ a.Hi) (hq : b.Lo ≤ q ∧ q ≤ b.Hi) : l ≤ p * q ∧ p * q ≤ h := by
  have h1 := H.lo; have h2 := H.hi
  have e1 := cmpR hp.1 q; have e2 := cmpR hp.2 q
  have f1 := cmpL hq.1 a.Lo; have f2 := cmpL hq.2 a.Lo; have f3 := cmpL hq.1 a.Hi; have f4 := cmpL hq.2 a.Hi
  constructor <;> omega
theorem side_eq (a : TInterval) : interval_side a = some (if a.Hi ≤ 0 then 0 else if a.Lo ≥ 0 then 2 else 1) := by
  unfold interval_side
  by_cases h : a.Hi ≤ 0 <;> by_cases h' : a.Lo ≥ 0 <;> simp [h, h']
theorem mn_div (x y : Int) : mn (x / 65536) (y / 65536) = mn x y / 65536 := by unfold mn; split <;> split <;> omega
theorem mx_cdiv (x y : Int) : mx (cdiv x 65536) (cdiv y 65536) = cdiv (mx x y) 65536 := by unfold mx cdiv; split <;> split <;> omega
theorem mul_fin {a b : TInterval} (ha : Fin a) (hb : Fin b) : ∃ l h, interval_Mul a b = some (nw (l / 65536) (cdiv h 65536)) ∧ Hull a b l h := by
  have h1 := ha.2.1
  have h2 := hb.2.1
  have r1 := cmpR h1 b.Lo; have r2 := cmpR h1 b.Hi
  have r3 := cmpL h2 a.Lo; have r4 := cmpL h2 a.Hi
  unfold interval_Mul
  rw [isEnt_fin ha, isEnt_fin hb]
  simp only [Option.bind_some, beq_self_eq_true, if_true, Bool.or_self, Bool.false_eq_true, if_false, side_eq, interval_hh, interval_ll, interval_hl, interval_lh, mul_eq ha.wlo hb.wlo, mul_eq ha.wlo hb.whi, mul_eq ha.whi hb.wlo, mul_eq ha.whi hb.whi, new_eq, mn_div, mx_cdiv]
  by_cases s1 : a.Hi ≤ 0
  · by_cases s2 : b.Hi ≤ 0
    · simp only [s1, s2, if_true]
      refine ⟨a.Hi * b.Hi, a.Lo * b.Lo, rfl, ⟨?_, ?_, ?_, ?_⟩⟩ <;> omega
    · by_cases s3 : b.Lo ≥ 0
      · simp only [s1, s2, s3, if_true, if_false]
        refine ⟨a.Lo * b.Hi, a.Hi * b.Lo, rfl, ⟨?_, ?_, ?_, ?_⟩⟩ <;> omega
      · simp only [s1, s2, s3, if_true, if_false]
        refine ⟨a.Lo * b.Hi, a.Lo * b.Lo, rfl, ⟨?_, ?_, ?_, ?_⟩⟩ <;> omega
  · by_cases s4 : a.Lo ≥ 0
    · by_cases s2 : b.Hi ≤ 0
      · simp only [s1, s4, s2, if_true, if_false]
        refine ⟨a.Hi * b.Lo, a.Lo * b.Hi, rfl, ⟨?_, ?_, ?_, ?_⟩⟩ <;> omega
      · by_cases s3 : b.Lo ≥ 0
        · simp only [s1, s4, s2, s3, if_true, if_false]
          refine ⟨a.Lo * b.Lo, a.Hi * b.Hi, rfl, ⟨?_, ?_, ?_, ?_⟩⟩ <;> omega
        · simp only [s1, s4, s2, s3, if_true, if_false]
          refine ⟨a.Hi * b.Lo, a.Hi * b.Hi, rfl, ⟨?_, ?_, ?_, ?_⟩⟩ <;> omega
    · by_cases s2 : b.Hi ≤ 0
      · simp only [s1, s4, s2, if_true, if_false]
        refine ⟨a.Hi * b.Lo, a.Lo * b.Lo, rfl, ⟨?_, ?_, ?_, ?_⟩⟩ <;> omega
      · by_cases s3 : b.Lo ≥ 0
        · simp only [s1, s4, s2, s3, if_true, if_false]
          refine ⟨a.Lo * b.Hi, a.Hi * b.Hi, rfl, ⟨?_, ?_, ?_, ?_⟩⟩ <;> omega
        · simp only [s1, s4, s2, s3, if_true, if_false]
          refine ⟨mn (a.Lo * b.Hi) (a.Hi * b.Lo), mx (a.Lo * b.Lo) (a.Hi * b.Hi), rfl, ?_⟩
          unfold mn mx
          split <;> split <;> refine ⟨?_, ?_, ?_, ?_⟩ <;> omega
theorem mul_entl (b : TInterval) : interval_Mul Ent b = some Ent := by
  unfold interval_Mul
  rw [isEnt_ent]
  rfl
theorem mul_entr (a : TInterval) : interval_Mul a Ent = some Ent := by
  unfold interval_Mul
  rw [isEnt, isEnt_ent]
  cases decide (a = Ent) <;> rfl
structure DHull (a b : TInterval) (x y u v : Int) : Prop where
  ypos : 0 < y
  vpos : 0 < v
  x_ : x = a.Lo ∨ x = a.Hi
  y_ : y = b.Lo ∨ y = b.Hi
  u_ : u = a.Lo ∨ u = a.Hi
  v_ : v = b.Lo ∨ v = b.Hi
  lo : x * b.Lo ≤ a.Lo * y ∧ x * b.Hi ≤ a.Lo * y ∧ x * b.Lo ≤ a.Hi * y ∧ x * b.Hi ≤ a.Hi * y
  hi : a.Lo * v ≤ u * b.Lo ∧ a.Lo * v ≤ u * b.Hi ∧ a.Hi * v ≤ u * b.Lo ∧ a.Hi * v ≤ u * b.Hi
theorem DHull.mem {a b : TInterval} {x y u v : Int} (H : DHull a b x y u v) {p q : Int} (hp : a.Lo ≤ p ∧ p ≤ a.Hi) (hq : b.Lo ≤ q ∧ q ≤ b.Hi) : x * q ≤ p * y ∧ p * v ≤ u * q := by
  have h1 := H.lo; have h2 := H.hi
  have e1 := cmpL hq.1 x; have e2 := cmpL hq.2 x; have e3 := cmpL hq.1 u; have e4 := cmpL hq.2 u
  have f1 := mulR hp.1 (Int.le_of_lt H.ypos); have f2 := mulR hp.2 (Int.le_of_lt H.vpos)
  constructor <;> omega
theorem frac_mono {a b c d : Int} (hb : 0 < b) (hd : 0 < d) (h : a * d ≤ c * b) : a * 65536 / b ≤ c * 65536 / d := by
  rw [le_fdiv hd]
  have h1 := (le_fdiv (a := a * 65536) (c := a * 65536 / b) hb).1 (Int.le_refl _)
  have h2 : (a * 65536 / b * d) * b ≤ (c * 65536) * b := by
    have e1 : (a * 65536 / b * d) * b = (a * 65536 / b * b) * d := by grind
    have e2 : (a * 65536 / b * b) * d ≤ (a * 65536) * d := mulR h1 (by omega)
    have e3 : (a * 65536) * d = (a * d) * 65536 := by grind
    have e4 : (c * 65536) * b = (c * b) * 65536 := by grind
    omega
  exact Int.le_of_mul_le_mul_right h2 hb
theorem cfrac_mono {a b c d : Int} (hb : 0 < b) (hd : 0 < d) (h : a * d ≤ c * b) : cdiv (a * 65536) b ≤ cdiv (c * 65536) d := by
  rw [cdiv_le hb]
  have h1 := (cdiv_le (a := c * 65536) (c := cdiv (c * 65536) d) hd).1 (Int.le_refl _)
  have h2 : (a * 65536) * d ≤ (cdiv (c * 65536) d * b) * d := by
    have e1 : (cdiv (c * 65536) d * b) * d = (cdiv (c * 65536) d * d) * b := by grind
    have e2 : (c * 65536) * b ≤ (cdiv (c * 65536) d * d) * b := mulR h1 (by omega)
    have e3 : (a * 65536) * d = (a * d) * 65536 := by grind
    have e4 : (c * 65536) * b = (c * b) * 65536 := by grind
    omega
  exact Int.le_of_mul_le_mul_right h2 hd
theorem contains_eq (a : TInterval) (x : Int) : interval_Contains a x = some (decide (a = Ent) || (decide (a.Lo ≤ x) && decide (x ≤ a.Hi))) := by
  unfold interval_Contains
  rw [isEnt]
  rfl
theorem contains_fin {a : TInterval} (h : Fin a) (x : Int) : interval_Contains a x = some (decide (a.Lo ≤ x ∧ x ≤ a.Hi)) := by
  rw [contains_eq, h.ne, Bool.false_or, Bool.decide_and]
def ngv (a : TInterval) : TInterval := ⟨-a.Hi, -a.Lo⟩
theorem div_above {a b : TInterval} (ha : Fin a) (hb : Fin b) (h : 0 < b.Lo) : ∃ x y u v, interval_Div a b = some (nw (x * 65536 / y) (cdiv (u * 65536) v)) ∧ DHull a b x y u v := by
  have h1 := ha.2.1
  have h2 := hb.2.1
  have h3 : 0 < b.Hi := by omega
  have r1 := mulR h1 (Int.le_of_lt h); have r2 := mulR h1 (Int.le_of_lt h3)
  have r3 := cmpL h2 a.Lo; have r4 := cmpL h2 a.Hi
  have c1 := Int.mul_comm b.Lo a.Lo
  unfold interval_Div
  rw [isEnt_fin ha, isEnt_fin hb, contains_fin hb]
  have h4 : decide (b.Lo ≤ 0 ∧ 0 ≤ b.Hi) = false := by apply decide_eq_false; omega
  have h5 : decide (b.Lo > 0) = true := decide_eq_true h
  simp only [Option.bind_some, h4, h5, beq_self_eq_true, if_true, Bool.or_self, Bool.false_eq_true, if_false, side_eq, interval_pick_int, interval_hh, interval_ll, interval_hl, interval_lh, div_pos ha.wlo hb.wlo h, div_pos ha.wlo hb.whi h3, div_pos ha.whi hb.wlo h, div_pos ha.whi hb.whi h3, new_eq]
  by_cases s1 : a.Hi ≤ 0
  · simp only [s1, if_true]
    refine ⟨a.Lo, b.Lo, a.Hi, b.Hi, rfl, ⟨h, h3, .inl rfl, .inl rfl, .inr rfl, .inr rfl, ?_, ?_⟩⟩ <;> omega
  · by_cases s4 : a.Lo ≥ 0
    · simp only [s1, s4, if_true, if_false]
      refine ⟨a.Lo, b.Hi, a.Hi, b.Lo, rfl, ⟨h3, h, .inl rfl, .inr rfl, .inr rfl, .inl rfl, ?_, ?_⟩⟩ <;> omega
    · simp only [s1, s4, if_true, if_false]
      refine ⟨a.Lo, b.Lo, a.Hi, b.Lo, rfl, ⟨h, h, .inl rfl, .inl rfl, .inr rfl, .inl rfl, ?_, ?_⟩⟩ <;> omega
theorem div_below {a b : TInterval} (ha : Fin a) (hb : Fin b) (h3 : b.Hi < 0) : ∃ x y u v, interval_Div a b = some (nw (x * 65536 / y) (cdiv (u * 65536) v)) ∧ DHull (ngv a) (ngv b) x y u v := by
  have h1 := ha.2.1
  have h2 := hb.2.1
  have h : b.Lo < 0 := by omega
  have r1 := mulRn h1 (Int.le_of_lt h); have r2 := mulRn h1 (Int.le_of_lt h3)
  have r3 := cmpL h2 a.Lo; have r4 := cmpL h2 a.Hi
  unfold interval_Div
  rw [isEnt_fin ha, isEnt_fin hb, contains_fin hb]
  have h4 : decide (b.Lo ≤ 0 ∧ 0 ≤ b.Hi) = false := by apply decide_eq_false; omega
  have h5 : decide (b.Lo > 0) = false := decide_eq_false (by omega)
  simp only [Option.bind_some, h4, h5, beq_self_eq_true, if_true, Bool.or_self, Bool.false_eq_true, if_false, side_eq, interval_pick_int, interval_hh, interval_ll, interval_hl, interval_lh, div_neg ha.wlo hb.wlo h, div_neg ha.wlo hb.whi h3, div_neg ha.whi hb.wlo h, div_neg ha.whi hb.whi h3, new_eq]
  by_cases s1 : a.Hi ≤ 0
  · simp only [s1, if_true]
    refine ⟨-a.Hi, -b.Lo, -a.Lo, -b.Hi, rfl, ⟨by omega, by omega, .inl rfl, .inr rfl, .inr rfl, .inl rfl, ?_, ?_⟩⟩ <;> simp only [ngv, Int.neg_mul_neg] <;> omega
  · by_cases s4 : a.Lo ≥ 0
    · simp only [s1, s4, if_true, if_false]
      refine ⟨-a.Hi, -b.Hi, -a.Lo, -b.Lo, rfl, ⟨by omega, by omega, .inl rfl, .inl rfl, .inr rfl, .inr rfl, ?_, ?_⟩⟩ <;> simp only [ngv, Int.neg_mul_neg] <;> omega
    · simp only [s1, s4, if_true, if_false]
      refine ⟨-a.Hi, -b.Hi, -a.Lo, -b.Hi, rfl, ⟨by omega, by omega, .inl rfl, .inl rfl, .inr rfl, .inl rfl, ?_, ?_⟩⟩ <;> simp only [ngv, Int.neg_mul_neg] <;> omega
theorem div_zero {a b : TInterval} (ha : Fin a) (hb : Fin b) (h : b.Lo ≤ 0 ∧ 0 ≤ b.Hi) : interval_Div a b = some Ent := by
  unfold interval_Div
  rw [isEnt_fin ha, isEnt_fin hb, contains_fin hb, decide_eq_true h]
  rfl
theorem div_entl (b : TInterval) : interval_Div Ent b = some Ent := by
  unfold interval_Div
  rw [isEnt_ent]
  rfl
theorem div_entr (a : TInterval) : interval_Div a Ent = some Ent := by
  unfold interval_Div
  rw [isEnt, isEnt_ent]
  cases decide (a = Ent) <;> rfl
theorem rfloor {a b : Int} (hb : 0 < b) (ha1 : -4611686018427387904 ≤ a) (ha2 : a ≤ 4611686018427387904) (hb2 : b ≤ 4611686018427387904) : armillaryref02_Floor a b = some (a / b) := by
  have hq := ediv_bounds hb ha1 ha2
  obtain ⟨t1, t2⟩ := tdm a b hb
  have h2 := Int.emod_nonneg a (by omega : b ≠ 0)
  have h3 := Int.emod_lt_of_pos a hb
  have hb0 : decide (b < 0) = false := decide_eq_false (by omega)
  unfold armillaryref02_Floor
  rw [if_pos (by omega), if_pos (by omega)]
  by_cases h : Int.tmod a b < 0
  · obtain ⟨e1, e2⟩ := t1 h
    have e3 : w_i64 (Int.tdiv a b) = Int.tdiv a b := w64 (by omega) (by omega)
    have h4 : a < 0 := by
      rcases Int.lt_or_le a 0 with h5 | h5
      · exact h5
      · have := Int.tmod_nonneg b h5
        omega
    have h5 : (Int.tmod a b != 0) = true := by simp; omega
    simp only [h5, hb0, decide_eq_true h4, e3]
    rw [e1, w64 (by omega) (by omega)]
    simp
  · obtain ⟨e1, e2⟩ := t2 h
    have e3 : w_i64 (Int.tdiv a b) = a / b := by rw [e1]; exact w64 (by omega) (by omega)
    have h5 : ((Int.tmod a b != 0) && !(decide (a < 0) == decide (b < 0))) = false := by
      rw [hb0]
      by_cases h6 : a < 0
      · have : Int.tmod a b ≤ 0 := by
          have := Int.tmod_nonneg b (a := -a) (by omega)
          rw [Int.neg_tmod] at this
          omega
        have : Int.tmod a b = 0 := by omega
        simp [this]
      · simp [h6]
    rw [if_neg (by simp only [h5]; simp), e3]
    rfl
theorem rceil {a b : Int} (hb : 0 < b) (ha1 : -4611686018427387904 ≤ a) (ha2 : a ≤ 4611686018427387904) (hb2 : b ≤ 4611686018427387904) : armillaryref02_Ceil a b = some (cdiv a b) := by
  have hq := ediv_bounds (a := -a) (B := 4611686018427387904) hb (by omega) (by omega)
  unfold armillaryref02_Ceil
  have e1 : w_i64 (0 - a) = -a := by rw [w64 (by omega) (by omega)]; omega
  rw [e1, rfloor hb (by omega) (by omega) hb2]
  simp only [Option.bind_some]
  unfold cdiv
  rw [w64 (by omega) (by omega)]
  congr 1
  omega
theorem tm_bound (x : Int) : -16777216 < Int.tmod x 16777216 ∧ Int.tmod x 16777216 < 16777216 := by
  have h1 := Int.tmod_lt_of_pos x (b := 16777216) (by omega)
  have h2 := Int.tmod_lt_of_pos (-x) (b := 16777216) (by omega)
  rw [Int.neg_tmod] at h2
  omega
instance (a : TInterval) : Decidable (Fin a) := by unfold Fin; infer_instance
instance (a : TInterval) : Decidable (Ok a) := by unfold Ok; infer_instance
theorem valid_eq (a : TInterval) : armillaryref02_Valid a = some (decide (Ok a)) := by
  unfold armillaryref02_Valid armillaryref02_Number
  rw [ref_isEnt]
  by_cases h : a = Ent
  · have : Ok a := .inl h
    simp [h, this, Ok]
  · have e : Ok a ↔ Fin a := by unfold Ok; simp [h]
    rw [show decide (Ok a) = decide (Fin a) from by simp [e]]
    by_cases h1 : -2147483648 < a.Lo ∧ a.Lo < 2147483648 <;> by_cases h2 : -2147483648 < a.Hi ∧ a.Hi < 2147483648 <;> simp [h, Fin, h1, h2]
    all_goals try omega
    all_goals grind
theorem sq_lt {s t : Int} (hs : 0 ≤ s) (ht : 0 ≤ t) (h : s * s < t * t) : s < t := by
  rcases Int.lt_or_le s t with h1 | h1
  · exact h1
  · have := Int.mul_le_mul h1 h1 ht hs
    omega
structure Root (n s t : Int) : Prop where
  s0 : 0 ≤ s
  le : s * s ≤ n
  lt : n < (s + 1) * (s + 1)
  t_ : t = if s * s < n then s + 1 else s
theorem Root.up {n s t : Int} (h : Root n s t) : n ≤ t * t := by
  have h1 := h.le; have h2 := h.lt; have h3 := h.t_
  split at h3 <;> subst h3 <;> omega
theorem Root.st {n s t : Int} (h : Root n s t) : s ≤ t ∧ t ≤ s + 1 := by
  have h3 := h.t_
  split at h3 <;> omega
theorem Root.low {n s t : Int} (h : Root n s t) : t = 0 ∨ (t - 1) * (t - 1) < n := by
  have h1 := h.le; have h3 := h.t_; have h0 := h.s0
  split at h3
  · right
    have : t - 1 = s := by omega
    rw [this]
    assumption
  · subst h3
    rcases Int.lt_or_le 0 t with h4 | h4
    · right
      have e : (t - 1) * (t - 1) = t * t - 2 * t + 1 := by grind
      omega
    · left; omega
theorem fc {l h d : Int} (hd : 0 < d) (hl : l ≤ h) : l / d ≤ cdiv h d := by
  have h1 := (cdiv_le (a := h) (c := cdiv h d) hd).1 (Int.le_refl _)
  have h2 := (le_fdiv (a := l) (c := l / d) hd).1 (Int.le_refl _)
  rcases Int.lt_or_le (cdiv h d) (l / d) with h3 | h3
  · have : (cdiv h d + 1) * d ≤ l / d * d := mulR (by omega) (by omega)
    rw [Int.add_mul] at this
    omega
  · exact h3
theorem f_le (x : Int) : x / 65536 * 65536 ≤ x := (le_fdiv (by omega)).1 (Int.le_refl _)
theorem c_le (x : Int) : x ≤ cdiv x 65536 * 65536 := (cdiv_le (by omega)).1 (Int.le_refl _)
theorem Ok.b {a : TInterval} (h : Ok a) : -2147483648 ≤ a.Lo ∧ a.Lo ≤ a.Hi ∧ a.Hi ≤ 2147483648 ∧ (a ≠ Ent → -2147483648 < a.Lo ∧ a.Hi < 2147483648) := by
  rcases h with rfl | h
  · simp [Ent]
  · unfold Fin at h
    exact ⟨by omega, by omega, by omega, fun _ => by omega⟩
theorem Ok.ent_of {a : TInterval} (h : Ok a) (h1 : a.Lo ≤ -2147483648 ∨ 2147483648 ≤ a.Hi) : a = Ent := by
  rcases h with h | h
  · exact h
  · unfold Fin at h; omega
theorem mnl (x y : Int) : mn x y ≤ x ∧ mn x y ≤ y ∧ (mn x y = x ∨ mn x y = y) := by unfold mn; split <;> omega
theorem mxl (x y : Int) : x ≤ mx x y ∧ y ≤ mx x y ∧ (mx x y = x ∨ mx x y = y) := by unfold mx; split <;> omega
theorem Fin.le {a : TInterval} (h : Fin a) : a.Lo ≤ a.Hi := h.2.1
theorem add_ok' {a b : TInterval} (ha : Ok a) (hb : Ok b) : ∃ r, interval_Add a b = some r ∧ Ok r := by
  rcases ha with rfl | ha
  · exact ⟨Ent, add_entl _, .inl rfl⟩
  · rcases hb with rfl | hb
    · exact ⟨Ent, add_entr _, .inl rfl⟩
    · exact ⟨_, add_fin ha hb, nw_ok (by have := ha.le; have := hb.le; omega)⟩
theorem sub_entl {b : TInterval} (hb : Ok b) : interval_Sub Ent b = some Ent := by
  unfold interval_Sub
  exact bT (neg_ok hb) (bT (add_entl _) rfl)
theorem sub_entr (a : TInterval) : interval_Sub a Ent = some Ent := by
  unfold interval_Sub
  exact bT (neg_ok (.inl rfl)) (bT (v := Ent) (add_entr a) rfl)
theorem sub_ok {a b : TInterval} (ha : Ok a) (hb : Ok b) : ∃ r, interval_Sub a b = some r ∧ Ok r := by
  rcases ha with rfl | ha
  · exact ⟨Ent, sub_entl hb, .inl rfl⟩
  · rcases hb with rfl | hb
    · exact ⟨Ent, sub_entr _, .inl rfl⟩
    · exact ⟨_, sub_fin ha hb, nw_ok (by have := ha.le; have := hb.le; omega)⟩
theorem mul_ok {a b : TInterval} (ha : Ok a) (hb : Ok b) : ∃ r, interval_Mul a b = some r ∧ Ok r := by
  rcases ha with rfl | ha
  · exact ⟨Ent, mul_entl _, .inl rfl⟩
  · rcases hb with rfl | hb
    · exact ⟨Ent, mul_entr _, .inl rfl⟩
    · obtain ⟨l, h, hm, H⟩ := mul_fin ha hb
      exact ⟨_, hm, nw_ok (fc (by omega) H.le)⟩
theorem DHull.fits {a b : TInterval} {x y u v : Int} (H : DHull a b x y u v) (hb : 0 < b.Lo) : x * 65536 / y ≤ cdiv (u * 65536) v := by
  have h1 := frac_mono H.ypos hb H.lo.1
  have h2 := cfrac_mono hb H.vpos H.hi.1
  have h3 := fc (l := a.Lo * 65536) hb (Int.le_refl _)
  omega
theorem div_ok {a b : TInterval} (ha : Ok a) (hb : Ok b) : ∃ r, interval_Div a b = some r ∧ Ok r := by
  rcases ha with rfl | ha
  · exact ⟨Ent, div_entl _, .inl rfl⟩
  · rcases hb with rfl | hb
    · exact ⟨Ent, div_entr _, .inl rfl⟩
    · rcases Int.lt_or_le 0 b.Lo with h0 | h0
      · obtain ⟨x, y, u, v, hd, D⟩ := div_above ha hb h0
        exact ⟨_, hd, nw_ok (D.fits h0)⟩
      · rcases Int.lt_or_le b.Hi 0 with h1 | h1
        · obtain ⟨x, y, u, v, hd, D⟩ := div_below ha hb h1
          exact ⟨_, hd, nw_ok (D.fits (by simp only [ngv]; omega))⟩
        · exact ⟨Ent, div_zero ha hb ⟨h0, h1⟩, .inl rfl⟩
def Le (a b : TInterval) : Prop := b.Lo ≤ a.Lo ∧ a.Hi ≤ b.Hi
theorem Le.ent {a b : TInterval} (h : Le a b) (hb : Ok b) (e : a = Ent) : b = Ent := by
  subst e
  exact hb.ent_of (.inl h.1)
theorem Le.fin {a b : TInterval} (h : Le a b) (ha : Ok a) (hb : Fin b) : Fin a := by
  rcases ha with rfl | ha
  · unfold Le Ent at h; unfold Fin at hb; simp only at h; omega
  · exact ha
theorem Hull.mono {a b a' b' : TInterval} {l h l' h' : Int} (fa : Fin a) (fb : Fin b) (H : Hull a b l h) (H' : Hull a' b' l' h') (h1 : Le a a') (h2 : Le b b') : l' ≤ l ∧ h ≤ h' := by
  unfold Le at h1 h2
  have la := fa.le; have lb := fb.le
  have i := H.isl; have j := H.ish
  have m1 := H'.mem (p := a.Lo) (q := b.Lo) (by omega) (by omega)
  have m2 := H'.mem (p := a.Lo) (q := b.Hi) (by omega) (by omega)
  have m3 := H'.mem (p := a.Hi) (q := b.Lo) (by omega) (by omega)
  have m4 := H'.mem (p := a.Hi) (q := b.Hi) (by omega) (by omega)
  omega
theorem DHull.mono {a b a' b' : TInterval} {x y u v x' y' u' v' : Int} (la : a.Lo ≤ a.Hi) (lb : b.Lo ≤ b.Hi) (H : DHull a b x y u v) (H' : DHull a' b' x' y' u' v') (h1 : Le a a') (h2 : Le b b') : x' * 65536 / y' ≤ x * 65536 / y ∧ cdiv (u * 65536) v ≤ cdiv (u' * 65536) v' := by
  unfold Le at h1 h2
  have m1 := H'.mem (p := x) (q := y) (by have := H.x_; omega) (by have := H.y_; omega)
  have m2 := H'.mem (p := u) (q := v) (by have := H.u_; omega) (by have := H.v_; omega)
  exact ⟨frac_mono H'.ypos H.ypos m1.1, cfrac_mono H.vpos H'.vpos m2.2⟩
theorem Root.mono {n s t n' s' t' : Int} (h : Root n s t) (h' : Root n' s' t') (hn : n ≤ n') : s ≤ s' ∧ t ≤ t' := by
  constructor
  · have := sq_lt h.s0 (by have := h'.s0; omega) (Int.lt_of_le_of_lt (Int.le_trans h.le hn) h'.lt)
    omega
  · have h1 := h'.up
    have h2 := h'.s0
    have h3 := h'.st
    rcases h.low with h4 | h4
    · omega
    · rcases Int.lt_or_le (t - 1) 0 with h5 | h5
      · omega
      · have := sq_lt h5 (by omega : 0 ≤ t') (by omega)
        omega
theorem refnum (x : Int) : armillaryref02_Number x = some (decide (-2147483648 < x ∧ x < 2147483648)) := by
  unfold armillaryref02_Number
  rw [Bool.decide_and]
theorem refnew (x y : Int) : armillaryref02_New x y = some (if (-2147483648 < x ∧ x < 2147483648) ∧ (-2147483648 < y ∧ y < 2147483648) then ⟨x, y⟩ else Ent) := by
  unfold armillaryref02_New
  by_cases h1 : -2147483648 < x ∧ x < 2147483648
  · refine bT ((refnum x).trans (congrArg some (decide_eq_true h1))) ?_
    by_cases h2 : -2147483648 < y ∧ y < 2147483648
    · refine gT rfl ((refnum y).trans (congrArg some (decide_eq_true h2))) (iF Bool.false_ne_true ?_)
      rw [if_pos ⟨h1, h2⟩]
    · refine gT rfl ((refnum y).trans (congrArg some (decide_eq_false h2))) (iT rfl ?_)
      rw [if_neg (fun h => h2 h.2)]
      rfl
  · refine bT ((refnum x).trans (congrArg some (decide_eq_false h1))) (gF Bool.false_ne_true (iT rfl ?_))
    rw [if_neg (fun h => h1 h.1)]
    rfl
theorem refnew_nw {x y : Int} (h : x ≤ y) : armillaryref02_New x y = some (nw x y) := by
  rw [refnew]
  congr 1
  unfold nw
  by_cases g : (-2147483648 < x ∧ x < 2147483648) ∧ (-2147483648 < y ∧ y < 2147483648)
  · rw [if_pos g, if_neg (by omega)]
  · rw [if_neg g, if_pos (by omega)]
theorem sign_eq (a : TInterval) : interval_Sign a = some (if a.Lo > 0 then 1 else if a.Hi < 0 then -1 else 0) := by
  unfold interval_Sign interval_pick_int
  by_cases h1 : a.Lo > 0 <;> by_cases h2 : a.Hi < 0 <;> simp [h1, h2]
theorem radd_eq {a b : TInterval} (ha : Ok a) (hb : Ok b) : armillaryref02_Add a b = interval_Add a b := by
  unfold armillaryref02_Add
  rcases ha with rfl | ha
  · rw [add_entl]; exact bT ref_isEnt_ent (gF Bool.false_ne_true (iT rfl rfl))
  · rcases hb with rfl | hb
    · rw [add_entr]; exact bT (ref_isEnt_fin ha) (gT rfl ref_isEnt_ent (iT rfl rfl))
    · rw [add_fin ha hb]
      refine bT (ref_isEnt_fin ha) (gT rfl (ref_isEnt_fin hb) (iF Bool.false_ne_true ?_))
      have la := ha.le; have lb := hb.le
      unfold Fin at ha hb
      rw [w64 (x := a.Lo + b.Lo) (by omega) (by omega), w64 (x := a.Hi + b.Hi) (by omega) (by omega)]
      exact bT (refnew_nw (by omega)) rfl
theorem rmul_step {k0 : Nat} {a b : TInterval} {t3 t4 : Bool} {A B C D : Int} (hA : w_i64 (a.Lo * b.Lo) = A) (hB : w_i64 (a.Lo * b.Hi) = B) (hC : w_i64 (a.Hi * b.Lo) = C) (hD : w_i64 (a.Hi * b.Hi) = D) {i v : Int} (hi : 0 ≤ i ∧ i < 4) (hv : [A, B, C, D][i.toNat]? = some v) (k : Nat) (l h : Int) :
    armillaryref02_Mul.l20 k0 a b t3 t4 (k + 1) l h i = armillaryref02_Mul.l20 k0 a b t3 t4 k (mn l v) (mx h v) (i + 1) := by
  conv => lhs; unfold armillaryref02_Mul.l20
  rw [hA, hB, hC, hD]
  refine iT (decide_eq_true hi.2) (iT hi (bT hv (iT hi (bT hv ?_))))
  rw [w64 (x := i + 1) (by omega) (by omega)]
theorem rmul_eq {k0 : Nat} (hk : 4294967296 < k0) {a b : TInterval} (ha : Ok a) (hb : Ok b) : armillaryref02_Mul k0 a b = interval_Mul a b := by
  unfold armillaryref02_Mul
  rcases ha with rfl | fa
  · rw [mul_entl]; exact bT ref_isEnt_ent (gF Bool.false_ne_true (iT rfl rfl))
  rcases hb with rfl | fb
  · rw [mul_entr]; exact bT (ref_isEnt_fin fa) (gT rfl ref_isEnt_ent (iT rfl rfl))
  obtain ⟨l, h, hm, H⟩ := mul_fin fa fb
  rw [hm]
  have b1 := prod_bound (A := 2147483648) (B := 2147483648) fa.wlo fb.wlo
  have b2 := prod_bound (A := 2147483648) (B := 2147483648) fa.wlo fb.whi
  have b3 := prod_bound (A := 2147483648) (B := 2147483648) fa.whi fb.wlo
  have b4 := prod_bound (A := 2147483648) (B := 2147483648) fa.whi fb.whi
  have w1 : w_i64 (a.Lo * b.Lo) = a.Lo * b.Lo := w64 (by omega) (by omega)
  have w2 : w_i64 (a.Lo * b.Hi) = a.Lo * b.Hi := w64 (by omega) (by omega)
  have w3 : w_i64 (a.Hi * b.Lo) = a.Hi * b.Lo := w64 (by omega) (by omega)
  have w4 : w_i64 (a.Hi * b.Hi) = a.Hi * b.Hi := w64 (by omega) (by omega)
  refine bT (ref_isEnt_fin fa) (gT rfl (ref_isEnt_fin fb) (iF Bool.false_ne_true ?_))
  have loop : ∀ K, 4 ≤ K → armillaryref02_Mul.l20 k0 a b false false K (a.Lo * b.Lo) (a.Lo * b.Lo) 1 = some (l, h) := by
    intro K hK
    obtain ⟨m, rfl⟩ : ∃ m, K = m + 4 := ⟨K - 4, by omega⟩
    rw [rmul_step w1 w2 w3 w4 (i := 1) (v := a.Lo * b.Hi) (by omega) rfl (m + 3), rmul_step w1 w2 w3 w4 (i := 1 + 1) (v := a.Hi * b.Lo) (by omega) rfl (m + 2), rmul_step w1 w2 w3 w4 (i := 1 + 1 + 1) (v := a.Hi * b.Hi) (by omega) rfl (m + 1)]
    unfold armillaryref02_Mul.l20
    refine iF Bool.false_ne_true ?_
    have h1 := H.lo; have h2 := H.hi; have h3 := H.isl; have h4 := H.ish
    have m1 := mnl (a.Lo * b.Lo) (a.Lo * b.Hi); have m2 := mnl (mn (a.Lo * b.Lo) (a.Lo * b.Hi)) (a.Hi * b.Lo); have m3 := mnl (mn (mn (a.Lo * b.Lo) (a.Lo * b.Hi)) (a.Hi * b.Lo)) (a.Hi * b.Hi)
    have n1 := mxl (a.Lo * b.Lo) (a.Lo * b.Hi); have n2 := mxl (mx (a.Lo * b.Lo) (a.Lo * b.Hi)) (a.Hi * b.Lo); have n3 := mxl (mx (mx (a.Lo * b.Lo) (a.Lo * b.Hi)) (a.Hi * b.Lo)) (a.Hi * b.Hi)
    have e1 : mn (mn (mn (a.Lo * b.Lo) (a.Lo * b.Hi)) (a.Hi * b.Lo)) (a.Hi * b.Hi) = l := by omega
    have e2 : mx (mx (mx (a.Lo * b.Lo) (a.Lo * b.Hi)) (a.Hi * b.Lo)) (a.Hi * b.Hi) = h := by omega
    rw [e1, e2]
  rw [w1]
  have hl := H.isl
  have hh := H.ish
  exact bT (loop k0 (by omega)) (bT (rfloor (by omega) (by simp only; omega) (by simp only; omega) (by omega)) (bT (rceil (by omega) (by simp only; omega) (by simp only; omega) (by omega)) (bT (refnew_nw (fc (by omega) H.le)) rfl)))
end Go.Proofs.YtglcmhldonkfdaaDoor
