/- Texts of the plain laws, put together. Own work. -/
import Derived.Test.YtglcmhldonkfdaaDoorDefs
import Derived.KernelRfl
import Derived.IntWalk
set_option maxRecDepth 10000
set_option linter.unusedVariables false
set_option linter.unusedSimpArgs false
namespace Go.Proofs.YtglcmhldonkfdaaDoor
open Go
theorem w64 {x : Int} (h1 : -9223372036854775808 ≤ x) (h2 : x ≤ 9223372036854775807) : w_i64 x = x := by
  exact Go.IntWalk.i64_in x ⟨h1, h2⟩
theorem ediv_bounds {a b B : Int} (hb : 0 < b) (h1 : -B ≤ a) (h2 : a ≤ B) : -B ≤ a / b ∧ a / b ≤ B := by
  have hB : 0 ≤ B := by omega
  constructor
  · rw [Int.le_ediv_iff_mul_le hb]
    have : B * 1 ≤ B * b := Int.mul_le_mul_of_nonneg_left (by omega) hB
    have e : -B * b = -(B * b) := Int.neg_mul ..
    omega
  · apply Int.ediv_le_of_le_mul hb
    have : B * 1 ≤ B * b := Int.mul_le_mul_of_nonneg_left (by omega) hB
    omega
def cdiv (a b : Int) : Int := -((-a) / b)
theorem cdiv_le {a b c : Int} (hb : 0 < b) : cdiv a b ≤ c ↔ a ≤ c * b := by
  unfold cdiv
  have : -c ≤ (-a) / b ↔ -c * b ≤ -a := Int.le_ediv_iff_mul_le hb
  rw [Int.neg_mul] at this
  omega
theorem le_fdiv {a b c : Int} (hb : 0 < b) : c ≤ a / b ↔ c * b ≤ a := Int.le_ediv_iff_mul_le hb
theorem tdm (a b : Int) (hb : 0 < b) : (Int.tmod a b < 0 → Int.tdiv a b - 1 = a / b ∧ Int.tmod a b + b = a % b) ∧ (¬ Int.tmod a b < 0 → Int.tdiv a b = a / b ∧ Int.tmod a b = a % b) := by
  have h1 := Int.mul_tdiv_add_tmod a b
  have h2 := Int.tmod_lt_of_pos a hb
  have h3 : -b < Int.tmod a b := by
    have := Int.tmod_lt_of_pos (-a) hb
    rw [Int.neg_tmod] at this
    omega
  have e := fun q r => Int.ediv_emod_unique (a := a) (b := b) (r := r) (q := q) hb
  constructor
  · intro h
    have := (e (Int.tdiv a b - 1) (Int.tmod a b + b)).2 ⟨by rw [Int.mul_sub]; omega, by omega, by omega⟩
    exact ⟨this.1.symm, this.2.symm⟩
  · intro h
    have := (e (Int.tdiv a b) (Int.tmod a b)).2 ⟨by omega, by omega, by omega⟩
    exact ⟨this.1.symm, this.2.symm⟩
theorem cdiv_eq {a b : Int} (hb : 0 < b) : cdiv a b = a / b + mn (a % b) 1 := by
  have h1 := Int.mul_ediv_add_emod a b
  have h2 := Int.emod_nonneg a (by omega : b ≠ 0)
  have h3 := Int.emod_lt_of_pos a hb
  have h5 : mn (a % b) 1 = 0 ∧ a % b = 0 ∨ mn (a % b) 1 = 1 ∧ 1 ≤ a % b := by unfold mn; split <;> omega
  apply Int.le_antisymm
  · rw [cdiv_le hb, Int.add_mul, Int.mul_comm (a / b) b]
    rcases h5 with ⟨h5, h6⟩ | ⟨h5, h6⟩ <;> rw [h5] <;> omega
  · rcases h5 with ⟨h5, h6⟩ | ⟨h5, h6⟩ <;> rw [h5]
    · have := (cdiv_le (a := a) (c := cdiv a b) hb).1 (Int.le_refl _)
      have h7 : a / b ≤ cdiv a b := by
        apply Int.ediv_le_of_le_mul hb this
      omega
    · have h8 : ¬ cdiv a b ≤ a / b := by
        rw [cdiv_le hb, Int.mul_comm]
        omega
      omega
theorem floorCeil_eq {a b : Int} (hb : 0 < b) (ha1 : -4611686018427387904 ≤ a) (ha2 : a ≤ 4611686018427387904) (hb2 : b ≤ 4611686018427387904) : fixed_floorCeil_int64_s112 a b = some (a / b, cdiv a b) := by
  have hq := ediv_bounds hb ha1 ha2
  obtain ⟨t1, t2⟩ := tdm a b hb
  have h2 := Int.emod_nonneg a (by omega : b ≠ 0)
  have h3 := Int.emod_lt_of_pos a hb
  have hc := cdiv_eq (a := a) hb
  have hm : 0 ≤ mn (a % b) 1 ∧ mn (a % b) 1 ≤ 1 := by unfold mn; split <;> omega
  unfold fixed_floorCeil_int64_s112 fixed_divide_1
  rw [if_pos (by omega), if_pos (by omega)]
  by_cases h : Int.tmod a b < 0
  · obtain ⟨e1, e2⟩ := t1 h
    have e3 : w_i64 (Int.tdiv a b) = Int.tdiv a b := w64 (by omega) (by omega)
    have e4 : w_i64 (Int.tdiv a b - 1) = a / b := by rw [e1]; exact w64 (by omega) (by omega)
    have e5 : w_i64 (Int.tmod a b + b) = a % b := by rw [e2]; exact w64 (by omega) (by omega)
    simp only [h, decide_true, if_true, Option.bind_some, e3, e4, e5]
    rw [w64 (by omega) (by omega), ← hc]
  · obtain ⟨e1, e2⟩ := t2 h
    have e3 : w_i64 (Int.tdiv a b) = a / b := by rw [e1]; exact w64 (by omega) (by omega)
    have h' : ¬ a % b < 0 := by omega
    simp only [e2, h', decide_false, Bool.false_eq_true, if_false, Option.bind_some, e3]
    rw [w64 (by omega) (by omega), ← hc]
theorem divide_pos {a b : Int} (hb : 0 < b) (ha1 : -4611686018427387904 ≤ a) (ha2 : a ≤ 4611686018427387904) (hb2 : b ≤ 4611686018427387904) : fixed_divide a b = some (a / b, cdiv a b) := by
  unfold fixed_divide
  rw [if_neg (by simp; omega)]
  simp only [Option.bind_some, floorCeil_eq hb ha1 ha2 hb2]
def Wid (x : Int) : Prop := -2147483648 ≤ x ∧ x ≤ 2147483648
theorem prod_bound {x y A B : Int} (hx : -A ≤ x ∧ x ≤ A) (hy : -B ≤ y ∧ y ≤ B) : -(A * B) ≤ x * y ∧ x * y ≤ A * B := by
  have hA : 0 ≤ A := by omega
  have hB : 0 ≤ B := by omega
  have h1 : x.natAbs * y.natAbs ≤ A.natAbs * B.natAbs := Nat.mul_le_mul (by omega) (by omega)
  have h2 : ((x * y).natAbs : Int) ≤ A * B := by
    rw [Int.natAbs_mul]
    have : ((A.natAbs * B.natAbs : Nat) : Int) = A * B := by
      rw [Int.natCast_mul, Int.natAbs_of_nonneg hA, Int.natAbs_of_nonneg hB]
    omega
  omega
theorem mul_eq {x y : Int} (hx : Wid x) (hy : Wid y) : fixed_Mul x y = some (x * y / 65536, cdiv (x * y) 65536) := by
  have := prod_bound (A := 2147483648) (B := 2147483648) hx hy
  unfold fixed_Mul
  rw [w64 (by omega) (by omega), divide_pos (by omega) (by omega) (by omega) (by omega)]
  rfl
def Ent : TInterval := ⟨-2147483648, 2147483648⟩
def Fin (a : TInterval) : Prop := -2147483648 < a.Lo ∧ a.Lo ≤ a.Hi ∧ a.Hi < 2147483648
def Ok (a : TInterval) : Prop := a = Ent ∨ Fin a
def nw (x y : Int) : TInterval := if x ≤ -2147483648 ∨ y ≥ 2147483648 ∨ x ≥ 2147483648 ∨ y ≤ -2147483648 then Ent else ⟨x, y⟩
theorem Fin.wlo {a : TInterval} (h : Fin a) : Wid a.Lo := by unfold Fin at h; unfold Wid; omega
theorem Fin.whi {a : TInterval} (h : Fin a) : Wid a.Hi := by unfold Fin at h; unfold Wid; omega
theorem isEnt {a : TInterval} : interval_IsEntire a = some (decide (a = Ent)) := by
  simp only [interval_IsEntire, interval_Entire, Option.bind_some, Option.some.injEq]
  obtain ⟨l, h⟩ := a
  simp only [Ent, TInterval.mk.injEq, Bool.decide_and, Bool.and_true]
  rfl
theorem Fin.ne {a : TInterval} (h : Fin a) : decide (a = Ent) = false := by
  apply decide_eq_false
  rintro rfl
  simp [Fin, Ent] at h
theorem isEnt_fin {a : TInterval} (h : Fin a) : interval_IsEntire a = some false := by rw [isEnt, h.ne]
theorem isEnt_ent : interval_IsEntire Ent = some true := by rw [isEnt]; simp
theorem new_eq (x y : Int) : interval_New x y = some (nw x y) := by
  unfold interval_New nw interval_Entire
  simp only [Option.bind_some]
  by_cases h : x ≤ -2147483648 ∨ y ≥ 2147483648 ∨ x ≥ 2147483648 ∨ y ≤ -2147483648
  · rw [if_pos h, if_pos (by simp; omega)]; rfl
  · rw [if_neg h, if_neg (by simp; omega)]
theorem Ok.wlo {a : TInterval} (h : Ok a) : Wid a.Lo := by
  rcases h with rfl | h
  · simp [Ent, Wid]
  · exact h.wlo
theorem Ok.whi {a : TInterval} (h : Ok a) : Wid a.Hi := by
  rcases h with rfl | h
  · simp [Ent, Wid]
  · exact h.whi
theorem neg_fin {a : TInterval} (h : Fin a) : Fin ⟨-a.Hi, -a.Lo⟩ := by unfold Fin at *; simp only; omega
theorem bT {α β : Type} {X : Option α} {v : α} {f : α → Option β} {r : Option β} (h : X = some v) (hf : f v = r) : X.bind f = r := by
  subst h
  exact hf
theorem cmpR {x y : Int} (h : x ≤ y) (z : Int) : (z < 0 ∨ x * z ≤ y * z) ∧ (0 < z ∨ y * z ≤ x * z) := by
  constructor
  · rcases Int.lt_or_le z 0 with hz | hz
    · exact .inl hz
    · exact .inr (Int.mul_le_mul_of_nonneg_right h hz)
  · rcases Int.lt_or_le 0 z with hz | hz
    · exact .inl hz
    · exact .inr (Int.mul_le_mul_of_nonpos_right h hz)
theorem cmpL {x y : Int} (h : x ≤ y) (z : Int) : (z < 0 ∨ z * x ≤ z * y) ∧ (0 < z ∨ z * y ≤ z * x) := by
  have := cmpR h z
  rw [Int.mul_comm z x, Int.mul_comm z y]
  exact this
theorem mulR {x y z : Int} (h : x ≤ y) (hz : 0 ≤ z) : x * z ≤ y * z := Int.mul_le_mul_of_nonneg_right h hz
structure Hull (a b : TInterval) (l h : Int) : Prop where
  lo : l ≤ a.Lo * b.Lo ∧ l ≤ a.Lo * b.Hi ∧ l ≤ a.Hi * b.Lo ∧ l ≤ a.Hi * b.Hi
  hi : a.Lo * b.Lo ≤ h ∧ a.Lo * b.Hi ≤ h ∧ a.Hi * b.Lo ≤ h ∧ a.Hi * b.Hi ≤ h
  isl : l = a.Lo * b.Lo ∨ l = a.Lo * b.Hi ∨ l = a.Hi * b.Lo ∨ l = a.Hi * b.Hi
  ish : h = a.Lo * b.Lo ∨ h = a.Lo * b.Hi ∨ h = a.Hi * b.Lo ∨ h = a.Hi * b.Hi
theorem Hull.le {a b : TInterval} {l h : Int} (H : Hull a b l h) : l ≤ h := by
  have := H.lo; have := H.hi; omega
theorem Hull.mem {a b : TInterval} {l h : Int} (H : Hull a b l h) {p q : Int} (hp : a.Lo ≤ p ∧ p ≤ a.Hi) (hq : b.Lo ≤ q ∧ q ≤ b.Hi) : l ≤ p * q ∧ p * q ≤ h := by
  have h1 := H.lo; have h2 := H.hi
  have e1 := cmpR hp.1 q; have e2 := cmpR hp.2 q
  have f1 := cmpL hq.1 a.Lo; have f2 := cmpL hq.2 a.Lo; have f3 := cmpL hq.1 a.Hi; have f4 := cmpL hq.2 a.Hi
  constructor <;> omega
theorem side_eq (a : TInterval) : interval_side a = some (if a.Hi ≤ 0 then 0 else if a.Lo ≥ 0 then 2 else 1) := by
  unfold interval_side
  by_cases h : a.Hi ≤ 0 <;> by_cases h' : a.Lo ≥ 0 <;> simp [h, h']
theorem mn_div (x y : Int) : mn (x / 65536) (y / 65536) = mn x y / 65536 := by unfold mn; split <;> split <;> omega
theorem mx_cdiv (x y : Int) : mx (cdiv x 65536) (cdiv y 65536) = cdiv (mx x y) 65536 := by unfold mx cdiv; split <;> split <;> omega
theorem mul_fin {a b : TInterval} (ha : Fin a) (hb : Fin b) : ∃ l h, interval_Mul a b = some (nw (l / 65536) (cdiv h 65536)) ∧ Hull a b l h := by
  have h1 := ha.2.1
  have h2 := hb.2.1
  have r1 := cmpR h1 b.Lo; have r2 := cmpR h1 b.Hi
  have r3 := cmpL h2 a.Lo; have r4 := cmpL h2 a.Hi
  unfold interval_Mul
  rw [isEnt_fin ha, isEnt_fin hb]
  simp only [Option.bind_some, beq_self_eq_true, if_true, Bool.or_self, Bool.false_eq_true, if_false, side_eq, interval_hh, interval_ll, interval_hl, interval_lh, mul_eq ha.wlo hb.wlo, mul_eq ha.wlo hb.whi, mul_eq ha.whi hb.wlo, mul_eq ha.whi hb.whi, new_eq, mn_div, mx_cdiv]
  by_cases s1 : a.Hi ≤ 0
  · by_cases s2 : b.Hi ≤ 0
    · simp only [s1, s2, if_true]
      refine ⟨a.Hi * b.Hi, a.Lo * b.Lo, rfl, ⟨?_, ?_, ?_, ?_⟩⟩ <;> omega
    · by_cases s3 : b.Lo ≥ 0
      · simp only [s1, s2, s3, if_true, if_false]
        refine ⟨a.Lo * b.Hi, a.Hi * b.Lo, rfl, ⟨?_, ?_, ?_, ?_⟩⟩ <;> omega
      · simp only [s1, s2, s3, if_true, if_false]
        refine ⟨a.Lo * b.Hi, a.Lo * b.Lo, rfl, ⟨?_, ?_, ?_, ?_⟩⟩ <;> omega
  · by_cases s4 : a.Lo ≥ 0
    · by_cases s2 : b.Hi ≤ 0
      · simp only [s1, s4, s2, if_true, if_false]
        refine ⟨a.Hi * b.Lo, a.Lo * b.Hi, rfl, ⟨?_, ?_, ?_, ?_⟩⟩ <;> omega
      · by_cases s3 : b.Lo ≥ 0
        · simp only [s1, s4, s2, s3, if_true, if_false]
          refine ⟨a.Lo * b.Lo, a.Hi * b.Hi, rfl, ⟨?_, ?_, ?_, ?_⟩⟩ <;> omega
        · simp only [s1, s4, s2, s3, if_true, if_false]
          refine ⟨a.Hi * b.Lo, a.Hi * b.Hi, rfl, ⟨?_, ?_, ?_, ?_⟩⟩ <;> omega
    · by_cases s2 : b.Hi ≤ 0
      · simp only [s1, s4, s2, if_true, if_false]
        refine ⟨a.Hi * b.Lo, a.Lo * b.Lo, rfl, ⟨?_, ?_, ?_, ?_⟩⟩ <;> omega
      · by_cases s3 : b.Lo ≥ 0
        · simp only [s1, s4, s2, s3, if_true, if_false]
          refine ⟨a.Lo * b.Hi, a.Hi * b.Hi, rfl, ⟨?_, ?_, ?_, ?_⟩⟩ <;> omega
        · simp only [s1, s4, s2, s3, if_true, if_false]
          refine ⟨mn (a.Lo * b.Hi) (a.Hi * b.Lo), mx (a.Lo * b.Lo) (a.Hi * b.Hi), rfl, ?_⟩
          unfold mn mx
          split <;> split <;> refine ⟨?_, ?_, ?_, ?_⟩ <;> omega
theorem mul_entl (b : TInterval) : interval_Mul Ent b = some Ent := by
  unfold interval_Mul
  rw [isEnt_ent]
  rfl
theorem mul_entr (a : TInterval) : interval_Mul a Ent = some Ent := by
  unfold interval_Mul
  rw [isEnt, isEnt_ent]
  cases decide (a = Ent) <;> rfl
structure DHull (a b : TInterval) (x y u v : Int) : Prop where
  ypos : 0 < y
  vpos : 0 < v
  x_ : x = a.Lo ∨ x = a.Hi
  y_ : y = b.Lo ∨ y = b.Hi
  u_ : u = a.Lo ∨ u = a.Hi
  v_ : v = b.Lo ∨ v = b.Hi
  lo : x * b.Lo ≤ a.Lo * y ∧ x * b.Hi ≤ a.Lo * y ∧ x * b.Lo ≤ a.Hi * y ∧ x * b.Hi ≤ a.Hi * y
  hi : a.Lo * v ≤ u * b.Lo ∧ a.Lo * v ≤ u * b.Hi ∧ a.Hi * v ≤ u * b.Lo ∧ a.Hi * v ≤ u * b.Hi
theorem DHull.mem {a b : TInterval} {x y u v : Int} (H : DHull a b x y u v) {p q : Int} (hp : a.Lo ≤ p ∧ p ≤ a.Hi) (hq : b.Lo ≤ q ∧ q ≤ b.Hi) : x * q ≤ p * y ∧ p * v ≤ u * q := by
  have h1 := H.lo; have h2 := H.hi
  have e1 := cmpL hq.1 x; have e2 := cmpL hq.2 x; have e3 := cmpL hq.1 u; have e4 := cmpL hq.2 u
  have f1 := mulR hp.1 (Int.le_of_lt H.ypos); have f2 := mulR hp.2 (Int.le_of_lt H.vpos)
  constructor <;> omega
theorem frac_mono {a b c d : Int} (hb : 0 < b) (hd : 0 < d) (h : a * d ≤ c * b) : a * 65536 / b ≤ c * 65536 / d := by
  rw [le_fdiv hd]
  have h1 := (le_fdiv (a := a * 65536) (c := a * 65536 / b) hb).1 (Int.le_refl _)
  have h2 : (a * 65536 / b * d) * b ≤ (c * 65536) * b := by
    have e1 : (a * 65536 / b * d) * b = (a * 65536 / b * b) * d := by grind
    have e2 : (a * 65536 / b * b) * d ≤ (a * 65536) * d := mulR h1 (by omega)
    have e3 : (a * 65536) * d = (a * d) * 65536 := by grind
    have e4 : (c * 65536) * b = (c * b) * 65536 := by grind
    omega
  exact Int.le_of_mul_le_mul_right h2 hb
theorem cfrac_mono {a b c d : Int} (hb : 0 < b) (hd : 0 < d) (h : a * d ≤ c * b) : cdiv (a * 65536) b ≤ cdiv (c * 65536) d := by
  rw [cdiv_le hb]
  have h1 := (cdiv_le (a := c * 65536) (c := cdiv (c * 65536) d) hd).1 (Int.le_refl _)
  have h2 : (a * 65536) * d ≤ (cdiv (c * 65536) d * b) * d := by
    have e1 : (cdiv (c * 65536) d * b) * d = (cdiv (c * 65536) d * d) * b := by grind
    have e2 : (c * 65536) * b ≤ (cdiv (c * 65536) d * d) * b := mulR h1 (by omega)
    have e3 : (a * 65536) * d = (a * d) * 65536 := by grind
    have e4 : (c * 65536) * b = (c * b) * 65536 := by grind
    omega
  exact Int.le_of_mul_le_mul_right h2 hd
def ngv (a : TInterval) : TInterval := ⟨-a.Hi, -a.Lo⟩
theorem tm_bound (x : Int) : -16777216 < Int.tmod x 16777216 ∧ Int.tmod x 16777216 < 16777216 := by
  have h1 := Int.tmod_lt_of_pos x (b := 16777216) (by omega)
  have h2 := Int.tmod_lt_of_pos (-x) (b := 16777216) (by omega)
  rw [Int.neg_tmod] at h2
  omega
instance (a : TInterval) : Decidable (Fin a) := by unfold Fin; infer_instance
instance (a : TInterval) : Decidable (Ok a) := by unfold Ok; infer_instance
theorem fd (x c : Int) (h : 0 < c) : Int.fdiv x c = x / c := Int.fdiv_eq_ediv_of_nonneg _ (Int.le_of_lt h)
theorem sq_lt {s t : Int} (hs : 0 ≤ s) (ht : 0 ≤ t) (h : s * s < t * t) : s < t := by
  rcases Int.lt_or_le s t with h1 | h1
  · exact h1
  · have := Int.mul_le_mul h1 h1 ht hs
    omega
theorem sq_le {s t : Int} (hs : 0 ≤ s) (h : s ≤ t) : s * s ≤ t * t := Int.mul_le_mul h h hs (by omega)
structure Root (n s t : Int) : Prop where
  s0 : 0 ≤ s
  le : s * s ≤ n
  lt : n < (s + 1) * (s + 1)
  t_ : t = if s * s < n then s + 1 else s
theorem Root.up {n s t : Int} (h : Root n s t) : n ≤ t * t := by
  have h1 := h.le; have h2 := h.lt; have h3 := h.t_
  split at h3 <;> subst h3 <;> omega
theorem Root.st {n s t : Int} (h : Root n s t) : s ≤ t ∧ t ≤ s + 1 := by
  have h3 := h.t_
  split at h3 <;> omega
theorem Root.low {n s t : Int} (h : Root n s t) : t = 0 ∨ (t - 1) * (t - 1) < n := by
  have h1 := h.le; have h3 := h.t_; have h0 := h.s0
  split at h3
  · right
    have : t - 1 = s := by omega
    rw [this]
    assumption
  · subst h3
    rcases Int.lt_or_le 0 t with h4 | h4
    · right
      have e : (t - 1) * (t - 1) = t * t - 2 * t + 1 := by grind
      omega
    · left; omega
theorem Ok.b {a : TInterval} (h : Ok a) : -2147483648 ≤ a.Lo ∧ a.Lo ≤ a.Hi ∧ a.Hi ≤ 2147483648 ∧ (a ≠ Ent → -2147483648 < a.Lo ∧ a.Hi < 2147483648) := by
  rcases h with rfl | h
  · simp [Ent]
  · unfold Fin at h
    exact ⟨by omega, by omega, by omega, fun _ => by omega⟩
theorem Ok.ent_of {a : TInterval} (h : Ok a) (h1 : a.Lo ≤ -2147483648 ∨ 2147483648 ≤ a.Hi) : a = Ent := by
  rcases h with h | h
  · exact h
  · unfold Fin at h; omega
theorem Fin.le {a : TInterval} (h : Fin a) : a.Lo ≤ a.Hi := h.2.1
def Le (a b : TInterval) : Prop := b.Lo ≤ a.Lo ∧ a.Hi ≤ b.Hi
theorem Le.ent {a b : TInterval} (h : Le a b) (hb : Ok b) (e : a = Ent) : b = Ent := by
  subst e
  exact hb.ent_of (.inl h.1)
theorem Le.fin {a b : TInterval} (h : Le a b) (ha : Ok a) (hb : Fin b) : Fin a := by
  rcases ha with rfl | ha
  · unfold Le Ent at h; unfold Fin at hb; simp only at h; omega
  · exact ha
theorem Hull.mono {a b a' b' : TInterval} {l h l' h' : Int} (fa : Fin a) (fb : Fin b) (H : Hull a b l h) (H' : Hull a' b' l' h') (h1 : Le a a') (h2 : Le b b') : l' ≤ l ∧ h ≤ h' := by
  unfold Le at h1 h2
  have la := fa.le; have lb := fb.le
  have i := H.isl; have j := H.ish
  have m1 := H'.mem (p := a.Lo) (q := b.Lo) (by omega) (by omega)
  have m2 := H'.mem (p := a.Lo) (q := b.Hi) (by omega) (by omega)
  have m3 := H'.mem (p := a.Hi) (q := b.Lo) (by omega) (by omega)
  have m4 := H'.mem (p := a.Hi) (q := b.Hi) (by omega) (by omega)
  omega
theorem DHull.mono {a b a' b' : TInterval} {x y u v x' y' u' v' : Int} (la : a.Lo ≤ a.Hi) (lb : b.Lo ≤ b.Hi) (H : DHull a b x y u v) (H' : DHull a' b' x' y' u' v') (h1 : Le a a') (h2 : Le b b') : x' * 65536 / y' ≤ x * 65536 / y ∧ cdiv (u * 65536) v ≤ cdiv (u' * 65536) v' := by
  unfold Le at h1 h2
  have m1 := H'.mem (p := x) (q := y) (by have := H.x_; omega) (by have := H.y_; omega)
  have m2 := H'.mem (p := u) (q := v) (by have := H.u_; omega) (by have := H.v_; omega)
  exact ⟨frac_mono H'.ypos H.ypos m1.1, cfrac_mono H.vpos H'.vpos m2.2⟩
theorem Root.mono {n s t n' s' t' : Int} (h : Root n s t) (h' : Root n' s' t') (hn : n ≤ n') : s ≤ s' ∧ t ≤ t' := by
  constructor
  · have := sq_lt h.s0 (by have := h'.s0; omega) (Int.lt_of_le_of_lt (Int.le_trans h.le hn) h'.lt)
    omega
  · have h1 := h'.up
    have h2 := h'.s0
    have h3 := h'.st
    rcases h.low with h4 | h4
    · omega
    · rcases Int.lt_or_le (t - 1) 0 with h5 | h5
      · omega
      · have := sq_lt h5 (by omega : 0 ≤ t') (by omega)
        omega
theorem ngv_fin {a : TInterval} (h : Fin a) : Fin (ngv a) := neg_fin h
def fq (n q : Int) : Int := if 0 < q then n / q else (-n) / (-q)
def cq (n q : Int) : Int := if 0 < q then cdiv n q else cdiv (-n) (-q)
structure Cor (a b : TInterval) (L U : Int) : Prop where
  le : L ≤ U
  lo : L ≤ fq (a.Lo * 65536) b.Lo ∧ L ≤ fq (a.Lo * 65536) b.Hi ∧ L ≤ fq (a.Hi * 65536) b.Lo ∧ L ≤ fq (a.Hi * 65536) b.Hi
  hi : cq (a.Lo * 65536) b.Lo ≤ U ∧ cq (a.Lo * 65536) b.Hi ≤ U ∧ cq (a.Hi * 65536) b.Lo ≤ U ∧ cq (a.Hi * 65536) b.Hi ≤ U
  isl : L = fq (a.Lo * 65536) b.Lo ∨ L = fq (a.Lo * 65536) b.Hi ∨ L = fq (a.Hi * 65536) b.Lo ∨ L = fq (a.Hi * 65536) b.Hi
  ish : U = cq (a.Lo * 65536) b.Lo ∨ U = cq (a.Lo * 65536) b.Hi ∨ U = cq (a.Hi * 65536) b.Lo ∨ U = cq (a.Hi * 65536) b.Hi
theorem fq_pos {n q : Int} (h : 0 < q) : fq n q = n / q := by unfold fq; rw [if_pos h]
theorem cq_pos {n q : Int} (h : 0 < q) : cq n q = cdiv n q := by unfold cq; rw [if_pos h]
theorem fq_neg {p q : Int} (h : q < 0) : fq (p * 65536) q = -p * 65536 / -q := by unfold fq; rw [if_neg (by omega), Int.neg_mul]
theorem cq_neg {p q : Int} (h : q < 0) : cq (p * 65536) q = cdiv (-p * 65536) (-q) := by unfold cq; rw [if_neg (by omega), Int.neg_mul]
theorem Cor.neg {a b : TInterval} {L U : Int} (C : Cor (ngv a) (ngv b) L U) (hb : b.Hi < 0) (lb : b.Lo ≤ b.Hi) : Cor a b L U := by
  have hb' : b.Lo < 0 := by omega
  obtain ⟨c0, c1, c2, c3, c4⟩ := C
  simp only [ngv] at c1 c2 c3 c4
  rw [fq_pos (q := -b.Lo) (by omega), fq_pos (q := -b.Hi) (by omega), fq_pos (q := -b.Lo) (by omega), fq_pos (q := -b.Hi) (by omega)] at c1 c3
  rw [cq_pos (q := -b.Lo) (by omega), cq_pos (q := -b.Hi) (by omega), cq_pos (q := -b.Lo) (by omega), cq_pos (q := -b.Hi) (by omega)] at c2 c4
  refine ⟨c0, ?_, ?_, ?_, ?_⟩
  · rw [fq_neg hb, fq_neg hb', fq_neg hb, fq_neg hb']; omega
  · rw [cq_neg hb, cq_neg hb', cq_neg hb, cq_neg hb']; omega
  · rw [fq_neg hb, fq_neg hb', fq_neg hb, fq_neg hb']; omega
  · rw [cq_neg hb, cq_neg hb', cq_neg hb, cq_neg hb']; omega
end Go.Proofs.YtglcmhldonkfdaaDoor
set_option maxRecDepth 10000
set_option linter.unusedVariables false
set_option linter.unusedSimpArgs false
namespace Go.Proofs.YtglcmhldonkfdaaDoor
open Go
def mk {α : Type} (n : Nat) (f : Nat → α) : List α := (List.range n).map f
theorem mk_len {α : Type} (n : Nat) (f : Nat → α) : (mk n f).length = n := by simp [mk]
theorem mk_get {α : Type} {n i : Nat} (f : Nat → α) (h : i < n) : (mk n f)[i]? = some (f i) := by simp [mk, h]
theorem mk_succ {α : Type} (n : Nat) (f : Nat → α) : mk (n + 1) f = mk n f ++ [f n] := by simp [mk, List.range_succ]
theorem mk_zero {α : Type} (f : Nat → α) : mk 0 f = [] := rfl
theorem mk_congr {α : Type} {n : Nat} {f g : Nat → α} (h : ∀ i, i < n → f i = g i) : mk n f = mk n g := by
  unfold mk
  exact List.map_congr_left fun i hi => h i (List.mem_range.1 hi)
theorem mk_ext {α : Type} {n : Nat} {l : List α} {f : Nat → α} (hl : l.length = n) (h : ∀ i, i < n → l[i]? = some (f i)) : l = mk n f := by
  apply List.ext_getElem?
  intro i
  by_cases hi : i < n
  · rw [mk_get _ hi, h i hi]
  · rw [List.getElem?_eq_none (by omega), List.getElem?_eq_none (by rw [mk_len]; omega)]
theorem mk_set {α : Type} (n : Nat) (f : Nat → α) (i : Nat) (v : α) : (mk n f).set i v = mk n fun j => if j = i then v else f j := by
  refine mk_ext (by rw [List.length_set, mk_len]) fun j hj => ?_
  rw [List.getElem?_set]
  by_cases e : i = j
  · subst e; rw [if_pos rfl, if_pos (by rw [mk_len]; exact hj), if_pos rfl]
  · rw [if_neg e, mk_get _ hj, if_neg (fun h => e h.symm)]
theorem mk_rep {α : Type} (n : Nat) (v : α) : List.replicate n v = mk n fun _ => v :=
  mk_ext (by simp) fun i hi => by simp [hi]
def mm {α : Type} (n m : Nat) (f : Nat → Nat → α) : List (List α) := mk n fun i => mk m (f i)
theorem wnext {i : Nat} (h : i < 1000000) : w_i64 ((i : Int) + 1) = ((i + 1 : Nat) : Int) := by
  rw [w64 (by omega) (by omega)]; omega
theorem dlt {i n : Nat} (h : i < n) : decide ((i : Int) < (n : Int)) = true := decide_eq_true (by omega)
theorem dnl (n : Nat) : decide ((n : Int) < (n : Int)) = false := decide_eq_false (by omega)
theorem rng {i n : Nat} (h : i < n) : 0 ≤ (i : Int) ∧ (i : Int) < (n : Int) := ⟨by omega, by omega⟩
theorem loop_st {S R : Type} (l : Nat → S → Int → Option R) (n : Nat) (st : Nat → S) (r : R) (i0 : Nat)
    (hs : ∀ (k i : Nat), i0 ≤ i → i < n → l (k + 1) (st i) (i : Int) = l k (st (i + 1)) ((i + 1 : Nat) : Int))
    (he : ∀ k : Nat, l (k + 1) (st n) (n : Int) = some r) {k : Nat} (hk : n < k) (hi0 : i0 ≤ n) : l k (st i0) (i0 : Int) = some r := by
  have key : ∀ (d i k : Nat), i0 ≤ i → i + d = n → d < k → l k (st i) (i : Int) = some r := by
    intro d
    induction d with
    | zero =>
      intro i k h0 hi hk
      obtain ⟨k, rfl⟩ : ∃ m, k = m + 1 := ⟨k - 1, by omega⟩
      obtain rfl : i = n := by omega
      exact he k
    | succ d ih =>
      intro i k h0 hi hk
      obtain ⟨k, rfl⟩ : ∃ m, k = m + 1 := ⟨k - 1, by omega⟩
      rw [hs k i h0 (by omega)]
      exact ih (i + 1) k (by omega) (by omega) (by omega)
  exact key (n - i0) i0 k (Nat.le_refl _) (by omega) (by omega)
theorem loop_0 {S R : Type} (l : Nat → S → Int → Option R) (n : Nat) (st : Nat → S) (r : R) {s : S} (h0 : s = st 0)
    (hs : ∀ (k i : Nat), i < n → l (k + 1) (st i) (i : Int) = l k (st (i + 1)) ((i + 1 : Nat) : Int))
    (he : ∀ k : Nat, l (k + 1) (st n) (n : Int) = some r) {k : Nat} (hk : n < k) : l k s 0 = some r := by
  rw [h0]; exact loop_st l n st r 0 (fun k i _ hi => hs k i hi) he hk (Nat.zero_le _)
theorem loop_ok {γ : Type} (l : Nat → Int → Option (γ ⊕ Unit)) (n : Nat)
    (hs : ∀ (k i : Nat), i < n → l (k + 1) (i : Int) = l k ((i + 1 : Nat) : Int))
    (he : ∀ k : Nat, l (k + 1) (n : Int) = some (.inr ())) {k : Nat} (hk : n < k) : l k 0 = some (.inr ()) :=
  loop_st (fun k (_ : Unit) i => l k i) n (fun _ => ()) (.inr ()) 0 (fun k i _ hi => hs k i hi) he hk (Nat.zero_le _)
end Go.Proofs.YtglcmhldonkfdaaDoor
set_option maxRecDepth 10000
set_option linter.unusedVariables false
set_option linter.unusedSimpArgs false
namespace Go.Proofs.YtglcmhldonkfdaaDoor
open Go
theorem build_row {β : Type} (l : Nat → List (List β) → Int → Option (List (List β))) (n i : Nat) (hi : i < n) (f : Nat → Nat → β) (hn : n < 1000000)
    (hs : ∀ (k : Nat) (acc : List (List β)) (j : Nat) (row : List β), j < n → acc.length = n → acc[i]? = some row → row.length < 1000000 → l (k + 1) acc (j : Int) = l k (acc.set i (row ++ [f i j])) ((j + 1 : Nat) : Int))
    (he : ∀ (k : Nat) (acc : List (List β)), l (k + 1) acc (n : Int) = some acc) {k : Nat} (hk : n < k) :
    l k (mk n fun a => if a < i then mk n (f a) else []) 0 = some (mk n fun a => if a < i + 1 then mk n (f a) else []) := by
  refine loop_0 l n (fun j => mk n fun a => if a < i then mk n (f a) else if a = i then mk j (f i) else []) _ (mk_congr fun a ha => ?_) (fun k j hj => ?_) (fun k => ?_) hk
  · by_cases h : a < i
    · rw [if_pos h, if_pos h]
    · rw [if_neg h, if_neg h, mk_zero, ite_self]
  · show l (k + 1) (mk n fun a => if a < i then mk n (f a) else if a = i then mk j (f i) else []) _ = _
    rw [hs k _ j (mk j (f i)) hj (mk_len _ _) (by rw [mk_get _ hi, if_neg (by omega), if_pos rfl]) (by rw [mk_len]; omega), ← mk_succ, mk_set]
    congr 1
    refine mk_congr fun a ha => ?_
    by_cases h : a = i
    · subst h; rw [if_pos rfl, if_neg (by omega), if_pos rfl]
    · simp only [h, if_false]
  · show l (k + 1) (mk n fun a => if a < i then mk n (f a) else if a = i then mk n (f i) else []) _ = _
    rw [he]
    congr 1
    refine mk_congr fun a ha => ?_
    by_cases h : a < i
    · rw [if_pos h, if_pos (by omega)]
    · by_cases e : a = i
      · subst e; rw [if_neg (by omega), if_pos rfl, if_pos (by omega)]
      · rw [if_neg h, if_neg e, if_neg (by omega)]
theorem build_eq {β : Type} (l : Nat → List (List β) → Int → Option (List (List β))) (n : Nat) (f : Nat → Nat → β)
    (hs : ∀ (k i : Nat), i < n → l (k + 1) (mk n fun a => if a < i then mk n (f a) else []) (i : Int) = l k (mk n fun a => if a < i + 1 then mk n (f a) else []) ((i + 1 : Nat) : Int))
    (he : ∀ (k : Nat) (acc : List (List β)), l (k + 1) acc (n : Int) = some acc) {k : Nat} (hk : n < k) :
    l k (List.replicate n []) 0 = some (mm n n f) := by
  refine loop_0 l n (fun i => mk n fun a => if a < i then mk n (f a) else []) _ ?_ hs (fun k => ?_) hk
  · rw [mk_rep]; exact mk_congr fun a _ => by rw [if_neg (by omega)]
  · show l (k + 1) (mk n fun a => if a < n then mk n (f a) else []) _ = _
    rw [he]
    congr 1
    exact mk_congr fun a ha => if_pos ha
theorem n0 {n : Nat} (hn : n < 1000000) : 0 ≤ (n : Int) ∧ (n : Int) < 1000000 := ⟨by omega, by omega⟩
end Go.Proofs.YtglcmhldonkfdaaDoor
set_option maxRecDepth 10000
set_option linter.unusedVariables false
set_option linter.unusedSimpArgs false
namespace Go.Proofs.YtglcmhldonkfdaaDoor
open Go
theorem mm_get {α : Type} {n m i : Nat} (f : Nat → Nat → α) (h : i < n) : (mm n m f)[i]? = some (mk m (f i)) := mk_get _ h
theorem mm_len {α : Type} (n m : Nat) (f : Nat → Nat → α) : (mm n m f).length = n := mk_len _ _
theorem dim_eq {x : Int} (h : 0 ≤ x ∧ x ≤ 255) : ∃ n : Nat, armillaryref04_Dim x = some ((n + 1 : Nat) : Int) ∧ n < 4 := by
  unfold armillaryref04_Dim
  have hm : Int.tmod x 4 = x % 4 := Int.tmod_eq_emod_of_nonneg h.1
  refine ⟨(x % 4).toNat, ?_, by omega⟩
  rw [w64 (x := x) (by omega) (by omega), hm, w64 (by omega) (by omega)]
  congr 1
  omega
def Sm (a : TInterval) : Prop := -16777216 < a.Lo ∧ a.Lo ≤ a.Hi ∧ a.Hi < 16777216
theorem Sm.fin {a : TInterval} (h : Sm a) : Fin a := by unfold Sm at h; unfold Fin; omega
theorem Sm.ok {a : TInterval} (h : Sm a) : Ok a := .inr h.fin
theorem w_ij {i j n : Nat} (hn : n ≤ 6) (hi : i < n) (hj : j ≤ n) : w_i64 (w_i64 ((i : Int) * (n : Int)) + (j : Int)) = ((i * n + j : Nat) : Int) := by
  have h : i * n ≤ 6 * 6 := Nat.mul_le_mul (by omega) hn
  have e : (i : Int) * (n : Int) = ((i * n : Nat) : Int) := (Int.natCast_mul _ _).symm
  rw [e, w64 (x := ((i * n : Nat) : Int)) (by omega) (by omega), w64 (by omega) (by omega)]
  omega
theorem gD {α : Type} (l : List α) (d : α) {i : Nat} (h : i < l.length) : l[i]? = some (l.getD i d) := by rw [List.getElem?_eq_getElem h]; simp [List.getD, h]
end Go.Proofs.YtglcmhldonkfdaaDoor
set_option maxRecDepth 10000
set_option linter.unusedVariables false
set_option linter.unusedSimpArgs false
namespace Go.Proofs.YtglcmhldonkfdaaDoor
open Go
def dotN (a b : Nat → Int) : Nat → Int
  | 0 => 0
  | n + 1 => dotN a b n + a n * b n
theorem dotN_b {a b : Nat → Int} {A B : Int} (hA : 0 ≤ A) (hB : 0 ≤ B) : ∀ {n : Nat}, (∀ i, i < n → -A ≤ a i ∧ a i ≤ A) → (∀ i, i < n → -B ≤ b i ∧ b i ≤ B) → -(n * (A * B)) ≤ dotN a b n ∧ dotN a b n ≤ n * (A * B)
  | 0, _, _ => by simp [dotN]
  | n + 1, ha, hb => by
    have h1 := dotN_b hA hB (n := n) (fun i h => ha i (by omega)) (fun i h => hb i (by omega))
    have h2 := prod_bound (ha n (by omega)) (hb n (by omega))
    have e : ((n + 1 : Nat) : Int) * (A * B) = n * (A * B) + A * B := by rw [Int.natCast_add, Int.add_mul]; simp
    rw [dotN, e]
    omega
theorem col_eq {N c : Nat} (hn : N < 1000000) (hc : c < N) (m : Nat → Nat → Int) {k0 : Nat} (hk : N < k0) : armillaryref04_Column k0 (mm N N m) (c : Int) = some (mk N fun i => m i c) := by
  unfold armillaryref04_Column
  refine bT (loop_0 (fun k s x => armillaryref04_Column.l9 k0 (mm N N m) (c : Int) k s x) N (fun j => mk j fun i => m i c) _ rfl (fun k i hi => ?_) (fun k => ?_) hk) rfl
  · show armillaryref04_Column.l9 _ _ _ (k + 1) _ _ = _
    rw [armillaryref04_Column.l9, mm_len, if_pos (dlt hi), if_pos (rng hi), Int.toNat_natCast, mm_get _ hi, Option.bind_some, mk_len, if_pos (rng hc), Int.toNat_natCast, mk_get _ hc, Option.bind_some, mk_len, if_pos (by omega), wnext (by omega), ← mk_succ]
  · show armillaryref04_Column.l9 _ _ _ (k + 1) _ _ = _
    rw [armillaryref04_Column.l9, mm_len, if_neg (by rw [dnl]; simp)]
def InS (a : TInterval) (x : Int) : Prop := a = Ent ∨ a.Lo * 65536 ≤ x ∧ x ≤ a.Hi * 65536
end Go.Proofs.YtglcmhldonkfdaaDoor
set_option maxRecDepth 10000
set_option linter.unusedVariables false
set_option linter.unusedSimpArgs false
namespace Go.Proofs.YtglcmhldonkfdaaDoor
open Go
theorem InS.ent (x : Int) : InS Ent x := .inl rfl
end Go.Proofs.YtglcmhldonkfdaaDoor
set_option maxRecDepth 10000
set_option linter.unusedVariables false
set_option linter.unusedSimpArgs false
namespace Go.Proofs.YtglcmhldonkfdaaDoor
open Go
theorem Hull.uniq {a b : TInterval} {l h l' h' : Int} (H : Hull a b l h) (H' : Hull a b l' h') : l = l' ∧ h = h' := by
  have h1 := H.lo; have h2 := H.hi; have h3 := H.isl; have h4 := H.ish
  have g1 := H'.lo; have g2 := H'.hi; have g3 := H'.isl; have g4 := H'.ish
  omega
theorem ngv_nw (x y : Int) : ngv (nw x y) = nw (-y) (-x) := by
  unfold nw
  by_cases h : x ≤ -2147483648 ∨ y ≥ 2147483648 ∨ x ≥ 2147483648 ∨ y ≤ -2147483648
  · rw [if_pos h, if_pos (by omega)]; rfl
  · rw [if_neg h, if_neg (by omega)]; rfl
theorem neg_cdiv (x d : Int) : -(cdiv x d) = (-x) / d := by unfold cdiv; omega
theorem cdiv_neg (x d : Int) : cdiv (-x) d = -(x / d) := by unfold cdiv; rw [Int.neg_neg]
theorem Hull.neg {a b : TInterval} {l h : Int} (H : Hull a b l h) : Hull (ngv a) b (-h) (-l) := by
  have h1 := H.lo; have h2 := H.hi; have h3 := H.isl; have h4 := H.ish
  constructor <;> simp only [ngv, Int.neg_mul] <;> omega
theorem mul_neg {a b : TInterval} (ha : Ok a) (hb : Ok b) {r : TInterval} (hr : interval_Mul a b = some r) : interval_Mul (ngv a) b = some (ngv r) := by
  rcases ha with rfl | ha
  · rw [mul_entl] at hr
    obtain rfl := Option.some.inj hr
    exact mul_entl _
  · rcases hb with rfl | hb
    · rw [mul_entr] at hr
      obtain rfl := Option.some.inj hr
      exact mul_entr _
    · obtain ⟨l, h, hm, H⟩ := mul_fin ha hb
      obtain ⟨l', h', hm', H'⟩ := mul_fin (ngv_fin ha) hb
      obtain ⟨rfl, rfl⟩ := H'.uniq H.neg
      rw [hm] at hr
      obtain rfl := Option.some.inj hr
      rw [hm', ngv_nw, neg_cdiv, cdiv_neg]
end Go.Proofs.YtglcmhldonkfdaaDoor
set_option maxRecDepth 10000
set_option linter.unusedVariables false
set_option linter.unusedSimpArgs false
namespace Go.Proofs.YtglcmhldonkfdaaDoor
open Go
end Go.Proofs.YtglcmhldonkfdaaDoor
set_option maxRecDepth 10000
set_option linter.unusedVariables false
set_option linter.unusedSimpArgs false
namespace Go.Proofs.YtglcmhldonkfdaaDoor
open Go
end Go.Proofs.YtglcmhldonkfdaaDoor
set_option maxRecDepth 10000
set_option linter.unusedVariables false
set_option linter.unusedSimpArgs false
namespace Go.Proofs.YtglcmhldonkfdaaDoor
open Go
end Go.Proofs.YtglcmhldonkfdaaDoor
set_option maxRecDepth 10000
set_option linter.unusedVariables false
set_option linter.unusedSimpArgs false
namespace Go.Proofs.YtglcmhldonkfdaaDoor
open Go
end Go.Proofs.YtglcmhldonkfdaaDoor
set_option maxRecDepth 10000
set_option linter.unusedVariables false
set_option linter.unusedSimpArgs false
namespace Go.Proofs.YtglcmhldonkfdaaDoor
open Go
end Go.Proofs.YtglcmhldonkfdaaDoor
set_option maxRecDepth 10000
set_option linter.unusedVariables false
set_option linter.unusedSimpArgs false
namespace Go.Proofs.YtglcmhldonkfdaaDoor
open Go
end Go.Proofs.YtglcmhldonkfdaaDoor
set_option maxRecDepth 10000
set_option linter.unusedVariables false
set_option linter.unusedSimpArgs false
namespace Go.Proofs.YtglcmhldonkfdaaDoor
open Go
end Go.Proofs.YtglcmhldonkfdaaDoor
set_option maxRecDepth 10000
set_option linter.unusedVariables false
set_option linter.unusedSimpArgs false
namespace Go.Proofs.YtglcmhldonkfdaaDoor
open Go
theorem dotN_congr {a b c d : Nat → Int} : ∀ {n : Nat}, (∀ i, i < n → a i = c i) → (∀ i, i < n → b i = d i) → dotN a b n = dotN c d n
  | 0, _, _ => rfl
  | n + 1, h1, h2 => by rw [dotN, dotN, dotN_congr (fun i h => h1 i (by omega)) (fun i h => h2 i (by omega)), h1 n (by omega), h2 n (by omega)]
theorem dotN_comm (a b : Nat → Int) : ∀ n, dotN a b n = dotN b a n
  | 0 => rfl
  | n + 1 => by rw [dotN, dotN, dotN_comm a b n, Int.mul_comm]
theorem dotN_lin {w w' u r x : Nat → Int} {s c : Int} : ∀ {n : Nat}, (∀ i, i < n → s * w' i = s * w i - c * u i + r i) → s * dotN w' x n = s * dotN w x n - c * dotN u x n + dotN r x n
  | 0, _ => by simp [dotN]
  | n + 1, h => by
    have h1 := dotN_lin (x := x) (fun i hi => h i (Nat.lt_succ_of_lt hi))
    have h2 := h n (Nat.lt_succ_self n)
    rw [dotN, dotN, dotN, dotN]
    have e : s * (w' n * x n) = (s * w' n) * x n := by rw [Int.mul_assoc]
    rw [Int.mul_add, h1, e, h2]
    grind
def absS (x : Nat → Int) : Nat → Int
  | 0 => 0
  | n + 1 => absS x n + (if 0 ≤ x n then x n else -x n)
theorem absS_nn (x : Nat → Int) : ∀ n, 0 ≤ absS x n
  | 0 => Int.le_refl _
  | n + 1 => by have := absS_nn x n; rw [absS]; split <;> omega
theorem dot_abs {r x : Nat → Int} {A : Int} (hA : 0 ≤ A) : ∀ {n : Nat}, (∀ i, i < n → -A ≤ r i ∧ r i ≤ A) → -(A * absS x n) ≤ dotN r x n ∧ dotN r x n ≤ A * absS x n
  | 0, _ => by simp [dotN, absS]
  | n + 1, h => by
    have h1 := dot_abs hA (x := x) (fun i hi => h i (Nat.lt_succ_of_lt hi))
    have h2 := h n (Nat.lt_succ_self n)
    rw [dotN, absS, Int.mul_add]
    split
    · have a1 := Int.mul_le_mul_of_nonneg_right h2.2 (by assumption : 0 ≤ x n)
      have a2 := Int.mul_le_mul_of_nonneg_right h2.1 (by assumption : 0 ≤ x n)
      rw [Int.neg_mul] at a2
      omega
    · have hx : 0 ≤ -x n := by omega
      have a1 := Int.mul_le_mul_of_nonneg_right h2.2 hx
      have a2 := Int.mul_le_mul_of_nonneg_right h2.1 hx
      rw [Int.neg_mul] at a2
      rw [Int.mul_neg, Int.mul_neg] at a1 a2
      rw [Int.mul_neg]
      omega
theorem sq_nn (x : Int) : 0 ≤ x * x := by
  by_cases h : 0 ≤ x
  · exact Int.mul_nonneg h h
  · have := Int.mul_nonneg (show 0 ≤ -x by omega) (show 0 ≤ -x by omega)
    rwa [Int.neg_mul_neg] at this
theorem abs_sq (x : Int) : (if 0 ≤ x then x else -x) * (if 0 ≤ x then x else -x) = x * x := by
  split
  · rfl
  · exact Int.neg_mul_neg _ _
theorem dot_nn (x : Nat → Int) : ∀ n, 0 ≤ dotN x x n
  | 0 => Int.le_refl _
  | n + 1 => by have := dot_nn x n; have := sq_nn (x n); rw [dotN]; omega
theorem absS_sq (x : Nat → Int) {n : Nat} (hn : n ≤ 4) : absS x n * absS x n ≤ 4 * dotN x x n := by
  have q := fun i => abs_sq (x i)
  have key : ∀ a b c d : Int, (a + b + c + d) * (a + b + c + d) ≤ 4 * (a * a + b * b + c * c + d * d) := fun a b c d => by
    have h1 := sq_nn (a - b); have h2 := sq_nn (a - c); have h3 := sq_nn (a - d)
    have h4 := sq_nn (b - c); have h5 := sq_nn (b - d); have h6 := sq_nn (c - d)
    grind
  have ex : ∃ m, n + m = 4 := ⟨4 - n, by omega⟩
  match n, hn with
  | 0, _ => simp [absS, dotN]
  | 1, _ =>
    have := key (if 0 ≤ x 0 then x 0 else -x 0) 0 0 0
    simp only [absS, dotN]
    rw [q 0] at this
    simp only [Int.zero_add, Int.add_zero, Int.mul_zero, q 0] at this ⊢
    have := sq_nn (x 0)
    omega
  | 2, _ =>
    have := key (if 0 ≤ x 0 then x 0 else -x 0) (if 0 ≤ x 1 then x 1 else -x 1) 0 0
    simp only [absS, dotN]
    rw [q 0, q 1] at this
    simp only [Int.zero_add, Int.add_zero, Int.mul_zero] at this ⊢
    exact this
  | 3, _ =>
    have := key (if 0 ≤ x 0 then x 0 else -x 0) (if 0 ≤ x 1 then x 1 else -x 1) (if 0 ≤ x 2 then x 2 else -x 2) 0
    simp only [absS, dotN]
    rw [q 0, q 1, q 2] at this
    simp only [Int.zero_add, Int.add_zero, Int.mul_zero] at this ⊢
    exact this
  | 4, _ =>
    have := key (if 0 ≤ x 0 then x 0 else -x 0) (if 0 ≤ x 1 then x 1 else -x 1) (if 0 ≤ x 2 then x 2 else -x 2) (if 0 ≤ x 3 then x 3 else -x 3)
    simp only [absS, dotN]
    rw [q 0, q 1, q 2, q 3] at this
    simp only [Int.zero_add] at this ⊢
    exact this
theorem absS_le {x : Nat → Int} {n : Nat} (hn : n ≤ 4) {U : Int} (hU : 0 ≤ U) (h : dotN x x n ≤ U * U) : absS x n ≤ 2 * U := by
  have h1 := absS_sq x hn
  have h2 : absS x n * absS x n < (2 * U + 1) * (2 * U + 1) := by
    have e : (2 * U + 1) * (2 * U + 1) = 4 * (U * U) + 4 * U + 1 := by grind
    omega
  have := sq_lt (absS_nn x n) (show 0 ≤ 2 * U + 1 by omega) h2
  omega
theorem comp_le {x : Nat → Int} {U : Int} (hU : 0 ≤ U) : ∀ {n : Nat}, dotN x x n ≤ U * U → ∀ i, i < n → -U ≤ x i ∧ x i ≤ U
  | 0, _, i, hi => absurd hi (Nat.not_lt_zero _)
  | n + 1, h, i, hi => by
    rw [dotN] at h
    have h0 := dot_nn x n
    have hs := sq_nn (x n)
    by_cases e : i = n
    · subst e
      have hq : x i * x i < (U + 1) * (U + 1) := by
        have : (U + 1) * (U + 1) = U * U + 2 * U + 1 := by grind
        omega
      rw [← abs_sq] at hq
      have := sq_lt (by split <;> omega) (show 0 ≤ U + 1 by omega) hq
      split at this <;> omega
    · have h3 : dotN x x n ≤ U * U := by omega
      exact comp_le hU h3 i (by omega)
end Go.Proofs.YtglcmhldonkfdaaDoor
set_option maxRecDepth 10000
set_option linter.unusedVariables false
set_option linter.unusedSimpArgs false
namespace Go.Proofs.YtglcmhldonkfdaaDoor
open Go
def cOf (w u : Nat → Int) : Nat → Int
  | 0 => 0
  | n + 1 => cOf w u n + w n * u n / 65536
theorem cOf_b (w u : Nat → Int) : ∀ n : Nat, 65536 * cOf w u n ≤ dotN w u n ∧ dotN w u n ≤ 65536 * cOf w u n + n * 65535
  | 0 => by simp [cOf, dotN]
  | n + 1 => by
    have h := cOf_b w u n
    rw [cOf, dotN]
    generalize w n * u n = z at *
    omega
def stp (N : Nat) (w u : Nat → Int) (k : Nat) : Int := w k - cOf w u N * u k / 65536
theorem stp_r (N : Nat) (w u : Nat → Int) (k : Nat) : ∃ r, 65536 * stp N w u k = 65536 * w k - cOf w u N * u k + r ∧ 0 ≤ r ∧ r ≤ 65535 := by
  unfold stp
  generalize cOf w u N * u k = z
  exact ⟨z % 65536, by omega, by omega, by omega⟩
structure Cols (N j : Nat) (b : Int) (u : Nat → Nat → Int) : Prop where
  n4 : N ≤ 4
  up : ∀ t, t < j → dotN (u t) (u t) N ≤ 65554 * 65554
  low : ∀ t, t < j → 4294967296 - 37 * 65536 ≤ dotN (u t) (u t) N
  pair : ∀ s, s < j → ∀ t, t < j → s ≠ t → -(b * 65536) ≤ dotN (u s) (u t) N ∧ dotN (u s) (u t) N ≤ b * 65536
  b0 : 0 ≤ b
theorem Cols.abs {N j : Nat} {b : Int} {u : Nat → Nat → Int} (C : Cols N j b u) {t : Nat} (h : t < j) : absS (u t) N ≤ 131108 := absS_le C.n4 (by omega) (C.up t h)
theorem Cols.comp {N j : Nat} {b : Int} {u : Nat → Nat → Int} (C : Cols N j b u) {t : Nat} (h : t < j) {k : Nat} (hk : k < N) : -65554 ≤ u t k ∧ u t k ≤ 65554 := comp_le (by omega) (C.up t h) k hk
theorem rdot {r x : Nat → Int} {N : Nat} {m : Int} (hm : 0 ≤ m) (hr : ∀ k, k < N → 0 ≤ r k ∧ r k ≤ m) {A : Int} (hx : absS x N ≤ A) : -(m * A) ≤ dotN r x N ∧ dotN r x N ≤ m * A := by
  have h := dot_abs hm (x := x) (r := r) (n := N) (fun i hi => ⟨by have := hr i hi; omega, (hr i hi).2⟩)
  have h2 := Int.mul_le_mul_of_nonneg_left hx hm
  omega
def cb (X : Nat → Int) (t : Nat) : Int := X t / 65536 + 5
def nxt (b : Int) (X : Nat → Int) (t i : Nat) : Int := if i = t then 4 * 65536 + 37 * cb X t + 131108 else X i + cb X t * b + 131108
theorem c_bound {N j : Nat} {b : Int} {u : Nat → Nat → Int} (C : Cols N j b u) {X : Nat → Int} {w : Nat → Int} {t : Nat} (ht : t < j) (hX : -(X t) ≤ dotN w (u t) N ∧ dotN w (u t) N ≤ X t) : -(cb X t) ≤ cOf w (u t) N ∧ cOf w (u t) N ≤ cb X t := by
  have h := cOf_b w (u t) N
  have := C.n4
  unfold cb
  omega
theorem step_dots {N j : Nat} {b : Int} {u : Nat → Nat → Int} (C : Cols N j b u) {X : Nat → Int} {w : Nat → Int} {t : Nat} (ht : t < j) (hX : ∀ i, i < j → -(X i) ≤ dotN w (u i) N ∧ dotN w (u i) N ≤ X i) :
    ∀ i, i < j → -(nxt b X t i) ≤ dotN (stp N w (u t)) (u i) N ∧ dotN (stp N w (u t)) (u i) N ≤ nxt b X t i := fun i hi => by
  have hc := c_bound C ht (hX t ht)
  have hcb : 0 ≤ cb X t := by omega
  obtain ⟨r, hr⟩ : ∃ r : Nat → Int, ∀ k, 65536 * stp N w (u t) k = 65536 * w k - cOf w (u t) N * u t k + r k ∧ 0 ≤ r k ∧ r k ≤ 65535 :=
    ⟨fun k => (stp_r N w (u t) k).choose, fun k => (stp_r N w (u t) k).choose_spec⟩
  have hlin := dotN_lin (x := u i) (n := N) (fun k _ => (hr k).1)
  have hrd := rdot (m := 65535) (by omega) (fun k _ => (hr k).2) (C.abs hi)
  have hD := hX i hi
  unfold nxt
  generalize hcc : cOf w (u t) N = c at *
  by_cases e : i = t
  · subst e
    rw [if_pos rfl]
    have hb := cOf_b w (u i) N
    rw [hcc] at hb
    have h4 := C.n4
    have hup := C.up i hi
    have hlo := C.low i hi
    generalize dotN (u i) (u i) N = q at *
    have hq := prod_bound (x := c) (y := q - 4294967296) (A := cb X i) (B := 37 * 65536) hc (by omega)
    rw [Int.mul_sub] at hq
    have e2 : cb X i * (37 * 65536) = (37 * cb X i) * 65536 := by grind
    generalize c * q = z at *
    generalize dotN w (u i) N = D at *
    generalize dotN (stp N w (u i)) (u i) N = D' at *
    generalize dotN r (u i) N = R at *
    omega
  · rw [if_neg e]
    have hp := C.pair t ht i hi (fun h => e h.symm)
    have hq := prod_bound hc hp
    have e2 : cb X t * (b * 65536) = (cb X t * b) * 65536 := by grind
    rw [e2] at hq
    generalize c * dotN (u t) (u i) N = z at *
    generalize cb X t * b = p at *
    generalize dotN w (u i) N = D at *
    generalize dotN (stp N w (u t)) (u i) N = D' at *
    generalize dotN r (u i) N = R at *
    omega
theorem step_W {N j : Nat} {b : Int} {u : Nat → Nat → Int} (C : Cols N j b u) {X : Nat → Int} {w : Nat → Int} {W : Int} {t : Nat} (ht : t < j) (hX : -(X t) ≤ dotN w (u t) N ∧ dotN w (u t) N ≤ X t) (hW : ∀ k, k < N → -W ≤ w k ∧ w k ≤ W) :
    ∀ k, k < N → -(W + (cb X t * 65554) / 65536 + 2) ≤ stp N w (u t) k ∧ stp N w (u t) k ≤ W + (cb X t * 65554) / 65536 + 2 := fun k hk => by
  have hc := c_bound C ht hX
  obtain ⟨r, h1, h2, h3⟩ := stp_r N w (u t) k
  have hp := prod_bound hc (C.comp ht hk)
  have hw := hW k hk
  generalize cOf w (u t) N * u t k = z at *
  omega
end Go.Proofs.YtglcmhldonkfdaaDoor
set_option maxRecDepth 10000
set_option linter.unusedVariables false
set_option linter.unusedSimpArgs false
namespace Go.Proofs.YtglcmhldonkfdaaDoor
open Go
structure Bd where
  X : Nat → Int
  W : Int
  C : Nat → Int
def bst (b : Int) (s : Bd) (t : Nat) : Bd := ⟨nxt b s.X t, s.W + (cb s.X t * 65554) / 65536 + 2, fun i => if i = t then s.C i + cb s.X t else s.C i⟩
def brun (b : Int) : List Nat → Bd → Bd
  | [], s => s
  | t :: r, s => brun b r (bst b s t)
def vrun (N : Nat) (u : Nat → Nat → Int) : List Nat → (Nat → Int) → (Nat → Int)
  | [], w => w
  | t :: r, w => vrun N u r (stp N w (u t))
theorem dotN_upd (a x : Nat → Int) (c : Int) (t : Nat) : ∀ {n : Nat}, t < n → dotN (fun i => if i = t then a i + c else a i) x n = dotN a x n + c * x t
  | 0, h => absurd h (Nat.not_lt_zero _)
  | n + 1, h => by
    rw [dotN, dotN]
    by_cases e : t = n
    · subst e
      rw [if_pos rfl, dotN_congr (c := a) (d := x) (fun i hi => if_neg (by omega)) (fun _ _ => rfl), Int.add_mul]
      omega
    · rw [if_neg (by omega), dotN_upd a x c t (by omega)]
      omega
structure Hd (N j : Nat) (u : Nat → Nat → Int) (w0 : Nat → Int) (s : Bd) (w : Nat → Int) (n : Nat) : Prop where
  dots : ∀ i, i < j → -(s.X i) ≤ dotN w (u i) N ∧ dotN w (u i) N ≤ s.X i
  comp : ∀ k, k < N → -s.W ≤ w k ∧ w k ≤ s.W
  coef : ∃ C R : Nat → Int, (∀ t, t < j → -(s.C t) ≤ C t ∧ C t ≤ s.C t) ∧ (∀ k, k < N → 0 ≤ R k ∧ R k ≤ n * 65535) ∧ ∀ k, k < N → 65536 * w k = 65536 * w0 k - dotN C (fun t => u t k) j + R k
theorem Hd.step {N j : Nat} {b : Int} {u : Nat → Nat → Int} (C : Cols N j b u) {w0 w : Nat → Int} {s : Bd} {n : Nat} (H : Hd N j u w0 s w n) {t : Nat} (ht : t < j) : Hd N j u w0 (bst b s t) (stp N w (u t)) (n + 1) where
  dots := step_dots C ht H.dots
  comp := step_W C ht (H.dots t ht) H.comp
  coef := by
    obtain ⟨K, R, h1, h2, h3⟩ := H.coef
    have hc := c_bound C ht (H.dots t ht)
    obtain ⟨r, hr⟩ : ∃ r : Nat → Int, ∀ k, 65536 * stp N w (u t) k = 65536 * w k - cOf w (u t) N * u t k + r k ∧ 0 ≤ r k ∧ r k ≤ 65535 :=
      ⟨fun k => (stp_r N w (u t) k).choose, fun k => (stp_r N w (u t) k).choose_spec⟩
    refine ⟨fun i => if i = t then K i + cOf w (u t) N else K i, fun k => R k + r k, fun i hi => ?_, fun k hk => ?_, fun k hk => ?_⟩
    · show -(if i = t then s.C i + cb s.X t else s.C i) ≤ (if i = t then K i + cOf w (u t) N else K i) ∧ (if i = t then K i + cOf w (u t) N else K i) ≤ (if i = t then s.C i + cb s.X t else s.C i)
      have := h1 i hi
      by_cases e : i = t
      · rw [if_pos e, if_pos e]; omega
      · rw [if_neg e, if_neg e]; exact this
    · have := h2 k hk
      have := hr k
      have e : ((n + 1 : Nat) : Int) * 65535 = n * 65535 + 65535 := by omega
      show 0 ≤ R k + r k ∧ R k + r k ≤ ((n + 1 : Nat) : Int) * 65535
      omega
    · rw [dotN_upd K (fun t => u t k) _ t ht]
      have := (hr k).1
      have := h3 k hk
      show 65536 * stp N w (u t) k = 65536 * w0 k - (dotN K (fun t => u t k) j + cOf w (u t) N * u t k) + (R k + r k)
      omega
theorem Hd.run {N j : Nat} {b : Int} {u : Nat → Nat → Int} (C : Cols N j b u) {w0 : Nat → Int} : ∀ (ts : List Nat) {w : Nat → Int} {s : Bd} {n : Nat}, (∀ t ∈ ts, t < j) → Hd N j u w0 s w n → Hd N j u w0 (brun b ts s) (vrun N u ts w) (n + ts.length)
  | [], w, s, n, _, H => H
  | t :: r, w, s, n, h, H => by
    have := Hd.run C r (fun t ht => h t (List.mem_cons_of_mem _ ht)) (H.step C (h t (List.mem_cons_self ..)))
    rw [show n + (t :: r).length = n + 1 + r.length by rw [List.length_cons]; omega]
    exact this
theorem dotN_zero (x : Nat → Int) : ∀ n, dotN (fun _ => 0) x n = 0
  | 0 => rfl
  | n + 1 => by rw [dotN, dotN_zero x n, Int.zero_mul]; rfl
theorem Hd.start {N j : Nat} {u : Nat → Nat → Int} {w : Nat → Int} {X : Nat → Int} {W : Int} (hX : ∀ i, i < j → -(X i) ≤ dotN w (u i) N ∧ dotN w (u i) N ≤ X i) (hW : ∀ k, k < N → -W ≤ w k ∧ w k ≤ W) : Hd N j u w ⟨X, W, fun _ => 0⟩ w 0 where
  dots := hX
  comp := hW
  coef := ⟨fun _ => 0, fun _ => 0, fun _ _ => by simp, fun _ _ => by simp, fun k _ => by rw [dotN_zero]; show 65536 * w k = 65536 * w k - 0 + 0; omega⟩
def tri (j : Nat) : List Nat := List.range j ++ List.range j ++ List.range j
def red (N j : Nat) (u : Nat → Nat → Int) (w : Nat → Int) : Nat → Int := vrun N u (tri j) w
theorem tri_lt {j t : Nat} (h : t ∈ tri j) : t < j := by
  unfold tri at h
  simp only [List.mem_append, List.mem_range] at h
  omega
theorem tri_len (j : Nat) : (tri j).length = 3 * j := by unfold tri; simp; omega
theorem red_H {N j : Nat} {b : Int} {u : Nat → Nat → Int} (C : Cols N j b u) {w : Nat → Int} {X : Nat → Int} {W : Int} (hX : ∀ i, i < j → -(X i) ≤ dotN w (u i) N ∧ dotN w (u i) N ≤ X i) (hW : ∀ k, k < N → -W ≤ w k ∧ w k ≤ W) :
    Hd N j u w (brun b (tri j) ⟨X, W, fun _ => 0⟩) (red N j u w) (3 * j) := by
  have := Hd.run C (tri j) (fun t h => tri_lt h) (Hd.start hX hW)
  rw [tri_len, Nat.zero_add] at this
  exact this
def bOf : Nat → Int
  | 0 => 0
  | 1 => 0
  | 2 => 99
  | 3 => 133
  | _ => 172
def X0 : Nat → Int := fun _ => 33554432 * 65554
def bdM (j : Nat) : Bd := brun (bOf j) (tri j) ⟨X0, 16777216, fun _ => 0⟩
theorem bdM_X : ∀ j, j < 4 → ∀ i, i < j → 16 * (bdM j).X i + 131108 ≤ bOf (j + 1) * 65536 ∧ (bdM j).X i ≤ 700000 := by decide +kernel
theorem bOf_mono : ∀ j, j < 4 → 0 ≤ bOf j ∧ bOf j ≤ bOf (j + 1) ∧ bOf (j + 1) ≤ 172 := by decide
end Go.Proofs.YtglcmhldonkfdaaDoor
set_option maxRecDepth 10000
set_option linter.unusedVariables false
set_option linter.unusedSimpArgs false
namespace Go.Proofs.YtglcmhldonkfdaaDoor
open Go
theorem dotN_lin2 {v w r x : Nat → Int} {L s : Int} : ∀ {n : Nat}, (∀ i, i < n → L * v i = s * w i - r i) → L * dotN v x n = s * dotN w x n - dotN r x n
  | 0, _ => by simp [dotN]
  | n + 1, h => by
    have h1 := dotN_lin2 (x := x) (fun i hi => h i (Nat.lt_succ_of_lt hi))
    have h2 := h n (Nat.lt_succ_self n)
    rw [dotN, dotN, dotN]
    have e : L * (v n * x n) = (L * v n) * x n := by rw [Int.mul_assoc]
    rw [Int.mul_add, h1, e, h2]
    grind
def nrv (w : Nat → Int) (L : Int) (k : Nat) : Int := w k * 65536 / L
theorem nrv_r (w : Nat → Int) {L : Int} (hL : 0 < L) (k : Nat) : ∃ r, L * nrv w L k = 65536 * w k - r ∧ 0 ≤ r ∧ r ≤ L := by
  unfold nrv
  refine ⟨w k * 65536 % L, ?_, Int.emod_nonneg _ (by omega), Int.le_of_lt (Int.emod_lt_of_pos _ hL)⟩
  have := Int.mul_ediv_add_emod (w k * 65536) L
  rw [Int.mul_comm 65536 (w k)]
  omega
theorem nrv_rs (w : Nat → Int) {L : Int} (hL : 0 < L) : ∃ r : Nat → Int, ∀ k, L * nrv w L k = 65536 * w k - r k ∧ 0 ≤ r k ∧ r k ≤ L :=
  ⟨fun k => (nrv_r w hL k).choose, fun k => (nrv_r w hL k).choose_spec⟩
theorem nrv_dot {N : Nat} {w x : Nat → Int} {L d : Int} (hL : 4096 ≤ L) (hd : -d ≤ dotN w x N ∧ dotN w x N ≤ d) (hx : absS x N ≤ 131108) : -(16 * d + 131108) ≤ dotN (nrv w L) x N ∧ dotN (nrv w L) x N ≤ 16 * d + 131108 := by
  obtain ⟨r, hr⟩ := nrv_rs w (show 0 < L by omega)
  have h1 := dotN_lin2 (x := x) (n := N) (fun k _ => (hr k).1)
  have h2 := rdot (m := L) (by omega) (fun k (_ : k < N) => (hr k).2) hx
  have h3 : 65536 * d ≤ L * (16 * d) := by
    have := Int.mul_le_mul_of_nonneg_right (show 65536 ≤ L * 16 by omega) (show 0 ≤ d by omega)
    grind
  generalize dotN (nrv w L) x N = V at *
  generalize dotN r x N = R at *
  generalize dotN w x N = D at *
  have h4 : L * (16 * d + 131108) = L * (16 * d) + L * 131108 := Int.mul_add ..
  constructor
  · refine Int.le_of_mul_le_mul_left (a := L) ?_ (by omega)
    rw [Int.mul_neg]
    omega
  · refine Int.le_of_mul_le_mul_left (a := L) ?_ (by omega)
    omega
theorem nrv_norm {N : Nat} (hN : N ≤ 4) {w : Nat → Int} {L : Int} (hL : 4096 ≤ L) (h1 : L * L ≤ dotN w w N) (h2 : dotN w w N ≤ (L + 1) * (L + 1)) : 4294967296 - 37 * 65536 ≤ dotN (nrv w L) (nrv w L) N ∧ dotN (nrv w L) (nrv w L) N ≤ 65554 * 65554 := by
  obtain ⟨r, hr⟩ := nrv_rs w (show 0 < L by omega)
  have hw := absS_le hN (show 0 ≤ L + 1 by omega) h2
  have e1 := dotN_lin2 (x := nrv w L) (n := N) (fun k _ => (hr k).1)
  have e2 := dotN_lin2 (x := w) (n := N) (fun k _ => (hr k).1)
  have e3 := dotN_lin2 (x := r) (n := N) (fun k _ => (hr k).1)
  have hrw := rdot (m := L) (by omega) (fun k (_ : k < N) => (hr k).2) hw
  have hrr := dotN_b (a := r) (b := r) (A := L) (B := L) (by omega) (by omega) (n := N) (fun k _ => ⟨by have := (hr k).2; omega, (hr k).2.2⟩) (fun k _ => ⟨by have := (hr k).2; omega, (hr k).2.2⟩)
  have hr0 := dot_nn r N
  rw [dotN_comm w (nrv w L), dotN_comm r (nrv w L)] at e1
  rw [dotN_comm w r] at e3
  have hN4 : (N : Int) * (L * L) ≤ 4 * (L * L) := Int.mul_le_mul_of_nonneg_right (by omega) (Int.mul_nonneg (by omega) (by omega))
  have ep : (L + 1) * (L + 1) = L * L + 2 * L + 1 := by grind
  have eq2 : L * (2 * (L + 1)) = 2 * (L * L) + 2 * L := by grind
  have hP : 4096 * L ≤ L * L := Int.mul_le_mul_of_nonneg_right hL (by omega)
  generalize dotN (nrv w L) (nrv w L) N = V at *
  generalize dotN (nrv w L) w N = A at *
  generalize dotN (nrv w L) r N = B at *
  generalize dotN r w N = C at *
  generalize dotN r r N = D at *
  generalize dotN w w N = Q at *
  have key : L * L * V = 4294967296 * Q - 131072 * C + D := by
    have : L * (L * V) = 65536 * (L * A) - L * B := by rw [e1]; grind
    rw [e2, e3] at this
    rw [Int.mul_assoc, this]
    omega
  generalize hLP : L * L = P at *
  constructor
  · refine Int.not_lt.1 fun h => ?_
    have := Int.mul_le_mul_of_nonneg_left (show V ≤ 4294967296 - 37 * 65536 - 1 by omega) (show 0 ≤ P by omega)
    omega
  · refine Int.not_lt.1 fun h => ?_
    have := Int.mul_le_mul_of_nonneg_left (show 65554 * 65554 + 1 ≤ V by omega) (show 0 ≤ P by omega)
    omega
end Go.Proofs.YtglcmhldonkfdaaDoor
set_option maxRecDepth 10000
set_option linter.unusedVariables false
set_option linter.unusedSimpArgs false
namespace Go.Proofs.YtglcmhldonkfdaaDoor
open Go
theorem dotN_add (a b x : Nat → Int) : ∀ n, dotN (fun k => a k + b k) x n = dotN a x n + dotN b x n
  | 0 => rfl
  | n + 1 => by rw [dotN, dotN, dotN, dotN_add a b x n]; grind
theorem dotN_smul (c : Int) (a x : Nat → Int) : ∀ n, dotN (fun k => c * a k) x n = c * dotN a x n
  | 0 => by simp [dotN]
  | n + 1 => by rw [dotN, dotN, dotN_smul c a x n]; grind
theorem dotN_dbl (C : Nat → Int) (u : Nat → Nat → Int) (x : Nat → Int) (N : Nat) : ∀ j, dotN (fun k => dotN C (fun t => u t k) j) x N = dotN C (fun t => dotN (u t) x N) j
  | 0 => by
    show dotN (fun _ => 0) x N = 0
    exact dotN_zero x N
  | j + 1 => by
    rw [dotN, ← dotN_dbl C u x N j, ← dotN_smul, ← dotN_add]
    rfl
def unv (i k : Nat) : Int := if k = i then 65536 else 0
theorem unv_dot (i : Nat) (x : Nat → Int) : ∀ {n : Nat}, i < n → dotN (unv i) x n = 65536 * x i
  | 0, h => absurd h (Nat.not_lt_zero _)
  | n + 1, h => by
    rw [dotN]
    by_cases e : i = n
    · subst e
      rw [dotN_congr (c := fun _ => 0) (d := x) (fun k hk => by unfold unv; rw [if_neg (by omega)]) (fun _ _ => rfl), dotN_zero, unv, if_pos rfl]
      omega
    · rw [unv_dot i x (by omega), unv, if_neg (by omega)]
      omega
theorem sq_swap (u : Nat → Nat → Int) (N : Nat) : ∀ j, (∀ t, t < j → dotN (u t) (u t) N ≤ 65554 * 65554) → dotN (fun k => dotN (fun t => u t k) (fun t => u t k) j) (fun _ => 1) N ≤ j * (65554 * 65554)
  | 0, _ => by
    have : dotN (fun k => dotN (fun t => u t k) (fun t => u t k) 0) (fun _ => 1) N = 0 := dotN_zero _ N
    omega
  | j + 1, h => by
    have h1 := sq_swap u N j (fun t ht => h t (by omega))
    have h2 := h j (by omega)
    have e : dotN (fun k => dotN (fun t => u t k) (fun t => u t k) (j + 1)) (fun _ => 1) N = dotN (fun k => dotN (fun t => u t k) (fun t => u t k) j) (fun _ => 1) N + dotN (u j) (u j) N := by
      have e2 : dotN (u j) (u j) N = dotN (fun k => u j k * u j k) (fun _ => 1) N := by
        clear h h1 h2
        induction N with
        | zero => rfl
        | succ n ih => rw [dotN, dotN, ih]; omega
      rw [e2, ← dotN_add]
      rfl
    rw [e]
    omega
theorem some_small (u : Nat → Nat → Int) {N j : Nat} (hj : j < N) (hN : N ≤ 4) (h : ∀ t, t < j → dotN (u t) (u t) N ≤ 65554 * 65554) : ∃ i, i < N ∧ 4 * dotN (fun t => u t i) (fun t => u t i) j ≤ 3 * (65554 * 65554) := by
  refine Classical.byContradiction fun hx => ?_
  have hall : ∀ i, i < N → 3 * (65554 * 65554) < 4 * dotN (fun t => u t i) (fun t => u t i) j := fun i hi => Int.not_le.1 fun h => hx ⟨i, hi, h⟩
  have hs := sq_swap u N j h
  have hl : ∀ n, n ≤ N → n * (3 * (65554 * 65554)) + n ≤ 4 * dotN (fun k => dotN (fun t => u t k) (fun t => u t k) j) (fun _ => 1) n := by
    intro n
    induction n with
    | zero => intro _; simp [dotN]
    | succ n ih =>
      intro hn
      have h1 := ih (by omega)
      have h2 := hall n (by omega)
      rw [dotN]
      omega
  have := hl N (Nat.le_refl _)
  omega
def bdU (j : Nat) : Bd := brun (bOf j) (tri j) ⟨fun _ => 65536 * 65554, 65536, fun _ => 0⟩
theorem bdU_b : ∀ j, j < 4 → (bdU j).W ≤ 300000 ∧ ∀ i, i < j → (bdU j).X i ≤ 700000 ∧ (bdU j).C i ≤ 67500 := by decide +kernel
theorem unit_H {N j : Nat} {u : Nat → Nat → Int} (C : Cols N j (bOf j) u) {i : Nat} (hi : i < N) : Hd N j u (unv i) (bdU j) (red N j u (unv i)) (3 * j) := by
  refine red_H C (fun t ht => ?_) (fun k hk => ?_)
  · rw [unv_dot i _ hi]
    have := C.comp ht hi
    show -(65536 * 65554 : Int) ≤ _ ∧ _ ≤ (65536 * 65554 : Int)
    omega
  · show -(65536 : Int) ≤ unv i k ∧ unv i k ≤ (65536 : Int)
    unfold unv; split <;> omega
theorem unit_long {N j : Nat} {u : Nat → Nat → Int} (C : Cols N j (bOf j) u) (hj : j < N) : ∃ i, i < N ∧ 16384 * 16384 ≤ dotN (red N j u (unv i)) (red N j u (unv i)) N := by
  obtain ⟨i, hi, hs⟩ := some_small u hj C.n4 C.up
  refine ⟨i, hi, ?_⟩
  have H := unit_H C hi
  have hb := bdU_b j (by have := C.n4; omega)
  have hbo := bOf_mono j (by have := C.n4; omega)
  have hj3 : j ≤ 3 := by have := C.n4; omega
  have hN4 := C.n4
  obtain ⟨K, R, hK, hR, hE⟩ := H.coef
  generalize red N j u (unv i) = w at *
  -- the coefficients are near the components
  have hKb : ∀ t, t < j → -67500 ≤ K t ∧ K t ≤ 67500 := fun t ht => by have := hK t ht; have := (hb.2 t ht).2; omega
  have hRb : ∀ k, k < N → 0 ≤ R k ∧ R k ≤ 589815 := fun k hk => by
    have := hR k hk
    have : ((3 * j : Nat) : Int) * 65535 ≤ 589815 := by omega
    omega
  have hE' : ∀ k, k < N → 65536 * w k = 65536 * unv i k - 1 * dotN K (fun t => u t k) j + R k := fun k hk => by have := hE k hk; omega
  have near : ∀ s, s < j → -560 ≤ K s - u s i ∧ K s - u s i ≤ 560 := fun s hsj => by
    have h1 := dotN_lin (x := u s) (n := N) hE'
    rw [dotN_dbl, unv_dot i _ hi] at h1
    have h2 := rdot (m := 589815) (by omega) hRb (C.abs hsj)
    have h3 := H.dots s hsj
    have h4 := (hb.2 s hsj).1
    have h5 : dotN K (fun t => dotN (u t) (u s) N) j = dotN K (fun t => if t = s then dotN (u t) (u s) N - 4294967296 else dotN (u t) (u s) N) j + 4294967296 * K s := by
      rw [dotN_comm K, dotN_comm K]
      have := dotN_upd (fun t => if t = s then dotN (u t) (u s) N - 4294967296 else dotN (u t) (u s) N) K 4294967296 s hsj
      rw [← this]
      refine dotN_congr (fun t ht => ?_) (fun _ _ => rfl)
      by_cases e : t = s
      · rw [if_pos e, if_pos e]; omega
      · rw [if_neg e, if_neg e]
    have h6 := dotN_b (a := K) (b := fun t => if t = s then dotN (u t) (u s) N - 4294967296 else dotN (u t) (u s) N) (A := 67500) (B := 172 * 65536) (by omega) (by omega) (n := j) hKb (fun t ht => by
      show -(172 * 65536) ≤ (if t = s then dotN (u t) (u s) N - 4294967296 else dotN (u t) (u s) N) ∧ (if t = s then dotN (u t) (u s) N - 4294967296 else dotN (u t) (u s) N) ≤ 172 * 65536
      by_cases e : t = s
      · rw [if_pos e, e]
        have := C.up s hsj
        have := C.low s hsj
        omega
      · rw [if_neg e]
        have := C.pair t ht s hsj e
        omega)
    have h7 : (j : Int) * (67500 * (172 * 65536)) ≤ 3 * (67500 * (172 * 65536)) := by omega
    rw [h5] at h1
    generalize dotN K (fun t => if t = s then dotN (u t) (u s) N - 4294967296 else dotN (u t) (u s) N) j = g at *
    generalize dotN w (u s) N = D at *
    generalize dotN R (u s) N = r at *
    omega
  -- the component itself
  have hc : 14600 ≤ w i := by
    have h1 := hE i hi
    rw [unv, if_pos rfl] at h1
    have h2 : dotN K (fun t => u t i) j = dotN (fun t => K t - u t i) (fun t => u t i) j + dotN (fun t => u t i) (fun t => u t i) j := by
      rw [← dotN_add]
      exact dotN_congr (fun t _ => by omega) (fun _ _ => rfl)
    have h3 := dotN_b (a := fun t => K t - u t i) (b := fun t => u t i) (A := 560) (B := 65554) (by omega) (by omega) (n := j) near (fun t ht => C.comp ht hi)
    have h4 : (j : Int) * (560 * 65554) ≤ 3 * (560 * 65554) := by omega
    have := hRb i hi
    omega
  -- the length
  have h1 := dotN_lin (x := w) (n := N) hE'
  rw [dotN_dbl, unv_dot i _ hi] at h1
  have h2 := dotN_b (a := K) (b := fun t => dotN (u t) w N) (A := 67500) (B := 700000) (by omega) (by omega) (n := j) hKb (fun t ht => by
    show -700000 ≤ dotN (u t) w N ∧ dotN (u t) w N ≤ 700000
    rw [dotN_comm]
    have := H.dots t ht
    have := (hb.2 t ht).1
    omega)
  have h3 := dotN_b (a := R) (b := w) (A := 589815) (B := 300000) (by omega) (by omega) (n := N) (fun k hk => by have := hRb k hk; omega) (fun k hk => by have := H.comp k hk; have := hb.1; omega)
  have h4 : (j : Int) * (67500 * 700000) ≤ 3 * (67500 * 700000) := by omega
  have h5 : (N : Int) * (589815 * 300000) ≤ 4 * (589815 * 300000) := by omega
  omega
end Go.Proofs.YtglcmhldonkfdaaDoor
set_option maxRecDepth 10000
set_option linter.unusedVariables false
set_option linter.unusedSimpArgs false
namespace Go.Proofs.YtglcmhldonkfdaaDoor
open Go
def cut (N : Nat) (f : Nat → Int) (k : Nat) : Int := if k < N then f k else 0
def v6 (N : Nat) (f : Nat → Int) : TA6_Int := ⟨cut N f 0, cut N f 1, cut N f 2, cut N f 3, cut N f 4, cut N f 5⟩
theorem cut_lt {N k : Nat} {f : Nat → Int} (h : k < N) : cut N f k = f k := if_pos h
theorem cut_ge {N k : Nat} {f : Nat → Int} (h : N ≤ k) : cut N f k = 0 := if_neg (by omega)
theorem cut_at {N k : Nat} {f g : Nat → Int} (h : k < N → f k = g k) : cut N f k = cut N g k := by
  unfold cut; split
  · exact h (by assumption)
  · rfl
theorem cases4 {i N : Nat} (h : i < N) (hN : N ≤ 4) : i = 0 ∨ i = 1 ∨ i = 2 ∨ i = 3 := by omega
theorem l80_eq {N K : Nat} (hN : N ≤ 4) (hK : N < K) (w u : Nat → Int) (hw : ∀ k, k < N → -118000000 ≤ w k ∧ w k ≤ 118000000) (hu : ∀ k, k < N → -65554 ≤ u k ∧ u k ≤ 65554) (cols : List TA6_Int) (a1 : TA6_Int) (t11 : List TA6_Int) (x18 : Int) :
    matrix_basis_reduce_m.l80 K ⟨(N : Int), cols⟩ a1 t11 (cut N w 0) (cut N w 1) (cut N w 2) (cut N w 3) (cut N w 4) (cut N w 5) x18 (v6 N u) K 0 0 = some (cOf w u N) := by
  have bd : ∀ n, n ≤ N → -500000000 ≤ cOf w u n ∧ cOf w u n ≤ 500000000 := fun n hn => by
    have h1 := cOf_b w u n
    have h2 := dotN_b (a := w) (b := u) (A := 118000000) (B := 65554) (by omega) (by omega) (n := n) (fun k hk => hw k (by omega)) (fun k hk => hu k (by omega))
    omega
  refine loop_0 (fun m s x => matrix_basis_reduce_m.l80 K ⟨(N : Int), cols⟩ a1 t11 (cut N w 0) (cut N w 1) (cut N w 2) (cut N w 3) (cut N w 4) (cut N w 5) x18 (v6 N u) m s x) N (fun i => cOf w u i) _ rfl (fun m i hi => ?_) (fun m => ?_) hK
  · show matrix_basis_reduce_m.l80 _ _ _ _ _ _ _ _ _ _ _ _ (m + 1) _ _ = _
    have hm : fixed_Mul (w i) (u i) = some (w i * u i / 65536, cdiv (w i * u i) 65536) := mul_eq (by have := hw i hi; unfold Wid; omega) (by have := hu i hi; unfold Wid; omega)
    have b1 := bd i (by omega)
    have b2 := bd (i + 1) (by omega)
    rw [cOf] at b2
    rw [matrix_basis_reduce_m.l80, if_pos (dlt hi)]
    rcases cases4 hi hN with rfl | rfl | rfl | rfl
    · rw [if_pos (by decide), show (v6 N u).e0 = cut N u 0 from rfl, cut_lt hi, cut_lt hi, hm, Option.bind_some, w64 (by omega) (by omega)]; rfl
    · rw [if_neg (by decide), if_pos (by decide), show (v6 N u).e1 = cut N u 1 from rfl, cut_lt hi, cut_lt hi, hm, Option.bind_some, w64 (by omega) (by omega)]; rfl
    · rw [if_neg (by decide), if_neg (by decide), if_pos (by decide), show (v6 N u).e2 = cut N u 2 from rfl, cut_lt hi, cut_lt hi, hm, Option.bind_some, w64 (by omega) (by omega)]; rfl
    · rw [if_neg (by decide), if_neg (by decide), if_neg (by decide), if_pos (by decide), show (v6 N u).e3 = cut N u 3 from rfl, cut_lt hi, cut_lt hi, hm, Option.bind_some, w64 (by omega) (by omega)]; rfl
  · show matrix_basis_reduce_m.l80 _ _ _ _ _ _ _ _ _ _ _ _ (m + 1) _ _ = _
    rw [matrix_basis_reduce_m.l80, if_neg (by rw [dnl]; simp)]
def t6 (f : Nat → Int) : Int × Int × Int × Int × Int × Int := (f 0, f 1, f 2, f 3, f 4, f 5)
theorem l43_eq {N K : Nat} (hN : N ≤ 4) (hK : N < K) (w u : Nat → Int) {c : Int} (hcc : c = cOf w u N) (hc : -500000000 ≤ c ∧ c ≤ 500000000) (hw : ∀ k, k < N → -118000000 ≤ w k ∧ w k ≤ 118000000) (hu : ∀ k, k < N → -65554 ≤ u k ∧ u k ≤ 65554) (cols : List TA6_Int) (a1 : TA6_Int) (t11 : List TA6_Int) (x1 x2 x3 x4 x5 x6 x18 : Int) :
    matrix_basis_reduce_m.l43 K ⟨(N : Int), cols⟩ a1 t11 x1 x2 x3 x4 x5 x6 x18 (v6 N u) c K (cut N w 0) (cut N w 1) (cut N w 2) (cut N w 3) (cut N w 4) (cut N w 5) 0 = some (t6 (cut N (stp N w u))) := by
  have L := loop_0 (fun m (s : Nat → Int) x => matrix_basis_reduce_m.l43 K ⟨(N : Int), cols⟩ a1 t11 x1 x2 x3 x4 x5 x6 x18 (v6 N u) c m (s 0) (s 1) (s 2) (s 3) (s 4) (s 5) x) N (fun i k => cut N (fun k => if k < i then stp N w u k else w k) k) (t6 (cut N (stp N w u))) (s := cut N w) (funext fun k => cut_at fun _ => (if_neg (Nat.not_lt_zero k)).symm) (fun m i hi => ?_) (fun m => ?_) hK
  · exact L
  · show matrix_basis_reduce_m.l43 _ _ _ _ _ _ _ _ _ _ _ _ _ (m + 1) _ _ _ _ _ _ _ = _
    have hm : fixed_Mul c (u i) = some (c * u i / 65536, cdiv (c * u i) 65536) := mul_eq (by unfold Wid; omega) (by have := hu i hi; unfold Wid; omega)
    have hp := prod_bound hc (hu i hi)
    have hwi := hw i hi
    have hst : w_i64 (w i - c * u i / 65536) = stp N w u i := by
      rw [stp, ← hcc, w64 (by omega) (by omega)]
    have same : ∀ k, k ≠ i → cut N (fun k => if k < i + 1 then stp N w u k else w k) k = cut N (fun k => if k < i then stp N w u k else w k) k := fun k hk => cut_at fun _ => by
      show (if k < i + 1 then stp N w u k else w k) = if k < i then stp N w u k else w k
      by_cases h : k < i
      · rw [if_pos h, if_pos (show k < i + 1 by omega)]
      · rw [if_neg h, if_neg (show ¬ k < i + 1 by omega)]
    have new : cut N (fun k => if k < i + 1 then stp N w u k else w k) i = stp N w u i := by
      rw [cut_lt hi, if_pos (Nat.lt_succ_self i)]
    have old : cut N (fun k => if k < i then stp N w u k else w k) i = w i := by
      rw [cut_lt hi, if_neg (Nat.lt_irrefl i)]
    rw [matrix_basis_reduce_m.l43, if_pos (dlt hi)]
    rcases cases4 hi hN with rfl | rfl | rfl | rfl
    · rw [if_pos (by decide), show (v6 N u).e0 = cut N u 0 from rfl, cut_lt hi, hm, Option.bind_some, old, hst, new, same 1 (by omega), same 2 (by omega), same 3 (by omega), same 4 (by omega), same 5 (by omega)]; rfl
    · rw [if_neg (by decide), if_pos (by decide), show (v6 N u).e1 = cut N u 1 from rfl, cut_lt hi, hm, Option.bind_some, old, hst, new, same 0 (by omega), same 2 (by omega), same 3 (by omega), same 4 (by omega), same 5 (by omega)]; rfl
    · rw [if_neg (by decide), if_neg (by decide), if_pos (by decide), show (v6 N u).e2 = cut N u 2 from rfl, cut_lt hi, hm, Option.bind_some, old, hst, new, same 0 (by omega), same 1 (by omega), same 3 (by omega), same 4 (by omega), same 5 (by omega)]; rfl
    · rw [if_neg (by decide), if_neg (by decide), if_neg (by decide), if_pos (by decide), show (v6 N u).e3 = cut N u 3 from rfl, cut_lt hi, hm, Option.bind_some, old, hst, new, same 0 (by omega), same 1 (by omega), same 2 (by omega), same 4 (by omega), same 5 (by omega)]; rfl
  · show matrix_basis_reduce_m.l43 _ _ _ _ _ _ _ _ _ _ _ _ _ (m + 1) _ _ _ _ _ _ _ = _
    rw [matrix_basis_reduce_m.l43, if_neg (by rw [dnl]; simp)]
    have e : cut N (fun k => if k < N then stp N w u k else w k) = cut N (stp N w u) := funext fun k => cut_at fun h => if_pos h
    show some (t6 (cut N (fun k => if k < N then stp N w u k else w k))) = _
    rw [e]
end Go.Proofs.YtglcmhldonkfdaaDoor
set_option maxRecDepth 10000
set_option linter.unusedVariables false
set_option linter.unusedSimpArgs false
namespace Go.Proofs.YtglcmhldonkfdaaDoor
open Go
theorem cat3 (a : List TA6_Int) (ha : a.length < 1000) {K : Nat} (hK : 10 < K) : matrix_vector_107 K [a, a, a] = some (a ++ a ++ a) := by
  obtain ⟨m, rfl⟩ : ∃ m, K = m + 4 := ⟨K - 4, by omega⟩
  unfold matrix_vector_107
  have e1 : matrix_vector_107.l25 (m + 4) [a, a, a] (m + 4) 0 0 = some ((a.length + a.length + a.length : Nat) : Int) := by
    rw [matrix_vector_107.l25, if_pos (by rfl), if_pos (by show (0 : Int) ≤ 0 ∧ (0 : Int) < 3; decide)]
    refine bT (v := a) rfl ?_
    rw [Int.zero_add, w64 (x := (a.length : Int)) (by omega) (by omega), if_neg (by rw [decide_eq_true_eq]; omega), show w_i64 (0 + 1) = 1 from rfl]
    rw [matrix_vector_107.l25, if_pos (by rfl), if_pos (by show (0 : Int) ≤ 1 ∧ (1 : Int) < 3; decide)]
    refine bT (v := a) rfl ?_
    rw [w64 (x := (a.length : Int) + (a.length : Int)) (by omega) (by omega), if_neg (by rw [decide_eq_true_eq]; omega), show w_i64 (1 + 1) = 2 from rfl]
    rw [matrix_vector_107.l25, if_pos (by rfl), if_pos (by show (0 : Int) ≤ 2 ∧ (2 : Int) < 3; decide)]
    refine bT (v := a) rfl ?_
    rw [w64 (x := (a.length : Int) + (a.length : Int) + (a.length : Int)) (by omega) (by omega), if_neg (by rw [decide_eq_true_eq]; omega), show w_i64 (2 + 1) = 3 from rfl]
    rw [matrix_vector_107.l25, if_neg (by show ¬ decide ((3 : Int) < 3) = true; decide)]
    rfl
  have e2 : matrix_vector_110_m ((a.length + a.length + a.length : Nat) : Int) = some [] := by
    unfold matrix_vector_110_m
    have e : w_i64 (((a.length + a.length + a.length : Nat) : Int) - w_i64 (0 - 0)) = ((a.length + a.length + a.length : Nat) : Int) := by
      rw [show w_i64 (0 - 0) = 0 from rfl, Int.sub_zero, w64 (by omega) (by omega)]
    rw [e, if_neg (by rw [decide_eq_true_eq]; omega)]
    by_cases h : a.length = 0
    · rw [if_neg (by rw [decide_eq_true_eq]; omega)]
    · rw [if_pos (by rw [decide_eq_true_eq]; omega), if_pos (by omega)]
  refine bT e1 (bT e2 (bT (v := a ++ a ++ a) ?_ rfl))
  rw [matrix_vector_107.l13, if_pos (by rfl), if_pos (by show (0 : Int) ≤ 0 ∧ (0 : Int) < 3; decide)]
  refine bT (v := a) rfl ?_
  rw [if_pos ⟨by omega, by decide⟩, show w_i64 (0 + 1) = 1 from rfl]
  rw [matrix_vector_107.l13, if_pos (by rfl), if_pos (by show (0 : Int) ≤ 1 ∧ (1 : Int) < 3; decide)]
  refine bT (v := a) rfl ?_
  rw [if_pos ⟨by omega, by simp; omega⟩, show w_i64 (1 + 1) = 2 from rfl]
  rw [matrix_vector_107.l13, if_pos (by rfl), if_pos (by show (0 : Int) ≤ 2 ∧ (2 : Int) < 3; decide)]
  refine bT (v := a) rfl ?_
  rw [if_pos ⟨by omega, by simp; omega⟩, show w_i64 (2 + 1) = 3 from rfl]
  rw [matrix_vector_107.l13, if_neg (by show ¬ decide ((3 : Int) < 3) = true; decide)]
  rfl
theorem vrun_app (N : Nat) (u : Nat → Nat → Int) : ∀ (a b : List Nat) (w : Nat → Int), vrun N u (a ++ b) w = vrun N u b (vrun N u a w)
  | [], b, w => rfl
  | t :: a, b, w => vrun_app N u a b (stp N w (u t))
theorem vrun_take (N : Nat) (u : Nat → Nat → Int) (l : List Nat) (w : Nat → Int) {q t : Nat} (h : l[q]? = some t) : vrun N u (l.take (q + 1)) w = stp N (vrun N u (l.take q) w) (u t) := by
  rw [List.take_add_one, h, vrun_app]; rfl
theorem tri_map (j : Nat) {α : Type} (g : Nat → α) : mk j g ++ mk j g ++ mk j g = (tri j).map g := by unfold tri mk; simp
theorem reduce_eq {N j K : Nat} (hN : N ≤ 4) (hj : j ≤ 4) (hK : 30 < K) (w : Nat → Int) (u : Nat → Nat → Int) (hB : ∀ q, q ≤ 3 * j → ∀ k, k < N → -118000000 ≤ vrun N u ((tri j).take q) w k ∧ vrun N u ((tri j).take q) w k ≤ 118000000) (hu : ∀ t, t < j → ∀ k, k < N → -65554 ≤ u t k ∧ u t k ≤ 65554) :
    matrix_basis_reduce_m K ⟨(N : Int), mk j fun t => v6 N (u t)⟩ (v6 N w) = some (v6 N (red N j u w)) := by
  unfold matrix_basis_reduce_m
  refine bT (bT (cat3 _ (by rw [mk_len]; omega) (by omega)) ?_ : _ = some (t6 (cut N (red N j u w)))) rfl
  rw [tri_map]
  have L := loop_0 (fun m (s : Nat → Int) x => matrix_basis_reduce_m.l19 K ⟨(N : Int), mk j fun t => v6 N (u t)⟩ (v6 N w) ((tri j).map fun t => v6 N (u t)) m (s 0) (s 1) (s 2) (s 3) (s 4) (s 5) x) (3 * j) (fun q => cut N (vrun N u ((tri j).take q) w)) (t6 (cut N (red N j u w))) (s := cut N w) rfl (fun m q hq => ?_) (fun m => ?_) (k := K) (by omega)
  · exact L
  · show matrix_basis_reduce_m.l19 _ _ _ _ (m + 1) _ _ _ _ _ _ _ = _
    have hlen : ((tri j).map fun t => v6 N (u t)).length = 3 * j := by rw [List.length_map, tri_len]
    have hq' : q < (tri j).length := by rw [tri_len]; exact hq
    obtain ⟨t, ht⟩ : ∃ t, (tri j)[q]? = some t := ⟨(tri j)[q], List.getElem?_eq_getElem hq'⟩
    have htj : t < j := tri_lt (List.mem_of_getElem? ht)
    have hg : ((tri j).map fun t => v6 N (u t))[q]? = some (v6 N (u t)) := by rw [List.getElem?_map, ht]; rfl
    have hw := hB q (by omega)
    rw [matrix_basis_reduce_m.l19, hlen, if_pos (dlt hq)]
    generalize hww : vrun N u ((tri j).take q) w = x at *
    have bd : -500000000 ≤ cOf x (u t) N ∧ cOf x (u t) N ≤ 500000000 := by
      have h1 := cOf_b x (u t) N
      have h2 := dotN_b (a := x) (b := u t) (A := 118000000) (B := 65554) (by omega) (by omega) (n := N) (fun k hk => hw k hk) (fun k hk => hu t htj k hk)
      omega
    refine bT (v := t6 (cut N (stp N x (u t)))) ?_ ?_
    · rw [if_pos (rng hq), Int.toNat_natCast, hg, Option.bind_some]
      refine bT (l80_eq hN (by omega) x (u t) hw (hu t htj) _ _ _ _) ?_
      exact l43_eq hN (by omega) x (u t) rfl bd hw (hu t htj) _ _ _ _ _ _ _ _ _ _
    · rw [wnext (by omega), vrun_take N u (tri j) w ht, hww]
      rfl
  · show matrix_basis_reduce_m.l19 _ _ _ _ (m + 1) _ _ _ _ _ _ _ = _
    have hlen : ((tri j).map fun t => v6 N (u t)).length = 3 * j := by rw [List.length_map, tri_len]
    rw [matrix_basis_reduce_m.l19, hlen, if_neg (by rw [dnl]; simp)]
    have e : (tri j).take (3 * j) = tri j := by rw [← tri_len j]; exact List.take_length
    show some (t6 (cut N (vrun N u ((tri j).take (3 * j)) w))) = _
    rw [e]
    rfl
end Go.Proofs.YtglcmhldonkfdaaDoor
set_option maxRecDepth 10000
set_option linter.unusedVariables false
set_option linter.unusedSimpArgs false
namespace Go.Proofs.YtglcmhldonkfdaaDoor
open Go
theorem wu64 {x : Int} (h1 : 0 ≤ x) (h2 : x < 18446744073709551616) : w_u64 x = x := by
  unfold w_u64 Go.IntKind.wrap; simp [Go.IntKind.bits, Go.IntKind.signed]; omega
theorem isq_loop (K : Nat) {s : Int} (hs : 0 ≤ s) : ∀ (e m : Nat) (r : Int), e + 1 < m → 0 ≤ r → r * r ≤ s → s < (r + 2 ^ (e + 1)) * (r + 2 ^ (e + 1)) → r + 2 ^ (e + 1) ≤ 4294967296 →
    ∃ L, 0 ≤ L ∧ L ≤ 4294967295 ∧ L * L ≤ s ∧ s < (L + 1) * (L + 1) ∧ matrix_isqrt.l9 K s m r (2 ^ e) = some L := by
  intro e
  induction e with
  | zero =>
    intro m r hm h0 h1 h2 h3
    obtain ⟨m, rfl⟩ : ∃ q, m = q + 2 := ⟨m - 2, by omega⟩
    rw [show (2 : Int) ^ (0 + 1) = 2 from rfl] at h2 h3
    rw [show (2 : Int) ^ 0 = 1 from rfl, matrix_isqrt.l9, if_pos (by decide)]
    have hb : 0 ≤ (r + 1) * (r + 1) := sq_nn _
    have hb2 : (r + 1) * (r + 1) ≤ 4294967295 * 4294967295 := sq_le (by omega) (by omega)
    rw [wu64 (x := r + 1) (by omega) (by omega), wu64 hb (by omega)]
    by_cases h : (r + 1) * (r + 1) ≤ s
    · refine ⟨r + 1, by omega, by omega, h, by rw [show r + 1 + 1 = r + 2 by omega]; exact h2, ?_⟩
      rw [if_pos (decide_eq_true h), Option.bind_some, show Int.fdiv 1 2 = 0 from rfl, matrix_isqrt.l9, if_neg (by decide)]
    · refine ⟨r, h0, by omega, h1, by omega, ?_⟩
      rw [if_neg (by simpa using h), Option.bind_some, show Int.fdiv 1 2 = 0 from rfl, matrix_isqrt.l9, if_neg (by decide)]
  | succ e ih =>
    intro m r hm h0 h1 h2 h3
    obtain ⟨m, rfl⟩ : ∃ q, m = q + 1 := ⟨m - 1, by omega⟩
    have hp : (0 : Int) < 2 ^ e := Int.pow_pos (by omega)
    have e1 : (2 : Int) ^ (e + 1) = 2 * 2 ^ e := by rw [Int.pow_succ]; omega
    have e2 : (2 : Int) ^ (e + 1 + 1) = 4 * 2 ^ e := by rw [Int.pow_succ, e1]; omega
    rw [e2] at h2 h3
    have hf : Int.fdiv ((2 : Int) ^ (e + 1)) 2 = 2 ^ e := by rw [fd _ _ (by omega), e1]; omega
    have hb : 0 ≤ (r + 2 ^ (e + 1)) * (r + 2 ^ (e + 1)) := sq_nn _
    have hb2 : (r + 2 ^ (e + 1)) * (r + 2 ^ (e + 1)) ≤ 4294967295 * 4294967295 := sq_le (by omega) (by omega)
    rw [matrix_isqrt.l9, if_pos (decide_eq_true (by omega)), wu64 (x := r + 2 ^ (e + 1)) (by omega) (by omega), wu64 hb (by omega), hf]
    by_cases h : (r + 2 ^ (e + 1)) * (r + 2 ^ (e + 1)) ≤ s
    · rw [if_pos (decide_eq_true h), Option.bind_some]
      refine ih m _ (by omega) (by omega) h ?_ (by rw [e1]; omega)
      rw [show r + 2 ^ (e + 1) + 2 ^ (e + 1) = r + 4 * 2 ^ e by rw [e1]; omega]
      exact h2
    · rw [if_neg (by simpa using h), Option.bind_some]
      exact ih m r (by omega) h0 h1 (by omega) (by rw [e1]; omega)
theorem isq_eq {K : Nat} (hK : 40 < K) {s : Int} (hs : 0 ≤ s) (hs2 : s < 9223372036854775808) : ∃ L, 0 ≤ L ∧ L ≤ 4294967295 ∧ L * L ≤ s ∧ s < (L + 1) * (L + 1) ∧ matrix_isqrt K s = some L := by
  obtain ⟨L, h0, h1, h2, h3, h4⟩ := isq_loop K hs 31 K 0 (by omega) (Int.le_refl _) (by omega) (by
    rw [show (0 : Int) + 2 ^ (31 + 1) = 4294967296 from rfl]; omega) (by decide)
  refine ⟨L, h0, h1, h2, h3, ?_⟩
  unfold matrix_isqrt
  refine bT h4 ?_
  rw [w64 (by omega) (by omega)]
theorem len_eq {N K : Nat} (hN : N ≤ 4) (hK : 40 < K) (w : Nat → Int) (hw : ∀ k, k < N → -118000000 ≤ w k ∧ w k ≤ 118000000) :
    ∃ L, 0 ≤ L ∧ L ≤ 4294967295 ∧ L * L ≤ dotN w w N ∧ dotN w w N < (L + 1) * (L + 1) ∧ matrix_vector_length K (v6 N w) = some L := by
  have hb := dotN_b (a := w) (b := w) (A := 118000000) (B := 118000000) (by omega) (by omega) (n := N) hw hw
  have h0 := dot_nn w N
  have hN4 : (N : Int) * (118000000 * 118000000) ≤ 4 * (118000000 * 118000000) := by omega
  obtain ⟨L, h1, h2, h3, h4, h5⟩ := isq_eq hK h0 (by omega)
  refine ⟨L, h1, h2, h3, h4, ?_⟩
  unfold matrix_vector_length
  refine bT ?_ (bT h5 rfl)
  have sqb : ∀ k, 0 ≤ cut N w k * cut N w k ∧ cut N w k * cut N w k ≤ 118000000 * 118000000 := fun k => by
    refine ⟨sq_nn _, ?_⟩
    by_cases h : k < N
    · rw [cut_lt h]; have := prod_bound (hw k h) (hw k h); omega
    · rw [cut_ge (by omega)]; omega
  have pb : ∀ n, 0 ≤ dotN (cut N w) (cut N w) n := fun n => dot_nn _ n
  have pu : ∀ n, n ≤ 6 → dotN (cut N w) (cut N w) n ≤ 6 * (118000000 * 118000000) := fun n hn => by
    have := dotN_b (a := cut N w) (b := cut N w) (A := 118000000) (B := 118000000) (by omega) (by omega) (n := n) (fun k _ => by
      by_cases h : k < N
      · rw [cut_lt h]; exact hw k h
      · rw [cut_ge (by omega)]; omega) (fun k _ => by
      by_cases h : k < N
      · rw [cut_lt h]; exact hw k h
      · rw [cut_ge (by omega)]; omega)
    omega
  have tail : ∀ d, dotN (cut N w) (cut N w) (N + d) = dotN w w N := fun d => by
    induction d with
    | zero => exact dotN_congr (fun k hk => cut_lt hk) (fun k hk => cut_lt hk)
    | succ d ih => rw [show N + (d + 1) = N + d + 1 by omega, dotN, ih, cut_ge (by omega)]; omega
  have e6 : dotN w w N = dotN (cut N w) (cut N w) 6 := by rw [← tail (6 - N), show N + (6 - N) = 6 by omega]
  rw [e6]
  refine loop_0 (fun m s x => matrix_vector_length.l10 K (v6 N w) m s x) 6 (fun i => dotN (cut N w) (cut N w) i) _ rfl (fun m i hi => ?_) (fun m => ?_) (by omega)
  · show matrix_vector_length.l10 _ _ (m + 1) _ _ = _
    have q1 := sqb i
    have q2 := pb i
    have q3 := pu (i + 1) (by omega)
    rw [dotN] at q3
    have st : w_u64 (dotN (cut N w) (cut N w) i + w_u64 (w_i64 (cut N w i * cut N w i))) = dotN (cut N w) (cut N w) (i + 1) := by
      rw [w64 (by omega) (by omega), wu64 (x := cut N w i * cut N w i) (by omega) (by omega), wu64 (by omega) (by omega), dotN]
    rw [matrix_vector_length.l10, if_pos (decide_eq_true (by omega))]
    have h6 : i = 0 ∨ i = 1 ∨ i = 2 ∨ i = 3 ∨ i = 4 ∨ i = 5 := by omega
    rcases h6 with rfl | rfl | rfl | rfl | rfl | rfl
    · rw [if_pos (by decide), show (v6 N w).e0 = cut N w 0 from rfl, st]; rfl
    · rw [if_neg (by decide), if_pos (by decide), show (v6 N w).e1 = cut N w 1 from rfl, st]; rfl
    · rw [if_neg (by decide), if_neg (by decide), if_pos (by decide), show (v6 N w).e2 = cut N w 2 from rfl, st]; rfl
    · rw [if_neg (by decide), if_neg (by decide), if_neg (by decide), if_pos (by decide), show (v6 N w).e3 = cut N w 3 from rfl, st]; rfl
    · rw [if_neg (by decide), if_neg (by decide), if_neg (by decide), if_neg (by decide), if_pos (by decide), show (v6 N w).e4 = cut N w 4 from rfl, st]; rfl
    · rw [if_neg (by decide), if_neg (by decide), if_neg (by decide), if_neg (by decide), if_neg (by decide), if_pos (by decide), show (v6 N w).e5 = cut N w 5 from rfl, st]; rfl
  · show matrix_vector_length.l10 _ _ (m + 1) _ _ = _
    rw [matrix_vector_length.l10, if_neg (by decide)]
end Go.Proofs.YtglcmhldonkfdaaDoor
set_option maxRecDepth 10000
set_option linter.unusedVariables false
set_option linter.unusedSimpArgs false
namespace Go.Proofs.YtglcmhldonkfdaaDoor
open Go
theorem ratio_eq {x L : Int} (hx : -118000000 ≤ x ∧ x ≤ 118000000) (hL : 0 < L ∧ L ≤ 1073741824) : ∃ c, fixed_MulRatio x 65536 L = some (x * 65536 / L, c, 0) := by
  unfold fixed_MulRatio
  rw [if_neg (by simp; omega), w64 (by omega) (by omega), divide_pos hL.1 (by omega) (by omega) (by omega)]
  exact ⟨_, rfl⟩
theorem l36_eq {N K : Nat} (hN : N ≤ 4) (hK : N < K) (w : Nat → Int) {L : Int} (hL : 0 < L ∧ L ≤ 1073741824) (hw : ∀ k, k < N → -118000000 ≤ w k ∧ w k ≤ 118000000) (a1 : List TA6_Int) (a2 : List TA6_Int) (x3 x4 : Int) (t11 t13 : TA6_Int) :
    matrix_basis_extend_m.l36 K (N : Int) a1 a2 x3 x4 t11 t13 L K (cut N w 0) (cut N w 1) (cut N w 2) (cut N w 3) (cut N w 4) (cut N w 5) 0 = some (t6 (cut N (nrv w L))) := by
  have R := loop_0 (fun m (s : Nat → Int) x => matrix_basis_extend_m.l36 K (N : Int) a1 a2 x3 x4 t11 t13 L m (s 0) (s 1) (s 2) (s 3) (s 4) (s 5) x) N (fun i k => cut N (fun k => if k < i then nrv w L k else w k) k) (t6 (cut N (nrv w L))) (s := cut N w) (funext fun k => cut_at fun _ => (if_neg (Nat.not_lt_zero k)).symm) (fun m i hi => ?_) (fun m => ?_) hK
  · exact R
  · show matrix_basis_extend_m.l36 _ _ _ _ _ _ _ _ _ (m + 1) _ _ _ _ _ _ _ = _
    obtain ⟨c, hm⟩ := ratio_eq (hw i hi) hL
    have hm' : fixed_MulRatio (w i) 65536 L = some (nrv w L i, c, 0) := hm
    have same : ∀ k, k ≠ i → cut N (fun k => if k < i + 1 then nrv w L k else w k) k = cut N (fun k => if k < i then nrv w L k else w k) k := fun k hk => cut_at fun _ => by
      show (if k < i + 1 then nrv w L k else w k) = if k < i then nrv w L k else w k
      by_cases h : k < i
      · rw [if_pos h, if_pos (show k < i + 1 by omega)]
      · rw [if_neg h, if_neg (show ¬ k < i + 1 by omega)]
    have new : cut N (fun k => if k < i + 1 then nrv w L k else w k) i = nrv w L i := by
      rw [cut_lt hi, if_pos (Nat.lt_succ_self i)]
    have old : cut N (fun k => if k < i then nrv w L k else w k) i = w i := by
      rw [cut_lt hi, if_neg (Nat.lt_irrefl i)]
    rw [matrix_basis_extend_m.l36, if_pos (dlt hi)]
    rcases cases4 hi hN with rfl | rfl | rfl | rfl
    · rw [if_pos (by decide), old, hm', Option.bind_some, new, same 1 (by omega), same 2 (by omega), same 3 (by omega), same 4 (by omega), same 5 (by omega)]; rfl
    · rw [if_neg (by decide), if_pos (by decide), old, hm', Option.bind_some, new, same 0 (by omega), same 2 (by omega), same 3 (by omega), same 4 (by omega), same 5 (by omega)]; rfl
    · rw [if_neg (by decide), if_neg (by decide), if_pos (by decide), old, hm', Option.bind_some, new, same 0 (by omega), same 1 (by omega), same 3 (by omega), same 4 (by omega), same 5 (by omega)]; rfl
    · rw [if_neg (by decide), if_neg (by decide), if_neg (by decide), if_pos (by decide), old, hm', Option.bind_some, new, same 0 (by omega), same 1 (by omega), same 2 (by omega), same 4 (by omega), same 5 (by omega)]; rfl
  · show matrix_basis_extend_m.l36 _ _ _ _ _ _ _ _ _ (m + 1) _ _ _ _ _ _ _ = _
    rw [matrix_basis_extend_m.l36, if_neg (by rw [dnl]; simp)]
    have e : cut N (fun k => if k < N then nrv w L k else w k) = cut N (nrv w L) := funext fun k => cut_at fun h => if_pos h
    show some (t6 (cut N (fun k => if k < N then nrv w L k else w k))) = _
    rw [e]
def cand (w : Nat → Int) (q : Nat) : Nat → Int := if q = 0 then w else unv (q - 1)
def least (q : Nat) : Int := if q = 0 then 4096 else 16384
theorem cands (N : Nat) (w : Nat → Int) : v6 N w :: mk N (fun i => v6 N (unv i)) = mk (N + 1) fun q => v6 N (cand w q) := by
  refine mk_ext (by rw [List.length_cons, mk_len]) fun i hi => ?_
  cases i with
  | zero => rfl
  | succ i => rw [List.getElem?_cons_succ, mk_get _ (by omega)]; rfl
structure Calm (N j : Nat) (u : Nat → Nat → Int) (w : Nat → Int) : Prop where
  mid : ∀ q, q ≤ 3 * j → ∀ k, k < N → -118000000 ≤ vrun N u ((tri j).take q) w k ∧ vrun N u ((tri j).take q) w k ≤ 118000000
theorem Calm.end_ {N j : Nat} {u : Nat → Nat → Int} {w : Nat → Int} (h : Calm N j u w) : ∀ k, k < N → -118000000 ≤ red N j u w k ∧ red N j u w k ≤ 118000000 := fun k hk => by
  have := h.mid (3 * j) (Nat.le_refl _) k hk
  rw [← tri_len j, List.take_length] at this
  exact this
theorem bdM_mid : ∀ j, j < 4 → ∀ q, q < 10 → (brun (bOf j) ((tri j).take q) ⟨X0, 16777216, fun _ => 0⟩).W ≤ 118000000 := by decide +kernel
theorem calm {N j : Nat} {u : Nat → Nat → Int} (C : Cols N j (bOf j) u) (hj : j < 4) {w : Nat → Int} (hw : ∀ k, k < N → -16777216 ≤ w k ∧ w k ≤ 16777216) : Calm N j u w where
  mid q hq k hk := by
    have hX : ∀ i, i < j → -(X0 i) ≤ dotN w (u i) N ∧ dotN w (u i) N ≤ X0 i := fun i hi => by
      have h1 := dot_abs (A := 16777216) (by omega) (x := u i) hw
      have h2 := C.abs hi
      show -(33554432 * 65554 : Int) ≤ _ ∧ _ ≤ (33554432 * 65554 : Int)
      omega
    have H := Hd.run C ((tri j).take q) (fun t h => tri_lt (List.mem_of_mem_take h)) (Hd.start hX hw)
    have h1 := H.comp k hk
    have h2 := bdM_mid j hj q (by omega)
    omega
end Go.Proofs.YtglcmhldonkfdaaDoor
set_option maxRecDepth 10000
set_option linter.unusedVariables false
set_option linter.unusedSimpArgs false
namespace Go.Proofs.YtglcmhldonkfdaaDoor
open Go
structure Col (N j : Nat) (u : Nat → Nat → Int) (w v c : Nat → Int) (L : Int) : Prop where
  v_eq : v = nrv (red N j u c) L
  L1 : 4096 ≤ L
  L2 : L ≤ 1073741824
  lo : L * L ≤ dotN (red N j u c) (red N j u c) N
  hi : dotN (red N j u c) (red N j u c) N < (L + 1) * (L + 1)
  one : c = w ∨ ∃ i, i < N ∧ c = unv i
  first : 4096 * 4096 ≤ dotN (red N j u w) (red N j u w) N → c = w
theorem extend_eq {N j K : Nat} {u : Nat → Nat → Int} (C : Cols N j (bOf j) u) (hj : j < N) (hK : 60 < K) {w : Nat → Int} (hw : ∀ k, k < N → -16777216 ≤ w k ∧ w k ≤ 16777216) :
    ∃ v c L, matrix_basis_extend_m K (N : Int) (mk j fun t => v6 N (u t)) (v6 N w :: mk N fun i => v6 N (unv i)) = some ((N : Int), (mk j fun t => v6 N (u t)) ++ [v6 N v]) ∧ Col N j u w v c L := by
  have hN := C.n4
  have cw : ∀ q k, k < N → -16777216 ≤ cand w q k ∧ cand w q k ≤ 16777216 := fun q k hk => by
    unfold cand
    split
    · exact hw k hk
    · unfold unv; split <;> omega
  have calmq := fun q => calm C (by omega) (cw q)
  rw [cands]
  unfold matrix_basis_extend_m
  -- one round
  have round : ∀ m q, q ≤ N → ∃ L, 0 ≤ L ∧ L ≤ 1073741824 ∧ L * L ≤ dotN (red N j u (cand w q)) (red N j u (cand w q)) N ∧ dotN (red N j u (cand w q)) (red N j u (cand w q)) N < (L + 1) * (L + 1) ∧
      matrix_basis_extend_m.l5 K (N : Int) (mk j fun t => v6 N (u t)) (mk (N + 1) fun q => v6 N (cand w q)) (m + 1) (least q) (q : Int) = if least q ≤ L then some ((N : Int), (mk j fun t => v6 N (u t)) ++ [v6 N (nrv (red N j u (cand w q)) L)]) else matrix_basis_extend_m.l5 K (N : Int) (mk j fun t => v6 N (u t)) (mk (N + 1) fun q => v6 N (cand w q)) m (least (q + 1)) ((q + 1 : Nat) : Int) := fun m q hq => by
    have hb := (calmq q).end_
    obtain ⟨L, h0, h1, h2, h3, h4⟩ := len_eq hN (show 40 < K by omega) _ hb
    have hL : L ≤ 1073741824 := by
      have h5 := dotN_b (a := red N j u (cand w q)) (b := red N j u (cand w q)) (A := 118000000) (B := 118000000) (by omega) (by omega) (n := N) hb hb
      have h6 : (N : Int) * (118000000 * 118000000) ≤ 4 * (118000000 * 118000000) := by omega
      have := sq_lt h0 (show (0 : Int) ≤ 1073741825 by omega) (by omega)
      omega
    refine ⟨L, h0, hL, h2, h3, ?_⟩
    rw [matrix_basis_extend_m.l5, mk_len, if_pos (dlt (show q < N + 1 by omega)), if_pos (rng (show q < N + 1 by omega)), Int.toNat_natCast, mk_get _ (show q < N + 1 by omega), Option.bind_some]
    rw [reduce_eq hN (by omega) (by omega) _ u (calmq q).mid (fun t ht k hk => C.comp ht hk), Option.bind_some, h4, Option.bind_some]
    by_cases hl : least q ≤ L
    · have hl0 : 4096 ≤ L := by unfold least at hl; split at hl <;> omega
      rw [if_pos (decide_eq_true hl), if_pos hl]
      have e := l36_eq (K := K) hN (by omega) (red N j u (cand w q)) (L := L) ⟨by omega, hL⟩ hb (mk j fun t => v6 N (u t)) (mk (N + 1) fun q => v6 N (cand w q)) (least q) (q : Int) (v6 N (cand w q)) (v6 N (red N j u (cand w q)))
      refine bT (v := .inl ((N : Int), (mk j fun t => v6 N (u t)) ++ [v6 N (nrv (red N j u (cand w q)) L)])) (bT (v := .inl (.inl ((N : Int), (mk j fun t => v6 N (u t)) ++ [v6 N (nrv (red N j u (cand w q)) L)]))) (bT e ?_) rfl) rfl
      rw [mk_len, if_pos (by omega)]
      rfl
    · rw [if_neg (by simpa using hl), if_neg hl]
      show matrix_basis_extend_m.l5 K (N : Int) _ _ m 16384 (w_i64 ((q : Int) + 1)) = _
      rw [wnext (by omega), show least (q + 1) = 16384 from if_neg (by omega)]
  -- some candidate is long enough
  obtain ⟨i, hi, hlong⟩ := unit_long C hj
  have key : ∀ d q m, q + d = i + 1 → d < m → (q ≠ 0 → dotN (red N j u w) (red N j u w) N < 4096 * 4096) →
      ∃ v c L, matrix_basis_extend_m.l5 K (N : Int) (mk j fun t => v6 N (u t)) (mk (N + 1) fun q => v6 N (cand w q)) m (least q) (q : Int) = some ((N : Int), (mk j fun t => v6 N (u t)) ++ [v6 N v]) ∧ Col N j u w v c L := by
    intro d
    induction d with
    | zero =>
      intro q m hq hm hf
      obtain ⟨m, rfl⟩ : ∃ x, m = x + 1 := ⟨m - 1, by omega⟩
      obtain ⟨L, h0, h1, h2, h3, h4⟩ := round m q (by omega)
      have ec : cand w q = unv i := by unfold cand; rw [if_neg (by omega), show q - 1 = i by omega]
      have hl : least q ≤ L := by
        rw [ec] at h3
        unfold least; rw [if_neg (by omega)]
        have := sq_lt (show (0 : Int) ≤ 16384 by omega) (show 0 ≤ L + 1 by omega) (by omega)
        omega
      rw [if_pos hl] at h4
      have hl0 : 16384 ≤ L := by unfold least at hl; rw [if_neg (by omega)] at hl; exact hl
      exact ⟨_, cand w q, L, h4, rfl, by omega, h1, h2, h3, .inr ⟨i, hi, ec⟩, fun h => by have := hf (by omega); omega⟩
    | succ d ih =>
      intro q m hq hm hf
      obtain ⟨m, rfl⟩ : ∃ x, m = x + 1 := ⟨m - 1, by omega⟩
      obtain ⟨L, h0, h1, h2, h3, h4⟩ := round m q (by omega)
      by_cases hl : least q ≤ L
      · rw [if_pos hl] at h4
        have hl0 : 4096 ≤ L := by unfold least at hl; split at hl <;> omega
        refine ⟨_, cand w q, L, h4, rfl, hl0, h1, h2, h3, ?_, ?_⟩
        · by_cases e : q = 0
          · exact .inl (if_pos e)
          · exact .inr ⟨q - 1, by omega, if_neg e⟩
        · intro h
          by_cases e : q = 0
          · exact if_pos e
          · have := hf e; omega
      · rw [if_neg hl] at h4
        rw [h4]
        refine ih (q + 1) m (by omega) (by omega) fun _ => ?_
        by_cases e : q = 0
        · have ec : cand w q = w := if_pos e
          rw [ec] at h3
          have hl2 : L < 4096 := by unfold least at hl; rw [if_pos e] at hl; omega
          have := sq_le (show 0 ≤ L + 1 by omega) (show L + 1 ≤ 4096 by omega)
          omega
        · exact hf e
  exact key (i + 1) 0 K (by omega) (by omega) (fun h => absurd rfl h)
end Go.Proofs.YtglcmhldonkfdaaDoor
set_option maxRecDepth 10000
set_option linter.unusedVariables false
set_option linter.unusedSimpArgs false
namespace Go.Proofs.YtglcmhldonkfdaaDoor
open Go
theorem vrun_congr (N : Nat) {u u' : Nat → Nat → Int} : ∀ (l : List Nat) (w : Nat → Int), (∀ t ∈ l, u t = u' t) → vrun N u l w = vrun N u' l w
  | [], w, _ => rfl
  | t :: l, w, h => by
    rw [vrun, vrun, h t (List.mem_cons_self ..), vrun_congr N l _ (fun t ht => h t (List.mem_cons_of_mem _ ht))]
theorem red_congr {N j : Nat} {u u' : Nat → Nat → Int} (h : ∀ t, t < j → u t = u' t) (w : Nat → Int) : red N j u w = red N j u' w := vrun_congr N _ _ fun t ht => h t (tri_lt ht)
theorem Col.congr {N j : Nat} {u u' : Nat → Nat → Int} (h : ∀ t, t < j → u t = u' t) {w v c : Nat → Int} {L : Int} (H : Col N j u w v c L) : Col N j u' w v c L := by
  have e := fun w => red_congr (N := N) h w
  obtain ⟨a, b, c', d, f, g, i⟩ := H
  rw [e] at a d f
  rw [e w] at i
  exact ⟨a, b, c', d, f, g, i⟩
theorem Cols.grow {N j : Nat} {u : Nat → Nat → Int} (C : Cols N j (bOf j) u) (hj : j < N) {w v c : Nat → Int} {L : Int} (hw : ∀ k, k < N → -16777216 ≤ w k ∧ w k ≤ 16777216) (H : Col N j u w v c L) :
    Cols N (j + 1) (bOf (j + 1)) (fun t => if t = j then v else u t) := by
  have hN := C.n4
  have hbo := bOf_mono j (by omega)
  have hc : ∀ k, k < N → -16777216 ≤ c k ∧ c k ≤ 16777216 := fun k hk => by
    rcases H.one with e | ⟨i, _, e⟩
    · rw [e]; exact hw k hk
    · rw [e]; unfold unv; split <;> omega
  have hX : ∀ i, i < j → -(X0 i) ≤ dotN c (u i) N ∧ dotN c (u i) N ≤ X0 i := fun i hi => by
    have h1 := dot_abs (A := 16777216) (by omega) (x := u i) hc
    have h2 := C.abs hi
    show -(33554432 * 65554 : Int) ≤ _ ∧ _ ≤ (33554432 * 65554 : Int)
    omega
  have hR := red_H C hX hc
  have hn := nrv_norm hN H.L1 H.lo (Int.le_of_lt H.hi)
  have hd : ∀ i, i < j → -(bOf (j + 1) * 65536) ≤ dotN v (u i) N ∧ dotN v (u i) N ≤ bOf (j + 1) * 65536 := fun i hi => by
    have h1 := nrv_dot H.L1 (hR.dots i hi) (C.abs hi)
    have h2 := (bdM_X j (by omega) i hi).1
    rw [H.v_eq]
    unfold bdM at h2
    omega
  rw [← H.v_eq] at hn
  refine ⟨hN, fun t ht => ?_, fun t ht => ?_, fun s hs t ht hst => ?_, by omega⟩
  · show dotN (if t = j then v else u t) (if t = j then v else u t) N ≤ _
    by_cases e : t = j
    · rw [if_pos e]; exact hn.2
    · rw [if_neg e]; exact C.up t (by omega)
  · show _ ≤ dotN (if t = j then v else u t) (if t = j then v else u t) N
    by_cases e : t = j
    · rw [if_pos e]; exact hn.1
    · rw [if_neg e]; exact C.low t (by omega)
  · show _ ≤ dotN (if s = j then v else u s) (if t = j then v else u t) N ∧ dotN (if s = j then v else u s) (if t = j then v else u t) N ≤ _
    by_cases e1 : s = j
    · rw [if_pos e1, if_neg (by omega)]; exact hd t (by omega)
    · rw [if_neg e1]
      by_cases e2 : t = j
      · rw [if_pos e2, dotN_comm]; exact hd s (by omega)
      · rw [if_neg e2]
        have := C.pair s (by omega) t (by omega) hst
        omega
structure Ort (N : Nat) (m : Nat → Nat → Int) (j : Nat) (u : Nat → Nat → Int) : Prop where
  cols : Cols N j (bOf j) u
  each : ∀ t, t < j → ∃ c L, Col N t u (fun i => m i t) (u t) c L
theorem Ort.grow {N j : Nat} {m u : Nat → Nat → Int} (hm : ∀ i, i < N → ∀ k, k < N → -16777216 ≤ m i k ∧ m i k ≤ 16777216) (O : Ort N m j u) (hj : j < N) {v c : Nat → Int} {L : Int} (H : Col N j u (fun i => m i j) v c L) :
    Ort N m (j + 1) (fun t => if t = j then v else u t) where
  cols := O.cols.grow hj (fun k hk => hm k hk j hj) H
  each t ht := by
    show ∃ c L, Col N t (fun t => if t = j then v else u t) (fun i => m i t) (if t = j then v else u t) c L
    by_cases e : t = j
    · subst e
      rw [if_pos rfl]
      exact ⟨c, L, H.congr fun s hs => (if_neg (by omega)).symm⟩
    · rw [if_neg e]
      obtain ⟨c', L', H'⟩ := O.each t (by omega)
      exact ⟨c', L', H'.congr fun s hs => (if_neg (by omega)).symm⟩
end Go.Proofs.YtglcmhldonkfdaaDoor
set_option maxRecDepth 10000
set_option linter.unusedVariables false
set_option linter.unusedSimpArgs false
namespace Go.Proofs.YtglcmhldonkfdaaDoor
open Go
theorem v6u {N i : Nat} (hi : i < N) : v6 N (unv i) = ⟨unv i 0, unv i 1, unv i 2, unv i 3, unv i 4, unv i 5⟩ := by
  have : cut N (unv i) = unv i := funext fun k => by
    unfold cut
    split
    · rfl
    · unfold unv; rw [if_neg (by omega)]
  unfold v6; rw [this]
def ust (N i : Nat) : List TA6_Int := mk N fun a => if a < i then v6 N (unv a) else ⟨0, 0, 0, 0, 0, 0⟩
theorem ust_get {N i : Nat} (h : i < N) : (ust N i)[i]? = some ⟨0, 0, 0, 0, 0, 0⟩ := by rw [ust, mk_get _ h, if_neg (Nat.lt_irrefl i)]
theorem ust_set {N i : Nat} (h : i < N) {x : TA6_Int} (hx : x = v6 N (unv i)) : (ust N i).set i x = ust N (i + 1) := by
  rw [ust, mk_set, ust]
  refine mk_congr fun a ha => ?_
  by_cases e : a = i
  · subst e; rw [if_pos rfl, if_pos (Nat.lt_succ_self a), hx]
  · rw [if_neg e]
    by_cases h2 : a < i
    · rw [if_pos h2, if_pos (by omega)]
    · rw [if_neg h2, if_neg (by omega)]
theorem ust_len (N i : Nat) : (ust N i).length = N := mk_len _ _
theorem units_eq {N K : Nat} (hN : N ≤ 4) (hK : N < K) (a0 : List (List Int)) (ha : a0.length = N) :
    matrix_Orthogonalize.l93 K a0 K (List.replicate N ⟨0, 0, 0, 0, 0, 0⟩) 0 = some (mk N fun i => v6 N (unv i)) := by
  refine loop_0 (fun m s x => matrix_Orthogonalize.l93 K a0 m s x) N (ust N) _ ?_ (fun m i hi => ?_) (fun m => ?_) hK
  · rw [mk_rep]; exact mk_congr fun a ha => (if_neg (Nat.not_lt_zero a)).symm
  · show matrix_Orthogonalize.l93 _ _ (m + 1) _ _ = _
    rw [matrix_Orthogonalize.l93, ha, if_pos (dlt hi), ust_len]
    have R := rng hi
    have G := ust_get hi
    have T := fun x hx => ust_set hi (x := x) hx
    rcases cases4 hi hN with rfl | rfl | rfl | rfl
    · rw [if_pos (by decide)]
      refine (if_pos R).trans (bT G ?_)
      exact congrArg (fun s => matrix_Orthogonalize.l93 K a0 m s 1) (T _ (v6u hi).symm)
    · rw [if_neg (by decide), if_pos (by decide)]
      refine (if_pos R).trans (bT G ?_)
      exact congrArg (fun s => matrix_Orthogonalize.l93 K a0 m s 2) (T _ (v6u hi).symm)
    · rw [if_neg (by decide), if_neg (by decide), if_pos (by decide)]
      refine (if_pos R).trans (bT G ?_)
      exact congrArg (fun s => matrix_Orthogonalize.l93 K a0 m s 3) (T _ (v6u hi).symm)
    · rw [if_neg (by decide), if_neg (by decide), if_neg (by decide), if_pos (by decide)]
      refine (if_pos R).trans (bT G ?_)
      exact congrArg (fun s => matrix_Orthogonalize.l93 K a0 m s 4) (T _ (v6u hi).symm)
  · show matrix_Orthogonalize.l93 _ _ (m + 1) _ _ = _
    rw [matrix_Orthogonalize.l93, ha, if_neg (by rw [dnl]; simp)]
    exact congrArg some (mk_congr fun a ha => if_pos ha)
theorem column_eq {N K c : Nat} (hN : N ≤ 4) (hK : N < K) (hc : c < N) (m : Nat → Nat → Int) (j6 : List TA6_Int) (x14 : Int) (x15 : List TA6_Int) :
    matrix_Orthogonalize.l43 K (mm N N m) j6 x14 x15 (c : Int) K 0 0 0 0 0 0 0 = some (t6 (cut N fun i => m i c)) := by
  have L := loop_0 (fun q (s : Nat → Int) x => matrix_Orthogonalize.l43 K (mm N N m) j6 x14 x15 (c : Int) q (s 0) (s 1) (s 2) (s 3) (s 4) (s 5) x) N (fun i k => cut N (fun k => if k < i then m k c else 0) k) (t6 (cut N fun i => m i c)) (s := fun _ => 0) (funext fun k => by
    unfold cut; split
    · exact (if_neg (Nat.not_lt_zero k)).symm
    · rfl) (fun q i hi => ?_) (fun q => ?_) hK
  · exact L
  · show matrix_Orthogonalize.l43 _ _ _ _ _ _ (q + 1) _ _ _ _ _ _ _ = _
    have same : ∀ k, k ≠ i → cut N (fun k => if k < i + 1 then m k c else 0) k = cut N (fun k => if k < i then m k c else 0) k := fun k hk => cut_at fun _ => by
      show (if k < i + 1 then m k c else 0) = if k < i then m k c else 0
      by_cases h : k < i
      · rw [if_pos h, if_pos (show k < i + 1 by omega)]
      · rw [if_neg h, if_neg (show ¬ k < i + 1 by omega)]
    have new : cut N (fun k => if k < i + 1 then m k c else 0) i = m i c := by
      rw [cut_lt hi, if_pos (Nat.lt_succ_self i)]
    have R := rng hi
    have G := mm_get (m := N) m hi
    have R2 : 0 ≤ (c : Int) ∧ (c : Int) < ((mk N (m i)).length : Int) := by rw [mk_len]; exact rng hc
    have G2 : (mk N (m i))[(c : Int).toNat]? = some (m i c) := by rw [Int.toNat_natCast]; exact mk_get _ hc
    rw [matrix_Orthogonalize.l43, mm_len, if_pos (dlt hi)]
    rcases cases4 hi hN with rfl | rfl | rfl | rfl
    · rw [if_pos (by decide), new, same 1 (by omega), same 2 (by omega), same 3 (by omega), same 4 (by omega), same 5 (by omega)]
      exact (if_pos R).trans (bT G ((if_pos R2).trans (bT G2 rfl)))
    · rw [if_neg (by decide), if_pos (by decide), new, same 0 (by omega), same 2 (by omega), same 3 (by omega), same 4 (by omega), same 5 (by omega)]
      exact (if_pos R).trans (bT G ((if_pos R2).trans (bT G2 rfl)))
    · rw [if_neg (by decide), if_neg (by decide), if_pos (by decide), new, same 0 (by omega), same 1 (by omega), same 3 (by omega), same 4 (by omega), same 5 (by omega)]
      exact (if_pos R).trans (bT G ((if_pos R2).trans (bT G2 rfl)))
    · rw [if_neg (by decide), if_neg (by decide), if_neg (by decide), if_pos (by decide), new, same 0 (by omega), same 1 (by omega), same 2 (by omega), same 4 (by omega), same 5 (by omega)]
      exact (if_pos R).trans (bT G ((if_pos R2).trans (bT G2 rfl)))
  · show matrix_Orthogonalize.l43 _ _ _ _ _ _ (q + 1) _ _ _ _ _ _ _ = _
    rw [matrix_Orthogonalize.l43, mm_len, if_neg (by rw [dnl]; simp)]
    have e : cut N (fun k => if k < N then m k c else 0) = cut N (fun i => m i c) := funext fun k => cut_at fun h => if_pos h
    show some (t6 (cut N (fun k => if k < N then m k c else 0))) = _
    rw [e]
theorem Ort.none (N : Nat) (hN : N ≤ 4) (m u : Nat → Nat → Int) : Ort N m 0 u where
  cols := ⟨hN, fun t h => absurd h (Nat.not_lt_zero t), fun t h => absurd h (Nat.not_lt_zero t), fun s h => absurd h (Nat.not_lt_zero s), by decide⟩
  each t h := absurd h (Nat.not_lt_zero t)
theorem l17_eq {N K : Nat} (hN : N ≤ 4) (hK : 60 < K) {m : Nat → Nat → Int} (hm : ∀ i, i < N → ∀ k, k < N → -16777216 ≤ m i k ∧ m i k ≤ 16777216) :
    ∀ (d j : Nat) (u : Nat → Nat → Int) (q : Nat), j + d = N → d < q → Ort N m j u →
    ∃ u', Ort N m N u' ∧ matrix_Orthogonalize.l17 K (mm N N m) (mk N fun i => v6 N (unv i)) q (N : Int) (mk j fun t => v6 N (u t)) (j : Int) = some ((N : Int), mk N fun t => v6 N (u' t)) := by
  intro d
  induction d with
  | zero =>
    intro j u q hj hq O
    obtain ⟨q, rfl⟩ : ∃ x, q = x + 1 := ⟨q - 1, by omega⟩
    obtain rfl : j = N := by omega
    exact ⟨u, O, by rw [matrix_Orthogonalize.l17, mm_len, if_neg (by rw [dnl]; simp)]⟩
  | succ d ih =>
    intro j u q hj hq O
    obtain ⟨q, rfl⟩ : ∃ x, q = x + 1 := ⟨q - 1, by omega⟩
    obtain ⟨v, c, L, he, hc⟩ := extend_eq O.cols (show j < N by omega) hK (w := fun i => m i j) (fun k hk => hm k hk j (by omega))
    obtain ⟨u', hO, hl⟩ := ih (j + 1) (fun t => if t = j then v else u t) q (by omega) (by omega) (O.grow hm (by omega) hc)
    refine ⟨u', hO, ?_⟩
    have hg : (mk j fun t => v6 N (u t)) ++ [v6 N v] = mk (j + 1) fun t => v6 N (if t = j then v else u t) := by
      rw [mk_succ, if_pos rfl]
      exact congrArg (· ++ [v6 N v]) (mk_congr fun t ht => by rw [if_neg (by omega)])
    rw [hg] at he
    rw [matrix_Orthogonalize.l17, mm_len, if_pos (dlt (show j < N by omega))]
    refine bT (v := ((N : Int), mk (j + 1) fun t => v6 N (if t = j then v else u t))) (bT (column_eq hN (by omega) (by omega) m _ _ _) ?_) ?_
    · rw [if_pos ⟨by rw [mk_len]; omega, by show 1 < 1000000; omega⟩]
      exact bT he rfl
    · rw [wnext (by omega)]
      exact hl
theorem o1m {N i k : Nat} (hN : N ≤ 4) (hi : i < N) (hk : k < N) (n : Int) (u : Nat → Nat → Int) : matrix_Orthogonalize_1_m (i : Int) (k : Int) ⟨n, mk N fun t => v6 N (u t)⟩ = some (u k i) := by
  unfold matrix_Orthogonalize_1_m
  have R : 0 ≤ (k : Int) ∧ (k : Int) < ((mk N fun t => v6 N (u t)).length : Int) := by rw [mk_len]; exact rng hk
  have G : (mk N fun t => v6 N (u t))[(k : Int).toNat]? = some (v6 N (u k)) := by rw [Int.toNat_natCast]; exact mk_get _ hk
  have C : cut N (u k) i = u k i := cut_lt hi
  rcases cases4 hi hN with rfl | rfl | rfl | rfl
  · rw [if_pos (by decide)]
    exact (if_pos R).trans (bT G (congrArg some C))
  · rw [if_neg (by decide), if_pos (by decide)]
    exact (if_pos R).trans (bT G (congrArg some C))
  · rw [if_neg (by decide), if_neg (by decide), if_pos (by decide)]
    exact (if_pos R).trans (bT G (congrArg some C))
  · rw [if_neg (by decide), if_neg (by decide), if_neg (by decide), if_pos (by decide)]
    exact (if_pos R).trans (bT G (congrArg some C))
theorem orth_eq {N K : Nat} (hN : N ≤ 4) (hK : 60 < K) {m : Nat → Nat → Int} (hm : ∀ i, i < N → ∀ k, k < N → -16777216 ≤ m i k ∧ m i k ≤ 16777216) :
    ∃ u, Ort N m N u ∧ matrix_Orthogonalize K (mm N N m) = some (mm N N fun i k => u k i) := by
  obtain ⟨u, O, hl⟩ := l17_eq hN hK hm N 0 (fun _ _ => 0) K (by omega) (by omega) (Ort.none N hN m _)
  refine ⟨u, O, ?_⟩
  have hn : N < 1000000 := by omega
  unfold matrix_Orthogonalize
  rw [mm_len, if_pos (n0 hn), Int.toNat_natCast]
  refine bT (units_eq hN (by omega) _ (mm_len _ _ _)) (bT hl (bT (v := mm N N fun i k => u k i) ?_ rfl))
  unfold matrix_build_int64_s68
  rw [if_pos (n0 hn), Int.toNat_natCast]
  refine bT (build_eq (fun k s x => matrix_build_int64_s68.l10 K (N : Int) _ k s x) N (fun i k => u k i) (fun k i hi => ?_) (fun k acc => ?_) (by omega)) rfl
  · show matrix_build_int64_s68.l10 _ _ _ (k + 1) _ _ = _
    rw [matrix_build_int64_s68.l10, if_pos (dlt hi)]
    refine bT (build_row (fun k s x => matrix_build_int64_s68.l19 K (N : Int) _ _ (i : Int) k s x) N i hi (fun i k => u k i) hn (fun k acc j row hj ha hr hw => ?_) (fun k acc => ?_) (by omega)) (by rw [wnext (by omega)])
    · show matrix_build_int64_s68.l19 _ _ _ _ _ (k + 1) _ _ = _
      rw [matrix_build_int64_s68.l19, if_pos (dlt hj), ha, if_pos (rng hi), Int.toNat_natCast, hr, Option.bind_some, o1m hN hi hj _ u, Option.bind_some, if_pos hw, if_pos (rng hi), Option.bind_some, wnext (by omega)]
    · show matrix_build_int64_s68.l19 _ _ _ _ _ (k + 1) _ _ = _
      rw [matrix_build_int64_s68.l19, if_neg (by rw [dnl]; simp)]
  · show matrix_build_int64_s68.l10 _ _ _ (k + 1) _ _ = _
    rw [matrix_build_int64_s68.l10, if_neg (by rw [dnl]; simp)]
theorem Ort.upto {N j : Nat} {m u : Nat → Nat → Int} (hm : ∀ i, i < N → ∀ k, k < N → -16777216 ≤ m i k ∧ m i k ≤ 16777216) (O : Ort N m j u) (hj : j ≤ N) : ∀ t, t ≤ j → Cols N t (bOf t) u := by
  intro t
  induction t with
  | zero => exact fun _ => (Ort.none N O.cols.n4 m u).cols
  | succ t ih =>
    intro ht
    obtain ⟨c, L, H⟩ := O.each t (by omega)
    have := (ih (by omega)).grow (by omega) (fun k hk => hm k hk t (by omega)) H
    have e : (fun s => if s = t then u t else u s) = u := funext fun s => by split <;> simp_all
    rwa [e] at this
end Go.Proofs.YtglcmhldonkfdaaDoor
set_option maxRecDepth 10000
set_option linter.unusedVariables false
set_option linter.unusedSimpArgs false
namespace Go.Proofs.YtglcmhldonkfdaaDoor
open Go
def bdI (j : Nat) : Bd := brun (bOf j) (tri j) ⟨fun _ => 200 * 65536, 65554, fun _ => 0⟩
theorem bdI_b : ∀ j, j < 4 → (bdI j).W ≤ 66300 ∧ ∀ i, i < j → (bdI j).X i ≤ 700000 ∧ (bdI j).C i ≤ 240 := by decide +kernel
theorem near {N j : Nat} {p : Nat → Nat → Int} (C : Cols N j (bOf j) p) (hj : j < N) {w v c : Nat → Int} {L : Int} (H : Col N j p w v c L)
    (hw1 : dotN w w N ≤ 65554 * 65554) (hw2 : 4294967296 - 37 * 65536 ≤ dotN w w N) (hX : ∀ i, i < j → -(200 * 65536) ≤ dotN w (p i) N ∧ dotN w (p i) N ≤ 200 * 65536) :
    (∀ k, k < N → -1024 ≤ w k - v k ∧ w k - v k ≤ 1024) ∧
    ∀ x : Nat → Int, dotN x x N ≤ 65554 * 65554 → (∀ s, s < j → -(200 * 65536) ≤ dotN (p s) x N ∧ dotN (p s) x N ≤ 200 * 65536) → (-(172 * 65536) ≤ dotN w x N ∧ dotN w x N ≤ 172 * 65536) → -(200 * 65536) ≤ dotN v x N ∧ dotN v x N ≤ 200 * 65536 := by
  have hN4 := C.n4
  have hwk := comp_le (x := w) (U := 65554) (by omega) hw1
  have R0 := red_H C hX (W := 65554) hwk
  have hb := bdI_b j (by omega)
  obtain ⟨K, R, hK, hR, hE⟩ := R0.coef
  have hd := R0.dots
  have hcmp := R0.comp
  have hv := H.v_eq
  have h1 := H.L1
  have hlo := H.lo
  have hhi := H.hi
  have hfirst := H.first
  have hKb : ∀ t, t < j → -240 ≤ K t ∧ K t ≤ 240 := fun t ht => by
    have := hK t ht
    have h2 : (brun (bOf j) (tri j) ⟨fun _ => 200 * 65536, 65554, fun _ => 0⟩).C t ≤ 240 := (hb.2 t ht).2
    omega
  have hRb : ∀ k, k < N → 0 ≤ R k ∧ R k ≤ 589815 := fun k hk => by
    have := hR k hk
    have : ((3 * j : Nat) : Int) * 65535 ≤ 589815 := by omega
    omega
  have hwb : ∀ k, k < N → -66300 ≤ red N j p w k ∧ red N j p w k ≤ 66300 := fun k hk => by
    have := hcmp k hk
    have h2 : (brun (bOf j) (tri j) ⟨fun _ => 200 * 65536, 65554, fun _ => 0⟩).W ≤ 66300 := hb.1
    omega
  have hdb : ∀ t, t < j → -700000 ≤ dotN (red N j p w) (p t) N ∧ dotN (red N j p w) (p t) N ≤ 700000 := fun t ht => by
    have := hd t ht
    have h2 : (brun (bOf j) (tri j) ⟨fun _ => 200 * 65536, 65554, fun _ => 0⟩).X t ≤ 700000 := (hb.2 t ht).1
    omega
  have hE' : ∀ k, k < N → 65536 * red N j p w k = 65536 * w k - 1 * dotN K (fun t => p t k) j + R k := fun k hk => by have := hE k hk; omega
  -- what the reduced vector sees
  have sees : ∀ (x : Nat → Int) (X A : Int), 0 ≤ X → absS x N ≤ A → (∀ s, s < j → -X ≤ dotN (p s) x N ∧ dotN (p s) x N ≤ X) →
      -(720 * X + 589815 * A) ≤ 65536 * dotN (red N j p w) x N - 65536 * dotN w x N ∧ 65536 * dotN (red N j p w) x N - 65536 * dotN w x N ≤ 720 * X + 589815 * A := fun x X A hX0 hA hx => by
    have e1 := dotN_lin (x := x) (n := N) hE'
    rw [dotN_dbl] at e1
    have e2 := dotN_b (a := K) (b := fun t => dotN (p t) x N) (A := 240) (B := X) (by omega) hX0 (n := j) hKb hx
    have e3 := rdot (m := 589815) (by omega) hRb hA
    have e4 : (j : Int) * (240 * X) ≤ 3 * (240 * X) := Int.mul_le_mul_of_nonneg_right (by omega) (by omega)
    generalize dotN K (fun t => dotN (p t) x N) j = g at *
    omega
  have aw := absS_le (x := w) hN4 (show (0 : Int) ≤ 65554 by omega) hw1
  have s1 := sees w (200 * 65536) 131108 (by omega) (by omega) (fun s hs => by rw [dotN_comm]; exact hX s hs)
  have ar : absS (red N j p w) N ≤ 265200 := by
    have h2 := dotN_b (a := red N j p w) (b := red N j p w) (A := 66300) (B := 66300) (by omega) (by omega) (n := N) hwb hwb
    have := absS_le (x := red N j p w) hN4 (show (0 : Int) ≤ 132600 by omega) (by omega)
    omega
  have s2 := sees (red N j p w) 700000 265200 (by omega) ar (fun s hs => by rw [dotN_comm]; exact hdb s hs)
  rw [dotN_comm w (red N j p w)] at s2
  have hc : c = w := hfirst (by omega)
  subst hc
  have hL1 : 65536 - 49 ≤ L := by
    refine Int.not_lt.1 fun h => ?_
    have := sq_le (show 0 ≤ L + 1 by omega) (show L + 1 ≤ 65487 by omega)
    omega
  have hL2 : L ≤ 65536 + 49 := by
    refine Int.not_lt.1 fun h => ?_
    have := sq_le (show (0 : Int) ≤ 65586 by omega) (show 65586 ≤ L by omega)
    omega
  constructor
  · intro k hk
    obtain ⟨r, hr1, hr2, hr3⟩ := nrv_r (red N j p c) (show 0 < L by omega) k
    rw [← hv] at hr1
    have g1 := hE k hk
    have g2 := dotN_b (a := K) (b := fun t => p t k) (A := 240) (B := 65554) (by omega) (by omega) (n := j) hKb (fun t ht => C.comp ht hk)
    have g3 : (j : Int) * (240 * 65554) ≤ 3 * (240 * 65554) := by omega
    have g4 := hRb k hk
    have g5 := hwb k hk
    have e0 := prod_bound (x := 65536 - L) (y := red N j p c k) (A := 49) (B := 66300) (by omega) g5
    have e1 : L * (v k - red N j p c k) = (65536 - L) * red N j p c k - r := by rw [Int.mul_sub, hr1]; grind
    have e2 : -60 ≤ v k - red N j p c k ∧ v k - red N j p c k ≤ 60 := by
      generalize v k - red N j p c k = z at *
      generalize (65536 - L) * red N j p c k = y at *
      constructor
      · refine Int.not_lt.1 fun h => ?_
        have := Int.mul_le_mul_of_nonneg_left (show z ≤ -61 by omega) (show 0 ≤ L by omega)
        omega
      · refine Int.not_lt.1 fun h => ?_
        have := Int.mul_le_mul_of_nonneg_left (show 61 ≤ z by omega) (show 0 ≤ L by omega)
        omega
    generalize dotN K (fun t => p t k) j = g at *
    omega
  · intro x hx hp hwx
    have ax := absS_le (x := x) hN4 (show (0 : Int) ≤ 65554 by omega) hx
    have s3 := sees x (200 * 65536) 131108 (by omega) (by omega) hp
    obtain ⟨r, hr⟩ := nrv_rs (red N j p c) (show 0 < L by omega)
    have f1 := dotN_lin2 (x := x) (n := N) (fun k _ => (hr k).1)
    rw [← hv] at f1
    have f2 := rdot (m := L) (x := x) (by omega) (fun k (_ : k < N) => (hr k).2) (A := 131108) (by omega)
    generalize dotN r x N = y at *
    generalize dotN (red N j p c) x N = q at *
    generalize dotN v x N = z at *
    constructor
    · refine Int.not_lt.1 fun h => ?_
      have := Int.mul_le_mul_of_nonneg_left (show z ≤ -(200 * 65536) - 1 by omega) (show 0 ≤ L by omega)
      omega
    · refine Int.not_lt.1 fun h => ?_
      have := Int.mul_le_mul_of_nonneg_left (show 200 * 65536 + 1 ≤ z by omega) (show 0 ≤ L by omega)
      omega
theorem twice {N : Nat} {m o p : Nat → Nat → Int} (O : Ort N m N o) (P : Ort N (fun i k => o k i) N p) : ∀ t, t < N → ∀ i, i < N → -1024 ≤ o t i - p t i ∧ o t i - p t i ≤ 1024 := by
  have hN4 := O.cols.n4
  have hbN : bOf N ≤ 172 := by
    have h := O.cols.n4
    rcases (show N = 0 ∨ N = 1 ∨ N = 2 ∨ N = 3 ∨ N = 4 by omega) with rfl | rfl | rfl | rfl | rfl <;> decide
  have cols : ∀ t, t ≤ N → Cols N t (bOf t) p := P.upto (fun i hi k hk => by have := O.cols.comp hk hi; show -16777216 ≤ o k i ∧ o k i ≤ 16777216; omega) (Nat.le_refl _)
  have key : ∀ n t, t < n → t < N → ∀ k, k < N → t < k → -(200 * 65536) ≤ dotN (p t) (o k) N ∧ dotN (p t) (o k) N ≤ 200 * 65536 := by
    intro n
    induction n with
    | zero => intro t h; omega
    | succ n ih =>
      intro t htn htN k hk htk
      obtain ⟨c, L, H⟩ := P.each t htN
      have hN := near (cols t (by omega)) htN H (O.cols.up t htN) (O.cols.low t htN) (fun i hi => by rw [dotN_comm]; exact ih i (by omega) (by omega) t htN hi)
      refine hN.2 (o k) (O.cols.up k hk) (fun s hs => ih s (by omega) (by omega) k hk (by omega)) ?_
      have := O.cols.pair t htN k hk (by omega)
      show -(172 * 65536) ≤ dotN (fun i => o t i) (o k) N ∧ dotN (fun i => o t i) (o k) N ≤ 172 * 65536
      have e : (fun i => o t i) = o t := rfl
      rw [e]
      omega
  intro t ht i hi
  obtain ⟨c, L, H⟩ := P.each t ht
  exact (near (cols t (by omega)) ht H (O.cols.up t ht) (O.cols.low t ht) (fun s hs => by rw [dotN_comm]; exact key (s + 1) s (by omega) (by omega) t ht hs)).1 i hi
end Go.Proofs.YtglcmhldonkfdaaDoor
set_option maxRecDepth 10000
set_option linter.unusedVariables false
set_option linter.unusedSimpArgs false
namespace Go.Proofs.YtglcmhldonkfdaaDoor
open Go
def elN (l : List Int) (n i j : Nat) : Int := if i * n + j < l.length then Int.tmod (l.getD (i * n + j) default) 16777216 else 0
theorem elN_b (l : List Int) (n i j : Nat) : -16777216 < elN l n i j ∧ elN l n i j < 16777216 := by
  unfold elN
  split
  · exact tm_bound _
  · omega
theorem numbers_eq {N : Nat} (h6 : N ≤ 6) (l : List Int) {K : Nat} (hk : N < K) : armillaryref04_Numbers K l (N : Int) = some (mm N N (elN l N)) := by
  unfold armillaryref04_Numbers
  refine bT (loop_0 (fun k s x => armillaryref04_Numbers.l9 K l (N : Int) k s x) N (fun j => mk j fun i => mk N (elN l N i)) _ rfl (fun k i hi => ?_) (fun k => ?_) hk) rfl
  · show armillaryref04_Numbers.l9 _ _ _ (k + 1) _ _ = _
    rw [armillaryref04_Numbers.l9, if_pos (dlt hi)]
    refine bT (v := mk (i + 1) fun i => mk N (elN l N i)) ?_ (by rw [wnext (by omega)])
    rw [if_pos (n0 (by omega)), Int.toNat_natCast]
    refine bT (loop_0 (fun k s x => armillaryref04_Numbers.l23 K l (N : Int) _ (i : Int) k s x) (min N (l.length - i * N)) (fun j => mk N fun c => if c < j then elN l N i c else 0) (mk N (elN l N i)) ?_ (fun k j hj => ?_) (fun k => ?_) (by omega)) ?_
    · rw [mk_rep]; exact mk_congr fun c _ => (if_neg (Nat.not_lt_zero c)).symm
    · show armillaryref04_Numbers.l23 _ _ _ _ _ (k + 1) _ _ = _
      have hj1 : j < N := by omega
      have hj2 : i * N + j < l.length := by omega
      rw [armillaryref04_Numbers.l23, w_ij h6 hi (by omega), if_pos (by rw [dlt hj1, dlt hj2]; rfl), if_pos (rng hj2), Int.toNat_natCast, gD l default hj2, Option.bind_some]
      refine bT (v := elN l N i j) (by unfold elN; rw [if_pos hj2]; rfl) ?_
      rw [mk_len, if_pos (rng hj1), Int.toNat_natCast, mk_get _ hj1, Option.bind_some, wnext (by omega), mk_set]
      refine congrArg (fun s => armillaryref04_Numbers.l23 K l (N : Int) _ (i : Int) k s _) (mk_congr fun c hc => ?_)
      by_cases e : c = j
      · subst e; rw [if_pos rfl, if_pos (by omega)]
      · rw [if_neg e]
        by_cases h : c < j
        · rw [if_pos h, if_pos (by omega)]
        · rw [if_neg h, if_neg (by omega)]
    · show armillaryref04_Numbers.l23 _ _ _ _ _ (k + 1) _ _ = _
      rw [armillaryref04_Numbers.l23, w_ij h6 hi (by omega), if_neg (by simp; omega)]
      refine congrArg some (mk_congr fun c hc => ?_)
      by_cases h : c < min N (l.length - i * N)
      · rw [if_pos h]
      · rw [if_neg h, elN, if_neg (by omega)]
    · rw [mk_len, if_pos (by omega), mk_succ]
  · show armillaryref04_Numbers.l9 _ _ _ (k + 1) _ _ = _
    rw [armillaryref04_Numbers.l9, if_neg (by rw [dnl]; simp)]
    rfl
theorem abs_eq {x B : Int} (h : -B ≤ x ∧ x ≤ B) (hB : B ≤ 4611686018427387904) : ∃ y, armillarylaw04_abs x = some y ∧ y ≤ B := by
  refine ⟨_, rfl, ?_⟩
  rw [w64 (by omega) (by omega)]
  unfold mx
  split <;> omega
theorem bounded_eq {N : Nat} (h6 : N ≤ 6) {f : Nat → Nat → Int} (hf : ∀ i, i < N → ∀ j, j < N → -1048576 ≤ f i j ∧ f i j ≤ 1048576) {K : Nat} (hk : N < K) : armillarylaw04_bounded K (mm N N f) (N : Int) = some true := by
  unfold armillarylaw04_bounded
  rw [if_neg (by rw [mm_len]; simp)]
  refine bT (loop_ok (fun k x => armillarylaw04_bounded.l8 K (mm N N f) (N : Int) k x) N (fun k i hi => ?_) (fun k => ?_) hk) rfl
  · show armillarylaw04_bounded.l8 _ _ _ (k + 1) _ = _
    rw [armillarylaw04_bounded.l8, mm_len, if_pos (dlt hi)]
    refine bT (v := .inr ()) ?_ (by show armillarylaw04_bounded.l8 _ _ _ _ _ = _; rw [wnext (by omega)])
    rw [if_pos (rng hi), Int.toNat_natCast, mm_get _ hi, Option.bind_some, if_neg (by rw [mk_len]; simp)]
    refine loop_ok (γ := Bool ⊕ Unit) (fun k x => armillarylaw04_bounded.l18 K (mm N N f) (N : Int) (i : Int) (mk N (f i)) k x) N (fun k j hj => ?_) (fun k => ?_) hk
    · show armillarylaw04_bounded.l18 _ _ _ _ _ (k + 1) _ = _
      obtain ⟨y, h1, h2⟩ := abs_eq (hf i hi j hj) (by omega)
      rw [armillarylaw04_bounded.l18, mm_len, if_pos (dlt hj), if_pos (rng hi), Int.toNat_natCast, mm_get _ hi, Option.bind_some, mk_len, if_pos (rng hj), Int.toNat_natCast, mk_get _ hj, Option.bind_some, h1, Option.bind_some, if_neg (by simpa using h2), wnext (by omega)]
    · show armillarylaw04_bounded.l18 _ _ _ _ _ (k + 1) _ = _
      rw [armillarylaw04_bounded.l18, if_neg (by rw [dnl]; simp)]
  · show armillarylaw04_bounded.l8 _ _ _ (k + 1) _ = _
    rw [armillarylaw04_bounded.l8, if_neg (by rw [dnl]; simp)]
end Go.Proofs.YtglcmhldonkfdaaDoor
set_option maxRecDepth 10000
set_option linter.unusedVariables false
set_option linter.unusedSimpArgs false
namespace Go.Proofs.YtglcmhldonkfdaaDoor
open Go
theorem len_bin (K : Nat) (a0 : List Int) {s : Int} : ∀ (e q : Nat) (lo hi : Int), e < q → 0 ≤ lo → lo ≤ hi → hi ≤ 2147483648 → hi - lo < 2 ^ e → lo * lo ≤ s → s < (hi + 1) * (hi + 1) →
    ∃ L, armillaryref04_Length.l11 K a0 s q lo hi = some L ∧ 0 ≤ L ∧ L * L ≤ s ∧ s < (L + 1) * (L + 1) := by
  intro e
  induction e with
  | zero =>
    intro q lo hi hq h0 h1 h2 h3 h4 h5
    obtain ⟨q, rfl⟩ : ∃ x, q = x + 1 := ⟨q - 1, by omega⟩
    rw [Int.pow_zero] at h3
    obtain rfl : hi = lo := by omega
    exact ⟨hi, by rw [armillaryref04_Length.l11, if_neg (by simp)], h0, h4, h5⟩
  | succ e ih =>
    intro q lo hi hq h0 h1 h2 h3 h4 h5
    obtain ⟨q, rfl⟩ : ∃ x, q = x + 1 := ⟨q - 1, by omega⟩
    rw [Int.pow_succ] at h3
    rw [armillaryref04_Length.l11]
    by_cases h : lo < hi
    · have em : w_i64 (Int.tdiv (w_i64 (w_i64 (lo + hi) + 1)) 2) = (lo + hi + 1) / 2 := by
        rw [w64 (x := lo + hi) (by omega) (by omega), w64 (x := lo + hi + 1) (by omega) (by omega), Int.tdiv_eq_ediv_of_nonneg (by omega), w64 (by omega) (by omega)]
      rw [if_pos (decide_eq_true h), em]
      generalize hm : (lo + hi + 1) / 2 = m
      have hm1 : lo < m ∧ m ≤ hi := by omega
      have hmm := sq_le (show 0 ≤ m by omega) (show m ≤ 2147483648 by omega)
      have hm0 := sq_nn m
      rw [w64 (x := m * m) (by omega) (by omega), Option.bind_some]
      by_cases hc : m * m ≤ s
      · rw [if_pos (decide_eq_true hc)]
        exact ih q m hi (by omega) (by omega) (by omega) h2 (by omega) hc h5
      · rw [if_neg (by simpa using hc), w64 (x := m - 1) (by omega) (by omega)]
        refine ih q lo (m - 1) (by omega) h0 (by omega) (by omega) (by omega) h4 ?_
        rw [show m - 1 + 1 = m by omega]
        omega
    · obtain rfl : hi = lo := by omega
      exact ⟨hi, by rw [if_neg (by simp)], h0, h4, h5⟩
theorem length_eq {N : Nat} (hN : N ≤ 4) {w : Nat → Int} (hw : ∀ k, k < N → -536870912 ≤ w k ∧ w k ≤ 536870912) {K : Nat} (hK : 40 < K) : ∃ L, armillaryref04_Length K (mk N w) = some L ∧ 0 ≤ L ∧ L * L ≤ dotN w w N ∧ dotN w w N < (L + 1) * (L + 1) := by
  have hd := dotN_b (n := N) (A := 536870912) (B := 536870912) (by omega) (by omega) hw hw
  have h4 : (N : Int) * (536870912 * 536870912) ≤ 4 * (536870912 * 536870912) := by omega
  have h0 := dot_nn w N
  obtain ⟨L, h1, h2, h3, h5⟩ := len_bin K (mk N w) (s := dotN w w N) 32 K 0 2147483648 (by omega) (by omega) (by omega) (by omega) (by decide) (by omega) (by omega)
  refine ⟨L, ?_, h2, h3, h5⟩
  unfold armillaryref04_Length
  refine bT (loop_0 (fun k s x => armillaryref04_Length.l23 K (mk N w) k s x) N (fun j => dotN w w j) _ rfl (fun k i hi => ?_) (fun k => ?_) (by omega)) (bT h1 rfl)
  · show armillaryref04_Length.l23 _ _ (k + 1) _ _ = _
    have d1 := dotN_b (n := i) (by omega) (by omega) (fun j h => hw j (by omega)) (fun j h => hw j (by omega))
    have d2 := prod_bound (hw i hi) (hw i hi)
    have d3 : (i : Int) * (536870912 * 536870912) ≤ 4 * (536870912 * 536870912) := Int.mul_le_mul_of_nonneg_right (by omega) (by omega)
    rw [armillaryref04_Length.l23, mk_len, if_pos (dlt hi), if_pos (rng hi), Int.toNat_natCast, mk_get _ hi, Option.bind_some, if_pos (rng hi), Option.bind_some, w64 (x := w i * w i) (by omega) (by omega), w64 (by omega) (by omega), wnext (by omega)]
    rfl
  · show armillaryref04_Length.l23 _ _ (k + 1) _ _ = _
    rw [armillaryref04_Length.l23, mk_len, if_neg (by rw [dnl]; simp)]
theorem root_one {s L M : Int} (hL : 0 ≤ L) (hM : 0 ≤ M) (h1 : L * L ≤ s) (h2 : s < (L + 1) * (L + 1)) (h3 : M * M ≤ s) (h4 : s < (M + 1) * (M + 1)) : L = M := by
  have a := sq_lt hL (show 0 ≤ M + 1 by omega) (by omega)
  have b := sq_lt hM (show 0 ≤ L + 1 by omega) (by omega)
  omega
end Go.Proofs.YtglcmhldonkfdaaDoor
set_option maxRecDepth 10000
namespace Go.Proofs.YtglcmhldonkfdaaDoor
open Go
theorem sane (m : Nat) : armillarylaw04_sanity (m + 100) = some true := by kernel_rfl
end Go.Proofs.YtglcmhldonkfdaaDoor
