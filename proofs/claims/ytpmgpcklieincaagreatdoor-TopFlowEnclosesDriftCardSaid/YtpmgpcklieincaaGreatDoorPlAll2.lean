/- Texts of the plain laws, put together. Own work. -/
import Derived.Test.YtpmgpcklieincaaGreatDoorDefs
import Derived.KernelRfl
import Derived.IntWalk
set_option maxRecDepth 10000
set_option linter.unusedVariables false
set_option linter.unusedSimpArgs false
namespace Go.Proofs.YtpmgpcklieincaaGreatDoor
open Go
theorem w64 {x : Int} (h1 : -9223372036854775808 ≤ x) (h2 : x ≤ 9223372036854775807) : w_i64 x = x := by
  exact Go.IntWalk.i64_in x ⟨h1, h2⟩
theorem ediv_bounds {a b B : Int} (hb : 0 < b) (h1 : -B ≤ a) (h2 : a ≤ B) : -B ≤ a / b ∧ a / b ≤ B := by
  have hB : 0 ≤ B := by omega
  constructor
  · rw [Int.le_ediv_iff_mul_le hb]
    have : B * 1 ≤ B * b := Int.mul_le_mul_of_nonneg_left (by omega) hB
    have e : -B * b = -(B * b) := Int.neg_mul ..
    omega
  · apply Int.ediv_le_of_le_mul hb
    have : B * 1 ≤ B * b := Int.mul_le_mul_of_nonneg_left (by omega) hB
    omega
def cdiv (a b : Int) : Int := -((-a) / b)
theorem cdiv_le {a b c : Int} (hb : 0 < b) : cdiv a b ≤ c ↔ a ≤ c * b := by
  unfold cdiv
  have : -c ≤ (-a) / b ↔ -c * b ≤ -a := Int.le_ediv_iff_mul_le hb
  rw [Int.neg_mul] at this
  omega
theorem le_fdiv {a b c : Int} (hb : 0 < b) : c ≤ a / b ↔ c * b ≤ a := Int.le_ediv_iff_mul_le hb
theorem tdm (a b : Int) (hb : 0 < b) : (Int.tmod a b < 0 → Int.tdiv a b - 1 = a / b ∧ Int.tmod a b + b = a % b) ∧ (¬ Int.tmod a b < 0 → Int.tdiv a b = a / b ∧ Int.tmod a b = a % b) := by
  have h1 := Int.mul_tdiv_add_tmod a b
  have h2 := Int.tmod_lt_of_pos a hb
  have h3 : -b < Int.tmod a b := by
    have := Int.tmod_lt_of_pos (-a) hb
    rw [Int.neg_tmod] at this
    omega
  have e := fun q r => Int.ediv_emod_unique (a := a) (b := b) (r := r) (q := q) hb
  constructor
  · intro h
    have := (e (Int.tdiv a b - 1) (Int.tmod a b + b)).2 ⟨by rw [Int.mul_sub]; omega, by omega, by omega⟩
    exact ⟨this.1.symm, this.2.symm⟩
  · intro h
    have := (e (Int.tdiv a b) (Int.tmod a b)).2 ⟨by omega, by omega, by omega⟩
    exact ⟨this.1.symm, this.2.symm⟩
theorem cdiv_eq {a b : Int} (hb : 0 < b) : cdiv a b = a / b + mn (a % b) 1 := by
  have h1 := Int.mul_ediv_add_emod a b
  have h2 := Int.emod_nonneg a (by omega : b ≠ 0)
  have h3 := Int.emod_lt_of_pos a hb
  have h5 : mn (a % b) 1 = 0 ∧ a % b = 0 ∨ mn (a % b) 1 = 1 ∧ 1 ≤ a % b := by unfold mn; split <;> omega
  apply Int.le_antisymm
  · rw [cdiv_le hb, Int.add_mul, Int.mul_comm (a / b) b]
    rcases h5 with ⟨h5, h6⟩ | ⟨h5, h6⟩ <;> rw [h5] <;> omega
  · rcases h5 with ⟨h5, h6⟩ | ⟨h5, h6⟩ <;> rw [h5]
    · have := (cdiv_le (a := a) (c := cdiv a b) hb).1 (Int.le_refl _)
      have h7 : a / b ≤ cdiv a b := by
        apply Int.ediv_le_of_le_mul hb this
      omega
    · have h8 : ¬ cdiv a b ≤ a / b := by
        rw [cdiv_le hb, Int.mul_comm]
        omega
      omega
theorem floorCeil_eq {a b : Int} (hb : 0 < b) (ha1 : -4611686018427387904 ≤ a) (ha2 : a ≤ 4611686018427387904) (hb2 : b ≤ 4611686018427387904) : fixed_floorCeil_int64_s94 a b = some (a / b, cdiv a b) := by
  have hq := ediv_bounds hb ha1 ha2
  obtain ⟨t1, t2⟩ := tdm a b hb
  have h2 := Int.emod_nonneg a (by omega : b ≠ 0)
  have h3 := Int.emod_lt_of_pos a hb
  have hc := cdiv_eq (a := a) hb
  have hm : 0 ≤ mn (a % b) 1 ∧ mn (a % b) 1 ≤ 1 := by unfold mn; split <;> omega
  unfold fixed_floorCeil_int64_s94 fixed_divide_1
  rw [if_pos (by omega), if_pos (by omega)]
  by_cases h : Int.tmod a b < 0
  · obtain ⟨e1, e2⟩ := t1 h
    have e3 : w_i64 (Int.tdiv a b) = Int.tdiv a b := w64 (by omega) (by omega)
    have e4 : w_i64 (Int.tdiv a b - 1) = a / b := by rw [e1]; exact w64 (by omega) (by omega)
    have e5 : w_i64 (Int.tmod a b + b) = a % b := by rw [e2]; exact w64 (by omega) (by omega)
    simp only [h, decide_true, if_true, Option.bind_some, e3, e4, e5]
    rw [w64 (by omega) (by omega), ← hc]
  · obtain ⟨e1, e2⟩ := t2 h
    have e3 : w_i64 (Int.tdiv a b) = a / b := by rw [e1]; exact w64 (by omega) (by omega)
    have h' : ¬ a % b < 0 := by omega
    simp only [e2, h', decide_false, Bool.false_eq_true, if_false, Option.bind_some, e3]
    rw [w64 (by omega) (by omega), ← hc]
theorem divide_pos {a b : Int} (hb : 0 < b) (ha1 : -4611686018427387904 ≤ a) (ha2 : a ≤ 4611686018427387904) (hb2 : b ≤ 4611686018427387904) : fixed_divide a b = some (a / b, cdiv a b) := by
  unfold fixed_divide
  rw [if_neg (by simp; omega)]
  simp only [Option.bind_some, floorCeil_eq hb ha1 ha2 hb2]
def Wid (x : Int) : Prop := -2147483648 ≤ x ∧ x ≤ 2147483648
theorem prod_bound {x y A B : Int} (hx : -A ≤ x ∧ x ≤ A) (hy : -B ≤ y ∧ y ≤ B) : -(A * B) ≤ x * y ∧ x * y ≤ A * B := by
  have hA : 0 ≤ A := by omega
  have hB : 0 ≤ B := by omega
  have h1 : x.natAbs * y.natAbs ≤ A.natAbs * B.natAbs := Nat.mul_le_mul (by omega) (by omega)
  have h2 : ((x * y).natAbs : Int) ≤ A * B := by
    rw [Int.natAbs_mul]
    have : ((A.natAbs * B.natAbs : Nat) : Int) = A * B := by
      rw [Int.natCast_mul, Int.natAbs_of_nonneg hA, Int.natAbs_of_nonneg hB]
    omega
  omega
theorem mul_eq {x y : Int} (hx : Wid x) (hy : Wid y) : fixed_Mul x y = some (x * y / 65536, cdiv (x * y) 65536) := by
  have := prod_bound (A := 2147483648) (B := 2147483648) hx hy
  unfold fixed_Mul
  rw [w64 (by omega) (by omega), divide_pos (by omega) (by omega) (by omega) (by omega)]
  rfl
def Ent : TInterval := ⟨-2147483648, 2147483648⟩
def Fin (a : TInterval) : Prop := -2147483648 < a.Lo ∧ a.Lo ≤ a.Hi ∧ a.Hi < 2147483648
def Ok (a : TInterval) : Prop := a = Ent ∨ Fin a
def nw (x y : Int) : TInterval := if x ≤ -2147483648 ∨ y ≥ 2147483648 ∨ x ≥ 2147483648 ∨ y ≤ -2147483648 then Ent else ⟨x, y⟩
theorem Fin.wlo {a : TInterval} (h : Fin a) : Wid a.Lo := by unfold Fin at h; unfold Wid; omega
theorem Fin.whi {a : TInterval} (h : Fin a) : Wid a.Hi := by unfold Fin at h; unfold Wid; omega
theorem isEnt {a : TInterval} : interval_IsEntire a = some (decide (a = Ent)) := by
  simp only [interval_IsEntire, interval_Entire, Option.bind_some, Option.some.injEq]
  obtain ⟨l, h⟩ := a
  simp only [Ent, TInterval.mk.injEq, Bool.decide_and, Bool.and_true]
  rfl
theorem Fin.ne {a : TInterval} (h : Fin a) : decide (a = Ent) = false := by
  apply decide_eq_false
  rintro rfl
  simp [Fin, Ent] at h
theorem isEnt_fin {a : TInterval} (h : Fin a) : interval_IsEntire a = some false := by rw [isEnt, h.ne]
theorem new_eq (x y : Int) : interval_New x y = some (nw x y) := by
  unfold interval_New nw interval_Entire
  simp only [Option.bind_some]
  by_cases h : x ≤ -2147483648 ∨ y ≥ 2147483648 ∨ x ≥ 2147483648 ∨ y ≤ -2147483648
  · rw [if_pos h, if_pos (by simp; omega)]; rfl
  · rw [if_neg h, if_neg (by simp; omega)]
theorem nw_fin {x y : Int} (h : Fin ⟨x, y⟩) : nw x y = ⟨x, y⟩ := by
  unfold Fin at h
  unfold nw
  simp only at h
  rw [if_neg (by omega)]
theorem add_fin {a b : TInterval} (ha : Fin a) (hb : Fin b) : interval_Add a b = some (nw (a.Lo + b.Lo) (a.Hi + b.Hi)) := by
  unfold interval_Add
  rw [isEnt_fin ha, isEnt_fin hb]
  unfold Fin at ha hb
  simp only [Option.bind_some, beq_self_eq_true, if_true, Bool.or_self, Bool.false_eq_true, if_false, new_eq]
  rw [w64 (by omega) (by omega), w64 (by omega) (by omega)]
theorem Ok.wlo {a : TInterval} (h : Ok a) : Wid a.Lo := by
  rcases h with rfl | h
  · simp [Ent, Wid]
  · exact h.wlo
theorem Ok.whi {a : TInterval} (h : Ok a) : Wid a.Hi := by
  rcases h with rfl | h
  · simp [Ent, Wid]
  · exact h.whi
theorem bT {α β : Type} {X : Option α} {v : α} {f : α → Option β} {r : Option β} (h : X = some v) (hf : f v = r) : X.bind f = r := by
  subst h
  exact hf
theorem gT {α β : Type} {c : Prop} [Decidable c] {X D : Option α} {v : α} {f : α → Option β} {r : Option β} (hc : c) (h : X = some v) (hf : f v = r) : (if c then X else D).bind f = r := by
  rw [if_pos hc]
  exact bT h hf
theorem gF {α β : Type} {c : Prop} [Decidable c] {X : Option α} {d : α} {f : α → Option β} {r : Option β} (hc : ¬ c) (hf : f d = r) : (if c then X else some d).bind f = r := by
  rw [if_neg hc]
  exact bT rfl hf
theorem iT {β : Type} {c : Prop} [Decidable c] {X Y : Option β} {r : Option β} (hc : c) (h : X = r) : (if c then X else Y) = r := by
  rw [if_pos hc]
  exact h
theorem iF {β : Type} {c : Prop} [Decidable c] {X Y : Option β} {r : Option β} (hc : ¬ c) (h : Y = r) : (if c then X else Y) = r := by
  rw [if_neg hc]
  exact h
theorem w64e {x y : Int} (e : x = y) (h1 : -9223372036854775808 ≤ y) (h2 : y ≤ 9223372036854775807) : w_i64 x = y := by
  rw [e]
  exact w64 h1 h2
theorem cmpR {x y : Int} (h : x ≤ y) (z : Int) : (z < 0 ∨ x * z ≤ y * z) ∧ (0 < z ∨ y * z ≤ x * z) := by
  constructor
  · rcases Int.lt_or_le z 0 with hz | hz
    · exact .inl hz
    · exact .inr (Int.mul_le_mul_of_nonneg_right h hz)
  · rcases Int.lt_or_le 0 z with hz | hz
    · exact .inl hz
    · exact .inr (Int.mul_le_mul_of_nonpos_right h hz)
theorem cmpL {x y : Int} (h : x ≤ y) (z : Int) : (z < 0 ∨ z * x ≤ z * y) ∧ (0 < z ∨ z * y ≤ z * x) := by
  have := cmpR h z
  rw [Int.mul_comm z x, Int.mul_comm z y]
  exact this
theorem mulR {x y z : Int} (h : x ≤ y) (hz : 0 ≤ z) : x * z ≤ y * z := Int.mul_le_mul_of_nonneg_right h hz
theorem mulL {x y z : Int} (h : x ≤ y) (hz : 0 ≤ z) : z * x ≤ z * y := Int.mul_le_mul_of_nonneg_left h hz
theorem mulLn {x y z : Int} (h : x ≤ y) (hz : z ≤ 0) : z * y ≤ z * x := Int.mul_le_mul_of_nonpos_left hz h
structure Hull (a b : TInterval) (l h : Int) : Prop where
  lo : l ≤ a.Lo * b.Lo ∧ l ≤ a.Lo * b.Hi ∧ l ≤ a.Hi * b.Lo ∧ l ≤ a.Hi * b.Hi
  hi : a.Lo * b.Lo ≤ h ∧ a.Lo * b.Hi ≤ h ∧ a.Hi * b.Lo ≤ h ∧ a.Hi * b.Hi ≤ h
  isl : l = a.Lo * b.Lo ∨ l = a.Lo * b.Hi ∨ l = a.Hi * b.Lo ∨ l = a.Hi * b.Hi
  ish : h = a.Lo * b.Lo ∨ h = a.Lo * b.Hi ∨ h = a.Hi * b.Lo ∨ h = a.Hi * b.Hi
theorem Hull.le {a b : TInterval} {l h : Int} (H : Hull a b l h) : l ≤ h := by
  have := H.lo; have := H.hi; omega
theorem Hull.mem {a b : TInterval} {l h : Int} (H : Hull a b l h) {p q : Int} (hp : a.Lo ≤ p ∧ p ≤ a.Hi) (hq : b.Lo ≤ q ∧ q ≤ b.Hi) : l ≤ p * q ∧ p * q ≤ h := by
  have h1 := H.lo; have h2 := H.hi
  have e1 := cmpR hp.1 q; have e2 := cmpR hp.2 q
  have f1 := cmpL hq.1 a.Lo; have f2 := cmpL hq.2 a.Lo; have f3 := cmpL hq.1 a.Hi; have f4 := cmpL hq.2 a.Hi
  constructor <;> omega
theorem side_eq (a : TInterval) : interval_side a = some (if a.Hi ≤ 0 then 0 else if a.Lo ≥ 0 then 2 else 1) := by
  unfold interval_side
  by_cases h : a.Hi ≤ 0 <;> by_cases h' : a.Lo ≥ 0 <;> simp [h, h']
theorem mn_div (x y : Int) : mn (x / 65536) (y / 65536) = mn x y / 65536 := by unfold mn; split <;> split <;> omega
theorem mx_cdiv (x y : Int) : mx (cdiv x 65536) (cdiv y 65536) = cdiv (mx x y) 65536 := by unfold mx cdiv; split <;> split <;> omega
theorem mul_fin {a b : TInterval} (ha : Fin a) (hb : Fin b) : ∃ l h, interval_Mul a b = some (nw (l / 65536) (cdiv h 65536)) ∧ Hull a b l h := by
  have h1 := ha.2.1
  have h2 := hb.2.1
  have r1 := cmpR h1 b.Lo; have r2 := cmpR h1 b.Hi
  have r3 := cmpL h2 a.Lo; have r4 := cmpL h2 a.Hi
  unfold interval_Mul
  rw [isEnt_fin ha, isEnt_fin hb]
  simp only [Option.bind_some, beq_self_eq_true, if_true, Bool.or_self, Bool.false_eq_true, if_false, side_eq, interval_hh, interval_ll, interval_hl, interval_lh, mul_eq ha.wlo hb.wlo, mul_eq ha.wlo hb.whi, mul_eq ha.whi hb.wlo, mul_eq ha.whi hb.whi, new_eq, mn_div, mx_cdiv]
  by_cases s1 : a.Hi ≤ 0
  · by_cases s2 : b.Hi ≤ 0
    · simp only [s1, s2, if_true]
      refine ⟨a.Hi * b.Hi, a.Lo * b.Lo, rfl, ⟨?_, ?_, ?_, ?_⟩⟩ <;> omega
    · by_cases s3 : b.Lo ≥ 0
      · simp only [s1, s2, s3, if_true, if_false]
        refine ⟨a.Lo * b.Hi, a.Hi * b.Lo, rfl, ⟨?_, ?_, ?_, ?_⟩⟩ <;> omega
      · simp only [s1, s2, s3, if_true, if_false]
        refine ⟨a.Lo * b.Hi, a.Lo * b.Lo, rfl, ⟨?_, ?_, ?_, ?_⟩⟩ <;> omega
  · by_cases s4 : a.Lo ≥ 0
    · by_cases s2 : b.Hi ≤ 0
      · simp only [s1, s4, s2, if_true, if_false]
        refine ⟨a.Hi * b.Lo, a.Lo * b.Hi, rfl, ⟨?_, ?_, ?_, ?_⟩⟩ <;> omega
      · by_cases s3 : b.Lo ≥ 0
        · simp only [s1, s4, s2, s3, if_true, if_false]
          refine ⟨a.Lo * b.Lo, a.Hi * b.Hi, rfl, ⟨?_, ?_, ?_, ?_⟩⟩ <;> omega
        · simp only [s1, s4, s2, s3, if_true, if_false]
          refine ⟨a.Hi * b.Lo, a.Hi * b.Hi, rfl, ⟨?_, ?_, ?_, ?_⟩⟩ <;> omega
    · by_cases s2 : b.Hi ≤ 0
      · simp only [s1, s4, s2, if_true, if_false]
        refine ⟨a.Hi * b.Lo, a.Lo * b.Lo, rfl, ⟨?_, ?_, ?_, ?_⟩⟩ <;> omega
      · by_cases s3 : b.Lo ≥ 0
        · simp only [s1, s4, s2, s3, if_true, if_false]
          refine ⟨a.Lo * b.Hi, a.Hi * b.Hi, rfl, ⟨?_, ?_, ?_, ?_⟩⟩ <;> omega
        · simp only [s1, s4, s2, s3, if_true, if_false]
          refine ⟨mn (a.Lo * b.Hi) (a.Hi * b.Lo), mx (a.Lo * b.Lo) (a.Hi * b.Hi), rfl, ?_⟩
          unfold mn mx
          split <;> split <;> refine ⟨?_, ?_, ?_, ?_⟩ <;> omega
structure DHull (a b : TInterval) (x y u v : Int) : Prop where
  ypos : 0 < y
  vpos : 0 < v
  x_ : x = a.Lo ∨ x = a.Hi
  y_ : y = b.Lo ∨ y = b.Hi
  u_ : u = a.Lo ∨ u = a.Hi
  v_ : v = b.Lo ∨ v = b.Hi
  lo : x * b.Lo ≤ a.Lo * y ∧ x * b.Hi ≤ a.Lo * y ∧ x * b.Lo ≤ a.Hi * y ∧ x * b.Hi ≤ a.Hi * y
  hi : a.Lo * v ≤ u * b.Lo ∧ a.Lo * v ≤ u * b.Hi ∧ a.Hi * v ≤ u * b.Lo ∧ a.Hi * v ≤ u * b.Hi
theorem DHull.mem {a b : TInterval} {x y u v : Int} (H : DHull a b x y u v) {p q : Int} (hp : a.Lo ≤ p ∧ p ≤ a.Hi) (hq : b.Lo ≤ q ∧ q ≤ b.Hi) : x * q ≤ p * y ∧ p * v ≤ u * q := by
  have h1 := H.lo; have h2 := H.hi
  have e1 := cmpL hq.1 x; have e2 := cmpL hq.2 x; have e3 := cmpL hq.1 u; have e4 := cmpL hq.2 u
  have f1 := mulR hp.1 (Int.le_of_lt H.ypos); have f2 := mulR hp.2 (Int.le_of_lt H.vpos)
  constructor <;> omega
theorem frac_mono {a b c d : Int} (hb : 0 < b) (hd : 0 < d) (h : a * d ≤ c * b) : a * 65536 / b ≤ c * 65536 / d := by
  rw [le_fdiv hd]
  have h1 := (le_fdiv (a := a * 65536) (c := a * 65536 / b) hb).1 (Int.le_refl _)
  have h2 : (a * 65536 / b * d) * b ≤ (c * 65536) * b := by
    have e1 : (a * 65536 / b * d) * b = (a * 65536 / b * b) * d := by grind
    have e2 : (a * 65536 / b * b) * d ≤ (a * 65536) * d := mulR h1 (by omega)
    have e3 : (a * 65536) * d = (a * d) * 65536 := by grind
    have e4 : (c * 65536) * b = (c * b) * 65536 := by grind
    omega
  exact Int.le_of_mul_le_mul_right h2 hb
theorem cfrac_mono {a b c d : Int} (hb : 0 < b) (hd : 0 < d) (h : a * d ≤ c * b) : cdiv (a * 65536) b ≤ cdiv (c * 65536) d := by
  rw [cdiv_le hb]
  have h1 := (cdiv_le (a := c * 65536) (c := cdiv (c * 65536) d) hd).1 (Int.le_refl _)
  have h2 : (a * 65536) * d ≤ (cdiv (c * 65536) d * b) * d := by
    have e1 : (cdiv (c * 65536) d * b) * d = (cdiv (c * 65536) d * d) * b := by grind
    have e2 : (c * 65536) * b ≤ (cdiv (c * 65536) d * d) * b := mulR h1 (by omega)
    have e3 : (a * 65536) * d = (a * d) * 65536 := by grind
    have e4 : (c * 65536) * b = (c * b) * 65536 := by grind
    omega
  exact Int.le_of_mul_le_mul_right h2 hd
instance (a : TInterval) : Decidable (Fin a) := by unfold Fin; infer_instance
instance (a : TInterval) : Decidable (Ok a) := by unfold Ok; infer_instance
theorem fd (x c : Int) (h : 0 < c) : Int.fdiv x c = x / c := Int.fdiv_eq_ediv_of_nonneg _ (Int.le_of_lt h)
theorem sq_lt {s t : Int} (hs : 0 ≤ s) (ht : 0 ≤ t) (h : s * s < t * t) : s < t := by
  rcases Int.lt_or_le s t with h1 | h1
  · exact h1
  · have := Int.mul_le_mul h1 h1 ht hs
    omega
structure Root (n s t : Int) : Prop where
  s0 : 0 ≤ s
  le : s * s ≤ n
  lt : n < (s + 1) * (s + 1)
  t_ : t = if s * s < n then s + 1 else s
theorem Root.up {n s t : Int} (h : Root n s t) : n ≤ t * t := by
  have h1 := h.le; have h2 := h.lt; have h3 := h.t_
  split at h3 <;> subst h3 <;> omega
theorem Root.st {n s t : Int} (h : Root n s t) : s ≤ t ∧ t ≤ s + 1 := by
  have h3 := h.t_
  split at h3 <;> omega
theorem Root.low {n s t : Int} (h : Root n s t) : t = 0 ∨ (t - 1) * (t - 1) < n := by
  have h1 := h.le; have h3 := h.t_; have h0 := h.s0
  split at h3
  · right
    have : t - 1 = s := by omega
    rw [this]
    assumption
  · subst h3
    rcases Int.lt_or_le 0 t with h4 | h4
    · right
      have e : (t - 1) * (t - 1) = t * t - 2 * t + 1 := by grind
      omega
    · left; omega
theorem subset_of {a b : TInterval} (h : b.Lo ≤ a.Lo ∧ a.Hi ≤ b.Hi) : interval_Subset a b = some true := by
  unfold interval_Subset
  rw [decide_eq_true h.1, decide_eq_true h.2]
  rfl
theorem Ok.b {a : TInterval} (h : Ok a) : -2147483648 ≤ a.Lo ∧ a.Lo ≤ a.Hi ∧ a.Hi ≤ 2147483648 ∧ (a ≠ Ent → -2147483648 < a.Lo ∧ a.Hi < 2147483648) := by
  rcases h with rfl | h
  · simp [Ent]
  · unfold Fin at h
    exact ⟨by omega, by omega, by omega, fun _ => by omega⟩
theorem Ok.ent_of {a : TInterval} (h : Ok a) (h1 : a.Lo ≤ -2147483648 ∨ 2147483648 ≤ a.Hi) : a = Ent := by
  rcases h with h | h
  · exact h
  · unfold Fin at h; omega
theorem mnl (x y : Int) : mn x y ≤ x ∧ mn x y ≤ y ∧ (mn x y = x ∨ mn x y = y) := by unfold mn; split <;> omega
theorem mxl (x y : Int) : x ≤ mx x y ∧ y ≤ mx x y ∧ (mx x y = x ∨ mx x y = y) := by unfold mx; split <;> omega
theorem fvalid_eq (x : Int) : fixed_Valid x = some (decide (-2147483648 < x ∧ x < 2147483648)) := by unfold fixed_Valid; rw [Bool.decide_and]
theorem Fin.le {a : TInterval} (h : Fin a) : a.Lo ≤ a.Hi := h.2.1
def Le (a b : TInterval) : Prop := b.Lo ≤ a.Lo ∧ a.Hi ≤ b.Hi
theorem Le.ent {a b : TInterval} (h : Le a b) (hb : Ok b) (e : a = Ent) : b = Ent := by
  subst e
  exact hb.ent_of (.inl h.1)
theorem Le.fin {a b : TInterval} (h : Le a b) (ha : Ok a) (hb : Fin b) : Fin a := by
  rcases ha with rfl | ha
  · unfold Le Ent at h; unfold Fin at hb; simp only at h; omega
  · exact ha
theorem Hull.mono {a b a' b' : TInterval} {l h l' h' : Int} (fa : Fin a) (fb : Fin b) (H : Hull a b l h) (H' : Hull a' b' l' h') (h1 : Le a a') (h2 : Le b b') : l' ≤ l ∧ h ≤ h' := by
  unfold Le at h1 h2
  have la := fa.le; have lb := fb.le
  have i := H.isl; have j := H.ish
  have m1 := H'.mem (p := a.Lo) (q := b.Lo) (by omega) (by omega)
  have m2 := H'.mem (p := a.Lo) (q := b.Hi) (by omega) (by omega)
  have m3 := H'.mem (p := a.Hi) (q := b.Lo) (by omega) (by omega)
  have m4 := H'.mem (p := a.Hi) (q := b.Hi) (by omega) (by omega)
  omega
theorem DHull.mono {a b a' b' : TInterval} {x y u v x' y' u' v' : Int} (la : a.Lo ≤ a.Hi) (lb : b.Lo ≤ b.Hi) (H : DHull a b x y u v) (H' : DHull a' b' x' y' u' v') (h1 : Le a a') (h2 : Le b b') : x' * 65536 / y' ≤ x * 65536 / y ∧ cdiv (u * 65536) v ≤ cdiv (u' * 65536) v' := by
  unfold Le at h1 h2
  have m1 := H'.mem (p := x) (q := y) (by have := H.x_; omega) (by have := H.y_; omega)
  have m2 := H'.mem (p := u) (q := v) (by have := H.u_; omega) (by have := H.v_; omega)
  exact ⟨frac_mono H'.ypos H.ypos m1.1, cfrac_mono H.vpos H'.vpos m2.2⟩
theorem Root.mono {n s t n' s' t' : Int} (h : Root n s t) (h' : Root n' s' t') (hn : n ≤ n') : s ≤ s' ∧ t ≤ t' := by
  constructor
  · have := sq_lt h.s0 (by have := h'.s0; omega) (Int.lt_of_le_of_lt (Int.le_trans h.le hn) h'.lt)
    omega
  · have h1 := h'.up
    have h2 := h'.s0
    have h3 := h'.st
    rcases h.low with h4 | h4
    · omega
    · rcases Int.lt_or_le (t - 1) 0 with h5 | h5
      · omega
      · have := sq_lt h5 (by omega : 0 ≤ t') (by omega)
        omega
theorem refnum (x : Int) : armillaryref02_Number x = some (decide (-2147483648 < x ∧ x < 2147483648)) := by
  unfold armillaryref02_Number
  rw [Bool.decide_and]
theorem refnew (x y : Int) : armillaryref02_New x y = some (if (-2147483648 < x ∧ x < 2147483648) ∧ (-2147483648 < y ∧ y < 2147483648) then ⟨x, y⟩ else Ent) := by
  unfold armillaryref02_New
  by_cases h1 : -2147483648 < x ∧ x < 2147483648
  · refine bT ((refnum x).trans (congrArg some (decide_eq_true h1))) ?_
    by_cases h2 : -2147483648 < y ∧ y < 2147483648
    · refine gT rfl ((refnum y).trans (congrArg some (decide_eq_true h2))) (iF Bool.false_ne_true ?_)
      rw [if_pos ⟨h1, h2⟩]
    · refine gT rfl ((refnum y).trans (congrArg some (decide_eq_false h2))) (iT rfl ?_)
      rw [if_neg (fun h => h2 h.2)]
      rfl
  · refine bT ((refnum x).trans (congrArg some (decide_eq_false h1))) (gF Bool.false_ne_true (iT rfl ?_))
    rw [if_neg (fun h => h1 h.1)]
    rfl
theorem refnew_nw {x y : Int} (h : x ≤ y) : armillaryref02_New x y = some (nw x y) := by
  rw [refnew]
  congr 1
  unfold nw
  by_cases g : (-2147483648 < x ∧ x < 2147483648) ∧ (-2147483648 < y ∧ y < 2147483648)
  · rw [if_pos g, if_neg (by omega)]
  · rw [if_neg g, if_pos (by omega)]
def fq (n q : Int) : Int := if 0 < q then n / q else (-n) / (-q)
end Go.Proofs.YtpmgpcklieincaaGreatDoor
set_option linter.unusedVariables false
set_option maxRecDepth 10000
set_option linter.unusedSimpArgs false
namespace Go.Proofs.YtpmgpcklieincaaGreatDoor
theorem w0 : w_i64 0 = 0 := by decide
theorem w1 : w_i64 1 = 1 := by decide
theorem w2 : w_i64 2 = 2 := by decide
theorem w3 : w_i64 3 = 3 := by decide
theorem w4 : w_i64 4 = 4 := by decide
theorem wm1 : w_i64 (-1) = -1 := by decide
def tp (c : TInterval) : TTape := ⟨1, [⟨1, 0, 0, c⟩], [0]⟩
theorem compile_drift (c : TInterval) (n : Nat) : tape_Compile (n + 10) ⟨[⟨#[120]⟩], [[⟨1, 0, c⟩]]⟩ = some (tp c) := by
  kernel_rfl
theorem eval_drift (c : TInterval) (b : List TInterval) (t : TInterval) (n : Nat) : tape_Eval (n + 10) (tp c) b t = some [c] := by
  kernel_rfl
theorem zipI {x f h m r : TInterval} (n : Nat) (h1 : interval_Mul h f = some m) (h2 : interval_Add x m = some r) : api_Interval_112_s129 (n + 10) [x] [f] h = some [r] := by
  have e : api_Interval_112_s129 (n + 10) [x] [f] h = ((picard_Image_1_m x f h).bind fun t => some [t]).bind fun j => some j := by kernel_rfl
  rw [e, picard_Image_1_m, h1, Option.bind_some, h2, Option.bind_some, Option.bind_some, Option.bind_some]
theorem zipH {x f : TInterval} (n : Nat) : api_Interval_112_s114 (n + 10) [x] [f] = some [⟨mn x.Lo f.Lo, mx x.Hi f.Hi⟩] := by
  kernel_rfl
theorem bdd {x : TInterval} (n : Nat) (h : Fin x) : picard_bounded (n + 10) [x] = some true := by
  simp [picard_bounded, api_Interval_84_s21, api_Interval_103_s21, api_Interval_103_s21.l6, isEnt_fin h, w1]
theorem nbd {x : TInterval} (n : Nat) (h : Fin x) : api_Interval_84_s21 (n + 10) [x] = some false := by
  simp [api_Interval_84_s21, api_Interval_103_s21, api_Interval_103_s21.l6, isEnt_fin h, w1]
theorem infl {x : TInterval} (n : Nat) (h1 : -1000000000 ≤ x.Lo) (h2 : x.Lo ≤ x.Hi) (h3 : x.Hi ≤ 1000000000) : ∃ u, 0 < u ∧ u ≤ 125000001 ∧ picard_inflate (n + 10) [x] = some [⟨x.Lo - u, x.Hi + u⟩] := by
  have e1 : w_i64 (x.Hi - x.Lo) = x.Hi - x.Lo := w64 (by omega) (by omega)
  have e2 : Int.tdiv (x.Hi - x.Lo) 16 = (x.Hi - x.Lo) / 16 := Int.tdiv_eq_ediv_of_nonneg (by omega)
  have e3 : w_i64 ((x.Hi - x.Lo) / 16) = (x.Hi - x.Lo) / 16 := w64 (by omega) (by omega)
  have e4 : w_i64 ((x.Hi - x.Lo) / 16 + 1) = (x.Hi - x.Lo) / 16 + 1 := w64 (by omega) (by omega)
  have e5 : w_i64 (x.Lo - ((x.Hi - x.Lo) / 16 + 1)) = x.Lo - ((x.Hi - x.Lo) / 16 + 1) := w64 (by omega) (by omega)
  have e6 : w_i64 (x.Hi + ((x.Hi - x.Lo) / 16 + 1)) = x.Hi + ((x.Hi - x.Lo) / 16 + 1) := w64 (by omega) (by omega)
  have e7 : nw (x.Lo - ((x.Hi - x.Lo) / 16 + 1)) (x.Hi + ((x.Hi - x.Lo) / 16 + 1)) = ⟨x.Lo - ((x.Hi - x.Lo) / 16 + 1), x.Hi + ((x.Hi - x.Lo) / 16 + 1)⟩ := nw_fin (by unfold Fin; dsimp only; omega)
  refine ⟨(x.Hi - x.Lo) / 16 + 1, by omega, by omega, ?_⟩
  have e : picard_inflate (n + 10) [x] = ((interval_Width x).bind fun t16 => (interval_New (w_i64 (x.Lo - (w_i64 ((w_i64 (Int.tdiv t16 16)) + 1)))) (w_i64 (x.Hi + (w_i64 ((w_i64 (Int.tdiv t16 16)) + 1))))).bind fun t18 => some [t18]).bind fun j => some j := by kernel_rfl
  rw [e, interval_Width, Option.bind_some, e1, e2, e3, e4, e5, e6, new_eq, e7, Option.bind_some, Option.bind_some]
theorem bsub {a b : TInterval} (n : Nat) (h : b.Lo ≤ a.Lo ∧ a.Hi ≤ b.Hi) : box_Subset n [a] [b] = some true := by
  simp [box_Subset, box_Subset.l6, subset_of h]
end Go.Proofs.YtpmgpcklieincaaGreatDoor
set_option linter.unusedVariables false
set_option linter.unusedSimpArgs false
set_option maxRecDepth 10000
namespace Go.Proofs.YtpmgpcklieincaaGreatDoor
theorem cdiv_mul (k : Int) : cdiv (k * 65536) 65536 = k := by unfold cdiv; omega
theorem mul_exact {a b : TInterval} {l h : Int} (ha : Fin a) (hb : Fin b) (hl : -2147483648 < l) (hlh : l ≤ h) (hh : h < 2147483648)
    (h1 : l * 65536 ≤ a.Lo * b.Lo ∧ l * 65536 ≤ a.Lo * b.Hi ∧ l * 65536 ≤ a.Hi * b.Lo ∧ l * 65536 ≤ a.Hi * b.Hi) (h2 : l * 65536 = a.Lo * b.Lo ∨ l * 65536 = a.Lo * b.Hi ∨ l * 65536 = a.Hi * b.Lo ∨ l * 65536 = a.Hi * b.Hi)
    (h3 : a.Lo * b.Lo ≤ h * 65536 ∧ a.Lo * b.Hi ≤ h * 65536 ∧ a.Hi * b.Lo ≤ h * 65536 ∧ a.Hi * b.Hi ≤ h * 65536) (h4 : h * 65536 = a.Lo * b.Lo ∨ h * 65536 = a.Lo * b.Hi ∨ h * 65536 = a.Hi * b.Lo ∨ h * 65536 = a.Hi * b.Hi) :
    interval_Mul a b = some ⟨l, h⟩ := by
  obtain ⟨x, y, e, H⟩ := mul_fin ha hb
  have ex : x = l * 65536 := by have := H.lo; have := H.isl; omega
  have ey : y = h * 65536 := by have := H.hi; have := H.ish; omega
  rw [e, ex, ey, cdiv_mul, Int.mul_ediv_cancel _ (by decide), nw_fin ⟨hl, hlh, hh⟩]
theorem mul_0 {p : TInterval} (hp : Fin p) : interval_Mul ⟨0, 0⟩ p = some ⟨0, 0⟩ := by
  refine mul_exact (by unfold Fin; decide) hp (by decide) (by decide) (by decide) ?_ ?_ ?_ ?_ <;> simp
theorem mnx (δ : Int) : mn 0 δ ≤ 0 ∧ mn 0 δ ≤ δ ∧ (mn 0 δ = 0 ∨ mn 0 δ = δ) ∧ 0 ≤ mx 0 δ ∧ δ ≤ mx 0 δ ∧ (mx 0 δ = 0 ∨ mx 0 δ = δ) := by
  unfold mn mx; split <;> split <;> omega
structure Stp (x v H δ : Int) : Prop where
  bx : -8388608 ≤ x ∧ x ≤ 8388608
  bv : -524288 ≤ v ∧ v ≤ 524288
  bH : 0 < H ∧ H ≤ 16384
  d : H * v = δ * 65536
theorem Stp.b {x v H δ : Int} (s : Stp x v H δ) : -131072 ≤ δ ∧ δ ≤ 131072 := by
  have h1 := prod_bound (x := H) (y := v) (A := 16384) (B := 524288) (by have := s.bH; omega) s.bv
  have := s.d
  omega
theorem Stp.v' {x v H δ : Int} (s : Stp x v H δ) : Fin ⟨v, v⟩ := by have := s.bv; unfold Fin; dsimp only; omega
theorem Stp.h' {x v H δ : Int} (s : Stp x v H δ) : Fin ⟨0, H⟩ := by have := s.bH; unfold Fin; dsimp only; omega
theorem Stp.hh {x v H δ : Int} (s : Stp x v H δ) : Fin ⟨H, H⟩ := by have := s.bH; unfold Fin; dsimp only; omega
def way (x δ : Int) : TInterval := ⟨x + mn 0 δ, x + mx 0 δ⟩
theorem Stp.w {x v H δ : Int} (s : Stp x v H δ) : Fin (way x δ) := by
  have := s.bx; have := s.b; have := mnx δ; unfold way Fin; dsimp only; omega
theorem Stp.m1 {x v H δ : Int} (s : Stp x v H δ) : interval_Mul ⟨0, H⟩ ⟨v, v⟩ = some ⟨mn 0 δ, mx 0 δ⟩ := by
  have := s.b; have := mnx δ; have := s.d
  refine mul_exact s.h' s.v' (by omega) (by omega) (by omega) ?_ ?_ ?_ ?_ <;> dsimp only <;> rw [Int.zero_mul] <;> omega
theorem Stp.m2 {x v H δ : Int} (s : Stp x v H δ) : interval_Mul ⟨v, v⟩ ⟨0, H⟩ = some ⟨mn 0 δ, mx 0 δ⟩ := by
  have := s.b; have := mnx δ; have := s.d
  refine mul_exact s.v' s.h' (by omega) (by omega) (by omega) ?_ ?_ ?_ ?_ <;> dsimp only <;> rw [Int.mul_zero, Int.mul_comm v H] <;> omega
theorem Stp.m3 {x v H δ : Int} (s : Stp x v H δ) : interval_Mul ⟨v, v⟩ ⟨H, H⟩ = some ⟨δ, δ⟩ := by
  have := s.b; have := s.d
  refine mul_exact s.v' s.hh (by omega) (by omega) (by omega) ?_ ?_ ?_ ?_ <;> dsimp only <;> rw [Int.mul_comm v H] <;> omega
theorem add_ex {a b : TInterval} (ha : Fin a) (hb : Fin b) (h : Fin ⟨a.Lo + b.Lo, a.Hi + b.Hi⟩) : interval_Add a b = some ⟨a.Lo + b.Lo, a.Hi + b.Hi⟩ := by rw [add_fin ha hb, nw_fin h]
theorem Stp.xf {x v H δ : Int} (s : Stp x v H δ) : Fin ⟨x, x⟩ := by have := s.bx; unfold Fin; dsimp only; omega
theorem Stp.df {x v H δ : Int} (s : Stp x v H δ) : Fin ⟨mn 0 δ, mx 0 δ⟩ := by have := s.b; have := mnx δ; unfold Fin; dsimp only; omega
theorem image_drift {x v H δ : Int} (s : Stp x v H δ) (b : List TInterval) (T : Int) (n : Nat) : picard_Image (n + 10) (tp ⟨v, v⟩) [⟨x, x⟩] b ⟨T, H⟩ = some [way x δ] := by
  have e1 : nw 0 H = ⟨0, H⟩ := nw_fin s.h'
  have e2 : interval_Add ⟨x, x⟩ ⟨mn 0 δ, mx 0 δ⟩ = some (way x δ) := add_ex s.xf s.df s.w
  unfold picard_Image
  refine bT (new_eq _ _) (bT (new_eq _ _) (bT (eval_drift ⟨v, v⟩ b _ n) ?_))
  dsimp only
  rw [e1]
  exact bT (zipI n s.m1 e2) rfl
theorem cand_drift {x v H δ : Int} (s : Stp x v H δ) (T : Int) (n : Nat) : ∃ u, 0 < u ∧ picard_candidates_1_m (n + 10) [⟨x, x⟩] (tp ⟨v, v⟩) ⟨T, H⟩ = some ([⟨(way x δ).Lo - u, (way x δ).Hi + u⟩], [way x δ]) := by
  have hb := s.b; have hm := mnx δ; have hx := s.bx
  have ez : (⟨mn x (way x δ).Lo, mx x (way x δ).Hi⟩ : TInterval) = way x δ := by
    have h1 := mnl x (way x δ).Lo; have h2 := mxl x (way x δ).Hi
    have h3 : (way x δ).Lo ≤ x ∧ x ≤ (way x δ).Hi := by unfold way; dsimp only; omega
    have h4 : mn x (way x δ).Lo = (way x δ).Lo := by omega
    have h5 : mx x (way x δ).Hi = (way x δ).Hi := by omega
    rw [h4, h5]
  obtain ⟨u, u0, u1, hu⟩ := infl (x := way x δ) n (by unfold way; dsimp only; omega) s.w.le (by unfold way; dsimp only; omega)
  have hB : Fin ⟨(way x δ).Lo - u, (way x δ).Hi + u⟩ := by unfold way Fin; dsimp only; omega
  refine ⟨u, u0, ?_⟩
  unfold picard_candidates_1_m
  refine bT (image_drift s _ T n) (bT (zipH n) ?_)
  dsimp only
  rw [ez]
  refine bT (bdd n s.w) (iF (by decide) (bT hu (bT (bdd n hB) (iF (by decide) (bT (image_drift s _ T n) (bT (bdd n s.w) (iT rfl rfl)))))))
theorem encl_drift {x v H δ : Int} (s : Stp x v H δ) (T : Int) (n : Nat) : picard_Enclose (n + 10) (tp ⟨v, v⟩) [⟨x, x⟩] ⟨T, H⟩ = some ([way x δ], true) := by
  obtain ⟨u, u0, hu⟩ := cand_drift s T n
  unfold picard_Enclose
  refine bT hu (bT (bsub (n + 10) (by dsimp only; omega)) (iT rfl ?_))
  unfold picard_Enclose.l7
  exact iT (by simp) rfl
theorem ratio1 {v : Int} (h1 : -524288 ≤ v) (h2 : v ≤ 524288) : series_intervals_2 ⟨v, v⟩ 1 = some ⟨v, v⟩ := by
  have hf : Fin ⟨v, v⟩ := by unfold Fin; dsimp only; omega
  have e0 : w_i64 (v * 1) = v := by rw [Int.mul_one]; exact w64 (by omega) (by omega)
  have e1 : fixed_MulRatio v 1 1 = some (v, v, 0) := by
    unfold fixed_MulRatio
    refine iF (by decide) ?_
    rw [e0, divide_pos (by decide) (by omega) (by omega) (by decide)]
    have : cdiv v 1 = v := by unfold cdiv; omega
    rw [this]; simp
  unfold series_intervals_2 interval_MulRatio
  refine bT (bT (isEnt_fin hf) (iF (by decide) (bT rfl (bT e1 (bT rfl (bT e1 (bT (new_eq _ _) rfl))))))) ?_
  dsimp only
  rw [nw_fin hf]
abbrev z0 : TInterval := ⟨0, 0⟩
theorem c50 (k0 : Nat) (c : TInterval) (a2 : List TInterval) (t : TInterval) (a4 : Int) (j6 x11 : List (List TInterval)) (x12 : List (List TInterval)) (x13 : Int) (n : Nat) :
    api_Interval_expand_m.l50 k0 (tp c) a2 t a4 j6 x11 x12 x13 (n + 10) [[]] 0 = some [[c]] ∧ api_Interval_expand_m.l50 k0 (tp c) a2 t a4 j6 x11 x12 x13 (n + 10) [[c]] 0 = some [[c, z0]] ∧
    api_Interval_expand_m.l50 k0 (tp c) a2 t a4 j6 x11 x12 x13 (n + 10) [[c, z0]] 0 = some [[c, z0, z0]] ∧ api_Interval_expand_m.l50 k0 (tp c) a2 t a4 j6 x11 x12 x13 (n + 10) [[c, z0, z0]] 0 = some [[c, z0, z0, z0]] :=
  ⟨by kernel_rfl, by kernel_rfl, by kernel_rfl, by kernel_rfl⟩
theorem c26 (k0 : Nat) {c : TInterval} (hc : series_intervals_2 c 1 = some c) (x : TInterval) (a2 : List TInterval) (t : TInterval) (a4 : Int) (j6 x11 : List (List TInterval)) (x12 : List (List TInterval)) (n : Nat) :
    api_Interval_expand_m.l26 k0 (tp c) a2 t a4 j6 x11 x12 0 [[c]] (n + 10) [[x]] 0 = some ([[x, c]], [[c]]) ∧ api_Interval_expand_m.l26 k0 (tp c) a2 t a4 j6 x11 x12 1 [[c, z0]] (n + 10) [[x, c]] 0 = some ([[x, c, z0]], [[c, z0]]) ∧
    api_Interval_expand_m.l26 k0 (tp c) a2 t a4 j6 x11 x12 2 [[c, z0, z0]] (n + 10) [[x, c, z0]] 0 = some ([[x, c, z0, z0]], [[c, z0, z0]]) ∧
    api_Interval_expand_m.l26 k0 (tp c) a2 t a4 j6 x11 x12 3 [[c, z0, z0, z0]] (n + 10) [[x, c, z0, z0]] 0 = some ([[x, c, z0, z0, z0]], [[c, z0, z0, z0]]) := by
  refine ⟨?_, by kernel_rfl, by kernel_rfl, by kernel_rfl⟩
  have e : api_Interval_expand_m.l26 k0 (tp c) a2 t a4 j6 x11 x12 0 [[c]] (n + 10) [[x]] 0 = (series_intervals_2 c 1).bind fun t41 => some ([[x, t41]], [[c]]) := by kernel_rfl
  rw [e, hc]; rfl
theorem l14_step {k0 : Nat} {a1 : TTape} {a2 : List TInterval} {a3 : TInterval} {a4 : Int} {j6 X Y Z X' : List (List TInterval)} {x y : Int} {k : Nat} {r : Option (List (List TInterval))} (h : x < a4) (hy : w_i64 (x + 1) = y)
    (h1 : api_Interval_expand_m.l50 k0 a1 a2 a3 a4 j6 X Y x k0 Y 0 = some Z) (h2 : api_Interval_expand_m.l26 k0 a1 a2 a3 a4 j6 X Y x Z k0 X 0 = some (X', Z)) (h3 : api_Interval_expand_m.l14 k0 a1 a2 a3 a4 j6 k X' Z y = r) :
    api_Interval_expand_m.l14 k0 a1 a2 a3 a4 j6 (k + 1) X Y x = r := by
  unfold api_Interval_expand_m.l14
  refine iT (by simpa using h) (bT (bT h1 h2) ?_)
  rw [hy]; exact h3
theorem l14_end {k0 : Nat} {a1 : TTape} {a2 : List TInterval} {a3 : TInterval} {a4 : Int} {j6 X Y : List (List TInterval)} {k : Nat} : api_Interval_expand_m.l14 k0 a1 a2 a3 a4 j6 (k + 1) X Y a4 = some X := by
  unfold api_Interval_expand_m.l14
  exact iF (by simp) rfl
theorem coef3 {c : TInterval} (hc : series_intervals_2 c 1 = some c) (x t : TInterval) (n : Nat) : series_Coefficients (n + 10) (tp c) [x] t 3 = some [[x, c, z0, z0]] := by
  unfold series_Coefficients
  refine bT ?_ rfl
  unfold api_Interval_expand_m
  refine iT (by simp [tp]) (iT (by simp [tp]) ?_)
  have e : api_Interval_expand_m.l73 (n + 10) (tp c) [x] t 3 (n + 10) (List.replicate (tp c).N.toNat []) 0 = some [[x]] := by kernel_rfl
  refine bT e (bT ?_ rfl)
  show api_Interval_expand_m.l14 (n + 10) (tp c) [x] t 3 [[x]] (n + 9 + 1) [[x]] [[]] 0 = some [[x, c, z0, z0]]
  exact l14_step (k := n + 9) (by decide) w1 (c50 _ c _ _ _ _ _ _ _ n).1 (c26 _ hc x _ _ _ _ _ _ n).1 (l14_step (k := n + 8) (by decide) w2 (c50 _ c _ _ _ _ _ _ _ n).2.1 (c26 _ hc x _ _ _ _ _ _ n).2.1
    (l14_step (k := n + 7) (by decide) w3 (c50 _ c _ _ _ _ _ _ _ n).2.2.1 (c26 _ hc x _ _ _ _ _ _ n).2.2.1 (l14_end (k := n + 6))))
theorem coef4 {c : TInterval} (hc : series_intervals_2 c 1 = some c) (x t : TInterval) (n : Nat) : series_Coefficients (n + 10) (tp c) [x] t 4 = some [[x, c, z0, z0, z0]] := by
  unfold series_Coefficients
  refine bT ?_ rfl
  unfold api_Interval_expand_m
  refine iT (by simp [tp]) (iT (by simp [tp]) ?_)
  have e : api_Interval_expand_m.l73 (n + 10) (tp c) [x] t 4 (n + 10) (List.replicate (tp c).N.toNat []) 0 = some [[x]] := by kernel_rfl
  refine bT e (bT ?_ rfl)
  show api_Interval_expand_m.l14 (n + 10) (tp c) [x] t 4 [[x]] (n + 9 + 1) [[x]] [[]] 0 = some [[x, c, z0, z0, z0]]
  exact l14_step (k := n + 9) (by decide) w1 (c50 _ c _ _ _ _ _ _ _ n).1 (c26 _ hc x _ _ _ _ _ _ n).1 (l14_step (k := n + 8) (by decide) w2 (c50 _ c _ _ _ _ _ _ _ n).2.1 (c26 _ hc x _ _ _ _ _ _ n).2.1
    (l14_step (k := n + 7) (by decide) w3 (c50 _ c _ _ _ _ _ _ _ n).2.2.1 (c26 _ hc x _ _ _ _ _ _ n).2.2.1 (l14_step (k := n + 6) (by decide) w4 (c50 _ c _ _ _ _ _ _ _ n).2.2.2 (c26 _ hc x _ _ _ _ _ _ n).2.2.2 (l14_end (k := n + 5)))))
end Go.Proofs.YtpmgpcklieincaaGreatDoor
set_option linter.unusedVariables false
set_option linter.unusedSimpArgs false
set_option maxRecDepth 10000
namespace Go.Proofs.YtpmgpcklieincaaGreatDoor
theorem rem_drift {c : TInterval} (hc : series_intervals_2 c 1 = some c) (x : TInterval) (T H : Int) (n : Nat) : step_Remainder (n + 10) (tp c) [x] ⟨T, H⟩ 3 = some [z0] := by
  unfold step_Remainder
  have e : w_i64 (3 + 1) = 4 := w4
  rw [e]
  refine bT (coef4 hc x _ n) (bT ?_ rfl)
  kernel_rfl
theorem horner_step {k0 : Nat} {a0 : List (List TInterval)} {p : TInterval} {x8 : List TInterval} {x9 : Int} {t17 : List TInterval} {t20 : TInterval} {k : Nat} {lo hi i j : Int} {m c s : TInterval} {r : Option (Int × Int)} (h0 : 0 ≤ i) (h1 : interval_Mul ⟨lo, hi⟩ p = some m) (h2 : t17[i.toNat]? = some c) (h3 : interval_Add m c = some s) (hj : w_i64 (i - 1) = j)
    (h4 : api_Interval_125_s126_s90.l31 k0 a0 p x8 x9 t17 t20 k s.Lo s.Hi j = r) : api_Interval_125_s126_s90.l31 k0 a0 p x8 x9 t17 t20 (k + 1) lo hi i = r := by
  have hl : i < (t17.length : Int) := by have := (List.getElem?_eq_some_iff.1 h2).1; omega
  unfold api_Interval_125_s126_s90.l31
  refine iT (by simpa using h0) (bT (v := m) ?_ (iT ⟨h0, hl⟩ (bT h2 (bT h3 ?_))))
  · unfold series_Eval_1_m; exact bT h1 rfl
  · rw [hj]; exact h4
theorem horner_drift {p c x m r : TInterval} (hp : Fin p) (hc : Fin c) (hcp : interval_Mul c p = some m) (hr : interval_Add m x = some r) (n : Nat) : series_Eval (n + 10) [[x, c, z0, z0, z0]] p = some [r] := by
  have hz : Fin z0 := by unfold Fin; decide
  have a0 : interval_Add z0 z0 = some z0 := by rw [add_fin hz hz]; rfl
  have a1 : interval_Add z0 c = some c := by
    have := add_ex hz hc (by unfold Fin at *; dsimp only; omega)
    rw [this]; dsimp only; rw [Int.zero_add, Int.zero_add]
  unfold series_Eval
  refine bT ?_ rfl
  have e : api_Interval_125_s126_s90 (n + 10) [[x, c, z0, z0, z0]] p = (((api_Interval_125_s126_s90.l31 (n + 10) [[x, c, z0, z0, z0]] p [z0] 0 [x, c, z0, z0, z0] z0 (n + 10) 0 0 3).bind fun (j : Int × Int) => some [(⟨j.1, j.2⟩ : TInterval)]).bind fun j13 => some j13).bind fun j5 => some j5 := by kernel_rfl
  rw [e]
  have h : api_Interval_125_s126_s90.l31 (n + 10) [[x, c, z0, z0, z0]] p [z0] 0 [x, c, z0, z0, z0] z0 (n + 10) 0 0 3 = some (r.Lo, r.Hi) := by
    show api_Interval_125_s126_s90.l31 (n + 10) [[x, c, z0, z0, z0]] p [z0] 0 [x, c, z0, z0, z0] z0 (n + 9 + 1) 0 0 3 = some (r.Lo, r.Hi)
    refine horner_step (k := n + 9) (by decide) (mul_0 hp) rfl a0 w2 ?_
    refine horner_step (k := n + 8) (by decide) (mul_0 hp) rfl a0 w1 ?_
    refine horner_step (k := n + 7) (by decide) (mul_0 hp) rfl a1 w0 ?_
    refine horner_step (k := n + 6) (by decide) hcp rfl hr wm1 ?_
    show api_Interval_125_s126_s90.l31 (n + 10) [[x, c, z0, z0, z0]] p [z0] 0 [x, c, z0, z0, z0] z0 (n + 5 + 1) r.Lo r.Hi (-1) = some (r.Lo, r.Hi)
    unfold api_Interval_125_s126_s90.l31
    exact iF (by decide) rfl
  rw [h]; rfl
theorem restr {a b : TInterval} (n : Nat) (h : b.Lo ≤ a.Lo ∧ a.Lo ≤ a.Hi ∧ a.Hi ≤ b.Hi) : step_restrictTo_1_m (n + 10) [a] [b] = some [a] := by
  have e1 : mx a.Lo b.Lo = a.Lo := by unfold mx; split <;> omega
  have e2 : mn a.Hi b.Hi = a.Hi := by unfold mn; split <;> omega
  have h1 : step_restrictTo_1_1_m 0 a [b] = some a := by
    unfold step_restrictTo_1_1_m
    refine iT (by simp) (bT rfl (bT (v := (a, true)) ?_ (iT rfl rfl)))
    unfold interval_Intersect
    rw [e1, e2]
    have : decide (a.Lo ≤ a.Hi) = true := by simpa using h.2.1
    rw [this]; rfl
  have e : step_restrictTo_1_m (n + 10) [a] [b] = (((step_restrictTo_1_1_m 0 a [b]).bind fun t => some [t]).bind fun j => some j).bind fun j => some j := by kernel_rfl
  rw [e, h1]; rfl
theorem enc_drift {c x D p m r : TInterval} (hc : Fin c) (hr1 : series_intervals_2 c 1 = some c) (hp : Fin p) (hcp : interval_Mul c p = some m) (hr : interval_Add m x = some r) (hD : D.Lo ≤ r.Lo ∧ r.Lo ≤ r.Hi ∧ r.Hi ≤ D.Hi) (T H : Int) (n : Nat) :
    step_EnclosureAt (n + 10) (tp c) [x] [D] ⟨T, H, p, 3⟩ = some [r] := by
  unfold step_EnclosureAt
  refine bT (rem_drift hr1 D T H n) (bT (v := nw T T) (by unfold interval_Point; exact bT (new_eq _ _) rfl) (bT (coef3 hr1 x _ n) (iT rfl (bT rfl ?_))))
  refine bT (v := [[x, c, z0, z0, z0]]) (by kernel_rfl) (bT (horner_drift hp hc hcp hr n) (bT (restr n hD) rfl))
def seg (x H δ T : Int) : TSegment := ⟨T, H, [⟨x, x⟩], [way x δ], [way x δ], [⟨x + δ, x + δ⟩]⟩
theorem istep_drift {x v H δ : Int} (s : Stp x v H δ) (T : Int) (n : Nat) : step_IntervalStep (n + 10) (tp ⟨v, v⟩) [⟨x, x⟩] ⟨T, H⟩ 3 = some (seg x H δ T, true) := by
  have hr1 := ratio1 s.bv.1 s.bv.2
  have hb := s.b; have hm := mnx δ; have hx := s.bx
  have a1 : interval_Add ⟨mn 0 δ, mx 0 δ⟩ ⟨x, x⟩ = some (way x δ) := by
    have hw := s.w
    have h := add_ex s.df s.xf (by unfold way at hw; unfold Fin at *; dsimp only at *; omega)
    rw [h]; unfold way; dsimp only; rw [Int.add_comm x, Int.add_comm x]
  have hf : Fin ⟨x + δ, x + δ⟩ := by unfold Fin; dsimp only; omega
  have a2 : interval_Add ⟨δ, δ⟩ ⟨x, x⟩ = some ⟨x + δ, x + δ⟩ := by
    have h := add_ex (a := ⟨δ, δ⟩) (b := ⟨x, x⟩) (by unfold Fin; dsimp only; omega) s.xf (by unfold Fin; dsimp only; omega)
    rw [h]; dsimp only; rw [Int.add_comm x]
  unfold step_IntervalStep
  refine bT (encl_drift s T n) (iF (by simp) ?_)
  refine bT (v := [way x δ]) (by unfold step_IntervalStep_1_m; exact bT (enc_drift s.v' hr1 s.h' s.m2 a1 ⟨Int.le_refl _, s.w.le, Int.le_refl _⟩ T H n) rfl) ?_
  refine bT (v := [⟨x + δ, x + δ⟩]) (by unfold step_IntervalStep_1_m; exact bT (enc_drift s.v' hr1 s.hh s.m3 a2 (by unfold way; dsimp only; omega) T H n) rfl) ?_
  refine bT (v := (seg x H δ T, true)) ?_ rfl
  unfold step_bounded
  exact bT (nbd n s.w) (gT rfl (nbd n hf) (iF (by decide) rfl))
theorem narrow {a : TInterval} {q : TStepControl} (n : Nat) (h : -2147483648 ≤ a.Hi - a.Lo ∧ a.Hi - a.Lo ≤ 2147483648) (hq : a.Hi - a.Lo ≤ q.Wide) : api_Interval_84_s82 (n + 10) [a] q = some false := by
  have e1 : w_i64 (a.Hi - a.Lo) = a.Hi - a.Lo := w64 (by omega) (by omega)
  have e2 : control_Accept_1_m a q = some false := by
    unfold control_Accept_1_m interval_Width
    rw [e1, Option.bind_some]
    have : decide (a.Hi - a.Lo > q.Wide) = false := by simp; omega
    rw [this]
  simp [api_Interval_84_s82, api_Interval_103_s82, api_Interval_103_s82.l6, e2, w1]
def ctl : TStepControl := ⟨3, 4096, 1024, 16384, 16777216⟩
theorem accept_drift {x v H δ : Int} (s : Stp x v H δ) (T : Int) (n : Nat) : control_Accept (n + 10) ctl (seg x H δ T) = some true := by
  have hb := s.b; have hm := mnx δ; have hx := s.bx
  unfold control_Accept
  refine bT (narrow (a := ⟨x + δ, x + δ⟩) n (by dsimp only; omega) (by show _ ≤ (16777216 : Int); dsimp only; omega)) (gT rfl (narrow (a := way x δ) n (by unfold way; dsimp only; omega) (by show _ ≤ (16777216 : Int); unfold way; dsimp only; omega)) rfl)
theorem advance_drift {x v H δ T last : Int} {h : Int} (hH : mn h (w_i64 (last - T)) = H) (hh : 0 < h ∧ h ≤ 16384) (s : Stp x v H δ) (n : Nat) : control_Advance (n + 10) (tp ⟨v, v⟩) [⟨x, x⟩] ⟨ctl, T, last, h⟩ = some (seg x H δ T, mn (2 * h) 16384, 0) := by
  unfold control_Advance
  dsimp only
  rw [hH]
  refine bT (istep_drift s T n) (gT rfl (accept_drift s T n) (iF (by simp) (bT (v := h) ?_ ?_)))
  · rw [if_pos (by simp)]
  · unfold control_Grow
    rw [show w_i64 (2 * h) = 2 * h from w64 (by omega) (by omega)]
    rfl
end Go.Proofs.YtpmgpcklieincaaGreatDoor
set_option linter.unusedVariables false
set_option linter.unusedSimpArgs false
set_option maxRecDepth 10000
namespace Go.Proofs.YtpmgpcklieincaaGreatDoor
inductive Run (u : Int) : Int → Int → Nat → List TSegment → Prop
  | nil (T x : Int) : Run u T x 0 []
  | cons (T x : Int) (m g : Nat) (l : List TSegment) (hg : 0 < g) (h : Run u (T + 4096 * g) (x + g * u) m l) : Run u T x (m + g) (seg x (4096 * g) (g * u) T :: l)
theorem gmul {g : Nat} {u : Int} (h1 : g ≤ 4) (hu : -32768 ≤ u ∧ u ≤ 32768) : -32768 * (g : Int) ≤ g * u ∧ (g : Int) * u ≤ 32768 * g := by
  have h := prod_bound (x := (g : Int)) (y := u) (A := g) (B := 32768) (by omega) hu
  omega
theorem loop_drift {u : Int} (hu : -32768 ≤ u ∧ u ≤ 32768) (n : Nat) (a1 : List TInterval) (T0 last : Int) (t3 t4 t5 : Bool) (t9 : Int) : ∀ (m : Nat) (h : Nat) (T x : Int) (acc : List TSegment) (k : Nat), m < k → 1 ≤ h → h ≤ 4 → -1000000000 ≤ T → T + 4096 * m ≤ 1000000000 → m ≤ 64 → last = T + 4096 * m → acc.length + m ≤ 64 → -8388608 ≤ x - m * 32768 → x + m * 32768 ≤ 8388608 →
    ∃ l, flow_Integrate.l17 (n + 10) (tp ⟨16 * u, 16 * u⟩) a1 ⟨ctl, T0, last⟩ t3 t4 t5 t9 k T (4096 * h) [⟨x, x⟩] acc = some (.inr (acc ++ l)) ∧ Run u T x m l ∧ l.length ≤ m := by
  intro m
  induction m using Nat.strongRecOn with
  | ind m ih =>
  intro h T x acc k hk h1 h4 hT1 hT2 hm hl hacc hx1 hx2
  obtain ⟨k, rfl⟩ : ∃ k', k = k' + 1 := ⟨k - 1, by omega⟩
  unfold flow_Integrate.l17
  by_cases hm0 : m = 0
  · subst hm0
    refine ⟨[], ?_, .nil T x, Nat.le_refl _⟩
    refine iF ?_ (by rw [List.append_nil])
    simp; omega
  obtain ⟨g, hg⟩ : ∃ g : Nat, g = min h m := ⟨_, rfl⟩
  have g1 : 1 ≤ g := by omega
  have g4 : g ≤ 4 := by omega
  have gm : g ≤ m := by omega
  have hgu := gmul g4 hu
  have hs : Stp x (16 * u) (4096 * g) (g * u) := ⟨by omega, by omega, by omega, by
    rw [show (4096 * (g : Int)) * (16 * u) = (g * u) * 65536 by rw [Int.mul_comm 4096, Int.mul_assoc, ← Int.mul_assoc 4096 16 u, show (4096 : Int) * 16 = 65536 from rfl, Int.mul_comm 65536 u, ← Int.mul_assoc]]⟩
  have e1 : w_i64 (last - T) = 4096 * m := by rw [hl, w64e (y := 4096 * (m : Int)) (by omega) (by omega) (by omega)]
  have e2 : mn (4096 * (h : Int)) (w_i64 (last - T)) = 4096 * g := by rw [e1]; unfold mn; split <;> omega
  have e3 : w_i64 (T + 4096 * g) = T + 4096 * g := w64 (by omega) (by omega)
  have e4 : mn (2 * (4096 * (h : Int))) 16384 = 4096 * ((min (2 * h) 4 : Nat) : Int) := by unfold mn; split <;> omega
  obtain ⟨l, hl1, hl2, hl3⟩ := ih (m - g) (by omega) (min (2 * h) 4) (T + 4096 * g) (x + g * u) (acc ++ [seg x (4096 * g) (g * u) T]) k (by omega) (by omega) (by omega) (by omega) (by omega) (by omega) (by omega) (by rw [List.length_append, List.length_singleton]; omega) (by omega) (by omega)
  refine ⟨seg x (4096 * g) (g * u) T :: l, ?_, ?_, by rw [List.length_cons]; omega⟩
  · refine iT (by simp; omega) (bT (advance_drift e2 (by omega) hs n) (iT rfl (iF (by simp; omega) (iT (by omega) ?_))))
    show flow_Integrate.l17 (n + 10) (tp ⟨16 * u, 16 * u⟩) a1 ⟨ctl, T0, last⟩ t3 t4 t5 t9 k (w_i64 (T + 4096 * g)) (mn (2 * (4096 * (h : Int))) 16384) [⟨x + g * u, x + g * u⟩] (acc ++ [seg x (4096 * g) (g * u) T]) = _
    rw [e3, e4, hl1, List.append_assoc]; rfl
  · have := Run.cons T x (m - g) g l g1 hl2
    rwa [Nat.sub_add_cancel gm] at this
theorem flow_drift {u : Int} (hu : -32768 ≤ u ∧ u ≤ 32768) (n : Nat) (T x : Int) (m : Nat) (m1 : 1 ≤ m) (m2 : m ≤ 64) (hT : -100000000 ≤ T ∧ T ≤ 100000000) (hx : -4194304 ≤ x ∧ x ≤ 4194304) :
    ∃ l, flow_Integrate (n + 100) (tp ⟨16 * u, 16 * u⟩) [⟨x, x⟩] ⟨ctl, T, T + 4096 * m⟩ = some (l, 0) ∧ Run u T x m l := by
  obtain ⟨l, h1, h2, h3⟩ := loop_drift hu (n + 90) [⟨x, x⟩] T (T + 4096 * m) true true true 4096 m 1 T x [] (n + 100) (by omega) (by omega) (by omega) (by omega) (by omega) (by omega) rfl (by simp; omega) (by omega) (by omega)
  refine ⟨l, ?_, h2⟩
  unfold flow_Integrate
  refine bT (v := true) rfl (gT rfl (v := true) ?_ (gT rfl (v := true) ?_ (iF ?_ ?_)))
  · rw [fvalid_eq, decide_eq_true (by dsimp only; omega)]
  · rw [fvalid_eq, decide_eq_true (by dsimp only; omega)]
  · simp; omega
  refine bT (v := 4096) ?_ ?_
  · unfold control_Initial
    rw [w64e (y := 4096 * (m : Int)) (by dsimp only; omega) (by omega) (by omega)]
    show some (mn 4096 (4096 * (m : Int))) = some 4096
    unfold mn; rw [if_neg (by omega)]
  · exact bT h1 rfl
end Go.Proofs.YtpmgpcklieincaaGreatDoor
set_option linter.unusedVariables false
set_option linter.unusedSimpArgs false
set_option maxRecDepth 10000
namespace Go.Proofs.YtpmgpcklieincaaGreatDoor
theorem wu {x : Int} (h1 : 0 ≤ x) (h2 : x ≤ 9223372036854775807) : w_u64 x = x := Go.IntWalk.u64_in _ ⟨by omega, by omega⟩
theorem Run.at {u T x : Int} {m : Nat} {l : List TSegment} (R : Run u T x m l) : ∀ (i : Nat) (s : TSegment), l[i]? = some s → ∃ k g : Nat, 0 < g ∧ s = seg (x + k * u) (4096 * g) (g * u) (T + 4096 * k) ∧ (i = 0 → k = 0) ∧ ((l[i + 1]? = none ∧ k + g = m) ∨ ∃ s', l[i + 1]? = some s' ∧ s'.T = T + 4096 * (k + g)) := by
  induction R with
  | nil T x => intro i s h; simp at h
  | cons T x m g l hg R ih =>
    intro i s h
    cases i with
    | zero =>
      simp only [List.getElem?_cons_zero, Option.some.injEq] at h
      refine ⟨0, g, hg, by rw [← h]; simp, fun _ => rfl, ?_⟩
      cases R with
      | nil => left; exact ⟨by simp, by omega⟩
      | cons _ _ m' g' l' hg' R' => right; exact ⟨_, by simp; rfl, by simp [seg]⟩
    | succ i =>
      simp only [List.getElem?_cons_succ] at h
      obtain ⟨k, g', h1, h2, h3, h4⟩ := ih i s h
      refine ⟨g + k, g', h1, ?_, fun e => by omega, ?_⟩
      · rw [h2]
        have e1 : x + g * u + k * u = x + ((g + k : Nat) : Int) * u := by rw [Int.natCast_add, Int.add_mul]; omega
        have e2 : T + 4096 * (g : Int) + 4096 * k = T + 4096 * ((g + k : Nat) : Int) := by omega
        rw [e1, e2]
      · rcases h4 with ⟨h4, h5⟩ | ⟨s', h4, h5⟩
        · left; exact ⟨by simpa using h4, by omega⟩
        · right; exact ⟨s', by simpa using h4, by omega⟩
theorem Run.pos {u T x : Int} {m : Nat} {l : List TSegment} (R : Run u T x m l) (hm : 1 ≤ m) : 0 < l.length := by
  cases R with
  | nil => omega
  | cons => simp
theorem Run.len {u T x : Int} {m : Nat} {l : List TSegment} (R : Run u T x m l) : l.length ≤ m := by
  induction R with
  | nil => exact Nat.le_refl _
  | cons T x m g l hg R ih => rw [List.length_cons]; omega
theorem find {l : List TSegment} {t : Int} {k0 : Nat} (hl : l.length < 1000000) : ∀ (k i j : Nat), j - i < k → i ≤ j → j ≤ l.length → (i = 0 ∨ ∃ s, l[i - 1]? = some s ∧ s.T ≤ t) → (j = l.length ∨ ∃ s, l[j]? = some s ∧ t < s.T) →
    ∃ r : Nat, sort_Search_s40.l8 k0 (l.length : Int) l t k i j = some (r : Int) ∧ r ≤ l.length ∧ (r = 0 ∨ ∃ s, l[r - 1]? = some s ∧ s.T ≤ t) ∧ (r = l.length ∨ ∃ s, l[r]? = some s ∧ t < s.T) := by
  intro k
  induction k with
  | zero => intro i j h; omega
  | succ k ih =>
    intro i j hk hij hj hi hjj
    unfold sort_Search_s40.l8
    by_cases hlt : i < j
    · obtain ⟨c, hc⟩ : ∃ c, c = (i + j) / 2 := ⟨_, rfl⟩
      have e1 : w_i64 (Int.fdiv (w_u64 (w_i64 ((i : Int) + j))) 2) = (c : Int) := by
        rw [w64 (x := (i : Int) + j) (by omega) (by omega), wu (by omega) (by omega), fd _ _ (by decide)]
        exact w64e (by omega) (by omega) (by omega)
      obtain ⟨s, hs⟩ : ∃ s, l[c]? = some s := ⟨_, List.getElem?_eq_getElem (by omega)⟩
      have e2 : flow_At_1_m c l t = some (decide (s.T > t)) := by
        unfold flow_At_1_m
        exact iT (by omega) (bT hs rfl)
      have e3 : w_i64 ((c : Int) + 1) = ((c + 1 : Nat) : Int) := w64e (by omega) (by omega) (by omega)
      have goal : ∃ r : Nat, (flow_At_1_m (c : Int) l t).bind (fun t12 => if (!t12) = true then sort_Search_s40.l8 k0 (l.length : Int) l t k (w_i64 ((c : Int) + 1)) j else sort_Search_s40.l8 k0 (l.length : Int) l t k i c) = some (r : Int) ∧ r ≤ l.length ∧ (r = 0 ∨ ∃ s, l[r - 1]? = some s ∧ s.T ≤ t) ∧ (r = l.length ∨ ∃ s, l[r]? = some s ∧ t < s.T) := by
        rw [e2, Option.bind_some, e3]
        by_cases hst : s.T > t
        · obtain ⟨r, h1, h2⟩ := ih i c (by clear hi hjj; omega) (by clear hi hjj; omega) (by clear hi hjj; omega) hi (.inr ⟨s, hs, hst⟩)
          exact ⟨r, iF (by simp; exact hst) h1, h2⟩
        · obtain ⟨r, h1, h2⟩ := ih (c + 1) j (by clear hi hjj; omega) (by clear hi hjj; omega) hj (.inr ⟨s, by simpa using hs, by clear hi hjj; omega⟩) hjj
          exact ⟨r, iT (by simp; omega) h1, h2⟩
      obtain ⟨r, h1, h2⟩ := goal
      refine ⟨r, iT (by simp; omega) ?_, h2⟩
      rw [e1]; exact h1
    · refine ⟨i, iF (by simp; omega) rfl, by omega, hi, ?_⟩
      have : i = j := by omega
      rw [this]; exact hjj
theorem at_drift {u : Int} {T x : Int} {m : Nat} {l : List TSegment} (R : Run u T x m l) (m1 : 1 ≤ m) (m2 : m ≤ 64) (hT : -100000000 ≤ T ∧ T ≤ 100000000) (t : Int) (h1 : T ≤ t) (h2 : t ≤ T + 4096 * m) (n : Nat) :
    (flow_End l = some ([⟨x + m * u, x + m * u⟩], T + 4096 * m, true)) ∧ (∃ b, flow_At (n + 100) l t = some ([b], true) ∧ b.Lo * 65536 ≤ x * 65536 + 16 * u * (t - T) ∧ x * 65536 + 16 * u * (t - T) ≤ b.Hi * 65536 ∧ (t = T + 4096 * m → b = ⟨x + m * u, x + m * u⟩) ∧ ((-32768 ≤ u ∧ u ≤ 32768) → x - 4194304 ≤ b.Lo ∧ b.Lo ≤ b.Hi ∧ b.Hi ≤ x + 4194304)) := by
  have hp := R.pos m1; have hn := R.len
  obtain ⟨sl, hsl⟩ : ∃ s, l[l.length - 1]? = some s := ⟨_, List.getElem?_eq_getElem (by omega)⟩
  obtain ⟨kl, gl, hgl, el, _, hl⟩ := R.at _ _ hsl
  have hkg : kl + gl = m := by
    rcases hl with ⟨_, h⟩ | ⟨s', h, _⟩
    · exact h
    · rw [show l.length - 1 + 1 = l.length by omega, List.getElem?_eq_none (Nat.le_refl _)] at h; cases h
  have hend : flow_End l = some ([⟨x + m * u, x + m * u⟩], T + 4096 * m, true) := by
    have e1 : w_i64 ((l.length : Int) - 1) = ((l.length - 1 : Nat) : Int) := w64e (by omega) (by omega) (by omega)
    unfold flow_End
    refine iF (by rw [beq_iff_eq]; omega) ?_
    rw [e1]
    refine iT (by omega) (bT hsl ?_)
    rw [el]
    have e2 : x + kl * u + gl * u = x + m * u := by rw [← hkg, Int.natCast_add, Int.add_mul]; omega
    have e3 : w_i64 (T + 4096 * (kl : Int) + 4096 * gl) = T + 4096 * m := w64e (by omega) (by omega) (by omega)
    show some ([(⟨x + kl * u + gl * u, x + kl * u + gl * u⟩ : TInterval)], w_i64 (T + 4096 * (kl : Int) + 4096 * gl), true) = _
    rw [e2, e3]
  refine ⟨hend, ?_⟩
  obtain ⟨s0, hs0⟩ : ∃ s, l[0]? = some s := ⟨_, List.getElem?_eq_getElem hp⟩
  obtain ⟨k0, g0, _, es0, hk0, _⟩ := R.at _ _ hs0
  have et0 : s0.T = T := by rw [es0, hk0 rfl]; show T + 4096 * ((0 : Nat) : Int) = T; omega
  obtain ⟨r, hr1, hr2, hr3, hr4⟩ := find (l := l) (t := t) (k0 := n + 100) (by omega) (n + 100) 0 l.length (by omega) (by omega) (Nat.le_refl _) (.inl rfl) (.inl rfl)
  have hr0 : r ≠ 0 := by
    intro e; subst e
    rcases hr4 with h | ⟨s, h, h'⟩
    · omega
    · rw [hs0] at h; cases h; omega
  obtain ⟨s, hs, hst⟩ : ∃ s : TSegment, l[r - 1]? = some s ∧ s.T ≤ t := by rcases hr3 with h | h; exact absurd h hr0; exact h
  obtain ⟨k, g, hg, es, _, hnx⟩ := R.at _ _ hs
  have ek : s.T = T + 4096 * k := by rw [es]; rfl
  have hkt : t ≤ T + 4096 * (k + g) ∧ k + g ≤ m := by
    have hgm : k + g ≤ m ∨ ∃ s', l[r - 1 + 1]? = some s' ∧ s'.T = T + 4096 * (k + g) := by
      rcases hnx with ⟨_, h⟩ | h
      · left; omega
      · right; exact h
    rcases hnx with ⟨h, h'⟩ | ⟨s', h, h'⟩
    · omega
    · rw [show r - 1 + 1 = r by omega] at h
      obtain ⟨k', g', _, es', _, hn'⟩ := R.at _ _ h
      have e' : s'.T = T + 4096 * k' := by rw [es']; rfl
      have hk' : k' ≤ m := by
        have hd : ∀ {u T x : Int} {m : Nat} {l : List TSegment}, Run u T x m l → ∀ (i : Nat) (s : TSegment), l[i]? = some s → s.T ≤ T + 4096 * m := by
          intro u T x m l R
          induction R with
          | nil => intro i s h; simp at h
          | cons T x m g l hg R ih =>
            intro i s h
            cases i with
            | zero => simp only [List.getElem?_cons_zero, Option.some.injEq] at h; rw [← h]; show T ≤ _; omega
            | succ i => simp only [List.getElem?_cons_succ] at h; have := ih i s h; omega
        have := hd R _ _ h
        omega
      rcases hr4 with h4 | ⟨s'', h4, h4'⟩
      · rw [h4, List.getElem?_eq_none (Nat.le_refl _)] at h; cases h
      · rw [h] at h4; cases h4; omega
  have e1 : w_i64 ((r : Int) - 1) = ((r - 1 : Nat) : Int) := w64e (by omega) (by omega) (by omega)
  have hsr : sort_Search_s40 (n + 100) (l.length : Int) l t = some (r : Int) := by
    unfold sort_Search_s40
    exact bT hr1 rfl
  have hu1 : 16 * u * (t - T) = (k * u) * 65536 + 16 * (u * (t - T - 4096 * k)) := by
    have : t - T = 4096 * k + (t - T - 4096 * k) := by omega
    rw [this, Int.mul_add, Int.mul_assoc 16 u (4096 * (k : Int)), Int.mul_left_comm u 4096 k, Int.mul_comm u k]
    rw [show 4096 * (k : Int) + (t - T - 4096 * k) - 4096 * k = t - T - 4096 * k by omega, Int.mul_assoc]
    omega
  have step : ∃ b, (if (s.T == t) = true then some (s.From, true) else if (t == T + 4096 * m) = true then some ([(⟨x + m * u, x + m * u⟩ : TInterval)], true) else some (s.Tube, true)) = some ([b], true) ∧ b.Lo * 65536 ≤ x * 65536 + 16 * u * (t - T) ∧ x * 65536 + 16 * u * (t - T) ≤ b.Hi * 65536 ∧ (t = T + 4096 * m → b = ⟨x + m * u, x + m * u⟩) ∧ ((-32768 ≤ u ∧ u ≤ 32768) → x - 4194304 ≤ b.Lo ∧ b.Lo ≤ b.Hi ∧ b.Hi ≤ x + 4194304) := by
    have hkb : ∀ q : Nat, q ≤ m → (-32768 ≤ u ∧ u ≤ 32768) → -2097152 ≤ (q : Int) * u ∧ (q : Int) * u ≤ 2097152 := fun q hq hu => by
      have := prod_bound (x := (q : Int)) (y := u) (A := 64) (B := 32768) (by omega) hu
      omega
    by_cases c1 : s.T = t
    · refine ⟨⟨x + k * u, x + k * u⟩, iT (by simp [c1]) (by rw [es]; rfl), ?_⟩
      rw [hu1, show t - T - 4096 * (k : Int) = 0 by omega, Int.mul_zero]
      dsimp only
      refine ⟨by omega, by omega, fun e => ?_, fun hu => ?_⟩
      · omega
      · have := hkb k (by omega) hu; omega
    by_cases c2 : t = T + 4096 * m
    · refine ⟨⟨x + m * u, x + m * u⟩, iF (by simpa using c1) (iT (by simpa using c2) rfl), ?_⟩
      have : 16 * u * (t - T) = (m * u) * 65536 := by
        rw [c2, show T + 4096 * (m : Int) - T = 4096 * m by omega, Int.mul_assoc, Int.mul_left_comm u 4096 m, Int.mul_comm u m]; omega
      rw [this]
      dsimp only
      exact ⟨by omega, by omega, fun _ => rfl, fun hu => by have := hkb m (Nat.le_refl _) hu; omega⟩
    · refine ⟨way (x + k * u) (g * u), iF (by simpa using c1) (iF (by simpa using c2) (by rw [es]; rfl)), ?_⟩
      rw [hu1]
      unfold way; dsimp only
      have hm := mnx ((g : Int) * u)
      have hd0 : 0 ≤ t - T - 4096 * (k : Int) := by omega
      have hd1 : t - T - 4096 * (k : Int) ≤ 4096 * g := by omega
      have e0 : u * (4096 * (g : Int)) = 4096 * (g * u) := by rw [Int.mul_left_comm, Int.mul_comm u g]
      refine ⟨?_, ?_, fun e => absurd e c2, fun hu => by have := hkb k (by omega) hu; have := hkb g (by omega) hu; omega⟩
      · rcases Int.le_total 0 u with h | h
        · have := mulL hd0 h; rw [Int.mul_zero] at this; omega
        · have := mulLn hd1 h; rw [e0] at this; omega
      · rcases Int.le_total 0 u with h | h
        · have := mulL hd1 h; rw [e0] at this; omega
        · have := mulLn hd0 h; rw [Int.mul_zero] at this; omega
  obtain ⟨b, hb, hb2⟩ := step
  refine ⟨b, ?_, hb2⟩
  unfold flow_At
  refine bT hend (bT (v := false) rfl (iF (by decide) (iT rfl (iT (by omega) (bT hs0 (iF ?_ (bT hsr ?_)))))))
  · rw [et0]; simp; omega
  rw [e1]
  have hri : 0 ≤ ((r - 1 : Nat) : Int) ∧ ((r - 1 : Nat) : Int) < (l.length : Int) := by omega
  refine iT hri (bT hs ?_)
  have ex : ∀ (α : Type) (f : TSegment → Option α), (if 0 ≤ ((r - 1 : Nat) : Int) ∧ ((r - 1 : Nat) : Int) < (l.length : Int) then (l[((r - 1 : Nat) : Int).toNat]?).bind f else none) = f s := fun α f => iT hri (bT hs rfl)
  rw [ex, ex]
  exact hb
end Go.Proofs.YtpmgpcklieincaaGreatDoor
