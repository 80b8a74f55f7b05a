/- Texts of the plain laws, put together. Own work. -/
import Derived.Test.YtpmgpcklieincaaGreatDoorDefs
import Derived.KernelRfl
import Derived.IntWalk
set_option maxRecDepth 10000
set_option linter.unusedVariables false
set_option linter.unusedSimpArgs false
namespace Go.Proofs.YtpmgpcklieincaaGreatDoor
open Go
theorem w64 {x : Int} (h1 : -9223372036854775808 ≤ x) (h2 : x ≤ 9223372036854775807) : w_i64 x = x := by
  exact Go.IntWalk.i64_in x ⟨h1, h2⟩
theorem ediv_bounds {a b B : Int} (hb : 0 < b) (h1 : -B ≤ a) (h2 : a ≤ B) : -B ≤ a / b ∧ a / b ≤ B := by
  have hB : 0 ≤ B := by omega
  constructor
  · rw [Int.le_ediv_iff_mul_le hb]
    have : B * 1 ≤ B * b := Int.mul_le_mul_of_nonneg_left (by omega) hB
    have e : -B * b = -(B * b) := Int.neg_mul ..
    omega
  · apply Int.ediv_le_of_le_mul hb
    have : B * 1 ≤ B * b := Int.mul_le_mul_of_nonneg_left (by omega) hB
    omega
def cdiv (a b : Int) : Int := -((-a) / b)
theorem cdiv_le {a b c : Int} (hb : 0 < b) : cdiv a b ≤ c ↔ a ≤ c * b := by
  unfold cdiv
  have : -c ≤ (-a) / b ↔ -c * b ≤ -a := Int.le_ediv_iff_mul_le hb
  rw [Int.neg_mul] at this
  omega
theorem le_fdiv {a b c : Int} (hb : 0 < b) : c ≤ a / b ↔ c * b ≤ a := Int.le_ediv_iff_mul_le hb
theorem tdm (a b : Int) (hb : 0 < b) : (Int.tmod a b < 0 → Int.tdiv a b - 1 = a / b ∧ Int.tmod a b + b = a % b) ∧ (¬ Int.tmod a b < 0 → Int.tdiv a b = a / b ∧ Int.tmod a b = a % b) := by
  have h1 := Int.mul_tdiv_add_tmod a b
  have h2 := Int.tmod_lt_of_pos a hb
  have h3 : -b < Int.tmod a b := by
    have := Int.tmod_lt_of_pos (-a) hb
    rw [Int.neg_tmod] at this
    omega
  have e := fun q r => Int.ediv_emod_unique (a := a) (b := b) (r := r) (q := q) hb
  constructor
  · intro h
    have := (e (Int.tdiv a b - 1) (Int.tmod a b + b)).2 ⟨by rw [Int.mul_sub]; omega, by omega, by omega⟩
    exact ⟨this.1.symm, this.2.symm⟩
  · intro h
    have := (e (Int.tdiv a b) (Int.tmod a b)).2 ⟨by omega, by omega, by omega⟩
    exact ⟨this.1.symm, this.2.symm⟩
theorem cdiv_eq {a b : Int} (hb : 0 < b) : cdiv a b = a / b + mn (a % b) 1 := by
  have h1 := Int.mul_ediv_add_emod a b
  have h2 := Int.emod_nonneg a (by omega : b ≠ 0)
  have h3 := Int.emod_lt_of_pos a hb
  have h5 : mn (a % b) 1 = 0 ∧ a % b = 0 ∨ mn (a % b) 1 = 1 ∧ 1 ≤ a % b := by unfold mn; split <;> omega
  apply Int.le_antisymm
  · rw [cdiv_le hb, Int.add_mul, Int.mul_comm (a / b) b]
    rcases h5 with ⟨h5, h6⟩ | ⟨h5, h6⟩ <;> rw [h5] <;> omega
  · rcases h5 with ⟨h5, h6⟩ | ⟨h5, h6⟩ <;> rw [h5]
    · have := (cdiv_le (a := a) (c := cdiv a b) hb).1 (Int.le_refl _)
      have h7 : a / b ≤ cdiv a b := by
        apply Int.ediv_le_of_le_mul hb this
      omega
    · have h8 : ¬ cdiv a b ≤ a / b := by
        rw [cdiv_le hb, Int.mul_comm]
        omega
      omega
theorem floorCeil_eq {a b : Int} (hb : 0 < b) (ha1 : -4611686018427387904 ≤ a) (ha2 : a ≤ 4611686018427387904) (hb2 : b ≤ 4611686018427387904) : fixed_floorCeil_int64_s94 a b = some (a / b, cdiv a b) := by
  have hq := ediv_bounds hb ha1 ha2
  obtain ⟨t1, t2⟩ := tdm a b hb
  have h2 := Int.emod_nonneg a (by omega : b ≠ 0)
  have h3 := Int.emod_lt_of_pos a hb
  have hc := cdiv_eq (a := a) hb
  have hm : 0 ≤ mn (a % b) 1 ∧ mn (a % b) 1 ≤ 1 := by unfold mn; split <;> omega
  unfold fixed_floorCeil_int64_s94 fixed_divide_1
  rw [if_pos (by omega), if_pos (by omega)]
  by_cases h : Int.tmod a b < 0
  · obtain ⟨e1, e2⟩ := t1 h
    have e3 : w_i64 (Int.tdiv a b) = Int.tdiv a b := w64 (by omega) (by omega)
    have e4 : w_i64 (Int.tdiv a b - 1) = a / b := by rw [e1]; exact w64 (by omega) (by omega)
    have e5 : w_i64 (Int.tmod a b + b) = a % b := by rw [e2]; exact w64 (by omega) (by omega)
    simp only [h, decide_true, if_true, Option.bind_some, e3, e4, e5]
    rw [w64 (by omega) (by omega), ← hc]
  · obtain ⟨e1, e2⟩ := t2 h
    have e3 : w_i64 (Int.tdiv a b) = a / b := by rw [e1]; exact w64 (by omega) (by omega)
    have h' : ¬ a % b < 0 := by omega
    simp only [e2, h', decide_false, Bool.false_eq_true, if_false, Option.bind_some, e3]
    rw [w64 (by omega) (by omega), ← hc]
theorem divide_pos {a b : Int} (hb : 0 < b) (ha1 : -4611686018427387904 ≤ a) (ha2 : a ≤ 4611686018427387904) (hb2 : b ≤ 4611686018427387904) : fixed_divide a b = some (a / b, cdiv a b) := by
  unfold fixed_divide
  rw [if_neg (by simp; omega)]
  simp only [Option.bind_some, floorCeil_eq hb ha1 ha2 hb2]
def Wid (x : Int) : Prop := -2147483648 ≤ x ∧ x ≤ 2147483648
theorem prod_bound {x y A B : Int} (hx : -A ≤ x ∧ x ≤ A) (hy : -B ≤ y ∧ y ≤ B) : -(A * B) ≤ x * y ∧ x * y ≤ A * B := by
  have hA : 0 ≤ A := by omega
  have hB : 0 ≤ B := by omega
  have h1 : x.natAbs * y.natAbs ≤ A.natAbs * B.natAbs := Nat.mul_le_mul (by omega) (by omega)
  have h2 : ((x * y).natAbs : Int) ≤ A * B := by
    rw [Int.natAbs_mul]
    have : ((A.natAbs * B.natAbs : Nat) : Int) = A * B := by
      rw [Int.natCast_mul, Int.natAbs_of_nonneg hA, Int.natAbs_of_nonneg hB]
    omega
  omega
theorem mul_eq {x y : Int} (hx : Wid x) (hy : Wid y) : fixed_Mul x y = some (x * y / 65536, cdiv (x * y) 65536) := by
  have := prod_bound (A := 2147483648) (B := 2147483648) hx hy
  unfold fixed_Mul
  rw [w64 (by omega) (by omega), divide_pos (by omega) (by omega) (by omega) (by omega)]
  rfl
def Ent : TInterval := ⟨-2147483648, 2147483648⟩
def Fin (a : TInterval) : Prop := -2147483648 < a.Lo ∧ a.Lo ≤ a.Hi ∧ a.Hi < 2147483648
def Ok (a : TInterval) : Prop := a = Ent ∨ Fin a
def nw (x y : Int) : TInterval := if x ≤ -2147483648 ∨ y ≥ 2147483648 ∨ x ≥ 2147483648 ∨ y ≤ -2147483648 then Ent else ⟨x, y⟩
theorem Fin.wlo {a : TInterval} (h : Fin a) : Wid a.Lo := by unfold Fin at h; unfold Wid; omega
theorem Fin.whi {a : TInterval} (h : Fin a) : Wid a.Hi := by unfold Fin at h; unfold Wid; omega
theorem isEnt {a : TInterval} : interval_IsEntire a = some (decide (a = Ent)) := by
  simp only [interval_IsEntire, interval_Entire, Option.bind_some, Option.some.injEq]
  obtain ⟨l, h⟩ := a
  simp only [Ent, TInterval.mk.injEq, Bool.decide_and, Bool.and_true]
  rfl
theorem Fin.ne {a : TInterval} (h : Fin a) : decide (a = Ent) = false := by
  apply decide_eq_false
  rintro rfl
  simp [Fin, Ent] at h
theorem isEnt_fin {a : TInterval} (h : Fin a) : interval_IsEntire a = some false := by rw [isEnt, h.ne]
theorem new_eq (x y : Int) : interval_New x y = some (nw x y) := by
  unfold interval_New nw interval_Entire
  simp only [Option.bind_some]
  by_cases h : x ≤ -2147483648 ∨ y ≥ 2147483648 ∨ x ≥ 2147483648 ∨ y ≤ -2147483648
  · rw [if_pos h, if_pos (by simp; omega)]; rfl
  · rw [if_neg h, if_neg (by simp; omega)]
theorem nw_fin {x y : Int} (h : Fin ⟨x, y⟩) : nw x y = ⟨x, y⟩ := by
  unfold Fin at h
  unfold nw
  simp only at h
  rw [if_neg (by omega)]
theorem add_fin {a b : TInterval} (ha : Fin a) (hb : Fin b) : interval_Add a b = some (nw (a.Lo + b.Lo) (a.Hi + b.Hi)) := by
  unfold interval_Add
  rw [isEnt_fin ha, isEnt_fin hb]
  unfold Fin at ha hb
  simp only [Option.bind_some, beq_self_eq_true, if_true, Bool.or_self, Bool.false_eq_true, if_false, new_eq]
  rw [w64 (by omega) (by omega), w64 (by omega) (by omega)]
theorem neg_eq {a : TInterval} (h : Wid a.Lo) (h' : Wid a.Hi) : interval_Neg a = some ⟨-a.Hi, -a.Lo⟩ := by
  unfold Wid at h h'
  unfold interval_Neg
  rw [w64 (by omega) (by omega), w64 (by omega) (by omega)]
  congr 2 <;> omega
theorem Ok.wlo {a : TInterval} (h : Ok a) : Wid a.Lo := by
  rcases h with rfl | h
  · simp [Ent, Wid]
  · exact h.wlo
theorem Ok.whi {a : TInterval} (h : Ok a) : Wid a.Hi := by
  rcases h with rfl | h
  · simp [Ent, Wid]
  · exact h.whi
theorem neg_fin {a : TInterval} (h : Fin a) : Fin ⟨-a.Hi, -a.Lo⟩ := by unfold Fin at *; simp only; omega
theorem sub_fin {a b : TInterval} (ha : Fin a) (hb : Fin b) : interval_Sub a b = some (nw (a.Lo - b.Hi) (a.Hi - b.Lo)) := by
  unfold interval_Sub
  rw [neg_eq hb.wlo hb.whi]
  simp only [Option.bind_some, add_fin ha (neg_fin hb)]
  congr 2
theorem bT {α β : Type} {X : Option α} {v : α} {f : α → Option β} {r : Option β} (h : X = some v) (hf : f v = r) : X.bind f = r := by
  subst h
  exact hf
theorem gT {α β : Type} {c : Prop} [Decidable c] {X D : Option α} {v : α} {f : α → Option β} {r : Option β} (hc : c) (h : X = some v) (hf : f v = r) : (if c then X else D).bind f = r := by
  rw [if_pos hc]
  exact bT h hf
theorem gF {α β : Type} {c : Prop} [Decidable c] {X : Option α} {d : α} {f : α → Option β} {r : Option β} (hc : ¬ c) (hf : f d = r) : (if c then X else some d).bind f = r := by
  rw [if_neg hc]
  exact bT rfl hf
theorem iT {β : Type} {c : Prop} [Decidable c] {X Y : Option β} {r : Option β} (hc : c) (h : X = r) : (if c then X else Y) = r := by
  rw [if_pos hc]
  exact h
theorem iF {β : Type} {c : Prop} [Decidable c] {X Y : Option β} {r : Option β} (hc : ¬ c) (h : Y = r) : (if c then X else Y) = r := by
  rw [if_neg hc]
  exact h
theorem w64e {x y : Int} (e : x = y) (h1 : -9223372036854775808 ≤ y) (h2 : y ≤ 9223372036854775807) : w_i64 x = y := by
  rw [e]
  exact w64 h1 h2
theorem cmpR {x y : Int} (h : x ≤ y) (z : Int) : (z < 0 ∨ x * z ≤ y * z) ∧ (0 < z ∨ y * z ≤ x * z) := by
  constructor
  · rcases Int.lt_or_le z 0 with hz | hz
    · exact .inl hz
    · exact .inr (Int.mul_le_mul_of_nonneg_right h hz)
  · rcases Int.lt_or_le 0 z with hz | hz
    · exact .inl hz
    · exact .inr (Int.mul_le_mul_of_nonpos_right h hz)
theorem cmpL {x y : Int} (h : x ≤ y) (z : Int) : (z < 0 ∨ z * x ≤ z * y) ∧ (0 < z ∨ z * y ≤ z * x) := by
  have := cmpR h z
  rw [Int.mul_comm z x, Int.mul_comm z y]
  exact this
theorem mulR {x y z : Int} (h : x ≤ y) (hz : 0 ≤ z) : x * z ≤ y * z := Int.mul_le_mul_of_nonneg_right h hz
theorem mulL {x y z : Int} (h : x ≤ y) (hz : 0 ≤ z) : z * x ≤ z * y := Int.mul_le_mul_of_nonneg_left h hz
theorem mulLn {x y z : Int} (h : x ≤ y) (hz : z ≤ 0) : z * y ≤ z * x := Int.mul_le_mul_of_nonpos_left hz h
structure Hull (a b : TInterval) (l h : Int) : Prop where
  lo : l ≤ a.Lo * b.Lo ∧ l ≤ a.Lo * b.Hi ∧ l ≤ a.Hi * b.Lo ∧ l ≤ a.Hi * b.Hi
  hi : a.Lo * b.Lo ≤ h ∧ a.Lo * b.Hi ≤ h ∧ a.Hi * b.Lo ≤ h ∧ a.Hi * b.Hi ≤ h
  isl : l = a.Lo * b.Lo ∨ l = a.Lo * b.Hi ∨ l = a.Hi * b.Lo ∨ l = a.Hi * b.Hi
  ish : h = a.Lo * b.Lo ∨ h = a.Lo * b.Hi ∨ h = a.Hi * b.Lo ∨ h = a.Hi * b.Hi
theorem Hull.le {a b : TInterval} {l h : Int} (H : Hull a b l h) : l ≤ h := by
  have := H.lo; have := H.hi; omega
theorem Hull.mem {a b : TInterval} {l h : Int} (H : Hull a b l h) {p q : Int} (hp : a.Lo ≤ p ∧ p ≤ a.Hi) (hq : b.Lo ≤ q ∧ q ≤ b.Hi) : l ≤ p * q ∧ p * q ≤ h := by
  have h1 := H.lo; have h2 := H.hi
  have e1 := cmpR hp.1 q; have e2 := cmpR hp.2 q
  have f1 := cmpL hq.1 a.Lo; have f2 := cmpL hq.2 a.Lo; have f3 := cmpL hq.1 a.Hi; have f4 := cmpL hq.2 a.Hi
  constructor <;> omega
theorem side_eq (a : TInterval) : interval_side a = some (if a.Hi ≤ 0 then 0 else if a.Lo ≥ 0 then 2 else 1) := by
  unfold interval_side
  by_cases h : a.Hi ≤ 0 <;> by_cases h' : a.Lo ≥ 0 <;> simp [h, h']
theorem mn_div (x y : Int) : mn (x / 65536) (y / 65536) = mn x y / 65536 := by unfold mn; split <;> split <;> omega
theorem mx_cdiv (x y : Int) : mx (cdiv x 65536) (cdiv y 65536) = cdiv (mx x y) 65536 := by unfold mx cdiv; split <;> split <;> omega
theorem mul_fin {a b : TInterval} (ha : Fin a) (hb : Fin b) : ∃ l h, interval_Mul a b = some (nw (l / 65536) (cdiv h 65536)) ∧ Hull a b l h := by
  have h1 := ha.2.1
  have h2 := hb.2.1
  have r1 := cmpR h1 b.Lo; have r2 := cmpR h1 b.Hi
  have r3 := cmpL h2 a.Lo; have r4 := cmpL h2 a.Hi
  unfold interval_Mul
  rw [isEnt_fin ha, isEnt_fin hb]
  simp only [Option.bind_some, beq_self_eq_true, if_true, Bool.or_self, Bool.false_eq_true, if_false, side_eq, interval_hh, interval_ll, interval_hl, interval_lh, mul_eq ha.wlo hb.wlo, mul_eq ha.wlo hb.whi, mul_eq ha.whi hb.wlo, mul_eq ha.whi hb.whi, new_eq, mn_div, mx_cdiv]
  by_cases s1 : a.Hi ≤ 0
  · by_cases s2 : b.Hi ≤ 0
    · simp only [s1, s2, if_true]
      refine ⟨a.Hi * b.Hi, a.Lo * b.Lo, rfl, ⟨?_, ?_, ?_, ?_⟩⟩ <;> omega
    · by_cases s3 : b.Lo ≥ 0
      · simp only [s1, s2, s3, if_true, if_false]
        refine ⟨a.Lo * b.Hi, a.Hi * b.Lo, rfl, ⟨?_, ?_, ?_, ?_⟩⟩ <;> omega
      · simp only [s1, s2, s3, if_true, if_false]
        refine ⟨a.Lo * b.Hi, a.Lo * b.Lo, rfl, ⟨?_, ?_, ?_, ?_⟩⟩ <;> omega
  · by_cases s4 : a.Lo ≥ 0
    · by_cases s2 : b.Hi ≤ 0
      · simp only [s1, s4, s2, if_true, if_false]
        refine ⟨a.Hi * b.Lo, a.Lo * b.Hi, rfl, ⟨?_, ?_, ?_, ?_⟩⟩ <;> omega
      · by_cases s3 : b.Lo ≥ 0
        · simp only [s1, s4, s2, s3, if_true, if_false]
          refine ⟨a.Lo * b.Lo, a.Hi * b.Hi, rfl, ⟨?_, ?_, ?_, ?_⟩⟩ <;> omega
        · simp only [s1, s4, s2, s3, if_true, if_false]
          refine ⟨a.Hi * b.Lo, a.Hi * b.Hi, rfl, ⟨?_, ?_, ?_, ?_⟩⟩ <;> omega
    · by_cases s2 : b.Hi ≤ 0
      · simp only [s1, s4, s2, if_true, if_false]
        refine ⟨a.Hi * b.Lo, a.Lo * b.Lo, rfl, ⟨?_, ?_, ?_, ?_⟩⟩ <;> omega
      · by_cases s3 : b.Lo ≥ 0
        · simp only [s1, s4, s2, s3, if_true, if_false]
          refine ⟨a.Lo * b.Hi, a.Hi * b.Hi, rfl, ⟨?_, ?_, ?_, ?_⟩⟩ <;> omega
        · simp only [s1, s4, s2, s3, if_true, if_false]
          refine ⟨mn (a.Lo * b.Hi) (a.Hi * b.Lo), mx (a.Lo * b.Lo) (a.Hi * b.Hi), rfl, ?_⟩
          unfold mn mx
          split <;> split <;> refine ⟨?_, ?_, ?_, ?_⟩ <;> omega
structure DHull (a b : TInterval) (x y u v : Int) : Prop where
  ypos : 0 < y
  vpos : 0 < v
  x_ : x = a.Lo ∨ x = a.Hi
  y_ : y = b.Lo ∨ y = b.Hi
  u_ : u = a.Lo ∨ u = a.Hi
  v_ : v = b.Lo ∨ v = b.Hi
  lo : x * b.Lo ≤ a.Lo * y ∧ x * b.Hi ≤ a.Lo * y ∧ x * b.Lo ≤ a.Hi * y ∧ x * b.Hi ≤ a.Hi * y
  hi : a.Lo * v ≤ u * b.Lo ∧ a.Lo * v ≤ u * b.Hi ∧ a.Hi * v ≤ u * b.Lo ∧ a.Hi * v ≤ u * b.Hi
theorem DHull.mem {a b : TInterval} {x y u v : Int} (H : DHull a b x y u v) {p q : Int} (hp : a.Lo ≤ p ∧ p ≤ a.Hi) (hq : b.Lo ≤ q ∧ q ≤ b.Hi) : x * q ≤ p * y ∧ p * v ≤ u * q := by
  have h1 := H.lo; have h2 := H.hi
  have e1 := cmpL hq.1 x; have e2 := cmpL hq.2 x; have e3 := cmpL hq.1 u; have e4 := cmpL hq.2 u
  have f1 := mulR hp.1 (Int.le_of_lt H.ypos); have f2 := mulR hp.2 (Int.le_of_lt H.vpos)
  constructor <;> omega
theorem frac_mono {a b c d : Int} (hb : 0 < b) (hd : 0 < d) (h : a * d ≤ c * b) : a * 65536 / b ≤ c * 65536 / d := by
  rw [le_fdiv hd]
  have h1 := (le_fdiv (a := a * 65536) (c := a * 65536 / b) hb).1 (Int.le_refl _)
  have h2 : (a * 65536 / b * d) * b ≤ (c * 65536) * b := by
    have e1 : (a * 65536 / b * d) * b = (a * 65536 / b * b) * d := by grind
    have e2 : (a * 65536 / b * b) * d ≤ (a * 65536) * d := mulR h1 (by omega)
    have e3 : (a * 65536) * d = (a * d) * 65536 := by grind
    have e4 : (c * 65536) * b = (c * b) * 65536 := by grind
    omega
  exact Int.le_of_mul_le_mul_right h2 hb
theorem cfrac_mono {a b c d : Int} (hb : 0 < b) (hd : 0 < d) (h : a * d ≤ c * b) : cdiv (a * 65536) b ≤ cdiv (c * 65536) d := by
  rw [cdiv_le hb]
  have h1 := (cdiv_le (a := c * 65536) (c := cdiv (c * 65536) d) hd).1 (Int.le_refl _)
  have h2 : (a * 65536) * d ≤ (cdiv (c * 65536) d * b) * d := by
    have e1 : (cdiv (c * 65536) d * b) * d = (cdiv (c * 65536) d * d) * b := by grind
    have e2 : (c * 65536) * b ≤ (cdiv (c * 65536) d * d) * b := mulR h1 (by omega)
    have e3 : (a * 65536) * d = (a * d) * 65536 := by grind
    have e4 : (c * 65536) * b = (c * b) * 65536 := by grind
    omega
  exact Int.le_of_mul_le_mul_right h2 hd
def sqm (a : TInterval) : Int := mx (mx a.Lo (-a.Hi)) 0
def mag (a : TInterval) : Int := mx a.Hi (-a.Lo)
theorem mag_eq {a : TInterval} (h : Ok a) : interval_Mag a = some (mag a) := by
  have := h.wlo
  unfold Wid at this
  unfold interval_Mag mag
  rw [w64 (by omega) (by omega)]
  congr 2
  omega
theorem sq_fin {a : TInterval} (h : Fin a) : interval_Square a = some (nw (sqm a * sqm a / 65536) (cdiv (mag a * mag a) 65536)) := by
  unfold interval_Square
  rw [isEnt_fin h, mag_eq (.inr h)]
  have h' := h
  unfold Fin at h'
  have e : w_i64 (0 - a.Hi) = -a.Hi := by rw [w64 (by omega) (by omega)]; omega
  have e1 : Wid (sqm a) := by unfold Wid sqm mx; split <;> split <;> omega
  have e2 : Wid (mag a) := by unfold Wid mag mx; split <;> omega
  simp only [Option.bind_some, Bool.false_eq_true, if_false, e]
  have e3 : mx (mx a.Lo (-a.Hi)) 0 = sqm a := rfl
  simp only [e3, mul_eq e1 e1, mul_eq e2 e2, Option.bind_some, new_eq]
instance (a : TInterval) : Decidable (Fin a) := by unfold Fin; infer_instance
instance (a : TInterval) : Decidable (Ok a) := by unfold Ok; infer_instance
theorem sq_lt {s t : Int} (hs : 0 ≤ s) (ht : 0 ≤ t) (h : s * s < t * t) : s < t := by
  rcases Int.lt_or_le s t with h1 | h1
  · exact h1
  · have := Int.mul_le_mul h1 h1 ht hs
    omega
theorem sq_le {s t : Int} (hs : 0 ≤ s) (h : s ≤ t) : s * s ≤ t * t := Int.mul_le_mul h h hs (by omega)
structure Root (n s t : Int) : Prop where
  s0 : 0 ≤ s
  le : s * s ≤ n
  lt : n < (s + 1) * (s + 1)
  t_ : t = if s * s < n then s + 1 else s
theorem Root.up {n s t : Int} (h : Root n s t) : n ≤ t * t := by
  have h1 := h.le; have h2 := h.lt; have h3 := h.t_
  split at h3 <;> subst h3 <;> omega
theorem Root.st {n s t : Int} (h : Root n s t) : s ≤ t ∧ t ≤ s + 1 := by
  have h3 := h.t_
  split at h3 <;> omega
theorem Root.low {n s t : Int} (h : Root n s t) : t = 0 ∨ (t - 1) * (t - 1) < n := by
  have h1 := h.le; have h3 := h.t_; have h0 := h.s0
  split at h3
  · right
    have : t - 1 = s := by omega
    rw [this]
    assumption
  · subst h3
    rcases Int.lt_or_le 0 t with h4 | h4
    · right
      have e : (t - 1) * (t - 1) = t * t - 2 * t + 1 := by grind
      omega
    · left; omega
theorem subset_of {a b : TInterval} (h : b.Lo ≤ a.Lo ∧ a.Hi ≤ b.Hi) : interval_Subset a b = some true := by
  unfold interval_Subset
  rw [decide_eq_true h.1, decide_eq_true h.2]
  rfl
theorem f_le (x : Int) : x / 65536 * 65536 ≤ x := (le_fdiv (by omega)).1 (Int.le_refl _)
theorem c_le (x : Int) : x ≤ cdiv x 65536 * 65536 := (cdiv_le (by omega)).1 (Int.le_refl _)
theorem Ok.b {a : TInterval} (h : Ok a) : -2147483648 ≤ a.Lo ∧ a.Lo ≤ a.Hi ∧ a.Hi ≤ 2147483648 ∧ (a ≠ Ent → -2147483648 < a.Lo ∧ a.Hi < 2147483648) := by
  rcases h with rfl | h
  · simp [Ent]
  · unfold Fin at h
    exact ⟨by omega, by omega, by omega, fun _ => by omega⟩
theorem Ok.ent_of {a : TInterval} (h : Ok a) (h1 : a.Lo ≤ -2147483648 ∨ 2147483648 ≤ a.Hi) : a = Ent := by
  rcases h with h | h
  · exact h
  · unfold Fin at h; omega
theorem mnl (x y : Int) : mn x y ≤ x ∧ mn x y ≤ y ∧ (mn x y = x ∨ mn x y = y) := by unfold mn; split <;> omega
theorem mxl (x y : Int) : x ≤ mx x y ∧ y ≤ mx x y ∧ (mx x y = x ∨ mx x y = y) := by unfold mx; split <;> omega
theorem Fin.le {a : TInterval} (h : Fin a) : a.Lo ≤ a.Hi := h.2.1
def Le (a b : TInterval) : Prop := b.Lo ≤ a.Lo ∧ a.Hi ≤ b.Hi
theorem Le.ent {a b : TInterval} (h : Le a b) (hb : Ok b) (e : a = Ent) : b = Ent := by
  subst e
  exact hb.ent_of (.inl h.1)
theorem Le.fin {a b : TInterval} (h : Le a b) (ha : Ok a) (hb : Fin b) : Fin a := by
  rcases ha with rfl | ha
  · unfold Le Ent at h; unfold Fin at hb; simp only at h; omega
  · exact ha
theorem Hull.mono {a b a' b' : TInterval} {l h l' h' : Int} (fa : Fin a) (fb : Fin b) (H : Hull a b l h) (H' : Hull a' b' l' h') (h1 : Le a a') (h2 : Le b b') : l' ≤ l ∧ h ≤ h' := by
  unfold Le at h1 h2
  have la := fa.le; have lb := fb.le
  have i := H.isl; have j := H.ish
  have m1 := H'.mem (p := a.Lo) (q := b.Lo) (by omega) (by omega)
  have m2 := H'.mem (p := a.Lo) (q := b.Hi) (by omega) (by omega)
  have m3 := H'.mem (p := a.Hi) (q := b.Lo) (by omega) (by omega)
  have m4 := H'.mem (p := a.Hi) (q := b.Hi) (by omega) (by omega)
  omega
theorem DHull.mono {a b a' b' : TInterval} {x y u v x' y' u' v' : Int} (la : a.Lo ≤ a.Hi) (lb : b.Lo ≤ b.Hi) (H : DHull a b x y u v) (H' : DHull a' b' x' y' u' v') (h1 : Le a a') (h2 : Le b b') : x' * 65536 / y' ≤ x * 65536 / y ∧ cdiv (u * 65536) v ≤ cdiv (u' * 65536) v' := by
  unfold Le at h1 h2
  have m1 := H'.mem (p := x) (q := y) (by have := H.x_; omega) (by have := H.y_; omega)
  have m2 := H'.mem (p := u) (q := v) (by have := H.u_; omega) (by have := H.v_; omega)
  exact ⟨frac_mono H'.ypos H.ypos m1.1, cfrac_mono H.vpos H'.vpos m2.2⟩
theorem Root.mono {n s t n' s' t' : Int} (h : Root n s t) (h' : Root n' s' t') (hn : n ≤ n') : s ≤ s' ∧ t ≤ t' := by
  constructor
  · have := sq_lt h.s0 (by have := h'.s0; omega) (Int.lt_of_le_of_lt (Int.le_trans h.le hn) h'.lt)
    omega
  · have h1 := h'.up
    have h2 := h'.s0
    have h3 := h'.st
    rcases h.low with h4 | h4
    · omega
    · rcases Int.lt_or_le (t - 1) 0 with h5 | h5
      · omega
      · have := sq_lt h5 (by omega : 0 ≤ t') (by omega)
        omega
theorem refnum (x : Int) : armillaryref02_Number x = some (decide (-2147483648 < x ∧ x < 2147483648)) := by
  unfold armillaryref02_Number
  rw [Bool.decide_and]
theorem refnew (x y : Int) : armillaryref02_New x y = some (if (-2147483648 < x ∧ x < 2147483648) ∧ (-2147483648 < y ∧ y < 2147483648) then ⟨x, y⟩ else Ent) := by
  unfold armillaryref02_New
  by_cases h1 : -2147483648 < x ∧ x < 2147483648
  · refine bT ((refnum x).trans (congrArg some (decide_eq_true h1))) ?_
    by_cases h2 : -2147483648 < y ∧ y < 2147483648
    · refine gT rfl ((refnum y).trans (congrArg some (decide_eq_true h2))) (iF Bool.false_ne_true ?_)
      rw [if_pos ⟨h1, h2⟩]
    · refine gT rfl ((refnum y).trans (congrArg some (decide_eq_false h2))) (iT rfl ?_)
      rw [if_neg (fun h => h2 h.2)]
      rfl
  · refine bT ((refnum x).trans (congrArg some (decide_eq_false h1))) (gF Bool.false_ne_true (iT rfl ?_))
    rw [if_neg (fun h => h1 h.1)]
    rfl
theorem refnew_nw {x y : Int} (h : x ≤ y) : armillaryref02_New x y = some (nw x y) := by
  rw [refnew]
  congr 1
  unfold nw
  by_cases g : (-2147483648 < x ∧ x < 2147483648) ∧ (-2147483648 < y ∧ y < 2147483648)
  · rw [if_pos g, if_neg (by omega)]
  · rw [if_neg g, if_pos (by omega)]
def fq (n q : Int) : Int := if 0 < q then n / q else (-n) / (-q)
end Go.Proofs.YtpmgpcklieincaaGreatDoor
set_option linter.unusedVariables false
set_option maxRecDepth 10000
set_option linter.unusedSimpArgs false
namespace Go.Proofs.YtpmgpcklieincaaGreatDoor
theorem w0 : w_i64 0 = 0 := by decide
theorem w1 : w_i64 1 = 1 := by decide
theorem w2 : w_i64 2 = 2 := by decide
theorem w3 : w_i64 3 = 3 := by decide
theorem w4 : w_i64 4 = 4 := by decide
theorem wm1 : w_i64 (-1) = -1 := by decide
def tp (c : TInterval) : TTape := ⟨1, [⟨1, 0, 0, c⟩], [0]⟩
theorem compile_drift (c : TInterval) (n : Nat) : tape_Compile (n + 10) ⟨[⟨#[120]⟩], [[⟨1, 0, c⟩]]⟩ = some (tp c) := by
  kernel_rfl
theorem eval_drift (c : TInterval) (b : List TInterval) (t : TInterval) (n : Nat) : tape_Eval (n + 10) (tp c) b t = some [c] := by
  kernel_rfl
theorem zipI {x f h m r : TInterval} (n : Nat) (h1 : interval_Mul h f = some m) (h2 : interval_Add x m = some r) : api_Interval_112_s129 (n + 10) [x] [f] h = some [r] := by
  have e : api_Interval_112_s129 (n + 10) [x] [f] h = ((picard_Image_1_m x f h).bind fun t => some [t]).bind fun j => some j := by kernel_rfl
  rw [e, picard_Image_1_m, h1, Option.bind_some, h2, Option.bind_some, Option.bind_some, Option.bind_some]
theorem zipH {x f : TInterval} (n : Nat) : api_Interval_112_s114 (n + 10) [x] [f] = some [⟨mn x.Lo f.Lo, mx x.Hi f.Hi⟩] := by
  kernel_rfl
theorem bdd {x : TInterval} (n : Nat) (h : Fin x) : picard_bounded (n + 10) [x] = some true := by
  simp [picard_bounded, api_Interval_84_s21, api_Interval_103_s21, api_Interval_103_s21.l6, isEnt_fin h, w1]
theorem nbd {x : TInterval} (n : Nat) (h : Fin x) : api_Interval_84_s21 (n + 10) [x] = some false := by
  simp [api_Interval_84_s21, api_Interval_103_s21, api_Interval_103_s21.l6, isEnt_fin h, w1]
theorem infl {x : TInterval} (n : Nat) (h1 : -1000000000 ≤ x.Lo) (h2 : x.Lo ≤ x.Hi) (h3 : x.Hi ≤ 1000000000) : ∃ u, 0 < u ∧ u ≤ 125000001 ∧ picard_inflate (n + 10) [x] = some [⟨x.Lo - u, x.Hi + u⟩] := by
  have e1 : w_i64 (x.Hi - x.Lo) = x.Hi - x.Lo := w64 (by omega) (by omega)
  have e2 : Int.tdiv (x.Hi - x.Lo) 16 = (x.Hi - x.Lo) / 16 := Int.tdiv_eq_ediv_of_nonneg (by omega)
  have e3 : w_i64 ((x.Hi - x.Lo) / 16) = (x.Hi - x.Lo) / 16 := w64 (by omega) (by omega)
  have e4 : w_i64 ((x.Hi - x.Lo) / 16 + 1) = (x.Hi - x.Lo) / 16 + 1 := w64 (by omega) (by omega)
  have e5 : w_i64 (x.Lo - ((x.Hi - x.Lo) / 16 + 1)) = x.Lo - ((x.Hi - x.Lo) / 16 + 1) := w64 (by omega) (by omega)
  have e6 : w_i64 (x.Hi + ((x.Hi - x.Lo) / 16 + 1)) = x.Hi + ((x.Hi - x.Lo) / 16 + 1) := w64 (by omega) (by omega)
  have e7 : nw (x.Lo - ((x.Hi - x.Lo) / 16 + 1)) (x.Hi + ((x.Hi - x.Lo) / 16 + 1)) = ⟨x.Lo - ((x.Hi - x.Lo) / 16 + 1), x.Hi + ((x.Hi - x.Lo) / 16 + 1)⟩ := nw_fin (by unfold Fin; dsimp only; omega)
  refine ⟨(x.Hi - x.Lo) / 16 + 1, by omega, by omega, ?_⟩
  have e : picard_inflate (n + 10) [x] = ((interval_Width x).bind fun t16 => (interval_New (w_i64 (x.Lo - (w_i64 ((w_i64 (Int.tdiv t16 16)) + 1)))) (w_i64 (x.Hi + (w_i64 ((w_i64 (Int.tdiv t16 16)) + 1))))).bind fun t18 => some [t18]).bind fun j => some j := by kernel_rfl
  rw [e, interval_Width, Option.bind_some, e1, e2, e3, e4, e5, e6, new_eq, e7, Option.bind_some, Option.bind_some]
theorem bsub {a b : TInterval} (n : Nat) (h : b.Lo ≤ a.Lo ∧ a.Hi ≤ b.Hi) : box_Subset n [a] [b] = some true := by
  simp [box_Subset, box_Subset.l6, subset_of h]
end Go.Proofs.YtpmgpcklieincaaGreatDoor
set_option linter.unusedVariables false
set_option linter.unusedSimpArgs false
set_option maxRecDepth 10000
namespace Go.Proofs.YtpmgpcklieincaaGreatDoor
theorem cdiv_mul (k : Int) : cdiv (k * 65536) 65536 = k := by unfold cdiv; omega
theorem mul_exact {a b : TInterval} {l h : Int} (ha : Fin a) (hb : Fin b) (hl : -2147483648 < l) (hlh : l ≤ h) (hh : h < 2147483648)
    (h1 : l * 65536 ≤ a.Lo * b.Lo ∧ l * 65536 ≤ a.Lo * b.Hi ∧ l * 65536 ≤ a.Hi * b.Lo ∧ l * 65536 ≤ a.Hi * b.Hi) (h2 : l * 65536 = a.Lo * b.Lo ∨ l * 65536 = a.Lo * b.Hi ∨ l * 65536 = a.Hi * b.Lo ∨ l * 65536 = a.Hi * b.Hi)
    (h3 : a.Lo * b.Lo ≤ h * 65536 ∧ a.Lo * b.Hi ≤ h * 65536 ∧ a.Hi * b.Lo ≤ h * 65536 ∧ a.Hi * b.Hi ≤ h * 65536) (h4 : h * 65536 = a.Lo * b.Lo ∨ h * 65536 = a.Lo * b.Hi ∨ h * 65536 = a.Hi * b.Lo ∨ h * 65536 = a.Hi * b.Hi) :
    interval_Mul a b = some ⟨l, h⟩ := by
  obtain ⟨x, y, e, H⟩ := mul_fin ha hb
  have ex : x = l * 65536 := by have := H.lo; have := H.isl; omega
  have ey : y = h * 65536 := by have := H.hi; have := H.ish; omega
  rw [e, ex, ey, cdiv_mul, Int.mul_ediv_cancel _ (by decide), nw_fin ⟨hl, hlh, hh⟩]
theorem mul_0 {p : TInterval} (hp : Fin p) : interval_Mul ⟨0, 0⟩ p = some ⟨0, 0⟩ := by
  refine mul_exact (by unfold Fin; decide) hp (by decide) (by decide) (by decide) ?_ ?_ ?_ ?_ <;> simp
theorem mnx (δ : Int) : mn 0 δ ≤ 0 ∧ mn 0 δ ≤ δ ∧ (mn 0 δ = 0 ∨ mn 0 δ = δ) ∧ 0 ≤ mx 0 δ ∧ δ ≤ mx 0 δ ∧ (mx 0 δ = 0 ∨ mx 0 δ = δ) := by
  unfold mn mx; split <;> split <;> omega
structure Stp (x v H δ : Int) : Prop where
  bx : -8388608 ≤ x ∧ x ≤ 8388608
  bv : -524288 ≤ v ∧ v ≤ 524288
  bH : 0 < H ∧ H ≤ 16384
  d : H * v = δ * 65536
theorem Stp.b {x v H δ : Int} (s : Stp x v H δ) : -131072 ≤ δ ∧ δ ≤ 131072 := by
  have h1 := prod_bound (x := H) (y := v) (A := 16384) (B := 524288) (by have := s.bH; omega) s.bv
  have := s.d
  omega
theorem Stp.v' {x v H δ : Int} (s : Stp x v H δ) : Fin ⟨v, v⟩ := by have := s.bv; unfold Fin; dsimp only; omega
theorem Stp.h' {x v H δ : Int} (s : Stp x v H δ) : Fin ⟨0, H⟩ := by have := s.bH; unfold Fin; dsimp only; omega
theorem Stp.hh {x v H δ : Int} (s : Stp x v H δ) : Fin ⟨H, H⟩ := by have := s.bH; unfold Fin; dsimp only; omega
def way (x δ : Int) : TInterval := ⟨x + mn 0 δ, x + mx 0 δ⟩
theorem Stp.w {x v H δ : Int} (s : Stp x v H δ) : Fin (way x δ) := by
  have := s.bx; have := s.b; have := mnx δ; unfold way Fin; dsimp only; omega
theorem Stp.m1 {x v H δ : Int} (s : Stp x v H δ) : interval_Mul ⟨0, H⟩ ⟨v, v⟩ = some ⟨mn 0 δ, mx 0 δ⟩ := by
  have := s.b; have := mnx δ; have := s.d
  refine mul_exact s.h' s.v' (by omega) (by omega) (by omega) ?_ ?_ ?_ ?_ <;> dsimp only <;> rw [Int.zero_mul] <;> omega
theorem Stp.m2 {x v H δ : Int} (s : Stp x v H δ) : interval_Mul ⟨v, v⟩ ⟨0, H⟩ = some ⟨mn 0 δ, mx 0 δ⟩ := by
  have := s.b; have := mnx δ; have := s.d
  refine mul_exact s.v' s.h' (by omega) (by omega) (by omega) ?_ ?_ ?_ ?_ <;> dsimp only <;> rw [Int.mul_zero, Int.mul_comm v H] <;> omega
theorem Stp.m3 {x v H δ : Int} (s : Stp x v H δ) : interval_Mul ⟨v, v⟩ ⟨H, H⟩ = some ⟨δ, δ⟩ := by
  have := s.b; have := s.d
  refine mul_exact s.v' s.hh (by omega) (by omega) (by omega) ?_ ?_ ?_ ?_ <;> dsimp only <;> rw [Int.mul_comm v H] <;> omega
theorem add_ex {a b : TInterval} (ha : Fin a) (hb : Fin b) (h : Fin ⟨a.Lo + b.Lo, a.Hi + b.Hi⟩) : interval_Add a b = some ⟨a.Lo + b.Lo, a.Hi + b.Hi⟩ := by rw [add_fin ha hb, nw_fin h]
theorem Stp.xf {x v H δ : Int} (s : Stp x v H δ) : Fin ⟨x, x⟩ := by have := s.bx; unfold Fin; dsimp only; omega
theorem Stp.df {x v H δ : Int} (s : Stp x v H δ) : Fin ⟨mn 0 δ, mx 0 δ⟩ := by have := s.b; have := mnx δ; unfold Fin; dsimp only; omega
theorem image_drift {x v H δ : Int} (s : Stp x v H δ) (b : List TInterval) (T : Int) (n : Nat) : picard_Image (n + 10) (tp ⟨v, v⟩) [⟨x, x⟩] b ⟨T, H⟩ = some [way x δ] := by
  have e1 : nw 0 H = ⟨0, H⟩ := nw_fin s.h'
  have e2 : interval_Add ⟨x, x⟩ ⟨mn 0 δ, mx 0 δ⟩ = some (way x δ) := add_ex s.xf s.df s.w
  unfold picard_Image
  refine bT (new_eq _ _) (bT (new_eq _ _) (bT (eval_drift ⟨v, v⟩ b _ n) ?_))
  dsimp only
  rw [e1]
  exact bT (zipI n s.m1 e2) rfl
theorem cand_drift {x v H δ : Int} (s : Stp x v H δ) (T : Int) (n : Nat) : ∃ u, 0 < u ∧ picard_candidates_1_m (n + 10) [⟨x, x⟩] (tp ⟨v, v⟩) ⟨T, H⟩ = some ([⟨(way x δ).Lo - u, (way x δ).Hi + u⟩], [way x δ]) := by
  have hb := s.b; have hm := mnx δ; have hx := s.bx
  have ez : (⟨mn x (way x δ).Lo, mx x (way x δ).Hi⟩ : TInterval) = way x δ := by
    have h1 := mnl x (way x δ).Lo; have h2 := mxl x (way x δ).Hi
    have h3 : (way x δ).Lo ≤ x ∧ x ≤ (way x δ).Hi := by unfold way; dsimp only; omega
    have h4 : mn x (way x δ).Lo = (way x δ).Lo := by omega
    have h5 : mx x (way x δ).Hi = (way x δ).Hi := by omega
    rw [h4, h5]
  obtain ⟨u, u0, u1, hu⟩ := infl (x := way x δ) n (by unfold way; dsimp only; omega) s.w.le (by unfold way; dsimp only; omega)
  have hB : Fin ⟨(way x δ).Lo - u, (way x δ).Hi + u⟩ := by unfold way Fin; dsimp only; omega
  refine ⟨u, u0, ?_⟩
  unfold picard_candidates_1_m
  refine bT (image_drift s _ T n) (bT (zipH n) ?_)
  dsimp only
  rw [ez]
  refine bT (bdd n s.w) (iF (by decide) (bT hu (bT (bdd n hB) (iF (by decide) (bT (image_drift s _ T n) (bT (bdd n s.w) (iT rfl rfl)))))))
theorem encl_drift {x v H δ : Int} (s : Stp x v H δ) (T : Int) (n : Nat) : picard_Enclose (n + 10) (tp ⟨v, v⟩) [⟨x, x⟩] ⟨T, H⟩ = some ([way x δ], true) := by
  obtain ⟨u, u0, hu⟩ := cand_drift s T n
  unfold picard_Enclose
  refine bT hu (bT (bsub (n + 10) (by dsimp only; omega)) (iT rfl ?_))
  unfold picard_Enclose.l7
  exact iT (by simp) rfl
theorem ratio1 {v : Int} (h1 : -524288 ≤ v) (h2 : v ≤ 524288) : series_intervals_2 ⟨v, v⟩ 1 = some ⟨v, v⟩ := by
  have hf : Fin ⟨v, v⟩ := by unfold Fin; dsimp only; omega
  have e0 : w_i64 (v * 1) = v := by rw [Int.mul_one]; exact w64 (by omega) (by omega)
  have e1 : fixed_MulRatio v 1 1 = some (v, v, 0) := by
    unfold fixed_MulRatio
    refine iF (by decide) ?_
    rw [e0, divide_pos (by decide) (by omega) (by omega) (by decide)]
    have : cdiv v 1 = v := by unfold cdiv; omega
    rw [this]; simp
  unfold series_intervals_2 interval_MulRatio
  refine bT (bT (isEnt_fin hf) (iF (by decide) (bT rfl (bT e1 (bT rfl (bT e1 (bT (new_eq _ _) rfl))))))) ?_
  dsimp only
  rw [nw_fin hf]
abbrev z0 : TInterval := ⟨0, 0⟩
theorem c50 (k0 : Nat) (c : TInterval) (a2 : List TInterval) (t : TInterval) (a4 : Int) (j6 x11 : List (List TInterval)) (x12 : List (List TInterval)) (x13 : Int) (n : Nat) :
    api_Interval_expand_m.l50 k0 (tp c) a2 t a4 j6 x11 x12 x13 (n + 10) [[]] 0 = some [[c]] ∧ api_Interval_expand_m.l50 k0 (tp c) a2 t a4 j6 x11 x12 x13 (n + 10) [[c]] 0 = some [[c, z0]] ∧
    api_Interval_expand_m.l50 k0 (tp c) a2 t a4 j6 x11 x12 x13 (n + 10) [[c, z0]] 0 = some [[c, z0, z0]] ∧ api_Interval_expand_m.l50 k0 (tp c) a2 t a4 j6 x11 x12 x13 (n + 10) [[c, z0, z0]] 0 = some [[c, z0, z0, z0]] :=
  ⟨by kernel_rfl, by kernel_rfl, by kernel_rfl, by kernel_rfl⟩
theorem c26 (k0 : Nat) {c : TInterval} (hc : series_intervals_2 c 1 = some c) (x : TInterval) (a2 : List TInterval) (t : TInterval) (a4 : Int) (j6 x11 : List (List TInterval)) (x12 : List (List TInterval)) (n : Nat) :
    api_Interval_expand_m.l26 k0 (tp c) a2 t a4 j6 x11 x12 0 [[c]] (n + 10) [[x]] 0 = some ([[x, c]], [[c]]) ∧ api_Interval_expand_m.l26 k0 (tp c) a2 t a4 j6 x11 x12 1 [[c, z0]] (n + 10) [[x, c]] 0 = some ([[x, c, z0]], [[c, z0]]) ∧
    api_Interval_expand_m.l26 k0 (tp c) a2 t a4 j6 x11 x12 2 [[c, z0, z0]] (n + 10) [[x, c, z0]] 0 = some ([[x, c, z0, z0]], [[c, z0, z0]]) ∧
    api_Interval_expand_m.l26 k0 (tp c) a2 t a4 j6 x11 x12 3 [[c, z0, z0, z0]] (n + 10) [[x, c, z0, z0]] 0 = some ([[x, c, z0, z0, z0]], [[c, z0, z0, z0]]) := by
  refine ⟨?_, by kernel_rfl, by kernel_rfl, by kernel_rfl⟩
  have e : api_Interval_expand_m.l26 k0 (tp c) a2 t a4 j6 x11 x12 0 [[c]] (n + 10) [[x]] 0 = (series_intervals_2 c 1).bind fun t41 => some ([[x, t41]], [[c]]) := by kernel_rfl
  rw [e, hc]; rfl
theorem l14_step {k0 : Nat} {a1 : TTape} {a2 : List TInterval} {a3 : TInterval} {a4 : Int} {j6 X Y Z X' : List (List TInterval)} {x y : Int} {k : Nat} {r : Option (List (List TInterval))} (h : x < a4) (hy : w_i64 (x + 1) = y)
    (h1 : api_Interval_expand_m.l50 k0 a1 a2 a3 a4 j6 X Y x k0 Y 0 = some Z) (h2 : api_Interval_expand_m.l26 k0 a1 a2 a3 a4 j6 X Y x Z k0 X 0 = some (X', Z)) (h3 : api_Interval_expand_m.l14 k0 a1 a2 a3 a4 j6 k X' Z y = r) :
    api_Interval_expand_m.l14 k0 a1 a2 a3 a4 j6 (k + 1) X Y x = r := by
  unfold api_Interval_expand_m.l14
  refine iT (by simpa using h) (bT (bT h1 h2) ?_)
  rw [hy]; exact h3
theorem l14_end {k0 : Nat} {a1 : TTape} {a2 : List TInterval} {a3 : TInterval} {a4 : Int} {j6 X Y : List (List TInterval)} {k : Nat} : api_Interval_expand_m.l14 k0 a1 a2 a3 a4 j6 (k + 1) X Y a4 = some X := by
  unfold api_Interval_expand_m.l14
  exact iF (by simp) rfl
theorem coef3 {c : TInterval} (hc : series_intervals_2 c 1 = some c) (x t : TInterval) (n : Nat) : series_Coefficients (n + 10) (tp c) [x] t 3 = some [[x, c, z0, z0]] := by
  unfold series_Coefficients
  refine bT ?_ rfl
  unfold api_Interval_expand_m
  refine iT (by simp [tp]) (iT (by simp [tp]) ?_)
  have e : api_Interval_expand_m.l73 (n + 10) (tp c) [x] t 3 (n + 10) (List.replicate (tp c).N.toNat []) 0 = some [[x]] := by kernel_rfl
  refine bT e (bT ?_ rfl)
  show api_Interval_expand_m.l14 (n + 10) (tp c) [x] t 3 [[x]] (n + 9 + 1) [[x]] [[]] 0 = some [[x, c, z0, z0]]
  exact l14_step (k := n + 9) (by decide) w1 (c50 _ c _ _ _ _ _ _ _ n).1 (c26 _ hc x _ _ _ _ _ _ n).1 (l14_step (k := n + 8) (by decide) w2 (c50 _ c _ _ _ _ _ _ _ n).2.1 (c26 _ hc x _ _ _ _ _ _ n).2.1
    (l14_step (k := n + 7) (by decide) w3 (c50 _ c _ _ _ _ _ _ _ n).2.2.1 (c26 _ hc x _ _ _ _ _ _ n).2.2.1 (l14_end (k := n + 6))))
end Go.Proofs.YtpmgpcklieincaaGreatDoor
set_option linter.unusedVariables false
set_option linter.unusedSimpArgs false
set_option maxRecDepth 10000
namespace Go.Proofs.YtpmgpcklieincaaGreatDoor
theorem coef2 {c : TInterval} (hc : series_intervals_2 c 1 = some c) (x t : TInterval) (n : Nat) : series_Coefficients (n + 10) (tp c) [x] t 2 = some [[x, c, z0]] := by
  unfold series_Coefficients
  refine bT ?_ rfl
  unfold api_Interval_expand_m
  refine iT (by simp [tp]) (iT (by simp [tp]) ?_)
  have e : api_Interval_expand_m.l73 (n + 10) (tp c) [x] t 2 (n + 10) (List.replicate (tp c).N.toNat []) 0 = some [[x]] := by kernel_rfl
  refine bT e (bT ?_ rfl)
  show api_Interval_expand_m.l14 (n + 10) (tp c) [x] t 2 [[x]] (n + 9 + 1) [[x]] [[]] 0 = some [[x, c, z0]]
  exact l14_step (k := n + 9) (by decide) w1 (c50 _ c _ _ _ _ _ _ _ n).1 (c26 _ hc x _ _ _ _ _ _ n).1 (l14_step (k := n + 8) (by decide) w2 (c50 _ c _ _ _ _ _ _ _ n).2.1 (c26 _ hc x _ _ _ _ _ _ n).2.1 (l14_end (k := n + 7)))
theorem rem_drift {c : TInterval} (hc : series_intervals_2 c 1 = some c) (x : TInterval) (T H : Int) (n : Nat) : step_Remainder (n + 10) (tp c) [x] ⟨T, H⟩ 2 = some [z0] := by
  unfold step_Remainder
  have e : w_i64 (2 + 1) = 3 := w3
  rw [e]
  refine bT (coef3 hc x _ n) (bT ?_ rfl)
  kernel_rfl
theorem horner_step {k0 : Nat} {a0 : List (List TInterval)} {p : TInterval} {x8 : List TInterval} {x9 : Int} {t17 : List TInterval} {t20 : TInterval} {k : Nat} {lo hi i j : Int} {m c s : TInterval} {r : Option (Int × Int)} (h0 : 0 ≤ i) (h1 : interval_Mul ⟨lo, hi⟩ p = some m) (h2 : t17[i.toNat]? = some c) (h3 : interval_Add m c = some s) (hj : w_i64 (i - 1) = j)
    (h4 : api_Interval_125_s126_s90.l31 k0 a0 p x8 x9 t17 t20 k s.Lo s.Hi j = r) : api_Interval_125_s126_s90.l31 k0 a0 p x8 x9 t17 t20 (k + 1) lo hi i = r := by
  have hl : i < (t17.length : Int) := by have := (List.getElem?_eq_some_iff.1 h2).1; omega
  unfold api_Interval_125_s126_s90.l31
  refine iT (by simpa using h0) (bT (v := m) ?_ (iT ⟨h0, hl⟩ (bT h2 (bT h3 ?_))))
  · unfold series_Eval_1_m; exact bT h1 rfl
  · rw [hj]; exact h4
theorem horner_drift {p c x m r : TInterval} (hp : Fin p) (hc : Fin c) (hcp : interval_Mul c p = some m) (hr : interval_Add m x = some r) (n : Nat) : series_Eval (n + 10) [[x, c, z0, z0]] p = some [r] := by
  have hz : Fin z0 := by unfold Fin; decide
  have a0 : interval_Add z0 z0 = some z0 := by rw [add_fin hz hz]; rfl
  have a1 : interval_Add z0 c = some c := by
    have := add_ex hz hc (by unfold Fin at *; dsimp only; omega)
    rw [this]; dsimp only; rw [Int.zero_add, Int.zero_add]
  unfold series_Eval
  refine bT ?_ rfl
  have e : api_Interval_125_s126_s90 (n + 10) [[x, c, z0, z0]] p = (((api_Interval_125_s126_s90.l31 (n + 10) [[x, c, z0, z0]] p [z0] 0 [x, c, z0, z0] z0 (n + 10) 0 0 2).bind fun (j : Int × Int) => some [(⟨j.1, j.2⟩ : TInterval)]).bind fun j13 => some j13).bind fun j5 => some j5 := by kernel_rfl
  rw [e]
  have h : api_Interval_125_s126_s90.l31 (n + 10) [[x, c, z0, z0]] p [z0] 0 [x, c, z0, z0] z0 (n + 10) 0 0 2 = some (r.Lo, r.Hi) := by
    show api_Interval_125_s126_s90.l31 (n + 10) [[x, c, z0, z0]] p [z0] 0 [x, c, z0, z0] z0 (n + 9 + 1) 0 0 2 = some (r.Lo, r.Hi)
    refine horner_step (k := n + 9) (by decide) (mul_0 hp) rfl a0 w1 ?_
    refine horner_step (k := n + 8) (by decide) (mul_0 hp) rfl a1 w0 ?_
    refine horner_step (k := n + 7) (by decide) hcp rfl hr wm1 ?_
    show api_Interval_125_s126_s90.l31 (n + 10) [[x, c, z0, z0]] p [z0] 0 [x, c, z0, z0] z0 (n + 6 + 1) r.Lo r.Hi (-1) = some (r.Lo, r.Hi)
    unfold api_Interval_125_s126_s90.l31
    exact iF (by decide) rfl
  rw [h]; rfl
theorem restr {a b : TInterval} (n : Nat) (h : b.Lo ≤ a.Lo ∧ a.Lo ≤ a.Hi ∧ a.Hi ≤ b.Hi) : step_restrictTo_1_m (n + 10) [a] [b] = some [a] := by
  have e1 : mx a.Lo b.Lo = a.Lo := by unfold mx; split <;> omega
  have e2 : mn a.Hi b.Hi = a.Hi := by unfold mn; split <;> omega
  have h1 : step_restrictTo_1_1_m 0 a [b] = some a := by
    unfold step_restrictTo_1_1_m
    refine iT (by simp) (bT rfl (bT (v := (a, true)) ?_ (iT rfl rfl)))
    unfold interval_Intersect
    rw [e1, e2]
    have : decide (a.Lo ≤ a.Hi) = true := by simpa using h.2.1
    rw [this]; rfl
  have e : step_restrictTo_1_m (n + 10) [a] [b] = (((step_restrictTo_1_1_m 0 a [b]).bind fun t => some [t]).bind fun j => some j).bind fun j => some j := by kernel_rfl
  rw [e, h1]; rfl
theorem enc_drift {c x D p m r : TInterval} (hc : Fin c) (hr1 : series_intervals_2 c 1 = some c) (hp : Fin p) (hcp : interval_Mul c p = some m) (hr : interval_Add m x = some r) (hD : D.Lo ≤ r.Lo ∧ r.Lo ≤ r.Hi ∧ r.Hi ≤ D.Hi) (T H : Int) (n : Nat) :
    step_EnclosureAt (n + 10) (tp c) [x] [D] ⟨T, H, p, 2⟩ = some [r] := by
  unfold step_EnclosureAt
  refine bT (rem_drift hr1 D T H n) (bT (v := nw T T) (by unfold interval_Point; exact bT (new_eq _ _) rfl) (bT (coef2 hr1 x _ n) (iT rfl (bT rfl ?_))))
  refine bT (v := [[x, c, z0, z0]]) (by kernel_rfl) (bT (horner_drift hp hc hcp hr n) (bT (restr n hD) rfl))
def seg (x H δ T : Int) : TSegment := ⟨T, H, [⟨x, x⟩], [way x δ], [way x δ], [⟨x + δ, x + δ⟩]⟩
theorem istep_drift {x v H δ : Int} (s : Stp x v H δ) (T : Int) (n : Nat) : step_IntervalStep (n + 10) (tp ⟨v, v⟩) [⟨x, x⟩] ⟨T, H⟩ 2 = some (seg x H δ T, true) := by
  have hr1 := ratio1 s.bv.1 s.bv.2
  have hb := s.b; have hm := mnx δ; have hx := s.bx
  have a1 : interval_Add ⟨mn 0 δ, mx 0 δ⟩ ⟨x, x⟩ = some (way x δ) := by
    have hw := s.w
    have h := add_ex s.df s.xf (by unfold way at hw; unfold Fin at *; dsimp only at *; omega)
    rw [h]; unfold way; dsimp only; rw [Int.add_comm x, Int.add_comm x]
  have hf : Fin ⟨x + δ, x + δ⟩ := by unfold Fin; dsimp only; omega
  have a2 : interval_Add ⟨δ, δ⟩ ⟨x, x⟩ = some ⟨x + δ, x + δ⟩ := by
    have h := add_ex (a := ⟨δ, δ⟩) (b := ⟨x, x⟩) (by unfold Fin; dsimp only; omega) s.xf (by unfold Fin; dsimp only; omega)
    rw [h]; dsimp only; rw [Int.add_comm x]
  unfold step_IntervalStep
  refine bT (encl_drift s T n) (iF (by simp) ?_)
  refine bT (v := [way x δ]) (by unfold step_IntervalStep_1_m; exact bT (enc_drift s.v' hr1 s.h' s.m2 a1 ⟨Int.le_refl _, s.w.le, Int.le_refl _⟩ T H n) rfl) ?_
  refine bT (v := [⟨x + δ, x + δ⟩]) (by unfold step_IntervalStep_1_m; exact bT (enc_drift s.v' hr1 s.hh s.m3 a2 (by unfold way; dsimp only; omega) T H n) rfl) ?_
  refine bT (v := (seg x H δ T, true)) ?_ rfl
  unfold step_bounded
  exact bT (nbd n s.w) (gT rfl (nbd n hf) (iF (by decide) rfl))
theorem narrow {a : TInterval} {q : TStepControl} (n : Nat) (h : -2147483648 ≤ a.Hi - a.Lo ∧ a.Hi - a.Lo ≤ 2147483648) (hq : a.Hi - a.Lo ≤ q.Wide) : api_Interval_84_s82 (n + 10) [a] q = some false := by
  have e1 : w_i64 (a.Hi - a.Lo) = a.Hi - a.Lo := w64 (by omega) (by omega)
  have e2 : control_Accept_1_m a q = some false := by
    unfold control_Accept_1_m interval_Width
    rw [e1, Option.bind_some]
    have : decide (a.Hi - a.Lo > q.Wide) = false := by simp; omega
    rw [this]
  simp [api_Interval_84_s82, api_Interval_103_s82, api_Interval_103_s82.l6, e2, w1]
def ctl : TStepControl := ⟨2, 4096, 1024, 16384, 16777216⟩
theorem accept_drift {x v H δ : Int} (s : Stp x v H δ) (T : Int) (n : Nat) : control_Accept (n + 10) ctl (seg x H δ T) = some true := by
  have hb := s.b; have hm := mnx δ; have hx := s.bx
  unfold control_Accept
  refine bT (narrow (a := ⟨x + δ, x + δ⟩) n (by dsimp only; omega) (by show _ ≤ (16777216 : Int); dsimp only; omega)) (gT rfl (narrow (a := way x δ) n (by unfold way; dsimp only; omega) (by show _ ≤ (16777216 : Int); unfold way; dsimp only; omega)) rfl)
theorem advance_drift {x v H δ T last : Int} {h : Int} (hH : mn h (w_i64 (last - T)) = H) (hh : 0 < h ∧ h ≤ 16384) (s : Stp x v H δ) (n : Nat) : control_Advance (n + 10) (tp ⟨v, v⟩) [⟨x, x⟩] ⟨ctl, T, last, h⟩ = some (seg x H δ T, mn (2 * h) 16384, 0) := by
  unfold control_Advance
  dsimp only
  rw [hH]
  refine bT (istep_drift s T n) (gT rfl (accept_drift s T n) (iF (by simp) (bT (v := h) ?_ ?_)))
  · rw [if_pos (by simp)]
  · unfold control_Grow
    rw [show w_i64 (2 * h) = 2 * h from w64 (by omega) (by omega)]
    rfl
end Go.Proofs.YtpmgpcklieincaaGreatDoor
set_option linter.unusedVariables false
set_option linter.unusedSimpArgs false
set_option maxRecDepth 10000
namespace Go.Proofs.YtpmgpcklieincaaGreatDoor
def L6 (u x : Int) : List TSegment := [seg x 4096 (1 * u) 0, seg (x + 1 * u) 8192 (2 * u) 4096, seg (x + 3 * u) 16384 (4 * u) 12288, seg (x + 7 * u) 16384 (4 * u) 28672, seg (x + 11 * u) 16384 (4 * u) 45056, seg (x + 15 * u) 4096 (1 * u) 61440]
theorem loop_step {v : Int} {n : Nat} {a1 : List TInterval} {t3 t4 t5 : Bool} {t9 T h x H δ T' h' x' : Int} {k : Nat} {acc : List TSegment} {r : Option ((List TSegment × Int) ⊕ (List TSegment))} (hT : T < 65536) (hacc : acc.length < 256) (hH : mn h (w_i64 (65536 - T)) = H) (hh : 0 < h ∧ h ≤ 16384) (s : Stp x v H δ) (e1 : w_i64 (T + H) = T') (e2 : mn (2 * h) 16384 = h') (e3 : x + δ = x')
    (hr : flow_Integrate.l17 (n + 10) (tp ⟨v, v⟩) a1 ⟨ctl, 0, 65536⟩ t3 t4 t5 t9 k T' h' [⟨x', x'⟩] (acc ++ [seg x H δ T]) = r) : flow_Integrate.l17 (n + 10) (tp ⟨v, v⟩) a1 ⟨ctl, 0, 65536⟩ t3 t4 t5 t9 (k + 1) T h [⟨x, x⟩] acc = r := by
  unfold flow_Integrate.l17
  refine iT (by simpa using hT) (bT (advance_drift hH hh s n) (iT rfl (iF (by simp; omega) (iT (by omega) ?_))))
  show flow_Integrate.l17 (n + 10) (tp ⟨v, v⟩) a1 ⟨ctl, 0, 65536⟩ t3 t4 t5 t9 k (w_i64 (T + H)) (mn (2 * h) 16384) [⟨x + δ, x + δ⟩] (acc ++ [seg x H δ T]) = r
  rw [e1, e2, e3]; exact hr
theorem stp {u x : Int} (hu : -32768 ≤ u ∧ u ≤ 32768) (hx : -8388608 ≤ x ∧ x ≤ 8388608) (g : Int) (hg : 1 ≤ g ∧ g ≤ 4) : Stp x (16 * u) (4096 * g) (g * u) :=
  ⟨hx, by omega, by omega, by rw [Int.mul_comm 4096, Int.mul_assoc, ← Int.mul_assoc 4096 16 u, show (4096 : Int) * 16 = 65536 from rfl, Int.mul_comm 65536 u, ← Int.mul_assoc]⟩
theorem flow6 {u x : Int} (hu : -32768 ≤ u ∧ u ≤ 32768) (hx : -4194304 ≤ x ∧ x ≤ 4194304) (n : Nat) : flow_Integrate (n + 100) (tp ⟨16 * u, 16 * u⟩) [⟨x, x⟩] ⟨ctl, 0, 65536⟩ = some (L6 u x, 0) := by
  unfold flow_Integrate
  refine bT (v := true) rfl (gT rfl (v := true) (by decide) (gT rfl (v := true) (by decide) (iF (by decide) (bT (v := 4096) (by decide) ?_))))
  have h : flow_Integrate.l17 (n + 90 + 10) (tp ⟨16 * u, 16 * u⟩) [⟨x, x⟩] ⟨ctl, 0, 65536⟩ true true true 4096 (n + 99 + 1) 0 4096 [⟨x, x⟩] [] = some (.inr (L6 u x)) := by
    refine loop_step (k := n + 99) (by decide) (by decide) (H := 4096) (by decide) (by decide) (stp hu (by omega) 1 (by decide)) (T' := 4096) (by decide) (h' := 8192) (by decide) rfl ?_
    refine loop_step (k := n + 98) (by decide) (by simp) (H := 8192) (by decide) (by decide) (stp hu (by omega) 2 (by decide)) (T' := 12288) (by decide) (h' := 16384) (by decide) (x' := x + 3 * u) (by omega) ?_
    refine loop_step (k := n + 97) (by decide) (by simp) (H := 16384) (by decide) (by decide) (stp hu (by omega) 4 (by decide)) (T' := 28672) (by decide) (h' := 16384) (by decide) (x' := x + 7 * u) (by omega) ?_
    refine loop_step (k := n + 96) (by decide) (by simp) (H := 16384) (by decide) (by decide) (stp hu (by omega) 4 (by decide)) (T' := 45056) (by decide) (h' := 16384) (by decide) (x' := x + 11 * u) (by omega) ?_
    refine loop_step (k := n + 95) (by decide) (by simp) (H := 16384) (by decide) (by decide) (stp hu (by omega) 4 (by decide)) (T' := 61440) (by decide) (h' := 16384) (by decide) (x' := x + 15 * u) (by omega) ?_
    refine loop_step (k := n + 94) (by decide) (by simp) (H := 4096) (by decide) (by decide) (stp hu (by omega) 1 (by decide)) (T' := 65536) (by decide) (h' := 16384) (by decide) (x' := x + 16 * u) (by omega) ?_
    show flow_Integrate.l17 (n + 90 + 10) (tp ⟨16 * u, 16 * u⟩) [⟨x, x⟩] ⟨ctl, 0, 65536⟩ true true true 4096 (n + 93 + 1) 65536 16384 [⟨x + 16 * u, x + 16 * u⟩] _ = _
    unfold flow_Integrate.l17
    exact iF (by decide) rfl
  exact bT h rfl
end Go.Proofs.YtpmgpcklieincaaGreatDoor
set_option linter.unusedVariables false
set_option linter.unusedSimpArgs false
set_option maxRecDepth 10000
namespace Go.Proofs.YtpmgpcklieincaaGreatDoor
def PS : List (Nat × Nat) := [(0, 0), (0, 1), (1, 0), (1, 1), (1, 2), (2, 1), (2, 2), (2, 3), (3, 2), (3, 3), (3, 4), (4, 3), (4, 4), (4, 5), (5, 4), (5, 5)]
theorem ov6 (u x v y : Int) (n : Nat) : approach_overlaps_1_m (n + 100) (L6 u x) (L6 v y) = some PS := by kernel_rfl
def Bd (a : TInterval) : Prop := -5000000 ≤ a.Lo ∧ a.Lo ≤ a.Hi ∧ a.Hi ≤ 5000000
theorem Bd.fin {a : TInterval} (h : Bd a) : Fin a := by unfold Bd at h; unfold Fin; omega
def dl (a b : TInterval) : TInterval := ⟨a.Lo - b.Hi, a.Hi - b.Lo⟩
theorem dl_fin {a b : TInterval} (ha : Bd a) (hb : Bd b) : Fin (dl a b) := by unfold Bd at *; unfold dl Fin; dsimp only; omega
def gap (a b : TInterval) : Int := mx (a.Lo - b.Hi) (b.Lo - a.Hi)
theorem mag_b {a b : TInterval} (ha : Bd a) (hb : Bd b) : 0 ≤ mag (dl a b) ∧ mag (dl a b) ≤ 10000000 ∧ 0 ≤ sqm (dl a b) ∧ sqm (dl a b) ≤ mag (dl a b) := by
  unfold Bd at *
  have h1 := mxl (dl a b).Hi (-(dl a b).Lo)
  have h2 := mxl (mx (dl a b).Lo (-(dl a b).Hi)) 0
  have h3 := mxl (dl a b).Lo (-(dl a b).Hi)
  unfold mag sqm
  unfold dl at *
  dsimp only at *
  omega
theorem sqd {a b : TInterval} (ha : Bd a) (hb : Bd b) (k : Nat) : box_SquaredDistance k [a] [b] = some ⟨sqm (dl a b) * sqm (dl a b) / 65536, cdiv (mag (dl a b) * mag (dl a b)) 65536⟩ := by
  have hm := mag_b ha hb
  have hf := dl_fin ha hb
  have e1 : interval_Sub a b = some (dl a b) := by
    rw [sub_fin ha.fin hb.fin]
    have := nw_fin hf
    unfold dl at this
    rw [this]; rfl
  have p1 := Int.mul_nonneg hm.2.2.1 hm.2.2.1
  have p2 := sq_le hm.2.2.1 hm.2.2.2
  have p3 := sq_le hm.1 hm.2.1
  have fz : Fin ⟨sqm (dl a b) * sqm (dl a b) / 65536, cdiv (mag (dl a b) * mag (dl a b)) 65536⟩ := by
    unfold Fin cdiv; dsimp only; omega
  have e2 : interval_Square (dl a b) = some ⟨sqm (dl a b) * sqm (dl a b) / 65536, cdiv (mag (dl a b) * mag (dl a b)) 65536⟩ := by rw [sq_fin hf, nw_fin fz]
  have e3 := add_ex (a := ⟨0, 0⟩) (by unfold Fin; decide) fz (by dsimp only; rw [Int.zero_add, Int.zero_add]; exact fz)
  dsimp only at e3
  rw [Int.zero_add, Int.zero_add] at e3
  unfold box_SquaredDistance
  exact iT rfl (bT rfl (bT rfl (bT e1 (bT e2 (bT e3 rfl)))))
theorem mulDD {D : Int} (h : 0 ≤ D ∧ D ≤ 4194304) : fixed_Mul D D = some (D * D / 65536, cdiv (D * D) 65536) := mul_eq (by unfold Wid; omega) (by unfold Wid; omega)
theorem sep {a b : TInterval} (ha : Bd a) (hb : Bd b) {D : Int} (h : 0 ≤ D ∧ D ≤ 4194304) (n : Nat) : ∃ t, approach_separated (n + 100) [a] [b] D = some t ∧ (t = true → D < gap a b) := by
  have w1 : w_i64 (a.Lo - b.Hi) = a.Lo - b.Hi := by unfold Bd at *; exact w64 (by omega) (by omega)
  have w2 : w_i64 (b.Lo - a.Hi) = b.Lo - a.Hi := by unfold Bd at *; exact w64 (by omega) (by omega)
  have hm := mag_b ha hb
  obtain ⟨t, ht, ht2⟩ : ∃ t, box_Separated (n + 100) [a] [b] D = some t ∧ (t = true → D < gap a b) := by
    have hfz : Fin ⟨sqm (dl a b) * sqm (dl a b) / 65536, cdiv (mag (dl a b) * mag (dl a b)) 65536⟩ := by
      have p1 := Int.mul_nonneg hm.2.2.1 hm.2.2.1
      have p2 := sq_le hm.2.2.1 hm.2.2.2
      have p3 := sq_le hm.1 hm.2.1
      unfold Fin cdiv; dsimp only; omega
    refine ⟨_, by unfold box_Separated; exact bT (sqd ha hb _) (bT (mulDD h) (bT (isEnt_fin hfz) rfl)), fun e => ?_⟩
    simp only [Bool.not_false, Bool.true_and, decide_eq_true_eq] at e
    apply Classical.byContradiction
    intro hg
    have hs : sqm (dl a b) ≤ D := by
      have h1 := mxl (a.Lo - b.Hi) (b.Lo - a.Hi)
      have h2 := mxl (mx (dl a b).Lo (-(dl a b).Hi)) 0
      have h3 := mxl (dl a b).Lo (-(dl a b).Hi)
      unfold gap at hg
      unfold sqm
      unfold dl at *
      dsimp only at *
      omega
    have p := sq_le hm.2.2.1 hs
    unfold cdiv at e
    omega
  unfold approach_separated
  by_cases hg : gap a b > D
  · refine ⟨true, bT (v := .inl true) ?_ rfl, fun _ => hg⟩
    show approach_separated.l7 (n + 100) [a] [b] D (n + 99 + 1) 0 = _
    unfold approach_separated.l7
    refine iT (by simp) (iT (by simp) (bT rfl (iT (by simp) (bT rfl (bT (isEnt_fin ha.fin) (gT rfl (isEnt_fin hb.fin) (iT ?_ rfl)))))))
    rw [w1, w2]
    simpa [gap] using hg
  · refine ⟨t, bT (v := .inr ()) ?_ ?_, ht2⟩
    rotate_left
    · exact bT ht rfl
    show approach_separated.l7 (n + 100) [a] [b] D (n + 99 + 1) 0 = _
    unfold approach_separated.l7
    refine iT (by simp) (iT (by simp) (bT rfl (iT (by simp) (bT rfl (bT (isEnt_fin ha.fin) (gT rfl (isEnt_fin hb.fin) (iF ?_ ?_)))))))
    · rw [w1, w2]
      simpa [gap] using hg
    · show approach_separated.l7 (n + 100) [a] [b] D (n + 98 + 1) 1 = _
      unfold approach_separated.l7
      exact iF (by simp) rfl
def Tubes (a : List TSegment) (A : Nat → TInterval) : Prop := ∀ i, i < 6 → ∃ s, a[i]? = some s ∧ s.Tube = [A i] ∧ Bd (A i)
theorem close_fold {a b : List TSegment} {A B : Nat → TInterval} (hA : Tubes a A) (hB : Tubes b B) {D : Int} (h : 0 ≤ D ∧ D ≤ 4194304) (n : Nat) : ∀ zs : List (Nat × Nat), (∀ z ∈ zs, z.1 < 6 ∧ z.2 < 6) →
    ∃ r, approach_close_1_m.l7 (n + 100) a b ⟨1, D⟩ zs = some r ∧ (r = [] → ∀ z ∈ zs, D < gap (A z.1) (B z.2))
  | [], _ => ⟨[], rfl, fun _ z hz => by cases hz⟩
  | z :: zs, hz => by
    obtain ⟨r, hr1, hr2⟩ := close_fold hA hB h n zs fun w hw => hz w (List.mem_cons_of_mem _ hw)
    have hz0 := hz z (List.mem_cons_self ..)
    obtain ⟨s, hs, hst, hsb⟩ := hA z.1 hz0.1
    obtain ⟨q, hq, hqt, hqb⟩ := hB z.2 hz0.2
    obtain ⟨t, ht, ht2⟩ := sep hsb hqb h n
    have e : approach_separated (n + 100) (s.Tube.take (1 : Int).toNat) (q.Tube.take (1 : Int).toNat) D = some t := by rw [hst, hqt]; exact ht
    unfold approach_close_1_m.l7
    cases t with
    | true =>
      refine ⟨r, bT hs (bT hq (iT (by rw [hst]; simp) (iT (by rw [hqt]; simp) (bT e (bT rfl (iF (by decide) (iT rfl hr1))))))), fun hr w hw => ?_⟩
      rcases List.mem_cons.1 hw with rfl | hw
      · exact ht2 rfl
      · exact hr2 hr w hw
    | false =>
      exact ⟨_, bT hs (bT hq (iT (by rw [hst]; simp) (iT (by rw [hqt]; simp) (bT e (bT rfl (iT rfl (bT hr1 rfl))))))), fun hr => by cases hr⟩
def far (a b : TInterval) : Int := cdiv (mag (dl a b) * mag (dl a b)) 65536
theorem min_fold {a b : List TSegment} {A B : Nat → TInterval} (hA : Tubes a A) (hB : Tubes b B) (n : Nat) (S : Int) : ∀ (zs : List (Nat × Nat)) (x9 x10 x11 x12 : Int) (x13 : Bool), (∀ z ∈ zs, z.1 < 6 ∧ z.2 < 6) →
    ∃ t f, approach_MinDistance.l14 (n + 100) a b 1 zs x9 x10 x11 x12 x13 = some (t, f) ∧ ((zs ≠ [] ∨ x10 = x12) → t ≠ Ent → t.Hi < S → x12 < S ∨ ∃ z ∈ zs, far (A z.1) (B z.2) < S)
  | [], x9, x10, x11, x12, x13, _ => by
    unfold approach_MinDistance.l14
    cases x13 with
    | false => exact ⟨_, _, iT rfl rfl, fun h1 h2 h3 => by
        rcases h1 with h1 | h1
        · exact absurd rfl h1
        · left; rw [← h1]; exact h3⟩
    | true =>
      refine ⟨_, _, iF (by decide) (bT (new_eq _ _) rfl), fun h1 h2 h3 => ?_⟩
      rcases h1 with h1 | h1
      · exact absurd rfl h1
      · left
        rw [← h1]
        unfold nw at h2 h3
        split at h2
        · exact absurd rfl h2
        · rename_i hc; rw [if_neg hc] at h3; exact h3
  | z :: zs, x9, x10, x11, x12, x13, hz => by
    have hz0 := hz z (List.mem_cons_self ..)
    obtain ⟨s, hs, hst, hsb⟩ := hA z.1 hz0.1
    obtain ⟨q, hq, hqt, hqb⟩ := hB z.2 hz0.2
    have hm := mag_b hsb hqb
    have hfz : Fin ⟨sqm (dl (A z.1) (B z.2)) * sqm (dl (A z.1) (B z.2)) / 65536, cdiv (mag (dl (A z.1) (B z.2)) * mag (dl (A z.1) (B z.2))) 65536⟩ := by
      have p1 := Int.mul_nonneg hm.2.2.1 hm.2.2.1
      have p2 := sq_le hm.2.2.1 hm.2.2.2
      have p3 := sq_le hm.1 hm.2.1
      unfold Fin cdiv; dsimp only; omega
    have e : box_SquaredDistance (n + 100) (s.Tube.take (1 : Int).toNat) (q.Tube.take (1 : Int).toNat) = some ⟨sqm (dl (A z.1) (B z.2)) * sqm (dl (A z.1) (B z.2)) / 65536, cdiv (mag (dl (A z.1) (B z.2)) * mag (dl (A z.1) (B z.2))) 65536⟩ := by rw [hst, hqt]; exact sqd hsb hqb _
    obtain ⟨p, hp⟩ : ∃ p, p = sqm (dl (A z.1) (B z.2)) * sqm (dl (A z.1) (B z.2)) / 65536 := ⟨_, rfl⟩
    have e2 : approach_minimum_1_m ⟨p, far (A z.1) (B z.2)⟩ ⟨x11, x12⟩ = some (⟨mn x11 p, mn x12 (far (A z.1) (B z.2))⟩, ⟨mn x11 p, mn x12 (far (A z.1) (B z.2))⟩) := by
      unfold approach_minimum_1_m
      refine bT (v := (p, far (A z.1) (B z.2))) (bT (isEnt_fin (by rw [hp]; exact hfz)) (iF (by decide) rfl)) rfl
    obtain ⟨t, f, h1, h2⟩ := min_fold hA hB n S zs (mn x11 p) (mn x12 (far (A z.1) (B z.2))) (mn x11 p) (mn x12 (far (A z.1) (B z.2))) true fun w hw => hz w (List.mem_cons_of_mem _ hw)
    refine ⟨t, f, ?_, fun _ h3 h4 => ?_⟩
    · unfold approach_MinDistance.l14
      refine bT hs (bT hq (iT (by rw [hst]; simp) (iT (by rw [hqt]; simp) (bT e (bT (v := (⟨mn x11 p, mn x12 (far (A z.1) (B z.2))⟩, ⟨mn x11 p, mn x12 (far (A z.1) (B z.2))⟩)) ?_ h1)))))
      rw [← hp]; exact e2
    · rcases h2 (.inr rfl) h3 h4 with h5 | ⟨w, hw, h5⟩
      · have := mnl x12 (far (A z.1) (B z.2))
        by_cases h6 : x12 < S
        · exact .inl h6
        · exact .inr ⟨z, List.mem_cons_self .., by omega⟩
      · exact .inr ⟨w, List.mem_cons_of_mem _ hw, h5⟩
theorem PS_lt : ∀ z ∈ PS, z.1 < 6 ∧ z.2 < 6 := by decide
theorem classify {a b : List TSegment} {A B : Nat → TInterval} (hA : Tubes a A) (hB : Tubes b B) {D : Int} (h : 0 ≤ D ∧ D ≤ 4194304) (n : Nat) (ho : approach_overlaps_1_m (n + 100) a b = some PS) :
    ∃ r, approach_Classify (n + 100) a b ⟨1, D⟩ = some r ∧ (r = 1 → ∀ z ∈ PS, D < gap (A z.1) (B z.2)) ∧ (r = -1 → ∃ z ∈ PS, far (A z.1) (B z.2) < D * D / 65536) ∧ ∃ t f, approach_MinDistance (n + 100) a b 1 = some (t, f) := by
  obtain ⟨r, hr1, hr2⟩ := close_fold hA hB h n PS PS_lt
  obtain ⟨t, f, h1, h2⟩ := min_fold hA hB n (D * D / 65536) PS 0 0 2147483648 2147483648 false PS_lt
  have hmd : approach_MinDistance (n + 100) a b 1 = some (t, f) := by unfold approach_MinDistance; exact bT ho h1
  have hc : approach_close_1_m (n + 100) a b ⟨1, D⟩ = some r := by unfold approach_close_1_m; exact bT ho hr1
  unfold approach_Classify
  cases r with
  | nil => exact ⟨1, bT hc rfl, fun _ => hr2 rfl, (fun e => absurd e (by decide)), t, f, hmd⟩
  | cons z zs =>
    have hl : ∃ r, approach_Classify.l5 (n + 100) a b ⟨1, D⟩ (z :: zs) = some r ∧ (r = 0 ∨ r = -1) ∧ (r = -1 → t ≠ Ent ∧ t.Hi < D * D / 65536) := by
      unfold approach_Classify.l5
      by_cases c : t ≠ Ent ∧ t.Hi < D * D / 65536
      · refine ⟨-1, bT hmd (bT (mulDD h) (bT (isEnt (a := t)) (iT ?_ rfl))), .inr rfl, fun _ => c⟩
        simp [c.1, c.2]
      · refine ⟨0, bT hmd (bT (mulDD h) (bT (isEnt (a := t)) (iF ?_ rfl))), .inl rfl, (fun e => absurd e (by decide))⟩
        simpa using c
    obtain ⟨r, h3, h4, h5⟩ := hl
    refine ⟨r, bT hc h3, (fun e => absurd e (by omega)), (fun e => ?_), t, f, hmd⟩
    obtain ⟨h6, h7⟩ := h5 e
    rcases h2 (.inl (by decide)) h6 h7 with h8 | h8
    · have := sq_le h.1 h.2
      omega
    · exact h8
end Go.Proofs.YtpmgpcklieincaaGreatDoor
set_option linter.unusedVariables false
set_option linter.unusedSimpArgs false
set_option maxRecDepth 10000
namespace Go.Proofs.YtpmgpcklieincaaGreatDoor
def kk : Nat → Int | 0 => 0 | 1 => 1 | 2 => 3 | 3 => 7 | 4 => 11 | _ => 15
def gg : Nat → Int | 0 => 1 | 1 => 2 | 2 => 4 | 3 => 4 | 4 => 4 | _ => 1
theorem way_b {x k g u : Int} (hu : -32768 ≤ u ∧ u ≤ 32768) (hx : -4194304 ≤ x ∧ x ≤ 4194304) (hk : 0 ≤ k ∧ k ≤ 15) (hg : 1 ≤ g ∧ g ≤ 4) : Bd (way (x + k * u) (g * u)) := by
  have h1 := prod_bound (x := k) (y := u) (A := 15) (B := 32768) (by omega) hu
  have h2 := prod_bound (x := g) (y := u) (A := 4) (B := 32768) (by omega) hu
  have hm := mnx (g * u)
  unfold way Bd; dsimp only; omega
theorem tubes6 {x u : Int} (hu : -32768 ≤ u ∧ u ≤ 32768) (hx : -4194304 ≤ x ∧ x ≤ 4194304) : Tubes (L6 u x) fun i => way (x + kk i * u) (gg i * u) := by
  intro i hi
  match i, hi with
  | 0, _ => exact ⟨_, rfl, by show [way x (1 * u)] = [way (x + 0 * u) (1 * u)]; rw [Int.zero_mul, Int.add_zero], way_b hu hx (by decide) (by decide)⟩
  | 1, _ => exact ⟨_, rfl, rfl, way_b hu hx (by decide) (by decide)⟩
  | 2, _ => exact ⟨_, rfl, rfl, way_b hu hx (by decide) (by decide)⟩
  | 3, _ => exact ⟨_, rfl, rfl, way_b hu hx (by decide) (by decide)⟩
  | 4, _ => exact ⟨_, rfl, rfl, way_b hu hx (by decide) (by decide)⟩
  | 5, _ => exact ⟨_, rfl, rfl, way_b hu hx (by decide) (by decide)⟩
theorem point_ok {y : Int} (h1 : -100000000 ≤ y) (h2 : y ≤ 100000000) : armillaryref02_Point y = some ⟨y, y⟩ := by
  unfold armillaryref02_Point
  refine bT (refnew_nw (Int.le_refl y)) ?_
  rw [nw_fin (by unfold Fin; dsimp only; omega)]
theorem flow100 {u x : Int} (hu : -32768 ≤ u ∧ u ≤ 32768) (hx : -4194304 ≤ x ∧ x ≤ 4194304) : flow_Integrate 100 (tp ⟨16 * u, 16 * u⟩) [⟨x, x⟩] ⟨ctl, 0, 65536⟩ = some (L6 u x, 0) := flow6 hu hx 0
theorem comp100 (c : TInterval) : tape_Compile 100 ⟨[⟨#[120]⟩], [[⟨1, 0, c⟩]]⟩ = some (tp c) := compile_drift c 90
theorem traj {X V : Int} (hV : -32768 ≤ V ∧ V ≤ 32767) (id : Int) : armillarytop_trajectory24 100 id ⟨X, V⟩ = some (⟨id, L6 V (Int.tmod X 4194304)⟩, true) := by
  have e1 := Int.tmod_lt_of_pos X (b := 4194304) (by decide)
  have e2 := Int.lt_tmod_of_pos X (b := 4194304) (by decide)
  have wv : w_i64 (w_i64 V * 16) = 16 * V := by rw [w64 (x := V) (by omega) (by omega)]; exact w64e (by omega) (by omega) (by omega)
  have wx : w_i64 (Int.tmod X 4194304) = Int.tmod X 4194304 := w64 (by omega) (by omega)
  have h1 : armillaryref14_Control 1 = some ctl := by kernel_rfl
  have h2 : armillaryref02_Point (w_i64 (w_i64 V * 16)) = some ⟨16 * V, 16 * V⟩ := by rw [wv]; exact point_ok (by omega) (by omega)
  have h3 : armillarytop_drift ⟨16 * V, 16 * V⟩ = some ⟨[⟨#[120]⟩], [[⟨1, 0, ⟨16 * V, 16 * V⟩⟩]]⟩ := rfl
  have h5 : armillaryref02_Point (w_i64 (Int.tmod X 4194304)) = some ⟨Int.tmod X 4194304, Int.tmod X 4194304⟩ := by rw [wx]; exact point_ok (by omega) (by omega)
  have h6 := flow100 (u := V) (x := Int.tmod X 4194304) (by omega) (by omega)
  unfold armillarytop_trajectory24
  dsimp only
  rw [h1, Option.bind_some, h2, Option.bind_some, h3, Option.bind_some, comp100, Option.bind_some, h5, Option.bind_some, h6, Option.bind_some]
  rfl
theorem in1b {a b : List TSegment} {D : Int} {v : TVerdict} : screening_pairs_s50.l25 100 [⟨1, a⟩, ⟨2, b⟩] ⟨1, D⟩ 0 [] 0 ⟨1, a⟩ 99 [v] 1 = some (.inr [v]) := by
  have e2 : w_i64 (0 + 1) = 1 := w1
  show screening_pairs_s50.l25 100 [⟨1, a⟩, ⟨2, b⟩] ⟨1, D⟩ 0 [] 0 ⟨1, a⟩ (98 + 1) [v] 1 = _
  unfold screening_pairs_s50.l25
  rw [e2]
  exact iF (by simp) rfl
theorem in1 {a b : List TSegment} {D : Int} {v : TVerdict} (hs : screening_Screen_1_m 100 ⟨1, a⟩ ⟨2, b⟩ ⟨1, D⟩ = some (v, 0)) : screening_pairs_s50.l25 100 [⟨1, a⟩, ⟨2, b⟩] ⟨1, D⟩ 0 [] 0 ⟨1, a⟩ 100 [] 0 = some (.inr [v]) := by
  have e : (w_i64 (0 + 1)).toNat = 1 := by decide
  have e2 : w_i64 (0 + 1) = 1 := w1
  show screening_pairs_s50.l25 100 [⟨1, a⟩, ⟨2, b⟩] ⟨1, D⟩ 0 [] 0 ⟨1, a⟩ (99 + 1) [] 0 = _
  unfold screening_pairs_s50.l25
  rw [e2]
  refine iT (by simp) (iT (by simp) ?_)
  rw [show (List.drop (1 : Int).toNat [(⟨1, a⟩ : TTrajectory), ⟨2, b⟩])[(0 : Int).toNat]? = some ⟨2, b⟩ from rfl, Option.bind_some]
  dsimp only
  rw [hs, Option.bind_some]
  dsimp only
  refine iF (by simp) (iT (by simp) ?_)
  exact in1b
theorem in2 {a b : List TSegment} {D : Int} {v : TVerdict} : screening_pairs_s50.l25 100 [⟨1, a⟩, ⟨2, b⟩] ⟨1, D⟩ 0 [v] 1 ⟨2, b⟩ 100 [v] 0 = some (.inr [v]) := by
  have e2 : w_i64 (1 + 1) = 2 := w2
  show screening_pairs_s50.l25 100 [⟨1, a⟩, ⟨2, b⟩] ⟨1, D⟩ 0 [v] 1 ⟨2, b⟩ (99 + 1) [v] 0 = _
  unfold screening_pairs_s50.l25
  rw [e2]
  exact iF (by simp) rfl
theorem out1 {a b : List TSegment} {D : Int} {v : TVerdict} (hs : screening_Screen_1_m 100 ⟨1, a⟩ ⟨2, b⟩ ⟨1, D⟩ = some (v, 0)) : screening_pairs_s50.l13 100 [⟨1, a⟩, ⟨2, b⟩] ⟨1, D⟩ 0 100 [] 0 = some (.inr [v]) := by
  have e1 : w_i64 (0 + 1) = 1 := w1
  have e2 : w_i64 (1 + 1) = 2 := w2
  have o3 : screening_pairs_s50.l13 100 [⟨1, a⟩, ⟨2, b⟩] ⟨1, D⟩ 0 98 [v] 2 = some (.inr [v]) := by
    show screening_pairs_s50.l13 100 [⟨1, a⟩, ⟨2, b⟩] ⟨1, D⟩ 0 (97 + 1) [v] 2 = _
    unfold screening_pairs_s50.l13
    exact iF (by simp) rfl
  have o2 : screening_pairs_s50.l13 100 [⟨1, a⟩, ⟨2, b⟩] ⟨1, D⟩ 0 99 [v] 1 = some (.inr [v]) := by
    show screening_pairs_s50.l13 100 [⟨1, a⟩, ⟨2, b⟩] ⟨1, D⟩ 0 (98 + 1) [v] 1 = _
    unfold screening_pairs_s50.l13
    rw [e2]
    refine iT (by simp) ?_
    rw [if_pos (by simp), show [(⟨1, a⟩ : TTrajectory), ⟨2, b⟩][(1 : Int).toNat]? = some ⟨2, b⟩ from rfl, Option.bind_some, if_pos (by simp), in2, Option.bind_some]
    exact o3
  show screening_pairs_s50.l13 100 [⟨1, a⟩, ⟨2, b⟩] ⟨1, D⟩ 0 (99 + 1) [] 0 = _
  unfold screening_pairs_s50.l13
  rw [e1]
  refine iT (by simp) ?_
  rw [if_pos (by simp), show [(⟨1, a⟩ : TTrajectory), ⟨2, b⟩][(0 : Int).toNat]? = some ⟨1, a⟩ from rfl, Option.bind_some, if_pos (by simp), in1 hs, Option.bind_some]
  exact o2
theorem screen {a b : List TSegment} {D r : Int} {t : TInterval} {f : Bool} (hc : approach_Classify 100 a b ⟨1, D⟩ = some r) (hm : approach_MinDistance 100 a b 1 = some (t, f)) :
    ∃ d, screening_Screen 100 [⟨1, a⟩, ⟨2, b⟩] ⟨1, D⟩ = some ([⟨1, 2, r, d⟩], 0) := by
  obtain ⟨d, hd⟩ : ∃ d : TInterval, screening_verdict 100 ⟨1, a⟩ ⟨2, b⟩ ⟨1, D⟩ = some ⟨1, 2, r, d⟩ := by
    unfold screening_verdict
    dsimp only
    cases f with
    | true => exact ⟨_, bT hm (bT (v := (t.Lo, t.Hi)) (iF (by simp) rfl) (bT hc rfl))⟩
    | false => exact ⟨⟨-2147483648, 2147483648⟩, bT hm (bT (v := (-2147483648, 2147483648)) (iT rfl rfl) (bT hc rfl))⟩
  have hs : screening_Screen_1_m 100 ⟨1, a⟩ ⟨2, b⟩ ⟨1, D⟩ = some (⟨1, 2, r, d⟩, 0) := by unfold screening_Screen_1_m; dsimp only; rw [hd, Option.bind_some]
  refine ⟨d, ?_⟩
  have hck : screening_check 100 [⟨1, a⟩, ⟨2, b⟩] = some 0 := by kernel_rfl
  unfold screening_Screen screening_pairs_s50
  rw [hck, Option.bind_some, if_neg (by decide), out1 hs, Option.bind_some]
  rfl
theorem sanity24_ok : armillarytop_sanity24 100 = some true := by
  have t1 := traj (X := 0) (V := 4096) (by decide) 1
  have t2 := traj (X := 262144) (V := -4096) (by decide) 2
  have c1 : approach_Classify 100 (L6 4096 0) (L6 (-4096) 262144) ⟨1, 65536⟩ = some 1 := by kernel_rfl
  have c2 : approach_Classify 100 (L6 4096 0) (L6 (-4096) 262144) ⟨1, 327680⟩ = some (-1) := by kernel_rfl
  have hA := tubes6 (u := 4096) (x := 0) (by decide) (by decide)
  have hB := tubes6 (u := -4096) (x := 262144) (by decide) (by decide)
  obtain ⟨_, _, _, _, t, f, hm⟩ := classify hA hB (D := 65536) (by decide) 0 (ov6 _ _ _ _ 0)
  obtain ⟨d1, s1⟩ := screen c1 hm
  obtain ⟨d2, s2⟩ := screen c2 hm
  have t1' : armillarytop_trajectory24 100 1 ⟨0, 4096⟩ = some (⟨1, L6 4096 0⟩, true) := t1
  have t2' : armillarytop_trajectory24 100 2 ⟨262144, -4096⟩ = some (⟨2, L6 (-4096) 262144⟩, true) := t2
  unfold armillarytop_sanity24
  rw [t1', Option.bind_some, t2', Option.bind_some]
  dsimp only
  rw [s1, Option.bind_some, s2, Option.bind_some]
  rfl
end Go.Proofs.YtpmgpcklieincaaGreatDoor
set_option linter.unusedVariables false
set_option linter.unusedSimpArgs false
set_option maxRecDepth 10000
namespace Go.Proofs.YtpmgpcklieincaaGreatDoor
theorem posn {x u k g p : Int} (h1 : k * 65535 ≤ p) (h2 : p ≤ (k + g) * 65535) : (way (x + k * u) (g * u)).Lo * 65535 ≤ x * 65535 + u * p ∧ x * 65535 + u * p ≤ (way (x + k * u) (g * u)).Hi * 65535 := by
  have hm := mnx (g * u)
  obtain ⟨q, hq⟩ : ∃ q, q = p - k * 65535 := ⟨_, rfl⟩
  have e1 : u * p = (k * u) * 65535 + u * q := by
    rw [hq, Int.mul_sub, ← Int.mul_assoc u k, Int.mul_comm u k]; omega
  have e2 : u * (g * 65535) = (g * u) * 65535 := by rw [← Int.mul_assoc, Int.mul_comm u g]
  have hq0 : 0 ≤ q := by omega
  have hq1 : q ≤ g * 65535 := by omega
  unfold way
  dsimp only
  rw [e1]
  rcases Int.le_total 0 u with h | h
  · have a1 := mulL hq0 h
    have a2 := mulL hq1 h
    rw [Int.mul_zero] at a1
    rw [e2] at a2
    omega
  · have a1 := mulLn hq0 h
    have a2 := mulLn hq1 h
    rw [Int.mul_zero] at a1
    rw [e2] at a2
    omega
theorem slot (p : Int) (h0 : 0 ≤ p) (h1 : p ≤ 1048560) : ∃ i, i < 6 ∧ (i, i) ∈ PS ∧ kk i * 65535 ≤ p ∧ p ≤ (kk i + gg i) * 65535 := by
  by_cases c1 : p ≤ 65535
  · exact ⟨0, by decide, by decide, by show 0 * 65535 ≤ p; omega, by show p ≤ (0 + 1) * 65535; omega⟩
  by_cases c2 : p ≤ 196605
  · exact ⟨1, by decide, by decide, by show 1 * 65535 ≤ p; omega, by show p ≤ (1 + 2) * 65535; omega⟩
  by_cases c3 : p ≤ 458745
  · exact ⟨2, by decide, by decide, by show 3 * 65535 ≤ p; omega, by show p ≤ (3 + 4) * 65535; omega⟩
  by_cases c4 : p ≤ 720885
  · exact ⟨3, by decide, by decide, by show 7 * 65535 ≤ p; omega, by show p ≤ (7 + 4) * 65535; omega⟩
  by_cases c5 : p ≤ 983025
  · exact ⟨4, by decide, by decide, by show 11 * 65535 ≤ p; omega, by show p ≤ (11 + 4) * 65535; omega⟩
  · exact ⟨5, by decide, by decide, by show 15 * 65535 ≤ p; omega, by show p ≤ (15 + 1) * 65535; omega⟩
theorem dist {X Y U V t : Int} (hU : -32768 ≤ U ∧ U ≤ 32767) (hV : -32768 ≤ V ∧ V ≤ 32767) (ht : 0 ≤ t ∧ t ≤ 65535) :
    armillarytop_distance24 ⟨X, U⟩ ⟨Y, V⟩ t = some (mx ((Int.tmod X 4194304 - Int.tmod Y 4194304) * 65535 + (U - V) * 16 * t) (-((Int.tmod X 4194304 - Int.tmod Y 4194304) * 65535 + (U - V) * 16 * t))) := by
  have e1 := Int.tmod_lt_of_pos X (b := 4194304) (by decide)
  have e2 := Int.lt_tmod_of_pos X (b := 4194304) (by decide)
  have e3 := Int.tmod_lt_of_pos Y (b := 4194304) (by decide)
  have e4 := Int.lt_tmod_of_pos Y (b := 4194304) (by decide)
  have pb := prod_bound (x := (U - V) * 16) (y := t) (A := 1048560) (B := 65535) (by omega) (by omega)
  have a1 : w_i64 (Int.tmod X 4194304) = Int.tmod X 4194304 := w64 (by omega) (by omega)
  have a2 : w_i64 (Int.tmod Y 4194304) = Int.tmod Y 4194304 := w64 (by omega) (by omega)
  have a3 : w_i64 (Int.tmod X 4194304 - Int.tmod Y 4194304) = Int.tmod X 4194304 - Int.tmod Y 4194304 := w64 (by omega) (by omega)
  have a4 : w_i64 ((Int.tmod X 4194304 - Int.tmod Y 4194304) * 65535) = (Int.tmod X 4194304 - Int.tmod Y 4194304) * 65535 := w64 (by omega) (by omega)
  have a5 : w_i64 U = U := w64 (by omega) (by omega)
  have a6 : w_i64 V = V := w64 (by omega) (by omega)
  have a7 : w_i64 (U - V) = U - V := w64 (by omega) (by omega)
  have a8 : w_i64 ((U - V) * 16) = (U - V) * 16 := w64 (by omega) (by omega)
  have a9 : w_i64 t = t := w64 (by omega) (by omega)
  have b1 : w_i64 ((U - V) * 16 * t) = (U - V) * 16 * t := w64 (by omega) (by omega)
  have b2 : w_i64 ((Int.tmod X 4194304 - Int.tmod Y 4194304) * 65535 + (U - V) * 16 * t) = (Int.tmod X 4194304 - Int.tmod Y 4194304) * 65535 + (U - V) * 16 * t := w64 (by omega) (by omega)
  have b3 : w_i64 (0 - ((Int.tmod X 4194304 - Int.tmod Y 4194304) * 65535 + (U - V) * 16 * t)) = -((Int.tmod X 4194304 - Int.tmod Y 4194304) * 65535 + (U - V) * 16 * t) := w64e (by omega) (by omega) (by omega)
  unfold armillarytop_distance24
  dsimp only
  rw [a1, a2, a3, a4, a5, a6, a7, a8, a9, Option.bind_some, b1, b2, b3]
  rfl
theorem both {X U Y V D : Int} (hU : -32768 ≤ U ∧ U ≤ 32767) (hV : -32768 ≤ V ∧ V ≤ 32767) (hD : 0 ≤ D ∧ D < 4194304) :
    ∃ r d, approach_Classify 100 (L6 U (Int.tmod X 4194304)) (L6 V (Int.tmod Y 4194304)) ⟨1, D⟩ = some r ∧ screening_Screen 100 [⟨1, L6 U (Int.tmod X 4194304)⟩, ⟨2, L6 V (Int.tmod Y 4194304)⟩] ⟨1, D⟩ = some ([⟨1, 2, r, d⟩], 0) ∧
      (r = 1 → ∀ z ∈ PS, D < gap (way (Int.tmod X 4194304 + kk z.1 * U) (gg z.1 * U)) (way (Int.tmod Y 4194304 + kk z.2 * V) (gg z.2 * V))) ∧
      (r = -1 → ∃ z ∈ PS, far (way (Int.tmod X 4194304 + kk z.1 * U) (gg z.1 * U)) (way (Int.tmod Y 4194304 + kk z.2 * V) (gg z.2 * V)) < D * D / 65536) := by
  have e1 := Int.tmod_lt_of_pos X (b := 4194304) (by decide)
  have e2 := Int.lt_tmod_of_pos X (b := 4194304) (by decide)
  have e3 := Int.tmod_lt_of_pos Y (b := 4194304) (by decide)
  have e4 := Int.lt_tmod_of_pos Y (b := 4194304) (by decide)
  obtain ⟨r, hc, h1, h2, t, f, hm⟩ := classify (tubes6 (u := U) (x := Int.tmod X 4194304) (by omega) (by omega)) (tubes6 (u := V) (x := Int.tmod Y 4194304) (by omega) (by omega)) (D := D) (by omega) 0 (ov6 _ _ _ _ 0)
  have hc' : approach_Classify 100 (L6 U (Int.tmod X 4194304)) (L6 V (Int.tmod Y 4194304)) ⟨1, D⟩ = some r := hc
  obtain ⟨d, hs⟩ := screen hc' hm
  exact ⟨r, d, hc', hs, h1, h2⟩
theorem shared : ∀ z ∈ PS, 0 ≤ mx (kk z.1) (kk z.2) ∧ mx (kk z.1) (kk z.2) ≤ 16 ∧ kk z.1 ≤ mx (kk z.1) (kk z.2) ∧ mx (kk z.1) (kk z.2) ≤ kk z.1 + gg z.1 ∧ kk z.2 ≤ mx (kk z.1) (kk z.2) ∧ mx (kk z.1) (kk z.2) ≤ kk z.2 + gg z.2 := by decide
theorem posn1 {x u k g p : Int} (h1 : k ≤ p) (h2 : p ≤ k + g) : (way (x + k * u) (g * u)).Lo ≤ x + u * p ∧ x + u * p ≤ (way (x + k * u) (g * u)).Hi := by
  have h := posn (x := x) (u := u) (k := k) (g := g) (p := p * 65535) (by omega) (by omega)
  rw [← Int.mul_assoc] at h
  omega
theorem near {X U Y V D : Int} (hU : -32768 ≤ U ∧ U ≤ 32767) (hV : -32768 ≤ V ∧ V ≤ 32767) (hD : 0 ≤ D ∧ D < 4194304) {z : Nat × Nat} (hz : z ∈ PS)
    (hf : far (way (X + kk z.1 * U) (gg z.1 * U)) (way (Y + kk z.2 * V) (gg z.2 * V)) < D * D / 65536) : ∃ k : Int, 0 ≤ k ∧ k ≤ 16 ∧ -D < X - Y + (U - V) * k ∧ X - Y + (U - V) * k < D := by
  obtain ⟨k0, k16, ka, ka', kb, kb'⟩ := shared z hz
  refine ⟨mx (kk z.1) (kk z.2), k0, k16, ?_⟩
  have pa := posn1 (x := X) (u := U) ka ka'
  have pb := posn1 (x := Y) (u := V) kb kb'
  have e : (U - V) * mx (kk z.1) (kk z.2) = U * mx (kk z.1) (kk z.2) - V * mx (kk z.1) (kk z.2) := Int.sub_mul ..
  rw [e]
  obtain ⟨A, hA⟩ : ∃ A, A = way (X + kk z.1 * U) (gg z.1 * U) := ⟨_, rfl⟩
  obtain ⟨B, hB⟩ : ∃ B, B = way (Y + kk z.2 * V) (gg z.2 * V) := ⟨_, rfl⟩
  rw [← hA] at pa hf
  rw [← hB] at pb hf
  have m1 := mxl (dl A B).Hi (-(dl A B).Lo)
  have hm : mag (dl A B) < D := by
    unfold far at hf
    have h1 := c_le (mag (dl A B) * mag (dl A B))
    have h2 : D * D / 65536 * 65536 ≤ D * D := f_le _
    refine sq_lt ?_ hD.1 (by omega)
    unfold mag
    unfold dl at *
    dsimp only at *
    omega
  unfold mag at hm
  unfold dl at *
  dsimp only at *
  omega
end Go.Proofs.YtpmgpcklieincaaGreatDoor
