/- Texts of the plain laws, put together. Own work. -/
import Derived.Test.YtglcmhldonkfdaaGreatDoorDefs
import Derived.KernelRfl
import Derived.IntWalk
set_option maxRecDepth 10000
set_option linter.unusedVariables false
set_option linter.unusedSimpArgs false
namespace Go.Proofs.YtglcmhldonkfdaaGreatDoor
open Go
theorem Zo {x : Int} (h1 : -9223372036854775808 ≤ x) (h2 : x ≤ 9223372036854775807) : qe x = x := by
 exact Go.IntWalk.i64_in x ⟨h1, h2⟩
theorem JA {a b B : Int} (hb : 0 < b) (h1 : -B ≤ a) (h2 : a ≤ B) : -B ≤ a / b ∧ a / b ≤ B := by
 have hB : 0 ≤ B := by omega
 constructor
 ·rw [Int.le_ediv_iff_mul_le hb]
  have : B * 1 ≤ B * b := Int.mul_le_mul_of_nonneg_left (by omega) hB
  have e : -B * b = -(B * b) := Int.neg_mul ..
  omega
 ·apply Int.ediv_le_of_le_mul hb
  have : B * 1 ≤ B * b := Int.mul_le_mul_of_nonneg_left (by omega) hB
  omega
def YU (a b : Int) : Int := -((-a) / b)
theorem Vx {a b c : Int} (hb : 0 < b) : YU a b ≤ c ↔ a ≤ c * b := by
 unfold YU
 have : -c ≤ (-a) / b ↔ -c * b ≤ -a := Int.le_ediv_iff_mul_le hb
 rw [Int.neg_mul] at this
 omega
theorem qa4 {a b c : Int} (hb : 0 < b) : c ≤ a / b ↔ c * b ≤ a := Int.le_ediv_iff_mul_le hb
theorem tdm (a b : Int) (hb : 0 < b) : (Int.tmod a b < 0 → Int.tdiv a b - 1 = a / b ∧ Int.tmod a b + b = a % b) ∧ (¬ Int.tmod a b < 0 → Int.tdiv a b = a / b ∧ Int.tmod a b = a % b) := by
 have h1 := Int.mul_tdiv_add_tmod a b
 have h2 := Int.tmod_lt_of_pos a hb
 have h3 : -b < Int.tmod a b := by
  have := Int.tmod_lt_of_pos (-a) hb
  rw [Int.neg_tmod] at this
  omega
 have e := fun q r => Int.ediv_emod_unique (a := a) (b := b) (r := r) (q := q) hb
 constructor
 ·intro h
  have := (e (Int.tdiv a b - 1) (Int.tmod a b + b)).2 ⟨by rw [Int.mul_sub]; omega, by omega, by omega⟩
  exact ⟨this.1.symm, this.2.symm⟩
 ·intro h
  have := (e (Int.tdiv a b) (Int.tmod a b)).2 ⟨by omega, by omega, by omega⟩
  exact ⟨this.1.symm, this.2.symm⟩
theorem qeT {a b : Int} (hb : 0 < b) : YU a b = a / b + mn (a % b) 1 := by
 have h1 := Int.mul_ediv_add_emod a b
 have h2 := Int.emod_nonneg a (by omega : b ≠ 0)
 have h3 := Int.emod_lt_of_pos a hb
 have h5 : mn (a % b) 1 = 0 ∧ a % b = 0 ∨ mn (a % b) 1 = 1 ∧ 1 ≤ a % b := by unfold mn; split <;> omega
 apply Int.le_antisymm
 ·rw [Vx hb, Int.add_mul, Int.mul_comm (a / b) b]
  rcases h5 with ⟨h5, h6⟩ | ⟨h5, h6⟩ <;> rw [h5] <;> omega
 ·rcases h5 with ⟨h5, h6⟩ | ⟨h5, h6⟩ <;> rw [h5]
  ·have := (Vx (a := a) (c := YU a b) hb).1 (Int.le_refl _)
   have h7 : a / b ≤ YU a b := by
    apply Int.ediv_le_of_le_mul hb this
   omega
  ·have h8 : ¬ YU a b ≤ a / b := by
    rw [Vx hb, Int.mul_comm]
    omega
   omega
theorem V3 {a b : Int} (hb : 0 < b) (ha1 : -4611686018427387904 ≤ a) (ha2 : a ≤ 4611686018427387904) (hb2 : b ≤ 4611686018427387904) : XH a b = some (a / b, YU a b) := by
 have hq := JA hb ha1 ha2
 obtain ⟨t1, t2⟩ := tdm a b hb
 have h2 := Int.emod_nonneg a (by omega : b ≠ 0)
 have h3 := Int.emod_lt_of_pos a hb
 have hc := qeT (a := a) hb
 have hm : 0 ≤ mn (a % b) 1 ∧ mn (a % b) 1 ≤ 1 := by unfold mn; split <;> omega
 unfold XH Zh
 rw [if_pos (by omega), if_pos (by omega)]
 by_cases h : Int.tmod a b < 0
 ·obtain ⟨e1, e2⟩ := t1 h
  have e3 : qe (Int.tdiv a b) = Int.tdiv a b := Zo (by omega) (by omega)
  have e4 : qe (Int.tdiv a b - 1) = a / b := by rw [e1]; exact Zo (by omega) (by omega)
  have e5 : qe (Int.tmod a b + b) = a % b := by rw [e2]; exact Zo (by omega) (by omega)
  simp only [h, decide_true, if_true, Option.bind_some, e3, e4, e5]
  rw [Zo (by omega) (by omega), ← hc]
 ·obtain ⟨e1, e2⟩ := t2 h
  have e3 : qe (Int.tdiv a b) = a / b := by rw [e1]; exact Zo (by omega) (by omega)
  have h' : ¬ a % b < 0 := by omega
  simp only [e2, h', decide_false, Bool.false_eq_true, if_false, Option.bind_some, e3]
  rw [Zo (by omega) (by omega), ← hc]
theorem VE {a b : Int} (hb : 0 < b) (ha1 : -4611686018427387904 ≤ a) (ha2 : a ≤ 4611686018427387904) (hb2 : b ≤ 4611686018427387904) : Yp a b = some (a / b, YU a b) := by
 unfold Yp
 rw [if_neg (by simp; omega)]
 simp only [Option.bind_some, V3 hb ha1 ha2 hb2]
theorem qca {a b : Int} (hb : b < 0) (ha1 : -4611686018427387904 ≤ a) (ha2 : a ≤ 4611686018427387904) (hb2 : -4611686018427387904 ≤ b) : Yp a b = some ((-a) / (-b), YU (-a) (-b)) := by
 unfold Yp
 rw [if_pos (by simp; omega)]
 have e1 : qe (0 - a) = -a := by rw [Zo (by omega) (by omega)]; omega
 have e2 : qe (0 - b) = -b := by rw [Zo (by omega) (by omega)]; omega
 simp only [Option.bind_some, e1, e2, V3 (a := -a) (b := -b) (by omega) (by omega) (by omega) (by omega)]
def VC (x : Int) : Prop := -2147483648 ≤ x ∧ x ≤ 2147483648
theorem YC {x y A B : Int} (hx : -A ≤ x ∧ x ≤ A) (hy : -B ≤ y ∧ y ≤ B) : -(A * B) ≤ x * y ∧ x * y ≤ A * B := by
 have hA : 0 ≤ A := by omega
 have hB : 0 ≤ B := by omega
 have h1 : x.natAbs * y.natAbs ≤ A.natAbs * B.natAbs := Nat.mul_le_mul (by omega) (by omega)
 have h2 : ((x * y).natAbs : Int) ≤ A * B := by
  rw [Int.natAbs_mul]
  have : ((A.natAbs * B.natAbs : Nat) : Int) = A * B := by
   rw [Int.natCast_mul, Int.natAbs_of_nonneg hA, Int.natAbs_of_nonneg hB]
  omega
 omega
theorem Wj {x y : Int} (hx : VC x) (hy : VC y) : Qa x y = some (x * y / 65536, YU (x * y) 65536) := by
 have := YC (A := 2147483648) (B := 2147483648) hx hy
 unfold Qa
 rw [Zo (by omega) (by omega), VE (by omega) (by omega) (by omega) (by omega)]
 rfl
theorem WJ {x y : Int} (hx : VC x) (hy : VC y) (h : 0 < y) : Xu x y = some (x * 65536 / y, YU (x * 65536) y, 0) := by
 unfold VC at hx hy
 unfold Xu
 rw [if_neg (by simp; omega), Zo (by omega) (by omega), VE (by omega) (by omega) (by omega) (by omega)]
 rfl
theorem WH {x y : Int} (hx : VC x) (hy : VC y) (h : y < 0) : Xu x y = some ((-x) * 65536 / (-y), YU ((-x) * 65536) (-y), 0) := by
 unfold VC at hx hy
 unfold Xu
 rw [if_neg (by simp; omega), Zo (by omega) (by omega), qca (by omega) (by omega) (by omega) (by omega), Int.neg_mul]
 rfl
def ZT : qa := ⟨-2147483648, 2147483648⟩
def ZS (a : qa) : Prop := -2147483648 < a.Lo ∧ a.Lo ≤ a.Hi ∧ a.Hi < 2147483648
def Ok (a : qa) : Prop := a = ZT ∨ ZS a
def nw (x y : Int) : qa := if x ≤ -2147483648 ∨ y ≥ 2147483648 ∨ x ≥ 2147483648 ∨ y ≤ -2147483648 then ZT else ⟨x, y⟩
theorem ZS.wlo {a : qa} (h : ZS a) : VC a.Lo := by unfold ZS at h; unfold VC; omega
theorem ZS.whi {a : qa} (h : ZS a) : VC a.Hi := by unfold ZS at h; unfold VC; omega
theorem V0 {a : qa} : Qz a = some (decide (a = ZT)) := by
 simp only [Qz, XD, Option.bind_some, Option.some.injEq]
 obtain ⟨l, h⟩ := a
 simp only [ZT, qa.mk.injEq, Bool.decide_and, Bool.and_true]
 rfl
theorem Vv {a : qa} : q9 a = some (decide (a = ZT)) := by
 obtain ⟨l, h⟩ := a
 simp only [q9, ZT, qa.mk.injEq, Bool.decide_and]
 rfl
theorem ZS.ne {a : qa} (h : ZS a) : decide (a = ZT) = false := by
 apply decide_eq_false
 rintro rfl
 simp [ZS, ZT] at h
theorem Zs {a : qa} (h : ZS a) : Qz a = some false := by rw [V0, h.ne]
theorem YL {a : qa} (h : ZS a) : q9 a = some false := by rw [Vv, h.ne]
theorem Jk : Qz ZT = some true := by rw [V0]; simp
theorem Zq : q9 ZT = some true := by rw [Vv]; simp
theorem W5 (x y : Int) : Qx x y = some (nw x y) := by
 unfold Qx nw XD
 simp only [Option.bind_some]
 by_cases h : x ≤ -2147483648 ∨ y ≥ 2147483648 ∨ x ≥ 2147483648 ∨ y ≤ -2147483648
 ·rw [if_pos h, if_pos (by simp; omega)]; rfl
 ·rw [if_neg h, if_neg (by simp; omega)]
theorem qb2 {x y : Int} (h : x ≤ y) : Ok (nw x y) := by
 unfold nw
 split
 ·exact .inl rfl
 ·exact .inr (by unfold ZS; simp only; omega)
theorem qbg {a b : qa} (ha : ZS a) (hb : ZS b) : Xx a b = some (nw (a.Lo + b.Lo) (a.Hi + b.Hi)) := by
 unfold Xx
 rw [Zs ha, Zs hb]
 unfold ZS at ha hb
 simp only [Option.bind_some, beq_self_eq_true, if_true, Bool.or_self, Bool.false_eq_true, if_false, W5]
 rw [Zo (by omega) (by omega), Zo (by omega) (by omega)]
theorem W6 (b : qa) : Xx ZT b = some ZT := by
 unfold Xx
 rw [Jk]
 rfl
theorem qal (a : qa) : Xx a ZT = some ZT := by
 unfold Xx
 rw [V0, Jk]
 cases decide (a = ZT) <;> rfl
theorem qeb {a : qa} (h : VC a.Lo) (h' : VC a.Hi) : YK a = some ⟨-a.Hi, -a.Lo⟩ := by
 unfold VC at h h'
 unfold YK
 rw [Zo (by omega) (by omega), Zo (by omega) (by omega)]
 congr 2 <;> omega
theorem Ok.wlo {a : qa} (h : Ok a) : VC a.Lo := by
 rcases h with rfl | h
 ·simp [ZT, VC]
 ·exact h.wlo
theorem Ok.whi {a : qa} (h : Ok a) : VC a.Hi := by
 rcases h with rfl | h
 ·simp [ZT, VC]
 ·exact h.whi
theorem qcj {a : qa} (h : Ok a) : YK a = some ⟨-a.Hi, -a.Lo⟩ := qeb h.wlo h.whi
theorem qcQ {a : qa} (h : ZS a) : ZS ⟨-a.Hi, -a.Lo⟩ := by unfold ZS at *; simp only; omega
theorem qex {a b : qa} (ha : ZS a) (hb : ZS b) : XV a b = some (nw (a.Lo - b.Hi) (a.Hi - b.Lo)) := by
 unfold XV
 rw [qeb hb.wlo hb.whi]
 simp only [Option.bind_some, qbg ha (qcQ hb)]
 congr 2
theorem bT {α β : Type} {X : Option α} {v : α} {f : α → Option β} {r : Option β} (h : X = some v) (hf : f v = r) : X.bind f = r := by
 subst h
 exact hf
theorem gT {α β : Type} {c : Prop} [Decidable c] {X D : Option α} {v : α} {f : α → Option β} {r : Option β} (hc : c) (h : X = some v) (hf : f v = r) : (if c then X else D).bind f = r := by
 rw [if_pos hc]
 exact bT h hf
theorem gF {α β : Type} {c : Prop} [Decidable c] {X : Option α} {d : α} {f : α → Option β} {r : Option β} (hc : ¬ c) (hf : f d = r) : (if c then X else some d).bind f = r := by
 rw [if_neg hc]
 exact bT rfl hf
theorem iT {β : Type} {c : Prop} [Decidable c] {X Y : Option β} {r : Option β} (hc : c) (h : X = r) : (if c then X else Y) = r := by
 rw [if_pos hc]
 exact h
theorem iF {β : Type} {c : Prop} [Decidable c] {X Y : Option β} {r : Option β} (hc : ¬ c) (h : Y = r) : (if c then X else Y) = r := by
 rw [if_neg hc]
 exact h
theorem qdA {x y : Int} (h : x ≤ y) (z : Int) : (z < 0 ∨ x * z ≤ y * z) ∧ (0 < z ∨ y * z ≤ x * z) := by
 constructor
 ·rcases Int.lt_or_le z 0 with hz | hz
  ·exact .inl hz
  ·exact .inr (Int.mul_le_mul_of_nonneg_right h hz)
 ·rcases Int.lt_or_le 0 z with hz | hz
  ·exact .inl hz
  ·exact .inr (Int.mul_le_mul_of_nonpos_right h hz)
theorem VS {x y : Int} (h : x ≤ y) (z : Int) : (z < 0 ∨ z * x ≤ z * y) ∧ (0 < z ∨ z * y ≤ z * x) := by
 have := qdA h z
 rw [Int.mul_comm z x, Int.mul_comm z y]
 exact this
theorem qb7 {x y z : Int} (h : x ≤ y) (hz : 0 ≤ z) : x * z ≤ y * z := Int.mul_le_mul_of_nonneg_right h hz
theorem qfg {x y z : Int} (h : x ≤ y) (hz : z ≤ 0) : y * z ≤ x * z := Int.mul_le_mul_of_nonpos_right h hz
structure VQ (a b : qa) (l h : Int) : Prop where
 lo : l ≤ a.Lo * b.Lo ∧ l ≤ a.Lo * b.Hi ∧ l ≤ a.Hi * b.Lo ∧ l ≤ a.Hi * b.Hi
 hi : a.Lo * b.Lo ≤ h ∧ a.Lo * b.Hi ≤ h ∧ a.Hi * b.Lo ≤ h ∧ a.Hi * b.Hi ≤ h
 isl : l = a.Lo * b.Lo ∨ l = a.Lo * b.Hi ∨ l = a.Hi * b.Lo ∨ l = a.Hi * b.Hi
 ish : h = a.Lo * b.Lo ∨ h = a.Lo * b.Hi ∨ h = a.Hi * b.Lo ∨ h = a.Hi * b.Hi
theorem VQ.le {a b : qa} {l h : Int} (H : VQ a b l h) : l ≤ h := by
 have := H.lo; have := H.hi; omega
theorem VQ.mem {a b : qa} {l h : Int} (H : VQ a b l h) {p q : Int} (hp : a.Lo ≤ p ∧ p ≤ a.Hi) (hq : b.Lo ≤ q ∧ q ≤ b.Hi) : l ≤ p * q ∧ p * q ≤ h := by
 have h1 := H.lo; have h2 := H.hi
 have e1 := qdA hp.1 q; have e2 := qdA hp.2 q
 have f1 := VS hq.1 a.Lo; have f2 := VS hq.2 a.Lo; have f3 := VS hq.1 a.Hi; have f4 := VS hq.2 a.Hi
 constructor <;> omega
theorem qbu (a : qa) : XR a = some (if a.Hi ≤ 0 then 0 else if a.Lo ≥ 0 then 2 else 1) := by
 unfold XR
 by_cases h : a.Hi ≤ 0 <;> by_cases h' : a.Lo ≥ 0 <;> simp [h, h']
theorem qfW (x y : Int) : mn (x / 65536) (y / 65536) = mn x y / 65536 := by unfold mn; split <;> split <;> omega
theorem qet (x y : Int) : mx (YU x 65536) (YU y 65536) = YU (mx x y) 65536 := by unfold mx YU; split <;> split <;> omega
theorem WQ {a b : qa} (ha : ZS a) (hb : ZS b) : ∃ l h, Xh a b = some (nw (l / 65536) (YU h 65536)) ∧ VQ a b l h := by
 have h1 := ha.2.1
 have h2 := hb.2.1
 have r1 := qdA h1 b.Lo; have r2 := qdA h1 b.Hi
 have r3 := VS h2 a.Lo; have r4 := VS h2 a.Hi
 unfold Xh
 rw [Zs ha, Zs hb]
 simp only [Option.bind_some, beq_self_eq_true, if_true, Bool.or_self, Bool.false_eq_true, if_false, qbu, XM, XN, XK, XL, Wj ha.wlo hb.wlo, Wj ha.wlo hb.whi, Wj ha.whi hb.wlo, Wj ha.whi hb.whi, W5, qfW, qet]
 by_cases s1 : a.Hi ≤ 0
 ·by_cases s2 : b.Hi ≤ 0
  ·simp only [s1, s2, if_true]
   refine ⟨a.Hi * b.Hi, a.Lo * b.Lo, rfl, ⟨?_, ?_, ?_, ?_⟩⟩ <;> omega
  ·by_cases s3 : b.Lo ≥ 0
   ·simp only [s1, s2, s3, if_true, if_false]
    refine ⟨a.Lo * b.Hi, a.Hi * b.Lo, rfl, ⟨?_, ?_, ?_, ?_⟩⟩ <;> omega
   ·simp only [s1, s2, s3, if_true, if_false]
    refine ⟨a.Lo * b.Hi, a.Lo * b.Lo, rfl, ⟨?_, ?_, ?_, ?_⟩⟩ <;> omega
 ·by_cases s4 : a.Lo ≥ 0
  ·by_cases s2 : b.Hi ≤ 0
   ·simp only [s1, s4, s2, if_true, if_false]
    refine ⟨a.Hi * b.Lo, a.Lo * b.Hi, rfl, ⟨?_, ?_, ?_, ?_⟩⟩ <;> omega
   ·by_cases s3 : b.Lo ≥ 0
    ·simp only [s1, s4, s2, s3, if_true, if_false]
     refine ⟨a.Lo * b.Lo, a.Hi * b.Hi, rfl, ⟨?_, ?_, ?_, ?_⟩⟩ <;> omega
    ·simp only [s1, s4, s2, s3, if_true, if_false]
     refine ⟨a.Hi * b.Lo, a.Hi * b.Hi, rfl, ⟨?_, ?_, ?_, ?_⟩⟩ <;> omega
  ·by_cases s2 : b.Hi ≤ 0
   ·simp only [s1, s4, s2, if_true, if_false]
    refine ⟨a.Hi * b.Lo, a.Lo * b.Lo, rfl, ⟨?_, ?_, ?_, ?_⟩⟩ <;> omega
   ·by_cases s3 : b.Lo ≥ 0
    ·simp only [s1, s4, s2, s3, if_true, if_false]
     refine ⟨a.Lo * b.Hi, a.Hi * b.Hi, rfl, ⟨?_, ?_, ?_, ?_⟩⟩ <;> omega
    ·simp only [s1, s4, s2, s3, if_true, if_false]
     refine ⟨mn (a.Lo * b.Hi) (a.Hi * b.Lo), mx (a.Lo * b.Lo) (a.Hi * b.Hi), rfl, ?_⟩
     unfold mn mx
     split <;> split <;> refine ⟨?_, ?_, ?_, ?_⟩ <;> omega
theorem VZ (b : qa) : Xh ZT b = some ZT := by
 unfold Xh
 rw [Jk]
 rfl
theorem VW (a : qa) : Xh a ZT = some ZT := by
 unfold Xh
 rw [V0, Jk]
 cases decide (a = ZT) <;> rfl
structure Vc (a b : qa) (x y u v : Int) : Prop where
 ypos : 0 < y
 vpos : 0 < v
 x_ : x = a.Lo ∨ x = a.Hi
 y_ : y = b.Lo ∨ y = b.Hi
 u_ : u = a.Lo ∨ u = a.Hi
 v_ : v = b.Lo ∨ v = b.Hi
 lo : x * b.Lo ≤ a.Lo * y ∧ x * b.Hi ≤ a.Lo * y ∧ x * b.Lo ≤ a.Hi * y ∧ x * b.Hi ≤ a.Hi * y
 hi : a.Lo * v ≤ u * b.Lo ∧ a.Lo * v ≤ u * b.Hi ∧ a.Hi * v ≤ u * b.Lo ∧ a.Hi * v ≤ u * b.Hi
theorem Vc.mem {a b : qa} {x y u v : Int} (H : Vc a b x y u v) {p q : Int} (hp : a.Lo ≤ p ∧ p ≤ a.Hi) (hq : b.Lo ≤ q ∧ q ≤ b.Hi) : x * q ≤ p * y ∧ p * v ≤ u * q := by
 have h1 := H.lo; have h2 := H.hi
 have e1 := VS hq.1 x; have e2 := VS hq.2 x; have e3 := VS hq.1 u; have e4 := VS hq.2 u
 have f1 := qb7 hp.1 (Int.le_of_lt H.ypos); have f2 := qb7 hp.2 (Int.le_of_lt H.vpos)
 constructor <;> omega
theorem Jh {a b c d : Int} (hb : 0 < b) (hd : 0 < d) (h : a * d ≤ c * b) : a * 65536 / b ≤ c * 65536 / d := by
 rw [qa4 hd]
 have h1 := (qa4 (a := a * 65536) (c := a * 65536 / b) hb).1 (Int.le_refl _)
 have h2 : (a * 65536 / b * d) * b ≤ (c * 65536) * b := by
  have e1 : (a * 65536 / b * d) * b = (a * 65536 / b * b) * d := by grind
  have e2 : (a * 65536 / b * b) * d ≤ (a * 65536) * d := qb7 h1 (by omega)
  have e3 : (a * 65536) * d = (a * d) * 65536 := by grind
  have e4 : (c * 65536) * b = (c * b) * 65536 := by grind
  omega
 exact Int.le_of_mul_le_mul_right h2 hb
theorem Z3 {a b c d : Int} (hb : 0 < b) (hd : 0 < d) (h : a * d ≤ c * b) : YU (a * 65536) b ≤ YU (c * 65536) d := by
 rw [Vx hb]
 have h1 := (Vx (a := c * 65536) (c := YU (c * 65536) d) hd).1 (Int.le_refl _)
 have h2 : (a * 65536) * d ≤ (YU (c * 65536) d * b) * d := by
  have e1 : (YU (c * 65536) d * b) * d = (YU (c * 65536) d * d) * b := by grind
  have e2 : (c * 65536) * b ≤ (YU (c * 65536) d * d) * b := qb7 h1 (by omega)
  have e3 : (a * 65536) * d = (a * d) * 65536 := by grind
  have e4 : (c * 65536) * b = (c * b) * 65536 := by grind
  omega
 exact Int.le_of_mul_le_mul_right h2 hd
theorem qbN (a : qa) (x : Int) : Yx a x = some (decide (a = ZT) || (decide (a.Lo ≤ x) && decide (x ≤ a.Hi))) := by
 unfold Yx
 rw [V0]
 rfl
theorem JS {a : qa} (h : ZS a) (x : Int) : Yx a x = some (decide (a.Lo ≤ x ∧ x ≤ a.Hi)) := by
 rw [qbN, h.ne, Bool.false_or, Bool.decide_and]
def WX (a : qa) : qa := ⟨-a.Hi, -a.Lo⟩
theorem qaw {a b : qa} (ha : ZS a) (hb : ZS b) (h : 0 < b.Lo) : ∃ x y u v, Xz a b = some (nw (x * 65536 / y) (YU (u * 65536) v)) ∧ Vc a b x y u v := by
 have h1 := ha.2.1
 have h2 := hb.2.1
 have h3 : 0 < b.Hi := by omega
 have r1 := qb7 h1 (Int.le_of_lt h); have r2 := qb7 h1 (Int.le_of_lt h3)
 have r3 := VS h2 a.Lo; have r4 := VS h2 a.Hi
 have c1 := Int.mul_comm b.Lo a.Lo
 unfold Xz
 rw [Zs ha, Zs hb, JS hb]
 have h4 : decide (b.Lo ≤ 0 ∧ 0 ≤ b.Hi) = false := by apply decide_eq_false; omega
 have h5 : decide (b.Lo > 0) = true := decide_eq_true h
 simp only [Option.bind_some, h4, h5, beq_self_eq_true, if_true, Bool.or_self, Bool.false_eq_true, if_false, qbu, Q2, XM, XN, XK, XL, WJ ha.wlo hb.wlo h, WJ ha.wlo hb.whi h3, WJ ha.whi hb.wlo h, WJ ha.whi hb.whi h3, W5]
 by_cases s1 : a.Hi ≤ 0
 ·simp only [s1, if_true]
  refine ⟨a.Lo, b.Lo, a.Hi, b.Hi, rfl, ⟨h, h3, .inl rfl, .inl rfl, .inr rfl, .inr rfl, ?_, ?_⟩⟩ <;> omega
 ·by_cases s4 : a.Lo ≥ 0
  ·simp only [s1, s4, if_true, if_false]
   refine ⟨a.Lo, b.Hi, a.Hi, b.Lo, rfl, ⟨h3, h, .inl rfl, .inr rfl, .inr rfl, .inl rfl, ?_, ?_⟩⟩ <;> omega
  ·simp only [s1, s4, if_true, if_false]
   refine ⟨a.Lo, b.Lo, a.Hi, b.Lo, rfl, ⟨h, h, .inl rfl, .inl rfl, .inr rfl, .inl rfl, ?_, ?_⟩⟩ <;> omega
theorem qaD {a b : qa} (ha : ZS a) (hb : ZS b) (h3 : b.Hi < 0) : ∃ x y u v, Xz a b = some (nw (x * 65536 / y) (YU (u * 65536) v)) ∧ Vc (WX a) (WX b) x y u v := by
 have h1 := ha.2.1
 have h2 := hb.2.1
 have h : b.Lo < 0 := by omega
 have r1 := qfg h1 (Int.le_of_lt h); have r2 := qfg h1 (Int.le_of_lt h3)
 have r3 := VS h2 a.Lo; have r4 := VS h2 a.Hi
 unfold Xz
 rw [Zs ha, Zs hb, JS hb]
 have h4 : decide (b.Lo ≤ 0 ∧ 0 ≤ b.Hi) = false := by apply decide_eq_false; omega
 have h5 : decide (b.Lo > 0) = false := decide_eq_false (by omega)
 simp only [Option.bind_some, h4, h5, beq_self_eq_true, if_true, Bool.or_self, Bool.false_eq_true, if_false, qbu, Q2, XM, XN, XK, XL, WH ha.wlo hb.wlo h, WH ha.wlo hb.whi h3, WH ha.whi hb.wlo h, WH ha.whi hb.whi h3, W5]
 by_cases s1 : a.Hi ≤ 0
 ·simp only [s1, if_true]
  refine ⟨-a.Hi, -b.Lo, -a.Lo, -b.Hi, rfl, ⟨by omega, by omega, .inl rfl, .inr rfl, .inr rfl, .inl rfl, ?_, ?_⟩⟩ <;> simp only [WX, Int.neg_mul_neg] <;> omega
 ·by_cases s4 : a.Lo ≥ 0
  ·simp only [s1, s4, if_true, if_false]
   refine ⟨-a.Hi, -b.Hi, -a.Lo, -b.Lo, rfl, ⟨by omega, by omega, .inl rfl, .inl rfl, .inr rfl, .inr rfl, ?_, ?_⟩⟩ <;> simp only [WX, Int.neg_mul_neg] <;> omega
  ·simp only [s1, s4, if_true, if_false]
   refine ⟨-a.Hi, -b.Hi, -a.Lo, -b.Hi, rfl, ⟨by omega, by omega, .inl rfl, .inl rfl, .inr rfl, .inl rfl, ?_, ?_⟩⟩ <;> simp only [WX, Int.neg_mul_neg] <;> omega
theorem qbZ {a b : qa} (ha : ZS a) (hb : ZS b) (h : b.Lo ≤ 0 ∧ 0 ≤ b.Hi) : Xz a b = some ZT := by
 unfold Xz
 rw [Zs ha, Zs hb, JS hb, decide_eq_true h]
 rfl
theorem qbR (b : qa) : Xz ZT b = some ZT := by
 unfold Xz
 rw [Jk]
 rfl
theorem qbx (a : qa) : Xz a ZT = some ZT := by
 unfold Xz
 rw [V0, Jk]
 cases decide (a = ZT) <;> rfl
theorem Wa {a b : Int} (hb : 0 < b) (ha1 : -4611686018427387904 ≤ a) (ha2 : a ≤ 4611686018427387904) (hb2 : b ≤ 4611686018427387904) : QD a b = some (a / b) := by
 have hq := JA hb ha1 ha2
 obtain ⟨t1, t2⟩ := tdm a b hb
 have h2 := Int.emod_nonneg a (by omega : b ≠ 0)
 have h3 := Int.emod_lt_of_pos a hb
 have hb0 : decide (b < 0) = false := decide_eq_false (by omega)
 unfold QD
 rw [if_pos (by omega), if_pos (by omega)]
 by_cases h : Int.tmod a b < 0
 ·obtain ⟨e1, e2⟩ := t1 h
  have e3 : qe (Int.tdiv a b) = Int.tdiv a b := Zo (by omega) (by omega)
  have h4 : a < 0 := by
   rcases Int.lt_or_le a 0 with h5 | h5
   ·exact h5
   ·have := Int.tmod_nonneg b h5
    omega
  have h5 : (Int.tmod a b != 0) = true := by simp; omega
  simp only [h5, hb0, decide_eq_true h4, e3]
  rw [e1, Zo (by omega) (by omega)]
  simp
 ·obtain ⟨e1, e2⟩ := t2 h
  have e3 : qe (Int.tdiv a b) = a / b := by rw [e1]; exact Zo (by omega) (by omega)
  have h5 : ((Int.tmod a b != 0) && !(decide (a < 0) == decide (b < 0))) = false := by
   rw [hb0]
   by_cases h6 : a < 0
   ·have : Int.tmod a b ≤ 0 := by
     have := Int.tmod_nonneg b (a := -a) (by omega)
     rw [Int.neg_tmod] at this
     omega
    have : Int.tmod a b = 0 := by omega
    simp [this]
   ·simp [h6]
  rw [if_neg (by simp only [h5]; simp), e3]
  rfl
theorem qfh {a b : Int} (hb : 0 < b) (ha1 : -4611686018427387904 ≤ a) (ha2 : a ≤ 4611686018427387904) (hb2 : b ≤ 4611686018427387904) : Xj a b = some (YU a b) := by
 have hq := JA (a := -a) (B := 4611686018427387904) hb (by omega) (by omega)
 unfold Xj
 have e1 : qe (0 - a) = -a := by rw [Zo (by omega) (by omega)]; omega
 rw [e1, Wa hb (by omega) (by omega) hb2]
 simp only [Option.bind_some]
 unfold YU
 rw [Zo (by omega) (by omega)]
 congr 1
 omega
theorem WT {a b : Int} (hb : b < 0) (ha1 : -4611686018427387904 ≤ a) (ha2 : a ≤ 4611686018427387904) (hb2 : -4611686018427387904 ≤ b) : QD a b = some ((-a) / (-b)) := by
 have e : QD a b = QD (-a) (-b) := by
  unfold QD
  rw [Int.neg_tmod, Int.tmod_neg, Int.neg_tdiv, Int.tdiv_neg, Int.neg_neg]
  have n1 : b ≠ 0 := by omega
  have n2 : -b ≠ 0 := by omega
  rw [if_pos n1, if_pos n1, if_pos n2, if_pos n2]
  have hb0 : decide (b < 0) = true := decide_eq_true hb
  have hb1 : decide (-b < 0) = false := decide_eq_false (by omega)
  have h5 : ((Int.tmod a b != 0) && !(decide (a < 0) == decide (b < 0))) = ((-Int.tmod a b != 0) && !(decide (-a < 0) == decide (-b < 0))) := by
   rw [hb0, hb1]
   rcases Int.lt_trichotomy a 0 with h | h | h
   ·have h1 : decide (a < 0) = true := decide_eq_true h
    have h2 : decide (-a < 0) = false := decide_eq_false (by omega)
    rw [h1, h2]
    simp
   ·subst h
    simp
   ·have h1 : decide (a < 0) = false := decide_eq_false (by omega)
    have h2 : decide (-a < 0) = true := decide_eq_true (by omega)
    rw [h1, h2]
    by_cases h3 : Int.tmod a b = 0
    ·simp [h3]
    ·have h4 : (-Int.tmod a b != 0) = true := by simp; omega
     have h5 : (Int.tmod a b != 0) = true := by simp; omega
     rw [h4, h5]
     rfl
  rw [h5]
 rw [e]
 exact Wa (by omega) (by omega) (by omega) (by omega)
theorem qae (x : Int) : -16777216 < Int.tmod x 16777216 ∧ Int.tmod x 16777216 < 16777216 := by
 have h1 := Int.tmod_lt_of_pos x (b := 16777216) (by omega)
 have h2 := Int.tmod_lt_of_pos (-x) (b := 16777216) (by omega)
 rw [Int.neg_tmod] at h2
 omega
instance (a : qa) : Decidable (ZS a) := by unfold ZS; infer_instance
instance (a : qa) : Decidable (Ok a) := by unfold Ok; infer_instance
theorem qbO (a : qa) : XU a = some (decide (Ok a)) := by
 unfold XU Q6
 rw [Vv]
 by_cases h : a = ZT
 ·have : Ok a := .inl h
  simp [h, this, Ok]
 ·have e : Ok a ↔ ZS a := by unfold Ok; simp [h]
  rw [show decide (Ok a) = decide (ZS a) from by simp [e]]
  by_cases h1 : -2147483648 < a.Lo ∧ a.Lo < 2147483648 <;> by_cases h2 : -2147483648 < a.Hi ∧ a.Hi < 2147483648 <;> simp [h, ZS, h1, h2]
  all_goals try omega
  all_goals grind
theorem fd (x c : Int) (h : 0 < c) : Int.fdiv x c = x / c := Int.fdiv_eq_ediv_of_nonneg _ (Int.le_of_lt h)
theorem Wr {s t : Int} (hs : 0 ≤ s) (ht : 0 ≤ t) (h : s * s < t * t) : s < t := by
 rcases Int.lt_or_le s t with h1 | h1
 ·exact h1
 ·have := Int.mul_le_mul h1 h1 ht hs
  omega
theorem qaO {s t : Int} (hs : 0 ≤ s) (h : s ≤ t) : s * s ≤ t * t := Int.mul_le_mul h h hs (by omega)
structure qa7 (n s t : Int) : Prop where
 s0 : 0 ≤ s
 le : s * s ≤ n
 lt : n < (s + 1) * (s + 1)
 t_ : t = if s * s < n then s + 1 else s
theorem qa7.up {n s t : Int} (h : qa7 n s t) : n ≤ t * t := by
 have h1 := h.le; have h2 := h.lt; have h3 := h.t_
 split at h3 <;> subst h3 <;> omega
theorem qa7.st {n s t : Int} (h : qa7 n s t) : s ≤ t ∧ t ≤ s + 1 := by
 have h3 := h.t_
 split at h3 <;> omega
theorem qa7.low {n s t : Int} (h : qa7 n s t) : t = 0 ∨ (t - 1) * (t - 1) < n := by
 have h1 := h.le; have h3 := h.t_; have h0 := h.s0
 split at h3
 ·right
  have : t - 1 = s := by omega
  rw [this]
  assumption
 ·subst h3
  rcases Int.lt_or_le 0 t with h4 | h4
  ·right
   have e : (t - 1) * (t - 1) = t * t - 2 * t + 1 := by grind
   omega
  ·left; omega
theorem fc {l h d : Int} (hd : 0 < d) (hl : l ≤ h) : l / d ≤ YU h d := by
 have h1 := (Vx (a := h) (c := YU h d) hd).1 (Int.le_refl _)
 have h2 := (qa4 (a := l) (c := l / d) hd).1 (Int.le_refl _)
 rcases Int.lt_or_le (YU h d) (l / d) with h3 | h3
 ·have : (YU h d + 1) * d ≤ l / d * d := qb7 (by omega) (by omega)
  rw [Int.add_mul] at this
  omega
 ·exact h3
theorem Ok.b {a : qa} (h : Ok a) : -2147483648 ≤ a.Lo ∧ a.Lo ≤ a.Hi ∧ a.Hi ≤ 2147483648 ∧ (a ≠ ZT → -2147483648 < a.Lo ∧ a.Hi < 2147483648) := by
 rcases h with rfl | h
 ·simp [ZT]
 ·unfold ZS at h
  exact ⟨by omega, by omega, by omega, fun _ => by omega⟩
theorem Ok.ent_of {a : qa} (h : Ok a) (h1 : a.Lo ≤ -2147483648 ∨ 2147483648 ≤ a.Hi) : a = ZT := by
 rcases h with h | h
 ·exact h
 ·unfold ZS at h; omega
theorem mnl (x y : Int) : mn x y ≤ x ∧ mn x y ≤ y ∧ (mn x y = x ∨ mn x y = y) := by unfold mn; split <;> omega
theorem mxl (x y : Int) : x ≤ mx x y ∧ y ≤ mx x y ∧ (mx x y = x ∨ mx x y = y) := by unfold mx; split <;> omega
theorem qaJ (x : Int) : Y8 x = some (decide (-2147483648 < x ∧ x < 2147483648)) := by unfold Y8; rw [Bool.decide_and]
theorem ZS.le {a : qa} (h : ZS a) : a.Lo ≤ a.Hi := h.2.1
theorem qcD {a b : qa} (ha : Ok a) (hb : Ok b) : ∃ r, Xx a b = some r ∧ Ok r := by
 rcases ha with rfl | ha
 ·exact ⟨ZT, W6 _, .inl rfl⟩
 ·rcases hb with rfl | hb
  ·exact ⟨ZT, qal _, .inl rfl⟩
  ·exact ⟨_, qbg ha hb, qb2 (by have := ha.le; have := hb.le; omega)⟩
theorem qdu {b : qa} (hb : Ok b) : XV ZT b = some ZT := by
 unfold XV
 exact bT (qcj hb) (bT (W6 _) rfl)
theorem qee (a : qa) : XV a ZT = some ZT := by
 unfold XV
 exact bT (qcj (.inl rfl)) (bT (v := ZT) (qal a) rfl)
theorem qch {a b : qa} (ha : Ok a) (hb : Ok b) : ∃ r, XV a b = some r ∧ Ok r := by
 rcases ha with rfl | ha
 ·exact ⟨ZT, qdu hb, .inl rfl⟩
 ·rcases hb with rfl | hb
  ·exact ⟨ZT, qee _, .inl rfl⟩
  ·exact ⟨_, qex ha hb, qb2 (by have := ha.le; have := hb.le; omega)⟩
theorem qd0 {a b : qa} (ha : Ok a) (hb : Ok b) : ∃ r, Xh a b = some r ∧ Ok r := by
 rcases ha with rfl | ha
 ·exact ⟨ZT, VZ _, .inl rfl⟩
 ·rcases hb with rfl | hb
  ·exact ⟨ZT, VW _, .inl rfl⟩
  ·obtain ⟨l, h, hm, H⟩ := WQ ha hb
   exact ⟨_, hm, qb2 (fc (by omega) H.le)⟩
theorem Vc.fits {a b : qa} {x y u v : Int} (H : Vc a b x y u v) (hb : 0 < b.Lo) : x * 65536 / y ≤ YU (u * 65536) v := by
 have h1 := Jh H.ypos hb H.lo.1
 have h2 := Z3 hb H.vpos H.hi.1
 have h3 := fc (l := a.Lo * 65536) hb (Int.le_refl _)
 omega
theorem qdV {a b : qa} (ha : Ok a) (hb : Ok b) : ∃ r, Xz a b = some r ∧ Ok r := by
 rcases ha with rfl | ha
 ·exact ⟨ZT, qbR _, .inl rfl⟩
 ·rcases hb with rfl | hb
  ·exact ⟨ZT, qbx _, .inl rfl⟩
  ·rcases Int.lt_or_le 0 b.Lo with h0 | h0
   ·obtain ⟨x, y, u, v, hd, D⟩ := qaw ha hb h0
    exact ⟨_, hd, qb2 (D.fits h0)⟩
   ·rcases Int.lt_or_le b.Hi 0 with h1 | h1
    ·obtain ⟨x, y, u, v, hd, D⟩ := qaD ha hb h1
     exact ⟨_, hd, qb2 (D.fits (by simp only [WX]; omega))⟩
    ·exact ⟨ZT, qbZ ha hb ⟨h0, h1⟩, .inl rfl⟩
def Le (a b : qa) : Prop := b.Lo ≤ a.Lo ∧ a.Hi ≤ b.Hi
theorem Le.ent {a b : qa} (h : Le a b) (hb : Ok b) (e : a = ZT) : b = ZT := by
 subst e
 exact hb.ent_of (.inl h.1)
theorem Le.fin {a b : qa} (h : Le a b) (ha : Ok a) (hb : ZS b) : ZS a := by
 rcases ha with rfl | ha
 ·unfold Le ZT at h; unfold ZS at hb; simp only at h; omega
 ·exact ha
theorem VQ.mono {a b a' b' : qa} {l h l' h' : Int} (fa : ZS a) (fb : ZS b) (H : VQ a b l h) (H' : VQ a' b' l' h') (h1 : Le a a') (h2 : Le b b') : l' ≤ l ∧ h ≤ h' := by
 unfold Le at h1 h2
 have la := fa.le; have lb := fb.le
 have i := H.isl; have j := H.ish
 have m1 := H'.mem (p := a.Lo) (q := b.Lo) (by omega) (by omega)
 have m2 := H'.mem (p := a.Lo) (q := b.Hi) (by omega) (by omega)
 have m3 := H'.mem (p := a.Hi) (q := b.Lo) (by omega) (by omega)
 have m4 := H'.mem (p := a.Hi) (q := b.Hi) (by omega) (by omega)
 omega
theorem Vc.mono {a b a' b' : qa} {x y u v x' y' u' v' : Int} (la : a.Lo ≤ a.Hi) (lb : b.Lo ≤ b.Hi) (H : Vc a b x y u v) (H' : Vc a' b' x' y' u' v') (h1 : Le a a') (h2 : Le b b') : x' * 65536 / y' ≤ x * 65536 / y ∧ YU (u * 65536) v ≤ YU (u' * 65536) v' := by
 unfold Le at h1 h2
 have m1 := H'.mem (p := x) (q := y) (by have := H.x_; omega) (by have := H.y_; omega)
 have m2 := H'.mem (p := u) (q := v) (by have := H.u_; omega) (by have := H.v_; omega)
 exact ⟨Jh H'.ypos H.ypos m1.1, Z3 H.vpos H'.vpos m2.2⟩
theorem qa7.mono {n s t n' s' t' : Int} (h : qa7 n s t) (h' : qa7 n' s' t') (hn : n ≤ n') : s ≤ s' ∧ t ≤ t' := by
 constructor
 ·have := Wr h.s0 (by have := h'.s0; omega) (Int.lt_of_le_of_lt (Int.le_trans h.le hn) h'.lt)
  omega
 ·have h1 := h'.up
  have h2 := h'.s0
  have h3 := h'.st
  rcases h.low with h4 | h4
  ·omega
  ·rcases Int.lt_or_le (t - 1) 0 with h5 | h5
   ·omega
   ·have := Wr h5 (by omega : 0 ≤ t') (by omega)
    omega
theorem qa9 (x : Int) : Q6 x = some (decide (-2147483648 < x ∧ x < 2147483648)) := by
 unfold Q6
 rw [Bool.decide_and]
theorem qfo (x y : Int) : Xn x y = some (if (-2147483648 < x ∧ x < 2147483648) ∧ (-2147483648 < y ∧ y < 2147483648) then ⟨x, y⟩ else ZT) := by
 unfold Xn
 by_cases h1 : -2147483648 < x ∧ x < 2147483648
 ·refine bT ((qa9 x).trans (congrArg some (decide_eq_true h1))) ?_
  by_cases h2 : -2147483648 < y ∧ y < 2147483648
  ·refine gT rfl ((qa9 y).trans (congrArg some (decide_eq_true h2))) (iF Bool.false_ne_true ?_)
   rw [if_pos ⟨h1, h2⟩]
  ·refine gT rfl ((qa9 y).trans (congrArg some (decide_eq_false h2))) (iT rfl ?_)
   rw [if_neg (fun h => h2 h.2)]
   rfl
 ·refine bT ((qa9 x).trans (congrArg some (decide_eq_false h1))) (gF Bool.false_ne_true (iT rfl ?_))
  rw [if_neg (fun h => h1 h.1)]
  rfl
theorem Vz {x y : Int} (h : x ≤ y) : Xn x y = some (nw x y) := by
 rw [qfo]
 congr 1
 unfold nw
 by_cases g : (-2147483648 < x ∧ x < 2147483648) ∧ (-2147483648 < y ∧ y < 2147483648)
 ·rw [if_pos g, if_neg (by omega)]
 ·rw [if_neg g, if_pos (by omega)]
theorem qcP {a : qa} (h : ZS a) : ZS (WX a) := qcQ h
theorem qfs {a : qa} (h : Ok a) : Ok (WX a) := by
 rcases h with rfl | h
 ·exact .inl rfl
 ·exact .inr (qcP h)
theorem qdX {a : qa} (h : Ok a) : YK a = some (WX a) := qcj h
theorem qfM {a : qa} (h : a.Lo ≤ a.Hi) : (WX a).Lo ≤ (WX a).Hi := by unfold WX; simp only; omega
theorem qeX {a b : qa} (hb : Ok b) {r : qa} (hr : XV a b = some r) : Xx a (WX b) = some r := by
 unfold XV at hr
 rw [qdX hb] at hr
 simp only [Option.bind_some] at hr
 cases h : Xx a (WX b) with
 | none => rw [h] at hr; cases hr
 | some q => rw [h] at hr; exact hr
def fq (n q : Int) : Int := if 0 < q then n / q else (-n) / (-q)
def cq (n q : Int) : Int := if 0 < q then YU n q else YU (-n) (-q)
theorem qc5 {a b : Int} (hb : b < 0) (ha1 : -4611686018427387904 ≤ a) (ha2 : a ≤ 4611686018427387904) (hb2 : -4611686018427387904 ≤ b) : Xj a b = some (YU (-a) (-b)) := by
 have hq := JA (a := a) (b := -b) (B := 4611686018427387904) (by omega) (by omega) (by omega)
 unfold Xj
 have e1 : qe (0 - a) = -a := by rw [Zo (by omega) (by omega)]; omega
 rw [e1]
 refine bT (WT hb (by omega) (by omega) hb2) ?_
 unfold YU
 rw [Int.neg_neg, Zo (by omega) (by omega)]
 congr 1
 omega
theorem rfq {n q : Int} (h : q ≠ 0) (h1 : -4611686018427387904 ≤ n) (h2 : n ≤ 4611686018427387904) (h3 : -4611686018427387904 ≤ q) (h4 : q ≤ 4611686018427387904) : QD n q = some (fq n q) := by
 unfold fq
 by_cases g : 0 < q
 ·rw [if_pos g]; exact Wa g h1 h2 h4
 ·rw [if_neg g]; exact WT (by omega) h1 h2 h3
theorem rcq {n q : Int} (h : q ≠ 0) (h1 : -4611686018427387904 ≤ n) (h2 : n ≤ 4611686018427387904) (h3 : -4611686018427387904 ≤ q) (h4 : q ≤ 4611686018427387904) : Xj n q = some (cq n q) := by
 unfold cq
 by_cases g : 0 < q
 ·rw [if_pos g]; exact qfh g h1 h2 h4
 ·rw [if_neg g]; exact qc5 (by omega) h1 h2 h3
theorem qe0 (a : qa) : YM a = some (if a.Lo > 0 then 1 else if a.Hi < 0 then -1 else 0) := by
 unfold YM Q2
 by_cases h1 : a.Lo > 0 <;> by_cases h2 : a.Hi < 0 <;> simp [h1, h2]
theorem qdm (a : qa) : YY a = some (decide (Ok a)) := by
 unfold YY
 by_cases h : a = ZT
 ·refine bT (V0.trans (congrArg some (decide_eq_true h))) (gF Bool.false_ne_true (gF Bool.false_ne_true ?_))
  rw [decide_eq_true (show Ok a from .inl h)]
  rfl
 ·refine bT (V0.trans (congrArg some (decide_eq_false h))) (gT rfl (qaJ _) ?_)
  have e : Ok a ↔ ZS a := ⟨fun g => g.resolve_left h, .inr⟩
  by_cases h1 : -2147483648 < a.Lo ∧ a.Lo < 2147483648
  ·rw [decide_eq_true h1]
   refine gT rfl (qaJ _) ?_
   by_cases h2 : (-2147483648 < a.Hi ∧ a.Hi < 2147483648) ∧ a.Lo ≤ a.Hi
   ·rw [decide_eq_true h2.1, decide_eq_true h2.2, decide_eq_true (e.2 (by unfold ZS; omega))]
    rfl
   ·have hno : decide (Ok a) = false := decide_eq_false (fun g => h2 (by have := e.1 g; unfold ZS at this; omega))
    rw [hno]
    by_cases h3 : -2147483648 < a.Hi ∧ a.Hi < 2147483648
    ·have h4 : decide (a.Lo ≤ a.Hi) = false := decide_eq_false (fun g => h2 ⟨h3, g⟩)
     rw [h4]; simp
    ·rw [decide_eq_false h3]; simp
  ·have hno : decide (Ok a) = false := decide_eq_false (fun g => h1 (by have := e.1 g; unfold ZS at this; omega))
   rw [hno, decide_eq_false h1]
   exact gF Bool.false_ne_true rfl
theorem qcC {a b : qa} (ha : Ok a) (hb : Ok b) : XZ a b = Xx a b := by
 unfold XZ
 rcases ha with rfl | ha
 ·rw [W6]; exact bT Zq (gF Bool.false_ne_true (iT rfl rfl))
 ·rcases hb with rfl | hb
  ·rw [qal]; exact bT (YL ha) (gT rfl Zq (iT rfl rfl))
  ·rw [qbg ha hb]
   refine bT (YL ha) (gT rfl (YL hb) (iF Bool.false_ne_true ?_))
   have la := ha.le; have lb := hb.le
   unfold ZS at ha hb
   rw [Zo (x := a.Lo + b.Lo) (by omega) (by omega), Zo (x := a.Hi + b.Hi) (by omega) (by omega)]
   exact bT (Vz (by omega)) rfl
theorem Wg {k0 : Nat} {a b : qa} {t3 t4 : Bool} {A B C D : Int} (hA : qe (a.Lo * b.Lo) = A) (hB : qe (a.Lo * b.Hi) = B) (hC : qe (a.Hi * b.Lo) = C) (hD : qe (a.Hi * b.Hi) = D) {i v : Int} (hi : 0 ≤ i ∧ i < 4) (hv : [A, B, C, D][i.toNat]? = some v) (k : Nat) (l h : Int) :
  QC.l20 k0 a b t3 t4 (k + 1) l h i = QC.l20 k0 a b t3 t4 k (mn l v) (mx h v) (i + 1) := by
 conv => lhs; unfold QC.l20
 rw [hA, hB, hC, hD]
 refine iT (decide_eq_true hi.2) (iT hi (bT hv (iT hi (bT hv ?_))))
 rw [Zo (x := i + 1) (by omega) (by omega)]
theorem qeJ {k0 : Nat} (hk : 4294967296 < k0) {a b : qa} (ha : Ok a) (hb : Ok b) : QC k0 a b = Xh a b := by
 unfold QC
 rcases ha with rfl | fa
 ·rw [VZ]; exact bT Zq (gF Bool.false_ne_true (iT rfl rfl))
 rcases hb with rfl | fb
 ·rw [VW]; exact bT (YL fa) (gT rfl Zq (iT rfl rfl))
 obtain ⟨l, h, hm, H⟩ := WQ fa fb
 rw [hm]
 have b1 := YC (A := 2147483648) (B := 2147483648) fa.wlo fb.wlo
 have b2 := YC (A := 2147483648) (B := 2147483648) fa.wlo fb.whi
 have b3 := YC (A := 2147483648) (B := 2147483648) fa.whi fb.wlo
 have b4 := YC (A := 2147483648) (B := 2147483648) fa.whi fb.whi
 have w1 : qe (a.Lo * b.Lo) = a.Lo * b.Lo := Zo (by omega) (by omega)
 have w2 : qe (a.Lo * b.Hi) = a.Lo * b.Hi := Zo (by omega) (by omega)
 have w3 : qe (a.Hi * b.Lo) = a.Hi * b.Lo := Zo (by omega) (by omega)
 have w4 : qe (a.Hi * b.Hi) = a.Hi * b.Hi := Zo (by omega) (by omega)
 refine bT (YL fa) (gT rfl (YL fb) (iF Bool.false_ne_true ?_))
 have loop : ∀ K, 4 ≤ K → QC.l20 k0 a b false false K (a.Lo * b.Lo) (a.Lo * b.Lo) 1 = some (l, h) := by
  intro K hK
  obtain ⟨m, rfl⟩ : ∃ m, K = m + 4 := ⟨K - 4, by omega⟩
  rw [Wg w1 w2 w3 w4 (i := 1) (v := a.Lo * b.Hi) (by omega) rfl (m + 3), Wg w1 w2 w3 w4 (i := 1 + 1) (v := a.Hi * b.Lo) (by omega) rfl (m + 2), Wg w1 w2 w3 w4 (i := 1 + 1 + 1) (v := a.Hi * b.Hi) (by omega) rfl (m + 1)]
  unfold QC.l20
  refine iF Bool.false_ne_true ?_
  have h1 := H.lo; have h2 := H.hi; have h3 := H.isl; have h4 := H.ish
  have m1 := mnl (a.Lo * b.Lo) (a.Lo * b.Hi); have m2 := mnl (mn (a.Lo * b.Lo) (a.Lo * b.Hi)) (a.Hi * b.Lo); have m3 := mnl (mn (mn (a.Lo * b.Lo) (a.Lo * b.Hi)) (a.Hi * b.Lo)) (a.Hi * b.Hi)
  have n1 := mxl (a.Lo * b.Lo) (a.Lo * b.Hi); have n2 := mxl (mx (a.Lo * b.Lo) (a.Lo * b.Hi)) (a.Hi * b.Lo); have n3 := mxl (mx (mx (a.Lo * b.Lo) (a.Lo * b.Hi)) (a.Hi * b.Lo)) (a.Hi * b.Hi)
  have e1 : mn (mn (mn (a.Lo * b.Lo) (a.Lo * b.Hi)) (a.Hi * b.Lo)) (a.Hi * b.Hi) = l := by omega
  have e2 : mx (mx (mx (a.Lo * b.Lo) (a.Lo * b.Hi)) (a.Hi * b.Lo)) (a.Hi * b.Hi) = h := by omega
  rw [e1, e2]
 rw [w1]
 have hl := H.isl
 have hh := H.ish
 exact bT (loop k0 (by omega)) (bT (Wa (by omega) (by simp only; omega) (by simp only; omega) (by omega)) (bT (qfh (by omega) (by simp only; omega) (by simp only; omega) (by omega)) (bT (Vz (fc (by omega) H.le)) rfl)))
structure Cor (a b : qa) (L U : Int) : Prop where
 le : L ≤ U
 lo : L ≤ fq (a.Lo * 65536) b.Lo ∧ L ≤ fq (a.Lo * 65536) b.Hi ∧ L ≤ fq (a.Hi * 65536) b.Lo ∧ L ≤ fq (a.Hi * 65536) b.Hi
 hi : cq (a.Lo * 65536) b.Lo ≤ U ∧ cq (a.Lo * 65536) b.Hi ≤ U ∧ cq (a.Hi * 65536) b.Lo ≤ U ∧ cq (a.Hi * 65536) b.Hi ≤ U
 isl : L = fq (a.Lo * 65536) b.Lo ∨ L = fq (a.Lo * 65536) b.Hi ∨ L = fq (a.Hi * 65536) b.Lo ∨ L = fq (a.Hi * 65536) b.Hi
 ish : U = cq (a.Lo * 65536) b.Lo ∨ U = cq (a.Lo * 65536) b.Hi ∨ U = cq (a.Hi * 65536) b.Lo ∨ U = cq (a.Hi * 65536) b.Hi
theorem Ja {n q : Int} (h : 0 < q) : fq n q = n / q := by unfold fq; rw [if_pos h]
theorem Jb {n q : Int} (h : 0 < q) : cq n q = YU n q := by unfold cq; rw [if_pos h]
theorem Vi {p q : Int} (h : q < 0) : fq (p * 65536) q = -p * 65536 / -q := by unfold fq; rw [if_neg (by omega), Int.neg_mul]
theorem J7 {p q : Int} (h : q < 0) : cq (p * 65536) q = YU (-p * 65536) (-q) := by unfold cq; rw [if_neg (by omega), Int.neg_mul]
theorem Vc.cor {a b : qa} {x y u v : Int} (D : Vc a b x y u v) (hb : 0 < b.Lo) (lb : b.Lo ≤ b.Hi) : Cor a b (x * 65536 / y) (YU (u * 65536) v) := by
 have hb' : 0 < b.Hi := by omega
 have h1 := D.lo; have h2 := D.hi; have hy := D.ypos; have hv := D.vpos
 refine ⟨D.fits hb, ?_, ?_, ?_, ?_⟩
 ·rw [Ja hb, Ja hb', Ja hb, Ja hb']
  exact ⟨Jh hy hb h1.1, Jh hy hb' h1.2.1, Jh hy hb h1.2.2.1, Jh hy hb' h1.2.2.2⟩
 ·rw [Jb hb, Jb hb', Jb hb, Jb hb']
  exact ⟨Z3 hb hv h2.1, Z3 hb' hv h2.2.1, Z3 hb hv h2.2.2.1, Z3 hb' hv h2.2.2.2⟩
 ·rw [Ja hb, Ja hb', Ja hb, Ja hb']
  rcases D.x_ with rfl | rfl <;> rcases D.y_ with rfl | rfl <;> simp
 ·rw [Jb hb, Jb hb', Jb hb, Jb hb']
  rcases D.u_ with rfl | rfl <;> rcases D.v_ with rfl | rfl <;> simp
theorem Cor.neg {a b : qa} {L U : Int} (C : Cor (WX a) (WX b) L U) (hb : b.Hi < 0) (lb : b.Lo ≤ b.Hi) : Cor a b L U := by
 have hb' : b.Lo < 0 := by omega
 obtain ⟨c0, c1, c2, c3, c4⟩ := C
 simp only [WX] at c1 c2 c3 c4
 rw [Ja (q := -b.Lo) (by omega), Ja (q := -b.Hi) (by omega), Ja (q := -b.Lo) (by omega), Ja (q := -b.Hi) (by omega)] at c1 c3
 rw [Jb (q := -b.Lo) (by omega), Jb (q := -b.Hi) (by omega), Jb (q := -b.Lo) (by omega), Jb (q := -b.Hi) (by omega)] at c2 c4
 refine ⟨c0, ?_, ?_, ?_, ?_⟩
 ·rw [Vi hb, Vi hb', Vi hb, Vi hb']; omega
 ·rw [J7 hb, J7 hb', J7 hb, J7 hb']; omega
 ·rw [Vi hb, Vi hb', Vi hb, Vi hb']; omega
 ·rw [J7 hb, J7 hb', J7 hb, J7 hb']; omega
theorem qe4 {a b : qa} (fa : ZS a) (fb : ZS b) (h : 0 < b.Lo ∨ b.Hi < 0) : ∃ L U, Xz a b = some (nw L U) ∧ Cor a b L U := by
 rcases h with h | h
 ·obtain ⟨x, y, u, v, hd, D⟩ := qaw fa fb h
  exact ⟨_, _, hd, D.cor h fb.le⟩
 ·obtain ⟨x, y, u, v, hd, D⟩ := qaD fa fb h
  exact ⟨_, _, hd, (D.cor (by simp only [WX]; omega) (qfM fb.le)).neg h fb.le⟩
theorem qaS {k0 : Nat} {a b : qa} {t3 t4 : Bool} {t9 t10 x17 x18 : Int} (fa : ZS a) (fb : ZS b) {i j p q : Int} (hi : 0 ≤ i ∧ i < 2) (hj : 0 ≤ j ∧ j < 2) (hA : [a.Lo, a.Hi][i.toNat]? = some p) (hB : [b.Lo, b.Hi][j.toNat]? = some q) (hp : VC p) (hq : VC q) (hz : q ≠ 0) (k : Nat) (l h : Int) :
  Qi.l30 k0 a b t3 t4 t9 t10 x17 x18 i (k + 1) l h j = Qi.l30 k0 a b t3 t4 t9 t10 x17 x18 i k (mn l (fq (p * 65536) q)) (mx h (cq (p * 65536) q)) (j + 1) := by
 unfold VC at hp hq
 conv => lhs; unfold Qi.l30
 refine iT (decide_eq_true hj.2) (iT hi (bT hA (iT hj (bT hB (bT (v := fq (p * 65536) q) ?_ (iT hi (bT hA (iT hj (bT hB (bT (v := cq (p * 65536) q) ?_ ?_))))))))))
 ·rw [Zo (x := p * 65536) (by omega) (by omega)]; exact rfq hz (by omega) (by omega) (by omega) (by omega)
 ·rw [Zo (x := p * 65536) (by omega) (by omega)]; exact rcq hz (by omega) (by omega) (by omega) (by omega)
 ·rw [Zo (x := j + 1) (by omega) (by omega)]
theorem qak {k0 : Nat} {a b : qa} {t3 t4 : Bool} {t9 t10 x17 x18 : Int} (fa : ZS a) (fb : ZS b) {i p : Int} (hi : 0 ≤ i ∧ i < 2) (hA : [a.Lo, a.Hi][i.toNat]? = some p) (hp : VC p) (hz : 0 < b.Lo ∨ b.Hi < 0) {K : Nat} (hK : 3 ≤ K) (l h : Int) :
  Qi.l30 k0 a b t3 t4 t9 t10 x17 x18 i K l h 0 = some (mn (mn l (fq (p * 65536) b.Lo)) (fq (p * 65536) b.Hi), mx (mx h (cq (p * 65536) b.Lo)) (cq (p * 65536) b.Hi)) := by
 obtain ⟨k, rfl⟩ : ∃ k, K = k + 3 := ⟨K - 3, by omega⟩
 have lb := fb.le
 rw [qaS fa fb hi (j := 0) (q := b.Lo) (by omega) hA rfl hp fb.wlo (by omega) (k + 2), qaS fa fb hi (j := 0 + 1) (q := b.Hi) (by omega) hA rfl hp fb.whi (by omega) (k + 1)]
 unfold Qi.l30
 exact iF Bool.false_ne_true rfl
theorem qdW {f1 f2 f3 f4 L : Int} (h : L ≤ f1 ∧ L ≤ f2 ∧ L ≤ f3 ∧ L ≤ f4) (g : L = f1 ∨ L = f2 ∨ L = f3 ∨ L = f4) : mn (mn (mn (mn f1 f1) f2) f3) f4 = L := by
 have m1 := mnl f1 f1; have m2 := mnl (mn f1 f1) f2; have m3 := mnl (mn (mn f1 f1) f2) f3; have m4 := mnl (mn (mn (mn f1 f1) f2) f3) f4
 omega
theorem qdM {f1 f2 f3 f4 L : Int} (h : f1 ≤ L ∧ f2 ≤ L ∧ f3 ≤ L ∧ f4 ≤ L) (g : L = f1 ∨ L = f2 ∨ L = f3 ∨ L = f4) : mx (mx (mx (mx f1 f1) f2) f3) f4 = L := by
 have m1 := mxl f1 f1; have m2 := mxl (mx f1 f1) f2; have m3 := mxl (mx (mx f1 f1) f2) f3; have m4 := mxl (mx (mx (mx f1 f1) f2) f3) f4
 omega
theorem qeW {k0 : Nat} (hk : 4294967296 < k0) {a b : qa} (ha : Ok a) (hb : Ok b) : Qi k0 a b = Xz a b := by
 unfold Qi
 rcases ha with rfl | fa
 ·rw [qbR]; exact bT Zq (gF Bool.false_ne_true (iT rfl rfl))
 rcases hb with rfl | fb
 ·rw [qbx]; exact bT (YL fa) (gT rfl Zq (iT rfl rfl))
 refine bT (YL fa) (gT rfl (YL fb) ?_)
 by_cases hz : b.Lo ≤ 0 ∧ 0 ≤ b.Hi
 ·rw [qbZ fa fb hz]
  have h2 : b.Hi ≥ 0 := hz.2
  rw [decide_eq_true hz.1, decide_eq_true h2]
  exact iT rfl rfl
 ·have hz' : 0 < b.Lo ∨ b.Hi < 0 := by omega
  obtain ⟨L, U, hd, C⟩ := qe4 fa fb hz'
  rw [hd]
  refine iF (by simp; omega) ?_
  have lb := fb.le
  have wa := fa.wlo
  have wb := fb.wlo
  have ne : b.Lo ≠ 0 := by omega
  have wa' := wa
  have wb' := wb
  unfold VC at wa' wb'
  rw [Zo (x := a.Lo * 65536) (by omega) (by omega)]
  refine bT (rfq ne (by omega) (by omega) (by omega) (by omega)) (bT (rcq ne (by omega) (by omega) (by omega) (by omega)) (bT (v := (L, U)) ?_ (bT (Vz C.le) rfl)))
  have loop : ∀ K, 3 ≤ K → Qi.l20 k0 a b false false (fq (a.Lo * 65536) b.Lo) (cq (a.Lo * 65536) b.Lo) K (fq (a.Lo * 65536) b.Lo) (cq (a.Lo * 65536) b.Lo) 0 = some (L, U) := by
   intro K hK
   obtain ⟨m, rfl⟩ : ∃ m, K = m + 3 := ⟨K - 3, by omega⟩
   unfold Qi.l20
   refine iT rfl (bT (qak fa fb (i := 0) (p := a.Lo) (by omega) rfl fa.wlo hz' (by omega) _ _) ?_)
   rw [Zo (x := 0 + 1) (by omega) (by omega)]
   unfold Qi.l20
   refine iT rfl (bT (qak fa fb (i := 0 + 1) (p := a.Hi) (by omega) rfl fa.whi hz' (by omega) _ _) ?_)
   rw [Zo (x := 0 + 1 + 1) (by omega) (by omega)]
   unfold Qi.l20
   refine iF Bool.false_ne_true ?_
   simp only
   rw [qdW C.lo C.isl, qdM C.hi C.ish]
  exact loop k0 (by omega)
end Go.Proofs.YtglcmhldonkfdaaGreatDoor
set_option maxRecDepth 10000
set_option linter.unusedVariables false
set_option linter.unusedSimpArgs false
namespace Go.Proofs.YtglcmhldonkfdaaGreatDoor
open Go
def mk {α : Type} (n : Nat) (f : Nat → α) : List α := (List.range n).map f
theorem Qt {α : Type} (n : Nat) (f : Nat → α) : (mk n f).length = n := by simp [mk]
theorem Xg {α : Type} {n i : Nat} (f : Nat → α) (h : i < n) : (mk n f)[i]? = some (f i) := by simp [mk, h]
theorem Z4 {α : Type} (n : Nat) (f : Nat → α) : mk (n + 1) f = mk n f ++ [f n] := by simp [mk, List.range_succ]
theorem qcT {α : Type} (f : Nat → α) : mk 0 f = [] := rfl
theorem Xr {α : Type} {n : Nat} {f g : Nat → α} (h : ∀ i, i < n → f i = g i) : mk n f = mk n g := by
 unfold mk
 exact List.map_congr_left fun i hi => h i (List.mem_range.1 hi)
theorem V9 {α : Type} {n : Nat} {l : List α} {f : Nat → α} (hl : l.length = n) (h : ∀ i, i < n → l[i]? = some (f i)) : l = mk n f := by
 apply List.ext_getElem?
 intro i
 by_cases hi : i < n
 ·rw [Xg _ hi, h i hi]
 ·rw [List.getElem?_eq_none (by omega), List.getElem?_eq_none (by rw [Qt]; omega)]
theorem qgk {α : Type} (l : List α) (d : α) : l = mk l.length fun i => l.getD i d :=
 V9 rfl fun i h => by rw [List.getElem?_eq_getElem h]; simp [List.getD, h]
theorem ZM {α : Type} (n : Nat) (f : Nat → α) (i : Nat) (v : α) : (mk n f).set i v = mk n fun j => if j = i then v else f j := by
 refine V9 (by rw [List.length_set, Qt]) fun j hj => ?_
 rw [List.getElem?_set]
 by_cases e : i = j
 ·subst e; rw [if_pos rfl, if_pos (by rw [Qt]; exact hj), if_pos rfl]
 ·rw [if_neg e, Xg _ hj, if_neg (fun h => e h.symm)]
theorem JF {α : Type} (n : Nat) (v : α) : List.replicate n v = mk n fun _ => v :=
 V9 (by simp) fun i hi => by simp [hi]
theorem qfv {α : Type} (n m : Nat) (f g : Nat → α) : mk n f ++ mk m g = mk (n + m) fun i => if i < n then f i else g (i - n) := by
 refine V9 (by rw [List.length_append, Qt, Qt]) fun i hi => ?_
 by_cases h : i < n
 ·rw [List.getElem?_append_left (by rw [Qt]; exact h), Xg _ h, if_pos h]
 ·rw [List.getElem?_append_right (by rw [Qt]; omega), Qt, Xg _ (by omega), if_neg h]
theorem qcV {α : Type} (n m : Nat) (f : Nat → α) : (mk n f).drop m = mk (n - m) fun i => f (m + i) :=
 V9 (by rw [List.length_drop, Qt]) fun i hi => by rw [List.getElem?_drop, Xg _ (by omega)]
def mm {α : Type} (n m : Nat) (f : Nat → Nat → α) : List (List α) := mk n fun i => mk m (f i)
def Vh (n : Nat) (p : Nat → Bool) : Bool := (List.range n).all p
theorem Va {n : Nat} {p : Nat → Bool} : Vh n p = true ↔ ∀ i, i < n → p i = true := by simp [Vh]
theorem J9 {n : Nat} {p : Nat → Bool} : Vh n p = false ↔ ∃ i, i < n ∧ p i = false := by simp [Vh]
theorem XG {i : Nat} (h : i < 1000000) : qe ((i : Int) + 1) = ((i + 1 : Nat) : Int) := by
 rw [Zo (by omega) (by omega)]; omega
theorem ZE {i n : Nat} (h : i < n) : decide ((i : Int) < (n : Int)) = true := decide_eq_true (by omega)
theorem ZJ (n : Nat) : decide ((n : Int) < (n : Int)) = false := decide_eq_false (by omega)
theorem YA {i n : Nat} (h : i < n) : 0 ≤ (i : Int) ∧ (i : Int) < (n : Int) := ⟨by omega, by omega⟩
theorem J0 {S R : Type} (l : Nat → S → Int → Option R) (n : Nat) (st : Nat → S) (r : R) (i0 : Nat)
  (hs : ∀ (k i : Nat), i0 ≤ i → i < n → l (k + 1) (st i) (i : Int) = l k (st (i + 1)) ((i + 1 : Nat) : Int))
  (he : ∀ k : Nat, l (k + 1) (st n) (n : Int) = some r) {k : Nat} (hk : n < k) (hi0 : i0 ≤ n) : l k (st i0) (i0 : Int) = some r := by
 have key : ∀ (d i k : Nat), i0 ≤ i → i + d = n → d < k → l k (st i) (i : Int) = some r := by
  intro d
  induction d with
  | zero =>
   intro i k h0 hi hk
   obtain ⟨k, rfl⟩ : ∃ m, k = m + 1 := ⟨k - 1, by omega⟩
   obtain rfl : i = n := by omega
   exact he k
  | succ d ih =>
   intro i k h0 hi hk
   obtain ⟨k, rfl⟩ : ∃ m, k = m + 1 := ⟨k - 1, by omega⟩
   rw [hs k i h0 (by omega)]
   exact ih (i + 1) k (by omega) (by omega) (by omega)
 exact key (n - i0) i0 k (Nat.le_refl _) (by omega) (by omega)
theorem YJ {S R : Type} (l : Nat → S → Int → Option R) (n : Nat) (st : Nat → S) (r : R) {s : S} (h0 : s = st 0)
  (hs : ∀ (k i : Nat), i < n → l (k + 1) (st i) (i : Int) = l k (st (i + 1)) ((i + 1 : Nat) : Int))
  (he : ∀ k : Nat, l (k + 1) (st n) (n : Int) = some r) {k : Nat} (hk : n < k) : l k s 0 = some r := by
 rw [h0]; exact J0 l n st r 0 (fun k i _ hi => hs k i hi) he hk (Nat.zero_le _)
theorem JI {γ : Type} (l : Nat → Int → Option (γ ⊕ Unit)) (n : Nat) (p : Nat → Bool) (v : Nat → γ)
  (hs : ∀ (k i : Nat), i < n → (∀ j, j < i → p j = false) → l (k + 1) (i : Int) = if p i = true then some (.inl (v i)) else l k ((i + 1 : Nat) : Int))
  (he : ∀ k : Nat, l (k + 1) (n : Int) = some (.inr ())) {k : Nat} (hk : n < k) :
  (∃ i, i < n ∧ p i = true ∧ (∀ j, j < i → p j = false) ∧ l k 0 = some (.inl (v i))) ∨ ((∀ i, i < n → p i = false) ∧ l k 0 = some (.inr ())) := by
 have key : ∀ (r i k : Nat), i + r = n → r < k → (∀ j, j < i → p j = false) →
   (∃ i', i' < n ∧ p i' = true ∧ (∀ j, j < i' → p j = false) ∧ l k (i : Int) = some (.inl (v i'))) ∨ ((∀ i, i < n → p i = false) ∧ l k (i : Int) = some (.inr ())) := by
  intro r
  induction r with
  | zero =>
   intro i k hi hk hp
   obtain ⟨k, rfl⟩ : ∃ m, k = m + 1 := ⟨k - 1, by omega⟩
   obtain rfl : i = n := by omega
   exact .inr ⟨hp, he k⟩
  | succ r ih =>
   intro i k hi hk hp
   obtain ⟨k, rfl⟩ : ∃ m, k = m + 1 := ⟨k - 1, by omega⟩
   rw [hs k i (by omega) hp]
   by_cases h : p i = true
   ·rw [if_pos h]
    exact .inl ⟨i, by omega, h, hp, rfl⟩
   ·rw [if_neg h]
    refine ih (i + 1) k (by omega) (by omega) fun j hj => ?_
    by_cases e : j = i
    ·subst e; simpa using h
    ·exact hp j (by omega)
 exact key n 0 k (by omega) hk (fun j hj => absurd hj (Nat.not_lt_zero _))
theorem qbn {γ : Type} (l : Nat → Int → Option (γ ⊕ Unit)) (n : Nat)
  (hs : ∀ (k i : Nat), i < n → l (k + 1) (i : Int) = l k ((i + 1 : Nat) : Int))
  (he : ∀ k : Nat, l (k + 1) (n : Int) = some (.inr ())) {k : Nat} (hk : n < k) : l k 0 = some (.inr ()) :=
 J0 (fun k (_ : Unit) i => l k i) n (fun _ => ()) (.inr ()) 0 (fun k i _ hi => hs k i hi) he hk (Nat.zero_le _)
theorem qbJ (l : Nat → Int → Option (Bool ⊕ Unit)) (n : Nat) (p : Nat → Bool)
  (hs : ∀ (k i : Nat), i < n → l (k + 1) (i : Int) = if p i = true then l k ((i + 1 : Nat) : Int) else some (.inl false))
  (he : ∀ k : Nat, l (k + 1) (n : Int) = some (.inr ())) {k : Nat} (hk : n < k) : l k 0 = some (if Vh n p = true then .inr () else .inl false) := by
 rcases JI l n (fun i => !p i) (fun _ => false) (fun k i hi _ => by rw [hs k i hi]; cases p i <;> rfl) he hk with ⟨i, hi, hp, _, h⟩ | ⟨hp, h⟩
 ·have : Vh n p = false := J9.2 ⟨i, hi, by simpa using hp⟩
  rw [h, this]; rfl
 ·have : Vh n p = true := Va.2 fun i hi => by simpa using hp i hi
  rw [h, this]; rfl
theorem qf8 (a b : qa) : ((a.Lo == b.Lo) && ((a.Hi == b.Hi) && true)) = decide (a = b) := by
 obtain ⟨x, y⟩ := a
 obtain ⟨u, v⟩ := b
 by_cases h1 : x = u <;> by_cases h2 : y = v <;> simp [h1, h2]
def WD (a b : qa) : qa := (Xh a b).getD default
def qcY (a b : qa) : qa := (Xx a b).getD default
def qb6 (a b : qa) : qa := (XV a b).getD default
def qc8 (a b : qa) : qa := (Xz a b).getD default
theorem Vr {a b : qa} (ha : Ok a) (hb : Ok b) : Xh a b = some (WD a b) := by
 obtain ⟨r, h, _⟩ := qd0 ha hb; rw [WD, h]; rfl
theorem JB {a b : qa} (ha : Ok a) (hb : Ok b) : Ok (WD a b) := by
 obtain ⟨r, h, o⟩ := qd0 ha hb; rw [WD, h]; exact o
theorem qbr {a b : qa} (ha : Ok a) (hb : Ok b) : Xx a b = some (qcY a b) := by
 obtain ⟨r, h, _⟩ := qcD ha hb; rw [qcY, h]; rfl
theorem qe5 {a b : qa} (ha : Ok a) (hb : Ok b) : Ok (qcY a b) := by
 obtain ⟨r, h, o⟩ := qcD ha hb; rw [qcY, h]; exact o
theorem qcy {a b : qa} (ha : Ok a) (hb : Ok b) : XV a b = some (qb6 a b) := by
 obtain ⟨r, h, _⟩ := qch ha hb; rw [qb6, h]; rfl
theorem qe2 {a b : qa} (ha : Ok a) (hb : Ok b) : Ok (qb6 a b) := by
 obtain ⟨r, h, o⟩ := qch ha hb; rw [qb6, h]; exact o
theorem qcI {a b : qa} (ha : Ok a) (hb : Ok b) : Xz a b = some (qc8 a b) := by
 obtain ⟨r, h, _⟩ := qdV ha hb; rw [qc8, h]; rfl
theorem qe1 {a b : qa} (ha : Ok a) (hb : Ok b) : Ok (qc8 a b) := by
 obtain ⟨r, h, o⟩ := qdV ha hb; rw [qc8, h]; exact o
def Z7 (a b : Nat → qa) : Nat → qa
 | 0 => WD (a 0) (b 0)
 | n + 1 => qcY (Z7 a b n) (WD (a (n + 1)) (b (n + 1)))
theorem WM {a b : Nat → qa} : ∀ {n : Nat}, (∀ i, i ≤ n → Ok (a i)) → (∀ i, i ≤ n → Ok (b i)) → Ok (Z7 a b n)
 | 0, ha, hb => JB (ha 0 (Nat.le_refl _)) (hb 0 (Nat.le_refl _))
 | n + 1, ha, hb => qe5 (WM (fun i h => ha i (by omega)) (fun i h => hb i (by omega))) (JB (ha _ (Nat.le_refl _)) (hb _ (Nat.le_refl _)))
end Go.Proofs.YtglcmhldonkfdaaGreatDoor
set_option maxRecDepth 10000
set_option linter.unusedVariables false
set_option linter.unusedSimpArgs false
namespace Go.Proofs.YtglcmhldonkfdaaGreatDoor
open Go
theorem w1 : qe (0 + 1) = ((1 : Nat) : Int) := rfl
theorem qdH {n m i k : Nat} (hi : i < n) (hk : k < m) (f : Nat → Nat → qa) : Yf (k : Int) (mm n m f) (i : Int) = some (f i k) := by
 unfold Yf mm
 simp only [Qt, YA hi, YA hk, and_self, if_true, Int.toNat_natCast, Xg _ hi, Xg _ hk, Option.bind_some]
theorem qdP {n k : Nat} (hk : k < n) (f : Nat → qa) : Ye (k : Int) (mk n f) = some (f k) := by
 unfold Ye
 simp only [Qt, YA hk, and_self, if_true, Int.toNat_natCast, Xg _ hk, Option.bind_some]
theorem qge {n m i k : Nat} (hi : i < n) (hk : k < m) (f : Nat → Nat → qa) : Yd (k : Int) (mm n m f) (i : Int) = some (f i k) := by
 unfold Yd mm
 simp only [Qt, YA hi, YA hk, and_self, if_true, Int.toNat_natCast, Xg _ hi, Xg _ hk, Option.bind_some]
theorem qf5 {n m i k : Nat} (hi : i < n) (hk : k < m) (f : Nat → Nat → qa) : Yg (i : Int) (mm n m f) (k : Int) = some (f i k) := by
 unfold Yg mm
 simp only [Qt, YA hi, YA hk, and_self, if_true, Int.toNat_natCast, Xg _ hi, Xg _ hk, Option.bind_some]
theorem qf3 {n N i : Nat} (hn : N < 1000000) (h0 : N = n + 1) (hi : i < N) (f : Nat → Nat → qa) (b : Nat → qa) (hf : ∀ k, k < N → Ok (f i k)) (hb : ∀ k, k < N → Ok (b k)) {k0 : Nat} (hk : N < k0) :
  Q0 k0 (N : Int) (mm N N f) (i : Int) (mk N b) = some (Z7 (f i) b n) := by
 have p0 : 0 < N := by omega
 have e0 : Yf 0 (mm N N f) (i : Int) = some (f i 0) := qdH hi p0 f
 have e1 : Ye 0 (mk N b) = some (b 0) := qdP p0 b
 unfold Q0
 rw [e0, Option.bind_some, e1, Option.bind_some, Vr (hf 0 p0) (hb 0 p0), Option.bind_some]
 have L := J0 (fun k (s : qa) x => Q0.l14 k0 (N : Int) (mm N N f) (i : Int) (mk N b) (f i 0) (b 0) (WD (f i 0) (b 0)) k s.Lo s.Hi x) N (fun j => Z7 (f i) b (j - 1)) ((Z7 (f i) b n).Lo, (Z7 (f i) b n).Hi) 1 (fun k j h1 hj => by
  obtain ⟨j, rfl⟩ : ∃ m, j = m + 1 := ⟨j - 1, by omega⟩
  show Q0.l14 _ _ _ _ _ _ _ _ (k + 1) _ _ _ = _
  rw [Q0.l14]
  rw [if_pos (ZE hj), qdH hi hj f, Option.bind_some, qdP hj b, Option.bind_some, Vr (hf _ hj) (hb _ hj), Option.bind_some, qbr (WM (fun a h => hf a (by omega)) (fun a h => hb a (by omega))) (JB (hf _ hj) (hb _ hj)), Option.bind_some, XG (by omega)]
  rfl) (fun k => by
  show Q0.l14 _ _ _ _ _ _ _ _ (k + 1) _ _ _ = _
  rw [Q0.l14, if_neg (by rw [ZJ]; simp), h0]
  rfl) hk (by omega)
 exact bT L rfl
theorem qgd {n N i c : Nat} (hn : N < 1000000) (h0 : N = n + 1) (hi : i < N) (hc : c < N) (f g : Nat → Nat → qa) (hf : ∀ k, k < N → Ok (f i k)) (hb : ∀ k, k < N → Ok (g k c)) {k0 : Nat} (hk : N < k0) :
  Q1 k0 (N : Int) (mm N N f) (i : Int) (mm N N g) (c : Int) = some (Z7 (f i) (fun k => g k c) n) := by
 have p0 : 0 < N := by omega
 have e0 : Yd 0 (mm N N f) (i : Int) = some (f i 0) := qge hi p0 f
 have e1 : Yg 0 (mm N N g) (c : Int) = some (g 0 c) := qf5 p0 hc g
 unfold Q1
 rw [e0, Option.bind_some, e1, Option.bind_some, Vr (hf 0 p0) (hb 0 p0), Option.bind_some]
 have L := J0 (fun k (s : qa) x => Q1.l14 k0 (N : Int) (mm N N f) (i : Int) (mm N N g) (c : Int) (f i 0) (g 0 c) (WD (f i 0) (g 0 c)) k s.Lo s.Hi x) N (fun j => Z7 (f i) (fun k => g k c) (j - 1)) ((Z7 (f i) (fun k => g k c) n).Lo, (Z7 (f i) (fun k => g k c) n).Hi) 1 (fun k j h1 hj => by
  obtain ⟨j, rfl⟩ : ∃ m, j = m + 1 := ⟨j - 1, by omega⟩
  show Q1.l14 _ _ _ _ _ _ _ _ _ (k + 1) _ _ _ = _
  rw [Q1.l14]
  rw [if_pos (ZE hj), qge hi hj f, Option.bind_some, qf5 hj hc g, Option.bind_some, Vr (hf _ hj) (hb _ hj), Option.bind_some, qbr (WM (fun a h => hf a (by omega)) (fun a h => hb a (by omega))) (JB (hf _ hj) (hb _ hj)), Option.bind_some, XG (by omega)]
  rfl) (fun k => by
  show Q1.l14 _ _ _ _ _ _ _ _ _ (k + 1) _ _ _ = _
  rw [Q1.l14, if_neg (by rw [ZJ]; simp), h0]
  rfl) hk (by omega)
 exact bT L rfl
theorem qd2 {n N : Nat} (hn : N < 1000000) (h0 : N = n + 1) (f : Nat → Nat → qa) (b : Nat → qa) (hf : ∀ i, i < N → ∀ k, k < N → Ok (f i k)) (hb : ∀ k, k < N → Ok (b k)) {k0 : Nat} (hk : N < k0) :
  XA k0 (mm N N f) (mk N b) = some (mk N fun i => Z7 (f i) b n) := by
 unfold XA
 have hl : (mm N N f).length = N := Qt _ _
 refine bT (YJ (fun k s x => XA.l9 k0 (mm N N f) (mk N b) k s x) N (fun j => mk j fun i => Z7 (f i) b n) _ rfl (fun k j hj => ?_) (fun k => ?_) hk) rfl
 ·show XA.l9 _ _ _ (k + 1) _ _ = _
  rw [XA.l9, hl, if_pos (ZE hj), qf3 hn h0 hj f b (hf j hj) hb hk, Option.bind_some, Qt, if_pos (by omega), XG (by omega), ← Z4]
 ·show XA.l9 _ _ _ (k + 1) _ _ = _
  rw [XA.l9, hl, if_neg (by rw [ZJ]; simp)]
theorem Jm {β : Type} (l : Nat → List (List β) → Int → Option (List (List β))) (n i : Nat) (hi : i < n) (f : Nat → Nat → β) (hn : n < 1000000)
  (hs : ∀ (k : Nat) (acc : List (List β)) (j : Nat) (row : List β), j < n → acc.length = n → acc[i]? = some row → row.length < 1000000 → l (k + 1) acc (j : Int) = l k (acc.set i (row ++ [f i j])) ((j + 1 : Nat) : Int))
  (he : ∀ (k : Nat) (acc : List (List β)), l (k + 1) acc (n : Int) = some acc) {k : Nat} (hk : n < k) :
  l k (mk n fun a => if a < i then mk n (f a) else []) 0 = some (mk n fun a => if a < i + 1 then mk n (f a) else []) := by
 refine YJ l n (fun j => mk n fun a => if a < i then mk n (f a) else if a = i then mk j (f i) else []) _ (Xr fun a ha => ?_) (fun k j hj => ?_) (fun k => ?_) hk
 ·by_cases h : a < i
  ·rw [if_pos h, if_pos h]
  ·rw [if_neg h, if_neg h, qcT, ite_self]
 ·show l (k + 1) (mk n fun a => if a < i then mk n (f a) else if a = i then mk j (f i) else []) _ = _
  rw [hs k _ j (mk j (f i)) hj (Qt _ _) (by rw [Xg _ hi, if_neg (by omega), if_pos rfl]) (by rw [Qt]; omega), ← Z4, ZM]
  congr 1
  refine Xr fun a ha => ?_
  by_cases h : a = i
  ·subst h; rw [if_pos rfl, if_neg (by omega), if_pos rfl]
  ·simp only [h, if_false]
 ·show l (k + 1) (mk n fun a => if a < i then mk n (f a) else if a = i then mk n (f i) else []) _ = _
  rw [he]
  congr 1
  refine Xr fun a ha => ?_
  by_cases h : a < i
  ·rw [if_pos h, if_pos (by omega)]
  ·by_cases e : a = i
   ·subst e; rw [if_neg (by omega), if_pos rfl, if_pos (by omega)]
   ·rw [if_neg h, if_neg e, if_neg (by omega)]
theorem JK {β : Type} (l : Nat → List (List β) → Int → Option (List (List β))) (n : Nat) (f : Nat → Nat → β)
  (hs : ∀ (k i : Nat), i < n → l (k + 1) (mk n fun a => if a < i then mk n (f a) else []) (i : Int) = l k (mk n fun a => if a < i + 1 then mk n (f a) else []) ((i + 1 : Nat) : Int))
  (he : ∀ (k : Nat) (acc : List (List β)), l (k + 1) acc (n : Int) = some acc) {k : Nat} (hk : n < k) :
  l k (List.replicate n []) 0 = some (mm n n f) := by
 refine YJ l n (fun i => mk n fun a => if a < i then mk n (f a) else []) _ ?_ hs (fun k => ?_) hk
 ·rw [JF]; exact Xr fun a _ => by rw [if_neg (by omega)]
 ·show l (k + 1) (mk n fun a => if a < n then mk n (f a) else []) _ = _
  rw [he]
  congr 1
  exact Xr fun a ha => if_pos ha
theorem n0 {n : Nat} (hn : n < 1000000) : 0 ≤ (n : Int) ∧ (n : Int) < 1000000 := ⟨by omega, by omega⟩
theorem qfH {n N : Nat} (hn : N < 1000000) (h0 : N = n + 1) (f g : Nat → Nat → qa) (hf : ∀ i, i < N → ∀ k, k < N → Ok (f i k)) (hg : ∀ i, i < N → ∀ k, k < N → Ok (g i k)) {k0 : Nat} (hk : N < k0) :
  Zk k0 (mm N N f) (mm N N g) = some (mm N N fun i j => Z7 (f i) (fun k => g k j) n) := by
 have hl : (mm N N f).length = N := Qt _ _
 unfold Zk
 refine bT ?_ rfl
 unfold Qe
 rw [hl, if_pos (n0 hn), Int.toNat_natCast]
 refine bT (JK (fun k s x => Qe.l10 k0 (N : Int) (mm N N f) (mm N N g) k s x) N (fun i j => Z7 (f i) (fun k => g k j) n) (fun k i hi => ?_) (fun k acc => ?_) hk) rfl
 ·show Qe.l10 _ _ _ _ (k + 1) _ _ = _
  rw [Qe.l10, if_pos (ZE hi)]
  refine bT (Jm (fun k s x => Qe.l19 k0 (N : Int) (mm N N f) (mm N N g) _ (i : Int) k s x) N i hi (fun i j => Z7 (f i) (fun k => g k j) n) hn (fun k acc j row hj ha hr hw => ?_) (fun k acc => ?_) hk) (by rw [XG (by omega)])
  ·show Qe.l19 _ _ _ _ _ _ (k + 1) _ _ = _
   have e : Y0 k0 (i : Int) (j : Int) (mm N N f) (mm N N g) = some (Z7 (f i) (fun k => g k j) n) := by
    unfold Y0
    rw [hl, qgd hn h0 hi hj f g (hf i hi) (fun k hk => hg k hk j hj) hk]; rfl
   rw [Qe.l19, if_pos (ZE hj), ha, if_pos (YA hi), Int.toNat_natCast, hr, Option.bind_some, e, Option.bind_some, if_pos hw, if_pos (YA hi), Option.bind_some, XG (by omega)]
  ·show Qe.l19 _ _ _ _ _ _ (k + 1) _ _ = _
   rw [Qe.l19, if_neg (by rw [ZJ]; simp)]
 ·show Qe.l10 _ _ _ _ (k + 1) _ _ = _
  rw [Qe.l10, if_neg (by rw [ZJ]; simp)]
def WF (i j : Nat) : qa := if i = j then ⟨65536, 65536⟩ else ⟨0, 0⟩
theorem id1 (i j : Nat) : YH (i : Int) (j : Int) = some (WF i j) := by
 unfold YH WF
 by_cases h : i = j
 ·subst h; rw [if_pos (by simp), if_pos rfl]; rfl
 ·rw [if_neg (by simp; omega), if_neg h]; rfl
theorem qbX {N : Nat} (h0 : 0 < N) (h6 : N ≤ 6) {k0 : Nat} (hk : N < k0) : Xp k0 (N : Int) = some (mm N N WF) := by
 have hn : N < 1000000 := by omega
 unfold Xp
 rw [if_neg (by simp; omega)]
 refine bT ?_ rfl
 unfold Qg
 rw [if_pos (n0 hn), Int.toNat_natCast]
 refine bT (JK (fun k s x => Qg.l10 k0 (N : Int) k s x) N WF (fun k i hi => ?_) (fun k acc => ?_) hk) rfl
 ·show Qg.l10 _ _ (k + 1) _ _ = _
  rw [Qg.l10, if_pos (ZE hi)]
  refine bT (Jm (fun k s x => Qg.l19 k0 (N : Int) _ (i : Int) k s x) N i hi WF hn (fun k acc j row hj ha hr hw => ?_) (fun k acc => ?_) hk) (by rw [XG (by omega)])
  ·show Qg.l19 _ _ _ _ (k + 1) _ _ = _
   rw [Qg.l19, if_pos (ZE hj), ha, if_pos (YA hi), Int.toNat_natCast, hr, Option.bind_some, id1, Option.bind_some, if_pos hw, if_pos (YA hi), Option.bind_some, XG (by omega)]
  ·show Qg.l19 _ _ _ _ (k + 1) _ _ = _
   rw [Qg.l19, if_neg (by rw [ZJ]; simp)]
 ·show Qg.l10 _ _ (k + 1) _ _ = _
  rw [Qg.l10, if_neg (by rw [ZJ]; simp)]
theorem tr1 {n m i k : Nat} (hi : i < m) (hk : k < n) (f : Nat → Nat → qa) : Yn (i : Int) (k : Int) (mm n m f) = some (f k i) := by
 unfold Yn mm
 simp only [Qt, YA hi, YA hk, and_self, if_true, Int.toNat_natCast, Xg _ hi, Xg _ hk, Option.bind_some]
theorem qda {N : Nat} (hn : N < 1000000) (f : Nat → Nat → qa) {k0 : Nat} (hk : N < k0) : Yq k0 (mm N N f) = some (mm N N fun i j => f j i) := by
 have hl : (mm N N f).length = N := Qt _ _
 unfold Yq
 refine bT ?_ rfl
 unfold Qf
 rw [hl, if_pos (n0 hn), Int.toNat_natCast]
 refine bT (JK (fun k s x => Qf.l10 k0 (N : Int) (mm N N f) k s x) N (fun i j => f j i) (fun k i hi => ?_) (fun k acc => ?_) hk) rfl
 ·show Qf.l10 _ _ _ (k + 1) _ _ = _
  rw [Qf.l10, if_pos (ZE hi)]
  refine bT (Jm (fun k s x => Qf.l19 k0 (N : Int) (mm N N f) _ (i : Int) k s x) N i hi (fun i j => f j i) hn (fun k acc j row hj ha hr hw => ?_) (fun k acc => ?_) hk) (by rw [XG (by omega)])
  ·show Qf.l19 _ _ _ _ _ (k + 1) _ _ = _
   rw [Qf.l19, if_pos (ZE hj), ha, if_pos (YA hi), Int.toNat_natCast, hr, Option.bind_some, tr1 hi hj, Option.bind_some, if_pos hw, if_pos (YA hi), Option.bind_some, XG (by omega)]
  ·show Qf.l19 _ _ _ _ _ (k + 1) _ _ = _
   rw [Qf.l19, if_neg (by rw [ZJ]; simp)]
 ·show Qf.l10 _ _ _ (k + 1) _ _ = _
  rw [Qf.l10, if_neg (by rw [ZJ]; simp)]
end Go.Proofs.YtglcmhldonkfdaaGreatDoor
set_option maxRecDepth 10000
set_option linter.unusedVariables false
set_option linter.unusedSimpArgs false
namespace Go.Proofs.YtglcmhldonkfdaaGreatDoor
open Go
theorem YW {α : Type} {n m : Nat} {f g : Nat → Nat → α} (h : ∀ i, i < n → ∀ j, j < m → f i j = g i j) : mm n m f = mm n m g :=
 Xr fun i hi => Xr fun j hj => h i hi j hj
theorem Yk {α : Type} {n m i : Nat} (f : Nat → Nat → α) (h : i < n) : (mm n m f)[i]? = some (mk m (f i)) := Xg _ h
theorem QW {α : Type} (n m : Nat) (f : Nat → Nat → α) : (mm n m f).length = n := Qt _ _
theorem qb8 {α : Type} (n m : Nat) (f : Nat → Nat → α) (i j : Nat) (v : α) : (mm n m f).set i ((mk m (f i)).set j v) = mm n m fun a c => if a = i ∧ c = j then v else f a c := by
 unfold mm
 rw [ZM, ZM]
 refine Xr fun a ha => ?_
 by_cases e : a = i
 ·subst e; rw [if_pos rfl]; exact Xr fun c hc => by simp only [true_and]
 ·rw [if_neg e]; exact Xr fun c hc => (if_neg (fun h => e h.1)).symm
theorem qfG {x : Int} (h : 0 ≤ x ∧ x ≤ 255) : ∃ n : Nat, XY x = some ((n + 1 : Nat) : Int) ∧ n < 4 := by
 unfold XY
 have hm : Int.tmod x 4 = x % 4 := Int.tmod_eq_emod_of_nonneg h.1
 refine ⟨(x % 4).toNat, ?_, by omega⟩
 rw [Zo (x := x) (by omega) (by omega), hm, Zo (by omega) (by omega)]
 congr 1
 omega
theorem qe9 (x : Int) : QR x = some (nw x x) := by
 unfold QR; rw [Vz (Int.le_refl _)]; rfl
theorem qfr : nw 65536 65536 = ⟨65536, 65536⟩ := rfl
theorem qcm {N : Nat} (h0 : 0 < N) (h6 : N ≤ 6) {k0 : Nat} (hk : N < k0) : qZ k0 (N : Int) = some (mm N N WF) := by
 unfold qZ
 rw [if_neg (by simp; omega)]
 refine bT (YJ (fun k s x => qZ.l11 k0 (N : Int) k s x) N (fun j => mm j N WF) _ rfl (fun k j hj => ?_) (fun k => ?_) hk) rfl
 ·show qZ.l11 _ _ (k + 1) _ _ = _
  have e : (List.replicate N (⟨0, 0⟩ : qa)).set j ⟨65536, 65536⟩ = mk N (WF j) := by
   rw [JF, ZM]
   refine Xr fun c hc => ?_
   unfold WF
   by_cases h : c = j
   ·subst h; simp
   ·rw [if_neg h, if_neg (fun e => h e.symm)]
  rw [qZ.l11, if_pos (ZE hj), if_pos (n0 (by omega)), qe9, Option.bind_some, Int.toNat_natCast, Int.toNat_natCast, JF, Qt, if_pos (YA hj), Xg _ hj, Option.bind_some, if_pos (by rw [QW]; omega), XG (by omega), ← JF, qfr, e]
  unfold mm
  rw [← Z4]
 ·show qZ.l11 _ _ (k + 1) _ _ = _
  rw [qZ.l11, if_neg (by rw [ZJ]; simp)]
theorem qdv {α : Type} (l : Nat → List (List α) → Int → Option (List (List α))) (n i L : Nat) (hi : i < n) (E z : Nat → Nat → α) (hE : ∀ i j, L ≤ i * n + j → E i j = z i j)
  (hs : ∀ (k : Nat) (acc : List (List α)) (j : Nat) (row : List α), j < n → i * n + j < L → acc.length = n → acc[i]? = some row → row.length = n → l (k + 1) acc (j : Int) = l k (acc.set i (row.set j (E i j))) ((j + 1 : Nat) : Int))
  (he : ∀ (k : Nat) (acc : List (List α)) (j : Nat), j ≤ n → ¬ (j < n ∧ i * n + j < L) → l (k + 1) acc (j : Int) = some acc) {k : Nat} (hk : n < k) :
  l k (mm n n fun a c => if a < i then E a c else z a c) 0 = some (mm n n fun a c => if a < i + 1 then E a c else z a c) := by
 refine YJ l (min n (L - i * n)) (fun j => mm n n fun a c => if a < i ∨ a = i ∧ c < j then E a c else z a c) _ (YW fun a ha c hc => ?_) (fun k j hj => ?_) (fun k => ?_) (by omega)
 ·by_cases h : a < i
  ·rw [if_pos h, if_pos (.inl h)]
  ·rw [if_neg h, if_neg (by omega)]
 ·show l (k + 1) (mm n n fun a c => if a < i ∨ a = i ∧ c < j then E a c else z a c) _ = _
  rw [hs k _ j _ (by omega) (by omega) (QW _ _ _) (Yk _ hi) (Qt _ _), qb8]
  congr 1
  refine YW fun a ha c hc => ?_
  by_cases e : a = i ∧ c = j
  ·rw [if_pos e, if_pos (by omega), e.1, e.2]
  ·rw [if_neg e]
   by_cases h : a < i ∨ a = i ∧ c < j
   ·rw [if_pos h, if_pos (by omega)]
   ·rw [if_neg h, if_neg (by omega)]
 ·show l (k + 1) (mm n n fun a c => if a < i ∨ a = i ∧ c < min n (L - i * n) then E a c else z a c) _ = _
  rw [he _ _ _ (by omega) (by omega)]
  congr 1
  refine YW fun a ha c hc => ?_
  by_cases h : a < i + 1
  ·rw [if_pos h]
   by_cases h2 : a < i ∨ a = i ∧ c < min n (L - i * n)
   ·rw [if_pos h2]
   ·rw [if_neg h2]
    obtain rfl : a = i := by omega
    exact (hE _ _ (by omega)).symm
  ·rw [if_neg h, if_neg (by omega)]
theorem qe8 {α : Type} (l : Nat → List (List α) → Int → Option (List (List α))) (n : Nat) (E z : Nat → Nat → α)
  (hs : ∀ (k i : Nat), i < n → l (k + 1) (mm n n fun a c => if a < i then E a c else z a c) (i : Int) = l k (mm n n fun a c => if a < i + 1 then E a c else z a c) ((i + 1 : Nat) : Int))
  (he : ∀ (k : Nat) (acc : List (List α)), l (k + 1) acc (n : Int) = some acc) {k : Nat} (hk : n < k) :
  l k (mm n n z) 0 = some (mm n n E) := by
 refine YJ l n (fun i => mm n n fun a c => if a < i then E a c else z a c) _ (YW fun a _ c _ => by rw [if_neg (by omega)]) hs (fun k => ?_) hk
 show l (k + 1) (mm n n fun a c => if a < n then E a c else z a c) _ = _
 rw [he]
 congr 1
 exact YW fun a ha c _ => if_pos ha
def smI (a : qa) : qa := ⟨mn (Int.tmod a.Lo 16777216) (Int.tmod a.Hi 16777216), mx (Int.tmod a.Lo 16777216) (Int.tmod a.Hi 16777216)⟩
def Sm (a : qa) : Prop := -16777216 < a.Lo ∧ a.Lo ≤ a.Hi ∧ a.Hi < 16777216
theorem qfA (a : qa) : Sm (smI a) := by
 have h1 := qae a.Lo
 have h2 := qae a.Hi
 have h3 := mnl (Int.tmod a.Lo 16777216) (Int.tmod a.Hi 16777216)
 have h4 := mxl (Int.tmod a.Lo 16777216) (Int.tmod a.Hi 16777216)
 unfold Sm smI
 simp only
 omega
theorem Sm.fin {a : qa} (h : Sm a) : ZS a := by unfold Sm at h; unfold ZS; omega
theorem Sm.ok {a : qa} (h : Sm a) : Ok a := .inr h.fin
theorem qdI (i j : Nat) : Sm (WF i j) := by unfold WF Sm; split <;> simp
def elt (s : qa → qa) (l : List qa) (n i j : Nat) : qa := if i * n + j < l.length then s (l.getD (i * n + j) default) else WF i j
theorem qgj {P : qa → Prop} {s : qa → qa} (hs : ∀ a, P (s a)) (hi : ∀ i j, P (WF i j)) (l : List qa) (n i j : Nat) : P (elt s l n i j) := by
 unfold elt; split
 ·exact hs _
 ·exact hi _ _
theorem qeQ {i j n : Nat} (hn : n ≤ 6) (hi : i < n) (hj : j ≤ n) : qe (qe ((i : Int) * (n : Int)) + (j : Int)) = ((i * n + j : Nat) : Int) := by
 have h : i * n ≤ 6 * 6 := Nat.mul_le_mul (by omega) hn
 have e : (i : Int) * (n : Int) = ((i * n : Nat) : Int) := (Int.natCast_mul _ _).symm
 rw [e, Zo (x := ((i * n : Nat) : Int)) (by omega) (by omega), Zo (by omega) (by omega)]
 omega
def mdI (a : qa) : qa := if Ok a then a else if (qbP .i64 a.Lo 31) == 7 then ZT else smI a
theorem qcs (a : qa) : X3 a = some (mdI a) := by
 unfold X3 mdI
 rw [qbO, Option.bind_some]
 by_cases h : Ok a
 ·rw [if_pos (by simpa using h), if_pos h]
 ·rw [if_neg (by simpa using h), if_neg h]
  split <;> rfl
theorem qdp (a : qa) : Ok (mdI a) := by
 unfold mdI
 split
 ·assumption
 ·split
  ·exact .inl rfl
  ·exact (qfA a).ok
theorem qcL {N : Nat} (h0 : 0 < N) (h6 : N ≤ 6) (l : List qa) {k0 : Nat} (hk : N < k0) : qV k0 l (N : Int) = some (mm N N (elt mdI l N)) := by
 unfold qV
 rw [qcm h0 h6 hk, Option.bind_some]
 refine bT (qe8 (fun k s x => qV.l10 k0 l (N : Int) (mm N N WF) k s x) N (elt mdI l N) WF (fun k i hi => ?_) (fun k acc => ?_) hk) rfl
 ·show qV.l10 _ _ _ _ (k + 1) _ _ = _
  rw [qV.l10, if_pos (ZE hi)]
  refine bT (qdv (fun k s x => qV.l18 k0 l (N : Int) (mm N N WF) _ (i : Int) k s x) N i l.length hi (elt mdI l N) WF (fun i j h => by unfold elt; rw [if_neg (by omega)]) (fun k acc j row hj hL ha hr hw => ?_) (fun k acc j hj hx => ?_) hk) (by rw [XG (by omega)])
  ·show qV.l18 _ _ _ _ _ _ (k + 1) _ _ = _
   have hg : l[i * N + j]? = some (l.getD (i * N + j) default) := by rw [List.getElem?_eq_getElem hL]; simp [List.getD, hL]
   have hw' : row[j]? = some (row.getD j default) := by rw [List.getElem?_eq_getElem (by omega)]; simp [List.getD, show j < row.length by omega]
   rw [qV.l18, qeQ h6 hi (by omega), if_pos (by rw [ZE hj, ZE hL]; rfl), ha, if_pos (YA hi), Int.toNat_natCast, hr, Option.bind_some, if_pos (YA hL), Int.toNat_natCast, hg, Option.bind_some, qcs, Option.bind_some, hw, if_pos (YA hj), Int.toNat_natCast, hw', Option.bind_some, XG (by omega)]
   unfold elt
   rw [if_pos hL]
  ·show qV.l18 _ _ _ _ _ _ (k + 1) _ _ = _
   rw [qV.l18, qeQ h6 hi hj, if_neg (by simp; omega)]
 ·show qV.l10 _ _ _ _ (k + 1) _ _ = _
  rw [qV.l10, if_neg (by rw [ZJ]; simp)]
def vec (s : qa → qa) (l : List qa) (i : Nat) : qa := if i < l.length then s (l.getD i default) else ⟨0, 0⟩
theorem qfZ {P : qa → Prop} {s : qa → qa} (hs : ∀ a, P (s a)) (hz : P ⟨0, 0⟩) (l : List qa) (i : Nat) : P (vec s l i) := by
 unfold vec; split
 ·exact hs _
 ·exact hz
theorem gD {α : Type} (l : List α) (d : α) {i : Nat} (h : i < l.length) : l[i]? = some (l.getD i d) := by rw [List.getElem?_eq_getElem h]; simp [List.getD, h]
theorem qcr {N : Nat} (hn : N < 1000000) (l : List qa) {k0 : Nat} (hk : N < k0) : QT k0 l (N : Int) = some (mk N (vec mdI l)) := by
 unfold QT
 refine bT (YJ (fun k s x => QT.l9 k0 l (N : Int) k s x) N (fun j => mk j (vec mdI l)) _ rfl (fun k j hj => ?_) (fun k => ?_) hk) rfl
 ·show QT.l9 _ _ _ (k + 1) _ _ = _
  rw [QT.l9, if_pos (ZE hj)]
  refine bT (v := ((vec mdI l j).Lo, (vec mdI l j).Hi)) ?_ ?_
  ·by_cases h : j < l.length
   ·rw [if_pos (ZE h), if_pos (YA h), Int.toNat_natCast, gD l default h, Option.bind_some, qcs, vec, if_pos h]; rfl
   ·rw [if_neg (by simp; omega), vec, if_neg h]
  ·rw [Qt, if_pos (by omega), XG (by omega), Z4]
 ·show QT.l9 _ _ _ (k + 1) _ _ = _
  rw [QT.l9, if_neg (by rw [ZJ]; simp)]
end Go.Proofs.YtglcmhldonkfdaaGreatDoor
set_option maxRecDepth 10000
set_option linter.unusedVariables false
set_option linter.unusedSimpArgs false
namespace Go.Proofs.YtglcmhldonkfdaaGreatDoor
open Go
def Qk (a b : Nat → Int) : Nat → Int
 | 0 => 0
 | n + 1 => Qk a b n + a n * b n
theorem Zy {a b : Nat → Int} {A B : Int} (hA : 0 ≤ A) (hB : 0 ≤ B) : ∀ {n : Nat}, (∀ i, i < n → -A ≤ a i ∧ a i ≤ A) → (∀ i, i < n → -B ≤ b i ∧ b i ≤ B) → -(n * (A * B)) ≤ Qk a b n ∧ Qk a b n ≤ n * (A * B)
 | 0, _, _ => by simp [Qk]
 | n + 1, ha, hb => by
  have h1 := Zy hA hB (n := n) (fun i h => ha i (by omega)) (fun i h => hb i (by omega))
  have h2 := YC (ha n (by omega)) (hb n (by omega))
  have e : ((n + 1 : Nat) : Int) * (A * B) = n * (A * B) + A * B := by rw [Int.natCast_add, Int.add_mul]; simp
  rw [Qk, e]
  omega
theorem qeo {N c : Nat} (hn : N < 1000000) (hc : c < N) (m : Nat → Nat → Int) {k0 : Nat} (hk : N < k0) : Qy k0 (mm N N m) (c : Int) = some (mk N fun i => m i c) := by
 unfold Qy
 refine bT (YJ (fun k s x => Qy.l9 k0 (mm N N m) (c : Int) k s x) N (fun j => mk j fun i => m i c) _ rfl (fun k i hi => ?_) (fun k => ?_) hk) rfl
 ·show Qy.l9 _ _ _ (k + 1) _ _ = _
  rw [Qy.l9, QW, if_pos (ZE hi), if_pos (YA hi), Int.toNat_natCast, Yk _ hi, Option.bind_some, Qt, if_pos (YA hc), Int.toNat_natCast, Xg _ hc, Option.bind_some, Qt, if_pos (by omega), XG (by omega), ← Z4]
 ·show Qy.l9 _ _ _ (k + 1) _ _ = _
  rw [Qy.l9, QW, if_neg (by rw [ZJ]; simp)]
def InS (a : qa) (x : Int) : Prop := a = ZT ∨ a.Lo * 65536 ≤ x ∧ x ≤ a.Hi * 65536
theorem qdD {N M : Nat} (hn : N < 1000000) (hm : M < 1000000) (f g : Nat → Nat → qa) (h : ∀ i, i < N → ∀ j, j < M → f i j = g i j) {k0 : Nat} (hk : N < k0) (hk2 : M < k0) : qz k0 (mm N M f) (mm N M g) = some true := by
 rw [← YW h]
 unfold qz
 rw [if_neg (by simp)]
 refine bT (qbn (fun k x => qz.l8 k0 (mm N M f) (mm N M f) k x) N (fun k i hi => ?_) (fun k => ?_) hk) rfl
 ·show qz.l8 _ _ _ (k + 1) _ = _
  rw [qz.l8, QW, if_pos (ZE hi)]
  refine bT (v := .inr ()) ?_ (by show qz.l8 _ _ _ _ _ = _; rw [XG (by omega)])
  rw [if_pos (YA hi), Int.toNat_natCast, Yk _ hi, Option.bind_some, if_pos (YA hi), Option.bind_some, if_neg (by simp)]
  refine qbn (fun k x => qz.l22 k0 (mm N M f) (mm N M f) (i : Int) (mk M (f i)) (mk M (f i)) k x) M (fun k j hj => ?_) (fun k => ?_) hk2
  ·show qz.l22 _ _ _ _ _ _ (k + 1) _ = _
   rw [qz.l22, QW, if_pos (YA hi), Int.toNat_natCast, Yk _ hi, Option.bind_some, Qt, if_pos (ZE hj), if_pos (YA hi), Option.bind_some, Qt, if_pos (YA hj), Int.toNat_natCast, Xg _ hj, Option.bind_some, if_pos (YA hi), Option.bind_some, Qt, if_pos (YA hj), Xg _ hj, Option.bind_some, qf8, decide_eq_true rfl, if_neg (by simp), XG (by omega)]
  ·show qz.l22 _ _ _ _ _ _ (k + 1) _ = _
   rw [qz.l22, QW, if_pos (YA hi), Int.toNat_natCast, Yk _ hi, Option.bind_some, Qt, if_neg (by rw [ZJ]; simp)]
 ·show qz.l8 _ _ _ (k + 1) _ = _
  rw [qz.l8, QW, if_neg (by rw [ZJ]; simp)]
theorem qfy {N : Nat} (hn : N < 1000000) (f g : Nat → qa) (h : ∀ i, i < N → f i = g i) {k0 : Nat} (hk : N < k0) : QI k0 (mk N f) (mk N g) = some true := by
 rw [← Xr h]
 unfold QI
 rw [if_neg (by simp)]
 refine bT (qbn (fun k x => QI.l8 k0 (mk N f) (mk N f) k x) N (fun k i hi => ?_) (fun k => ?_) hk) rfl
 ·show QI.l8 _ _ _ (k + 1) _ = _
  rw [QI.l8, Qt, if_pos (ZE hi), if_pos (YA hi), Int.toNat_natCast, Xg _ hi, Option.bind_some, if_pos (YA hi), Option.bind_some, qf8, decide_eq_true rfl, if_neg (by simp), XG (by omega)]
 ·show QI.l8 _ _ _ (k + 1) _ = _
  rw [QI.l8, Qt, if_neg (by rw [ZJ]; simp)]
end Go.Proofs.YtglcmhldonkfdaaGreatDoor
set_option maxRecDepth 10000
set_option linter.unusedVariables false
set_option linter.unusedSimpArgs false
namespace Go.Proofs.YtglcmhldonkfdaaGreatDoor
open Go
theorem InS.ent (x : Int) : InS ZT x := .inl rfl
theorem qef {x : Zp} {n : Nat} (h : XY x.N = some ((n + 1 : Nat) : Int)) (hn : n < 4) {k0 : Nat} (hk : 10 < k0) :
  Yu k0 x = some (mm (n + 1) (n + 1) (elt mdI x.A (n + 1)), mm (n + 1) (n + 1) (elt mdI x.B (n + 1)), mk (n + 1) (vec mdI x.X)) := by
 unfold Yu
 refine bT h (bT (qcL (by omega) (by omega) _ (by omega)) (bT (qcL (by omega) (by omega) _ (by omega)) (bT (qcr (by omega) _ (by omega)) rfl)))
theorem qdy (l : List qa) (n i j : Nat) : Ok (elt mdI l n i j) := qgj qdp (fun i j => (qdI i j).ok) l n i j
end Go.Proofs.YtglcmhldonkfdaaGreatDoor
set_option maxRecDepth 10000
set_option linter.unusedVariables false
set_option linter.unusedSimpArgs false
namespace Go.Proofs.YtglcmhldonkfdaaGreatDoor
open Go
theorem VQ.uniq {a b : qa} {l h l' h' : Int} (H : VQ a b l h) (H' : VQ a b l' h') : l = l' ∧ h = h' := by
 have h1 := H.lo; have h2 := H.hi; have h3 := H.isl; have h4 := H.ish
 have g1 := H'.lo; have g2 := H'.hi; have g3 := H'.isl; have g4 := H'.ish
 omega
theorem qfT (x y : Int) : WX (nw x y) = nw (-y) (-x) := by
 unfold nw
 by_cases h : x ≤ -2147483648 ∨ y ≥ 2147483648 ∨ x ≥ 2147483648 ∨ y ≤ -2147483648
 ·rw [if_pos h, if_pos (by omega)]; rfl
 ·rw [if_neg h, if_neg (by omega)]; rfl
theorem qdF (x d : Int) : -(YU x d) = (-x) / d := by unfold YU; omega
theorem qdO (x d : Int) : YU (-x) d = -(x / d) := by unfold YU; rw [Int.neg_neg]
theorem VQ.neg {a b : qa} {l h : Int} (H : VQ a b l h) : VQ (WX a) b (-h) (-l) := by
 have h1 := H.lo; have h2 := H.hi; have h3 := H.isl; have h4 := H.ish
 constructor <;> simp only [WX, Int.neg_mul] <;> omega
theorem mul_neg {a b : qa} (ha : Ok a) (hb : Ok b) {r : qa} (hr : Xh a b = some r) : Xh (WX a) b = some (WX r) := by
 rcases ha with rfl | ha
 ·rw [VZ] at hr
  obtain rfl := Option.some.inj hr
  exact VZ _
 ·rcases hb with rfl | hb
  ·rw [VW] at hr
   obtain rfl := Option.some.inj hr
   exact VW _
  ·obtain ⟨l, h, hm, H⟩ := WQ ha hb
   obtain ⟨l', h', hm', H'⟩ := WQ (qcP ha) hb
   obtain ⟨rfl, rfl⟩ := H'.uniq H.neg
   rw [hm] at hr
   obtain rfl := Option.some.inj hr
   rw [hm', qfT, qdF, qdO]
end Go.Proofs.YtglcmhldonkfdaaGreatDoor
set_option maxRecDepth 10000
set_option linter.unusedVariables false
set_option linter.unusedSimpArgs false
namespace Go.Proofs.YtglcmhldonkfdaaGreatDoor
open Go
theorem qcF {S R γ : Type} (l : Nat → S → Int → Option (γ ⊕ R)) (n : Nat) (st : Nat → S) (p : Nat → Bool) (v : γ) (r : R)
  (hs : ∀ (k i : Nat), i < n → l (k + 1) (st i) (i : Int) = if p i = true then some (.inl v) else l k (st (i + 1)) ((i + 1 : Nat) : Int))
  (he : ∀ k : Nat, l (k + 1) (st n) (n : Int) = some (.inr r)) {k : Nat} (hk : n < k) : l k (st 0) 0 = some (if Vh n (fun i => !p i) = true then .inr r else .inl v) := by
 have key : ∀ (d i k : Nat), i + d = n → d < k → (∀ j, j < i → p j = false) → l k (st i) (i : Int) = some (if Vh n (fun i => !p i) = true then .inr r else .inl v) := by
  intro d
  induction d with
  | zero =>
   intro i k hi hk hp
   obtain ⟨k, rfl⟩ : ∃ m, k = m + 1 := ⟨k - 1, by omega⟩
   obtain rfl : i = n := by omega
   rw [he k, if_pos (Va.2 fun j hj => by rw [hp j hj]; rfl)]
  | succ d ih =>
   intro i k hi hk hp
   obtain ⟨k, rfl⟩ : ∃ m, k = m + 1 := ⟨k - 1, by omega⟩
   rw [hs k i (by omega)]
   by_cases h : p i = true
   ·have : Vh n (fun i => !p i) = false := J9.2 ⟨i, by omega, by rw [h]; rfl⟩
    rw [if_pos h, this]; rfl
   ·rw [if_neg h]
    refine ih (i + 1) k (by omega) (by omega) fun j hj => ?_
    by_cases e : j = i
    ·subst e; simpa using h
    ·exact hp j (by omega)
 exact key n 0 k (by omega) hk (fun j hj => absurd hj (Nat.not_lt_zero _))
def sg (a : qa) : Int := if a.Lo > 0 then 1 else if a.Hi < 0 then -1 else 0
def mig (a : qa) : Int := mn (mx a.Lo (-a.Lo)) (mx a.Hi (-a.Hi))
theorem qdU {a : qa} (ha : Ok a) : Yr a = some (mig a) := by
 have h1 := ha.wlo
 have h2 := ha.whi
 unfold VC at h1 h2
 unfold Yr mig
 rw [Zo (x := 0 - a.Lo) (by omega) (by omega), Zo (x := 0 - a.Hi) (by omega) (by omega), Int.zero_sub, Int.zero_sub]
def pvS (g : Nat → Nat → qa) (k : Nat) : Nat → Option Nat
 | 0 => none
 | d + 1 => if sg (g (k + d) k) ≠ 0 then
   match pvS g k d with
   | none => some (k + d)
   | some r => if mig (g (k + d) k) > mig (g r k) then some (k + d) else some r
  else pvS g k d
def pvI : Option Nat → Int
 | none => -1
 | some r => r
theorem Jv {g : Nat → Nat → qa} {k : Nat} : ∀ {d r : Nat}, pvS g k d = some r → k ≤ r ∧ r < k + d ∧ sg (g r k) ≠ 0
 | 0, _, h => by cases h
 | d + 1, r, h => by
  rw [pvS] at h
  split at h
  ·rename_i hz
   split at h
   ·obtain rfl := Option.some.inj h; exact ⟨by omega, by omega, hz⟩
   ·rename_i q hq
    have := Jv hq
    split at h
    ·obtain rfl := Option.some.inj h; exact ⟨by omega, by omega, hz⟩
    ·obtain rfl := Option.some.inj h; exact ⟨this.1, by omega, this.2.2⟩
  ·have := Jv h; exact ⟨this.1, by omega, this.2.2⟩
theorem qej {N M k : Nat} (hN : N < 1000000) (hk : k ≤ N) (hM : k < M) (g : Nat → Nat → qa) (hg : ∀ i, i < N → Ok (g i k)) {K : Nat} (hK : N < K) :
  Xl K (mm N M g) (k : Int) = some (pvI (pvS g k (N - k))) := by
 unfold Xl
 have L := J0 (fun m s x => Xl.l9 K (mm N M g) (k : Int) m s x) N (fun i => pvI (pvS g k (i - k))) (pvI (pvS g k (N - k))) k (fun m i hi hin => by
  show Xl.l9 _ _ _ (m + 1) _ _ = _
  rw [Xl.l9, QW, if_pos (ZE hin)]
  obtain ⟨d, rfl⟩ : ∃ d, i = k + d := ⟨i - k, by omega⟩
  rw [show k + d - k = d by omega, show k + d + 1 - k = d + 1 by omega]
  refine bT (v := pvI (pvS g k (d + 1))) ?_ (by rw [XG (by omega)])
  rw [if_pos (YA hin), Int.toNat_natCast, Yk _ hin, Option.bind_some, Qt, if_pos (YA hM), Int.toNat_natCast, Xg _ hM, Option.bind_some, qe0, Option.bind_some, Option.bind_some, pvS]
  by_cases hz : sg (g (k + d) k) ≠ 0
  ·have hz' : (if (g (k + d) k).Lo > 0 then (1 : Int) else if (g (k + d) k).Hi < 0 then -1 else 0) ≠ 0 := hz
   rw [if_pos hz, if_pos (by simpa using hz')]
   cases hq : pvS g k d with
   | none =>
    rw [Option.bind_some, if_pos (by rfl)]; rfl
   | some r =>
    have hr := Jv hq
    have hrN : r < N := by omega
    have hnf : decide (pvI (some r) < 0) = false := decide_eq_false (by show ¬ ((r : Int) < 0); omega)
    have hnn : ¬ (decide (pvI (some r) < 0) = true) := by rw [hnf]; simp
    rw [Option.bind_some, if_neg hnn, if_pos hnf, if_pos (YA hin), Option.bind_some, Qt, if_pos (YA hM), Xg _ hM, Option.bind_some, qdU (hg _ hin), Option.bind_some]
    show (if 0 ≤ (r : Int) ∧ (r : Int) < (N : Int) then _ else none) = _
    rw [if_pos (YA hrN)]
    show Option.bind ((mm N M g)[(r : Int).toNat]?) _ = _
    rw [Int.toNat_natCast, Yk _ hrN, Option.bind_some, Qt, if_pos (YA hM), Xg _ hM, Option.bind_some, qdU (hg _ hrN), Option.bind_some]
    by_cases hm : mig (g (k + d) k) > mig (g r k)
    ·rw [if_pos (decide_eq_true hm)]
     show _ = some (pvI (if mig (g (k + d) k) > mig (g r k) then some (k + d) else some r))
     rw [if_pos hm]; rfl
    ·rw [if_neg (by simpa using hm)]
     show _ = some (pvI (if mig (g (k + d) k) > mig (g r k) then some (k + d) else some r))
     rw [if_neg hm]
  ·have hz' : ¬ (if (g (k + d) k).Lo > 0 then (1 : Int) else if (g (k + d) k).Hi < 0 then -1 else 0) ≠ 0 := hz
   rw [if_neg hz, if_neg (by simpa using hz'), if_pos (by simpa using hz')]) (fun m => by
  show Xl.l9 _ _ _ (m + 1) _ _ = _
  rw [Xl.l9, QW, if_neg (by rw [ZJ]; simp)]) hK hk
 rw [show k - k = 0 by omega] at L
 exact bT L rfl
end Go.Proofs.YtglcmhldonkfdaaGreatDoor
set_option maxRecDepth 10000
set_option linter.unusedVariables false
set_option linter.unusedSimpArgs false
namespace Go.Proofs.YtglcmhldonkfdaaGreatDoor
open Go
theorem qgv (a b : List qa) (ha : a.length < 1000) (hb : b.length < 1000) (h : 0 < a.length + b.length) {K : Nat} (hK : 10 < K) : QK K [a, b] = some (a ++ b) := by
 obtain ⟨m, rfl⟩ : ∃ m, K = m + 3 := ⟨K - 3, by omega⟩
 unfold QK
 have e1 : QK.l25 (m + 3) [a, b] (m + 3) 0 0 = some ((a.length + b.length : Nat) : Int) := by
  rw [QK.l25, if_pos (by rfl), if_pos (by show (0 : Int) ≤ 0 ∧ (0 : Int) < 2; decide)]
  refine bT (v := a) rfl ?_
  rw [Int.zero_add, Zo (x := (a.length : Int)) (by omega) (by omega), if_neg (by rw [decide_eq_true_eq]; omega), show qe (0 + 1) = 1 from rfl]
  rw [QK.l25, if_pos (by rfl), if_pos (by show (0 : Int) ≤ 1 ∧ (1 : Int) < 2; decide)]
  refine bT (v := b) rfl ?_
  rw [Zo (x := (a.length : Int) + (b.length : Int)) (by omega) (by omega), if_neg (by rw [decide_eq_true_eq]; omega), show qe (1 + 1) = 2 from rfl]
  rw [QK.l25, if_neg (by show ¬ decide ((2 : Int) < 2) = true; decide)]
  rfl
 have e2 : YF ((a.length + b.length : Nat) : Int) = some [] := by
  unfold YF
  have e : qe (((a.length + b.length : Nat) : Int) - qe (0 - 0)) = ((a.length + b.length : Nat) : Int) := by
   rw [show qe (0 - 0) = 0 from rfl, Int.sub_zero, Zo (by omega) (by omega)]
  rw [e, if_neg (by rw [decide_eq_true_eq]; omega), if_pos (by rw [decide_eq_true_eq]; omega), if_pos (by omega)]
 refine bT e1 (bT e2 (bT (v := a ++ b) ?_ rfl))
 rw [QK.l13, if_pos (by rfl), if_pos (by show (0 : Int) ≤ 0 ∧ (0 : Int) < 2; decide)]
 refine bT (v := a) rfl ?_
 rw [if_pos ⟨by omega, by decide⟩, show qe (0 + 1) = 1 from rfl]
 rw [QK.l13, if_pos (by rfl), if_pos (by show (0 : Int) ≤ 1 ∧ (1 : Int) < 2; decide)]
 refine bT (v := b) rfl ?_
 rw [if_pos ⟨by omega, by simp; omega⟩, show qe (1 + 1) = 2 from rfl]
 rw [QK.l13, if_neg (by show ¬ decide ((2 : Int) < 2) = true; decide)]
 rfl
def swp (g : Nat → Nat → qa) (k p i : Nat) : Nat → qa := if i = p then g k else if i = k then g p else g i
def V8 (h : Nat → Nat → qa) (k j : Nat) : qa := qc8 (h k j) (h k k)
def VL (h : Nat → Nat → qa) (k i j : Nat) : qa := if i = k then V8 h k j else qb6 (h i j) (WD (h i k) (V8 h k j))
def gjR (N : Nat) : Nat → Nat → (Nat → Nat → qa) → Option (Nat → Nat → qa)
 | 0, _, g => some g
 | d + 1, k, g => match pvS g k (N - k) with
  | none => none
  | some p => gjR N d (k + 1) (VL (swp g k p) k)
def WP (N M : Nat) (g : Nat → Nat → qa) : Prop := ∀ i, i < N → ∀ j, j < M → Ok (g i j)
theorem qcb {N M k p : Nat} {g : Nat → Nat → qa} (h : WP N M g) (hk : k < N) (hp : p < N) : WP N M (swp g k p) := fun i hi j hj => by
 unfold swp; split
 ·exact h k hk j hj
 ·split
  ·exact h p hp j hj
  ·exact h i hi j hj
theorem WW {N M k : Nat} {g : Nat → Nat → qa} (h : WP N M g) (hk : k < N) (hM : k < M) {j : Nat} (hj : j < M) : Ok (V8 g k j) := qe1 (h k hk j hj) (h k hk k hM)
theorem qcf {N M k : Nat} {g : Nat → Nat → qa} (h : WP N M g) (hk : k < N) (hM : k < M) : WP N M (VL g k) := fun i hi j hj => by
 unfold VL; split
 ·exact WW h hk hM hj
 ·exact qe2 (h i hi j hj) (JB (h i hi k hM) (WW h hk hM hj))
theorem qeM {N M k K : Nat} (hN : N < 1000000) (hM : M < 1000000) (hk : k < N) (hkM : k < M) {h : Nat → Nat → qa} (ho : WP N M h) (hK : M < K) (x1 x2 x3 : List (List qa)) (t42 : Int) (t47 t50 t52 t54 t57 : List qa) {t110 : List qa} (ht : t110.length = M) :
  qw.l113 K x1 x2 x3 (k : Int) t42 t47 t50 t52 t54 t57 (h k k) t110 K (mm N M h) 0 = some (mm N M fun a c => if a = k then V8 h k c else h a c) := by
 refine YJ (fun m s x => qw.l113 K x1 x2 x3 (k : Int) t42 t47 t50 t52 t54 t57 (h k k) t110 m s x) M (fun j => mm N M fun a c => if a = k ∧ c < j then V8 h k c else h a c) _ (YW fun a _ c _ => by rw [if_neg (by omega)]) (fun m j hj => ?_) (fun m => ?_) hK
 ·show qw.l113 _ _ _ _ _ _ _ _ _ _ _ _ _ (m + 1) (mm N M fun a c => if a = k ∧ c < j then V8 h k c else h a c) _ = _
  rw [qw.l113, ht, if_pos (ZE hj)]
  simp only [QW, YA hk, and_self, if_true, Int.toNat_natCast, Yk _ hk, Option.bind_some, Qt, YA hj, Xg _ hj]
  rw [if_neg (by omega), qcI (ho k hk j hj) (ho k hk k hkM), Option.bind_some, XG (by omega)]
  rw [show (mk M fun c => if True ∧ c < j then V8 h k c else h k c) = mk M ((fun a c => if a = k ∧ c < j then V8 h k c else h a c) k) from Xr fun c _ => by simp, qb8 N M (fun a c => if a = k ∧ c < j then V8 h k c else h a c) k j]
  congr 1
  refine YW fun a ha c hc => ?_
  by_cases e : a = k ∧ c = j
  ·rw [if_pos e, if_pos (by omega), e.2]; rfl
  ·rw [if_neg e]
   by_cases e2 : a = k ∧ c < j
   ·rw [if_pos e2, if_pos (by omega)]
   ·rw [if_neg e2, if_neg (by omega)]
 ·show qw.l113 _ _ _ _ _ _ _ _ _ _ _ _ _ (m + 1) (mm N M fun a c => if a = k ∧ c < M then V8 h k c else h a c) _ = _
  rw [qw.l113, ht, if_neg (by rw [ZJ]; simp)]
  congr 1
  refine YW fun a ha c hc => ?_
  by_cases e : a = k
  ·rw [if_pos e, if_pos ⟨e, hc⟩]
  ·rw [if_neg e, if_neg (fun x => e x.1)]
end Go.Proofs.YtglcmhldonkfdaaGreatDoor
set_option maxRecDepth 10000
set_option linter.unusedVariables false
set_option linter.unusedSimpArgs false
namespace Go.Proofs.YtglcmhldonkfdaaGreatDoor
open Go
theorem qfQ {N M k i K : Nat} (hN : N < 1000000) (hM : M < 1000000) (hk : k < N) (hkM : k < M) (hi : i < N) (hik : i ≠ k) {h : Nat → Nat → qa} (ho : WP N M h) (hK : M < K) (x1 x2 x3 : List (List qa)) (t42 : Int) (t47 t50 t52 t54 t57 : List qa) (t59 : qa) (j61 x63 : List (List qa)) (t74 : List qa) {t79 : List qa} (ht : t79.length = M) :
  qw.l82 K x1 x2 x3 (k : Int) t42 t47 t50 t52 t54 t57 t59 j61 x63 (i : Int) t74 (h i k) t79 K (mm N M fun a c => if a = k then V8 h k c else if a < i then VL h k a c else h a c) 0 = some (mm N M fun a c => if a = k then V8 h k c else if a < i + 1 then VL h k a c else h a c) := by
 refine YJ (fun m s x => qw.l82 K x1 x2 x3 (k : Int) t42 t47 t50 t52 t54 t57 t59 j61 x63 (i : Int) t74 (h i k) t79 m s x) M (fun j => mm N M fun a c => if a = k then V8 h k c else if a < i ∨ a = i ∧ c < j then VL h k a c else h a c) _ (YW fun a _ c _ => ?_) (fun m j hj => ?_) (fun m => ?_) hK
 ·by_cases e : a = k
  ·rw [if_pos e, if_pos e]
  ·rw [if_neg e, if_neg e]
   by_cases e2 : a < i
   ·rw [if_pos e2, if_pos (.inl e2)]
   ·rw [if_neg e2, if_neg (by omega)]
 ·show qw.l82 _ _ _ _ _ _ _ _ _ _ _ _ _ _ _ _ _ _ (m + 1) (mm N M fun a c => if a = k then V8 h k c else if a < i ∨ a = i ∧ c < j then VL h k a c else h a c) _ = _
  rw [qw.l82, ht, if_pos (ZE hj)]
  simp only [QW, YA hk, YA hi, and_self, if_true, Int.toNat_natCast, Yk _ hk, Yk _ hi, Option.bind_some, Qt, YA hj, Xg _ hj]
  rw [if_neg hik, if_neg (by omega), Vr (ho i hi k hkM) (WW ho hk hkM hj), Option.bind_some, qcy (ho i hi j hj) (JB (ho i hi k hkM) (WW ho hk hkM hj)), Option.bind_some, XG (by omega)]
  rw [show (mk M fun c => if i = k then V8 h k c else if i < i ∨ True ∧ c < j then VL h k i c else h i c) = mk M ((fun a c => if a = k then V8 h k c else if a < i ∨ a = i ∧ c < j then VL h k a c else h a c) i) from Xr fun c _ => by simp, qb8 N M (fun a c => if a = k then V8 h k c else if a < i ∨ a = i ∧ c < j then VL h k a c else h a c) i j]
  congr 1
  refine YW fun a ha c hc => ?_
  by_cases e : a = i ∧ c = j
  ·rw [if_pos e, e.1, e.2, if_neg hik, if_pos (by omega), VL, if_neg hik]
  ·rw [if_neg e]
   by_cases e2 : a = k
   ·rw [if_pos e2, if_pos e2]
   ·rw [if_neg e2, if_neg e2]
    by_cases e3 : a < i ∨ a = i ∧ c < j
    ·rw [if_pos e3, if_pos (by omega)]
    ·rw [if_neg e3, if_neg (by omega)]
 ·show qw.l82 _ _ _ _ _ _ _ _ _ _ _ _ _ _ _ _ _ _ (m + 1) (mm N M fun a c => if a = k then V8 h k c else if a < i ∨ a = i ∧ c < M then VL h k a c else h a c) _ = _
  rw [qw.l82, ht, if_neg (by rw [ZJ]; simp)]
  congr 1
  refine YW fun a ha c hc => ?_
  by_cases e2 : a = k
  ·rw [if_pos e2, if_pos e2]
  ·rw [if_neg e2, if_neg e2]
   by_cases e3 : a < i + 1
   ·rw [if_pos e3, if_pos (by omega)]
   ·rw [if_neg e3, if_neg (by omega)]
theorem qft {N M k K : Nat} (hN : N < 1000000) (hM : M < 1000000) (hk : k < N) (hkM : k < M) {h : Nat → Nat → qa} (ho : WP N M h) (hK : M < K) (hKN : N < K) {x1 : List (List qa)} (hx : x1.length = N) (x2 x3 : List (List qa)) (t42 : Int) (t47 t50 t52 t54 t57 : List qa) (t59 : qa) (j61 : List (List qa)) :
  qw.l65 K x1 x2 x3 (k : Int) t42 t47 t50 t52 t54 t57 t59 j61 K (mm N M fun a c => if a = k then V8 h k c else h a c) 0 = some (.inr (mm N M (VL h k))) := by
 refine YJ (fun m s x => qw.l65 K x1 x2 x3 (k : Int) t42 t47 t50 t52 t54 t57 t59 j61 m s x) N (fun i => mm N M fun a c => if a = k then V8 h k c else if a < i then VL h k a c else h a c) _ (YW fun a _ c _ => by rw [if_neg (show ¬ a < 0 by omega)]) (fun m i hi => ?_) (fun m => ?_) hKN
 ·show qw.l65 _ _ _ _ _ _ _ _ _ _ _ _ _ (m + 1) (mm N M fun a c => if a = k then V8 h k c else if a < i then VL h k a c else h a c) _ = _
  rw [qw.l65, hx, if_pos (ZE hi)]
  refine bT (v := mm N M fun a c => if a = k then V8 h k c else if a < i + 1 then VL h k a c else h a c) ?_ (by rw [XG (by omega)])
  by_cases e : i = k
  ·subst e
   rw [if_pos (by simp)]
   congr 1
   refine YW fun a _ c _ => ?_
   by_cases e2 : a = i
   ·rw [if_pos e2, if_pos e2]
   ·rw [if_neg e2, if_neg e2]
    by_cases e3 : a < i
    ·rw [if_pos e3, if_pos (by omega)]
    ·rw [if_neg e3, if_neg (by omega)]
  ·rw [if_neg (by simp; omega)]
   simp only [QW, YA hi, and_self, if_true, Int.toNat_natCast, Yk _ hi, Option.bind_some, Qt, YA hkM, Xg _ hkM]
   rw [if_neg e, if_neg (by omega)]
   exact qfQ hN hM hk hkM hi e ho hK _ _ _ _ _ _ _ _ _ _ _ _ _ (Qt _ _)
 ·show qw.l65 _ _ _ _ _ _ _ _ _ _ _ _ _ (m + 1) (mm N M fun a c => if a = k then V8 h k c else if a < N then VL h k a c else h a c) _ = _
  rw [qw.l65, hx, if_neg (by rw [ZJ]; simp)]
  refine congrArg (fun x => some (Sum.inr x)) (YW fun a ha c hc => ?_)
  by_cases e : a = k
  ·rw [if_pos e, VL, if_pos e]
  ·rw [if_neg e, if_pos ha]
theorem qdE {N M k p : Nat} (g : Nat → Nat → qa) : ((mm N M g).set k (mk M (g p))).set p (mk M (g k)) = mm N M (swp g k p) := by
 unfold mm
 rw [ZM, ZM]
 refine Xr fun i hi => ?_
 unfold swp
 by_cases e : i = p
 ·rw [if_pos e, if_pos e]
 ·rw [if_neg e, if_neg e]
  by_cases e2 : i = k
  ·rw [if_pos e2, if_pos e2]
  ·rw [if_neg e2, if_neg e2]
theorem qem {N M K : Nat} (hN : N < 1000000) (hM : M < 1000000) (hNM : N ≤ M) (hK : M < K) {x1 : List (List qa)} (hx : x1.length = N) (x2 : List (List qa)) :
  ∀ (d k m : Nat) (g : Nat → Nat → qa), k + d = N → d < m → WP N M g →
   qw.l35 K x1 x2 m (mm N M g) (k : Int) = some (match gjR N d k g with | none => .inl ([], false) | some g' => .inr (mm N M g'))
 | 0, k, m, g, hkd, hm, ho => by
  obtain ⟨m, rfl⟩ : ∃ q, m = q + 1 := ⟨m - 1, by omega⟩
  obtain rfl : k = N := by omega
  rw [qw.l35, hx, if_neg (by rw [ZJ]; simp)]
  rfl
 | d + 1, k, m, g, hkd, hm, ho => by
  obtain ⟨m, rfl⟩ : ∃ q, m = q + 1 := ⟨m - 1, by omega⟩
  have hk : k < N := by omega
  have hkM : k < M := by omega
  rw [qw.l35, hx, if_pos (ZE hk), qej hN (by omega) hkM g (fun i hi => ho i hi k hkM) (by omega), Option.bind_some, gjR]
  cases hp : pvS g k (N - k) with
  | none =>
   rw [if_pos (by decide)]
   rfl
  | some p =>
   have hpp := Jv hp
   have hpN : p < N := by omega
   have ho' := qcb ho hk hpN
   have e1 : decide (pvI (some p) < 0) = false := decide_eq_false (by show ¬ ((p : Int) < 0); omega)
   rw [if_neg (by rw [e1]; simp)]
   refine bT (v := .inr (mm N M (VL (swp g k p) k))) ?_ ?_
   ·show (if 0 ≤ (p : Int) ∧ (p : Int) < ((mm N M g).length : Int) then ((mm N M g)[(p : Int).toNat]?).bind _ else none) = _
    rw [QW, if_pos (YA hpN), Int.toNat_natCast, Yk _ hpN, Option.bind_some, if_pos (YA hk), Int.toNat_natCast, Yk _ hk, Option.bind_some, if_pos (YA hk), Option.bind_some]
    have hl1 : (((mm N M g).set k (mk M (g p))).length : Int) = N := by rw [List.length_set, QW]
    have hg1 : ∃ x, ((mm N M g).set k (mk M (g p)))[p]? = some x := ⟨((mm N M g).set k (mk M (g p)))[p]'(by rw [List.length_set, QW]; exact hpN), List.getElem?_eq_getElem _⟩
    obtain ⟨x, hx1⟩ := hg1
    show (if 0 ≤ (p : Int) ∧ (p : Int) < (((mm N M g).set k (mk M (g p))).length : Int) then (((mm N M g).set k (mk M (g p)))[(p : Int).toNat]?).bind _ else none) = _
    rw [hl1, if_pos (YA hpN), Int.toNat_natCast, hx1, Option.bind_some]
    rw [show (pvI (some p)).toNat = p from Int.toNat_natCast p, qdE, QW, if_pos (YA hk), Yk _ hk, Option.bind_some, Qt, if_pos (YA hkM), Xg _ hkM, Option.bind_some, if_pos (YA hk), Option.bind_some]
    refine bT (qeM hN hM hk hkM ho' hK _ _ _ _ _ _ _ _ _ (Qt _ _)) ?_
    exact qft hN hM hk hkM ho' hK (by omega) hx _ _ _ _ _ _ _ _ _ _
   ·show qw.l35 K x1 x2 m (mm N M (VL (swp g k p) k)) (qe ((k : Int) + 1)) = _
    rw [XG (by omega)]
    exact qem hN hM hNM hK hx x2 d (k + 1) m _ (by omega) (by omega) (qcf ho' hk hkM)
end Go.Proofs.YtglcmhldonkfdaaGreatDoor
set_option maxRecDepth 10000
set_option linter.unusedVariables false
set_option linter.unusedSimpArgs false
namespace Go.Proofs.YtglcmhldonkfdaaGreatDoor
open Go
def VP (n : Nat) (f : Nat → qa) : Bool := !Vh n fun j => !decide (f j = ZT)
theorem V7 {n : Nat} {f : Nat → qa} : VP n f = true ↔ ∃ j, j < n ∧ f j = ZT := by
 unfold VP
 cases h : Vh n fun j => !decide (f j = ZT) with
 | true =>
  have := Va.1 h
  constructor
  ·intro x; cases x
  ·rintro ⟨j, hj, e⟩; have := this j hj; simp [e] at this
 | false =>
  obtain ⟨j, hj, e⟩ := J9.1 h
  exact ⟨fun _ => ⟨j, hj, by simpa using e⟩, fun _ => rfl⟩
theorem qe6 {n : Nat} (hn : n < 1000000) (f : Nat → qa) {K : Nat} (hK : n < K) : Ys K (mk n f) = some (VP n f) := by
 unfold Ys QX
 have L := JI (fun m x => QX.l6 K (mk n f) m x) n (fun j => decide (f j = ZT)) (fun j => (j : Int)) (fun m i hi _ => by
  show QX.l6 _ _ (m + 1) _ = _
  rw [QX.l6, Qt, if_pos (ZE hi), if_pos (YA hi), Int.toNat_natCast, Xg _ hi, Option.bind_some, V0, Option.bind_some, XG (by omega)]) (fun m => by
  show QX.l6 _ _ (m + 1) _ = _
  rw [QX.l6, Qt, if_neg (by rw [ZJ]; simp)]) hK
 rcases L with ⟨i, hi, hp, _, h⟩ | ⟨hp, h⟩
 ·have e : VP n f = true := V7.2 ⟨i, hi, by simpa using hp⟩
  rw [e]
  refine bT (bT h rfl) ?_
  rw [decide_eq_true (show (i : Int) ≥ 0 by omega)]
 ·have e : VP n f = false := by
   cases h2 : VP n f with
   | false => rfl
   | true => obtain ⟨j, hj, e⟩ := V7.1 h2; have := hp j hj; simp [e] at this
  rw [e]
  exact bT (bT h rfl) rfl
def aug (N : Nat) (f : Nat → Nat → qa) (i j : Nat) : qa := if j < N then f i j else WF i (j - N)
theorem qd1 {N : Nat} {f : Nat → Nat → qa} (hf : WP N N f) : WP N (N + N) (aug N f) := fun i hi j hj => by
 unfold aug; split
 ·exact hf i hi j (by assumption)
 ·exact (qdI _ _).ok
theorem qcO (N : Nat) (f : Nat → Nat → qa) (i : Nat) : mk N (f i) ++ mk N (WF i) = mk (N + N) (aug N f i) := qfv _ _ _ _
def qdZ (N : Nat) (f : Nat → Nat → qa) : Option (Nat → Nat → qa) :=
 match gjR N N 0 (aug N f) with
 | none => none
 | some g => if Vh N (fun i => !VP N fun j => g i (N + j)) = true then some fun i j => g i (N + j) else none
theorem qck {N M : Nat} (hNM : N ≤ M) : ∀ {d k : Nat} {g g' : Nat → Nat → qa}, k + d = N → WP N M g → gjR N d k g = some g' → WP N M g'
 | 0, _, _, _, _, h, e => by cases e; exact h
 | d + 1, k, g, g', hk, h, e => by
  rw [gjR] at e
  cases hp : pvS g k (N - k) with
  | none => rw [hp] at e; cases e
  | some p =>
   rw [hp] at e
   have hpp := Jv hp
   exact qck hNM (d := d) (k := k + 1) (by omega) (qcf (qcb h (by omega) (by omega)) (by omega) (by omega)) e
theorem qfB {N : Nat} (h0 : 0 < N) (h6 : N ≤ 6) (f : Nat → Nat → qa) (hf : WP N N f) {K : Nat} (hK : 20 < K) :
  qw K (mm N N f) = some (match qdZ N f with | none => ([], false) | some g => (mm N N g, true)) := by
 unfold qw
 have hn : N < 1000000 := by omega
 have hao := qd1 hf
 rw [QW, if_pos (n0 hn), Int.toNat_natCast]
 refine bT (v := mm N (N + N) (aug N f)) ?_ ?_
 ·refine bT (qbX h0 h6 (by omega)) ?_
  refine YJ (fun m s x => qw.l137 K (mm N N f) (mm N N WF) m s x) N (fun i => mk N fun a => if a < i then mk (N + N) (aug N f a) else []) _ ?_ (fun m i hi => ?_) (fun m => ?_) (by omega)
  ·rw [JF]; exact Xr fun a _ => by rw [if_neg (by omega)]
  ·show qw.l137 _ _ _ (m + 1) (mk N fun a => if a < i then mk (N + N) (aug N f a) else []) _ = _
   rw [qw.l137, QW, if_pos (ZE hi), if_pos (YA hi), Int.toNat_natCast, Yk _ hi, Option.bind_some, QW, if_pos (YA hi), Yk _ hi, Option.bind_some, qgv _ _ (by rw [Qt]; omega) (by rw [Qt]; omega) (by rw [Qt]; omega) (by omega), Option.bind_some, Qt, if_pos (YA hi), Xg _ hi, Option.bind_some, XG (by omega), qcO, ZM]
   congr 1
   refine Xr fun a ha => ?_
   by_cases e : a = i
   ·subst e; rw [if_pos rfl, if_pos (by omega)]
   ·rw [if_neg e]
    by_cases e2 : a < i
    ·rw [if_pos e2, if_pos (by omega)]
    ·rw [if_neg e2, if_neg (by omega)]
  ·show qw.l137 _ _ _ (m + 1) (mk N fun a => if a < N then mk (N + N) (aug N f a) else []) _ = _
   rw [qw.l137, QW, if_neg (by rw [ZJ]; simp)]
   refine congrArg some (Xr fun a ha => ?_)
   rw [if_pos ha]
 have L := qem (N := N) (M := N + N) (K := K) hn (by omega) (by omega) (by omega) (x1 := mm N N f) (QW _ _ _) (mm N (N + N) (aug N f)) N 0 K (aug N f) (by omega) (by omega) hao
 refine bT L ?_
 unfold qdZ
 cases hg : gjR N N 0 (aug N f) with
 | none => rfl
 | some g =>
  have hgo := qck (by omega) (by omega) hao hg
  refine bT (qcF (fun m s x => qw.l15 K (mm N N f) (mm N (N + N) (aug N f)) (mm N (N + N) g) m s x) N (fun i => mk N fun a => if a < i then mk N (fun j => g a (N + j)) else mk (N + N) (g a)) (fun i => VP N fun j => g i (N + j)) (([] : List (List qa)), false) (mm N N fun i j => g i (N + j)) (fun m i hi => ?_) (fun m => ?_) (by omega)) ?_
  ·show qw.l15 _ _ _ _ (m + 1) (mk N fun a => if a < i then mk N (fun j => g a (N + j)) else mk (N + N) (g a)) _ = _
   have hset : (mk N fun a => if a < i then mk N (fun j => g a (N + j)) else mk (N + N) (g a)).set i (mk N fun j => g i (N + j)) = mk N fun a => if a < i + 1 then mk N (fun j => g a (N + j)) else mk (N + N) (g a) := by
    rw [ZM]
    refine Xr fun a ha => ?_
    by_cases e : a = i
    ·subst e; rw [if_pos rfl, if_pos (by omega)]
    ·rw [if_neg e]
     by_cases e2 : a < i
     ·rw [if_pos e2, if_pos (by omega)]
     ·rw [if_neg e2, if_neg (by omega)]
   have hdrop : (mk (N + N) (g i)).drop N = mk N fun j => g i (N + j) := by rw [qcV, show N + N - N = N by omega]
   rw [qw.l15, QW, if_pos (ZE hi), Qt, if_pos (YA hi), Int.toNat_natCast, Xg _ hi, Option.bind_some, if_neg (show ¬ i < i by omega), Qt, if_pos (by omega), if_pos (YA hi), Option.bind_some, Int.toNat_natCast, hdrop, hset, Qt, if_pos (YA hi), Xg _ hi, Option.bind_some, if_pos (show i < i + 1 by omega), qe6 hn _ (by omega), Option.bind_some, XG (by omega)]
  ·show qw.l15 _ _ _ _ (m + 1) (mk N fun a => if a < N then mk N (fun j => g a (N + j)) else mk (N + N) (g a)) _ = _
   rw [qw.l15, QW, if_neg (by rw [ZJ]; simp)]
   refine congrArg (fun x => some (Sum.inr x)) (Xr fun a ha => ?_)
   rw [if_pos ha]
  ·rcases Bool.eq_false_or_eq_true (Vh N fun i => !VP N fun j => g i (N + j)) with h | h <;> simp only [h] <;> rfl
end Go.Proofs.YtglcmhldonkfdaaGreatDoor
set_option maxRecDepth 10000
set_option linter.unusedVariables false
set_option linter.unusedSimpArgs false
namespace Go.Proofs.YtglcmhldonkfdaaGreatDoor
open Go
theorem qeB (a : qa) : YI a = YK a := rfl
theorem qeG {a b : qa} (ha : Ok a) (hb : Ok b) : Ym a b = XV a b := by
 obtain ⟨t, ht, okt⟩ := qch ha hb
 rw [ht]
 unfold Ym
 rw [qeB]
 refine bT (qdX hb) (bT (v := t) ?_ rfl)
 rw [qcC ha (qfs hb)]
 exact qeX hb ht
theorem qb3 {K : Nat} (hk : 4294967296 < K) {a b : qa} (ha : Ok a) (hb : Ok b) : QC K a b = some (WD a b) := by rw [qeJ hk ha hb, Vr ha hb]
theorem qfU {a b : qa} (ha : Ok a) (hb : Ok b) : XZ a b = some (qcY a b) := by rw [qcC ha hb, qbr ha hb]
theorem qfq {a b : qa} (ha : Ok a) (hb : Ok b) : Ym a b = some (qb6 a b) := by rw [qeG ha hb, qcy ha hb]
theorem qfC {K : Nat} (hk : 4294967296 < K) {a b : qa} (ha : Ok a) (hb : Ok b) : Qi K a b = some (qc8 a b) := by rw [qeW hk ha hb, qcI ha hb]
theorem qfx {a : qa} (h : Ok a) : Zn a = some ((a.Lo + a.Hi) / 2) := by
 have h1 := h.wlo
 have h2 := h.whi
 unfold VC at h1 h2
 unfold Zn
 rw [Zo (by omega) (by omega), fd _ _ (by omega)]
theorem qfJ {a : qa} (ha : Ok a) : YB a = some ((a.Lo + a.Hi) / 2) := by
 have h1 := ha.wlo
 have h2 := ha.whi
 unfold VC at h1 h2
 unfold YB
 rw [Zo (by omega) (by omega)]
 exact bT (Wa (by omega) (by omega) (by omega) (by omega)) rfl
theorem qcX (x : Int) : Yl x = some (nw x x) := by
 unfold Yl; rw [W5]; rfl
theorem Zb {β : Type} (l : Nat → List β → Int → Option (List β)) (n : Nat) (f : Nat → β) (hn : n < 1000000)
  (hs : ∀ (k : Nat) (acc : List β) (j : Nat), j < n → acc.length < 1000000 → l (k + 1) acc (j : Int) = l k (acc ++ [f j]) ((j + 1 : Nat) : Int))
  (he : ∀ (k : Nat) (acc : List β), l (k + 1) acc (n : Int) = some acc) {k : Nat} (hk : n < k) : l k [] 0 = some (mk n f) := by
 refine YJ l n (fun j => mk j f) _ rfl (fun k j hj => ?_) (fun k => he k _) hk
 show l (k + 1) (mk j f) _ = _
 rw [hs k _ j hj (by rw [Qt]; omega), ← Z4]
theorem VK {N : Nat} (hn : N < 1000000) (f : Nat → Nat → qa) {K : Nat} (hk : N < K) : qM K (mm N N f) = some (mm N N fun i k => f k i) := by
 unfold qM
 refine bT (Zb (fun k s x => qM.l9 K (mm N N f) k s x) N (fun i => mk N fun k => f k i) hn (fun k acc i hi ha => ?_) (fun k acc => ?_) hk) rfl
 ·rw [qM.l9, QW, if_pos (ZE hi)]
  refine bT (v := acc ++ [mk N fun k => f k i]) (bT (Zb (fun k s x => qM.l22 K (mm N N f) acc (i : Int) k s x) N (fun k => f k i) hn (fun k row j hj hr => ?_) (fun k row => ?_) hk) ?_) (by rw [XG (by omega)])
  ·rw [qM.l22, QW, if_pos (ZE hj), if_pos (YA hj), Int.toNat_natCast, Yk _ hj, Option.bind_some, Qt, if_pos (YA hi), Int.toNat_natCast, Xg _ hi, Option.bind_some, if_pos hr, XG (by omega)]
  ·rw [qM.l22, QW, if_neg (by rw [ZJ]; simp)]
  ·rw [if_pos ha]
 ·rw [qM.l9, QW, if_neg (by rw [ZJ]; simp)]
theorem qbE {N : Nat} (hn : N < 1000000) (f : Nat → Nat → Int) {K : Nat} (hk : N < K) : qL K (mm N N f) = some (mm N N fun i k => nw (f i k) (f i k)) := by
 unfold qL
 refine bT (Zb (fun k s x => qL.l9 K (mm N N f) k s x) N (fun i => mk N fun k => nw (f i k) (f i k)) hn (fun k acc i hi ha => ?_) (fun k acc => ?_) hk) rfl
 ·rw [qL.l9, QW, if_pos (ZE hi)]
  refine bT (v := acc ++ [mk N fun k => nw (f i k) (f i k)]) (bT (Zb (fun k s x => qL.l22 K (mm N N f) acc (i : Int) k s x) N (fun k => nw (f i k) (f i k)) hn (fun k row j hj hr => ?_) (fun k row => ?_) hk) ?_) (by rw [XG (by omega)])
  ·rw [qL.l22, QW, if_pos (ZE hj), if_pos (YA hi), Int.toNat_natCast, Yk _ hi, Option.bind_some, Qt, if_pos (YA hj), Int.toNat_natCast, Xg _ hj, Option.bind_some, qe9, Option.bind_some, if_pos hr, XG (by omega)]
  ·rw [qL.l22, QW, if_neg (by rw [ZJ]; simp)]
  ·rw [if_pos ha]
 ·rw [qL.l9, QW, if_neg (by rw [ZJ]; simp)]
theorem qe7 {N : Nat} (hn : N < 1000000) (f : Nat → Nat → qa) (hf : WP N N f) {K : Nat} (hk : N < K) : Qs K (mm N N f) = some (mm N N fun i k => ((f i k).Lo + (f i k).Hi) / 2) := by
 unfold Qs
 refine bT (Zb (fun k s x => Qs.l9 K (mm N N f) k s x) N (fun i => mk N fun k => ((f i k).Lo + (f i k).Hi) / 2) hn (fun k acc i hi ha => ?_) (fun k acc => ?_) hk) rfl
 ·rw [Qs.l9, QW, if_pos (ZE hi)]
  refine bT (v := acc ++ [mk N fun k => ((f i k).Lo + (f i k).Hi) / 2]) (bT (Zb (fun k s x => Qs.l22 K (mm N N f) acc (i : Int) k s x) N (fun k => ((f i k).Lo + (f i k).Hi) / 2) hn (fun k row j hj hr => ?_) (fun k row => ?_) hk) ?_) (by rw [XG (by omega)])
  ·rw [Qs.l22, QW, if_pos (ZE hj), if_pos (YA hi), Int.toNat_natCast, Yk _ hi, Option.bind_some, Qt, if_pos (YA hj), Int.toNat_natCast, Xg _ hj, Option.bind_some, qfJ (hf i hi j hj), Option.bind_some, if_pos hr, XG (by omega)]
  ·rw [Qs.l22, QW, if_neg (by rw [ZJ]; simp)]
  ·rw [if_pos ha]
 ·rw [Qs.l9, QW, if_neg (by rw [ZJ]; simp)]
theorem qaH {n N : Nat} (hn : N < 1000000) (h0 : N = n + 1) (f : Nat → Nat → qa) (b : Nat → qa) (hf : WP N N f) (hb : ∀ k, k < N → Ok (b k)) {K : Nat} (hk : N < K) (hK : 4294967296 < K) :
  qW K (mm N N f) (mk N b) = some (mk N fun i => Z7 (f i) b n) := by
 have p0 : 0 < N := by omega
 unfold qW
 refine bT (Zb (fun k s x => qW.l9 K (mm N N f) (mk N b) k s x) N (fun i => Z7 (f i) b n) hn (fun k acc i hi ha => ?_) (fun k acc => ?_) hk) rfl
 ·rw [qW.l9, QW, if_pos (ZE hi)]
  refine bT (v := acc ++ [Z7 (f i) b n]) ?_ (by rw [XG (by omega)])
  rw [if_pos (YA hi), Int.toNat_natCast, Yk _ hi, Option.bind_some, Qt, Qt]
  have g0 : ∀ f : Nat → qa, (mk N f)[(0 : Int).toNat]? = some (f 0) := fun f => Xg (i := 0) _ p0
  have z0 : 0 ≤ (0 : Int) ∧ (0 : Int) < (N : Int) := ⟨by omega, by omega⟩
  rw [if_pos z0, g0, Option.bind_some, if_pos z0, g0, Option.bind_some, qb3 hK (hf i hi 0 p0) (hb 0 p0), Option.bind_some]
  have L := J0 (fun k (s : qa) x => qW.l33 K (mm N N f) (mk N b) acc (i : Int) (mk N (f i)) (f i 0) (b 0) (WD (f i 0) (b 0)) k s.Lo s.Hi x) N (fun j => Z7 (f i) b (j - 1)) ((Z7 (f i) b n).Lo, (Z7 (f i) b n).Hi) 1 (fun k j h1 hj => by
   obtain ⟨j, rfl⟩ : ∃ m, j = m + 1 := ⟨j - 1, by omega⟩
   show qW.l33 _ _ _ _ _ _ _ _ _ (k + 1) _ _ _ = _
   rw [qW.l33, QW, Qt, if_pos (ZE hj), if_pos (YA hi), Int.toNat_natCast, Yk _ hi, Option.bind_some, Qt, if_pos (YA hj), Int.toNat_natCast, Xg _ hj, Option.bind_some, if_pos (YA hj), Xg _ hj, Option.bind_some, qb3 hK (hf i hi _ hj) (hb _ hj), Option.bind_some]
   refine bT (qfU (WM (fun a h => hf i hi a (by omega)) (fun a h => hb a (by omega))) (JB (hf i hi _ hj) (hb _ hj))) ?_
   rw [XG (by omega)]
   rfl) (fun k => by
   show qW.l33 _ _ _ _ _ _ _ _ _ (k + 1) _ _ _ = _
   rw [qW.l33, QW, if_neg (by rw [ZJ]; simp), h0]
   rfl) hk (by omega)
  refine bT L ?_
  rw [if_pos ha]
 ·rw [qW.l9, QW, if_neg (by rw [ZJ]; simp)]
theorem qeC {n N : Nat} (hn : N < 1000000) (h0 : N = n + 1) (f g : Nat → Nat → qa) (hf : WP N N f) (hg : WP N N g) {K : Nat} (hk : N < K) (hK : 4294967296 < K) :
  Xb K (mm N N f) (mm N N g) = some (mm N N fun i j => Z7 (f i) (fun k => g k j) n) := by
 unfold Xb
 refine bT (VK hn g hk) (bT (v := mm N N fun j i => Z7 (f i) (fun k => g k j) n) ?_ (bT (VK hn _ hk) rfl))
 refine Zb (fun k s x => Xb.l11 K (mm N N f) (mm N N g) (mm N N fun i k => g k i) k s x) N (fun j => mk N fun i => Z7 (f i) (fun k => g k j) n) hn (fun k acc j hj ha => ?_) (fun k acc => ?_) hk
 ·rw [Xb.l11, QW, QW, if_pos (ZE hj), if_pos (YA hj), Int.toNat_natCast, Yk _ hj, Option.bind_some, qaH hn h0 f _ hf (fun k hk => hg k hk j hj) hk hK, Option.bind_some, if_pos ha, XG (by omega)]
 ·rw [Xb.l11, QW, if_neg (by rw [ZJ]; simp)]
theorem qf6 {n m i k : Nat} (hi : i < n) (hk : k < m) (f : Nat → Nat → Int) : X9 (i : Int) (k : Int) (mm n m f) = some (nw (f i k) (f i k)) := by
 unfold X9 mm
 simp only [Qt, YA hi, YA hk, and_self, if_true, Int.toNat_natCast, Xg _ hi, Xg _ hk, Option.bind_some, qcX]
theorem qct {N : Nat} (hn : N < 1000000) (f : Nat → Nat → Int) {K : Nat} (hk : N < K) : QJ K (mm N N f) = some (mm N N fun i k => nw (f i k) (f i k)) := by
 unfold QJ
 refine bT ?_ rfl
 unfold Qd
 rw [QW, if_pos (n0 hn), Int.toNat_natCast]
 refine bT (JK (fun k s x => Qd.l10 K (N : Int) (mm N N f) k s x) N (fun i k => nw (f i k) (f i k)) (fun k i hi => ?_) (fun k acc => ?_) hk) rfl
 ·show Qd.l10 _ _ _ (k + 1) _ _ = _
  rw [Qd.l10, if_pos (ZE hi)]
  refine bT (Jm (fun k s x => Qd.l19 K (N : Int) (mm N N f) _ (i : Int) k s x) N i hi (fun i k => nw (f i k) (f i k)) hn (fun k acc j row hj ha hr hw => ?_) (fun k acc => ?_) hk) (by rw [XG (by omega)])
  ·show Qd.l19 _ _ _ _ _ (k + 1) _ _ = _
   rw [Qd.l19, if_pos (ZE hj), ha, if_pos (YA hi), Int.toNat_natCast, hr, Option.bind_some, qf6 hi hj, Option.bind_some, if_pos hw, if_pos (YA hi), Option.bind_some, XG (by omega)]
  ·show Qd.l19 _ _ _ _ _ (k + 1) _ _ = _
   rw [Qd.l19, if_neg (by rw [ZJ]; simp)]
 ·show Qd.l10 _ _ _ (k + 1) _ _ = _
  rw [Qd.l10, if_neg (by rw [ZJ]; simp)]
theorem qgs {n m i k : Nat} (hi : i < n) (hk : k < m) (f : Nat → Nat → qa) (hf : Ok (f i k)) : YV (i : Int) (k : Int) (mm n m f) = some (((f i k).Lo + (f i k).Hi) / 2) := by
 unfold YV mm
 simp only [Qt, YA hi, YA hk, and_self, if_true, Int.toNat_natCast, Xg _ hi, Xg _ hk, Option.bind_some, qfx hf]
theorem qfn {N : Nat} (hn : N < 1000000) (f : Nat → Nat → qa) (hf : WP N N f) {K : Nat} (hk : N < K) : Zj K (mm N N f) = some (mm N N fun i k => ((f i k).Lo + (f i k).Hi) / 2) := by
 unfold Zj
 refine bT ?_ rfl
 unfold qR
 rw [QW, if_pos (n0 hn), Int.toNat_natCast]
 refine bT (JK (fun k s x => qR.l10 K (N : Int) (mm N N f) k s x) N (fun i k => ((f i k).Lo + (f i k).Hi) / 2) (fun k i hi => ?_) (fun k acc => ?_) hk) rfl
 ·show qR.l10 _ _ _ (k + 1) _ _ = _
  rw [qR.l10, if_pos (ZE hi)]
  refine bT (Jm (fun k s x => qR.l19 K (N : Int) (mm N N f) _ (i : Int) k s x) N i hi (fun i k => ((f i k).Lo + (f i k).Hi) / 2) hn (fun k acc j row hj ha hr hw => ?_) (fun k acc => ?_) hk) (by rw [XG (by omega)])
  ·show qR.l19 _ _ _ _ _ (k + 1) _ _ = _
   rw [qR.l19, if_pos (ZE hj), ha, if_pos (YA hi), Int.toNat_natCast, hr, Option.bind_some, qgs hi hj _ (hf i hi j hj), Option.bind_some, if_pos hw, if_pos (YA hi), Option.bind_some, XG (by omega)]
  ·show qR.l19 _ _ _ _ _ (k + 1) _ _ = _
   rw [qR.l19, if_neg (by rw [ZJ]; simp)]
 ·show qR.l10 _ _ _ (k + 1) _ _ = _
  rw [qR.l10, if_neg (by rw [ZJ]; simp)]
end Go.Proofs.YtglcmhldonkfdaaGreatDoor
set_option maxRecDepth 10000
set_option linter.unusedVariables false
set_option linter.unusedSimpArgs false
namespace Go.Proofs.YtglcmhldonkfdaaGreatDoor
open Go
def okB (n : Nat) (f : Nat → qa) : Bool := Vh n fun j => decide (Ok (f j))
theorem qfV {n : Nat} (hn : n < 1000000) (f : Nat → qa) {K : Nat} (hK : n < K) : Yv K (mk n f) = some (!okB n f) := by
 unfold Yv QY
 have L := JI (fun m x => QY.l6 K (mk n f) m x) n (fun j => !decide (Ok (f j))) (fun j => (j : Int)) (fun m i hi _ => by
  show QY.l6 _ _ (m + 1) _ = _
  have e : Y1 (f i) = some (!decide (Ok (f i))) := by unfold Y1; rw [qdm]; rfl
  rw [QY.l6, Qt, if_pos (ZE hi), if_pos (YA hi), Int.toNat_natCast, Xg _ hi, Option.bind_some, e, Option.bind_some, XG (by omega)]) (fun m => by
  show QY.l6 _ _ (m + 1) _ = _
  rw [QY.l6, Qt, if_neg (by rw [ZJ]; simp)]) hK
 rcases L with ⟨i, hi, hp, _, h⟩ | ⟨hp, h⟩
 ·have e : okB n f = false := J9.2 ⟨i, hi, by simpa using hp⟩
  rw [e]
  refine bT (bT h rfl) ?_
  rw [decide_eq_true (show (i : Int) ≥ 0 by omega)]
  rfl
 ·have e : okB n f = true := Va.2 fun i hi => by simpa using hp i hi
  rw [e]
  exact bT (bT h rfl) rfl
def qdN (raw : List (List qa)) (i : Nat) : Bool := decide ((raw.getD i []).length = raw.length) && okB raw.length fun j => (raw.getD i []).getD j default
theorem qf9 (a b : Nat) : ((a : Int) != (b : Int)) = !decide (a = b) := by
 by_cases h : a = b
 ·subst h; simp
 ·rw [decide_eq_false h]
  simp
  omega
theorem qdn (raw : List (List qa)) {K : Nat} (hK : 6 < K) : ∃ r, Xd K raw = some r ∧ qX K raw = some r := by
 unfold Xd qX
 by_cases h : raw.length < 1 ∨ raw.length > 6
 ·have e : ((decide ((raw.length : Int) < 1)) || (decide ((raw.length : Int) > 6))) = true := by simp; omega
  rw [if_pos e, if_pos e]
  exact ⟨false, rfl, rfl⟩
 ·have e : ¬ ((decide ((raw.length : Int) < 1)) || (decide ((raw.length : Int) > 6))) = true := by simp; omega
  rw [if_neg e, if_neg e]
  have g : ∀ i, i < raw.length → raw[i]? = some (raw.getD i []) := fun i hi => gD raw [] hi
  have L1 := qbJ (fun k x => Xd.l9 K raw k x) raw.length (qdN raw) (fun k i hi => by
   show Xd.l9 _ _ (k + 1) _ = _
   rw [Xd.l9, if_pos (ZE hi), if_pos (YA hi), Int.toNat_natCast, g i hi, Option.bind_some, qf9, XG (by omega)]
   unfold qdN
   by_cases hl : (raw.getD i []).length = raw.length
   ·have em : raw.getD i [] = mk raw.length fun j => (raw.getD i []).getD j default := by
     have := qgk (raw.getD i []) default
     rwa [hl] at this
    rw [decide_eq_true hl, if_pos (by rfl)]
    have eb := qfV (n := raw.length) (by omega) (fun j => (raw.getD i []).getD j default) (K := K) (by omega)
    rw [← em] at eb
    rw [eb, Option.bind_some]
    cases okB raw.length fun j => (raw.getD i []).getD j default <;> rfl
   ·rw [decide_eq_false hl, if_neg (by decide)]
    rfl) (fun k => by
   show Xd.l9 _ _ (k + 1) _ = _
   rw [Xd.l9, if_neg (by rw [ZJ]; simp)]) (k := K) (by omega)
  have L2 := qbJ (fun k x => qX.l8 K raw k x) raw.length (qdN raw) (fun k i hi => by
   show qX.l8 _ _ (k + 1) _ = _
   rw [qX.l8, if_pos (ZE hi), if_pos (YA hi), Int.toNat_natCast, g i hi, Option.bind_some, qf9, XG (by omega)]
   unfold qdN
   by_cases hl : (raw.getD i []).length = raw.length
   ·rw [decide_eq_true hl, if_neg (by decide)]
    have L3 := JI (γ := Bool ⊕ Unit) (fun k x => qX.l18 K raw (i : Int) (raw.getD i []) k x) raw.length (fun j => !decide (Ok ((raw.getD i []).getD j default))) (fun _ => .inl false) (fun k j hj _ => by
     show qX.l18 _ _ _ _ (k + 1) _ = _
     have hj' : j < (raw.getD i []).length := by rw [hl]; exact hj
     rw [qX.l18, if_pos (ZE hj), if_pos (YA hi), Int.toNat_natCast, g i hi, Option.bind_some, if_pos (YA hj'), Int.toNat_natCast, gD _ default hj', Option.bind_some, qbO, Option.bind_some, XG (by omega)]) (fun k => by
     show qX.l18 _ _ _ _ (k + 1) _ = _
     rw [qX.l18, if_neg (by rw [ZJ]; simp)]) (k := K) (by omega)
    rcases L3 with ⟨j, hj, hp, _, hx⟩ | ⟨hp, hx⟩
    ·have e : (okB raw.length fun j => (raw.getD i []).getD j default) = false := J9.2 ⟨j, hj, by simpa using hp⟩
     rw [e]
     exact bT hx rfl
    ·have e : (okB raw.length fun j => (raw.getD i []).getD j default) = true := Va.2 fun j hj => by simpa using hp j hj
     rw [e]
     exact bT hx rfl
   ·rw [decide_eq_false hl, if_pos (by decide)]
    rfl) (fun k => by
   show qX.l8 _ _ (k + 1) _ = _
   rw [qX.l8, if_neg (by rw [ZJ]; simp)]) (k := K) (by omega)
  cases hb : Vh raw.length (qdN raw) with
  | true =>
   rw [hb] at L1 L2
   exact ⟨true, bT L1 rfl, bT L2 rfl⟩
  | false =>
   rw [hb] at L1 L2
   exact ⟨false, bT L1 rfl, bT L2 rfl⟩
theorem qbG {K : Nat} (hK : 0 < K) : qz K [] [] = some true := by
 obtain ⟨k, rfl⟩ : ∃ m, K = m + 1 := ⟨K - 1, by omega⟩
 rfl
theorem qcW {x : Int} (hx : 0 ≤ x ∧ x ≤ 255) {K : Nat} (hK : 10 < K) : ∃ l, Xp K (qe x) = some l ∧ qZ K (qe x) = some l ∧ qz K l l = some true := by
 rw [Zo (by omega) (by omega)]
 by_cases h : x < 1 ∨ x > 6
 ·refine ⟨[], ?_, ?_, qbG (by omega)⟩
  ·unfold Xp
   rw [if_pos (by simp; omega)]
  ·unfold qZ
   rw [if_pos (by simp; omega)]
 ·obtain ⟨N, rfl⟩ : ∃ N : Nat, x = N := ⟨x.toNat, by omega⟩
  exact ⟨mm N N WF, qbX (by omega) (by omega) (by omega), qcm (by omega) (by omega) (by omega), qdD (by omega) (by omega) _ _ (fun _ _ _ _ => rfl) (by omega) (by omega)⟩
end Go.Proofs.YtglcmhldonkfdaaGreatDoor
set_option maxRecDepth 10000
set_option linter.unusedVariables false
set_option linter.unusedSimpArgs false
namespace Go.Proofs.YtglcmhldonkfdaaGreatDoor
open Go
theorem qd6 (a : qa) : X4 a = some (sg a) := by
 unfold X4 sg
 by_cases h : a.Lo > 0
 ·rw [if_pos h]; exact iT (decide_eq_true h) rfl
 ·rw [if_neg h]
  refine iF (by simpa using h) ?_
  by_cases h2 : a.Hi < 0
  ·rw [if_pos h2]; exact iT (decide_eq_true h2) rfl
  ·rw [if_neg h2]; exact iF (by simpa using h2) rfl
theorem qcE {a : qa} (ha : Ok a) : Xw a = some (mig a) := by
 have h1 := ha.wlo
 have h2 := ha.whi
 unfold VC at h1 h2
 unfold Xw mig
 rw [Zo (x := 0 - a.Lo) (by omega) (by omega), Zo (x := 0 - a.Hi) (by omega) (by omega), Int.zero_sub, Int.zero_sub]
theorem qaI {N M k : Nat} (hN : N < 1000000) (hk : k ≤ N) (hM : k < M) (g : Nat → Nat → qa) (hg : ∀ i, i < N → Ok (g i k)) (a0 t3 j5 : List (List qa)) (h0 : a0.length = N) {K : Nat} (hK : N < K) :
  qm.l71 K a0 t3 j5 (mm N M g) (k : Int) K (-1) (k : Int) = some (pvI (pvS g k (N - k))) := by
 have L := J0 (fun m s x => qm.l71 K a0 t3 j5 (mm N M g) (k : Int) m s x) N (fun i => pvI (pvS g k (i - k))) (pvI (pvS g k (N - k))) k (fun m i hi hin => by
  show qm.l71 _ _ _ _ _ _ (m + 1) _ _ = _
  rw [qm.l71, h0, if_pos (ZE hin)]
  obtain ⟨d, rfl⟩ : ∃ d, i = k + d := ⟨i - k, by omega⟩
  rw [show k + d - k = d by omega, show k + d + 1 - k = d + 1 by omega]
  refine bT (v := pvI (pvS g k (d + 1))) ?_ (by rw [XG (by omega)])
  rw [QW, if_pos (YA hin), Int.toNat_natCast, Yk _ hin, Option.bind_some, Qt, if_pos (YA hM), Int.toNat_natCast, Xg _ hM, Option.bind_some, qd6, Option.bind_some, Option.bind_some, pvS]
  by_cases hz : sg (g (k + d) k) ≠ 0
  ·rw [if_pos hz, if_pos (by simpa using hz)]
   cases hq : pvS g k d with
   | none =>
    rw [Option.bind_some, if_pos (by rfl)]; rfl
   | some r =>
    have hr := Jv hq
    have hrN : r < N := by omega
    have hnf : decide (pvI (some r) < 0) = false := decide_eq_false (by show ¬ ((r : Int) < 0); omega)
    have hnn : ¬ (decide (pvI (some r) < 0) = true) := by rw [hnf]; simp
    rw [Option.bind_some, if_neg hnn, if_pos hnf, if_pos (YA hin), Option.bind_some, Qt, if_pos (YA hM), Xg _ hM, Option.bind_some, qcE (hg _ hin), Option.bind_some]
    show (if 0 ≤ (r : Int) ∧ (r : Int) < (N : Int) then _ else none) = _
    rw [if_pos (YA hrN)]
    show Option.bind ((mm N M g)[(r : Int).toNat]?) _ = _
    rw [Int.toNat_natCast, Yk _ hrN, Option.bind_some, Qt, if_pos (YA hM), Xg _ hM, Option.bind_some, qcE (hg _ hrN), Option.bind_some]
    by_cases hm : mig (g (k + d) k) > mig (g r k)
    ·rw [if_pos (decide_eq_true hm)]
     show _ = some (pvI (if mig (g (k + d) k) > mig (g r k) then some (k + d) else some r))
     rw [if_pos hm]; rfl
    ·rw [if_neg (by simpa using hm)]
     show _ = some (pvI (if mig (g (k + d) k) > mig (g r k) then some (k + d) else some r))
     rw [if_neg hm]
  ·rw [if_neg hz, if_neg (by simpa using hz), if_pos (by simpa using hz)]) (fun m => by
  show qm.l71 _ _ _ _ _ _ (m + 1) _ _ = _
  rw [qm.l71, h0, if_neg (by rw [ZJ]; simp)]) hK hk
 rw [show k - k = 0 by omega] at L
 exact L
theorem qew {N M k : Nat} (hN : N < 1000000) (hM : M < 1000000) (hk : k < N) (hkM : k < M) {h : Nat → Nat → qa} (ho : WP N M h) {K : Nat} (hK : M < K) (hKN : N < K) (hKK : 4294967296 < K) :
  qE K (mm N M h) (k : Int) = some (mm N M (VL h k)) := by
 unfold qE
 refine bT (v := mk M (V8 h k)) ?_ (bT (v := mm N M (VL h k)) ?_ rfl)
 ·refine Zb (fun m s x => qE.l53 K (mm N M h) (k : Int) m s x) M (V8 h k) hM (fun m acc j hj ha => ?_) (fun m acc => ?_) hK
  ·rw [qE.l53]
   simp only [QW, YA hk, and_self, if_true, Int.toNat_natCast, Yk _ hk, Option.bind_some, Qt, YA hj, Xg _ hj, YA hkM, Xg _ hkM]
   rw [if_pos (by simp)]
   refine bT (qfC hKK (ho k hk j hj) (ho k hk k hkM)) ?_
   rw [if_pos ha, XG (by omega)]
   rfl
  ·rw [qE.l53, QW, if_pos (YA hk), Int.toNat_natCast, Yk _ hk, Option.bind_some, Qt, if_neg (by rw [ZJ]; simp)]
 ·refine Zb (fun m s x => qE.l11 K (mm N M h) (k : Int) (mk M (V8 h k)) m s x) N (fun i => mk M (VL h k i)) hN (fun m acc i hi ha => ?_) (fun m acc => ?_) hKN
  ·rw [qE.l11, QW, if_pos (ZE hi)]
   refine bT (v := acc ++ [mk M (VL h k i)]) (bT (v := mk M (VL h k i)) ?_ (by rw [if_pos ha])) (by rw [XG (by omega)])
   by_cases e : i = k
   ·subst e
    rw [if_neg (by simp)]
    refine congrArg some (Xr fun j hj => ?_)
    unfold VL; rw [if_pos rfl]
   ·rw [if_pos (by simp; omega)]
    refine Zb (fun m s x => qE.l26 K (mm N M h) (k : Int) (mk M (V8 h k)) acc (i : Int) m s x) M (VL h k i) hM (fun m row j hj hr => ?_) (fun m row => ?_) hK
    ·have n1 := WW ho hk hkM hj
     have m1 := JB (ho i hi k hkM) n1
     rw [qE.l26]
     simp only [QW, YA hi, and_self, if_true, Int.toNat_natCast, Yk _ hi, Option.bind_some, Qt, YA hj, Xg _ hj, YA hkM, Xg _ hkM]
     rw [if_pos (by simp)]
     refine bT (qb3 hKK (ho i hi k hkM) n1) (bT (qfq (ho i hi j hj) m1) ?_)
     rw [if_pos hr, XG (by omega)]
     have : VL h k i j = qb6 (h i j) (WD (h i k) (V8 h k j)) := if_neg e
     rw [this]
    ·rw [qE.l26, QW, if_pos (YA hi), Int.toNat_natCast, Yk _ hi, Option.bind_some, Qt, if_neg (by rw [ZJ]; simp)]
  ·rw [qE.l11, QW, if_neg (by rw [ZJ]; simp)]
theorem qc2 {N M k p : Nat} (g : Nat → Nat → qa) : ((mm N M g).set p (mk M (g k))).set k (mk M (g p)) = mm N M (swp g k p) := by
 unfold mm
 rw [ZM, ZM]
 refine Xr fun i hi => ?_
 unfold swp
 by_cases e : i = k
 ·subst e
  rw [if_pos rfl]
  by_cases e2 : i = p
  ·subst e2; rw [if_pos rfl]
  ·rw [if_neg e2, if_pos rfl]
 ·rw [if_neg e]
  by_cases e2 : i = p
  ·rw [if_pos e2, if_pos e2]
  ·rw [if_neg e2, if_neg e2, if_neg e]
theorem qcG {N M K : Nat} (hN : N < 1000000) (hM : M < 1000000) (hNM : N ≤ M) (hK : M < K) (hKK : 4294967296 < K) {a0 : List (List qa)} (hx : a0.length = N) (t3 j5 : List (List qa)) :
  ∀ (d k m : Nat) (g : Nat → Nat → qa), k + d = N → d < m → WP N M g →
   qm.l44 K a0 t3 j5 m (mm N M g) (k : Int) = some (match gjR N d k g with | none => .inl ([], false) | some g' => .inr (mm N M g'))
 | 0, k, m, g, hkd, hm, ho => by
  obtain ⟨m, rfl⟩ : ∃ q, m = q + 1 := ⟨m - 1, by omega⟩
  obtain rfl : k = N := by omega
  rw [qm.l44, hx, if_neg (by rw [ZJ]; simp)]
  rfl
 | d + 1, k, m, g, hkd, hm, ho => by
  obtain ⟨m, rfl⟩ : ∃ q, m = q + 1 := ⟨m - 1, by omega⟩
  have hk : k < N := by omega
  have hkM : k < M := by omega
  rw [qm.l44, hx, if_pos (ZE hk), gjR]
  cases hp : pvS g k (N - k) with
  | none =>
   refine bT (v := .inl (.inl ([], false))) (bT (qaI hN (by omega) hkM g (fun i hi => ho i hi k hkM) a0 t3 j5 hx (by omega)) ?_) rfl
   rw [hp, if_pos (by decide)]
  | some p =>
   have hpp := Jv hp
   have hpN : p < N := by omega
   have ho' := qcb ho hk hpN
   have e1 : decide (pvI (some p) < 0) = false := decide_eq_false (by show ¬ ((p : Int) < 0); omega)
   refine bT (v := .inr (mm N M (VL (swp g k p) k))) (bT (qaI hN (by omega) hkM g (fun i hi => ho i hi k hkM) a0 t3 j5 hx (by omega)) ?_) ?_
   ·rw [hp, if_neg (by rw [e1]; simp)]
    show (if 0 ≤ (p : Int) ∧ (p : Int) < ((mm N M g).length : Int) then ((mm N M g)[(p : Int).toNat]?).bind _ else none) = _
    rw [QW, if_pos (YA hpN), Int.toNat_natCast, Yk _ hpN, Option.bind_some, if_pos (YA hk), Int.toNat_natCast, Yk _ hk, Option.bind_some]
    show (if 0 ≤ (p : Int) ∧ (p : Int) < (N : Int) then ((mm N M g)[(p : Int).toNat]?).bind _ else none) = _
    rw [if_pos (YA hpN), Int.toNat_natCast, Yk _ hpN, Option.bind_some]
    have hl1 : (((mm N M g).set p (mk M (g k))).length : Int) = N := by rw [List.length_set, QW]
    have hg1 : ∃ x, ((mm N M g).set p (mk M (g k)))[k]? = some x := ⟨((mm N M g).set p (mk M (g k)))[k]'(by rw [List.length_set, QW]; exact hk), List.getElem?_eq_getElem _⟩
    obtain ⟨x, hx1⟩ := hg1
    rw [show (pvI (some p)).toNat = p from Int.toNat_natCast p, hl1, if_pos (YA hk), hx1, Option.bind_some, qc2]
    exact bT (qew hN hM hk hkM ho' hK (by omega) hKK) rfl
   ·show qm.l44 K a0 t3 j5 m (mm N M (VL (swp g k p) k)) (qe ((k : Int) + 1)) = _
    rw [XG (by omega)]
    exact qcG hN hM hNM hK hKK hx t3 j5 d (k + 1) m _ (by omega) (by omega) (qcf ho' hk hkM)
theorem qeZ {N : Nat} (h0 : 0 < N) (h6 : N ≤ 6) (f : Nat → Nat → qa) (hf : WP N N f) {K : Nat} (hKK : 4294967296 < K) :
  qm K (mm N N f) = some (match qdZ N f with | none => ([], false) | some g => (mm N N g, true)) := by
 unfold qm
 have hn : N < 1000000 := by omega
 have hao := qd1 hf
 rw [QW]
 refine bT (qcm h0 h6 (by omega)) (bT (v := mm N (N + N) (aug N f)) ?_ ?_)
 ·refine Zb (fun m s x => qm.l91 K (mm N N f) (mm N N WF) m s x) N (fun i => mk (N + N) (aug N f i)) hn (fun m acc i hi ha => ?_) (fun m acc => ?_) (by omega)
  ·rw [qm.l91, QW, if_pos (ZE hi), if_pos (YA hi), Int.toNat_natCast, Yk _ hi, Option.bind_some, Qt, if_pos ⟨by omega, by decide⟩, QW, if_pos (YA hi), Yk _ hi, Option.bind_some, Qt, List.nil_append, Qt, if_pos ⟨by omega, by omega⟩, if_pos ha, XG (by omega), qcO]
  ·rw [qm.l91, QW, if_neg (by rw [ZJ]; simp)]
 refine bT (qcG (N := N) (M := N + N) (K := K) hn (by omega) (by omega) (by omega) hKK (a0 := mm N N f) (QW _ _ _) (mm N N WF) (mm N (N + N) (aug N f)) N 0 K (aug N f) (by omega) (by omega) hao) ?_
 unfold qdZ
 cases hg : gjR N N 0 (aug N f) with
 | none => rfl
 | some g =>
  have hgo := qck (by omega) (by omega) hao hg
  refine bT (qcF (fun m s x => qm.l15 K (mm N N f) (mm N N WF) (mm N (N + N) (aug N f)) (mm N (N + N) g) m s x) N (fun i => mk i fun a => mk N fun j => g a (N + j)) (fun i => VP N fun j => g i (N + j)) (([] : List (List qa)), false) (mm N N fun i j => g i (N + j)) (fun m i hi => ?_) (fun m => ?_) (by omega)) ?_
  ·show qm.l15 _ _ _ _ _ (m + 1) _ _ = _
   rw [qm.l15, QW, if_pos (ZE hi)]
   have L := JI (γ := ((List (List qa) × Bool) ⊕ (List (List qa))) ⊕ (List (List qa))) (fun q x => qm.l28 K (mm N N f) (mm N N WF) (mm N (N + N) (aug N f)) (mm N (N + N) g) (mk i fun a => mk N fun j => g a (N + j)) (i : Int) q ((N : Int) + x)) N (fun j => decide (g i (N + j) = ZT)) (fun _ => .inl (.inl ([], false))) (fun q j hj _ => by
    show qm.l28 _ _ _ _ _ _ _ (q + 1) _ = _
    have hj' : N + j < N + N := by omega
    have e1 : (N : Int) + (j : Int) = ((N + j : Nat) : Int) := by omega
    have e2 : qe (2 * (N : Int)) = ((N + N : Nat) : Int) := by rw [Zo (by omega) (by omega)]; omega
    rw [qm.l28, QW, e1, e2, if_pos (ZE hj'), QW, if_pos (YA hi), Int.toNat_natCast, Yk _ hi, Option.bind_some, Qt, if_pos (YA hj'), Int.toNat_natCast, Xg _ hj', Option.bind_some, Vv, Option.bind_some, XG (by omega), show (N : Int) + ((j + 1 : Nat) : Int) = ((N + j + 1 : Nat) : Int) by omega]) (fun q => by
    show qm.l28 _ _ _ _ _ _ _ (q + 1) _ = _
    have e2 : qe (2 * (N : Int)) = ((N + N : Nat) : Int) := by rw [Zo (by omega) (by omega)]; omega
    rw [qm.l28, QW, e2, if_neg (by simp <;> omega)]) (k := K) (by omega)
   rw [Int.add_zero] at L
   have hdrop : (mk (N + N) (g i)).drop N = mk N fun j => g i (N + j) := by rw [qcV, show N + N - N = N by omega]
   rcases L with ⟨j, hj, hp, _, hx⟩ | ⟨hp, hx⟩
   ·have e : (VP N fun j => g i (N + j)) = true := V7.2 ⟨j, hj, by simpa using hp⟩
    rw [e]
    exact bT (bT hx rfl) rfl
   ·have e : (VP N fun j => g i (N + j)) = false := by
     cases h2 : VP N fun j => g i (N + j) with
     | false => rfl
     | true => obtain ⟨j, hj, e⟩ := V7.1 h2; have := hp j hj; simp [e] at this
    rw [e]
    refine bT (v := .inr (mk (i + 1) fun a => mk N fun j => g a (N + j))) (bT hx ?_) (by show qm.l15 _ _ _ _ _ m _ (qe _) = _; rw [XG (by omega)]; rfl)
    show (if 0 ≤ (i : Int) ∧ (i : Int) < ((mm N (N + N) g).length : Int) then _ else none) = _
    rw [QW, if_pos (YA hi), Int.toNat_natCast, Yk _ hi, Option.bind_some, Qt, if_pos ⟨by omega, by omega⟩, Qt, if_pos (by omega), Int.toNat_natCast, hdrop, Z4]
  ·show qm.l15 _ _ _ _ _ (m + 1) _ _ = _
   rw [qm.l15, QW, if_neg (by rw [ZJ]; simp)]
   rfl
  ·rcases Bool.eq_false_or_eq_true (Vh N fun i => !VP N fun j => g i (N + j)) with h | h <;> simp only [h] <;> rfl
end Go.Proofs.YtglcmhldonkfdaaGreatDoor
set_option maxRecDepth 10000
set_option linter.unusedVariables false
set_option linter.unusedSimpArgs false
namespace Go.Proofs.YtglcmhldonkfdaaGreatDoor
open Go
end Go.Proofs.YtglcmhldonkfdaaGreatDoor
set_option maxRecDepth 10000
set_option linter.unusedVariables false
set_option linter.unusedSimpArgs false
namespace Go.Proofs.YtglcmhldonkfdaaGreatDoor
open Go
end Go.Proofs.YtglcmhldonkfdaaGreatDoor
set_option maxRecDepth 10000
set_option linter.unusedVariables false
set_option linter.unusedSimpArgs false
namespace Go.Proofs.YtglcmhldonkfdaaGreatDoor
open Go
end Go.Proofs.YtglcmhldonkfdaaGreatDoor
set_option maxRecDepth 10000
set_option linter.unusedVariables false
set_option linter.unusedSimpArgs false
namespace Go.Proofs.YtglcmhldonkfdaaGreatDoor
open Go
theorem Z0 {a b c d : Nat → Int} : ∀ {n : Nat}, (∀ i, i < n → a i = c i) → (∀ i, i < n → b i = d i) → Qk a b n = Qk c d n
 | 0, _, _ => rfl
 | n + 1, h1, h2 => by rw [Qk, Qk, Z0 (fun i h => h1 i (by omega)) (fun i h => h2 i (by omega)), h1 n (by omega), h2 n (by omega)]
theorem Ze (a b : Nat → Int) : ∀ n, Qk a b n = Qk b a n
 | 0 => rfl
 | n + 1 => by rw [Qk, Qk, Ze a b n, Int.mul_comm]
theorem Vf {w w' u r x : Nat → Int} {s c : Int} : ∀ {n : Nat}, (∀ i, i < n → s * w' i = s * w i - c * u i + r i) → s * Qk w' x n = s * Qk w x n - c * Qk u x n + Qk r x n
 | 0, _ => by simp [Qk]
 | n + 1, h => by
  have h1 := Vf (x := x) (fun i hi => h i (Nat.lt_succ_of_lt hi))
  have h2 := h n (Nat.lt_succ_self n)
  rw [Qk, Qk, Qk, Qk]
  have e : s * (w' n * x n) = (s * w' n) * x n := by rw [Int.mul_assoc]
  rw [Int.mul_add, h1, e, h2]
  grind
def Jx (x : Nat → Int) : Nat → Int
 | 0 => 0
 | n + 1 => Jx x n + (if 0 ≤ x n then x n else -x n)
theorem qcR (x : Nat → Int) : ∀ n, 0 ≤ Jx x n
 | 0 => Int.le_refl _
 | n + 1 => by have := qcR x n; rw [Jx]; split <;> omega
theorem WO {r x : Nat → Int} {A : Int} (hA : 0 ≤ A) : ∀ {n : Nat}, (∀ i, i < n → -A ≤ r i ∧ r i ≤ A) → -(A * Jx x n) ≤ Qk r x n ∧ Qk r x n ≤ A * Jx x n
 | 0, _ => by simp [Qk, Jx]
 | n + 1, h => by
  have h1 := WO hA (x := x) (fun i hi => h i (Nat.lt_succ_of_lt hi))
  have h2 := h n (Nat.lt_succ_self n)
  rw [Qk, Jx, Int.mul_add]
  split
  ·have a1 := Int.mul_le_mul_of_nonneg_right h2.2 (by assumption : 0 ≤ x n)
   have a2 := Int.mul_le_mul_of_nonneg_right h2.1 (by assumption : 0 ≤ x n)
   rw [Int.neg_mul] at a2
   omega
  ·have hx : 0 ≤ -x n := by omega
   have a1 := Int.mul_le_mul_of_nonneg_right h2.2 hx
   have a2 := Int.mul_le_mul_of_nonneg_right h2.1 hx
   rw [Int.neg_mul] at a2
   rw [Int.mul_neg, Int.mul_neg] at a1 a2
   rw [Int.mul_neg]
   omega
theorem JH (x : Int) : 0 ≤ x * x := by
 by_cases h : 0 ≤ x
 ·exact Int.mul_nonneg h h
 ·have := Int.mul_nonneg (show 0 ≤ -x by omega) (show 0 ≤ -x by omega)
  rwa [Int.neg_mul_neg] at this
theorem qdw (x : Int) : (if 0 ≤ x then x else -x) * (if 0 ≤ x then x else -x) = x * x := by
 split
 ·rfl
 ·exact Int.neg_mul_neg _ _
theorem Wo (x : Nat → Int) : ∀ n, 0 ≤ Qk x x n
 | 0 => Int.le_refl _
 | n + 1 => by have := Wo x n; have := JH (x n); rw [Qk]; omega
theorem qeU (x : Nat → Int) {n : Nat} (hn : n ≤ 4) : Jx x n * Jx x n ≤ 4 * Qk x x n := by
 have q := fun i => qdw (x i)
 have key : ∀ a b c d : Int, (a + b + c + d) * (a + b + c + d) ≤ 4 * (a * a + b * b + c * c + d * d) := fun a b c d => by
  have h1 := JH (a - b); have h2 := JH (a - c); have h3 := JH (a - d)
  have h4 := JH (b - c); have h5 := JH (b - d); have h6 := JH (c - d)
  grind
 have ex : ∃ m, n + m = 4 := ⟨4 - n, by omega⟩
 match n, hn with
 | 0, _ => simp [Jx, Qk]
 | 1, _ =>
  have := key (if 0 ≤ x 0 then x 0 else -x 0) 0 0 0
  simp only [Jx, Qk]
  rw [q 0] at this
  simp only [Int.zero_add, Int.add_zero, Int.mul_zero, q 0] at this ⊢
  have := JH (x 0)
  omega
 | 2, _ =>
  have := key (if 0 ≤ x 0 then x 0 else -x 0) (if 0 ≤ x 1 then x 1 else -x 1) 0 0
  simp only [Jx, Qk]
  rw [q 0, q 1] at this
  simp only [Int.zero_add, Int.add_zero, Int.mul_zero] at this ⊢
  exact this
 | 3, _ =>
  have := key (if 0 ≤ x 0 then x 0 else -x 0) (if 0 ≤ x 1 then x 1 else -x 1) (if 0 ≤ x 2 then x 2 else -x 2) 0
  simp only [Jx, Qk]
  rw [q 0, q 1, q 2] at this
  simp only [Int.zero_add, Int.add_zero, Int.mul_zero] at this ⊢
  exact this
 | 4, _ =>
  have := key (if 0 ≤ x 0 then x 0 else -x 0) (if 0 ≤ x 1 then x 1 else -x 1) (if 0 ≤ x 2 then x 2 else -x 2) (if 0 ≤ x 3 then x 3 else -x 3)
  simp only [Jx, Qk]
  rw [q 0, q 1, q 2, q 3] at this
  simp only [Int.zero_add] at this ⊢
  exact this
theorem V1 {x : Nat → Int} {n : Nat} (hn : n ≤ 4) {U : Int} (hU : 0 ≤ U) (h : Qk x x n ≤ U * U) : Jx x n ≤ 2 * U := by
 have h1 := qeU x hn
 have h2 : Jx x n * Jx x n < (2 * U + 1) * (2 * U + 1) := by
  have e : (2 * U + 1) * (2 * U + 1) = 4 * (U * U) + 4 * U + 1 := by grind
  omega
 have := Wr (qcR x n) (show 0 ≤ 2 * U + 1 by omega) h2
 omega
theorem qbt {x : Nat → Int} {U : Int} (hU : 0 ≤ U) : ∀ {n : Nat}, Qk x x n ≤ U * U → ∀ i, i < n → -U ≤ x i ∧ x i ≤ U
 | 0, _, i, hi => absurd hi (Nat.not_lt_zero _)
 | n + 1, h, i, hi => by
  rw [Qk] at h
  have h0 := Wo x n
  have hs := JH (x n)
  by_cases e : i = n
  ·subst e
   have hq : x i * x i < (U + 1) * (U + 1) := by
    have : (U + 1) * (U + 1) = U * U + 2 * U + 1 := by grind
    omega
   rw [← qdw] at hq
   have := Wr (by split <;> omega) (show 0 ≤ U + 1 by omega) hq
   split at this <;> omega
  ·have h3 : Qk x x n ≤ U * U := by omega
   exact qbt hU h3 i (by omega)
end Go.Proofs.YtglcmhldonkfdaaGreatDoor
set_option maxRecDepth 10000
set_option linter.unusedVariables false
set_option linter.unusedSimpArgs false
namespace Go.Proofs.YtglcmhldonkfdaaGreatDoor
open Go
def Vg (w u : Nat → Int) : Nat → Int
 | 0 => 0
 | n + 1 => Vg w u n + w n * u n / 65536
theorem qaV (w u : Nat → Int) : ∀ n : Nat, 65536 * Vg w u n ≤ Qk w u n ∧ Qk w u n ≤ 65536 * Vg w u n + n * 65535
 | 0 => by simp [Vg, Qk]
 | n + 1 => by
  have h := qaV w u n
  rw [Vg, Qk]
  generalize w n * u n = z at *
  omega
def Vl (N : Nat) (w u : Nat → Int) (k : Nat) : Int := w k - Vg w u N * u k / 65536
theorem qbz (N : Nat) (w u : Nat → Int) (k : Nat) : ∃ r, 65536 * Vl N w u k = 65536 * w k - Vg w u N * u k + r ∧ 0 ≤ r ∧ r ≤ 65535 := by
 unfold Vl
 generalize Vg w u N * u k = z
 exact ⟨z % 65536, by omega, by omega, by omega⟩
structure JT (N j : Nat) (b : Int) (u : Nat → Nat → Int) : Prop where
 n4 : N ≤ 4
 up : ∀ t, t < j → Qk (u t) (u t) N ≤ 65554 * 65554
 low : ∀ t, t < j → 4294967296 - 37 * 65536 ≤ Qk (u t) (u t) N
 pair : ∀ s, s < j → ∀ t, t < j → s ≠ t → -(b * 65536) ≤ Qk (u s) (u t) N ∧ Qk (u s) (u t) N ≤ b * 65536
 b0 : 0 ≤ b
theorem JT.abs {N j : Nat} {b : Int} {u : Nat → Nat → Int} (C : JT N j b u) {t : Nat} (h : t < j) : Jx (u t) N ≤ 131108 := V1 C.n4 (by omega) (C.up t h)
theorem JT.comp {N j : Nat} {b : Int} {u : Nat → Nat → Int} (C : JT N j b u) {t : Nat} (h : t < j) {k : Nat} (hk : k < N) : -65554 ≤ u t k ∧ u t k ≤ 65554 := qbt (by omega) (C.up t h) k hk
theorem qdl {r x : Nat → Int} {N : Nat} {m : Int} (hm : 0 ≤ m) (hr : ∀ k, k < N → 0 ≤ r k ∧ r k ≤ m) {A : Int} (hx : Jx x N ≤ A) : -(m * A) ≤ Qk r x N ∧ Qk r x N ≤ m * A := by
 have h := WO hm (x := x) (r := r) (n := N) (fun i hi => ⟨by have := hr i hi; omega, (hr i hi).2⟩)
 have h2 := Int.mul_le_mul_of_nonneg_left hx hm
 omega
def cb (X : Nat → Int) (t : Nat) : Int := X t / 65536 + 5
def nxt (b : Int) (X : Nat → Int) (t i : Nat) : Int := if i = t then 4 * 65536 + 37 * cb X t + 131108 else X i + cb X t * b + 131108
theorem qa2 {N j : Nat} {b : Int} {u : Nat → Nat → Int} (C : JT N j b u) {X : Nat → Int} {w : Nat → Int} {t : Nat} (ht : t < j) (hX : -(X t) ≤ Qk w (u t) N ∧ Qk w (u t) N ≤ X t) : -(cb X t) ≤ Vg w (u t) N ∧ Vg w (u t) N ≤ cb X t := by
 have h := qaV w (u t) N
 have := C.n4
 unfold cb
 omega
theorem qc0 {N j : Nat} {b : Int} {u : Nat → Nat → Int} (C : JT N j b u) {X : Nat → Int} {w : Nat → Int} {t : Nat} (ht : t < j) (hX : ∀ i, i < j → -(X i) ≤ Qk w (u i) N ∧ Qk w (u i) N ≤ X i) :
  ∀ i, i < j → -(nxt b X t i) ≤ Qk (Vl N w (u t)) (u i) N ∧ Qk (Vl N w (u t)) (u i) N ≤ nxt b X t i := fun i hi => by
 have hc := qa2 C ht (hX t ht)
 have hcb : 0 ≤ cb X t := by omega
 obtain ⟨r, hr⟩ : ∃ r : Nat → Int, ∀ k, 65536 * Vl N w (u t) k = 65536 * w k - Vg w (u t) N * u t k + r k ∧ 0 ≤ r k ∧ r k ≤ 65535 :=
  ⟨fun k => (qbz N w (u t) k).choose, fun k => (qbz N w (u t) k).choose_spec⟩
 have hlin := Vf (x := u i) (n := N) (fun k _ => (hr k).1)
 have hrd := qdl (m := 65535) (by omega) (fun k _ => (hr k).2) (C.abs hi)
 have hD := hX i hi
 unfold nxt
 generalize hcc : Vg w (u t) N = c at *
 by_cases e : i = t
 ·subst e
  rw [if_pos rfl]
  have hb := qaV w (u i) N
  rw [hcc] at hb
  have h4 := C.n4
  have hup := C.up i hi
  have hlo := C.low i hi
  generalize Qk (u i) (u i) N = q at *
  have hq := YC (x := c) (y := q - 4294967296) (A := cb X i) (B := 37 * 65536) hc (by omega)
  rw [Int.mul_sub] at hq
  have e2 : cb X i * (37 * 65536) = (37 * cb X i) * 65536 := by grind
  generalize c * q = z at *
  generalize Qk w (u i) N = D at *
  generalize Qk (Vl N w (u i)) (u i) N = D' at *
  generalize Qk r (u i) N = R at *
  omega
 ·rw [if_neg e]
  have hp := C.pair t ht i hi (fun h => e h.symm)
  have hq := YC hc hp
  have e2 : cb X t * (b * 65536) = (cb X t * b) * 65536 := by grind
  rw [e2] at hq
  generalize c * Qk (u t) (u i) N = z at *
  generalize cb X t * b = p at *
  generalize Qk w (u i) N = D at *
  generalize Qk (Vl N w (u t)) (u i) N = D' at *
  generalize Qk r (u i) N = R at *
  omega
theorem qfu {N j : Nat} {b : Int} {u : Nat → Nat → Int} (C : JT N j b u) {X : Nat → Int} {w : Nat → Int} {W : Int} {t : Nat} (ht : t < j) (hX : -(X t) ≤ Qk w (u t) N ∧ Qk w (u t) N ≤ X t) (hW : ∀ k, k < N → -W ≤ w k ∧ w k ≤ W) :
  ∀ k, k < N → -(W + (cb X t * 65554) / 65536 + 2) ≤ Vl N w (u t) k ∧ Vl N w (u t) k ≤ W + (cb X t * 65554) / 65536 + 2 := fun k hk => by
 have hc := qa2 C ht hX
 obtain ⟨r, h1, h2, h3⟩ := qbz N w (u t) k
 have hp := YC hc (C.comp ht hk)
 have hw := hW k hk
 generalize Vg w (u t) N * u t k = z at *
 omega
end Go.Proofs.YtglcmhldonkfdaaGreatDoor
set_option maxRecDepth 10000
set_option linter.unusedVariables false
set_option linter.unusedSimpArgs false
namespace Go.Proofs.YtglcmhldonkfdaaGreatDoor
open Go
structure Bd where
 X : Nat → Int
 W : Int
 C : Nat → Int
def bst (b : Int) (s : Bd) (t : Nat) : Bd := ⟨nxt b s.X t, s.W + (cb s.X t * 65554) / 65536 + 2, fun i => if i = t then s.C i + cb s.X t else s.C i⟩
def qav (b : Int) : List Nat → Bd → Bd
 | [], s => s
 | t :: r, s => qav b r (bst b s t)
def ZR (N : Nat) (u : Nat → Nat → Int) : List Nat → (Nat → Int) → (Nat → Int)
 | [], w => w
 | t :: r, w => ZR N u r (Vl N w (u t))
theorem qac (a x : Nat → Int) (c : Int) (t : Nat) : ∀ {n : Nat}, t < n → Qk (fun i => if i = t then a i + c else a i) x n = Qk a x n + c * x t
 | 0, h => absurd h (Nat.not_lt_zero _)
 | n + 1, h => by
  rw [Qk, Qk]
  by_cases e : t = n
  ·subst e
   rw [if_pos rfl, Z0 (c := a) (d := x) (fun i hi => if_neg (by omega)) (fun _ _ => rfl), Int.add_mul]
   omega
  ·rw [if_neg (by omega), qac a x c t (by omega)]
   omega
structure Hd (N j : Nat) (u : Nat → Nat → Int) (w0 : Nat → Int) (s : Bd) (w : Nat → Int) (n : Nat) : Prop where
 dots : ∀ i, i < j → -(s.X i) ≤ Qk w (u i) N ∧ Qk w (u i) N ≤ s.X i
 comp : ∀ k, k < N → -s.W ≤ w k ∧ w k ≤ s.W
 coef : ∃ C R : Nat → Int, (∀ t, t < j → -(s.C t) ≤ C t ∧ C t ≤ s.C t) ∧ (∀ k, k < N → 0 ≤ R k ∧ R k ≤ n * 65535) ∧ ∀ k, k < N → 65536 * w k = 65536 * w0 k - Qk C (fun t => u t k) j + R k
theorem Hd.step {N j : Nat} {b : Int} {u : Nat → Nat → Int} (C : JT N j b u) {w0 w : Nat → Int} {s : Bd} {n : Nat} (H : Hd N j u w0 s w n) {t : Nat} (ht : t < j) : Hd N j u w0 (bst b s t) (Vl N w (u t)) (n + 1) where
 dots := qc0 C ht H.dots
 comp := qfu C ht (H.dots t ht) H.comp
 coef := by
  obtain ⟨K, R, h1, h2, h3⟩ := H.coef
  have hc := qa2 C ht (H.dots t ht)
  obtain ⟨r, hr⟩ : ∃ r : Nat → Int, ∀ k, 65536 * Vl N w (u t) k = 65536 * w k - Vg w (u t) N * u t k + r k ∧ 0 ≤ r k ∧ r k ≤ 65535 :=
   ⟨fun k => (qbz N w (u t) k).choose, fun k => (qbz N w (u t) k).choose_spec⟩
  refine ⟨fun i => if i = t then K i + Vg w (u t) N else K i, fun k => R k + r k, fun i hi => ?_, fun k hk => ?_, fun k hk => ?_⟩
  ·show -(if i = t then s.C i + cb s.X t else s.C i) ≤ (if i = t then K i + Vg w (u t) N else K i) ∧ (if i = t then K i + Vg w (u t) N else K i) ≤ (if i = t then s.C i + cb s.X t else s.C i)
   have := h1 i hi
   by_cases e : i = t
   ·rw [if_pos e, if_pos e]; omega
   ·rw [if_neg e, if_neg e]; exact this
  ·have := h2 k hk
   have := hr k
   have e : ((n + 1 : Nat) : Int) * 65535 = n * 65535 + 65535 := by omega
   show 0 ≤ R k + r k ∧ R k + r k ≤ ((n + 1 : Nat) : Int) * 65535
   omega
  ·rw [qac K (fun t => u t k) _ t ht]
   have := (hr k).1
   have := h3 k hk
   show 65536 * Vl N w (u t) k = 65536 * w0 k - (Qk K (fun t => u t k) j + Vg w (u t) N * u t k) + (R k + r k)
   omega
theorem Hd.run {N j : Nat} {b : Int} {u : Nat → Nat → Int} (C : JT N j b u) {w0 : Nat → Int} : ∀ (ts : List Nat) {w : Nat → Int} {s : Bd} {n : Nat}, (∀ t ∈ ts, t < j) → Hd N j u w0 s w n → Hd N j u w0 (qav b ts s) (ZR N u ts w) (n + ts.length)
 | [], w, s, n, _, H => H
 | t :: r, w, s, n, h, H => by
  have := Hd.run C r (fun t ht => h t (List.mem_cons_of_mem _ ht)) (H.step C (h t (List.mem_cons_self ..)))
  rw [show n + (t :: r).length = n + 1 + r.length by rw [List.length_cons]; omega]
  exact this
theorem JL (x : Nat → Int) : ∀ n, Qk (fun _ => 0) x n = 0
 | 0 => rfl
 | n + 1 => by rw [Qk, JL x n, Int.zero_mul]; rfl
theorem Hd.start {N j : Nat} {u : Nat → Nat → Int} {w : Nat → Int} {X : Nat → Int} {W : Int} (hX : ∀ i, i < j → -(X i) ≤ Qk w (u i) N ∧ Qk w (u i) N ≤ X i) (hW : ∀ k, k < N → -W ≤ w k ∧ w k ≤ W) : Hd N j u w ⟨X, W, fun _ => 0⟩ w 0 where
 dots := hX
 comp := hW
 coef := ⟨fun _ => 0, fun _ => 0, fun _ _ => by simp, fun _ _ => by simp, fun k _ => by rw [JL]; show 65536 * w k = 65536 * w k - 0 + 0; omega⟩
def JP (j : Nat) : List Nat := List.range j ++ List.range j ++ List.range j
def ZW (N j : Nat) (u : Nat → Nat → Int) (w : Nat → Int) : Nat → Int := ZR N u (JP j) w
theorem qbc {j t : Nat} (h : t ∈ JP j) : t < j := by
 unfold JP at h
 simp only [List.mem_append, List.mem_range] at h
 omega
theorem Vu (j : Nat) : (JP j).length = 3 * j := by unfold JP; simp; omega
theorem qdQ {N j : Nat} {b : Int} {u : Nat → Nat → Int} (C : JT N j b u) {w : Nat → Int} {X : Nat → Int} {W : Int} (hX : ∀ i, i < j → -(X i) ≤ Qk w (u i) N ∧ Qk w (u i) N ≤ X i) (hW : ∀ k, k < N → -W ≤ w k ∧ w k ≤ W) :
  Hd N j u w (qav b (JP j) ⟨X, W, fun _ => 0⟩) (ZW N j u w) (3 * j) := by
 have := Hd.run C (JP j) (fun t h => qbc h) (Hd.start hX hW)
 rw [Vu, Nat.zero_add] at this
 exact this
def bOf : Nat → Int
 | 0 => 0
 | 1 => 0
 | 2 => 99
 | 3 => 133
 | _ => 172
def X0 : Nat → Int := fun _ => 33554432 * 65554
def bdM (j : Nat) : Bd := qav (bOf j) (JP j) ⟨X0, 16777216, fun _ => 0⟩
theorem qf2 : ∀ j, j < 4 → ∀ i, i < j → 16 * (bdM j).X i + 131108 ≤ bOf (j + 1) * 65536 ∧ (bdM j).X i ≤ 700000 := by decide +kernel
theorem qbC : ∀ j, j < 4 → 0 ≤ bOf j ∧ bOf j ≤ bOf (j + 1) ∧ bOf (j + 1) ≤ 172 := by decide
end Go.Proofs.YtglcmhldonkfdaaGreatDoor
set_option maxRecDepth 10000
set_option linter.unusedVariables false
set_option linter.unusedSimpArgs false
namespace Go.Proofs.YtglcmhldonkfdaaGreatDoor
open Go
theorem Jn {v w r x : Nat → Int} {L s : Int} : ∀ {n : Nat}, (∀ i, i < n → L * v i = s * w i - r i) → L * Qk v x n = s * Qk w x n - Qk r x n
 | 0, _ => by simp [Qk]
 | n + 1, h => by
  have h1 := Jn (x := x) (fun i hi => h i (Nat.lt_succ_of_lt hi))
  have h2 := h n (Nat.lt_succ_self n)
  rw [Qk, Qk, Qk]
  have e : L * (v n * x n) = (L * v n) * x n := by rw [Int.mul_assoc]
  rw [Int.mul_add, h1, e, h2]
  grind
def JU (w : Nat → Int) (L : Int) (k : Nat) : Int := w k * 65536 / L
theorem qdG (w : Nat → Int) {L : Int} (hL : 0 < L) (k : Nat) : ∃ r, L * JU w L k = 65536 * w k - r ∧ 0 ≤ r ∧ r ≤ L := by
 unfold JU
 refine ⟨w k * 65536 % L, ?_, Int.emod_nonneg _ (by omega), Int.le_of_lt (Int.emod_lt_of_pos _ hL)⟩
 have := Int.mul_ediv_add_emod (w k * 65536) L
 rw [Int.mul_comm 65536 (w k)]
 omega
theorem qb4 (w : Nat → Int) {L : Int} (hL : 0 < L) : ∃ r : Nat → Int, ∀ k, L * JU w L k = 65536 * w k - r k ∧ 0 ≤ r k ∧ r k ≤ L :=
 ⟨fun k => (qdG w hL k).choose, fun k => (qdG w hL k).choose_spec⟩
theorem qeN {N : Nat} {w x : Nat → Int} {L d : Int} (hL : 4096 ≤ L) (hd : -d ≤ Qk w x N ∧ Qk w x N ≤ d) (hx : Jx x N ≤ 131108) : -(16 * d + 131108) ≤ Qk (JU w L) x N ∧ Qk (JU w L) x N ≤ 16 * d + 131108 := by
 obtain ⟨r, hr⟩ := qb4 w (show 0 < L by omega)
 have h1 := Jn (x := x) (n := N) (fun k _ => (hr k).1)
 have h2 := qdl (m := L) (by omega) (fun k (_ : k < N) => (hr k).2) hx
 have h3 : 65536 * d ≤ L * (16 * d) := by
  have := Int.mul_le_mul_of_nonneg_right (show 65536 ≤ L * 16 by omega) (show 0 ≤ d by omega)
  grind
 generalize Qk (JU w L) x N = V at *
 generalize Qk r x N = R at *
 generalize Qk w x N = D at *
 have h4 : L * (16 * d + 131108) = L * (16 * d) + L * 131108 := Int.mul_add ..
 constructor
 ·refine Int.le_of_mul_le_mul_left (a := L) ?_ (by omega)
  rw [Int.mul_neg]
  omega
 ·refine Int.le_of_mul_le_mul_left (a := L) ?_ (by omega)
  omega
theorem qdR {N : Nat} (hN : N ≤ 4) {w : Nat → Int} {L : Int} (hL : 4096 ≤ L) (h1 : L * L ≤ Qk w w N) (h2 : Qk w w N ≤ (L + 1) * (L + 1)) : 4294967296 - 37 * 65536 ≤ Qk (JU w L) (JU w L) N ∧ Qk (JU w L) (JU w L) N ≤ 65554 * 65554 := by
 obtain ⟨r, hr⟩ := qb4 w (show 0 < L by omega)
 have hw := V1 hN (show 0 ≤ L + 1 by omega) h2
 have e1 := Jn (x := JU w L) (n := N) (fun k _ => (hr k).1)
 have e2 := Jn (x := w) (n := N) (fun k _ => (hr k).1)
 have e3 := Jn (x := r) (n := N) (fun k _ => (hr k).1)
 have hrw := qdl (m := L) (by omega) (fun k (_ : k < N) => (hr k).2) hw
 have hrr := Zy (a := r) (b := r) (A := L) (B := L) (by omega) (by omega) (n := N) (fun k _ => ⟨by have := (hr k).2; omega, (hr k).2.2⟩) (fun k _ => ⟨by have := (hr k).2; omega, (hr k).2.2⟩)
 have hr0 := Wo r N
 rw [Ze w (JU w L), Ze r (JU w L)] at e1
 rw [Ze w r] at e3
 have hN4 : (N : Int) * (L * L) ≤ 4 * (L * L) := Int.mul_le_mul_of_nonneg_right (by omega) (Int.mul_nonneg (by omega) (by omega))
 have ep : (L + 1) * (L + 1) = L * L + 2 * L + 1 := by grind
 have eq2 : L * (2 * (L + 1)) = 2 * (L * L) + 2 * L := by grind
 have hP : 4096 * L ≤ L * L := Int.mul_le_mul_of_nonneg_right hL (by omega)
 generalize Qk (JU w L) (JU w L) N = V at *
 generalize Qk (JU w L) w N = A at *
 generalize Qk (JU w L) r N = B at *
 generalize Qk r w N = C at *
 generalize Qk r r N = D at *
 generalize Qk w w N = Q at *
 have key : L * L * V = 4294967296 * Q - 131072 * C + D := by
  have : L * (L * V) = 65536 * (L * A) - L * B := by rw [e1]; grind
  rw [e2, e3] at this
  rw [Int.mul_assoc, this]
  omega
 generalize hLP : L * L = P at *
 constructor
 ·refine Int.not_lt.1 fun h => ?_
  have := Int.mul_le_mul_of_nonneg_left (show V ≤ 4294967296 - 37 * 65536 - 1 by omega) (show 0 ≤ P by omega)
  omega
 ·refine Int.not_lt.1 fun h => ?_
  have := Int.mul_le_mul_of_nonneg_left (show 65554 * 65554 + 1 ≤ V by omega) (show 0 ≤ P by omega)
  omega
end Go.Proofs.YtglcmhldonkfdaaGreatDoor
set_option maxRecDepth 10000
set_option linter.unusedVariables false
set_option linter.unusedSimpArgs false
namespace Go.Proofs.YtglcmhldonkfdaaGreatDoor
open Go
theorem VT (a b x : Nat → Int) : ∀ n, Qk (fun k => a k + b k) x n = Qk a x n + Qk b x n
 | 0 => rfl
 | n + 1 => by rw [Qk, Qk, Qk, VT a b x n]; grind
theorem qaz (c : Int) (a x : Nat → Int) : ∀ n, Qk (fun k => c * a k) x n = c * Qk a x n
 | 0 => by simp [Qk]
 | n + 1 => by rw [Qk, Qk, qaz c a x n]; grind
theorem V2 (C : Nat → Int) (u : Nat → Nat → Int) (x : Nat → Int) (N : Nat) : ∀ j, Qk (fun k => Qk C (fun t => u t k) j) x N = Qk C (fun t => Qk (u t) x N) j
 | 0 => by
  show Qk (fun _ => 0) x N = 0
  exact JL x N
 | j + 1 => by
  rw [Qk, ← V2 C u x N j, ← qaz, ← VT]
  rfl
def J3 (i k : Nat) : Int := if k = i then 65536 else 0
theorem WL (i : Nat) (x : Nat → Int) : ∀ {n : Nat}, i < n → Qk (J3 i) x n = 65536 * x i
 | 0, h => absurd h (Nat.not_lt_zero _)
 | n + 1, h => by
  rw [Qk]
  by_cases e : i = n
  ·subst e
   rw [Z0 (c := fun _ => 0) (d := x) (fun k hk => by unfold J3; rw [if_neg (by omega)]) (fun _ _ => rfl), JL, J3, if_pos rfl]
   omega
  ·rw [WL i x (by omega), J3, if_neg (by omega)]
   omega
theorem qcH (u : Nat → Nat → Int) (N : Nat) : ∀ j, (∀ t, t < j → Qk (u t) (u t) N ≤ 65554 * 65554) → Qk (fun k => Qk (fun t => u t k) (fun t => u t k) j) (fun _ => 1) N ≤ j * (65554 * 65554)
 | 0, _ => by
  have : Qk (fun k => Qk (fun t => u t k) (fun t => u t k) 0) (fun _ => 1) N = 0 := JL _ N
  omega
 | j + 1, h => by
  have h1 := qcH u N j (fun t ht => h t (by omega))
  have h2 := h j (by omega)
  have e : Qk (fun k => Qk (fun t => u t k) (fun t => u t k) (j + 1)) (fun _ => 1) N = Qk (fun k => Qk (fun t => u t k) (fun t => u t k) j) (fun _ => 1) N + Qk (u j) (u j) N := by
   have e2 : Qk (u j) (u j) N = Qk (fun k => u j k * u j k) (fun _ => 1) N := by
    clear h h1 h2
    induction N with
    | zero => rfl
    | succ n ih => rw [Qk, Qk, ih]; omega
   rw [e2, ← VT]
   rfl
  rw [e]
  omega
theorem qce (u : Nat → Nat → Int) {N j : Nat} (hj : j < N) (hN : N ≤ 4) (h : ∀ t, t < j → Qk (u t) (u t) N ≤ 65554 * 65554) : ∃ i, i < N ∧ 4 * Qk (fun t => u t i) (fun t => u t i) j ≤ 3 * (65554 * 65554) := by
 refine Classical.byContradiction fun hx => ?_
 have hall : ∀ i, i < N → 3 * (65554 * 65554) < 4 * Qk (fun t => u t i) (fun t => u t i) j := fun i hi => Int.not_le.1 fun h => hx ⟨i, hi, h⟩
 have hs := qcH u N j h
 have hl : ∀ n, n ≤ N → n * (3 * (65554 * 65554)) + n ≤ 4 * Qk (fun k => Qk (fun t => u t k) (fun t => u t k) j) (fun _ => 1) n := by
  intro n
  induction n with
  | zero => intro _; simp [Qk]
  | succ n ih =>
   intro hn
   have h1 := ih (by omega)
   have h2 := hall n (by omega)
   rw [Qk]
   omega
 have := hl N (Nat.le_refl _)
 omega
def bdU (j : Nat) : Bd := qav (bOf j) (JP j) ⟨fun _ => 65536 * 65554, 65536, fun _ => 0⟩
theorem qf1 : ∀ j, j < 4 → (bdU j).W ≤ 300000 ∧ ∀ i, i < j → (bdU j).X i ≤ 700000 ∧ (bdU j).C i ≤ 67500 := by decide +kernel
theorem qfD {N j : Nat} {u : Nat → Nat → Int} (C : JT N j (bOf j) u) {i : Nat} (hi : i < N) : Hd N j u (J3 i) (bdU j) (ZW N j u (J3 i)) (3 * j) := by
 refine qdQ C (fun t ht => ?_) (fun k hk => ?_)
 ·rw [WL i _ hi]
  have := C.comp ht hi
  show -(65536 * 65554 : Int) ≤ _ ∧ _ ≤ (65536 * 65554 : Int)
  omega
 ·show -(65536 : Int) ≤ J3 i k ∧ J3 i k ≤ (65536 : Int)
  unfold J3; split <;> omega
theorem qcZ {N j : Nat} {u : Nat → Nat → Int} (C : JT N j (bOf j) u) (hj : j < N) : ∃ i, i < N ∧ 16384 * 16384 ≤ Qk (ZW N j u (J3 i)) (ZW N j u (J3 i)) N := by
 obtain ⟨i, hi, hs⟩ := qce u hj C.n4 C.up
 refine ⟨i, hi, ?_⟩
 have H := qfD C hi
 have hb := qf1 j (by have := C.n4; omega)
 have hbo := qbC j (by have := C.n4; omega)
 have hj3 : j ≤ 3 := by have := C.n4; omega
 have hN4 := C.n4
 obtain ⟨K, R, hK, hR, hE⟩ := H.coef
 generalize ZW N j u (J3 i) = w at *
 -- the coefficients are qfw the components
 have hKb : ∀ t, t < j → -67500 ≤ K t ∧ K t ≤ 67500 := fun t ht => by have := hK t ht; have := (hb.2 t ht).2; omega
 have hRb : ∀ k, k < N → 0 ≤ R k ∧ R k ≤ 589815 := fun k hk => by
  have := hR k hk
  have : ((3 * j : Nat) : Int) * 65535 ≤ 589815 := by omega
  omega
 have hE' : ∀ k, k < N → 65536 * w k = 65536 * J3 i k - 1 * Qk K (fun t => u t k) j + R k := fun k hk => by have := hE k hk; omega
 have qfw : ∀ s, s < j → -560 ≤ K s - u s i ∧ K s - u s i ≤ 560 := fun s hsj => by
  have h1 := Vf (x := u s) (n := N) hE'
  rw [V2, WL i _ hi] at h1
  have h2 := qdl (m := 589815) (by omega) hRb (C.abs hsj)
  have h3 := H.dots s hsj
  have h4 := (hb.2 s hsj).1
  have h5 : Qk K (fun t => Qk (u t) (u s) N) j = Qk K (fun t => if t = s then Qk (u t) (u s) N - 4294967296 else Qk (u t) (u s) N) j + 4294967296 * K s := by
   rw [Ze K, Ze K]
   have := qac (fun t => if t = s then Qk (u t) (u s) N - 4294967296 else Qk (u t) (u s) N) K 4294967296 s hsj
   rw [← this]
   refine Z0 (fun t ht => ?_) (fun _ _ => rfl)
   by_cases e : t = s
   ·rw [if_pos e, if_pos e]; omega
   ·rw [if_neg e, if_neg e]
  have h6 := Zy (a := K) (b := fun t => if t = s then Qk (u t) (u s) N - 4294967296 else Qk (u t) (u s) N) (A := 67500) (B := 172 * 65536) (by omega) (by omega) (n := j) hKb (fun t ht => by
   show -(172 * 65536) ≤ (if t = s then Qk (u t) (u s) N - 4294967296 else Qk (u t) (u s) N) ∧ (if t = s then Qk (u t) (u s) N - 4294967296 else Qk (u t) (u s) N) ≤ 172 * 65536
   by_cases e : t = s
   ·rw [if_pos e, e]
    have := C.up s hsj
    have := C.low s hsj
    omega
   ·rw [if_neg e]
    have := C.pair t ht s hsj e
    omega)
  have h7 : (j : Int) * (67500 * (172 * 65536)) ≤ 3 * (67500 * (172 * 65536)) := by omega
  rw [h5] at h1
  generalize Qk K (fun t => if t = s then Qk (u t) (u s) N - 4294967296 else Qk (u t) (u s) N) j = g at *
  generalize Qk w (u s) N = D at *
  generalize Qk R (u s) N = r at *
  omega
 -- the component itself
 have hc : 14600 ≤ w i := by
  have h1 := hE i hi
  rw [J3, if_pos rfl] at h1
  have h2 : Qk K (fun t => u t i) j = Qk (fun t => K t - u t i) (fun t => u t i) j + Qk (fun t => u t i) (fun t => u t i) j := by
   rw [← VT]
   exact Z0 (fun t _ => by omega) (fun _ _ => rfl)
  have h3 := Zy (a := fun t => K t - u t i) (b := fun t => u t i) (A := 560) (B := 65554) (by omega) (by omega) (n := j) qfw (fun t ht => C.comp ht hi)
  have h4 : (j : Int) * (560 * 65554) ≤ 3 * (560 * 65554) := by omega
  have := hRb i hi
  omega
 -- the length
 have h1 := Vf (x := w) (n := N) hE'
 rw [V2, WL i _ hi] at h1
 have h2 := Zy (a := K) (b := fun t => Qk (u t) w N) (A := 67500) (B := 700000) (by omega) (by omega) (n := j) hKb (fun t ht => by
  show -700000 ≤ Qk (u t) w N ∧ Qk (u t) w N ≤ 700000
  rw [Ze]
  have := H.dots t ht
  have := (hb.2 t ht).1
  omega)
 have h3 := Zy (a := R) (b := w) (A := 589815) (B := 300000) (by omega) (by omega) (n := N) (fun k hk => by have := hRb k hk; omega) (fun k hk => by have := H.comp k hk; have := hb.1; omega)
 have h4 : (j : Int) * (67500 * 700000) ≤ 3 * (67500 * 700000) := by omega
 have h5 : (N : Int) * (589815 * 300000) ≤ 4 * (589815 * 300000) := by omega
 omega
end Go.Proofs.YtglcmhldonkfdaaGreatDoor
set_option maxRecDepth 10000
set_option linter.unusedVariables false
set_option linter.unusedSimpArgs false
namespace Go.Proofs.YtglcmhldonkfdaaGreatDoor
open Go
def cut (N : Nat) (f : Nat → Int) (k : Nat) : Int := if k < N then f k else 0
def v6 (N : Nat) (f : Nat → Int) : qG := ⟨cut N f 0, cut N f 1, cut N f 2, cut N f 3, cut N f 4, cut N f 5⟩
theorem YX {N k : Nat} {f : Nat → Int} (h : k < N) : cut N f k = f k := if_pos h
theorem qaZ {N k : Nat} {f : Nat → Int} (h : N ≤ k) : cut N f k = 0 := if_neg (by omega)
theorem Vm {N k : Nat} {f g : Nat → Int} (h : k < N → f k = g k) : cut N f k = cut N g k := by
 unfold cut; split
 ·exact h (by assumption)
 ·rfl
theorem Wi {i N : Nat} (h : i < N) (hN : N ≤ 4) : i = 0 ∨ i = 1 ∨ i = 2 ∨ i = 3 := by omega
theorem qfj {N K : Nat} (hN : N ≤ 4) (hK : N < K) (w u : Nat → Int) (hw : ∀ k, k < N → -118000000 ≤ w k ∧ w k ≤ 118000000) (hu : ∀ k, k < N → -65554 ≤ u k ∧ u k ≤ 65554) (cols : List qG) (a1 : qG) (t11 : List qG) (x18 : Int) :
  qu.l80 K ⟨(N : Int), cols⟩ a1 t11 (cut N w 0) (cut N w 1) (cut N w 2) (cut N w 3) (cut N w 4) (cut N w 5) x18 (v6 N u) K 0 0 = some (Vg w u N) := by
 have bd : ∀ n, n ≤ N → -500000000 ≤ Vg w u n ∧ Vg w u n ≤ 500000000 := fun n hn => by
  have h1 := qaV w u n
  have h2 := Zy (a := w) (b := u) (A := 118000000) (B := 65554) (by omega) (by omega) (n := n) (fun k hk => hw k (by omega)) (fun k hk => hu k (by omega))
  omega
 refine YJ (fun m s x => qu.l80 K ⟨(N : Int), cols⟩ a1 t11 (cut N w 0) (cut N w 1) (cut N w 2) (cut N w 3) (cut N w 4) (cut N w 5) x18 (v6 N u) m s x) N (fun i => Vg w u i) _ rfl (fun m i hi => ?_) (fun m => ?_) hK
 ·show qu.l80 _ _ _ _ _ _ _ _ _ _ _ _ (m + 1) _ _ = _
  have hm : Qa (w i) (u i) = some (w i * u i / 65536, YU (w i * u i) 65536) := Wj (by have := hw i hi; unfold VC; omega) (by have := hu i hi; unfold VC; omega)
  have b1 := bd i (by omega)
  have b2 := bd (i + 1) (by omega)
  rw [Vg] at b2
  rw [qu.l80, if_pos (ZE hi)]
  rcases Wi hi hN with rfl | rfl | rfl | rfl
  ·rw [if_pos (by decide), show (v6 N u).e0 = cut N u 0 from rfl, YX hi, YX hi, hm, Option.bind_some, Zo (by omega) (by omega)]; rfl
  ·rw [if_neg (by decide), if_pos (by decide), show (v6 N u).e1 = cut N u 1 from rfl, YX hi, YX hi, hm, Option.bind_some, Zo (by omega) (by omega)]; rfl
  ·rw [if_neg (by decide), if_neg (by decide), if_pos (by decide), show (v6 N u).e2 = cut N u 2 from rfl, YX hi, YX hi, hm, Option.bind_some, Zo (by omega) (by omega)]; rfl
  ·rw [if_neg (by decide), if_neg (by decide), if_neg (by decide), if_pos (by decide), show (v6 N u).e3 = cut N u 3 from rfl, YX hi, YX hi, hm, Option.bind_some, Zo (by omega) (by omega)]; rfl
 ·show qu.l80 _ _ _ _ _ _ _ _ _ _ _ _ (m + 1) _ _ = _
  rw [qu.l80, if_neg (by rw [ZJ]; simp)]
def t6 (f : Nat → Int) : Int × Int × Int × Int × Int × Int := (f 0, f 1, f 2, f 3, f 4, f 5)
theorem qfl {N K : Nat} (hN : N ≤ 4) (hK : N < K) (w u : Nat → Int) {c : Int} (hcc : c = Vg w u N) (hc : -500000000 ≤ c ∧ c ≤ 500000000) (hw : ∀ k, k < N → -118000000 ≤ w k ∧ w k ≤ 118000000) (hu : ∀ k, k < N → -65554 ≤ u k ∧ u k ≤ 65554) (cols : List qG) (a1 : qG) (t11 : List qG) (x1 x2 x3 x4 x5 x6 x18 : Int) :
  qu.l43 K ⟨(N : Int), cols⟩ a1 t11 x1 x2 x3 x4 x5 x6 x18 (v6 N u) c K (cut N w 0) (cut N w 1) (cut N w 2) (cut N w 3) (cut N w 4) (cut N w 5) 0 = some (t6 (cut N (Vl N w u))) := by
 have L := YJ (fun m (s : Nat → Int) x => qu.l43 K ⟨(N : Int), cols⟩ a1 t11 x1 x2 x3 x4 x5 x6 x18 (v6 N u) c m (s 0) (s 1) (s 2) (s 3) (s 4) (s 5) x) N (fun i k => cut N (fun k => if k < i then Vl N w u k else w k) k) (t6 (cut N (Vl N w u))) (s := cut N w) (funext fun k => Vm fun _ => (if_neg (Nat.not_lt_zero k)).symm) (fun m i hi => ?_) (fun m => ?_) hK
 ·exact L
 ·show qu.l43 _ _ _ _ _ _ _ _ _ _ _ _ _ (m + 1) _ _ _ _ _ _ _ = _
  have hm : Qa c (u i) = some (c * u i / 65536, YU (c * u i) 65536) := Wj (by unfold VC; omega) (by have := hu i hi; unfold VC; omega)
  have hp := YC hc (hu i hi)
  have hwi := hw i hi
  have hst : qe (w i - c * u i / 65536) = Vl N w u i := by
   rw [Vl, ← hcc, Zo (by omega) (by omega)]
  have same : ∀ k, k ≠ i → cut N (fun k => if k < i + 1 then Vl N w u k else w k) k = cut N (fun k => if k < i then Vl N w u k else w k) k := fun k hk => Vm fun _ => by
   show (if k < i + 1 then Vl N w u k else w k) = if k < i then Vl N w u k else w k
   by_cases h : k < i
   ·rw [if_pos h, if_pos (show k < i + 1 by omega)]
   ·rw [if_neg h, if_neg (show ¬ k < i + 1 by omega)]
  have new : cut N (fun k => if k < i + 1 then Vl N w u k else w k) i = Vl N w u i := by
   rw [YX hi, if_pos (Nat.lt_succ_self i)]
  have old : cut N (fun k => if k < i then Vl N w u k else w k) i = w i := by
   rw [YX hi, if_neg (Nat.lt_irrefl i)]
  rw [qu.l43, if_pos (ZE hi)]
  rcases Wi hi hN with rfl | rfl | rfl | rfl
  ·rw [if_pos (by decide), show (v6 N u).e0 = cut N u 0 from rfl, YX hi, hm, Option.bind_some, old, hst, new, same 1 (by omega), same 2 (by omega), same 3 (by omega), same 4 (by omega), same 5 (by omega)]; rfl
  ·rw [if_neg (by decide), if_pos (by decide), show (v6 N u).e1 = cut N u 1 from rfl, YX hi, hm, Option.bind_some, old, hst, new, same 0 (by omega), same 2 (by omega), same 3 (by omega), same 4 (by omega), same 5 (by omega)]; rfl
  ·rw [if_neg (by decide), if_neg (by decide), if_pos (by decide), show (v6 N u).e2 = cut N u 2 from rfl, YX hi, hm, Option.bind_some, old, hst, new, same 0 (by omega), same 1 (by omega), same 3 (by omega), same 4 (by omega), same 5 (by omega)]; rfl
  ·rw [if_neg (by decide), if_neg (by decide), if_neg (by decide), if_pos (by decide), show (v6 N u).e3 = cut N u 3 from rfl, YX hi, hm, Option.bind_some, old, hst, new, same 0 (by omega), same 1 (by omega), same 2 (by omega), same 4 (by omega), same 5 (by omega)]; rfl
 ·show qu.l43 _ _ _ _ _ _ _ _ _ _ _ _ _ (m + 1) _ _ _ _ _ _ _ = _
  rw [qu.l43, if_neg (by rw [ZJ]; simp)]
  have e : cut N (fun k => if k < N then Vl N w u k else w k) = cut N (Vl N w u) := funext fun k => Vm fun h => if_pos h
  show some (t6 (cut N (fun k => if k < N then Vl N w u k else w k))) = _
  rw [e]
end Go.Proofs.YtglcmhldonkfdaaGreatDoor
set_option maxRecDepth 10000
set_option linter.unusedVariables false
set_option linter.unusedSimpArgs false
namespace Go.Proofs.YtglcmhldonkfdaaGreatDoor
open Go
theorem qgy (a : List qG) (ha : a.length < 1000) {K : Nat} (hK : 10 < K) : Qu K [a, a, a] = some (a ++ a ++ a) := by
 obtain ⟨m, rfl⟩ : ∃ m, K = m + 4 := ⟨K - 4, by omega⟩
 unfold Qu
 have e1 : Qu.l25 (m + 4) [a, a, a] (m + 4) 0 0 = some ((a.length + a.length + a.length : Nat) : Int) := by
  rw [Qu.l25, if_pos (by rfl), if_pos (by show (0 : Int) ≤ 0 ∧ (0 : Int) < 3; decide)]
  refine bT (v := a) rfl ?_
  rw [Int.zero_add, Zo (x := (a.length : Int)) (by omega) (by omega), if_neg (by rw [decide_eq_true_eq]; omega), show qe (0 + 1) = 1 from rfl]
  rw [Qu.l25, if_pos (by rfl), if_pos (by show (0 : Int) ≤ 1 ∧ (1 : Int) < 3; decide)]
  refine bT (v := a) rfl ?_
  rw [Zo (x := (a.length : Int) + (a.length : Int)) (by omega) (by omega), if_neg (by rw [decide_eq_true_eq]; omega), show qe (1 + 1) = 2 from rfl]
  rw [Qu.l25, if_pos (by rfl), if_pos (by show (0 : Int) ≤ 2 ∧ (2 : Int) < 3; decide)]
  refine bT (v := a) rfl ?_
  rw [Zo (x := (a.length : Int) + (a.length : Int) + (a.length : Int)) (by omega) (by omega), if_neg (by rw [decide_eq_true_eq]; omega), show qe (2 + 1) = 3 from rfl]
  rw [Qu.l25, if_neg (by show ¬ decide ((3 : Int) < 3) = true; decide)]
  rfl
 have e2 : Yt ((a.length + a.length + a.length : Nat) : Int) = some [] := by
  unfold Yt
  have e : qe (((a.length + a.length + a.length : Nat) : Int) - qe (0 - 0)) = ((a.length + a.length + a.length : Nat) : Int) := by
   rw [show qe (0 - 0) = 0 from rfl, Int.sub_zero, Zo (by omega) (by omega)]
  rw [e, if_neg (by rw [decide_eq_true_eq]; omega)]
  by_cases h : a.length = 0
  ·rw [if_neg (by rw [decide_eq_true_eq]; omega)]
  ·rw [if_pos (by rw [decide_eq_true_eq]; omega), if_pos (by omega)]
 refine bT e1 (bT e2 (bT (v := a ++ a ++ a) ?_ rfl))
 rw [Qu.l13, if_pos (by rfl), if_pos (by show (0 : Int) ≤ 0 ∧ (0 : Int) < 3; decide)]
 refine bT (v := a) rfl ?_
 rw [if_pos ⟨by omega, by decide⟩, show qe (0 + 1) = 1 from rfl]
 rw [Qu.l13, if_pos (by rfl), if_pos (by show (0 : Int) ≤ 1 ∧ (1 : Int) < 3; decide)]
 refine bT (v := a) rfl ?_
 rw [if_pos ⟨by omega, by simp; omega⟩, show qe (1 + 1) = 2 from rfl]
 rw [Qu.l13, if_pos (by rfl), if_pos (by show (0 : Int) ≤ 2 ∧ (2 : Int) < 3; decide)]
 refine bT (v := a) rfl ?_
 rw [if_pos ⟨by omega, by simp; omega⟩, show qe (2 + 1) = 3 from rfl]
 rw [Qu.l13, if_neg (by show ¬ decide ((3 : Int) < 3) = true; decide)]
 rfl
theorem Jp (N : Nat) (u : Nat → Nat → Int) : ∀ (a b : List Nat) (w : Nat → Int), ZR N u (a ++ b) w = ZR N u b (ZR N u a w)
 | [], b, w => rfl
 | t :: a, b, w => Jp N u a b (Vl N w (u t))
theorem qaG (N : Nat) (u : Nat → Nat → Int) (l : List Nat) (w : Nat → Int) {q t : Nat} (h : l[q]? = some t) : ZR N u (l.take (q + 1)) w = Vl N (ZR N u (l.take q) w) (u t) := by
 rw [List.take_add_one, h, Jp]; rfl
theorem qeE (j : Nat) {α : Type} (g : Nat → α) : mk j g ++ mk j g ++ mk j g = (JP j).map g := by unfold JP mk; simp
theorem qc9 {N j K : Nat} (hN : N ≤ 4) (hj : j ≤ 4) (hK : 30 < K) (w : Nat → Int) (u : Nat → Nat → Int) (hB : ∀ q, q ≤ 3 * j → ∀ k, k < N → -118000000 ≤ ZR N u ((JP j).take q) w k ∧ ZR N u ((JP j).take q) w k ≤ 118000000) (hu : ∀ t, t < j → ∀ k, k < N → -65554 ≤ u t k ∧ u t k ≤ 65554) :
  qu K ⟨(N : Int), mk j fun t => v6 N (u t)⟩ (v6 N w) = some (v6 N (ZW N j u w)) := by
 unfold qu
 refine bT (bT (qgy _ (by rw [Qt]; omega) (by omega)) ?_ : _ = some (t6 (cut N (ZW N j u w)))) rfl
 rw [qeE]
 have L := YJ (fun m (s : Nat → Int) x => qu.l19 K ⟨(N : Int), mk j fun t => v6 N (u t)⟩ (v6 N w) ((JP j).map fun t => v6 N (u t)) m (s 0) (s 1) (s 2) (s 3) (s 4) (s 5) x) (3 * j) (fun q => cut N (ZR N u ((JP j).take q) w)) (t6 (cut N (ZW N j u w))) (s := cut N w) rfl (fun m q hq => ?_) (fun m => ?_) (k := K) (by omega)
 ·exact L
 ·show qu.l19 _ _ _ _ (m + 1) _ _ _ _ _ _ _ = _
  have hlen : ((JP j).map fun t => v6 N (u t)).length = 3 * j := by rw [List.length_map, Vu]
  have hq' : q < (JP j).length := by rw [Vu]; exact hq
  obtain ⟨t, ht⟩ : ∃ t, (JP j)[q]? = some t := ⟨(JP j)[q], List.getElem?_eq_getElem hq'⟩
  have htj : t < j := qbc (List.mem_of_getElem? ht)
  have hg : ((JP j).map fun t => v6 N (u t))[q]? = some (v6 N (u t)) := by rw [List.getElem?_map, ht]; rfl
  have hw := hB q (by omega)
  rw [qu.l19, hlen, if_pos (ZE hq)]
  generalize hww : ZR N u ((JP j).take q) w = x at *
  have bd : -500000000 ≤ Vg x (u t) N ∧ Vg x (u t) N ≤ 500000000 := by
   have h1 := qaV x (u t) N
   have h2 := Zy (a := x) (b := u t) (A := 118000000) (B := 65554) (by omega) (by omega) (n := N) (fun k hk => hw k hk) (fun k hk => hu t htj k hk)
   omega
  refine bT (v := t6 (cut N (Vl N x (u t)))) ?_ ?_
  ·rw [if_pos (YA hq), Int.toNat_natCast, hg, Option.bind_some]
   refine bT (qfj hN (by omega) x (u t) hw (hu t htj) _ _ _ _) ?_
   exact qfl hN (by omega) x (u t) rfl bd hw (hu t htj) _ _ _ _ _ _ _ _ _ _
  ·rw [XG (by omega), qaG N u (JP j) w ht, hww]
   rfl
 ·show qu.l19 _ _ _ _ (m + 1) _ _ _ _ _ _ _ = _
  have hlen : ((JP j).map fun t => v6 N (u t)).length = 3 * j := by rw [List.length_map, Vu]
  rw [qu.l19, hlen, if_neg (by rw [ZJ]; simp)]
  have e : (JP j).take (3 * j) = JP j := by rw [← Vu j]; exact List.take_length
  show some (t6 (cut N (ZR N u ((JP j).take (3 * j)) w))) = _
  rw [e]
  rfl
end Go.Proofs.YtglcmhldonkfdaaGreatDoor
set_option maxRecDepth 10000
set_option linter.unusedVariables false
set_option linter.unusedSimpArgs false
namespace Go.Proofs.YtglcmhldonkfdaaGreatDoor
open Go
theorem qdj {x : Int} (h1 : 0 ≤ x) (h2 : x < 18446744073709551616) : XI x = x := by
 unfold XI Go.IntKind.wrap; simp [Go.IntKind.bits, Go.IntKind.signed]; omega
theorem qdL (K : Nat) {s : Int} (hs : 0 ≤ s) : ∀ (e m : Nat) (r : Int), e + 1 < m → 0 ≤ r → r * r ≤ s → s < (r + 2 ^ (e + 1)) * (r + 2 ^ (e + 1)) → r + 2 ^ (e + 1) ≤ 4294967296 →
  ∃ L, 0 ≤ L ∧ L ≤ 4294967295 ∧ L * L ≤ s ∧ s < (L + 1) * (L + 1) ∧ XJ.l9 K s m r (2 ^ e) = some L := by
 intro e
 induction e with
 | zero =>
  intro m r hm h0 h1 h2 h3
  obtain ⟨m, rfl⟩ : ∃ q, m = q + 2 := ⟨m - 2, by omega⟩
  rw [show (2 : Int) ^ (0 + 1) = 2 from rfl] at h2 h3
  rw [show (2 : Int) ^ 0 = 1 from rfl, XJ.l9, if_pos (by decide)]
  have hb : 0 ≤ (r + 1) * (r + 1) := JH _
  have hb2 : (r + 1) * (r + 1) ≤ 4294967295 * 4294967295 := qaO (by omega) (by omega)
  rw [qdj (x := r + 1) (by omega) (by omega), qdj hb (by omega)]
  by_cases h : (r + 1) * (r + 1) ≤ s
  ·refine ⟨r + 1, by omega, by omega, h, by rw [show r + 1 + 1 = r + 2 by omega]; exact h2, ?_⟩
   rw [if_pos (decide_eq_true h), Option.bind_some, show Int.fdiv 1 2 = 0 from rfl, XJ.l9, if_neg (by decide)]
  ·refine ⟨r, h0, by omega, h1, by omega, ?_⟩
   rw [if_neg (by simpa using h), Option.bind_some, show Int.fdiv 1 2 = 0 from rfl, XJ.l9, if_neg (by decide)]
 | succ e ih =>
  intro m r hm h0 h1 h2 h3
  obtain ⟨m, rfl⟩ : ∃ q, m = q + 1 := ⟨m - 1, by omega⟩
  have hp : (0 : Int) < 2 ^ e := Int.pow_pos (by omega)
  have e1 : (2 : Int) ^ (e + 1) = 2 * 2 ^ e := by rw [Int.pow_succ]; omega
  have e2 : (2 : Int) ^ (e + 1 + 1) = 4 * 2 ^ e := by rw [Int.pow_succ, e1]; omega
  rw [e2] at h2 h3
  have hf : Int.fdiv ((2 : Int) ^ (e + 1)) 2 = 2 ^ e := by rw [fd _ _ (by omega), e1]; omega
  have hb : 0 ≤ (r + 2 ^ (e + 1)) * (r + 2 ^ (e + 1)) := JH _
  have hb2 : (r + 2 ^ (e + 1)) * (r + 2 ^ (e + 1)) ≤ 4294967295 * 4294967295 := qaO (by omega) (by omega)
  rw [XJ.l9, if_pos (decide_eq_true (by omega)), qdj (x := r + 2 ^ (e + 1)) (by omega) (by omega), qdj hb (by omega), hf]
  by_cases h : (r + 2 ^ (e + 1)) * (r + 2 ^ (e + 1)) ≤ s
  ·rw [if_pos (decide_eq_true h), Option.bind_some]
   refine ih m _ (by omega) (by omega) h ?_ (by rw [e1]; omega)
   rw [show r + 2 ^ (e + 1) + 2 ^ (e + 1) = r + 4 * 2 ^ e by rw [e1]; omega]
   exact h2
  ·rw [if_neg (by simpa using h), Option.bind_some]
   exact ih m r (by omega) h0 h1 (by omega) (by rw [e1]; omega)
theorem qfF {K : Nat} (hK : 40 < K) {s : Int} (hs : 0 ≤ s) (hs2 : s < 9223372036854775808) : ∃ L, 0 ≤ L ∧ L ≤ 4294967295 ∧ L * L ≤ s ∧ s < (L + 1) * (L + 1) ∧ XJ K s = some L := by
 obtain ⟨L, h0, h1, h2, h3, h4⟩ := qdL K hs 31 K 0 (by omega) (Int.le_refl _) (by omega) (by
  rw [show (0 : Int) + 2 ^ (31 + 1) = 4294967296 from rfl]; omega) (by decide)
 refine ⟨L, h0, h1, h2, h3, ?_⟩
 unfold XJ
 refine bT h4 ?_
 rw [Zo (by omega) (by omega)]
theorem qfS {N K : Nat} (hN : N ≤ 4) (hK : 40 < K) (w : Nat → Int) (hw : ∀ k, k < N → -118000000 ≤ w k ∧ w k ≤ 118000000) :
  ∃ L, 0 ≤ L ∧ L ≤ 4294967295 ∧ L * L ≤ Qk w w N ∧ Qk w w N < (L + 1) * (L + 1) ∧ Qn K (v6 N w) = some L := by
 have hb := Zy (a := w) (b := w) (A := 118000000) (B := 118000000) (by omega) (by omega) (n := N) hw hw
 have h0 := Wo w N
 have hN4 : (N : Int) * (118000000 * 118000000) ≤ 4 * (118000000 * 118000000) := by omega
 obtain ⟨L, h1, h2, h3, h4, h5⟩ := qfF hK h0 (by omega)
 refine ⟨L, h1, h2, h3, h4, ?_⟩
 unfold Qn
 refine bT ?_ (bT h5 rfl)
 have sqb : ∀ k, 0 ≤ cut N w k * cut N w k ∧ cut N w k * cut N w k ≤ 118000000 * 118000000 := fun k => by
  refine ⟨JH _, ?_⟩
  by_cases h : k < N
  ·rw [YX h]; have := YC (hw k h) (hw k h); omega
  ·rw [qaZ (by omega)]; omega
 have pb : ∀ n, 0 ≤ Qk (cut N w) (cut N w) n := fun n => Wo _ n
 have pu : ∀ n, n ≤ 6 → Qk (cut N w) (cut N w) n ≤ 6 * (118000000 * 118000000) := fun n hn => by
  have := Zy (a := cut N w) (b := cut N w) (A := 118000000) (B := 118000000) (by omega) (by omega) (n := n) (fun k _ => by
   by_cases h : k < N
   ·rw [YX h]; exact hw k h
   ·rw [qaZ (by omega)]; omega) (fun k _ => by
   by_cases h : k < N
   ·rw [YX h]; exact hw k h
   ·rw [qaZ (by omega)]; omega)
  omega
 have tail : ∀ d, Qk (cut N w) (cut N w) (N + d) = Qk w w N := fun d => by
  induction d with
  | zero => exact Z0 (fun k hk => YX hk) (fun k hk => YX hk)
  | succ d ih => rw [show N + (d + 1) = N + d + 1 by omega, Qk, ih, qaZ (by omega)]; omega
 have e6 : Qk w w N = Qk (cut N w) (cut N w) 6 := by rw [← tail (6 - N), show N + (6 - N) = 6 by omega]
 rw [e6]
 refine YJ (fun m s x => Qn.l10 K (v6 N w) m s x) 6 (fun i => Qk (cut N w) (cut N w) i) _ rfl (fun m i hi => ?_) (fun m => ?_) (by omega)
 ·show Qn.l10 _ _ (m + 1) _ _ = _
  have q1 := sqb i
  have q2 := pb i
  have q3 := pu (i + 1) (by omega)
  rw [Qk] at q3
  have st : XI (Qk (cut N w) (cut N w) i + XI (qe (cut N w i * cut N w i))) = Qk (cut N w) (cut N w) (i + 1) := by
   rw [Zo (by omega) (by omega), qdj (x := cut N w i * cut N w i) (by omega) (by omega), qdj (by omega) (by omega), Qk]
  rw [Qn.l10, if_pos (decide_eq_true (by omega))]
  have h6 : i = 0 ∨ i = 1 ∨ i = 2 ∨ i = 3 ∨ i = 4 ∨ i = 5 := by omega
  rcases h6 with rfl | rfl | rfl | rfl | rfl | rfl
  ·rw [if_pos (by decide), show (v6 N w).e0 = cut N w 0 from rfl, st]; rfl
  ·rw [if_neg (by decide), if_pos (by decide), show (v6 N w).e1 = cut N w 1 from rfl, st]; rfl
  ·rw [if_neg (by decide), if_neg (by decide), if_pos (by decide), show (v6 N w).e2 = cut N w 2 from rfl, st]; rfl
  ·rw [if_neg (by decide), if_neg (by decide), if_neg (by decide), if_pos (by decide), show (v6 N w).e3 = cut N w 3 from rfl, st]; rfl
  ·rw [if_neg (by decide), if_neg (by decide), if_neg (by decide), if_neg (by decide), if_pos (by decide), show (v6 N w).e4 = cut N w 4 from rfl, st]; rfl
  ·rw [if_neg (by decide), if_neg (by decide), if_neg (by decide), if_neg (by decide), if_neg (by decide), if_pos (by decide), show (v6 N w).e5 = cut N w 5 from rfl, st]; rfl
 ·show Qn.l10 _ _ (m + 1) _ _ = _
  rw [Qn.l10, if_neg (by decide)]
end Go.Proofs.YtglcmhldonkfdaaGreatDoor
set_option maxRecDepth 10000
set_option linter.unusedVariables false
set_option linter.unusedSimpArgs false
namespace Go.Proofs.YtglcmhldonkfdaaGreatDoor
open Go
theorem qdK {x L : Int} (hx : -118000000 ≤ x ∧ x ≤ 118000000) (hL : 0 < L ∧ L ≤ 1073741824) : ∃ c, Xq x 65536 L = some (x * 65536 / L, c, 0) := by
 unfold Xq
 rw [if_neg (by simp; omega), Zo (by omega) (by omega), VE hL.1 (by omega) (by omega) (by omega)]
 exact ⟨_, rfl⟩
theorem qfI {N K : Nat} (hN : N ≤ 4) (hK : N < K) (w : Nat → Int) {L : Int} (hL : 0 < L ∧ L ≤ 1073741824) (hw : ∀ k, k < N → -118000000 ≤ w k ∧ w k ≤ 118000000) (a1 : List qG) (a2 : List qG) (x3 x4 : Int) (t11 t13 : qG) :
  qJ.l36 K (N : Int) a1 a2 x3 x4 t11 t13 L K (cut N w 0) (cut N w 1) (cut N w 2) (cut N w 3) (cut N w 4) (cut N w 5) 0 = some (t6 (cut N (JU w L))) := by
 have R := YJ (fun m (s : Nat → Int) x => qJ.l36 K (N : Int) a1 a2 x3 x4 t11 t13 L m (s 0) (s 1) (s 2) (s 3) (s 4) (s 5) x) N (fun i k => cut N (fun k => if k < i then JU w L k else w k) k) (t6 (cut N (JU w L))) (s := cut N w) (funext fun k => Vm fun _ => (if_neg (Nat.not_lt_zero k)).symm) (fun m i hi => ?_) (fun m => ?_) hK
 ·exact R
 ·show qJ.l36 _ _ _ _ _ _ _ _ _ (m + 1) _ _ _ _ _ _ _ = _
  obtain ⟨c, hm⟩ := qdK (hw i hi) hL
  have hm' : Xq (w i) 65536 L = some (JU w L i, c, 0) := hm
  have same : ∀ k, k ≠ i → cut N (fun k => if k < i + 1 then JU w L k else w k) k = cut N (fun k => if k < i then JU w L k else w k) k := fun k hk => Vm fun _ => by
   show (if k < i + 1 then JU w L k else w k) = if k < i then JU w L k else w k
   by_cases h : k < i
   ·rw [if_pos h, if_pos (show k < i + 1 by omega)]
   ·rw [if_neg h, if_neg (show ¬ k < i + 1 by omega)]
  have new : cut N (fun k => if k < i + 1 then JU w L k else w k) i = JU w L i := by
   rw [YX hi, if_pos (Nat.lt_succ_self i)]
  have old : cut N (fun k => if k < i then JU w L k else w k) i = w i := by
   rw [YX hi, if_neg (Nat.lt_irrefl i)]
  rw [qJ.l36, if_pos (ZE hi)]
  rcases Wi hi hN with rfl | rfl | rfl | rfl
  ·rw [if_pos (by decide), old, hm', Option.bind_some, new, same 1 (by omega), same 2 (by omega), same 3 (by omega), same 4 (by omega), same 5 (by omega)]; rfl
  ·rw [if_neg (by decide), if_pos (by decide), old, hm', Option.bind_some, new, same 0 (by omega), same 2 (by omega), same 3 (by omega), same 4 (by omega), same 5 (by omega)]; rfl
  ·rw [if_neg (by decide), if_neg (by decide), if_pos (by decide), old, hm', Option.bind_some, new, same 0 (by omega), same 1 (by omega), same 3 (by omega), same 4 (by omega), same 5 (by omega)]; rfl
  ·rw [if_neg (by decide), if_neg (by decide), if_neg (by decide), if_pos (by decide), old, hm', Option.bind_some, new, same 0 (by omega), same 1 (by omega), same 2 (by omega), same 4 (by omega), same 5 (by omega)]; rfl
 ·show qJ.l36 _ _ _ _ _ _ _ _ _ (m + 1) _ _ _ _ _ _ _ = _
  rw [qJ.l36, if_neg (by rw [ZJ]; simp)]
  have e : cut N (fun k => if k < N then JU w L k else w k) = cut N (JU w L) := funext fun k => Vm fun h => if_pos h
  show some (t6 (cut N (fun k => if k < N then JU w L k else w k))) = _
  rw [e]
def ZG (w : Nat → Int) (q : Nat) : Nat → Int := if q = 0 then w else J3 (q - 1)
def ZH (q : Nat) : Int := if q = 0 then 4096 else 16384
theorem qgg (N : Nat) (w : Nat → Int) : v6 N w :: mk N (fun i => v6 N (J3 i)) = mk (N + 1) fun q => v6 N (ZG w q) := by
 refine V9 (by rw [List.length_cons, Qt]) fun i hi => ?_
 cases i with
 | zero => rfl
 | succ i => rw [List.getElem?_cons_succ, Xg _ (by omega)]; rfl
structure qeK (N j : Nat) (u : Nat → Nat → Int) (w : Nat → Int) : Prop where
 mid : ∀ q, q ≤ 3 * j → ∀ k, k < N → -118000000 ≤ ZR N u ((JP j).take q) w k ∧ ZR N u ((JP j).take q) w k ≤ 118000000
theorem qeK.end_ {N j : Nat} {u : Nat → Nat → Int} {w : Nat → Int} (h : qeK N j u w) : ∀ k, k < N → -118000000 ≤ ZW N j u w k ∧ ZW N j u w k ≤ 118000000 := fun k hk => by
 have := h.mid (3 * j) (Nat.le_refl _) k hk
 rw [← Vu j, List.take_length] at this
 exact this
theorem qeS : ∀ j, j < 4 → ∀ q, q < 10 → (qav (bOf j) ((JP j).take q) ⟨X0, 16777216, fun _ => 0⟩).W ≤ 118000000 := by decide +kernel
theorem qgo {N j : Nat} {u : Nat → Nat → Int} (C : JT N j (bOf j) u) (hj : j < 4) {w : Nat → Int} (hw : ∀ k, k < N → -16777216 ≤ w k ∧ w k ≤ 16777216) : qeK N j u w where
 mid q hq k hk := by
  have hX : ∀ i, i < j → -(X0 i) ≤ Qk w (u i) N ∧ Qk w (u i) N ≤ X0 i := fun i hi => by
   have h1 := WO (A := 16777216) (by omega) (x := u i) hw
   have h2 := C.abs hi
   show -(33554432 * 65554 : Int) ≤ _ ∧ _ ≤ (33554432 * 65554 : Int)
   omega
  have H := Hd.run C ((JP j).take q) (fun t h => qbc (List.mem_of_mem_take h)) (Hd.start hX hw)
  have h1 := H.comp k hk
  have h2 := qeS j hj q (by omega)
  omega
end Go.Proofs.YtglcmhldonkfdaaGreatDoor
set_option maxRecDepth 10000
set_option linter.unusedVariables false
set_option linter.unusedSimpArgs false
namespace Go.Proofs.YtglcmhldonkfdaaGreatDoor
open Go
structure Col (N j : Nat) (u : Nat → Nat → Int) (w v c : Nat → Int) (L : Int) : Prop where
 v_eq : v = JU (ZW N j u c) L
 L1 : 4096 ≤ L
 L2 : L ≤ 1073741824
 lo : L * L ≤ Qk (ZW N j u c) (ZW N j u c) N
 hi : Qk (ZW N j u c) (ZW N j u c) N < (L + 1) * (L + 1)
 one : c = w ∨ ∃ i, i < N ∧ c = J3 i
 first : 4096 * 4096 ≤ Qk (ZW N j u w) (ZW N j u w) N → c = w
end Go.Proofs.YtglcmhldonkfdaaGreatDoor
set_option maxRecDepth 10000
set_option linter.unusedVariables false
set_option linter.unusedSimpArgs false
namespace Go.Proofs.YtglcmhldonkfdaaGreatDoor
open Go
theorem qab (N : Nat) {u u' : Nat → Nat → Int} : ∀ (l : List Nat) (w : Nat → Int), (∀ t ∈ l, u t = u' t) → ZR N u l w = ZR N u' l w
 | [], w, _ => rfl
 | t :: l, w, h => by
  rw [ZR, ZR, h t (List.mem_cons_self ..), qab N l _ (fun t ht => h t (List.mem_cons_of_mem _ ht))]
theorem qdf {N j : Nat} {u u' : Nat → Nat → Int} (h : ∀ t, t < j → u t = u' t) (w : Nat → Int) : ZW N j u w = ZW N j u' w := qab N _ _ fun t ht => h t (qbc ht)
theorem Col.congr {N j : Nat} {u u' : Nat → Nat → Int} (h : ∀ t, t < j → u t = u' t) {w v c : Nat → Int} {L : Int} (H : Col N j u w v c L) : Col N j u' w v c L := by
 have e := fun w => qdf (N := N) h w
 obtain ⟨a, b, c', d, f, g, i⟩ := H
 rw [e] at a d f
 rw [e w] at i
 exact ⟨a, b, c', d, f, g, i⟩
theorem JT.grow {N j : Nat} {u : Nat → Nat → Int} (C : JT N j (bOf j) u) (hj : j < N) {w v c : Nat → Int} {L : Int} (hw : ∀ k, k < N → -16777216 ≤ w k ∧ w k ≤ 16777216) (H : Col N j u w v c L) :
  JT N (j + 1) (bOf (j + 1)) (fun t => if t = j then v else u t) := by
 have hN := C.n4
 have hbo := qbC j (by omega)
 have hc : ∀ k, k < N → -16777216 ≤ c k ∧ c k ≤ 16777216 := fun k hk => by
  rcases H.one with e | ⟨i, _, e⟩
  ·rw [e]; exact hw k hk
  ·rw [e]; unfold J3; split <;> omega
 have hX : ∀ i, i < j → -(X0 i) ≤ Qk c (u i) N ∧ Qk c (u i) N ≤ X0 i := fun i hi => by
  have h1 := WO (A := 16777216) (by omega) (x := u i) hc
  have h2 := C.abs hi
  show -(33554432 * 65554 : Int) ≤ _ ∧ _ ≤ (33554432 * 65554 : Int)
  omega
 have hR := qdQ C hX hc
 have hn := qdR hN H.L1 H.lo (Int.le_of_lt H.hi)
 have hd : ∀ i, i < j → -(bOf (j + 1) * 65536) ≤ Qk v (u i) N ∧ Qk v (u i) N ≤ bOf (j + 1) * 65536 := fun i hi => by
  have h1 := qeN H.L1 (hR.dots i hi) (C.abs hi)
  have h2 := (qf2 j (by omega) i hi).1
  rw [H.v_eq]
  unfold bdM at h2
  omega
 rw [← H.v_eq] at hn
 refine ⟨hN, fun t ht => ?_, fun t ht => ?_, fun s hs t ht hst => ?_, by omega⟩
 ·show Qk (if t = j then v else u t) (if t = j then v else u t) N ≤ _
  by_cases e : t = j
  ·rw [if_pos e]; exact hn.2
  ·rw [if_neg e]; exact C.up t (by omega)
 ·show _ ≤ Qk (if t = j then v else u t) (if t = j then v else u t) N
  by_cases e : t = j
  ·rw [if_pos e]; exact hn.1
  ·rw [if_neg e]; exact C.low t (by omega)
 ·show _ ≤ Qk (if s = j then v else u s) (if t = j then v else u t) N ∧ Qk (if s = j then v else u s) (if t = j then v else u t) N ≤ _
  by_cases e1 : s = j
  ·rw [if_pos e1, if_neg (by omega)]; exact hd t (by omega)
  ·rw [if_neg e1]
   by_cases e2 : t = j
   ·rw [if_pos e2, Ze]; exact hd s (by omega)
   ·rw [if_neg e2]
    have := C.pair s (by omega) t (by omega) hst
    omega
structure Ort (N : Nat) (m : Nat → Nat → Int) (j : Nat) (u : Nat → Nat → Int) : Prop where
 cols : JT N j (bOf j) u
 each : ∀ t, t < j → ∃ c L, Col N t u (fun i => m i t) (u t) c L
theorem Ort.grow {N j : Nat} {m u : Nat → Nat → Int} (hm : ∀ i, i < N → ∀ k, k < N → -16777216 ≤ m i k ∧ m i k ≤ 16777216) (O : Ort N m j u) (hj : j < N) {v c : Nat → Int} {L : Int} (H : Col N j u (fun i => m i j) v c L) :
  Ort N m (j + 1) (fun t => if t = j then v else u t) where
 cols := O.cols.grow hj (fun k hk => hm k hk j hj) H
 each t ht := by
  show ∃ c L, Col N t (fun t => if t = j then v else u t) (fun i => m i t) (if t = j then v else u t) c L
  by_cases e : t = j
  ·subst e
   rw [if_pos rfl]
   exact ⟨c, L, H.congr fun s hs => (if_neg (by omega)).symm⟩
  ·rw [if_neg e]
   obtain ⟨c', L', H'⟩ := O.each t (by omega)
   exact ⟨c', L', H'.congr fun s hs => (if_neg (by omega)).symm⟩
end Go.Proofs.YtglcmhldonkfdaaGreatDoor
set_option maxRecDepth 10000
set_option linter.unusedVariables false
set_option linter.unusedSimpArgs false
namespace Go.Proofs.YtglcmhldonkfdaaGreatDoor
open Go
theorem v6u {N i : Nat} (hi : i < N) : v6 N (J3 i) = ⟨J3 i 0, J3 i 1, J3 i 2, J3 i 3, J3 i 4, J3 i 5⟩ := by
 have : cut N (J3 i) = J3 i := funext fun k => by
  unfold cut
  split
  ·rfl
  ·unfold J3; rw [if_neg (by omega)]
 unfold v6; rw [this]
def ust (N i : Nat) : List qG := mk N fun a => if a < i then v6 N (J3 a) else ⟨0, 0, 0, 0, 0, 0⟩
theorem qev {N i : Nat} (h : i < N) : (ust N i)[i]? = some ⟨0, 0, 0, 0, 0, 0⟩ := by rw [ust, Xg _ h, if_neg (Nat.lt_irrefl i)]
theorem qeY {N i : Nat} (h : i < N) {x : qG} (hx : x = v6 N (J3 i)) : (ust N i).set i x = ust N (i + 1) := by
 rw [ust, ZM, ust]
 refine Xr fun a ha => ?_
 by_cases e : a = i
 ·subst e; rw [if_pos rfl, if_pos (Nat.lt_succ_self a), hx]
 ·rw [if_neg e]
  by_cases h2 : a < i
  ·rw [if_pos h2, if_pos (by omega)]
  ·rw [if_neg h2, if_neg (by omega)]
theorem qeA (N i : Nat) : (ust N i).length = N := Qt _ _
theorem qd4 {N K : Nat} (hN : N ≤ 4) (hK : N < K) (a0 : List (List Int)) (ha : a0.length = N) :
  qt.l93 K a0 K (List.replicate N ⟨0, 0, 0, 0, 0, 0⟩) 0 = some (mk N fun i => v6 N (J3 i)) := by
 refine YJ (fun m s x => qt.l93 K a0 m s x) N (ust N) _ ?_ (fun m i hi => ?_) (fun m => ?_) hK
 ·rw [JF]; exact Xr fun a ha => (if_neg (Nat.not_lt_zero a)).symm
 ·show qt.l93 _ _ (m + 1) _ _ = _
  rw [qt.l93, ha, if_pos (ZE hi), qeA]
  have R := YA hi
  have G := qev hi
  have T := fun x hx => qeY hi (x := x) hx
  rcases Wi hi hN with rfl | rfl | rfl | rfl
  ·rw [if_pos (by decide)]
   refine (if_pos R).trans (bT G ?_)
   exact congrArg (fun s => qt.l93 K a0 m s 1) (T _ (v6u hi).symm)
  ·rw [if_neg (by decide), if_pos (by decide)]
   refine (if_pos R).trans (bT G ?_)
   exact congrArg (fun s => qt.l93 K a0 m s 2) (T _ (v6u hi).symm)
  ·rw [if_neg (by decide), if_neg (by decide), if_pos (by decide)]
   refine (if_pos R).trans (bT G ?_)
   exact congrArg (fun s => qt.l93 K a0 m s 3) (T _ (v6u hi).symm)
  ·rw [if_neg (by decide), if_neg (by decide), if_neg (by decide), if_pos (by decide)]
   refine (if_pos R).trans (bT G ?_)
   exact congrArg (fun s => qt.l93 K a0 m s 4) (T _ (v6u hi).symm)
 ·show qt.l93 _ _ (m + 1) _ _ = _
  rw [qt.l93, ha, if_neg (by rw [ZJ]; simp)]
  exact congrArg some (Xr fun a ha => if_pos ha)
theorem qdk {N K c : Nat} (hN : N ≤ 4) (hK : N < K) (hc : c < N) (m : Nat → Nat → Int) (j6 : List qG) (x14 : Int) (x15 : List qG) :
  qt.l43 K (mm N N m) j6 x14 x15 (c : Int) K 0 0 0 0 0 0 0 = some (t6 (cut N fun i => m i c)) := by
 have L := YJ (fun q (s : Nat → Int) x => qt.l43 K (mm N N m) j6 x14 x15 (c : Int) q (s 0) (s 1) (s 2) (s 3) (s 4) (s 5) x) N (fun i k => cut N (fun k => if k < i then m k c else 0) k) (t6 (cut N fun i => m i c)) (s := fun _ => 0) (funext fun k => by
  unfold cut; split
  ·exact (if_neg (Nat.not_lt_zero k)).symm
  ·rfl) (fun q i hi => ?_) (fun q => ?_) hK
 ·exact L
 ·show qt.l43 _ _ _ _ _ _ (q + 1) _ _ _ _ _ _ _ = _
  have same : ∀ k, k ≠ i → cut N (fun k => if k < i + 1 then m k c else 0) k = cut N (fun k => if k < i then m k c else 0) k := fun k hk => Vm fun _ => by
   show (if k < i + 1 then m k c else 0) = if k < i then m k c else 0
   by_cases h : k < i
   ·rw [if_pos h, if_pos (show k < i + 1 by omega)]
   ·rw [if_neg h, if_neg (show ¬ k < i + 1 by omega)]
  have new : cut N (fun k => if k < i + 1 then m k c else 0) i = m i c := by
   rw [YX hi, if_pos (Nat.lt_succ_self i)]
  have R := YA hi
  have G := Yk (m := N) m hi
  have R2 : 0 ≤ (c : Int) ∧ (c : Int) < ((mk N (m i)).length : Int) := by rw [Qt]; exact YA hc
  have G2 : (mk N (m i))[(c : Int).toNat]? = some (m i c) := by rw [Int.toNat_natCast]; exact Xg _ hc
  rw [qt.l43, QW, if_pos (ZE hi)]
  rcases Wi hi hN with rfl | rfl | rfl | rfl
  ·rw [if_pos (by decide), new, same 1 (by omega), same 2 (by omega), same 3 (by omega), same 4 (by omega), same 5 (by omega)]
   exact (if_pos R).trans (bT G ((if_pos R2).trans (bT G2 rfl)))
  ·rw [if_neg (by decide), if_pos (by decide), new, same 0 (by omega), same 2 (by omega), same 3 (by omega), same 4 (by omega), same 5 (by omega)]
   exact (if_pos R).trans (bT G ((if_pos R2).trans (bT G2 rfl)))
  ·rw [if_neg (by decide), if_neg (by decide), if_pos (by decide), new, same 0 (by omega), same 1 (by omega), same 3 (by omega), same 4 (by omega), same 5 (by omega)]
   exact (if_pos R).trans (bT G ((if_pos R2).trans (bT G2 rfl)))
  ·rw [if_neg (by decide), if_neg (by decide), if_neg (by decide), if_pos (by decide), new, same 0 (by omega), same 1 (by omega), same 2 (by omega), same 4 (by omega), same 5 (by omega)]
   exact (if_pos R).trans (bT G ((if_pos R2).trans (bT G2 rfl)))
 ·show qt.l43 _ _ _ _ _ _ (q + 1) _ _ _ _ _ _ _ = _
  rw [qt.l43, QW, if_neg (by rw [ZJ]; simp)]
  have e : cut N (fun k => if k < N then m k c else 0) = cut N (fun i => m i c) := funext fun k => Vm fun h => if_pos h
  show some (t6 (cut N (fun k => if k < N then m k c else 0))) = _
  rw [e]
theorem Ort.none (N : Nat) (hN : N ≤ 4) (m u : Nat → Nat → Int) : Ort N m 0 u where
 cols := ⟨hN, fun t h => absurd h (Nat.not_lt_zero t), fun t h => absurd h (Nat.not_lt_zero t), fun s h => absurd h (Nat.not_lt_zero s), by decide⟩
 each t h := absurd h (Nat.not_lt_zero t)
theorem o1m {N i k : Nat} (hN : N ≤ 4) (hi : i < N) (hk : k < N) (n : Int) (u : Nat → Nat → Int) : XW (i : Int) (k : Int) ⟨n, mk N fun t => v6 N (u t)⟩ = some (u k i) := by
 unfold XW
 have R : 0 ≤ (k : Int) ∧ (k : Int) < ((mk N fun t => v6 N (u t)).length : Int) := by rw [Qt]; exact YA hk
 have G : (mk N fun t => v6 N (u t))[(k : Int).toNat]? = some (v6 N (u k)) := by rw [Int.toNat_natCast]; exact Xg _ hk
 have C : cut N (u k) i = u k i := YX hi
 rcases Wi hi hN with rfl | rfl | rfl | rfl
 ·rw [if_pos (by decide)]
  exact (if_pos R).trans (bT G (congrArg some C))
 ·rw [if_neg (by decide), if_pos (by decide)]
  exact (if_pos R).trans (bT G (congrArg some C))
 ·rw [if_neg (by decide), if_neg (by decide), if_pos (by decide)]
  exact (if_pos R).trans (bT G (congrArg some C))
 ·rw [if_neg (by decide), if_neg (by decide), if_neg (by decide), if_pos (by decide)]
  exact (if_pos R).trans (bT G (congrArg some C))
end Go.Proofs.YtglcmhldonkfdaaGreatDoor
set_option maxRecDepth 10000
set_option linter.unusedVariables false
set_option linter.unusedSimpArgs false
namespace Go.Proofs.YtglcmhldonkfdaaGreatDoor
open Go
def bdI (j : Nat) : Bd := qav (bOf j) (JP j) ⟨fun _ => 200 * 65536, 65554, fun _ => 0⟩
theorem qgi : ∀ j, j < 4 → (bdI j).W ≤ 66300 ∧ ∀ i, i < j → (bdI j).X i ≤ 700000 ∧ (bdI j).C i ≤ 240 := by decide +kernel
theorem qfw {N j : Nat} {p : Nat → Nat → Int} (C : JT N j (bOf j) p) (hj : j < N) {w v c : Nat → Int} {L : Int} (H : Col N j p w v c L)
  (hw1 : Qk w w N ≤ 65554 * 65554) (hw2 : 4294967296 - 37 * 65536 ≤ Qk w w N) (hX : ∀ i, i < j → -(200 * 65536) ≤ Qk w (p i) N ∧ Qk w (p i) N ≤ 200 * 65536) :
  (∀ k, k < N → -1024 ≤ w k - v k ∧ w k - v k ≤ 1024) ∧
  ∀ x : Nat → Int, Qk x x N ≤ 65554 * 65554 → (∀ s, s < j → -(200 * 65536) ≤ Qk (p s) x N ∧ Qk (p s) x N ≤ 200 * 65536) → (-(172 * 65536) ≤ Qk w x N ∧ Qk w x N ≤ 172 * 65536) → -(200 * 65536) ≤ Qk v x N ∧ Qk v x N ≤ 200 * 65536 := by
 have hN4 := C.n4
 have hwk := qbt (x := w) (U := 65554) (by omega) hw1
 have R0 := qdQ C hX (W := 65554) hwk
 have hb := qgi j (by omega)
 obtain ⟨K, R, hK, hR, hE⟩ := R0.coef
 have hd := R0.dots
 have hcmp := R0.comp
 have hv := H.v_eq
 have h1 := H.L1
 have hlo := H.lo
 have hhi := H.hi
 have hfirst := H.first
 have hKb : ∀ t, t < j → -240 ≤ K t ∧ K t ≤ 240 := fun t ht => by
  have := hK t ht
  have h2 : (qav (bOf j) (JP j) ⟨fun _ => 200 * 65536, 65554, fun _ => 0⟩).C t ≤ 240 := (hb.2 t ht).2
  omega
 have hRb : ∀ k, k < N → 0 ≤ R k ∧ R k ≤ 589815 := fun k hk => by
  have := hR k hk
  have : ((3 * j : Nat) : Int) * 65535 ≤ 589815 := by omega
  omega
 have hwb : ∀ k, k < N → -66300 ≤ ZW N j p w k ∧ ZW N j p w k ≤ 66300 := fun k hk => by
  have := hcmp k hk
  have h2 : (qav (bOf j) (JP j) ⟨fun _ => 200 * 65536, 65554, fun _ => 0⟩).W ≤ 66300 := hb.1
  omega
 have hdb : ∀ t, t < j → -700000 ≤ Qk (ZW N j p w) (p t) N ∧ Qk (ZW N j p w) (p t) N ≤ 700000 := fun t ht => by
  have := hd t ht
  have h2 : (qav (bOf j) (JP j) ⟨fun _ => 200 * 65536, 65554, fun _ => 0⟩).X t ≤ 700000 := (hb.2 t ht).1
  omega
 have hE' : ∀ k, k < N → 65536 * ZW N j p w k = 65536 * w k - 1 * Qk K (fun t => p t k) j + R k := fun k hk => by have := hE k hk; omega
 -- what the reduced vector sees
 have sees : ∀ (x : Nat → Int) (X A : Int), 0 ≤ X → Jx x N ≤ A → (∀ s, s < j → -X ≤ Qk (p s) x N ∧ Qk (p s) x N ≤ X) →
   -(720 * X + 589815 * A) ≤ 65536 * Qk (ZW N j p w) x N - 65536 * Qk w x N ∧ 65536 * Qk (ZW N j p w) x N - 65536 * Qk w x N ≤ 720 * X + 589815 * A := fun x X A hX0 hA hx => by
  have e1 := Vf (x := x) (n := N) hE'
  rw [V2] at e1
  have e2 := Zy (a := K) (b := fun t => Qk (p t) x N) (A := 240) (B := X) (by omega) hX0 (n := j) hKb hx
  have e3 := qdl (m := 589815) (by omega) hRb hA
  have e4 : (j : Int) * (240 * X) ≤ 3 * (240 * X) := Int.mul_le_mul_of_nonneg_right (by omega) (by omega)
  generalize Qk K (fun t => Qk (p t) x N) j = g at *
  omega
 have aw := V1 (x := w) hN4 (show (0 : Int) ≤ 65554 by omega) hw1
 have s1 := sees w (200 * 65536) 131108 (by omega) (by omega) (fun s hs => by rw [Ze]; exact hX s hs)
 have ar : Jx (ZW N j p w) N ≤ 265200 := by
  have h2 := Zy (a := ZW N j p w) (b := ZW N j p w) (A := 66300) (B := 66300) (by omega) (by omega) (n := N) hwb hwb
  have := V1 (x := ZW N j p w) hN4 (show (0 : Int) ≤ 132600 by omega) (by omega)
  omega
 have s2 := sees (ZW N j p w) 700000 265200 (by omega) ar (fun s hs => by rw [Ze]; exact hdb s hs)
 rw [Ze w (ZW N j p w)] at s2
 have hc : c = w := hfirst (by omega)
 subst hc
 have hL1 : 65536 - 49 ≤ L := by
  refine Int.not_lt.1 fun h => ?_
  have := qaO (show 0 ≤ L + 1 by omega) (show L + 1 ≤ 65487 by omega)
  omega
 have hL2 : L ≤ 65536 + 49 := by
  refine Int.not_lt.1 fun h => ?_
  have := qaO (show (0 : Int) ≤ 65586 by omega) (show 65586 ≤ L by omega)
  omega
 constructor
 ·intro k hk
  obtain ⟨r, hr1, hr2, hr3⟩ := qdG (ZW N j p c) (show 0 < L by omega) k
  rw [← hv] at hr1
  have g1 := hE k hk
  have g2 := Zy (a := K) (b := fun t => p t k) (A := 240) (B := 65554) (by omega) (by omega) (n := j) hKb (fun t ht => C.comp ht hk)
  have g3 : (j : Int) * (240 * 65554) ≤ 3 * (240 * 65554) := by omega
  have g4 := hRb k hk
  have g5 := hwb k hk
  have e0 := YC (x := 65536 - L) (y := ZW N j p c k) (A := 49) (B := 66300) (by omega) g5
  have e1 : L * (v k - ZW N j p c k) = (65536 - L) * ZW N j p c k - r := by rw [Int.mul_sub, hr1]; grind
  have e2 : -60 ≤ v k - ZW N j p c k ∧ v k - ZW N j p c k ≤ 60 := by
   generalize v k - ZW N j p c k = z at *
   generalize (65536 - L) * ZW N j p c k = y at *
   constructor
   ·refine Int.not_lt.1 fun h => ?_
    have := Int.mul_le_mul_of_nonneg_left (show z ≤ -61 by omega) (show 0 ≤ L by omega)
    omega
   ·refine Int.not_lt.1 fun h => ?_
    have := Int.mul_le_mul_of_nonneg_left (show 61 ≤ z by omega) (show 0 ≤ L by omega)
    omega
  generalize Qk K (fun t => p t k) j = g at *
  omega
 ·intro x hx hp hwx
  have ax := V1 (x := x) hN4 (show (0 : Int) ≤ 65554 by omega) hx
  have s3 := sees x (200 * 65536) 131108 (by omega) (by omega) hp
  obtain ⟨r, hr⟩ := qb4 (ZW N j p c) (show 0 < L by omega)
  have f1 := Jn (x := x) (n := N) (fun k _ => (hr k).1)
  rw [← hv] at f1
  have f2 := qdl (m := L) (x := x) (by omega) (fun k (_ : k < N) => (hr k).2) (A := 131108) (by omega)
  generalize Qk r x N = y at *
  generalize Qk (ZW N j p c) x N = q at *
  generalize Qk v x N = z at *
  constructor
  ·refine Int.not_lt.1 fun h => ?_
   have := Int.mul_le_mul_of_nonneg_left (show z ≤ -(200 * 65536) - 1 by omega) (show 0 ≤ L by omega)
   omega
  ·refine Int.not_lt.1 fun h => ?_
   have := Int.mul_le_mul_of_nonneg_left (show 200 * 65536 + 1 ≤ z by omega) (show 0 ≤ L by omega)
   omega
end Go.Proofs.YtglcmhldonkfdaaGreatDoor
set_option maxRecDepth 10000
set_option linter.unusedVariables false
set_option linter.unusedSimpArgs false
namespace Go.Proofs.YtglcmhldonkfdaaGreatDoor
open Go
def elN (l : List Int) (n i j : Nat) : Int := if i * n + j < l.length then Int.tmod (l.getD (i * n + j) default) 16777216 else 0
theorem qfY (l : List Int) (n i j : Nat) : -16777216 < elN l n i j ∧ elN l n i j < 16777216 := by
 unfold elN
 split
 ·exact qae _
 ·omega
theorem qcc {N : Nat} (h6 : N ≤ 6) (l : List Int) {K : Nat} (hk : N < K) : qO K l (N : Int) = some (mm N N (elN l N)) := by
 unfold qO
 refine bT (YJ (fun k s x => qO.l9 K l (N : Int) k s x) N (fun j => mk j fun i => mk N (elN l N i)) _ rfl (fun k i hi => ?_) (fun k => ?_) hk) rfl
 ·show qO.l9 _ _ _ (k + 1) _ _ = _
  rw [qO.l9, if_pos (ZE hi)]
  refine bT (v := mk (i + 1) fun i => mk N (elN l N i)) ?_ (by rw [XG (by omega)])
  rw [if_pos (n0 (by omega)), Int.toNat_natCast]
  refine bT (YJ (fun k s x => qO.l23 K l (N : Int) _ (i : Int) k s x) (min N (l.length - i * N)) (fun j => mk N fun c => if c < j then elN l N i c else 0) (mk N (elN l N i)) ?_ (fun k j hj => ?_) (fun k => ?_) (by omega)) ?_
  ·rw [JF]; exact Xr fun c _ => (if_neg (Nat.not_lt_zero c)).symm
  ·show qO.l23 _ _ _ _ _ (k + 1) _ _ = _
   have hj1 : j < N := by omega
   have hj2 : i * N + j < l.length := by omega
   rw [qO.l23, qeQ h6 hi (by omega), if_pos (by rw [ZE hj1, ZE hj2]; rfl), if_pos (YA hj2), Int.toNat_natCast, gD l default hj2, Option.bind_some]
   refine bT (v := elN l N i j) (by unfold elN; rw [if_pos hj2]; rfl) ?_
   rw [Qt, if_pos (YA hj1), Int.toNat_natCast, Xg _ hj1, Option.bind_some, XG (by omega), ZM]
   refine congrArg (fun s => qO.l23 K l (N : Int) _ (i : Int) k s _) (Xr fun c hc => ?_)
   by_cases e : c = j
   ·subst e; rw [if_pos rfl, if_pos (by omega)]
   ·rw [if_neg e]
    by_cases h : c < j
    ·rw [if_pos h, if_pos (by omega)]
    ·rw [if_neg h, if_neg (by omega)]
  ·show qO.l23 _ _ _ _ _ (k + 1) _ _ = _
   rw [qO.l23, qeQ h6 hi (by omega), if_neg (by simp; omega)]
   refine congrArg some (Xr fun c hc => ?_)
   by_cases h : c < min N (l.length - i * N)
   ·rw [if_pos h]
   ·rw [if_neg h, elN, if_neg (by omega)]
  ·rw [Qt, if_pos (by omega), Z4]
 ·show qO.l9 _ _ _ (k + 1) _ _ = _
  rw [qO.l9, if_neg (by rw [ZJ]; simp)]
  rfl
end Go.Proofs.YtglcmhldonkfdaaGreatDoor
set_option maxRecDepth 10000
set_option linter.unusedVariables false
set_option linter.unusedSimpArgs false
namespace Go.Proofs.YtglcmhldonkfdaaGreatDoor
open Go
theorem qeL (K : Nat) (a0 : List Int) {s : Int} : ∀ (e q : Nat) (lo hi : Int), e < q → 0 ≤ lo → lo ≤ hi → hi ≤ 2147483648 → hi - lo < 2 ^ e → lo * lo ≤ s → s < (hi + 1) * (hi + 1) →
  ∃ L, qU.l11 K a0 s q lo hi = some L ∧ 0 ≤ L ∧ L * L ≤ s ∧ s < (L + 1) * (L + 1) := by
 intro e
 induction e with
 | zero =>
  intro q lo hi hq h0 h1 h2 h3 h4 h5
  obtain ⟨q, rfl⟩ : ∃ x, q = x + 1 := ⟨q - 1, by omega⟩
  rw [Int.pow_zero] at h3
  obtain rfl : hi = lo := by omega
  exact ⟨hi, by rw [qU.l11, if_neg (by simp)], h0, h4, h5⟩
 | succ e ih =>
  intro q lo hi hq h0 h1 h2 h3 h4 h5
  obtain ⟨q, rfl⟩ : ∃ x, q = x + 1 := ⟨q - 1, by omega⟩
  rw [Int.pow_succ] at h3
  rw [qU.l11]
  by_cases h : lo < hi
  ·have em : qe (Int.tdiv (qe (qe (lo + hi) + 1)) 2) = (lo + hi + 1) / 2 := by
    rw [Zo (x := lo + hi) (by omega) (by omega), Zo (x := lo + hi + 1) (by omega) (by omega), Int.tdiv_eq_ediv_of_nonneg (by omega), Zo (by omega) (by omega)]
   rw [if_pos (decide_eq_true h), em]
   generalize hm : (lo + hi + 1) / 2 = m
   have hm1 : lo < m ∧ m ≤ hi := by omega
   have hmm := qaO (show 0 ≤ m by omega) (show m ≤ 2147483648 by omega)
   have hm0 := JH m
   rw [Zo (x := m * m) (by omega) (by omega), Option.bind_some]
   by_cases hc : m * m ≤ s
   ·rw [if_pos (decide_eq_true hc)]
    exact ih q m hi (by omega) (by omega) (by omega) h2 (by omega) hc h5
   ·rw [if_neg (by simpa using hc), Zo (x := m - 1) (by omega) (by omega)]
    refine ih q lo (m - 1) (by omega) h0 (by omega) (by omega) (by omega) h4 ?_
    rw [show m - 1 + 1 = m by omega]
    omega
  ·obtain rfl : hi = lo := by omega
   exact ⟨hi, by rw [if_neg (by simp)], h0, h4, h5⟩
theorem qc3 {N : Nat} (hN : N ≤ 4) {w : Nat → Int} (hw : ∀ k, k < N → -536870912 ≤ w k ∧ w k ≤ 536870912) {K : Nat} (hK : 40 < K) : ∃ L, qU K (mk N w) = some L ∧ 0 ≤ L ∧ L * L ≤ Qk w w N ∧ Qk w w N < (L + 1) * (L + 1) := by
 have hd := Zy (n := N) (A := 536870912) (B := 536870912) (by omega) (by omega) hw hw
 have h4 : (N : Int) * (536870912 * 536870912) ≤ 4 * (536870912 * 536870912) := by omega
 have h0 := Wo w N
 obtain ⟨L, h1, h2, h3, h5⟩ := qeL K (mk N w) (s := Qk w w N) 32 K 0 2147483648 (by omega) (by omega) (by omega) (by omega) (by decide) (by omega) (by omega)
 refine ⟨L, ?_, h2, h3, h5⟩
 unfold qU
 refine bT (YJ (fun k s x => qU.l23 K (mk N w) k s x) N (fun j => Qk w w j) _ rfl (fun k i hi => ?_) (fun k => ?_) (by omega)) (bT h1 rfl)
 ·show qU.l23 _ _ (k + 1) _ _ = _
  have d1 := Zy (n := i) (by omega) (by omega) (fun j h => hw j (by omega)) (fun j h => hw j (by omega))
  have d2 := YC (hw i hi) (hw i hi)
  have d3 : (i : Int) * (536870912 * 536870912) ≤ 4 * (536870912 * 536870912) := Int.mul_le_mul_of_nonneg_right (by omega) (by omega)
  rw [qU.l23, Qt, if_pos (ZE hi), if_pos (YA hi), Int.toNat_natCast, Xg _ hi, Option.bind_some, if_pos (YA hi), Option.bind_some, Zo (x := w i * w i) (by omega) (by omega), Zo (by omega) (by omega), XG (by omega)]
  rfl
 ·show qU.l23 _ _ (k + 1) _ _ = _
  rw [qU.l23, Qt, if_neg (by rw [ZJ]; simp)]
theorem qdT {s L M : Int} (hL : 0 ≤ L) (hM : 0 ≤ M) (h1 : L * L ≤ s) (h2 : s < (L + 1) * (L + 1)) (h3 : M * M ≤ s) (h4 : s < (M + 1) * (M + 1)) : L = M := by
 have a := Wr hL (show 0 ≤ M + 1 by omega) (by omega)
 have b := Wr hM (show 0 ≤ L + 1 by omega) (by omega)
 omega
end Go.Proofs.YtglcmhldonkfdaaGreatDoor
set_option maxRecDepth 10000
set_option linter.unusedVariables false
set_option linter.unusedSimpArgs false
namespace Go.Proofs.YtglcmhldonkfdaaGreatDoor
open Go
theorem qa3 {a b : Int} (hb : 0 < b) (ha1 : -4611686018427387904 ≤ a) (ha2 : a ≤ 4611686018427387904) (hb2 : b ≤ 4611686018427387904) : XS a b = some (a / b) := Wa hb ha1 ha2 hb2
theorem WY {N j K : Nat} (hN : N ≤ 4) (hj : j ≤ 4) (hK : 10 < K) (w : Nat → Int) (u : Nat → Nat → Int) (hB : ∀ q, q ≤ j → ∀ k, k < N → -118000000 ≤ ZR N u ((List.range j).take q) w k ∧ ZR N u ((List.range j).take q) w k ≤ 118000000) (hu : ∀ t, t < j → ∀ k, k < N → -65554 ≤ u t k ∧ u t k ≤ 65554) :
  qr K (mk N w) (mk j fun t => mk N (u t)) = some (mk N (ZR N u (List.range j) w)) := by
 unfold qr
 rw [if_pos ⟨by rw [Qt]; omega, by decide⟩, List.nil_append]
 refine bT (YJ (fun m s x => qr.l10 K (mk N w) (mk j fun t => mk N (u t)) m s x) j (fun q => mk N (ZR N u ((List.range j).take q) w)) (mk N (ZR N u (List.range j) w)) rfl (fun m q hq => ?_) (fun m => ?_) (by omega)) rfl
 ·show qr.l10 _ _ _ (m + 1) _ _ = _
  have ht : (List.range j)[q]? = some q := by simp [hq]
  have hw := hB q (by omega)
  have huq := hu q hq
  rw [qr.l10, Qt, if_pos (ZE hq), XG (by omega), qaG N u (List.range j) w ht]
  generalize ZR N u ((List.range j).take q) w = x at *
  have bdn : ∀ n, n ≤ N → -500000000 ≤ Vg x (u q) n ∧ Vg x (u q) n ≤ 500000000 := fun n hn => by
   have h1 := qaV x (u q) n
   have h2 := Zy (a := x) (b := u q) (A := 118000000) (B := 65554) (by omega) (by omega) (n := n) (fun k hk => hw k (by omega)) (fun k hk => huq k (by omega))
   omega
  have gq : (mk j fun t => mk N (u t))[q]? = some (mk N (u q)) := Xg _ hq
  refine bT (v := mk N (Vl N x (u q))) (bT (v := Vg x (u q) N) ?_ ?_) rfl
  ·refine YJ (fun m s i => qr.l40 K (mk N w) (mk j fun t => mk N (u t)) (mk N x) (q : Int) m s i) N (fun i => Vg x (u q) i) _ rfl (fun m i hi => ?_) (fun m => ?_) (by omega)
   ·show qr.l40 _ _ _ _ _ (m + 1) _ _ = _
    have b1 := bdn i (by omega)
    have b2 := bdn (i + 1) (by omega)
    have b3 := YC (hw i hi) (huq i hi)
    rw [Vg] at b2
    rw [qr.l40, Qt, if_pos (ZE hi), if_pos (YA hi), Int.toNat_natCast, Xg _ hi, Option.bind_some, Qt, if_pos (YA hq), Int.toNat_natCast, gq, Option.bind_some, Qt, if_pos (YA hi), Xg _ hi, Option.bind_some, Zo (x := x i * u q i) (by omega) (by omega), qa3 (by omega) (by omega) (by omega) (by omega), Option.bind_some, Zo (by omega) (by omega), XG (by omega)]
    rfl
   ·show qr.l40 _ _ _ _ _ (m + 1) _ _ = _
    rw [qr.l40, Qt, if_neg (by rw [ZJ]; simp)]
  ·have hc := bdn N (Nat.le_refl _)
   refine YJ (fun m s i => qr.l21 K (mk N w) (mk j fun t => mk N (u t)) (mk N x) (q : Int) (Vg x (u q) N) m s i) N (fun i => mk N fun k => if k < i then Vl N x (u q) k else x k) _ (Xr fun k _ => (if_neg (Nat.not_lt_zero k)).symm) (fun m i hi => ?_) (fun m => ?_) (by omega)
   ·show qr.l21 _ _ _ _ _ _ (m + 1) _ _ = _
    have b3 := YC hc (huq i hi)
    have b4 := hw i hi
    have hst : qe (x i - Vg x (u q) N * u q i / 65536) = Vl N x (u q) i := by rw [Vl, Zo (by omega) (by omega)]
    rw [qr.l21, Qt, if_pos (ZE hi), if_pos (YA hi), Int.toNat_natCast, Xg _ hi, if_neg (Nat.lt_irrefl i), Option.bind_some, Qt, if_pos (YA hq), Int.toNat_natCast, gq, Option.bind_some, Qt, if_pos (YA hi), Xg _ hi, Option.bind_some, Zo (x := Vg x (u q) N * u q i) (by omega) (by omega), qa3 (by omega) (by omega) (by omega) (by omega), Option.bind_some, if_pos (YA hi), Option.bind_some, hst, XG (by omega), ZM]
    refine congrArg (fun s => qr.l21 K (mk N w) (mk j fun t => mk N (u t)) (mk N x) (q : Int) (Vg x (u q) N) m s _) (Xr fun k hk => ?_)
    by_cases e : k = i
    ·subst e; rw [if_pos rfl, if_pos (Nat.lt_succ_self k)]
    ·rw [if_neg e]
     by_cases h : k < i
     ·rw [if_pos h, if_pos (show k < i + 1 by omega)]
     ·rw [if_neg h, if_neg (show ¬ k < i + 1 by omega)]
   ·show qr.l21 _ _ _ _ _ _ (m + 1) _ _ = _
    rw [qr.l21, Qt, if_neg (by rw [ZJ]; simp)]
    exact congrArg some (Xr fun k hk => if_pos hk)
 ·show qr.l10 _ _ _ (m + 1) _ _ = _
  have e : (List.range j).take j = List.range j := by
   have := List.take_length (l := List.range j)
   rwa [List.length_range] at this
  rw [qr.l10, Qt, if_neg (by rw [ZJ]; simp), e]
theorem qfL {N j K : Nat} (hN : N ≤ 4) (hj : j ≤ 4) (hK : 10 < K) {w : Nat → Int} {u : Nat → Nat → Int} (C : qeK N j u w) (hu : ∀ t, t < j → ∀ k, k < N → -65554 ≤ u t k ∧ u t k ≤ 65554) :
  ∃ x y, qr K (mk N w) (mk j fun t => mk N (u t)) = some x ∧ qr K x (mk j fun t => mk N (u t)) = some y ∧ qr K y (mk j fun t => mk N (u t)) = some (mk N (ZW N j u w)) := by
 have e1 : ∀ q, q ≤ j → (JP j).take q = (List.range j).take q := fun q hq => by
  unfold JP
  rw [List.append_assoc, List.take_append_of_le_length (by rw [List.length_range]; exact hq)]
 have e2 : ∀ q, q ≤ j → (JP j).take (j + q) = List.range j ++ (List.range j).take q := fun q hq => by
  unfold JP
  rw [List.append_assoc, List.take_append, List.length_range, List.take_append_of_le_length (by rw [List.length_range]; omega)]
  rw [show j + q - j = q by omega]
  congr 1
  exact List.take_of_length_le (by rw [List.length_range]; omega)
 have e3 : ∀ q, q ≤ j → (JP j).take (j + j + q) = List.range j ++ List.range j ++ (List.range j).take q := fun q hq => by
  unfold JP
  rw [List.take_append, List.length_append, List.length_range]
  rw [show j + j + q - (j + j) = q by omega]
  congr 1
  exact List.take_of_length_le (by rw [List.length_append, List.length_range]; omega)
 refine ⟨mk N (ZR N u (List.range j) w), mk N (ZR N u (List.range j) (ZR N u (List.range j) w)), ?_, ?_, ?_⟩
 ·exact WY hN hj hK w u (fun q hq => by rw [← e1 q hq]; exact C.mid q (by omega)) hu
 ·exact WY hN hj hK _ u (fun q hq => by rw [← Jp, ← e2 q hq]; exact C.mid (j + q) (by omega)) hu
 ·have := WY hN hj hK (ZR N u (List.range j) (ZR N u (List.range j) w)) u (fun q hq => by rw [← Jp, ← Jp, ← List.append_assoc, ← e3 q hq]; exact C.mid (j + j + q) (by omega)) hu
  rw [this, ← Jp, ← Jp, ← List.append_assoc]
  rfl
theorem qf4 {N i : Nat} (hi : i < N) : (List.replicate N (0 : Int)).set i 65536 = mk N (J3 i) := by
 rw [JF, ZM]
 exact Xr fun k hk => rfl
theorem qfm {N K : Nat} (hN : N ≤ 4) (hK : N < K) (w : Nat → Int) {L : Int} (hL : 0 < L ∧ L ≤ 1073741824) (hw : ∀ k, k < N → -118000000 ≤ w k ∧ w k ≤ 118000000) (a0 : List Int) (a1 : List (List Int)) (x6 : List Int) (x7 : Int) (j16 : List Int × Int) (t18 t19 t20 : List Int) :
  qF.l30 K a0 a1 x6 x7 j16 t18 t19 t20 L K (mk N w) 0 = some (mk N (JU w L)) := by
 refine YJ (fun m s i => qF.l30 K a0 a1 x6 x7 j16 t18 t19 t20 L m s i) N (fun i => mk N fun k => if k < i then JU w L k else w k) _ (Xr fun k _ => (if_neg (Nat.not_lt_zero k)).symm) (fun m i hi => ?_) (fun m => ?_) hK
 ·show qF.l30 _ _ _ _ _ _ _ _ _ _ (m + 1) _ _ = _
  have b := hw i hi
  rw [qF.l30, Qt, if_pos (ZE hi), if_pos (YA hi), Int.toNat_natCast, Xg _ hi, if_neg (Nat.lt_irrefl i), Option.bind_some, Zo (x := w i * 65536) (by omega) (by omega), qa3 hL.1 (by omega) (by omega) (by omega), Option.bind_some, if_pos (YA hi), Option.bind_some, XG (by omega), ZM]
  refine congrArg (fun s => qF.l30 K a0 a1 x6 x7 j16 t18 t19 t20 L m s _) (Xr fun k hk => ?_)
  by_cases e : k = i
  ·subst e; rw [if_pos rfl, if_pos (Nat.lt_succ_self k)]; rfl
  ·rw [if_neg e]
   by_cases h : k < i
   ·rw [if_pos h, if_pos (show k < i + 1 by omega)]
   ·rw [if_neg h, if_neg (show ¬ k < i + 1 by omega)]
 ·show qF.l30 _ _ _ _ _ _ _ _ _ _ (m + 1) _ _ = _
  rw [qF.l30, Qt, if_neg (by rw [ZJ]; simp)]
  exact congrArg some (Xr fun k hk => if_pos hk)
end Go.Proofs.YtglcmhldonkfdaaGreatDoor
set_option maxRecDepth 10000
set_option linter.unusedVariables false
set_option linter.unusedSimpArgs false
namespace Go.Proofs.YtglcmhldonkfdaaGreatDoor
open Go
theorem qbW {N j K : Nat} {u : Nat → Nat → Int} (C : JT N j (bOf j) u) (hj : j < N) (hK : 60 < K) {w : Nat → Int} (hw : ∀ k, k < N → -16777216 ≤ w k ∧ w k ≤ 16777216) :
  ∃ v c L, qJ K (N : Int) (mk j fun t => v6 N (u t)) (v6 N w :: mk N fun i => v6 N (J3 i)) = some ((N : Int), (mk j fun t => v6 N (u t)) ++ [v6 N v]) ∧ qF K (mk N w) (mk j fun t => mk N (u t)) = some (mk N v) ∧ Col N j u w v c L := by
 have hN := C.n4
 have cw : ∀ q k, k < N → -16777216 ≤ ZG w q k ∧ ZG w q k ≤ 16777216 := fun q k hk => by
  unfold ZG
  split
  ·exact hw k hk
  ·unfold J3; split <;> omega
 have calmq := fun q => qgo C (by omega) (cw q)
 rw [qgg]
 unfold qJ qF
 -- one round
 have round : ∀ m m' q c0, q ≤ N → (q = 0 → c0 = w) → ∃ L, 0 ≤ L ∧ L ≤ 1073741824 ∧ L * L ≤ Qk (ZW N j u (ZG w q)) (ZW N j u (ZG w q)) N ∧ Qk (ZW N j u (ZG w q)) (ZW N j u (ZG w q)) N < (L + 1) * (L + 1) ∧
   qJ.l5 K (N : Int) (mk j fun t => v6 N (u t)) (mk (N + 1) fun q => v6 N (ZG w q)) (m + 1) (ZH q) (q : Int) = (if ZH q ≤ L then some ((N : Int), (mk j fun t => v6 N (u t)) ++ [v6 N (JU (ZW N j u (ZG w q)) L)]) else qJ.l5 K (N : Int) (mk j fun t => v6 N (u t)) (mk (N + 1) fun q => v6 N (ZG w q)) m (ZH (q + 1)) ((q + 1 : Nat) : Int)) ∧
   qF.l8 K (mk N w) (mk j fun t => mk N (u t)) (m' + 1) (mk N c0) ((q : Int) - 1) = (if ZH q ≤ L then some (.inl (mk N (JU (ZW N j u (ZG w q)) L))) else qF.l8 K (mk N w) (mk j fun t => mk N (u t)) m' (mk N (ZG w q)) (((q + 1 : Nat) : Int) - 1)) := fun m m' q c0 hq h0 => by
  have hb := (calmq q).end_
  obtain ⟨L, l0, l1, l2, l3, l4⟩ := qfS hN (show 40 < K by omega) _ hb
  obtain ⟨L', r0, r1, r2, r3⟩ := qc3 (N := N) hN (w := ZW N j u (ZG w q)) (fun k hk => by have := hb k hk; omega) (K := K) (by omega)
  obtain rfl := qdT l0 r1 l2 l3 r2 r3
  have hL : L ≤ 1073741824 := by
   have h5 := Zy (a := ZW N j u (ZG w q)) (b := ZW N j u (ZG w q)) (A := 118000000) (B := 118000000) (by omega) (by omega) (n := N) hb hb
   have h6 : (N : Int) * (118000000 * 118000000) ≤ 4 * (118000000 * 118000000) := by omega
   have := Wr l0 (show (0 : Int) ≤ 1073741825 by omega) (by omega)
   omega
  refine ⟨L, l0, hL, l2, l3, ?_, ?_⟩
  ·rw [qJ.l5, Qt, if_pos (ZE (show q < N + 1 by omega)), if_pos (YA (show q < N + 1 by omega)), Int.toNat_natCast, Xg _ (show q < N + 1 by omega), Option.bind_some]
   rw [qc9 hN (by omega) (by omega) _ u (calmq q).mid (fun t ht k hk => C.comp ht hk), Option.bind_some, l4, Option.bind_some]
   by_cases hl : ZH q ≤ L
   ·have hl0 : 4096 ≤ L := by unfold ZH at hl; split at hl <;> omega
    rw [if_pos (decide_eq_true hl), if_pos hl]
    have e := qfI (K := K) hN (by omega) (ZW N j u (ZG w q)) (L := L) ⟨by omega, hL⟩ hb (mk j fun t => v6 N (u t)) (mk (N + 1) fun q => v6 N (ZG w q)) (ZH q) (q : Int) (v6 N (ZG w q)) (v6 N (ZW N j u (ZG w q)))
    refine bT (v := .inl ((N : Int), (mk j fun t => v6 N (u t)) ++ [v6 N (JU (ZW N j u (ZG w q)) L)])) (bT (v := .inl (.inl ((N : Int), (mk j fun t => v6 N (u t)) ++ [v6 N (JU (ZW N j u (ZG w q)) L)]))) (bT e ?_) rfl) rfl
    rw [Qt, if_pos (by omega)]
    rfl
   ·rw [if_neg (by simpa using hl), if_neg hl]
    show qJ.l5 K (N : Int) _ _ m 16384 (qe ((q : Int) + 1)) = _
    rw [XG (by omega), show ZH (q + 1) = 16384 from if_neg (by omega)]
  ·obtain ⟨x, y, t1, t2, t3⟩ := qfL hN (by omega) (show 10 < K by omega) (calmq q) (fun t ht k hk => C.comp ht hk)
   rw [qF.l8, Qt, if_pos (decide_eq_true (show (q : Int) - 1 < (N : Int) by omega))]
   have pick : (if (decide ((q : Int) - 1 ≥ 0)) = true then
     if 0 ≤ (N : Int) ∧ (N : Int) < 1000000 then
      if 0 ≤ (q : Int) - 1 ∧ (q : Int) - 1 < ((List.replicate (N : Int).toNat (0 : Int)).length : Int) then
       ((List.replicate (N : Int).toNat (0 : Int))[((q : Int) - 1).toNat]?).bind fun t46 =>
       some (((List.replicate (N : Int).toNat (0 : Int)).set ((q : Int) - 1).toNat 65536), 16384)
      else none
     else none
    else
     some (mk N c0, 4096)) = some (mk N (ZG w q), ZH q) := by
    by_cases e : q = 0
    ·subst e
     rw [if_neg (by simp), h0 rfl]
     rfl
    ·have hq1 : q - 1 < N := by omega
     have e1 : (q : Int) - 1 = ((q - 1 : Nat) : Int) := by omega
     rw [if_pos (by simp; omega), if_pos (n0 (by omega)), e1, Int.toNat_natCast, Int.toNat_natCast, List.length_replicate, if_pos (YA hq1), JF, Xg _ hq1, Option.bind_some, ← JF, qf4 hq1]
     unfold ZG ZH
     rw [if_neg e, if_neg e]
   by_cases hl : ZH q ≤ L
   ·have hl0 : 4096 ≤ L := by unfold ZH at hl; split at hl <;> omega
    rw [if_pos hl]
    refine bT (v := .inl (.inl (mk N (JU (ZW N j u (ZG w q)) L)))) (bT pick (bT t1 (bT t2 (bT t3 (bT r0 ?_))))) rfl
    rw [if_neg (by show ¬ decide (L < ZH q) = true; simp; omega)]
    exact bT (qfm hN (by omega) _ ⟨by omega, hL⟩ hb _ _ _ _ _ _ _ _) rfl
   ·rw [if_neg hl]
    refine bT (v := .inr (mk N (ZG w q))) (bT pick (bT t1 (bT t2 (bT t3 (bT r0 ?_))))) ?_
    ·rw [if_pos (by show decide (L < ZH q) = true; simp; omega)]
    ·show qF.l8 _ _ _ m' _ (qe ((q : Int) - 1 + 1)) = _
     rw [Zo (by omega) (by omega), show (q : Int) - 1 + 1 = ((q + 1 : Nat) : Int) - 1 by omega]
 -- some candidate is long enough
 obtain ⟨i, hi, hlong⟩ := qcZ C hj
 have key : ∀ d q m m' c0, q + d = i + 1 → d < m → d < m' → (q = 0 → c0 = w) → (q ≠ 0 → Qk (ZW N j u w) (ZW N j u w) N < 4096 * 4096) →
   ∃ v c L, qJ.l5 K (N : Int) (mk j fun t => v6 N (u t)) (mk (N + 1) fun q => v6 N (ZG w q)) m (ZH q) (q : Int) = some ((N : Int), (mk j fun t => v6 N (u t)) ++ [v6 N v]) ∧ qF.l8 K (mk N w) (mk j fun t => mk N (u t)) m' (mk N c0) ((q : Int) - 1) = some (.inl (mk N v)) ∧ Col N j u w v c L := by
  intro d
  induction d with
  | zero =>
   intro q m m' c0 hq hm hm' h00 hf
   obtain ⟨m, rfl⟩ : ∃ x, m = x + 1 := ⟨m - 1, by omega⟩
   obtain ⟨m', rfl⟩ : ∃ x, m' = x + 1 := ⟨m' - 1, by omega⟩
   obtain ⟨L, h0, h1, h2, h3, h4, h5⟩ := round m m' q c0 (by omega) h00
   have ec : ZG w q = J3 i := by unfold ZG; rw [if_neg (by omega), show q - 1 = i by omega]
   have hl : ZH q ≤ L := by
    rw [ec] at h3
    unfold ZH; rw [if_neg (by omega)]
    have := Wr (show (0 : Int) ≤ 16384 by omega) (show 0 ≤ L + 1 by omega) (by omega)
    omega
   rw [if_pos hl] at h4 h5
   have hl0 : 16384 ≤ L := by unfold ZH at hl; rw [if_neg (by omega)] at hl; exact hl
   exact ⟨_, ZG w q, L, h4, h5, rfl, by omega, h1, h2, h3, .inr ⟨i, hi, ec⟩, fun h => by have := hf (by omega); omega⟩
  | succ d ih =>
   intro q m m' c0 hq hm hm' h00 hf
   obtain ⟨m, rfl⟩ : ∃ x, m = x + 1 := ⟨m - 1, by omega⟩
   obtain ⟨m', rfl⟩ : ∃ x, m' = x + 1 := ⟨m' - 1, by omega⟩
   obtain ⟨L, h0, h1, h2, h3, h4, h5⟩ := round m m' q c0 (by omega) h00
   by_cases hl : ZH q ≤ L
   ·rw [if_pos hl] at h4 h5
    have hl0 : 4096 ≤ L := by unfold ZH at hl; split at hl <;> omega
    refine ⟨_, ZG w q, L, h4, h5, rfl, hl0, h1, h2, h3, ?_, ?_⟩
    ·by_cases e : q = 0
     ·exact .inl (if_pos e)
     ·exact .inr ⟨q - 1, by omega, if_neg e⟩
    ·intro h
     by_cases e : q = 0
     ·exact if_pos e
     ·have := hf e; omega
   ·rw [if_neg hl] at h4 h5
    rw [h4, h5]
    refine ih (q + 1) m m' (ZG w q) (by omega) (by omega) (by omega) (fun h => absurd h (by omega)) fun _ => ?_
    by_cases e : q = 0
    ·have ec : ZG w q = w := if_pos e
     rw [ec] at h3
     have hl2 : L < 4096 := by unfold ZH at hl; rw [if_pos e] at hl; omega
     have := qaO (show 0 ≤ L + 1 by omega) (show L + 1 ≤ 4096 by omega)
     omega
    ·exact hf e
 obtain ⟨v, c, L, h1, h2, h3⟩ := key (i + 1) 0 K K w (by omega) (by omega) (by omega) (fun _ => rfl) (fun h => absurd rfl h)
 exact ⟨v, c, L, h1, bT h2 rfl, h3⟩
theorem qdb {N K : Nat} (hN : N ≤ 4) (hK : 60 < K) {m : Nat → Nat → Int} (hm : ∀ i, i < N → ∀ k, k < N → -16777216 ≤ m i k ∧ m i k ≤ 16777216) :
  ∀ (d j : Nat) (u : Nat → Nat → Int) (q q' : Nat), j + d = N → d < q → d < q' → Ort N m j u →
  ∃ u', Ort N m N u' ∧ qt.l17 K (mm N N m) (mk N fun i => v6 N (J3 i)) q (N : Int) (mk j fun t => v6 N (u t)) (j : Int) = some ((N : Int), mk N fun t => v6 N (u' t)) ∧
   qK.l21 K (mm N N m) q' (mk j fun t => mk N (u t)) (j : Int) = some (mm N N u') := by
 intro d
 induction d with
 | zero =>
  intro j u q q' hj hq hq' O
  obtain ⟨q, rfl⟩ : ∃ x, q = x + 1 := ⟨q - 1, by omega⟩
  obtain ⟨q', rfl⟩ : ∃ x, q' = x + 1 := ⟨q' - 1, by omega⟩
  obtain rfl : j = N := by omega
  exact ⟨u, O, by rw [qt.l17, QW, if_neg (by rw [ZJ]; simp)], by rw [qK.l21, QW, if_neg (by rw [ZJ]; simp)]; rfl⟩
 | succ d ih =>
  intro j u q q' hj hq hq' O
  obtain ⟨q, rfl⟩ : ∃ x, q = x + 1 := ⟨q - 1, by omega⟩
  obtain ⟨q', rfl⟩ : ∃ x, q' = x + 1 := ⟨q' - 1, by omega⟩
  obtain ⟨v, c, L, he, hr, hc⟩ := qbW O.cols (show j < N by omega) hK (w := fun i => m i j) (fun k hk => hm k hk j (by omega))
  obtain ⟨u', hO, hl, hl'⟩ := ih (j + 1) (fun t => if t = j then v else u t) q q' (by omega) (by omega) (by omega) (O.grow hm (by omega) hc)
  refine ⟨u', hO, ?_, ?_⟩
  ·have hg : (mk j fun t => v6 N (u t)) ++ [v6 N v] = mk (j + 1) fun t => v6 N (if t = j then v else u t) := by
    rw [Z4, if_pos rfl]
    exact congrArg (· ++ [v6 N v]) (Xr fun t ht => by rw [if_neg (by omega)])
   rw [hg] at he
   rw [qt.l17, QW, if_pos (ZE (show j < N by omega))]
   refine bT (v := ((N : Int), mk (j + 1) fun t => v6 N (if t = j then v else u t))) (bT (qdk hN (by omega) (by omega) m _ _ _) ?_) ?_
   ·rw [if_pos ⟨by rw [Qt]; omega, by show 1 < 1000000; omega⟩]
    exact bT he rfl
   ·rw [XG (by omega)]
    exact hl
  ·have hg : (mk j fun t => mk N (u t)) ++ [mk N v] = mk (j + 1) fun t => mk N (if t = j then v else u t) := by
    rw [Z4, if_pos rfl]
    exact congrArg (· ++ [mk N v]) (Xr fun t ht => by rw [if_neg (by omega)])
   rw [qK.l21, QW, if_pos (ZE (show j < N by omega))]
   refine bT (qeo (by omega) (by omega) m (by omega)) (bT hr ?_)
   rw [Qt, if_pos (by omega), hg, XG (by omega)]
   exact hl'
theorem qdc {N K : Nat} (hN : N ≤ 4) (hK : 60 < K) {m : Nat → Nat → Int} (hm : ∀ i, i < N → ∀ k, k < N → -16777216 ≤ m i k ∧ m i k ≤ 16777216) :
  ∃ u : Nat → Nat → Int, qt K (mm N N m) = some (mm N N u) ∧ qK K (mm N N m) = some (mm N N u) := by
 obtain ⟨u, O, hl, hl'⟩ := qdb hN hK hm N 0 (fun _ _ => 0) K K (by omega) (by omega) (by omega) (Ort.none N hN m _)
 have hn : N < 1000000 := by omega
 refine ⟨fun i k => u k i, ?_, ?_⟩
 ·unfold qt
  rw [QW, if_pos (n0 hn), Int.toNat_natCast]
  refine bT (qd4 hN (by omega) _ (QW _ _ _)) (bT hl (bT (v := mm N N fun i k => u k i) ?_ rfl))
  unfold qS
  rw [if_pos (n0 hn), Int.toNat_natCast]
  refine bT (JK (fun k s x => qS.l10 K (N : Int) _ k s x) N (fun i k => u k i) (fun k i hi => ?_) (fun k acc => ?_) (by omega)) rfl
  ·show qS.l10 _ _ _ (k + 1) _ _ = _
   rw [qS.l10, if_pos (ZE hi)]
   refine bT (Jm (fun k s x => qS.l19 K (N : Int) _ _ (i : Int) k s x) N i hi (fun i k => u k i) hn (fun k acc j row hj ha hr hw => ?_) (fun k acc => ?_) (by omega)) (by rw [XG (by omega)])
   ·show qS.l19 _ _ _ _ _ (k + 1) _ _ = _
    rw [qS.l19, if_pos (ZE hj), ha, if_pos (YA hi), Int.toNat_natCast, hr, Option.bind_some, o1m hN hi hj _ u, Option.bind_some, if_pos hw, if_pos (YA hi), Option.bind_some, XG (by omega)]
   ·show qS.l19 _ _ _ _ _ (k + 1) _ _ = _
    rw [qS.l19, if_neg (by rw [ZJ]; simp)]
  ·show qS.l10 _ _ _ (k + 1) _ _ = _
   rw [qS.l10, if_neg (by rw [ZJ]; simp)]
 ·unfold qK
  rw [qcT] at hl'
  refine bT hl' (bT (Zb (fun k s x => qK.l11 K (mm N N m) (mm N N u) k s x) N (fun i => mk N fun k => u k i) hn (fun k acc i hi ha => ?_) (fun k acc => ?_) (by omega)) rfl)
  ·rw [qK.l11, QW, if_pos (ZE hi), qeo hn hi u (by omega), Option.bind_some, if_pos ha, XG (by omega)]
  ·rw [qK.l11, QW, if_neg (by rw [ZJ]; simp)]
end Go.Proofs.YtglcmhldonkfdaaGreatDoor
set_option maxRecDepth 10000
namespace Go.Proofs.YtglcmhldonkfdaaGreatDoor
open Go
theorem qgp (m : Nat) : Yy (m + 100) = some true := by kernel_rfl
end Go.Proofs.YtglcmhldonkfdaaGreatDoor
