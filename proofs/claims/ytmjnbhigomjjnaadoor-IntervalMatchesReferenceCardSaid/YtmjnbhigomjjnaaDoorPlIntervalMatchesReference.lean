/- The law of the reference, over the printed plain functions: it answers true. Own work. -/
import Derived.Test.YtmjnbhigomjjnaaDoorPlIntervalTightness
import Derived.Test.YtmjnbhigomjjnaaDoorPlIntervalIsotonic
import Derived.Test.YtmjnbhigomjjnaaDoorPlIntervalMeasures
import Derived.Test.YtmjnbhigomjjnaaDoorPlIntervalAlgebra
namespace Go.Proofs.YtmjnbhigomjjnaaDoor
set_option maxRecDepth 10000
set_option linter.unusedSimpArgs false
set_option linter.unusedVariables false

theorem ivalid_eq (a : TInterval) : interval_Valid a = some (decide (Ok a)) := by
  unfold interval_Valid
  by_cases h : a = Ent
  · refine bT (isEnt.trans (congrArg some (decide_eq_true h))) (gF Bool.false_ne_true (gF Bool.false_ne_true ?_))
    rw [decide_eq_true (show Ok a from .inl h)]
    rfl
  · refine bT (isEnt.trans (congrArg some (decide_eq_false h))) (gT rfl (fvalid_eq _) ?_)
    have e : Ok a ↔ Fin a := ⟨fun g => g.resolve_left h, .inr⟩
    by_cases h1 : -2147483648 < a.Lo ∧ a.Lo < 2147483648
    · rw [decide_eq_true h1]
      refine gT rfl (fvalid_eq _) ?_
      by_cases h2 : (-2147483648 < a.Hi ∧ a.Hi < 2147483648) ∧ a.Lo ≤ a.Hi
      · rw [decide_eq_true h2.1, decide_eq_true h2.2, decide_eq_true (e.2 (by unfold Fin; omega))]
        rfl
      · have hno : decide (Ok a) = false := decide_eq_false (fun g => h2 (by have := e.1 g; unfold Fin at this; omega))
        rw [hno]
        by_cases h3 : -2147483648 < a.Hi ∧ a.Hi < 2147483648
        · have h4 : decide (a.Lo ≤ a.Hi) = false := decide_eq_false (fun g => h2 ⟨h3, g⟩)
          rw [h4]; simp
        · rw [decide_eq_false h3]; simp
    · have hno : decide (Ok a) = false := decide_eq_false (fun g => h1 (by have := e.1 g; unfold Fin at this; omega))
      rw [hno, decide_eq_false h1]
      exact gF Bool.false_ne_true rfl
theorem rcont_eq (a : TInterval) (x : Int) : armillaryref02_Contains a x = interval_Contains a x := by
  rw [contains_eq]
  unfold armillaryref02_Contains
  exact bT ref_isEnt rfl

theorem root_ref (k0 : Nat) {n s : Int} (s0 : 0 ≤ s) (s1 : s * s ≤ n) (s2 : n < (s + 1) * (s + 1)) :
    ∀ (j K : Nat) (x : Int), j + 2 ≤ K → 0 ≤ x → x * x ≤ n → n < (x + 2 * 2 ^ j) * (x + 2 * 2 ^ j) → x + 2 * 2 ^ j ≤ 2147483648 → armillaryref02_Root.l9 k0 n K x (2 ^ j) = some s
  | j, 0, x, h, _, _, _, _ => by omega
  | j, K + 1, x, h, h0, h1, h2, h3 => by
    unfold armillaryref02_Root.l9
    have p1 : (0 : Int) < 2 ^ j := Int.pow_pos (by omega)
    refine iT (decide_eq_true p1) ?_
    have w1 : w_i64 (x + 2 ^ j) = x + 2 ^ j := w64 (by omega) (by omega)
    have b := prod_bound (x := x + 2 ^ j) (y := x + 2 ^ j) (A := 2147483648) (B := 2147483648) (by omega) (by omega)
    rw [w1, w64 (x := (x + 2 ^ j) * (x + 2 ^ j)) (by omega) (by omega)]
    have key : ∀ y : Int, 0 ≤ y → y * y ≤ n → n < (y + 2 ^ j) * (y + 2 ^ j) → y + 2 ^ j ≤ 2147483648 → armillaryref02_Root.l9 k0 n K y (w_i64 (Int.tdiv (2 ^ j) 2)) = some s := by
      intro y y0 y1 y2 y3
      cases j with
      | zero =>
        have e : w_i64 (Int.tdiv (2 ^ 0) 2) = 0 := by decide
        rw [e]
        obtain ⟨K', rfl⟩ : ∃ K', K = K' + 1 := ⟨K - 1, by omega⟩
        unfold armillaryref02_Root.l9
        refine iF Bool.false_ne_true ?_
        have a1 := sq_lt y0 (by omega : 0 ≤ s + 1) (by omega)
        have a2 := sq_lt s0 (by omega : 0 ≤ y + 2 ^ 0) (by omega)
        congr 1
        have e2 : (2 : Int) ^ 0 = 1 := by decide
        rw [e2] at a2
        omega
      | succ j =>
        have e : (2 : Int) ^ (j + 1) = 2 * 2 ^ j := by rw [Int.pow_succ]; omega
        have p2 : (0 : Int) < 2 ^ j := Int.pow_pos (by omega)
        have e3 : w_i64 (Int.tdiv (2 ^ (j + 1)) 2) = 2 ^ j := by
          rw [e, Int.tdiv_eq_ediv_of_nonneg (by omega)]
          rw [show (2 * (2 : Int) ^ j) / 2 = 2 ^ j by omega]
          rw [e] at y3
          exact w64 (by omega) (by omega)
        rw [e3]
        rw [e] at y2 y3
        exact root_ref k0 s0 s1 s2 j K y (by omega) y0 y1 y2 y3
    by_cases g : (x + 2 ^ j) * (x + 2 ^ j) ≤ n
    · refine bT (v := x + 2 ^ j) (iT (decide_eq_true g) rfl) (key _ (by omega) g ?_ (by omega))
      have e : x + 2 ^ j + 2 ^ j = x + 2 * 2 ^ j := by omega
      rw [e]
      exact h2
    · exact bT (v := x) (iF (by simpa using g) rfl) (key _ h0 h1 (by omega) (by omega))
theorem root_is {k0 : Nat} (hk : 4294967296 < k0) {n s t : Int} (R : Root n s t) (hn : n ≤ 140737488355328) : armillaryref02_Root k0 n = some s := by
  unfold armillaryref02_Root
  have h0 : 0 ≤ n := by have := R.le; have := Int.mul_nonneg R.s0 R.s0; omega
  have e : (1073741824 : Int) = 2 ^ 30 := by decide
  rw [e]
  exact bT (root_ref k0 R.s0 R.le R.lt 30 k0 0 (by omega) (by omega) (by omega) (by simp only [Int.reducePow]; omega) (by simp only [Int.reducePow]; omega)) rfl
theorem rsqrt_eq {k0 : Nat} (hk : 4294967296 < k0) {a : TInterval} (ha : Ok a) : ∃ R, interval_Sqrt k0 a = some R ∧ armillaryref02_Sqrt k0 a = some R := by
  unfold armillaryref02_Sqrt
  rcases ha with rfl | fa
  · exact ⟨_, isqrt_ent k0, bT ref_isEnt_ent (iT rfl rfl)⟩
  · rcases Int.lt_or_le a.Hi 0 with h0 | h0
    · exact ⟨_, isqrt_below k0 fa h0, bT (ref_isEnt_fin fa) (iF Bool.false_ne_true (iT (decide_eq_true h0) rfl))⟩
    · obtain ⟨s, t, u, v, hs, R1, R2, st, fs⟩ := isqrt_fin hk fa h0
      have fa' := fa
      unfold Fin at fa'
      have x1 := mxl a.Lo 0
      have b2 := R2.bound (by omega)
      have v0 := R2.s0
      have vt := R2.st
      have pb := prod_bound (x := v) (y := v) (A := 16777216) (B := 16777216) (by omega) (by omega)
      refine ⟨_, hs, bT (ref_isEnt_fin fa) (iF Bool.false_ne_true (iF (by simpa using h0) ?_))⟩
      rw [w64 (x := mx a.Lo 0 * 65536) (by omega) (by omega), w64 (x := a.Hi * 65536) (by omega) (by omega)]
      refine bT (root_is hk R1 (by omega)) (bT (root_is hk R2 (by omega)) (bT (v := t) ?_ (bT ((refnew_nw st).trans (congrArg some (nw_fin fs))) rfl)))
      rw [w64 (x := v * v) (by omega) (by omega), w64 (x := v + 1) (by omega) (by omega)]
      have ht := R2.t_
      by_cases g : v * v < a.Hi * 65536
      · rw [if_pos g] at ht
        exact iT (decide_eq_true g) (by rw [ht])
      · rw [if_neg g] at ht
        exact iF (by simpa using g) (by rw [ht])
theorem rint_eq (a b : TInterval) : armillaryref02_Intersect a b = interval_Intersect a b := by
  rw [int_eq]
  unfold armillaryref02_Intersect
  by_cases h : mx a.Lo b.Lo ≤ mn a.Hi b.Hi
  · rw [if_pos h]; exact iF (by simpa using h) rfl
  · rw [if_neg h]; exact iT (decide_eq_true (by omega)) rfl
theorem rratio_eq {a : TInterval} (ha : Ok a) {n d : Int} (hn : -1073741824 ≤ n ∧ n ≤ 1073741824) (hd : 1 ≤ d ∧ d ≤ 1073741824) : armillaryref02_MulRatio a n d = interval_MulRatio a n d := by
  unfold armillaryref02_MulRatio
  rcases ha with rfl | fa
  · rw [ratio_ent]; exact bT ref_isEnt_ent (iT rfl rfl)
  · rw [ratio_fin fa hn hd]
    have b1 := prod_bound (A := 2147483648) (B := 1073741824) fa.wlo hn
    have b2 := prod_bound (A := 2147483648) (B := 1073741824) fa.whi hn
    refine bT (ref_isEnt_fin fa) (iF Bool.false_ne_true ?_)
    rw [w64 (x := a.Lo * n) (by omega) (by omega), w64 (x := a.Hi * n) (by omega) (by omega)]
    have e1 : mn (a.Lo * n) (a.Hi * n) = rlo a n := by
      unfold rlo mn
      have := cmpR fa.le n
      by_cases h : n < 0
      · rw [if_pos h]; split <;> omega
      · rw [if_neg h]; split <;> omega
    have e2 : mx (a.Lo * n) (a.Hi * n) = rhi a n := by
      unfold rhi mx
      have := cmpR fa.le n
      by_cases h : n < 0
      · rw [if_pos h]; split <;> omega
      · rw [if_neg h]; split <;> omega
    have m1 := mnl (a.Lo * n) (a.Hi * n)
    have m2 := mxl (a.Lo * n) (a.Hi * n)
    refine bT (rfloor (by omega) (by omega) (by omega) (by omega)) (bT (rceil (by omega) (by omega) (by omega) (by omega)) ?_)
    rw [e1, e2]
    exact bT (refnew_nw (fc (by omega) (ratio_le fa n))) rfl
theorem rmid_eq {a : TInterval} (ha : Ok a) : armillaryref02_Mid a = interval_Mid a := by
  have h1 := ha.wlo
  have h2 := ha.whi
  rw [mid_fin ha]
  unfold Wid at h1 h2
  unfold armillaryref02_Mid
  rw [w64 (by omega) (by omega)]
  exact bT (rfloor (by omega) (by omega) (by omega) (by omega)) rfl
theorem rmag_eq {a : TInterval} (ha : Ok a) : armillaryref02_Mag a = some (mag a) := by
  have h1 := ha.b
  unfold armillaryref02_Mag
  rw [w64e (x := 0 - a.Lo) (y := -a.Lo) (by omega) (by omega) (by omega), w64e (x := 0 - a.Hi) (y := -a.Hi) (by omega) (by omega) (by omega)]
  congr 1
  unfold mag
  have m1 := mxl a.Lo (-a.Lo); have m2 := mxl a.Hi (-a.Hi); have m3 := mxl (mx a.Lo (-a.Lo)) (mx a.Hi (-a.Hi)); have m4 := mxl a.Hi (-a.Lo)
  omega
theorem rsign_eq (a : TInterval) : armillaryref02_Sign a = interval_Sign a := by
  rw [sign_eq]
  unfold armillaryref02_Sign
  by_cases h : a.Lo > 0
  · rw [if_pos h]; exact iT (decide_eq_true h) rfl
  · rw [if_neg h]
    refine iF (by simpa using h) ?_
    by_cases h2 : a.Hi < 0
    · rw [if_pos h2]; exact iT (decide_eq_true h2) rfl
    · rw [if_neg h2]; exact iF (by simpa using h2) rfl
theorem radd_eq {a b : TInterval} (ha : Ok a) (hb : Ok b) : armillaryref02_Add a b = interval_Add a b := by
  unfold armillaryref02_Add
  rcases ha with rfl | ha
  · rw [add_entl]; exact bT ref_isEnt_ent (gF Bool.false_ne_true (iT rfl rfl))
  · rcases hb with rfl | hb
    · rw [add_entr]; exact bT (ref_isEnt_fin ha) (gT rfl ref_isEnt_ent (iT rfl rfl))
    · rw [add_fin ha hb]
      refine bT (ref_isEnt_fin ha) (gT rfl (ref_isEnt_fin hb) (iF Bool.false_ne_true ?_))
      have la := ha.le; have lb := hb.le
      unfold Fin at ha hb
      rw [w64 (x := a.Lo + b.Lo) (by omega) (by omega), w64 (x := a.Hi + b.Hi) (by omega) (by omega)]
      exact bT (refnew_nw (by omega)) rfl
theorem rneg_eq (a : TInterval) : armillaryref02_Neg a = interval_Neg a := rfl
theorem rsub_eq {a b : TInterval} (ha : Ok a) (hb : Ok b) : armillaryref02_Sub a b = interval_Sub a b := by
  obtain ⟨t, ht, okt⟩ := sub_ok ha hb
  rw [ht]
  unfold armillaryref02_Sub
  rw [rneg_eq]
  refine bT (neg_is hb) (bT (v := t) ?_ rfl)
  rw [radd_eq ha (ngv_ok hb)]
  exact sub_neg hb ht

theorem rmul_step {k0 : Nat} {a b : TInterval} {t3 t4 : Bool} {A B C D : Int} (hA : w_i64 (a.Lo * b.Lo) = A) (hB : w_i64 (a.Lo * b.Hi) = B) (hC : w_i64 (a.Hi * b.Lo) = C) (hD : w_i64 (a.Hi * b.Hi) = D) {i v : Int} (hi : 0 ≤ i ∧ i < 4) (hv : [A, B, C, D][i.toNat]? = some v) (k : Nat) (l h : Int) :
    armillaryref02_Mul.l20 k0 a b t3 t4 (k + 1) l h i = armillaryref02_Mul.l20 k0 a b t3 t4 k (mn l v) (mx h v) (i + 1) := by
  conv => lhs; unfold armillaryref02_Mul.l20
  rw [hA, hB, hC, hD]
  refine iT (decide_eq_true hi.2) (iT hi (bT hv (iT hi (bT hv ?_))))
  rw [w64 (x := i + 1) (by omega) (by omega)]
theorem rmul_eq {k0 : Nat} (hk : 4294967296 < k0) {a b : TInterval} (ha : Ok a) (hb : Ok b) : armillaryref02_Mul k0 a b = interval_Mul a b := by
  unfold armillaryref02_Mul
  rcases ha with rfl | fa
  · rw [mul_entl]; exact bT ref_isEnt_ent (gF Bool.false_ne_true (iT rfl rfl))
  rcases hb with rfl | fb
  · rw [mul_entr]; exact bT (ref_isEnt_fin fa) (gT rfl ref_isEnt_ent (iT rfl rfl))
  obtain ⟨l, h, hm, H⟩ := mul_fin fa fb
  rw [hm]
  have b1 := prod_bound (A := 2147483648) (B := 2147483648) fa.wlo fb.wlo
  have b2 := prod_bound (A := 2147483648) (B := 2147483648) fa.wlo fb.whi
  have b3 := prod_bound (A := 2147483648) (B := 2147483648) fa.whi fb.wlo
  have b4 := prod_bound (A := 2147483648) (B := 2147483648) fa.whi fb.whi
  have w1 : w_i64 (a.Lo * b.Lo) = a.Lo * b.Lo := w64 (by omega) (by omega)
  have w2 : w_i64 (a.Lo * b.Hi) = a.Lo * b.Hi := w64 (by omega) (by omega)
  have w3 : w_i64 (a.Hi * b.Lo) = a.Hi * b.Lo := w64 (by omega) (by omega)
  have w4 : w_i64 (a.Hi * b.Hi) = a.Hi * b.Hi := w64 (by omega) (by omega)
  refine bT (ref_isEnt_fin fa) (gT rfl (ref_isEnt_fin fb) (iF Bool.false_ne_true ?_))
  have loop : ∀ K, 4 ≤ K → armillaryref02_Mul.l20 k0 a b false false K (a.Lo * b.Lo) (a.Lo * b.Lo) 1 = some (l, h) := by
    intro K hK
    obtain ⟨m, rfl⟩ : ∃ m, K = m + 4 := ⟨K - 4, by omega⟩
    rw [rmul_step w1 w2 w3 w4 (i := 1) (v := a.Lo * b.Hi) (by omega) rfl (m + 3), rmul_step w1 w2 w3 w4 (i := 1 + 1) (v := a.Hi * b.Lo) (by omega) rfl (m + 2), rmul_step w1 w2 w3 w4 (i := 1 + 1 + 1) (v := a.Hi * b.Hi) (by omega) rfl (m + 1)]
    unfold armillaryref02_Mul.l20
    refine iF Bool.false_ne_true ?_
    have h1 := H.lo; have h2 := H.hi; have h3 := H.isl; have h4 := H.ish
    have m1 := mnl (a.Lo * b.Lo) (a.Lo * b.Hi); have m2 := mnl (mn (a.Lo * b.Lo) (a.Lo * b.Hi)) (a.Hi * b.Lo); have m3 := mnl (mn (mn (a.Lo * b.Lo) (a.Lo * b.Hi)) (a.Hi * b.Lo)) (a.Hi * b.Hi)
    have n1 := mxl (a.Lo * b.Lo) (a.Lo * b.Hi); have n2 := mxl (mx (a.Lo * b.Lo) (a.Lo * b.Hi)) (a.Hi * b.Lo); have n3 := mxl (mx (mx (a.Lo * b.Lo) (a.Lo * b.Hi)) (a.Hi * b.Lo)) (a.Hi * b.Hi)
    have e1 : mn (mn (mn (a.Lo * b.Lo) (a.Lo * b.Hi)) (a.Hi * b.Lo)) (a.Hi * b.Hi) = l := by omega
    have e2 : mx (mx (mx (a.Lo * b.Lo) (a.Lo * b.Hi)) (a.Hi * b.Lo)) (a.Hi * b.Hi) = h := by omega
    rw [e1, e2]
  rw [w1]
  have hl := H.isl
  have hh := H.ish
  exact bT (loop k0 (by omega)) (bT (rfloor (by omega) (by simp only; omega) (by simp only; omega) (by omega)) (bT (rceil (by omega) (by simp only; omega) (by simp only; omega) (by omega)) (bT (refnew_nw (fc (by omega) H.le)) rfl)))
theorem rsq_eq {a : TInterval} (ha : Ok a) : armillaryref02_Square a = interval_Square a := by
  unfold armillaryref02_Square
  rcases ha with rfl | fa
  · rw [sq_ent]; exact bT ref_isEnt_ent (iT rfl rfl)
  have b1 := prod_bound (A := 2147483648) (B := 2147483648) fa.wlo fa.wlo
  have b4 := prod_bound (A := 2147483648) (B := 2147483648) fa.whi fa.whi
  have la := fa.le
  rw [sq_fin fa]
  refine bT (ref_isEnt_fin fa) (iF Bool.false_ne_true ?_)
  rw [w64 (x := a.Lo * a.Lo) (by omega) (by omega), w64 (x := a.Hi * a.Hi) (by omega) (by omega)]
  have q1 := cmpR la a.Lo; have q2 := cmpR la a.Hi; have q3 := Int.mul_comm a.Hi a.Lo
  have n1 : 0 ≤ a.Lo * a.Lo := by have := Int.natAbs_mul_self (a := a.Lo); omega
  have n2 : 0 ≤ a.Hi * a.Hi := by have := Int.natAbs_mul_self (a := a.Hi); omega
  have e2 : mx (a.Lo * a.Lo) (a.Hi * a.Hi) = mag a * mag a := by
    have hmag : mag a = a.Hi ∧ -a.Lo ≤ a.Hi ∨ mag a = -a.Lo ∧ a.Hi < -a.Lo := by unfold mag mx; split <;> omega
    have m := mxl (a.Lo * a.Lo) (a.Hi * a.Hi)
    rcases hmag with ⟨e, g⟩ | ⟨e, g⟩ <;> rw [e]
    · have : a.Lo * a.Lo ≤ a.Hi * a.Hi := by
        rcases Int.lt_or_le a.Lo 0 with h | h
        · have := sq_le (s := -a.Lo) (t := a.Hi) (by omega) g
          rw [Int.neg_mul_neg] at this
          exact this
        · exact sq_le h la
      omega
    · rw [Int.neg_mul_neg]
      have : a.Hi * a.Hi ≤ a.Lo * a.Lo := by
        rcases Int.lt_or_le a.Hi 0 with h | h
        · have := sq_le (s := -a.Hi) (t := -a.Lo) (by omega) (by omega)
          rw [Int.neg_mul_neg, Int.neg_mul_neg] at this
          exact this
        · have := sq_le (s := a.Hi) (t := -a.Lo) h (by omega)
          rw [Int.neg_mul_neg] at this
          exact this
      omega
  have e1 : (if ((decide (a.Lo ≤ 0)) && (decide (a.Hi ≥ 0))) = true then some (0 : Int) else some (mn (a.Lo * a.Lo) (a.Hi * a.Hi))) = some (sqm a * sqm a) := by
    have hsq : a.Lo ≤ 0 ∧ a.Hi ≥ 0 ∧ sqm a = 0 ∨ 0 < a.Lo ∧ sqm a = a.Lo ∨ a.Hi < 0 ∧ sqm a = -a.Hi := by unfold sqm mx; split <;> split <;> omega
    have m := mnl (a.Lo * a.Lo) (a.Hi * a.Hi)
    rcases hsq with ⟨h1, h2, e⟩ | ⟨h1, e⟩ | ⟨h1, e⟩ <;> rw [e]
    · rw [decide_eq_true h1, decide_eq_true h2]; rfl
    · refine iF (by simp; omega) ?_
      have := sq_le (Int.le_of_lt h1) la
      congr 1; omega
    · refine iF (by simp; omega) ?_
      have := sq_le (s := -a.Hi) (t := -a.Lo) (by omega) (by omega)
      rw [Int.neg_mul_neg] at this ⊢
      rw [Int.neg_mul_neg] at this
      congr 1; omega
  have sb := sq_le2 fa
  have s0 := Int.mul_nonneg (sqm_nn a) (sqm_nn a)
  have mb : mag a * mag a ≤ 2147483648 * 2147483648 := by have := mxl (a.Lo * a.Lo) (a.Hi * a.Hi); omega
  refine bT e1 (bT (rfloor (by omega) (by omega) (by omega) (by omega)) ?_)
  rw [e2]
  exact bT (rceil (by omega) (by omega) (by omega) (by omega)) (bT (refnew_nw (fc (by omega) sb)) rfl)

/-- The quotient's bounds, by the four corners' own. -/
structure Cor (a b : TInterval) (L U : Int) : Prop where
  le : L ≤ U
  lo : L ≤ fq (a.Lo * 65536) b.Lo ∧ L ≤ fq (a.Lo * 65536) b.Hi ∧ L ≤ fq (a.Hi * 65536) b.Lo ∧ L ≤ fq (a.Hi * 65536) b.Hi
  hi : cq (a.Lo * 65536) b.Lo ≤ U ∧ cq (a.Lo * 65536) b.Hi ≤ U ∧ cq (a.Hi * 65536) b.Lo ≤ U ∧ cq (a.Hi * 65536) b.Hi ≤ U
  isl : L = fq (a.Lo * 65536) b.Lo ∨ L = fq (a.Lo * 65536) b.Hi ∨ L = fq (a.Hi * 65536) b.Lo ∨ L = fq (a.Hi * 65536) b.Hi
  ish : U = cq (a.Lo * 65536) b.Lo ∨ U = cq (a.Lo * 65536) b.Hi ∨ U = cq (a.Hi * 65536) b.Lo ∨ U = cq (a.Hi * 65536) b.Hi
theorem fq_pos {n q : Int} (h : 0 < q) : fq n q = n / q := by unfold fq; rw [if_pos h]
theorem cq_pos {n q : Int} (h : 0 < q) : cq n q = cdiv n q := by unfold cq; rw [if_pos h]
theorem fq_neg {p q : Int} (h : q < 0) : fq (p * 65536) q = -p * 65536 / -q := by unfold fq; rw [if_neg (by omega), Int.neg_mul]
theorem cq_neg {p q : Int} (h : q < 0) : cq (p * 65536) q = cdiv (-p * 65536) (-q) := by unfold cq; rw [if_neg (by omega), Int.neg_mul]
theorem DHull.cor {a b : TInterval} {x y u v : Int} (D : DHull a b x y u v) (hb : 0 < b.Lo) (lb : b.Lo ≤ b.Hi) : Cor a b (x * 65536 / y) (cdiv (u * 65536) v) := by
  have hb' : 0 < b.Hi := by omega
  have h1 := D.lo; have h2 := D.hi; have hy := D.ypos; have hv := D.vpos
  refine ⟨D.fits hb, ?_, ?_, ?_, ?_⟩
  · rw [fq_pos hb, fq_pos hb', fq_pos hb, fq_pos hb']
    exact ⟨frac_mono hy hb h1.1, frac_mono hy hb' h1.2.1, frac_mono hy hb h1.2.2.1, frac_mono hy hb' h1.2.2.2⟩
  · rw [cq_pos hb, cq_pos hb', cq_pos hb, cq_pos hb']
    exact ⟨cfrac_mono hb hv h2.1, cfrac_mono hb' hv h2.2.1, cfrac_mono hb hv h2.2.2.1, cfrac_mono hb' hv h2.2.2.2⟩
  · rw [fq_pos hb, fq_pos hb', fq_pos hb, fq_pos hb']
    rcases D.x_ with rfl | rfl <;> rcases D.y_ with rfl | rfl <;> simp
  · rw [cq_pos hb, cq_pos hb', cq_pos hb, cq_pos hb']
    rcases D.u_ with rfl | rfl <;> rcases D.v_ with rfl | rfl <;> simp
theorem Cor.neg {a b : TInterval} {L U : Int} (C : Cor (ngv a) (ngv b) L U) (hb : b.Hi < 0) (lb : b.Lo ≤ b.Hi) : Cor a b L U := by
  have hb' : b.Lo < 0 := by omega
  obtain ⟨c0, c1, c2, c3, c4⟩ := C
  simp only [ngv] at c1 c2 c3 c4
  rw [fq_pos (q := -b.Lo) (by omega), fq_pos (q := -b.Hi) (by omega), fq_pos (q := -b.Lo) (by omega), fq_pos (q := -b.Hi) (by omega)] at c1 c3
  rw [cq_pos (q := -b.Lo) (by omega), cq_pos (q := -b.Hi) (by omega), cq_pos (q := -b.Lo) (by omega), cq_pos (q := -b.Hi) (by omega)] at c2 c4
  refine ⟨c0, ?_, ?_, ?_, ?_⟩
  · rw [fq_neg hb, fq_neg hb', fq_neg hb, fq_neg hb']; omega
  · rw [cq_neg hb, cq_neg hb', cq_neg hb, cq_neg hb']; omega
  · rw [fq_neg hb, fq_neg hb', fq_neg hb, fq_neg hb']; omega
  · rw [cq_neg hb, cq_neg hb', cq_neg hb, cq_neg hb']; omega
theorem div_cor {a b : TInterval} (fa : Fin a) (fb : Fin b) (h : 0 < b.Lo ∨ b.Hi < 0) : ∃ L U, interval_Div a b = some (nw L U) ∧ Cor a b L U := by
  rcases h with h | h
  · obtain ⟨x, y, u, v, hd, D⟩ := div_above fa fb h
    exact ⟨_, _, hd, D.cor h fb.le⟩
  · obtain ⟨x, y, u, v, hd, D⟩ := div_below fa fb h
    exact ⟨_, _, hd, (D.cor (by simp only [ngv]; omega) (ngv_le fb.le)).neg h fb.le⟩

theorem rdiv_step {k0 : Nat} {a b : TInterval} {t3 t4 : Bool} {t9 t10 x17 x18 : Int} (fa : Fin a) (fb : Fin b) {i j p q : Int} (hi : 0 ≤ i ∧ i < 2) (hj : 0 ≤ j ∧ j < 2) (hA : [a.Lo, a.Hi][i.toNat]? = some p) (hB : [b.Lo, b.Hi][j.toNat]? = some q) (hp : Wid p) (hq : Wid q) (hz : q ≠ 0) (k : Nat) (l h : Int) :
    armillaryref02_Div.l33 k0 a b t3 t4 t9 t10 x17 x18 i (k + 1) l h j = armillaryref02_Div.l33 k0 a b t3 t4 t9 t10 x17 x18 i k (mn l (fq (p * 65536) q)) (mx h (cq (p * 65536) q)) (j + 1) := by
  unfold Wid at hp hq
  conv => lhs; unfold armillaryref02_Div.l33
  refine iT (decide_eq_true hj.2) (iT hi (bT hA (iT hj (bT hB (bT (v := fq (p * 65536) q) ?_ (iT hi (bT hA (iT hj (bT hB (bT (v := cq (p * 65536) q) ?_ ?_))))))))))
  · rw [w64 (x := p * 65536) (by omega) (by omega)]; exact rfq hz (by omega) (by omega) (by omega) (by omega)
  · rw [w64 (x := p * 65536) (by omega) (by omega)]; exact rcq hz (by omega) (by omega) (by omega) (by omega)
  · rw [w64 (x := j + 1) (by omega) (by omega)]
theorem rdiv_inner {k0 : Nat} {a b : TInterval} {t3 t4 : Bool} {t9 t10 x17 x18 : Int} (fa : Fin a) (fb : Fin b) {i p : Int} (hi : 0 ≤ i ∧ i < 2) (hA : [a.Lo, a.Hi][i.toNat]? = some p) (hp : Wid p) (hz : 0 < b.Lo ∨ b.Hi < 0) {K : Nat} (hK : 3 ≤ K) (l h : Int) :
    armillaryref02_Div.l33 k0 a b t3 t4 t9 t10 x17 x18 i K l h 0 = some (mn (mn l (fq (p * 65536) b.Lo)) (fq (p * 65536) b.Hi), mx (mx h (cq (p * 65536) b.Lo)) (cq (p * 65536) b.Hi), 2, 2, false) := by
  obtain ⟨k, rfl⟩ : ∃ k, K = k + 3 := ⟨K - 3, by omega⟩
  have lb := fb.le
  rw [rdiv_step fa fb hi (j := 0) (q := b.Lo) (by omega) hA rfl hp fb.wlo (by omega) (k + 2), rdiv_step fa fb hi (j := 0 + 1) (q := b.Hi) (by omega) hA rfl hp fb.whi (by omega) (k + 1)]
  unfold armillaryref02_Div.l33
  exact iF Bool.false_ne_true rfl
theorem chain_mn {f1 f2 f3 f4 L : Int} (h : L ≤ f1 ∧ L ≤ f2 ∧ L ≤ f3 ∧ L ≤ f4) (g : L = f1 ∨ L = f2 ∨ L = f3 ∨ L = f4) : mn (mn (mn (mn f1 f1) f2) f3) f4 = L := by
  have m1 := mnl f1 f1; have m2 := mnl (mn f1 f1) f2; have m3 := mnl (mn (mn f1 f1) f2) f3; have m4 := mnl (mn (mn (mn f1 f1) f2) f3) f4
  omega
theorem chain_mx {f1 f2 f3 f4 L : Int} (h : f1 ≤ L ∧ f2 ≤ L ∧ f3 ≤ L ∧ f4 ≤ L) (g : L = f1 ∨ L = f2 ∨ L = f3 ∨ L = f4) : mx (mx (mx (mx f1 f1) f2) f3) f4 = L := by
  have m1 := mxl f1 f1; have m2 := mxl (mx f1 f1) f2; have m3 := mxl (mx (mx f1 f1) f2) f3; have m4 := mxl (mx (mx (mx f1 f1) f2) f3) f4
  omega
theorem rdiv_eq {k0 : Nat} (hk : 4294967296 < k0) {a b : TInterval} (ha : Ok a) (hb : Ok b) : armillaryref02_Div k0 a b = interval_Div a b := by
  unfold armillaryref02_Div
  rcases ha with rfl | fa
  · rw [div_entl]; exact bT ref_isEnt_ent (gF Bool.false_ne_true (iT rfl rfl))
  rcases hb with rfl | fb
  · rw [div_entr]; exact bT (ref_isEnt_fin fa) (gT rfl ref_isEnt_ent (iT rfl rfl))
  refine bT (ref_isEnt_fin fa) (gT rfl (ref_isEnt_fin fb) ?_)
  by_cases hz : b.Lo ≤ 0 ∧ 0 ≤ b.Hi
  · rw [div_zero fa fb hz]
    have h2 : b.Hi ≥ 0 := hz.2
    rw [decide_eq_true hz.1, decide_eq_true h2]
    exact iT rfl rfl
  · have hz' : 0 < b.Lo ∨ b.Hi < 0 := by omega
    obtain ⟨L, U, hd, C⟩ := div_cor fa fb hz'
    rw [hd]
    refine iF (by simp; omega) ?_
    have lb := fb.le
    have wa := fa.wlo
    have wb := fb.wlo
    have ne : b.Lo ≠ 0 := by omega
    have wa' := wa
    have wb' := wb
    unfold Wid at wa' wb'
    rw [w64 (x := a.Lo * 65536) (by omega) (by omega)]
    refine bT (rfq ne (by omega) (by omega) (by omega) (by omega)) (bT (rcq ne (by omega) (by omega) (by omega) (by omega)) (bT (v := (L, U)) ?_ (bT (refnew_nw C.le) rfl)))
    have loop : ∀ K, 3 ≤ K → armillaryref02_Div.l20 k0 a b false false (fq (a.Lo * 65536) b.Lo) (cq (a.Lo * 65536) b.Lo) K (fq (a.Lo * 65536) b.Lo) (cq (a.Lo * 65536) b.Lo) 0 = some (L, U) := by
      intro K hK
      obtain ⟨m, rfl⟩ : ∃ m, K = m + 3 := ⟨K - 3, by omega⟩
      unfold armillaryref02_Div.l20
      refine iT rfl (bT (rdiv_inner fa fb (i := 0) (p := a.Lo) (by omega) rfl fa.wlo hz' (by omega) _ _) ?_)
      rw [w64 (x := 0 + 1) (by omega) (by omega)]
      unfold armillaryref02_Div.l20
      refine iT rfl (bT (rdiv_inner fa fb (i := 0 + 1) (p := a.Hi) (by omega) rfl fa.whi hz' (by omega) _ _) ?_)
      rw [w64 (x := 0 + 1 + 1) (by omega) (by omega)]
      unfold armillaryref02_Div.l20
      refine iF Bool.false_ne_true ?_
      simp only
      rw [chain_mn C.lo C.isl, chain_mx C.hi C.ish]
    exact loop k0 (by omega)

theorem beqself (x : Bool) : (!(x == x)) = false := by cases x <;> rfl
theorem reference {k0 : Nat} (hk : 4294967296 < k0) {x : TOperands} (hx : OpsIn x) (y : Int) : armillarylaw02_IntervalMatchesReference k0 x y = some true := by
  unfold armillarylaw02_IntervalMatchesReference
  obtain ⟨a, ha, oka⟩ := made_ok ⟨x.A.Lo, x.A.Hi⟩
  obtain ⟨b, hb, okb⟩ := made_ok ⟨x.B.Lo, x.B.Hi⟩
  obtain ⟨n, d, hr, nr, dr⟩ := ratio_eq (x := ⟨⟨x.A.Lo, x.A.Hi⟩, ⟨x.B.Lo, x.B.Hi⟩, x.N, x.D⟩) hx
  have dr' : 1 ≤ d ∧ d ≤ 1073741824 := ⟨dr.1, by omega⟩
  obtain ⟨R, hR, hR'⟩ := rsqrt_eq hk oka
  obtain ⟨I, hI⟩ : ∃ I, interval_Intersect a b = some I := ⟨_, int_eq a b⟩
  obtain ⟨f, hf, okf⟩ := ratio_ok oka nr dr'
  obtain ⟨s, hs, oks⟩ := add_ok' oka okb
  obtain ⟨t, ht, okt⟩ := sub_ok oka okb
  obtain ⟨m, hm, okm⟩ := mul_ok oka okb
  obtain ⟨q, hq, okq⟩ := sq_ok oka
  obtain ⟨e, he, oke⟩ := div_ok oka okb
  obtain ⟨C, hC⟩ : ∃ C, interval_Contains ⟨x.A.Lo, x.A.Hi⟩ y = some C := ⟨_, contains_eq _ _⟩
  have v0 : (!(decide (Ok (⟨x.A.Lo, x.A.Hi⟩ : TInterval)) == decide (Ok (⟨x.A.Lo, x.A.Hi⟩ : TInterval)))) = false := beqself _
  refine bT (sane' hk) (bT (ivalid_eq _) (bT (valid_eq _) (gT (by rw [v0]; rfl) hC (gT (by rw [v0]; rfl) ((rcont_eq _ _).trans hC) (iF (by rw [v0, beqself]; exact Bool.false_ne_true) ?_)))))
  refine bT ha (bT hb (bT hr (bT hR (bT hR' (bT hI (bT ((rint_eq a b).trans hI) (bT (same_self _) ?_)))))))
  have k1 : (!(R.2 == R.2)) = false := beqself _
  have k2 : (!(I.2 == I.2)) = false := beqself _
  rw [k1, k2]
  refine gT rfl (same_self _) (gT rfl hf (gT rfl ((rratio_eq oka nr dr').trans hf) (gT rfl (same_self _) ?_)))
  refine gT rfl (hull_eq _ _) (gT rfl (hull_eq _ _) (gT rfl (same_self _) (bT (v := false) rfl (gT rfl (subset_eq a b) (gT rfl (subset_eq a b) (iF (by rw [beqself]; exact Bool.false_ne_true) ?_))))))
  have hM := mid_fin oka
  have hS := sign_eq a
  have hE := isEnt (a := a)
  have i1 : ∀ z : Int, (z != z) = false := fun z => by simp
  refine bT hM (bT ((rmid_eq oka).trans hM) ?_)
  refine gT (by rw [i1]; rfl) (width_ok oka) (gT (by rw [i1]; rfl) (width_ok oka) ?_)
  refine gT (by rw [i1, i1]; rfl) (mag_eq oka) (gT (by rw [i1, i1]; rfl) (rmag_eq oka) ?_)
  refine gT (by rw [i1, i1, i1]; rfl) hS (gT (by rw [i1, i1, i1]; rfl) ((rsign_eq a).trans hS) ?_)
  refine gT (by rw [i1, i1, i1, i1]; rfl) hE (gT (by rw [i1, i1, i1, i1]; rfl) ref_isEnt ?_)
  refine gT (v := Ent) (by rw [i1, i1, i1, i1, beqself]; rfl) rfl (gT (v := Ent) (by rw [i1, i1, i1, i1, beqself]; rfl) rfl (gT (by rw [i1, i1, i1, i1, beqself]; rfl) (same_self _) (bT (v := false) (by rw [i1, i1, i1, i1, beqself]; rfl) ?_)))
  have hb1 := oka.b
  have hb2 := okb.b
  refine gT (v := nw a.Lo a.Lo) rfl (bT (new_eq _ _) rfl) (gT (v := nw a.Lo a.Lo) rfl (bT (refnew_nw (by omega)) rfl) (gT rfl (same_self _) ?_))
  have w1 : w_i64 (b.Hi + 4294967296) = b.Hi + 4294967296 := w64 (by omega) (by omega)
  rw [w1]
  refine gT rfl (new_eq _ _) (gT rfl (refnew_nw (by omega)) (gT rfl (same_self _) (iF Bool.false_ne_true ?_)))
  refine bT hs (bT ((radd_eq oka okb).trans hs) (bT (same_self _) ?_))
  refine gT rfl ht (gT rfl ((rsub_eq oka okb).trans ht) (gT rfl (same_self _) ?_))
  refine gT rfl (neg_is oka) (gT rfl (neg_is oka) (gT rfl (same_self _) ?_))
  refine gT rfl hm (gT rfl ((rmul_eq hk oka okb).trans hm) (gT rfl (same_self _) ?_))
  refine gT rfl hq (gT rfl ((rsq_eq oka).trans hq) (gT rfl (same_self _) ?_))
  exact gT rfl he (gT rfl ((rdiv_eq hk oka okb).trans he) (gT rfl (same_self _) rfl))
theorem Pure_IntervalMatchesReference : armillarylaw02_IntervalMatchesReference.Pure := by
  intro _ _ _ _ _ _ y _ _ _ _ hn hd _
  exact ⟨4294967400, reference (by decide) ⟨hn.1, hn.2, hd.1, hd.2⟩ y⟩
end Go.Proofs.YtmjnbhigomjjnaaDoor
