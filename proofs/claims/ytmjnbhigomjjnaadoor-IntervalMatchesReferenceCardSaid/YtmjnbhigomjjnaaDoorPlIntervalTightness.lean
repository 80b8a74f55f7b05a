/- The law of tightness, over the printed plain functions: it answers true. Own work. -/
import Derived.Test.YtmjnbhigomjjnaaDoorPlB6
namespace Go.Proofs.YtmjnbhigomjjnaaDoor
set_option maxRecDepth 10000
set_option linter.unusedSimpArgs false
set_option linter.unusedVariables false

theorem seg {γ : Type} {x : Bool} {i j : Int} {A B : List Int} {p q v : Int} (G : Int → Int → Option Int) {f : Int → Option γ} {r : Option γ} (hi : 0 ≤ i ∧ i < 2) (hj : 0 ≤ j ∧ j < 2) (hA : A[i.toNat]? = some p) (hB : B[j.toNat]? = some q) (hG : G p q = some v)
    (hf : f (if x then 0 else v) = r) : (if (x == false) = true → 0 ≤ i ∧ i < 2 then (if (x == false) = true then A[i.toNat]? else some 0).bind fun t82 => if (x == false) = true → 0 ≤ j ∧ j < 2 then (if (x == false) = true then B[j.toNat]? else some 0).bind fun t84 => (if (x == false) = true then G t82 t84 else some default).bind f else none else none) = r := by
  refine iT (fun _ => hi) ?_
  cases x
  · exact gT rfl hA (iT (fun _ => hj) (gT rfl hB (gT rfl hG hf)))
  · exact gF Bool.false_ne_true (iT (fun _ => hj) (gF Bool.false_ne_true (gF Bool.false_ne_true hf)))
theorem or_if (x : Bool) (v L : Int) : (x || ((if x then 0 else v) == L)) = (x || (v == L)) := by cases x <;> rfl

def fq (n q : Int) : Int := if 0 < q then n / q else (-n) / (-q)
def cq (n q : Int) : Int := if 0 < q then cdiv n q else cdiv (-n) (-q)
theorem rceil_neg {a b : Int} (hb : b < 0) (ha1 : -4611686018427387904 ≤ a) (ha2 : a ≤ 4611686018427387904) (hb2 : -4611686018427387904 ≤ b) : armillaryref02_Ceil a b = some (cdiv (-a) (-b)) := by
  have hq := ediv_bounds (a := a) (b := -b) (B := 4611686018427387904) (by omega) (by omega) (by omega)
  unfold armillaryref02_Ceil
  have e1 : w_i64 (0 - a) = -a := by rw [w64 (by omega) (by omega)]; omega
  rw [e1]
  refine bT (rfloor_neg hb (by omega) (by omega) hb2) ?_
  unfold cdiv
  rw [Int.neg_neg, w64 (by omega) (by omega)]
  congr 1
  omega
theorem rfq {n q : Int} (h : q ≠ 0) (h1 : -4611686018427387904 ≤ n) (h2 : n ≤ 4611686018427387904) (h3 : -4611686018427387904 ≤ q) (h4 : q ≤ 4611686018427387904) : armillaryref02_Floor n q = some (fq n q) := by
  unfold fq
  by_cases g : 0 < q
  · rw [if_pos g]; exact rfloor g h1 h2 h4
  · rw [if_neg g]; exact rfloor_neg (by omega) h1 h2 h3
theorem rcq {n q : Int} (h : q ≠ 0) (h1 : -4611686018427387904 ≤ n) (h2 : n ≤ 4611686018427387904) (h3 : -4611686018427387904 ≤ q) (h4 : q ≤ 4611686018427387904) : armillaryref02_Ceil n q = some (cq n q) := by
  unfold cq
  by_cases g : 0 < q
  · rw [if_pos g]; exact rceil g h1 h2 h4
  · rw [if_neg g]; exact rceil_neg (by omega) h1 h2 h3

/-- One round of the inner loop. -/
theorem tight_step {k0 : Nat} {x : TOperands} {t3 t8 t9 x46 x47 x48 x49 : Bool} {a b t13 t14 t15 t16 : TInterval} (fa : Fin a) (fb : Fin b) {i j p q : Int} (hi : 0 ≤ i ∧ i < 2) (hj : 0 ≤ j ∧ j < 2) (hA : [a.Lo, a.Hi][i.toNat]? = some p) (hB : [b.Lo, b.Hi][j.toNat]? = some q) (k : Nat) (f1 f2 f3 f4 : Bool) :
    armillarylaw02_IntervalTightness.l68 k0 x t3 a b t8 t9 t13 t14 t15 t16 x46 x47 x48 x49 i (k + 1) f1 f2 f3 f4 j =
    armillarylaw02_IntervalTightness.l68 k0 x t3 a b t8 t9 t13 t14 t15 t16 x46 x47 x48 x49 i k (f1 || (p * q / 65536 == t13.Lo)) (f2 || (cdiv (p * q) 65536 == t13.Hi)) (f3 || (decide (q ≠ 0) && (fq (p * 65536) q == t15.Lo))) (f4 || (decide (q ≠ 0) && (cq (p * 65536) q == t15.Hi))) (j + 1) := by
  have hp : Wid p := by
    have h1 := fa.wlo; have h2 := fa.whi
    have : i = 0 ∨ i = 1 := by omega
    rcases this with rfl | rfl
    · obtain rfl := Option.some.inj hA; exact h1
    · obtain rfl := Option.some.inj hA; exact h2
  have hq : Wid q := by
    have h1 := fb.wlo; have h2 := fb.whi
    have : j = 0 ∨ j = 1 := by omega
    rcases this with rfl | rfl
    · obtain rfl := Option.some.inj hB; exact h1
    · obtain rfl := Option.some.inj hB; exact h2
  have pq := prod_bound (A := 2147483648) (B := 2147483648) hp hq
  have hp' := hp
  have hq' := hq
  unfold Wid at hp' hq'
  conv => lhs; unfold armillarylaw02_IntervalTightness.l68
  refine iT (decide_eq_true hj.2) ?_
  have w1 : w_i64 (j + 1) = j + 1 := w64 (by omega) (by omega)
  rw [w1]
  have g1 : armillaryref02_Floor (w_i64 (p * q)) 65536 = some (p * q / 65536) := by rw [w64 (by omega) (by omega)]; exact rfloor (by omega) (by omega) (by omega) (by omega)
  have g2 : armillaryref02_Ceil (w_i64 (p * q)) 65536 = some (cdiv (p * q) 65536) := by rw [w64 (by omega) (by omega)]; exact rceil (by omega) (by omega) (by omega) (by omega)
  by_cases hz : q = 0
  · refine bT (v := (f1 || (p * q / 65536 == t13.Lo), f2 || (cdiv (p * q) 65536 == t13.Hi), f3, f4, f1 || (p * q / 65536 == t13.Lo), f2 || (cdiv (p * q) 65536 == t13.Hi), q, q != 0)) ?_ ?_
    · refine seg (fun u v => armillaryref02_Floor (w_i64 (u * v)) 65536) hi hj hA hB g1 (seg (fun u v => armillaryref02_Ceil (w_i64 (u * v)) 65536) hi hj hA hB g2 ?_)
      refine iT hj (bT hB (iF (by simp [hz]) ?_))
      rw [or_if, or_if]
    · have e : decide (q ≠ 0) = false := by simp [hz]
      simp only [e, Bool.false_and, Bool.or_false]
  · have g3 : armillaryref02_Floor (w_i64 (p * 65536)) q = some (fq (p * 65536) q) := by rw [w64 (by omega) (by omega)]; exact rfq hz (by omega) (by omega) (by omega) (by omega)
    have g4 : armillaryref02_Ceil (w_i64 (p * 65536)) q = some (cq (p * 65536) q) := by rw [w64 (by omega) (by omega)]; exact rcq hz (by omega) (by omega) (by omega) (by omega)
    refine bT (v := (f1 || (p * q / 65536 == t13.Lo), f2 || (cdiv (p * q) 65536 == t13.Hi), f3 || (fq (p * 65536) q == t15.Lo), f4 || (cq (p * 65536) q == t15.Hi), f1 || (p * q / 65536 == t13.Lo), f2 || (cdiv (p * q) 65536 == t13.Hi), q, q != 0)) ?_ ?_
    · refine seg (fun u v => armillaryref02_Floor (w_i64 (u * v)) 65536) hi hj hA hB g1 (seg (fun u v => armillaryref02_Ceil (w_i64 (u * v)) 65536) hi hj hA hB g2 ?_)
      refine iT hj (bT hB (iT (by simpa using hz) ?_))
      refine seg (fun u v => armillaryref02_Floor (w_i64 (u * 65536)) v) hi hj hA hB g3 (seg (fun u v => armillaryref02_Ceil (w_i64 (u * 65536)) v) hi hj hA hB g4 ?_)
      rw [or_if, or_if, or_if, or_if]
    · have e : decide (q ≠ 0) = true := by simp [hz]
      simp only [e, Bool.true_and]
theorem tight_inner {k0 : Nat} {x : TOperands} {t3 t8 t9 x46 x47 x48 x49 : Bool} {a b t13 t14 t15 t16 : TInterval} (fa : Fin a) (fb : Fin b) {i p : Int} (hi : 0 ≤ i ∧ i < 2) (hA : [a.Lo, a.Hi][i.toNat]? = some p) {K : Nat} (hK : 3 ≤ K) (f1 f2 f3 f4 : Bool) :
    armillarylaw02_IntervalTightness.l68 k0 x t3 a b t8 t9 t13 t14 t15 t16 x46 x47 x48 x49 i K f1 f2 f3 f4 0 =
    some ((f1 || (p * b.Lo / 65536 == t13.Lo)) || (p * b.Hi / 65536 == t13.Lo), (f2 || (cdiv (p * b.Lo) 65536 == t13.Hi)) || (cdiv (p * b.Hi) 65536 == t13.Hi),
      (f3 || (decide (b.Lo ≠ 0) && (fq (p * 65536) b.Lo == t15.Lo))) || (decide (b.Hi ≠ 0) && (fq (p * 65536) b.Hi == t15.Lo)), (f4 || (decide (b.Lo ≠ 0) && (cq (p * 65536) b.Lo == t15.Hi))) || (decide (b.Hi ≠ 0) && (cq (p * 65536) b.Hi == t15.Hi)), 2, 2, false) := by
  obtain ⟨k, rfl⟩ : ∃ k, K = k + 3 := ⟨K - 3, by omega⟩
  rw [tight_step fa fb hi (j := 0) (q := b.Lo) (by omega) hA rfl (k + 2), tight_step fa fb hi (j := 0 + 1) (q := b.Hi) (by omega) hA rfl (k + 1)]
  unfold armillarylaw02_IntervalTightness.l68
  exact iF Bool.false_ne_true rfl
def or4 (f : Int → Int → Bool) (a b : TInterval) : Bool := (((false || f a.Lo b.Lo) || f a.Lo b.Hi) || f a.Hi b.Lo) || f a.Hi b.Hi
theorem or4_of {f : Int → Int → Bool} {a b : TInterval} {p q : Int} (hp : p = a.Lo ∨ p = a.Hi) (hq : q = b.Lo ∨ q = b.Hi) (h : f p q = true) : or4 f a b = true := by
  unfold or4
  rcases hp with rfl | rfl <;> rcases hq with rfl | rfl <;> simp [h]
theorem tight_outer {k0 : Nat} {x : TOperands} {t3 t8 t9 : Bool} {a b t13 t14 t15 t16 : TInterval} (fa : Fin a) (fb : Fin b) (hk : 3 ≤ k0) {K : Nat} (hK : 3 ≤ K) :
    armillarylaw02_IntervalTightness.l51 k0 x t3 a b t8 t9 t13 t14 t15 t16 K false false false false 0 =
      some (or4 (fun p q => p * q / 65536 == t13.Lo) a b, or4 (fun p q => cdiv (p * q) 65536 == t13.Hi) a b, or4 (fun p q => decide (q ≠ 0) && (fq (p * 65536) q == t15.Lo)) a b, or4 (fun p q => decide (q ≠ 0) && (cq (p * 65536) q == t15.Hi)) a b) := by
  obtain ⟨m, rfl⟩ : ∃ m, K = m + 3 := ⟨K - 3, by omega⟩
  unfold armillarylaw02_IntervalTightness.l51
  refine iT rfl (bT (tight_inner fa fb (i := 0) (p := a.Lo) (by omega) rfl hk false false false false) ?_)
  rw [w64 (x := 0 + 1) (by omega) (by omega)]
  unfold armillarylaw02_IntervalTightness.l51
  refine iT rfl (bT (tight_inner fa fb (i := 0 + 1) (p := a.Hi) (by omega) rfl hk _ _ _ _) ?_)
  rw [w64 (x := 0 + 1 + 1) (by omega) (by omega)]
  unfold armillarylaw02_IntervalTightness.l51
  exact iF Bool.false_ne_true rfl

/-- The product's bounds are met at corners. -/
theorem mul_met {a b r : TInterval} (ha : Fin a) (hb : Fin b) (hr : interval_Mul a b = some r) : Ok r ∧ (r = Ent ∨ or4 (fun p q => p * q / 65536 == r.Lo) a b = true ∧ or4 (fun p q => cdiv (p * q) 65536 == r.Hi) a b = true) := by
  obtain ⟨l, h, hm, H⟩ := mul_fin ha hb
  rw [hm] at hr
  obtain rfl := Option.some.inj hr
  refine ⟨nw_ok (fc (by omega) H.le), ?_⟩
  rcases nw_cases (l / 65536) (cdiv h 65536) (fc (by omega) H.le) with ⟨e, _⟩ | ⟨e, f⟩
  · exact .inl e
  · right
    rw [e]
    constructor
    · obtain ⟨p, q, hp, hq, rfl⟩ : ∃ p q, (p = a.Lo ∨ p = a.Hi) ∧ (q = b.Lo ∨ q = b.Hi) ∧ l = p * q := by
        rcases H.isl with h | h | h | h
        · exact ⟨_, _, .inl rfl, .inl rfl, h⟩
        · exact ⟨_, _, .inl rfl, .inr rfl, h⟩
        · exact ⟨_, _, .inr rfl, .inl rfl, h⟩
        · exact ⟨_, _, .inr rfl, .inr rfl, h⟩
      exact or4_of hp hq (by simp)
    · obtain ⟨p, q, hp, hq, rfl⟩ : ∃ p q, (p = a.Lo ∨ p = a.Hi) ∧ (q = b.Lo ∨ q = b.Hi) ∧ h = p * q := by
        rcases H.ish with h | h | h | h
        · exact ⟨_, _, .inl rfl, .inl rfl, h⟩
        · exact ⟨_, _, .inl rfl, .inr rfl, h⟩
        · exact ⟨_, _, .inr rfl, .inl rfl, h⟩
        · exact ⟨_, _, .inr rfl, .inr rfl, h⟩
      exact or4_of hp hq (by simp)
/-- The quotient's bounds are met at corners. -/
theorem div_met {a b r : TInterval} (ha : Fin a) (hb : Fin b) (hr : interval_Div a b = some r) : Ok r ∧ (r = Ent ∨ or4 (fun p q => decide (q ≠ 0) && (fq (p * 65536) q == r.Lo)) a b = true ∧ or4 (fun p q => decide (q ≠ 0) && (cq (p * 65536) q == r.Hi)) a b = true) := by
  rcases Int.lt_or_le 0 b.Lo with h0 | h0
  · obtain ⟨x, y, u, v, hd, D⟩ := div_above ha hb h0
    rw [hd] at hr
    obtain rfl := Option.some.inj hr
    refine ⟨nw_ok (D.fits h0), ?_⟩
    rcases nw_cases (x * 65536 / y) (cdiv (u * 65536) v) (D.fits h0) with ⟨e, _⟩ | ⟨e, f⟩
    · exact .inl e
    · right
      rw [e]
      have hy := D.ypos
      have hv := D.vpos
      exact ⟨or4_of D.x_ D.y_ (by unfold fq; rw [if_pos hy]; simp; omega), or4_of D.u_ D.v_ (by unfold cq; rw [if_pos hv]; simp; omega)⟩
  · rcases Int.lt_or_le b.Hi 0 with h1 | h1
    · obtain ⟨x, y, u, v, hd, D⟩ := div_below ha hb h1
      have hle : x * 65536 / y ≤ cdiv (u * 65536) v := D.fits (by simp only [ngv]; omega)
      rw [hd] at hr
      obtain rfl := Option.some.inj hr
      refine ⟨nw_ok hle, ?_⟩
      rcases nw_cases (x * 65536 / y) (cdiv (u * 65536) v) hle with ⟨e, _⟩ | ⟨e, f⟩
      · exact .inl e
      · right
        rw [e]
        have hy := D.ypos
        have hv := D.vpos
        have hx_ := D.x_; have hy_ := D.y_; have hu_ := D.u_; have hv_ := D.v_
        simp only [ngv] at hx_ hy_ hu_ hv_
        have e1 : -(-x * 65536) = x * 65536 := by rw [Int.neg_mul, Int.neg_neg]
        have e2 : -(-u * 65536) = u * 65536 := by rw [Int.neg_mul, Int.neg_neg]
        refine ⟨or4_of (p := -x) (q := -y) (by omega) (by omega) ?_, or4_of (p := -u) (q := -v) (by omega) (by omega) ?_⟩
        · unfold fq
          rw [if_neg (by omega), Int.neg_neg, e1]
          simp; omega
        · unfold cq
          rw [if_neg (by omega), Int.neg_neg, e2]
          simp; omega
    · rw [div_zero ha hb ⟨h0, h1⟩] at hr
      obtain rfl := Option.some.inj hr
      exact ⟨.inl rfl, .inl rfl⟩

theorem opt (c : Bool) {F : Option Int} {v : Int} (hF : F = some v) (L : Int) : ∃ t, (if (c == false) = true then F else some default) = some t ∧ (c || (t == L)) = (c || (v == L)) := by
  cases c
  · exact ⟨v, hF, rfl⟩
  · exact ⟨default, rfl, rfl⟩

theorem tightness {k0 : Nat} (hk : 4294967296 < k0) (x : TOperands) : armillarylaw02_IntervalTightness k0 x = some true := by
  unfold armillarylaw02_IntervalTightness
  obtain ⟨a, ha, oka⟩ := made_ok ⟨x.A.Lo, x.A.Hi⟩
  obtain ⟨b, hb, okb⟩ := made_ok ⟨x.B.Lo, x.B.Hi⟩
  refine bT (sane' hk) (bT ha (bT hb ?_))
  rcases oka with rfl | fa
  · exact bT ref_isEnt_ent (gF Bool.false_ne_true (iT rfl rfl))
  rcases okb with rfl | fb
  · exact bT (ref_isEnt_fin fa) (gT rfl ref_isEnt_ent (iT rfl rfl))
  refine bT (ref_isEnt_fin fa) (gT rfl (ref_isEnt_fin fb) (iF Bool.false_ne_true ?_))
  have fa' := fa
  have fb' := fb
  unfold Fin at fa' fb'
  obtain ⟨m, hm, okm⟩ := mul_ok (.inr fa) (.inr fb)
  obtain ⟨e, he, oke⟩ := div_ok (.inr fa) (.inr fb)
  have mm := (mul_met fa fb hm).2
  have dm := (div_met fa fb he).2
  refine bT hm (bT (sq_fin fa) (bT he (bT (add_fin fa fb) (bT (tight_outer fa fb (by omega) (by omega)) ?_))))
  generalize or4 (fun p q => p * q / 65536 == m.Lo) a b = F1 at mm ⊢
  generalize or4 (fun p q => cdiv (p * q) 65536 == m.Hi) a b = F2 at mm ⊢
  generalize or4 (fun p q => decide (q ≠ 0) && (fq (p * 65536) q == e.Lo)) a b = F3 at dm ⊢
  generalize or4 (fun p q => decide (q ≠ 0) && (cq (p * 65536) q == e.Hi)) a b = F4 at dm ⊢
  have e1 : (!decide (m = Ent) && (!F1 || !F2)) = false := by
    rcases mm with rfl | ⟨rfl, rfl⟩ <;> simp
  have e2 : (!decide (e = Ent) && (!F3 || !F4)) = false := by
    rcases dm with rfl | ⟨rfl, rfl⟩ <;> simp
  refine bT ref_isEnt (gT (by simp only [e1]; rfl) ref_isEnt (gT (by simp only [e1, e2]; rfl) ref_isEnt (iF ?_ ?_)))
  · simp only [e1, e2, Bool.false_or]
    rw [w64 (x := a.Lo + b.Lo) (by omega) (by omega), w64 (x := a.Hi + b.Hi) (by omega) (by omega)]
    rcases nw_cases (a.Lo + b.Lo) (a.Hi + b.Hi) (by omega) with ⟨g, _⟩ | ⟨g, f⟩
    · rw [g]; simp
    · rw [g]; simp
  have aa := prod_bound (A := 2147483648) (B := 2147483648) fa.wlo fa.wlo
  have hh := prod_bound (A := 2147483648) (B := 2147483648) fa.whi fa.whi
  have g1 : armillaryref02_Floor (w_i64 (a.Lo * a.Lo)) 65536 = some (a.Lo * a.Lo / 65536) := by rw [w64 (by omega) (by omega)]; exact rfloor (by omega) (by omega) (by omega) (by omega)
  have g2 : armillaryref02_Floor (w_i64 (a.Hi * a.Hi)) 65536 = some (a.Hi * a.Hi / 65536) := by rw [w64 (by omega) (by omega)]; exact rfloor (by omega) (by omega) (by omega) (by omega)
  have g3 : armillaryref02_Ceil (w_i64 (a.Lo * a.Lo)) 65536 = some (cdiv (a.Lo * a.Lo) 65536) := by rw [w64 (by omega) (by omega)]; exact rceil (by omega) (by omega) (by omega) (by omega)
  have g4 : armillaryref02_Ceil (w_i64 (a.Hi * a.Hi)) 65536 = some (cdiv (a.Hi * a.Hi) 65536) := by rw [w64 (by omega) (by omega)]; exact rceil (by omega) (by omega) (by omega) (by omega)
  generalize hs : nw (sqm a * sqm a / 65536) (cdiv (mag a * mag a) 65536) = S
  have S_ : S = Ent ∨ S = ⟨sqm a * sqm a / 65536, cdiv (mag a * mag a) 65536⟩ := by
    rw [← hs]
    rcases nw_cases (sqm a * sqm a / 65536) (cdiv (mag a * mag a) 65536) (fc (by omega) (sq_le2 fa)) with ⟨g, _⟩ | ⟨g, _⟩
    · exact .inl g
    · exact .inr g
  obtain ⟨u, hu, u2⟩ := opt ((decide (a.Lo ≤ 0) && decide (a.Hi ≥ 0)) && (S.Lo == 0)) g1 S.Lo
  obtain ⟨v, hv, v2⟩ := opt (((decide (a.Lo ≤ 0) && decide (a.Hi ≥ 0)) && (S.Lo == 0)) || (u == S.Lo)) g2 S.Lo
  obtain ⟨t, ht, t2⟩ := opt (cdiv (a.Lo * a.Lo) 65536 == S.Hi) g4 S.Hi
  refine bT hu (bT hv (bT rfl (bT g3 (bT ht ?_))))
  rw [v2, u2]
  have z1 : S = Ent ∨ ((((decide (a.Lo ≤ 0) && decide (a.Hi ≥ 0)) && (S.Lo == 0)) || (a.Lo * a.Lo / 65536 == S.Lo)) || (a.Hi * a.Hi / 65536 == S.Lo)) = true := by
    rcases S_ with h | h
    · exact .inl h
    · right
      rw [h]
      simp only
      have hsq : a.Lo ≤ 0 ∧ a.Hi ≥ 0 ∧ sqm a = 0 ∨ sqm a = a.Lo ∨ sqm a = -a.Hi := by unfold sqm mx; split <;> split <;> omega
      rcases hsq with ⟨q1, q2, q3⟩ | q | q
      · rw [q3, decide_eq_true q1, decide_eq_true q2]; rfl
      · rw [q]; simp
      · rw [q, Int.neg_mul_neg]; simp
  have z2 : S = Ent ∨ ((cdiv (a.Lo * a.Lo) 65536 == S.Hi) || (t == S.Hi)) = true := by
    rcases S_ with h | h
    · exact .inl h
    · right
      rw [t2, h]
      simp only
      have hmag : mag a = a.Hi ∨ mag a = -a.Lo := by unfold mag mx; split <;> omega
      rcases hmag with q | q
      · rw [q]; simp
      · rw [q, Int.neg_mul_neg]; simp
  have z3 : ((decide (S = Ent)) || (((((decide (a.Lo ≤ 0) && decide (a.Hi ≥ 0)) && (S.Lo == 0)) || (a.Lo * a.Lo / 65536 == S.Lo)) || (a.Hi * a.Hi / 65536 == S.Lo)) && ((cdiv (a.Lo * a.Lo) 65536 == S.Hi) || (t == S.Hi)))) = true := by
    by_cases h : S = Ent
    · rw [decide_eq_true h]; rfl
    · rw [z1.resolve_left h, z2.resolve_left h]; simp
  rcases Int.lt_or_le a.Hi 0 with h0 | h0
  · refine bT (isqrt_below k0 fa h0) (iT rfl ?_)
    rw [decide_eq_true h0]
    rfl
  · obtain ⟨s, r, u', v', hs', R1, R2, st, fs⟩ := isqrt_fin hk fa h0
    refine bT hs' (iF Bool.false_ne_true (bT ref_isEnt ?_))
    have x1 := mxl a.Lo 0
    have b1 := R1.bound (by omega)
    have b2 := R2.bound (by omega)
    have s0 := R1.s0
    have p1 := prod_bound (x := s + 1) (y := s + 1) (A := 16777217) (B := 16777217) (by omega) (by omega)
    have p2 := prod_bound (x := r - 1) (y := r - 1) (A := 16777217) (B := 16777217) (by omega) (by omega)
    refine bT (v := true) ?_ (bT (v := true) ?_ rfl)
    · simp only
      rw [z3, w64 (x := s + 1) (by omega) (by omega), w64 (x := (s + 1) * (s + 1)) (by omega) (by omega), w64 (x := mx a.Lo 0 * 65536) (by omega) (by omega), decide_eq_true R1.lt]
      rfl
    · simp only
      rw [w64 (x := r - 1) (by omega) (by omega), w64 (x := (r - 1) * (r - 1)) (by omega) (by omega), w64 (x := a.Hi * 65536) (by omega) (by omega)]
      rcases R2.low with h | h
      · rw [h]; rfl
      · rw [decide_eq_true h]; simp
theorem Pure_IntervalTightness : armillarylaw02_IntervalTightness.Pure := by
  unfold armillarylaw02_IntervalTightness.Pure
  intros
  exact ⟨4294967400, tightness (by decide) _⟩
end Go.Proofs.YtmjnbhigomjjnaaDoor
