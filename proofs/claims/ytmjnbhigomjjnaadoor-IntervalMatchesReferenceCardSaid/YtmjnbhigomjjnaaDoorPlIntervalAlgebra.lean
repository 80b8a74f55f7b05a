/- The law of algebra, over the printed plain functions: it answers true. Own work. -/
import Derived.Test.YtmjnbhigomjjnaaDoorPlB6
namespace Go.Proofs.YtmjnbhigomjjnaaDoor
set_option maxRecDepth 10000
set_option linter.unusedSimpArgs false
set_option linter.unusedVariables false

theorem add_comm' {a b : TInterval} (ha : Ok a) (hb : Ok b) : interval_Add a b = interval_Add b a := by
  rcases ha with rfl | ha
  · rw [add_entl, add_entr]
  · rcases hb with rfl | hb
    · rw [add_entl, add_entr]
    · rw [add_fin ha hb, add_fin hb ha, Int.add_comm a.Lo, Int.add_comm a.Hi]
theorem Hull.swap {a b : TInterval} {l h : Int} (H : Hull a b l h) : Hull b a l h := by
  have h1 := H.lo; have h2 := H.hi; have h3 := H.isl; have h4 := H.ish
  constructor <;> simp only [Int.mul_comm b.Lo, Int.mul_comm b.Hi] <;> omega
theorem Hull.uniq {a b : TInterval} {l h l' h' : Int} (H : Hull a b l h) (H' : Hull a b l' h') : l = l' ∧ h = h' := by
  have h1 := H.lo; have h2 := H.hi; have h3 := H.isl; have h4 := H.ish
  have g1 := H'.lo; have g2 := H'.hi; have g3 := H'.isl; have g4 := H'.ish
  omega
theorem mul_comm' {a b : TInterval} (ha : Ok a) (hb : Ok b) : interval_Mul a b = interval_Mul b a := by
  rcases ha with rfl | ha
  · rw [mul_entl, mul_entr]
  · rcases hb with rfl | hb
    · rw [mul_entl, mul_entr]
    · obtain ⟨l, h, hm, H⟩ := mul_fin ha hb
      obtain ⟨l', h', hm', H'⟩ := mul_fin hb ha
      obtain ⟨rfl, rfl⟩ := H.uniq H'.swap
      rw [hm, hm']
theorem ngv_ngv (a : TInterval) : ngv (ngv a) = a := by unfold ngv; simp
theorem ngv_ent : ngv Ent = Ent := rfl
theorem ngv_fin {a : TInterval} (h : Fin a) : Fin (ngv a) := neg_fin h
theorem ngv_ok {a : TInterval} (h : Ok a) : Ok (ngv a) := by
  rcases h with rfl | h
  · exact .inl rfl
  · exact .inr (ngv_fin h)
theorem neg_is {a : TInterval} (h : Ok a) : interval_Neg a = some (ngv a) := neg_ok h
theorem ngv_nw (x y : Int) : ngv (nw x y) = nw (-y) (-x) := by
  unfold nw
  by_cases h : x ≤ -2147483648 ∨ y ≥ 2147483648 ∨ x ≥ 2147483648 ∨ y ≤ -2147483648
  · rw [if_pos h, if_pos (by omega)]; rfl
  · rw [if_neg h, if_neg (by omega)]; rfl
theorem neg_cdiv (x d : Int) : -(cdiv x d) = (-x) / d := by unfold cdiv; omega
theorem cdiv_neg (x d : Int) : cdiv (-x) d = -(x / d) := by unfold cdiv; rw [Int.neg_neg]
theorem Hull.neg {a b : TInterval} {l h : Int} (H : Hull a b l h) : Hull (ngv a) b (-h) (-l) := by
  have h1 := H.lo; have h2 := H.hi; have h3 := H.isl; have h4 := H.ish
  constructor <;> simp only [ngv, Int.neg_mul] <;> omega
theorem mul_neg {a b : TInterval} (ha : Ok a) (hb : Ok b) {r : TInterval} (hr : interval_Mul a b = some r) : interval_Mul (ngv a) b = some (ngv r) := by
  rcases ha with rfl | ha
  · rw [mul_entl] at hr
    obtain rfl := Option.some.inj hr
    exact mul_entl _
  · rcases hb with rfl | hb
    · rw [mul_entr] at hr
      obtain rfl := Option.some.inj hr
      exact mul_entr _
    · obtain ⟨l, h, hm, H⟩ := mul_fin ha hb
      obtain ⟨l', h', hm', H'⟩ := mul_fin (ngv_fin ha) hb
      obtain ⟨rfl, rfl⟩ := H'.uniq H.neg
      rw [hm] at hr
      obtain rfl := Option.some.inj hr
      rw [hm', ngv_nw, neg_cdiv, cdiv_neg]
theorem sqm_ngv (a : TInterval) : sqm (ngv a) = sqm a := by
  unfold sqm ngv
  simp only
  rw [Int.neg_neg]
  have h1 := mxl (-a.Hi) a.Lo; have h2 := mxl (mx (-a.Hi) a.Lo) 0; have h3 := mxl a.Lo (-a.Hi); have h4 := mxl (mx a.Lo (-a.Hi)) 0
  omega
theorem mag_ngv (a : TInterval) : mag (ngv a) = mag a := by unfold mag ngv mx; simp only; split <;> split <;> omega
theorem sq_neg {a : TInterval} (ha : Ok a) : interval_Square (ngv a) = interval_Square a := by
  rcases ha with rfl | ha
  · rfl
  · rw [sq_fin ha, sq_fin (ngv_fin ha), sqm_ngv, mag_ngv]

/-- The quotient's answer, over a divisor above nought. -/
def Qv (a b r : TInterval) : Prop := ∃ x y u v, r = nw (x * 65536 / y) (cdiv (u * 65536) v) ∧ DHull a b x y u v
theorem Qv.uniq {a b r r' : TInterval} (la : a.Lo ≤ a.Hi) (lb : b.Lo ≤ b.Hi) (h : Qv a b r) (h' : Qv a b r') : r = r' := by
  obtain ⟨x, y, u, v, rfl, D⟩ := h
  obtain ⟨x', y', u', v', rfl, D'⟩ := h'
  have l1 : Le a a := by unfold Le; omega
  have l2 : Le b b := by unfold Le; omega
  have m1 := DHull.mono la lb D D' l1 l2
  have m2 := DHull.mono la lb D' D l1 l2
  rw [Int.le_antisymm m2.1 m1.1, Int.le_antisymm m1.2 m2.2]
theorem Qv.neg {a b r : TInterval} (h : Qv a b r) : Qv (ngv a) b (ngv r) := by
  obtain ⟨x, y, u, v, rfl, D⟩ := h
  have h1 := D.lo; have h2 := D.hi
  refine ⟨-u, v, -x, y, ?_, ⟨D.vpos, D.ypos, ?_, D.v_, ?_, D.y_, ?_, ?_⟩⟩
  · rw [ngv_nw, neg_cdiv, Int.neg_mul, Int.neg_mul, cdiv_neg]
  · have := D.u_; simp only [ngv]; omega
  · have := D.x_; simp only [ngv]; omega
  · simp only [ngv, Int.neg_mul]; omega
  · simp only [ngv, Int.neg_mul]; omega
theorem div_qa {a b : TInterval} (ha : Fin a) (hb : Fin b) (h : 0 < b.Lo) : ∃ r, interval_Div a b = some r ∧ Qv a b r := by
  obtain ⟨x, y, u, v, hd, D⟩ := div_above ha hb h
  exact ⟨_, hd, x, y, u, v, rfl, D⟩
theorem div_qb {a b : TInterval} (ha : Fin a) (hb : Fin b) (h : b.Hi < 0) : ∃ r, interval_Div a b = some r ∧ Qv (ngv a) (ngv b) r := by
  obtain ⟨x, y, u, v, hd, D⟩ := div_below ha hb h
  exact ⟨_, hd, x, y, u, v, rfl, D⟩
theorem ngv_le {a : TInterval} (h : a.Lo ≤ a.Hi) : (ngv a).Lo ≤ (ngv a).Hi := by unfold ngv; simp only; omega
theorem div_neg_l {a b : TInterval} (ha : Ok a) (hb : Ok b) {r : TInterval} (hr : interval_Div a b = some r) : interval_Div (ngv a) b = some (ngv r) := by
  rcases ha with rfl | ha
  · rw [div_entl] at hr
    obtain rfl := Option.some.inj hr
    exact div_entl _
  rcases hb with rfl | hb
  · rw [div_entr] at hr
    obtain rfl := Option.some.inj hr
    exact div_entr _
  have la := ha.le; have lb := hb.le
  rcases Int.lt_or_le 0 b.Lo with h0 | h0
  · obtain ⟨q, h1, Q⟩ := div_qa ha hb h0
    obtain ⟨q', h1', Q'⟩ := div_qa (ngv_fin ha) hb h0
    rw [h1] at hr
    obtain rfl := Option.some.inj hr
    rw [h1', Q'.uniq (ngv_le la) lb Q.neg]
  · rcases Int.lt_or_le b.Hi 0 with h3 | h3
    · obtain ⟨q, h1, Q⟩ := div_qb ha hb h3
      obtain ⟨q', h1', Q'⟩ := div_qb (ngv_fin ha) hb h3
      rw [h1] at hr
      obtain rfl := Option.some.inj hr
      rw [h1', Q'.uniq (ngv_le (ngv_le la)) (ngv_le lb) Q.neg]
    · rw [div_zero ha hb ⟨h0, h3⟩] at hr
      obtain rfl := Option.some.inj hr
      rw [div_zero (ngv_fin ha) hb ⟨h0, h3⟩]
      rfl
theorem div_neg_r {a b : TInterval} (ha : Ok a) (hb : Ok b) {r : TInterval} (hr : interval_Div a b = some r) : interval_Div a (ngv b) = some (ngv r) := by
  rcases ha with rfl | ha
  · rw [div_entl] at hr
    obtain rfl := Option.some.inj hr
    exact div_entl _
  rcases hb with rfl | hb
  · rw [div_entr] at hr
    obtain rfl := Option.some.inj hr
    exact div_entr _
  have la := ha.le; have lb := hb.le
  rcases Int.lt_or_le 0 b.Lo with h0 | h0
  · obtain ⟨q, h1, Q⟩ := div_qa ha hb h0
    obtain ⟨q', h1', Q'⟩ := div_qb ha (ngv_fin hb) (by simp only [ngv]; omega)
    rw [h1] at hr
    obtain rfl := Option.some.inj hr
    rw [ngv_ngv] at Q'
    rw [h1', Q'.uniq (ngv_le la) lb Q.neg]
  · rcases Int.lt_or_le b.Hi 0 with h3 | h3
    · obtain ⟨q, h1, Q⟩ := div_qb ha hb h3
      obtain ⟨q', h1', Q'⟩ := div_qa ha (ngv_fin hb) (by simp only [ngv]; omega)
      rw [h1] at hr
      obtain rfl := Option.some.inj hr
      have Q2 := Q.neg
      rw [ngv_ngv] at Q2
      rw [h1', Q'.uniq la (ngv_le lb) Q2]
    · rw [div_zero ha hb ⟨h0, h3⟩] at hr
      obtain rfl := Option.some.inj hr
      rw [div_zero ha (ngv_fin hb) (by simp only [ngv]; omega)]
      rfl
theorem rlo_neg (a : TInterval) (n : Int) : rlo a (-n) = -(rhi a n) := by
  unfold rlo rhi
  rcases Int.lt_trichotomy n 0 with h | h | h
  · rw [if_neg (by omega), if_pos h, Int.mul_neg]
  · subst h; simp
  · rw [if_pos (by omega), if_neg (by omega), Int.mul_neg]
theorem rhi_neg (a : TInterval) (n : Int) : rhi a (-n) = -(rlo a n) := by
  unfold rlo rhi
  rcases Int.lt_trichotomy n 0 with h | h | h
  · rw [if_neg (by omega), if_pos h, Int.mul_neg]
  · subst h; simp
  · rw [if_pos (by omega), if_neg (by omega), Int.mul_neg]
theorem ratio_neg {a : TInterval} (ha : Ok a) {n d : Int} (hn : -1073741824 ≤ n ∧ n ≤ 1073741824) (hd : 1 ≤ d ∧ d ≤ 1073741824) {r : TInterval} (hr : interval_MulRatio a n d = some r) : interval_MulRatio a (-n) d = some (ngv r) := by
  rcases ha with rfl | ha
  · rw [ratio_ent] at hr
    obtain rfl := Option.some.inj hr
    exact ratio_ent _ _
  · rw [ratio_fin ha hn hd] at hr
    obtain rfl := Option.some.inj hr
    rw [ratio_fin ha (by omega) hd, ngv_nw, neg_cdiv, rlo_neg, rhi_neg, cdiv_neg]
theorem cdiv_mul (x d : Int) (hd : 0 < d) : cdiv (x * d) d = x := by
  unfold cdiv
  rw [← Int.neg_mul, Int.mul_ediv_cancel _ (by omega)]
  omega
theorem mul_one' {a : TInterval} (ha : Ok a) : interval_Mul a ⟨65536, 65536⟩ = some a := by
  rcases ha with rfl | ha
  · exact mul_entl _
  · obtain ⟨l, h, hm, H⟩ := mul_fin ha (b := ⟨65536, 65536⟩) (by unfold Fin; simp only; omega)
    have h1 := H.lo; have h2 := H.hi; have h3 := H.isl; have h4 := H.ish; have la := ha.le
    simp only at h1 h2 h3 h4
    have e1 : l = a.Lo * 65536 := by omega
    have e2 : h = a.Hi * 65536 := by omega
    subst e1 e2
    rw [hm, Int.mul_ediv_cancel _ (by omega), cdiv_mul _ _ (by omega), nw_self ha]
theorem add_zero' {a : TInterval} (ha : Ok a) : interval_Add a ⟨0, 0⟩ = some a := by
  rcases ha with rfl | ha
  · exact add_entl _
  · rw [add_fin ha (by unfold Fin; simp only; omega)]
    simp only [Int.add_zero]
    rw [nw_self ha]
theorem ratio_same {a : TInterval} (ha : Ok a) {d : Int} (hd : 1 ≤ d ∧ d ≤ 1073741824) : interval_MulRatio a d d = some a := by
  rcases ha with rfl | ha
  · exact ratio_ent _ _
  · rw [ratio_fin ha (by omega) hd]
    unfold rlo rhi
    rw [if_neg (by omega), if_neg (by omega), Int.mul_ediv_cancel _ (by omega), cdiv_mul _ _ (by omega), nw_self ha]
theorem sq_mul {a : TInterval} (ha : Ok a) : ∃ r r', interval_Square a = some r ∧ interval_Mul a a = some r' ∧ interval_Subset r r' = some true := by
  rcases ha with rfl | ha
  · exact ⟨Ent, Ent, sq_ent, mul_entl _, subset_ent (.inl rfl)⟩
  · obtain ⟨l, h, hm, H⟩ := mul_fin ha ha
    have la := ha.le
    have m1 : l ≤ sqm a * sqm a := by
      have : ∃ p, a.Lo ≤ p ∧ p ≤ a.Hi ∧ (sqm a = p ∨ sqm a = -p) := by
        rcases Int.lt_or_le 0 a.Lo with h1 | h1
        · exact ⟨a.Lo, by unfold sqm mx; split <;> split <;> omega⟩
        · rcases Int.lt_or_le a.Hi 0 with h2 | h2
          · exact ⟨a.Hi, by unfold sqm mx; split <;> split <;> omega⟩
          · exact ⟨0, by unfold sqm mx; split <;> split <;> omega⟩
      obtain ⟨p, p1, p2, p3⟩ := this
      have m := H.mem (p := p) (q := p) ⟨p1, p2⟩ ⟨p1, p2⟩
      rcases p3 with p3 | p3 <;> rw [p3]
      · exact m.1
      · rw [Int.neg_mul_neg]; exact m.1
    have m2 : mag a * mag a ≤ h := by
      have : mag a = a.Hi ∨ mag a = -a.Lo := by unfold mag mx; split <;> omega
      have hh := H.hi
      rcases this with e | e <;> rw [e]
      · omega
      · rw [Int.neg_mul_neg]; omega
    exact ⟨_, _, sq_fin ha, hm, sub_nw (fc (by omega) (sq_le2 ha)) (Int.ediv_le_ediv (by omega) m1) (cdiv_mono (by omega) m2)⟩
theorem sub_neg {a b : TInterval} (hb : Ok b) {r : TInterval} (hr : interval_Sub a b = some r) : interval_Add a (ngv b) = some r := by
  unfold interval_Sub at hr
  rw [neg_is hb] at hr
  simp only [Option.bind_some] at hr
  cases h : interval_Add a (ngv b) with
  | none => rw [h] at hr; cases hr
  | some q => rw [h] at hr; exact hr

theorem algebra {k0 : Nat} (hk : 4294967296 < k0) {x : TOperands} (hx : OpsIn x) : armillarylaw02_IntervalAlgebra k0 x = some true := by
  unfold armillarylaw02_IntervalAlgebra
  obtain ⟨a, ha, oka⟩ := made_ok ⟨x.A.Lo, x.A.Hi⟩
  obtain ⟨b, hb, okb⟩ := made_ok ⟨x.B.Lo, x.B.Hi⟩
  obtain ⟨n, d, hr, nr, dr⟩ := ratio_eq (x := ⟨⟨x.A.Lo, x.A.Hi⟩, ⟨x.B.Lo, x.B.Hi⟩, x.N, x.D⟩) hx
  obtain ⟨m, hm, okm⟩ := mul_ok oka okb
  obtain ⟨s, hs, oks⟩ := add_ok' oka okb
  obtain ⟨t, ht, okt⟩ := sub_ok oka okb
  obtain ⟨q, hq, okq⟩ := sq_ok oka
  obtain ⟨e, he, oke⟩ := div_ok oka okb
  obtain ⟨f, hf, okf⟩ := ratio_ok oka nr (d := d) ⟨dr.1, by omega⟩
  obtain ⟨g, g', hg, hg', hgg⟩ := sq_mul oka
  refine bT (sane' hk) (bT ha (bT hb (bT hr (bT hm (bT hs (bT ((add_comm' okb oka).trans hs) (bT (same_self s) ?_)))))))
  refine gT rfl ((mul_comm' okb oka).trans hm) (gT rfl (same_self m) ?_)
  refine gT rfl ht (gT rfl (neg_is okb) (gT rfl (sub_neg okb ht) (gT rfl (same_self t) ?_)))
  refine gT rfl (neg_is oka) (gT rfl (neg_is (ngv_ok oka)) (gT (v := true) rfl (same_of (ngv_ngv a)) ?_))
  refine gT rfl (neg_is oka) (gT rfl (mul_neg oka okb hm) (gT rfl (neg_is okm) (gT rfl (same_self _) ?_)))
  refine gT rfl (neg_is oka) (gT rfl ((sq_neg oka).trans hq) (gT rfl hq (gT rfl (same_self _) (iF Bool.false_ne_true ?_))))
  refine bT he (bT (neg_is oka) (bT (div_neg_l oka okb he) (bT (neg_is oke) (bT (same_self _) ?_))))
  refine gT rfl (neg_is okb) (gT rfl (div_neg_r oka okb he) (gT rfl (neg_is oke) (gT rfl (same_self _) ?_)))
  refine gT (v := ngv f) rfl (by simp only; rw [w64e (x := 0 - n) (y := -n) (by omega) (by omega) (by omega)]; exact ratio_neg oka nr ⟨dr.1, by omega⟩ hf) (gT rfl hf (gT rfl (neg_is okf) (gT rfl (same_self _) (iF Bool.false_ne_true ?_))))
  refine bT (v := ⟨65536, 65536⟩) rfl (bT (mul_one' oka) (bT (same_self a) (gT (v := ⟨0, 0⟩) rfl rfl (gT rfl (add_zero' oka) (gT rfl (same_self a) ?_)))))
  refine gT rfl (ratio_same oka ⟨dr.1, by omega⟩) (gT rfl (same_self a) (gT rfl hg (gT rfl hg' (gT rfl hgg (gT rfl (ival okm) (gT rfl (ival oke) rfl))))))
theorem Pure_IntervalAlgebra : armillarylaw02_IntervalAlgebra.Pure := by
  intro _ _ _ _ _ _ _ _ _ _ hn hd
  exact ⟨4294967400, algebra (by decide) ⟨hn.1, hn.2, hd.1, hd.2⟩⟩
end Go.Proofs.YtmjnbhigomjjnaaDoor
