/- The law of inclusion, over the printed plain functions: it answers true. Own work. -/
import Derived.Test.YtmjnbhigomjjnaaDoorPlB4
namespace Go.Proofs.YtmjnbhigomjjnaaDoor
set_option maxRecDepth 10000
set_option linter.unusedSimpArgs false
set_option linter.unusedVariables false

theorem bT {α β : Type} {X : Option α} {v : α} {f : α → Option β} {r : Option β} (h : X = some v) (hf : f v = r) : X.bind f = r := by
  subst h
  exact hf
theorem gT {α β : Type} {c : Prop} [Decidable c] {X D : Option α} {v : α} {f : α → Option β} {r : Option β} (hc : c) (h : X = some v) (hf : f v = r) : (if c then X else D).bind f = r := by
  rw [if_pos hc]
  exact bT h hf
theorem gF {α β : Type} {c : Prop} [Decidable c] {X : Option α} {d : α} {f : α → Option β} {r : Option β} (hc : ¬ c) (hf : f d = r) : (if c then X else some d).bind f = r := by
  rw [if_neg hc]
  exact bT rfl hf
theorem iT {β : Type} {c : Prop} [Decidable c] {X Y : Option β} {r : Option β} (hc : c) (h : X = r) : (if c then X else Y) = r := by
  rw [if_pos hc]
  exact h
theorem iF {β : Type} {c : Prop} [Decidable c] {X Y : Option β} {r : Option β} (hc : ¬ c) (h : Y = r) : (if c then X else Y) = r := by
  rw [if_neg hc]
  exact h
theorem w64e {x y : Int} (e : x = y) (h1 : -9223372036854775808 ≤ y) (h2 : y ≤ 9223372036854775807) : w_i64 x = y := by
  rw [e]
  exact w64 h1 h2

theorem sane' {k0 : Nat} (hk : 4294967296 < k0) : armillarylaw02_sanity k0 = some true := by
  have e : k0 = (k0 - 100) + 100 := by omega
  rw [e]
  exact sane _

/-- The arguments' ranges. -/
structure OpsIn (x : TOperands) : Prop where
  n1 : -2147483648 ≤ x.N
  n2 : x.N ≤ 2147483647
  d1 : 0 ≤ x.D
  d2 : x.D ≤ 65535

theorem ratio_eq {x : TOperands} (h : OpsIn x) : ∃ n d, armillarylaw02_ratio x = some (n, d) ∧ (-1073741824 ≤ n ∧ n ≤ 1073741824) ∧ (1 ≤ d ∧ d ≤ 65536) := by
  obtain ⟨n1, n2, d1, d2⟩ := h
  unfold armillarylaw02_ratio
  have e1 : w_i64 x.N = x.N := w64 (by omega) (by omega)
  have e2 : w_i64 x.D = x.D := w64 (by omega) (by omega)
  have h1 := Int.tmod_lt_of_pos x.N (b := 1073741824) (by omega)
  have h2 := Int.tmod_lt_of_pos (-x.N) (b := 1073741824) (by omega)
  rw [Int.neg_tmod] at h2
  rw [e1, e2, w64 (by omega) (by omega)]
  exact ⟨_, _, rfl, by omega, by omega⟩

theorem has1 {x y n : Int} (h1 : -4611686018427387904 ≤ n) (h2 : n ≤ 4611686018427387904) (hx : x ≤ n) (hy : n ≤ y) : armillarylaw02_contains (nw x y) n 1 = some true :=
  has_nw (by omega) (by omega) h1 h2 (by rw [Int.ediv_one]; exact hx) ((cdiv_le (by omega)).2 (by omega))
theorem hasd {l h n d : Int} (hd : 0 < d) (hd2 : d ≤ 4611686018427387904) (h1 : -4611686018427387904 ≤ n) (h2 : n ≤ 4611686018427387904) (hl : l ≤ n) (hh : n ≤ h) : armillarylaw02_contains (nw (l / d) (cdiv h d)) n d = some true :=
  has_nw hd hd2 h1 h2 (Int.ediv_le_ediv hd hl) ((cdiv_le hd).2 (Int.le_trans hh ((cdiv_le hd).1 (Int.le_refl _))))

theorem div_has_pos {a b : TInterval} (ha : Fin a) (hb : Fin b) {p q : Int} (hp : a.Lo ≤ p ∧ p ≤ a.Hi) (hq : b.Lo ≤ q ∧ q ≤ b.Hi) (h : 0 < q) : ∃ r, interval_Div a b = some r ∧ armillarylaw02_contains r (p * 65536) q = some true := by
  have ha' := ha
  have hb' := hb
  unfold Fin at ha' hb'
  rcases Int.lt_or_le 0 b.Lo with h0 | h0
  · obtain ⟨x, y, u, v, hd, H⟩ := div_above ha hb h0
    obtain ⟨m1, m2⟩ := H.mem hp hq
    exact ⟨_, hd, has_nw h (by omega) (by omega) (by omega) (frac_mono H.ypos h m1) (cfrac_mono h H.vpos m2)⟩
  · exact ⟨Ent, div_zero ha hb (by omega), has_ent _ _⟩
theorem div_has_neg {a b : TInterval} (ha : Fin a) (hb : Fin b) {p q : Int} (hp : a.Lo ≤ p ∧ p ≤ a.Hi) (hq : b.Lo ≤ q ∧ q ≤ b.Hi) (h : q < 0) : ∃ r, interval_Div a b = some r ∧ armillarylaw02_contains r (-p * 65536) (-q) = some true := by
  have ha' := ha
  have hb' := hb
  unfold Fin at ha' hb'
  rcases Int.lt_or_le b.Hi 0 with h0 | h0
  · obtain ⟨x, y, u, v, hd, H⟩ := div_below ha hb h0
    obtain ⟨m1, m2⟩ := H.mem (p := -p) (q := -q) (by simp only [ngv]; omega) (by simp only [ngv]; omega)
    exact ⟨_, hd, has_nw (by omega) (by omega) (by omega) (by omega) (frac_mono H.ypos (by omega) m1) (cfrac_mono (by omega) H.vpos m2)⟩
  · exact ⟨Ent, div_zero ha hb (by omega), has_ent _ _⟩

theorem root_part {k0 : Nat} (hk : 4294967296 < k0) {a : TInterval} (fa : Fin a) {p : Int} (pin : a.Lo ≤ p ∧ p ≤ a.Hi) : (Option.bind (interval_Sqrt k0 a) fun t43 =>
        if (decide (p < 0)) = true then some true
        else (some ((t43.2 && (decide ((w_i64 (t43.1.Lo * t43.1.Lo)) ≤ (w_i64 (p * 65536))))) && (decide ((w_i64 (t43.1.Hi * t43.1.Hi)) ≥ (w_i64 (p * 65536)))))).bind fun z47 => some (z47 && true)) = some true := by
  rcases Int.lt_or_le a.Hi 0 with h0 | h0
  · exact bT (isqrt_below k0 fa h0) (iT (decide_eq_true (by omega)) rfl)
  · obtain ⟨s, t, u, v, hs, R1, R2, st, fs⟩ := isqrt_fin hk fa h0
    refine bT hs ?_
    by_cases hp0 : p < 0
    · exact iT (decide_eq_true hp0) rfl
    · refine iF (by simpa using hp0) ?_
      have fa' := fa
      unfold Fin at fa' fs
      have m1 : 0 ≤ mx a.Lo 0 ∧ mx a.Lo 0 ≤ p := by unfold mx; split <;> omega
      have b1 := R1.bound (by omega)
      have b2 := R2.bound (by omega)
      have e1 := R1.le
      have e2 := R2.up
      have e3 := R1.s0
      have e4 := prod_bound (x := s) (y := s) (A := 16777216) (B := 16777216) (by omega) (by omega)
      have e5 := prod_bound (x := t) (y := t) (A := 16777216) (B := 16777216) (by omega) (by omega)
      rw [w64 (x := s * s) (by omega) (by omega), w64 (x := t * t) (by omega) (by omega), w64 (x := p * 65536) (by omega) (by omega)]
      have g1 : decide (s * s ≤ p * 65536) = true := decide_eq_true (by omega)
      have g2 : decide (t * t ≥ p * 65536) = true := decide_eq_true (by omega)
      rw [g1, g2]
      rfl

theorem inclusion {k0 : Nat} (hk : 4294967296 < k0) {x : TOperands} (hx : OpsIn x) {i k : Int} (hi : 0 ≤ i ∧ i ≤ 4294967295) (hkk : 0 ≤ k ∧ k ≤ 4294967295) : armillarylaw02_IntervalInclusion k0 x i k = some true := by
  unfold armillarylaw02_IntervalInclusion
  obtain ⟨a, ha, oka⟩ := made_ok ⟨x.A.Lo, x.A.Hi⟩
  obtain ⟨b, hb, okb⟩ := made_ok ⟨x.B.Lo, x.B.Hi⟩
  refine bT (sane' hk) (bT ha (bT hb ?_))
  rcases oka with rfl | fa
  · refine bT ref_isEnt_ent (gF (by decide) (iT rfl ?_))
    exact bT (add_entl _) (bT ref_isEnt_ent (gT rfl (mul_entr _) (gT rfl ref_isEnt_ent (gT rfl (div_entl _) (gT rfl ref_isEnt_ent rfl)))))
  rcases okb with rfl | fb
  · refine bT (ref_isEnt_fin fa) (gT rfl ref_isEnt_ent (iT rfl ?_))
    exact bT (add_entr _) (bT ref_isEnt_ent (gT rfl (mul_entl _) (gT rfl ref_isEnt_ent (gT rfl (div_entr _) (gT rfl ref_isEnt_ent rfl)))))
  refine bT (ref_isEnt_fin fa) (gT rfl (ref_isEnt_fin fb) (iF (by decide) ?_))
  obtain ⟨p, hp, pin⟩ := pick_in fa hi
  obtain ⟨q, hq, qin⟩ := pick_in fb hkk
  obtain ⟨n, d, hr, nr, dr⟩ := ratio_eq (x := ⟨⟨x.A.Lo, x.A.Hi⟩, ⟨x.B.Lo, x.B.Hi⟩, x.N, x.D⟩) hx
  refine bT hp (bT hq (bT hr ?_))
  have pw : Wid p := by have := fa; unfold Fin at this; unfold Wid; omega
  have qw : Wid q := by have := fb; unfold Fin at this; unfold Wid; omega
  have pq := prod_bound (A := 2147483648) (B := 2147483648) pw qw
  have pp := prod_bound (A := 2147483648) (B := 2147483648) pw pw
  have pn := prod_bound (A := 2147483648) (B := 1073741824) pw nr
  have pw' := pw
  have qw' := qw
  unfold Wid at pw' qw'
  obtain ⟨l, h, hm, H⟩ := mul_fin fa fb
  have H' := H.mem pin qin
  have s1 := sq_mem fa pin
  have r1 := ratio_mem pin n
  refine bT (add_fin fa fb) (bT (v := true) (by rw [w64 (by omega) (by omega)]; exact has1 (by omega) (by omega) (by omega) (by omega)) ?_)
  refine gT rfl (sub_fin fa fb) (gT (v := true) rfl (by rw [w64 (by omega) (by omega)]; exact has1 (by omega) (by omega) (by omega) (by omega)) ?_)
  refine gT rfl (neg_eq fa.wlo fa.whi) (gT (v := true) rfl (by rw [w64e (y := -p) (by omega) (by omega) (by omega), ← nw_fin (neg_fin fa)]; exact has1 (by omega) (by omega) (by omega) (by omega)) ?_)
  refine gT rfl hm (gT (v := true) rfl (by rw [w64 (by omega) (by omega)]; exact hasd (by omega) (by omega) (by omega) (by omega) H'.1 H'.2) ?_)
  refine gT rfl (sq_fin fa) (gT (v := true) rfl (by rw [w64 (by omega) (by omega)]; exact hasd (by omega) (by omega) (by omega) (by omega) s1.1 s1.2) ?_)
  refine gT rfl (ratio_fin fa nr ⟨dr.1, by omega⟩) (gT (v := true) rfl (by simp only; rw [w64 (by omega) (by omega)]; exact hasd (by omega) (by omega) (by omega) (by omega) r1.1 r1.2) ?_)
  refine iF (by decide) ?_
  have root := root_part hk fa pin
  rcases Int.lt_trichotomy q 0 with h0 | h0 | h0
  · obtain ⟨r, d1, d2⟩ := div_has_neg fa fb pin qin h0
    have g1 : decide (q > 0) = false := decide_eq_false (by omega)
    have g2 : decide (q < 0) = true := decide_eq_true h0
    rw [g1, g2]
    exact gF (by decide) (gF (by decide) (gT rfl d1 (gT (v := true) rfl (by rw [w64e (x := 0 - p) (y := -p) (by omega) (by omega) (by omega), w64e (x := 0 - q) (y := -q) (by omega) (by omega) (by omega), w64 (by omega) (by omega)]; exact d2) (iF (by decide) root))))
  · have g1 : decide (q > 0) = false := decide_eq_false (by omega)
    have g2 : decide (q < 0) = false := decide_eq_false (by omega)
    rw [g1, g2]
    exact gF (by decide) (gF (by decide) (gF (by decide) (gF (by decide) (iF (by decide) root))))
  · obtain ⟨r, d1, d2⟩ := div_has_pos fa fb pin qin h0
    have g1 : decide (q > 0) = true := decide_eq_true h0
    have g2 : decide (q < 0) = false := decide_eq_false (by omega)
    rw [g1, g2]
    exact gT rfl d1 (gT (v := true) rfl (by rw [w64 (by omega) (by omega)]; exact d2) (gF (by decide) (gF (by decide) (iF (by decide) root))))

theorem Pure_IntervalInclusion : armillarylaw02_IntervalInclusion.Pure := by
  intro a b c d n e i k _ _ _ _ hn he hi hk
  exact ⟨4294967400, inclusion (by decide) ⟨hn.1, hn.2, he.1, he.2⟩ hi hk⟩
end Go.Proofs.YtmjnbhigomjjnaaDoor
