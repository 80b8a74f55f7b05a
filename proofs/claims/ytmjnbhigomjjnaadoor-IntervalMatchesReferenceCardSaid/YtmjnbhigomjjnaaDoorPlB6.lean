/- The operations over fit intervals: they answer, their answers are fit, and they grow with their arguments. Own work. -/
import Derived.Test.YtmjnbhigomjjnaaDoorPlIntervalLattice
namespace Go.Proofs.YtmjnbhigomjjnaaDoor
set_option maxRecDepth 10000
set_option linter.unusedSimpArgs false
set_option linter.unusedVariables false

theorem Fin.le {a : TInterval} (h : Fin a) : a.Lo ≤ a.Hi := h.2.1
theorem add_ok' {a b : TInterval} (ha : Ok a) (hb : Ok b) : ∃ r, interval_Add a b = some r ∧ Ok r := by
  rcases ha with rfl | ha
  · exact ⟨Ent, add_entl _, .inl rfl⟩
  · rcases hb with rfl | hb
    · exact ⟨Ent, add_entr _, .inl rfl⟩
    · exact ⟨_, add_fin ha hb, nw_ok (by have := ha.le; have := hb.le; omega)⟩
theorem sub_entl {b : TInterval} (hb : Ok b) : interval_Sub Ent b = some Ent := by
  unfold interval_Sub
  exact bT (neg_ok hb) (bT (add_entl _) rfl)
theorem sub_entr (a : TInterval) : interval_Sub a Ent = some Ent := by
  unfold interval_Sub
  exact bT (neg_ok (.inl rfl)) (bT (v := Ent) (add_entr a) rfl)
theorem sub_ok {a b : TInterval} (ha : Ok a) (hb : Ok b) : ∃ r, interval_Sub a b = some r ∧ Ok r := by
  rcases ha with rfl | ha
  · exact ⟨Ent, sub_entl hb, .inl rfl⟩
  · rcases hb with rfl | hb
    · exact ⟨Ent, sub_entr _, .inl rfl⟩
    · exact ⟨_, sub_fin ha hb, nw_ok (by have := ha.le; have := hb.le; omega)⟩
theorem mul_ok {a b : TInterval} (ha : Ok a) (hb : Ok b) : ∃ r, interval_Mul a b = some r ∧ Ok r := by
  rcases ha with rfl | ha
  · exact ⟨Ent, mul_entl _, .inl rfl⟩
  · rcases hb with rfl | hb
    · exact ⟨Ent, mul_entr _, .inl rfl⟩
    · obtain ⟨l, h, hm, H⟩ := mul_fin ha hb
      exact ⟨_, hm, nw_ok (fc (by omega) H.le)⟩
theorem DHull.fits {a b : TInterval} {x y u v : Int} (H : DHull a b x y u v) (hb : 0 < b.Lo) : x * 65536 / y ≤ cdiv (u * 65536) v := by
  have h1 := frac_mono H.ypos hb H.lo.1
  have h2 := cfrac_mono hb H.vpos H.hi.1
  have h3 := fc (l := a.Lo * 65536) hb (Int.le_refl _)
  omega
theorem div_ok {a b : TInterval} (ha : Ok a) (hb : Ok b) : ∃ r, interval_Div a b = some r ∧ Ok r := by
  rcases ha with rfl | ha
  · exact ⟨Ent, div_entl _, .inl rfl⟩
  · rcases hb with rfl | hb
    · exact ⟨Ent, div_entr _, .inl rfl⟩
    · rcases Int.lt_or_le 0 b.Lo with h0 | h0
      · obtain ⟨x, y, u, v, hd, D⟩ := div_above ha hb h0
        exact ⟨_, hd, nw_ok (D.fits h0)⟩
      · rcases Int.lt_or_le b.Hi 0 with h1 | h1
        · obtain ⟨x, y, u, v, hd, D⟩ := div_below ha hb h1
          exact ⟨_, hd, nw_ok (D.fits (by simp only [ngv]; omega))⟩
        · exact ⟨Ent, div_zero ha hb ⟨h0, h1⟩, .inl rfl⟩
theorem sqm_nn (a : TInterval) : 0 ≤ sqm a := (mxl _ _).2.1
theorem sq_le2 {a : TInterval} (h : Fin a) : sqm a * sqm a ≤ mag a * mag a := by
  have h1 := sq_mem h (p := a.Lo) ⟨by omega, h.le⟩
  omega
theorem sq_ok {a : TInterval} (ha : Ok a) : ∃ r, interval_Square a = some r ∧ Ok r := by
  rcases ha with rfl | ha
  · exact ⟨Ent, sq_ent, .inl rfl⟩
  · exact ⟨_, sq_fin ha, nw_ok (fc (by omega) (sq_le2 ha))⟩
theorem ratio_le {a : TInterval} (h : Fin a) (n : Int) : rlo a n ≤ rhi a n := by
  have := ratio_mem (a := a) (p := a.Lo) ⟨by omega, h.le⟩ n
  omega
theorem ratio_ok {a : TInterval} (ha : Ok a) {n d : Int} (hn : -1073741824 ≤ n ∧ n ≤ 1073741824) (hd : 1 ≤ d ∧ d ≤ 1073741824) : ∃ r, interval_MulRatio a n d = some r ∧ Ok r := by
  rcases ha with rfl | ha
  · exact ⟨Ent, ratio_ent _ _, .inl rfl⟩
  · exact ⟨_, ratio_fin ha hn hd, nw_ok (fc (by omega) (ratio_le ha n))⟩

/-- One lies within the other. -/
def Le (a b : TInterval) : Prop := b.Lo ≤ a.Lo ∧ a.Hi ≤ b.Hi
theorem Le.ent {a b : TInterval} (h : Le a b) (hb : Ok b) (e : a = Ent) : b = Ent := by
  subst e
  exact hb.ent_of (.inl h.1)
theorem Le.fin {a b : TInterval} (h : Le a b) (ha : Ok a) (hb : Fin b) : Fin a := by
  rcases ha with rfl | ha
  · unfold Le Ent at h; unfold Fin at hb; simp only at h; omega
  · exact ha
theorem mono_add {a b a' b' : TInterval} (ha : Ok a) (hb : Ok b) (ha' : Ok a') (hb' : Ok b') (h1 : Le a a') (h2 : Le b b') : ∃ r r', interval_Add a b = some r ∧ interval_Add a' b' = some r' ∧ interval_Subset r r' = some true := by
  obtain ⟨r, hr, okr⟩ := add_ok' ha hb
  rcases ha' with rfl | fa'
  · exact ⟨r, Ent, hr, add_entl _, subset_ent okr⟩
  rcases hb' with rfl | fb'
  · exact ⟨r, Ent, hr, add_entr _, subset_ent okr⟩
  have fa := h1.fin ha fa'
  have fb := h2.fin hb fb'
  unfold Le at h1 h2
  exact ⟨_, _, add_fin fa fb, add_fin fa' fb', sub_nw (by have := fa.le; have := fb.le; omega) (by omega) (by omega)⟩
theorem mono_sub {a b a' b' : TInterval} (ha : Ok a) (hb : Ok b) (ha' : Ok a') (hb' : Ok b') (h1 : Le a a') (h2 : Le b b') : ∃ r r', interval_Sub a b = some r ∧ interval_Sub a' b' = some r' ∧ interval_Subset r r' = some true := by
  obtain ⟨r, hr, okr⟩ := sub_ok ha hb
  have hb2 := hb'
  rcases ha' with rfl | fa'
  · exact ⟨r, Ent, hr, sub_entl hb2, subset_ent okr⟩
  rcases hb' with rfl | fb'
  · exact ⟨r, Ent, hr, sub_entr _, subset_ent okr⟩
  have fa := h1.fin ha fa'
  have fb := h2.fin hb fb'
  unfold Le at h1 h2
  exact ⟨_, _, sub_fin fa fb, sub_fin fa' fb', sub_nw (by have := fa.le; have := fb.le; omega) (by omega) (by omega)⟩
theorem Hull.mono {a b a' b' : TInterval} {l h l' h' : Int} (fa : Fin a) (fb : Fin b) (H : Hull a b l h) (H' : Hull a' b' l' h') (h1 : Le a a') (h2 : Le b b') : l' ≤ l ∧ h ≤ h' := by
  unfold Le at h1 h2
  have la := fa.le; have lb := fb.le
  have i := H.isl; have j := H.ish
  have m1 := H'.mem (p := a.Lo) (q := b.Lo) (by omega) (by omega)
  have m2 := H'.mem (p := a.Lo) (q := b.Hi) (by omega) (by omega)
  have m3 := H'.mem (p := a.Hi) (q := b.Lo) (by omega) (by omega)
  have m4 := H'.mem (p := a.Hi) (q := b.Hi) (by omega) (by omega)
  omega
theorem mono_mul {a b a' b' : TInterval} (ha : Ok a) (hb : Ok b) (ha' : Ok a') (hb' : Ok b') (h1 : Le a a') (h2 : Le b b') : ∃ r r', interval_Mul a b = some r ∧ interval_Mul a' b' = some r' ∧ interval_Subset r r' = some true := by
  obtain ⟨r, hr, okr⟩ := mul_ok ha hb
  rcases ha' with rfl | fa'
  · exact ⟨r, Ent, hr, mul_entl _, subset_ent okr⟩
  rcases hb' with rfl | fb'
  · exact ⟨r, Ent, hr, mul_entr _, subset_ent okr⟩
  have fa := h1.fin ha fa'
  have fb := h2.fin hb fb'
  obtain ⟨l, h, hm, H⟩ := mul_fin fa fb
  obtain ⟨l', h', hm', H'⟩ := mul_fin fa' fb'
  have m := Hull.mono fa fb H H' h1 h2
  exact ⟨_, _, hm, hm', sub_nw (fc (by omega) H.le) (by omega) (cdiv_mono (by omega) m.2)⟩
theorem DHull.mono {a b a' b' : TInterval} {x y u v x' y' u' v' : Int} (la : a.Lo ≤ a.Hi) (lb : b.Lo ≤ b.Hi) (H : DHull a b x y u v) (H' : DHull a' b' x' y' u' v') (h1 : Le a a') (h2 : Le b b') : x' * 65536 / y' ≤ x * 65536 / y ∧ cdiv (u * 65536) v ≤ cdiv (u' * 65536) v' := by
  unfold Le at h1 h2
  have m1 := H'.mem (p := x) (q := y) (by have := H.x_; omega) (by have := H.y_; omega)
  have m2 := H'.mem (p := u) (q := v) (by have := H.u_; omega) (by have := H.v_; omega)
  exact ⟨frac_mono H'.ypos H.ypos m1.1, cfrac_mono H.vpos H'.vpos m2.2⟩
theorem mono_div {a b a' b' : TInterval} (ha : Ok a) (hb : Ok b) (ha' : Ok a') (hb' : Ok b') (h1 : Le a a') (h2 : Le b b') : ∃ r r', interval_Div a b = some r ∧ interval_Div a' b' = some r' ∧ interval_Subset r r' = some true := by
  obtain ⟨r, hr, okr⟩ := div_ok ha hb
  rcases ha' with rfl | fa'
  · exact ⟨r, Ent, hr, div_entl _, subset_ent okr⟩
  rcases hb' with rfl | fb'
  · exact ⟨r, Ent, hr, div_entr _, subset_ent okr⟩
  have fa := h1.fin ha fa'
  have fb := h2.fin hb fb'
  have la := fa.le; have lb := fb.le
  rcases Int.lt_or_le 0 b'.Lo with h0 | h0
  · have h3 : 0 < b.Lo := by unfold Le at h2; omega
    obtain ⟨x, y, u, v, hd, D⟩ := div_above fa fb h3
    obtain ⟨x', y', u', v', hd', D'⟩ := div_above fa' fb' h0
    have m := DHull.mono la lb D D' h1 h2
    exact ⟨_, _, hd, hd', sub_nw (D.fits h3) m.1 m.2⟩
  · rcases Int.lt_or_le b'.Hi 0 with h4 | h4
    · have h3 : b.Hi < 0 := by unfold Le at h2; omega
      obtain ⟨x, y, u, v, hd, D⟩ := div_below fa fb h3
      obtain ⟨x', y', u', v', hd', D'⟩ := div_below fa' fb' h4
      have m := DHull.mono (by simp only [ngv]; omega) (by simp only [ngv]; omega) D D' (by unfold Le ngv at *; simp only; omega) (by unfold Le ngv at *; simp only; omega)
      exact ⟨_, _, hd, hd', sub_nw (D.fits (by simp only [ngv]; omega)) m.1 m.2⟩
    · exact ⟨r, Ent, hr, div_zero fa' fb' ⟨h0, h4⟩, subset_ent okr⟩
theorem mono_sq {a a' : TInterval} (ha : Ok a) (ha' : Ok a') (h1 : Le a a') : ∃ r r', interval_Square a = some r ∧ interval_Square a' = some r' ∧ interval_Subset r r' = some true := by
  obtain ⟨r, hr, okr⟩ := sq_ok ha
  rcases ha' with rfl | fa'
  · exact ⟨r, Ent, hr, sq_ent, subset_ent okr⟩
  have fa := h1.fin ha fa'
  have la := fa.le
  unfold Le at h1
  have s1 : sqm a' ≤ sqm a := by unfold sqm mx; split <;> split <;> split <;> split <;> omega
  have s2 : mag a ≤ mag a' := by unfold mag mx; split <;> split <;> omega
  have s3 : 0 ≤ mag a := by unfold mag mx; split <;> omega
  have q1 := sq_le (sqm_nn a') s1
  have q2 := sq_le s3 s2
  exact ⟨_, _, sq_fin fa, sq_fin fa', sub_nw (fc (by omega) (sq_le2 fa)) (by omega) (cdiv_mono (by omega) q2)⟩
theorem mono_ratio {a a' : TInterval} (ha : Ok a) (ha' : Ok a') (h1 : Le a a') {n d : Int} (hn : -1073741824 ≤ n ∧ n ≤ 1073741824) (hd : 1 ≤ d ∧ d ≤ 1073741824) : ∃ r r', interval_MulRatio a n d = some r ∧ interval_MulRatio a' n d = some r' ∧ interval_Subset r r' = some true := by
  obtain ⟨r, hr, okr⟩ := ratio_ok ha hn hd
  rcases ha' with rfl | fa'
  · exact ⟨r, Ent, hr, ratio_ent _ _, subset_ent okr⟩
  have fa := h1.fin ha fa'
  have la := fa.le
  unfold Le at h1
  have r1 : rlo a' n ≤ rlo a n := by
    have := ratio_mem (a := a') (p := if n < 0 then a.Hi else a.Lo) (by split <;> omega) n
    exact this.1
  have r2 : rhi a n ≤ rhi a' n := by
    have := ratio_mem (a := a') (p := if n < 0 then a.Lo else a.Hi) (by split <;> omega) n
    exact this.2
  exact ⟨_, _, ratio_fin fa hn hd, ratio_fin fa' hn hd, sub_nw (fc (by omega) (ratio_le fa n)) (Int.ediv_le_ediv (by omega) r1) (cdiv_mono (by omega) r2)⟩
theorem Root.mono {n s t n' s' t' : Int} (h : Root n s t) (h' : Root n' s' t') (hn : n ≤ n') : s ≤ s' ∧ t ≤ t' := by
  constructor
  · have := sq_lt h.s0 (by have := h'.s0; omega) (Int.lt_of_le_of_lt (Int.le_trans h.le hn) h'.lt)
    omega
  · have h1 := h'.up
    have h2 := h'.s0
    have h3 := h'.st
    rcases h.low with h4 | h4
    · omega
    · rcases Int.lt_or_le (t - 1) 0 with h5 | h5
      · omega
      · have := sq_lt h5 (by omega : 0 ≤ t') (by omega)
        omega
end Go.Proofs.YtmjnbhigomjjnaaDoor
