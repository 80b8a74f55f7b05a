/- Intervals and rational points. Own work. -/
import Derived.Test.YtglcmhldonkfdaaDoorPlM12
set_option maxRecDepth 10000
set_option linter.unusedVariables false
set_option linter.unusedSimpArgs false
namespace Go.Proofs.YtglcmhldonkfdaaDoor
open Go
def InQ (a : TInterval) (r : Rat) : Prop := a = Ent ∨ (a.Lo : Rat) ≤ r ∧ r ≤ (a.Hi : Rat)
theorem cle {x y : Int} (h : x ≤ y) : (x : Rat) ≤ (y : Rat) := Rat.intCast_le_intCast.mpr h
theorem qR {x y z : Rat} (h : x ≤ y) (hz : 0 ≤ z) : x * z ≤ y * z := Rat.mul_le_mul_of_nonneg_right h hz
theorem qRn {x y z : Rat} (h : x ≤ y) (hz : z ≤ 0) : y * z ≤ x * z := by
  have := qR h (z := -z) (by grind)
  grind
theorem bilin_lo {x r y u s v L : Rat} (h1 : x ≤ r) (h2 : r ≤ y) (h3 : u ≤ s) (h4 : s ≤ v) (a : L ≤ x * u) (b : L ≤ x * v) (c : L ≤ y * u) (d : L ≤ y * v) : L ≤ r * s := by
  have side : ∀ z : Rat, L ≤ z * u → L ≤ z * v → L ≤ z * s := fun z hu hv => by
    by_cases hz : 0 ≤ z
    · have := qR h3 hz; grind
    · have := qRn h4 (z := z) (by grind); grind
  by_cases hs : 0 ≤ s
  · have := qR h1 hs; have := side x a b; grind
  · have := qRn h2 (z := s) (by grind); have := side y c d; grind
theorem bilin_hi {x r y u s v L : Rat} (h1 : x ≤ r) (h2 : r ≤ y) (h3 : u ≤ s) (h4 : s ≤ v) (a : x * u ≤ L) (b : x * v ≤ L) (c : y * u ≤ L) (d : y * v ≤ L) : r * s ≤ L := by
  have side : ∀ z : Rat, z * u ≤ L → z * v ≤ L → z * s ≤ L := fun z hu hv => by
    by_cases hz : 0 ≤ z
    · have := qR h4 hz; grind
    · have := qRn h3 (z := z) (by grind); grind
  by_cases hs : 0 ≤ s
  · have := qR h2 hs; have := side y c d; grind
  · have := qRn h1 (z := s) (by grind); have := side x a b; grind
theorem inq_nw {l h : Int} {r : Rat} (hl : (l : Rat) ≤ r) (hh : r ≤ (h : Rat)) : InQ (nw l h) r := by
  unfold nw; split
  · exact .inl rfl
  · exact .inr ⟨hl, hh⟩
theorem fl_q (l : Int) : ((l / 65536 : Int) : Rat) * 65536 ≤ (l : Rat) := by
  have h := cle (f_le l)
  rw [Rat.intCast_mul] at h
  exact h
theorem ce_q (l : Int) : (l : Rat) ≤ ((cdiv l 65536 : Int) : Rat) * 65536 := by
  have h := cle (c_le l)
  rw [Rat.intCast_mul] at h
  exact h
theorem inq_mul {a b : TInterval} (ha : Ok a) (hb : Ok b) {r s : Rat} (hr : InQ a r) (hs : InQ b s) : InQ (imul a b) (r * s / 65536) := by
  rcases ha with rfl | fa
  · rw [imul_entl]; exact .inl rfl
  rcases hb with rfl | fb
  · rw [imul_entr]; exact .inl rfl
  rcases hr with h | hr
  · exact absurd h fa.not
  rcases hs with h | hs
  · exact absurd h fb.not
  obtain ⟨l, h, e, H⟩ := mul_fin fa fb
  have e' : imul a b = nw (l / 65536) (cdiv h 65536) := by rw [imul, e]; rfl
  rw [e']
  obtain ⟨l1, l2, l3, l4⟩ := H.lo
  obtain ⟨u1, u2, u3, u4⟩ := H.hi
  have l1 := cle l1; have l2 := cle l2; have l3 := cle l3; have l4 := cle l4
  have u1 := cle u1; have u2 := cle u2; have u3 := cle u3; have u4 := cle u4
  rw [Rat.intCast_mul] at l1 l2 l3 l4 u1 u2 u3 u4
  have hl := bilin_lo hr.1 hr.2 hs.1 hs.2 l1 l2 l3 l4
  have hh := bilin_hi hr.1 hr.2 hs.1 hs.2 u1 u2 u3 u4
  have f := fl_q l
  have c := ce_q h
  exact inq_nw (by grind) (by grind)
theorem inq_add {a b : TInterval} (ha : Ok a) (hb : Ok b) {r s : Rat} (hr : InQ a r) (hs : InQ b s) : InQ (iadd a b) (r + s) := by
  rcases ha with rfl | fa
  · rw [iadd_entl]; exact .inl rfl
  rcases hb with rfl | fb
  · rw [iadd_entr]; exact .inl rfl
  rcases hr with h | hr
  · exact absurd h fa.not
  rcases hs with h | hs
  · exact absurd h fb.not
  rw [iadd_fin fa fb]
  exact inq_nw (by rw [Rat.intCast_add]; grind) (by rw [Rat.intCast_add]; grind)
theorem inq_sub {a b : TInterval} (ha : Ok a) (hb : Ok b) {r s : Rat} (hr : InQ a r) (hs : InQ b s) : InQ (isub a b) (r - s) := by
  rcases ha with rfl | fa
  · rw [isub, sub_entl hb]; exact .inl rfl
  rcases hb with rfl | fb
  · rw [isub, sub_entr]; exact .inl rfl
  rcases hr with h | hr
  · exact absurd h fa.not
  rcases hs with h | hs
  · exact absurd h fb.not
  rw [isub, sub_fin fa fb]
  exact inq_nw (by rw [Rat.intCast_sub]; grind) (by rw [Rat.intCast_sub]; grind)
theorem sg_fin {a : TInterval} (ha : Ok a) (h : sg a ≠ 0) : Fin a ∧ (0 < a.Lo ∨ a.Hi < 0) := by
  have h2 : 0 < a.Lo ∨ a.Hi < 0 := by
    unfold sg at h
    by_cases h1 : a.Lo > 0
    · exact .inl h1
    · rw [if_neg h1] at h
      by_cases h3 : a.Hi < 0
      · exact .inr h3
      · rw [if_neg h3] at h; exact absurd rfl h
  rcases ha with rfl | fa
  · unfold Ent at h2; simp at h2
  · exact ⟨fa, h2⟩
theorem sg_ne {a : TInterval} (ha : Ok a) (h : sg a ≠ 0) {r : Rat} (hr : InQ a r) : r ≠ 0 := by
  obtain ⟨fa, h2⟩ := sg_fin ha h
  rcases hr with e | hr
  · exact absurd e fa.not
  · rcases h2 with h2 | h2
    · have := cle (show (1 : Int) ≤ a.Lo by omega); grind
    · have := cle (show a.Hi ≤ (-1 : Int) by omega); grind
theorem fdiv_q {n d : Int} (hd : 0 < d) : ((n / d : Int) : Rat) * (d : Rat) ≤ (n : Rat) := by
  have h := cle (show n / d * d ≤ n from (le_fdiv hd).1 (Int.le_refl _))
  rw [Rat.intCast_mul] at h; exact h
theorem cdiv_q {n d : Int} (hd : 0 < d) : (n : Rat) ≤ ((cdiv n d : Int) : Rat) * (d : Rat) := by
  have h := cle (show n ≤ cdiv n d * d from (cdiv_le hd).1 (Int.le_refl _))
  rw [Rat.intCast_mul] at h; exact h
theorem div_mono {x y r s : Rat} (hs : 0 < s) (hy : 0 < y) (h : x * s ≤ r * y) : x / y ≤ r / s := by
  have e1 : x / y = (x * s) / (y * s) := by grind
  have e2 : r / s = (r * y) / (y * s) := by grind
  rw [e1, e2]
  have hp : 0 < y * s := Rat.mul_pos hy hs
  rw [Rat.div_def, Rat.div_def]
  exact qR h (Rat.le_of_lt (Rat.inv_pos.2 hp))
theorem dh_q {a b : TInterval} {x y u v : Int} (H : DHull a b x y u v) (hb : 0 < b.Lo) {r s : Rat} (hr : (a.Lo : Rat) ≤ r ∧ r ≤ (a.Hi : Rat)) (hs : (b.Lo : Rat) ≤ s ∧ s ≤ (b.Hi : Rat)) :
    ((x * 65536 / y : Int) : Rat) ≤ r * 65536 / s ∧ r * 65536 / s ≤ ((cdiv (u * 65536) v : Int) : Rat) := by
  have hs0 : (0 : Rat) < s := by have := cle (show (1 : Int) ≤ b.Lo by omega); grind
  have hy : (0 : Rat) < (y : Rat) := by have := cle (show (1 : Int) ≤ y from H.ypos); grind
  have hv : (0 : Rat) < (v : Rat) := by have := cle (show (1 : Int) ≤ v from H.vpos); grind
  obtain ⟨a1, a2, a3, a4⟩ := H.lo
  obtain ⟨b1, b2, b3, b4⟩ := H.hi
  have a1 := cle a1; have a2 := cle a2
  have b3 := cle b3; have b4 := cle b4
  rw [Rat.intCast_mul, Rat.intCast_mul] at a1 a2 b3 b4
  have hxs : (x : Rat) * s ≤ r * (y : Rat) := by
    have h1 : (x : Rat) * s ≤ (a.Lo : Rat) * (y : Rat) := by
      by_cases hx : (0 : Rat) ≤ (x : Rat)
      · have := qR hs.2 hx; grind
      · have := qRn hs.1 (z := (x : Rat)) (by grind); grind
    have h2 := qR hr.1 (Rat.le_of_lt hy)
    grind
  have hus : r * (v : Rat) ≤ (u : Rat) * s := by
    have h1 : (a.Hi : Rat) * (v : Rat) ≤ (u : Rat) * s := by
      by_cases hx : (0 : Rat) ≤ (u : Rat)
      · have := qR hs.1 hx; grind
      · have := qRn hs.2 (z := (u : Rat)) (by grind); grind
    have h2 := qR hr.2 (Rat.le_of_lt hv)
    grind
  have d1 := div_mono hs0 hy hxs
  have d2 := div_mono hv hs0 hus
  have f := fdiv_q (n := x * 65536) H.ypos
  have c := cdiv_q (n := u * 65536) H.vpos
  rw [Rat.intCast_mul] at f c
  constructor
  · have := div_mono (x := ((x * 65536 / y : Int) : Rat)) (y := 1) (r := (x : Rat) * ((65536 : Int) : Rat)) (s := (y : Rat)) hy (by grind) (by grind)
    grind
  · have := div_mono (r := ((cdiv (u * 65536) v : Int) : Rat)) (s := 1) (x := (u : Rat) * ((65536 : Int) : Rat)) (y := (v : Rat)) (by grind) hv (by grind)
    grind
theorem inq_div {a b : TInterval} (ha : Ok a) (hb : Ok b) (hz : sg b ≠ 0) {r s : Rat} (hr : InQ a r) (hs : InQ b s) : InQ (idiv a b) (r * 65536 / s) := by
  obtain ⟨fb, h2⟩ := sg_fin hb hz
  rcases ha with rfl | fa
  · rw [idiv, div_entl]; exact .inl rfl
  rcases hr with h | hr
  · exact absurd h fa.not
  rcases hs with h | hs
  · exact absurd h fb.not
  rcases h2 with h2 | h2
  · obtain ⟨x, y, u, v, e, H⟩ := div_above fa fb h2
    have e' : idiv a b = nw (x * 65536 / y) (cdiv (u * 65536) v) := by rw [idiv, e]; rfl
    have := dh_q H h2 hr hs
    rw [e']
    exact inq_nw this.1 this.2
  · obtain ⟨x, y, u, v, e, H⟩ := div_below fa fb h2
    have e' : idiv a b = nw (x * 65536 / y) (cdiv (u * 65536) v) := by rw [idiv, e]; rfl
    have h3 : 0 < (ngv b).Lo := by unfold ngv; simp only; omega
    have q := dh_q H h3 (r := -r) (s := -s) (by unfold ngv; simp only [Rat.intCast_neg]; grind) (by unfold ngv; simp only [Rat.intCast_neg]; grind)
    have e2 : -r * 65536 / -s = r * 65536 / s := by grind
    rw [e2] at q
    rw [e']
    exact inq_nw q.1 q.2
end Go.Proofs.YtglcmhldonkfdaaDoor
