/- Words on subsets and on bounds of made intervals, for the laws. Own work. -/
import Derived.Test.YtmjnbhigomjjnaaDoorPlIntervalInclusion
namespace Go.Proofs.YtmjnbhigomjjnaaDoor
set_option maxRecDepth 10000
set_option linter.unusedSimpArgs false
set_option linter.unusedVariables false

theorem subset_of {a b : TInterval} (h : b.Lo ≤ a.Lo ∧ a.Hi ≤ b.Hi) : interval_Subset a b = some true := by
  unfold interval_Subset
  rw [decide_eq_true h.1, decide_eq_true h.2]
  rfl
theorem subset_ent {a : TInterval} (h : Ok a) : interval_Subset a Ent = some true := by
  have h1 := h.wlo
  have h2 := h.whi
  unfold Wid at h1 h2
  exact subset_of (by simp only [Ent]; omega)
theorem sub_nw {x y x' y' : Int} (h : x ≤ y) (h1 : x' ≤ x) (h2 : y ≤ y') : interval_Subset (nw x y) (nw x' y') = some true := by
  rcases nw_cases x' y' (by omega) with ⟨e, _⟩ | ⟨e, f⟩
  · rw [e]
    exact subset_ent (nw_ok h)
  · have f' : Fin ⟨x, y⟩ := by unfold Fin at *; simp only at *; omega
    rw [e, nw_fin f']
    exact subset_of (by simp only; omega)
theorem nw_self {a : TInterval} (h : Fin a) : nw a.Lo a.Hi = a := nw_fin h
theorem sub_nw_l {a : TInterval} (h : Fin a) {x' y' : Int} (h1 : x' ≤ a.Lo) (h2 : a.Hi ≤ y') : interval_Subset a (nw x' y') = some true := by
  have := sub_nw (x := a.Lo) (y := a.Hi) h.2.1 h1 h2
  rw [nw_self h] at this
  exact this
theorem fc {l h d : Int} (hd : 0 < d) (hl : l ≤ h) : l / d ≤ cdiv h d := by
  have h1 := (cdiv_le (a := h) (c := cdiv h d) hd).1 (Int.le_refl _)
  have h2 := (le_fdiv (a := l) (c := l / d) hd).1 (Int.le_refl _)
  rcases Int.lt_or_le (cdiv h d) (l / d) with h3 | h3
  · have : (cdiv h d + 1) * d ≤ l / d * d := mulR (by omega) (by omega)
    rw [Int.add_mul] at this
    omega
  · exact h3
theorem le_cdiv {a b c : Int} (hb : 0 < b) (h : c * b ≤ a) : c ≤ cdiv a b := by
  have h1 := (cdiv_le (a := a) (c := cdiv a b) hb).1 (Int.le_refl _)
  exact Int.le_of_mul_le_mul_right (Int.le_trans h h1) hb
theorem fdiv_le_of {a b c : Int} (hb : 0 < b) (h : a ≤ c * b) : a / b ≤ c := by
  have h1 := (le_fdiv (a := a) (c := a / b) hb).1 (Int.le_refl _)
  exact Int.le_of_mul_le_mul_right (Int.le_trans h1 h) hb
theorem cdiv_mono {a b d : Int} (hd : 0 < d) (h : a ≤ b) : cdiv a d ≤ cdiv b d :=
  (cdiv_le hd).2 (Int.le_trans h ((cdiv_le hd).1 (Int.le_refl _)))
theorem f_le (x : Int) : x / 65536 * 65536 ≤ x := (le_fdiv (by omega)).1 (Int.le_refl _)
theorem c_le (x : Int) : x ≤ cdiv x 65536 * 65536 := (cdiv_le (by omega)).1 (Int.le_refl _)

/-- A sum of two made intervals holds what lies within both. -/
theorem add_nw_sub {x y u v p q : Int} (h1 : x ≤ y) (h2 : u ≤ v) (h : p ≤ q) (hp : x + u ≤ p) (hq : q ≤ y + v) : ∃ r, interval_Add (nw x y) (nw u v) = some r ∧ interval_Subset (nw p q) r = some true := by
  rcases nw_cases x y h1 with ⟨e, _⟩ | ⟨e, f⟩
  · rw [e]
    exact ⟨Ent, add_entl _, subset_ent (nw_ok h)⟩
  · rcases nw_cases u v h2 with ⟨e', _⟩ | ⟨e', f'⟩
    · rw [e']
      exact ⟨Ent, add_entr _, subset_ent (nw_ok h)⟩
    · rw [e, e']
      exact ⟨_, add_fin f f', sub_nw h hp hq⟩

/-- A quotient of what holds the product holds the factor. -/
theorem quot_has {a m b : TInterval} {x y u v : Int} (H : DHull m b x y u v) (hb : 0 < b.Lo) (h1 : m.Lo * 65536 ≤ a.Lo * b.Lo) (h2 : a.Hi * b.Lo ≤ m.Hi * 65536) : x * 65536 / y ≤ a.Lo ∧ a.Hi ≤ cdiv (u * 65536) v := by
  have g1 := frac_mono H.ypos hb H.lo.1
  have g2 := cfrac_mono hb H.vpos H.hi.2.2.1
  have g3 : m.Lo * 65536 / b.Lo ≤ a.Lo := fdiv_le_of hb h1
  have g4 : a.Hi ≤ cdiv (m.Hi * 65536) b.Lo := le_cdiv hb h2
  omega
theorem back {a b : TInterval} (fa : Fin a) (fb : Fin b) {l h : Int} (H : Hull a b l h) : ∃ r, interval_Div (nw (l / 65536) (cdiv h 65536)) b = some r ∧ interval_Subset a r = some true := by
  have fb' := fb
  unfold Fin at fb'
  rcases nw_cases (l / 65536) (cdiv h 65536) (fc (by omega) H.le) with ⟨e, _⟩ | ⟨e, f⟩
  · rw [e]
    exact ⟨Ent, div_entl _, subset_ent (.inr fa)⟩
  · rw [e]
    have k1 := f_le l
    have k2 := c_le h
    have hl := H.lo
    have hh := H.hi
    rcases Int.lt_or_le 0 b.Lo with h0 | h0
    · obtain ⟨x, y, u, v, hd, D⟩ := div_above f fb h0
      obtain ⟨q1, q2⟩ := quot_has (a := a) D h0 (by simp only; omega) (by simp only; omega)
      exact ⟨_, hd, sub_nw_l fa q1 q2⟩
    · rcases Int.lt_or_le b.Hi 0 with h1 | h1
      · obtain ⟨x, y, u, v, hd, D⟩ := div_below f fb h1
        obtain ⟨q1, q2⟩ := quot_has (a := a) D (by simp only [ngv]; omega) (by simp only [ngv, Int.mul_neg, Int.neg_mul]; omega) (by simp only [ngv, Int.mul_neg, Int.neg_mul]; omega)
        exact ⟨_, hd, sub_nw_l fa q1 q2⟩
      · exact ⟨Ent, div_zero f fb ⟨h0, h1⟩, subset_ent (.inr fa)⟩
end Go.Proofs.YtmjnbhigomjjnaaDoor
