/- Algebra of intervals: lemmas of the claims of law02, laid over this seat. Own work. -/
import Derived.Test.YtglcmhldonkfdaaDoorPlM7
set_option maxRecDepth 10000
set_option linter.unusedVariables false
set_option linter.unusedSimpArgs false
namespace Go.Proofs.YtglcmhldonkfdaaDoor
open Go
theorem Hull.swap {a b : TInterval} {l h : Int} (H : Hull a b l h) : Hull b a l h := by
  have h1 := H.lo; have h2 := H.hi; have h3 := H.isl; have h4 := H.ish
  constructor <;> simp only [Int.mul_comm b.Lo, Int.mul_comm b.Hi] <;> omega
theorem Hull.uniq {a b : TInterval} {l h l' h' : Int} (H : Hull a b l h) (H' : Hull a b l' h') : l = l' ∧ h = h' := by
  have h1 := H.lo; have h2 := H.hi; have h3 := H.isl; have h4 := H.ish
  have g1 := H'.lo; have g2 := H'.hi; have g3 := H'.isl; have g4 := H'.ish
  omega
theorem ngv_nw (x y : Int) : ngv (nw x y) = nw (-y) (-x) := by
  unfold nw
  by_cases h : x ≤ -2147483648 ∨ y ≥ 2147483648 ∨ x ≥ 2147483648 ∨ y ≤ -2147483648
  · rw [if_pos h, if_pos (by omega)]; rfl
  · rw [if_neg h, if_neg (by omega)]; rfl
theorem neg_cdiv (x d : Int) : -(cdiv x d) = (-x) / d := by unfold cdiv; omega
theorem cdiv_neg (x d : Int) : cdiv (-x) d = -(x / d) := by unfold cdiv; rw [Int.neg_neg]
theorem Hull.neg {a b : TInterval} {l h : Int} (H : Hull a b l h) : Hull (ngv a) b (-h) (-l) := by
  have h1 := H.lo; have h2 := H.hi; have h3 := H.isl; have h4 := H.ish
  constructor <;> simp only [ngv, Int.neg_mul] <;> omega
theorem mul_neg {a b : TInterval} (ha : Ok a) (hb : Ok b) {r : TInterval} (hr : interval_Mul a b = some r) : interval_Mul (ngv a) b = some (ngv r) := by
  rcases ha with rfl | ha
  · rw [mul_entl] at hr
    obtain rfl := Option.some.inj hr
    exact mul_entl _
  · rcases hb with rfl | hb
    · rw [mul_entr] at hr
      obtain rfl := Option.some.inj hr
      exact mul_entr _
    · obtain ⟨l, h, hm, H⟩ := mul_fin ha hb
      obtain ⟨l', h', hm', H'⟩ := mul_fin (ngv_fin ha) hb
      obtain ⟨rfl, rfl⟩ := H'.uniq H.neg
      rw [hm] at hr
      obtain rfl := Option.some.inj hr
      rw [hm', ngv_nw, neg_cdiv, cdiv_neg]
end Go.Proofs.YtglcmhldonkfdaaDoor
