/- Algebra of intervals: lemmas of the claims of law02, laid over this seat. Own work. -/
import Derived.Test.YtglcmhldonkfdaaDoorPlM7
set_option maxRecDepth 10000
set_option linter.unusedVariables false
set_option linter.unusedSimpArgs false
namespace Go.Proofs.YtglcmhldonkfdaaDoor
open Go
theorem add_comm' {a b : TInterval} (ha : Ok a) (hb : Ok b) : interval_Add a b = interval_Add b a := by
  rcases ha with rfl | ha
  · rw [add_entl, add_entr]
  · rcases hb with rfl | hb
    · rw [add_entl, add_entr]
    · rw [add_fin ha hb, add_fin hb ha, Int.add_comm a.Lo, Int.add_comm a.Hi]
theorem Hull.swap {a b : TInterval} {l h : Int} (H : Hull a b l h) : Hull b a l h := by
  have h1 := H.lo; have h2 := H.hi; have h3 := H.isl; have h4 := H.ish
  constructor <;> simp only [Int.mul_comm b.Lo, Int.mul_comm b.Hi] <;> omega
theorem Hull.uniq {a b : TInterval} {l h l' h' : Int} (H : Hull a b l h) (H' : Hull a b l' h') : l = l' ∧ h = h' := by
  have h1 := H.lo; have h2 := H.hi; have h3 := H.isl; have h4 := H.ish
  have g1 := H'.lo; have g2 := H'.hi; have g3 := H'.isl; have g4 := H'.ish
  omega
theorem mul_comm' {a b : TInterval} (ha : Ok a) (hb : Ok b) : interval_Mul a b = interval_Mul b a := by
  rcases ha with rfl | ha
  · rw [mul_entl, mul_entr]
  · rcases hb with rfl | hb
    · rw [mul_entl, mul_entr]
    · obtain ⟨l, h, hm, H⟩ := mul_fin ha hb
      obtain ⟨l', h', hm', H'⟩ := mul_fin hb ha
      obtain ⟨rfl, rfl⟩ := H.uniq H'.swap
      rw [hm, hm']
theorem cdiv_mul (x d : Int) (hd : 0 < d) : cdiv (x * d) d = x := by
  unfold cdiv
  rw [← Int.neg_mul, Int.mul_ediv_cancel _ (by omega)]
  omega
theorem mul_one' {a : TInterval} (ha : Ok a) : interval_Mul a ⟨65536, 65536⟩ = some a := by
  rcases ha with rfl | ha
  · exact mul_entl _
  · obtain ⟨l, h, hm, H⟩ := mul_fin ha (b := ⟨65536, 65536⟩) (by unfold Fin; simp only; omega)
    have h1 := H.lo; have h2 := H.hi; have h3 := H.isl; have h4 := H.ish; have la := ha.le
    simp only at h1 h2 h3 h4
    have e1 : l = a.Lo * 65536 := by omega
    have e2 : h = a.Hi * 65536 := by omega
    subst e1 e2
    rw [hm, Int.mul_ediv_cancel _ (by omega), cdiv_mul _ _ (by omega), nw_self ha]
theorem add_zero' {a : TInterval} (ha : Ok a) : interval_Add a ⟨0, 0⟩ = some a := by
  rcases ha with rfl | ha
  · exact add_entl _
  · rw [add_fin ha (by unfold Fin; simp only; omega)]
    simp only [Int.add_zero]
    rw [nw_self ha]
end Go.Proofs.YtglcmhldonkfdaaDoor
