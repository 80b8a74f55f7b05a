/- Inclusion. Own work. -/
import Derived.Test.YtglcmhldonkfdaaDoorPlM5
set_option maxRecDepth 10000
set_option linter.unusedVariables false
set_option linter.unusedSimpArgs false
namespace Go.Proofs.YtglcmhldonkfdaaDoor
open Go
theorem InS.ent (x : Int) : InS Ent x := .inl rfl
theorem ins_nw {l h x : Int} (hl : l * 65536 ≤ x) (hh : x ≤ h * 65536) : InS (nw l h) x := by
  unfold nw
  split
  · exact .inl rfl
  · exact .inr ⟨hl, hh⟩
theorem ins_mul {a b : TInterval} (fa : Fin a) (fb : Fin b) {p q : Int} (hp : a.Lo ≤ p ∧ p ≤ a.Hi) (hq : b.Lo ≤ q ∧ q ≤ b.Hi) : InS (imul a b) (p * q) := by
  obtain ⟨l, h, e, H⟩ := mul_fin fa fb
  have hm := H.mem hp hq
  have e' : imul a b = nw (l / 65536) (cdiv h 65536) := by rw [imul, e]; rfl
  rw [e']
  exact ins_nw (Int.le_trans (f_le l) hm.1) (Int.le_trans hm.2 (c_le h))
theorem iadd_entl (b : TInterval) : iadd Ent b = Ent := by rw [iadd, add_entl]; rfl
theorem iadd_entr (a : TInterval) : iadd a Ent = Ent := by rw [iadd, add_entr]; rfl
theorem iadd_fin {a b : TInterval} (fa : Fin a) (fb : Fin b) : iadd a b = nw (a.Lo + b.Lo) (a.Hi + b.Hi) := by rw [iadd, add_fin fa fb]; rfl
theorem Fin.not {a : TInterval} (h : Fin a) : a ≠ Ent := by have := h.ne; simpa using this
theorem ins_add {a b : TInterval} (ha : Ok a) (hb : Ok b) {p q : Int} (hp : InS a p) (hq : InS b q) : InS (iadd a b) (p + q) := by
  rcases ha with rfl | fa
  · rw [iadd_entl]; exact .inl rfl
  rcases hb with rfl | fb
  · rw [iadd_entr]; exact .inl rfl
  rw [iadd_fin fa fb]
  rcases hp with h | hp
  · exact absurd h fa.not
  rcases hq with h | hq
  · exact absurd h fb.not
  exact ins_nw (by omega) (by omega)
theorem ins_dot {a b : Nat → TInterval} {p q : Nat → Int} : ∀ {n : Nat}, (∀ i, i ≤ n → Fin (a i)) → (∀ i, i ≤ n → Fin (b i)) → (∀ i, i ≤ n → (a i).Lo ≤ p i ∧ p i ≤ (a i).Hi) → (∀ i, i ≤ n → (b i).Lo ≤ q i ∧ q i ≤ (b i).Hi) → InS (dotI a b n) (dotN p q (n + 1))
  | 0, fa, fb, hp, hq => by
    have e : dotN p q (0 + 1) = p 0 * q 0 := by simp [dotN]
    rw [e]
    exact ins_mul (fa 0 (Nat.le_refl _)) (fb 0 (Nat.le_refl _)) (hp 0 (Nat.le_refl _)) (hq 0 (Nat.le_refl _))
  | n + 1, fa, fb, hp, hq => by
    rw [dotN]
    exact ins_add (dotI_ok (fun i h => .inr (fa i (by omega))) (fun i h => .inr (fb i (by omega)))) (imul_ok (.inr (fa _ (Nat.le_refl _))) (.inr (fb _ (Nat.le_refl _))))
      (ins_dot (fun i h => fa i (by omega)) (fun i h => fb i (by omega)) (fun i h => hp i (by omega)) (fun i h => hq i (by omega)))
      (ins_mul (fa _ (Nat.le_refl _)) (fb _ (Nat.le_refl _)) (hp _ (Nat.le_refl _)) (hq _ (Nat.le_refl _)))
theorem small_ops {x : TOperands} {n : Nat} (h : armillaryref04_Dim x.N = some ((n + 1 : Nat) : Int)) (hn : n < 4) {k0 : Nat} (hk : 10 < k0) :
    armillarylaw04_small k0 x = some (mm (n + 1) (n + 1) (elt smI x.A (n + 1)), mm (n + 1) (n + 1) (elt smI x.B (n + 1)), mk (n + 1) (vec smI x.X)) := by
  unfold armillarylaw04_small
  refine bT h (bT (small_mm (by omega) (by omega) _ (by omega)) (bT (small_mm (by omega) (by omega) _ (by omega)) (bT (smallBox_eq (by omega) _ (by omega)) rfl)))
theorem elt_sm (l : List TInterval) (n i j : Nat) : Sm (elt smI l n i j) := elt_P smI_sm idn_sm l n i j
theorem Sm.pt {a : TInterval} (h : Sm a) {p : Int} (hp : a.Lo ≤ p ∧ p ≤ a.Hi) : -536870912 ≤ p ∧ p ≤ 536870912 := by unfold Sm at h; omega
end Go.Proofs.YtglcmhldonkfdaaDoor
