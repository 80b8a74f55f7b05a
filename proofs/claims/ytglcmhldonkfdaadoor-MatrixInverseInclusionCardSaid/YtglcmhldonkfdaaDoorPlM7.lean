/- Inclusion. Own work. -/
import Derived.Test.YtglcmhldonkfdaaDoorPlM5
set_option maxRecDepth 10000
set_option linter.unusedVariables false
set_option linter.unusedSimpArgs false
namespace Go.Proofs.YtglcmhldonkfdaaDoor
open Go
theorem InS.ent (x : Int) : InS Ent x := .inl rfl
theorem iadd_entl (b : TInterval) : iadd Ent b = Ent := by rw [iadd, add_entl]; rfl
theorem iadd_entr (a : TInterval) : iadd a Ent = Ent := by rw [iadd, add_entr]; rfl
theorem imul_entl (b : TInterval) : imul Ent b = Ent := by rw [imul, mul_entl]; rfl
theorem imul_entr (a : TInterval) : imul a Ent = Ent := by rw [imul, mul_entr]; rfl
theorem iadd_fin {a b : TInterval} (fa : Fin a) (fb : Fin b) : iadd a b = nw (a.Lo + b.Lo) (a.Hi + b.Hi) := by rw [iadd, add_fin fa fb]; rfl
theorem Fin.not {a : TInterval} (h : Fin a) : a ≠ Ent := by have := h.ne; simpa using this
theorem small_ops {x : TOperands} {n : Nat} (h : armillaryref04_Dim x.N = some ((n + 1 : Nat) : Int)) (hn : n < 4) {k0 : Nat} (hk : 10 < k0) :
    armillarylaw04_small k0 x = some (mm (n + 1) (n + 1) (elt smI x.A (n + 1)), mm (n + 1) (n + 1) (elt smI x.B (n + 1)), mk (n + 1) (vec smI x.X)) := by
  unfold armillarylaw04_small
  refine bT h (bT (small_mm (by omega) (by omega) _ (by omega)) (bT (small_mm (by omega) (by omega) _ (by omega)) (bT (smallBox_eq (by omega) _ (by omega)) rfl)))
theorem elt_sm (l : List TInterval) (n i j : Nat) : Sm (elt smI l n i j) := elt_P smI_sm idn_sm l n i j
theorem vec_sm (l : List TInterval) (i : Nat) : Sm (vec smI l i) := vec_P smI_sm (by unfold Sm; simp) l i
theorem getD_b {ts : List Int} (h : ∀ y ∈ ts, 0 ≤ y ∧ y ≤ 65535) (i : Nat) : 0 ≤ ts.getD i 0 ∧ ts.getD i 0 ≤ 65535 := by
  by_cases hi : i < ts.length
  · have e : ts.getD i 0 = ts[i] := by simp [List.getD, hi]
    rw [e]; exact h _ (List.getElem_mem _)
  · have e : ts.getD i 0 = 0 := by simp [List.getD, List.getElem?_eq_none (Nat.le_of_not_lt hi)]
    rw [e]; omega
end Go.Proofs.YtglcmhldonkfdaaDoor
