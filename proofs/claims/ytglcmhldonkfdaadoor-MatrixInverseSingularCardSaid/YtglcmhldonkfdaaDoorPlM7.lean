/- Inclusion. Own work. -/
import Derived.Test.YtglcmhldonkfdaaDoorPlM5
set_option maxRecDepth 10000
set_option linter.unusedVariables false
set_option linter.unusedSimpArgs false
namespace Go.Proofs.YtglcmhldonkfdaaDoor
open Go
theorem InS.ent (x : Int) : InS Ent x := .inl rfl
theorem imul_entl (b : TInterval) : imul Ent b = Ent := by rw [imul, mul_entl]; rfl
theorem imul_entr (a : TInterval) : imul a Ent = Ent := by rw [imul, mul_entr]; rfl
theorem Fin.not {a : TInterval} (h : Fin a) : a ≠ Ent := by have := h.ne; simpa using this
theorem small_ops {x : TOperands} {n : Nat} (h : armillaryref04_Dim x.N = some ((n + 1 : Nat) : Int)) (hn : n < 4) {k0 : Nat} (hk : 10 < k0) :
    armillarylaw04_small k0 x = some (mm (n + 1) (n + 1) (elt smI x.A (n + 1)), mm (n + 1) (n + 1) (elt smI x.B (n + 1)), mk (n + 1) (vec smI x.X)) := by
  unfold armillarylaw04_small
  refine bT h (bT (small_mm (by omega) (by omega) _ (by omega)) (bT (small_mm (by omega) (by omega) _ (by omega)) (bT (smallBox_eq (by omega) _ (by omega)) rfl)))
theorem elt_sm (l : List TInterval) (n i j : Nat) : Sm (elt smI l n i j) := elt_P smI_sm idn_sm l n i j
end Go.Proofs.YtglcmhldonkfdaaDoor
