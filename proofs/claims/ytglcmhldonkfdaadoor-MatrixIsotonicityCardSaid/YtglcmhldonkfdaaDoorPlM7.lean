/- Inclusion. Own work. -/
import Derived.Test.YtglcmhldonkfdaaDoorPlM5
set_option maxRecDepth 10000
set_option linter.unusedVariables false
set_option linter.unusedSimpArgs false
namespace Go.Proofs.YtglcmhldonkfdaaDoor
open Go
theorem InS.ent (x : Int) : InS Ent x := .inl rfl
theorem made_ops {x : TOperands} {n : Nat} (h : armillaryref04_Dim x.N = some ((n + 1 : Nat) : Int)) (hn : n < 4) {k0 : Nat} (hk : 10 < k0) :
    armillarylaw04_made k0 x = some (mm (n + 1) (n + 1) (elt mdI x.A (n + 1)), mm (n + 1) (n + 1) (elt mdI x.B (n + 1)), mk (n + 1) (vec mdI x.X)) := by
  unfold armillarylaw04_made
  refine bT h (bT (made_mm (by omega) (by omega) _ (by omega)) (bT (made_mm (by omega) (by omega) _ (by omega)) (bT (madeBox_eq (by omega) _ (by omega)) rfl)))
theorem elt_ok (l : List TInterval) (n i j : Nat) : Ok (elt mdI l n i j) := elt_P mdI_ok (fun i j => (idn_sm i j).ok) l n i j
theorem vec_ok (l : List TInterval) (i : Nat) : Ok (vec mdI l i) := vec_P mdI_ok (Sm.ok (by unfold Sm; simp)) l i
end Go.Proofs.YtglcmhldonkfdaaDoor
