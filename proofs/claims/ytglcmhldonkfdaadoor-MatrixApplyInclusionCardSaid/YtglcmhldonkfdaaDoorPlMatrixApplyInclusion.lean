/- MatrixApplyInclusion: the plain law. Own work. -/
import Derived.Test.YtglcmhldonkfdaaDoorPlM6
import Derived.Test.YtglcmhldonkfdaaDoorPlM7
set_option maxRecDepth 10000
set_option linter.unusedVariables false
set_option linter.unusedSimpArgs false
namespace Go.Proofs.YtglcmhldonkfdaaDoor
open Go
theorem app_law (m : Nat) (x : TOperands) (t s : List Int) (hN : 0 ≤ x.N ∧ x.N ≤ 255) (ht : ∀ y ∈ t, 0 ≤ y ∧ y ≤ 65535) (hs : ∀ y ∈ s, 0 ≤ y ∧ y ≤ 65535) :
    armillarylaw04_MatrixApplyInclusion (m + 100) x t s = some true := by
  obtain ⟨n, hd, hn⟩ := dim_eq hN
  unfold armillarylaw04_MatrixApplyInclusion
  have eA : ∀ i j, Sm (elt smI x.A (n + 1) i j) := fun i j => elt_sm _ _ _ _
  have eX : ∀ i, Sm (vec smI x.X i) := fun i => vec_sm _ _
  refine bT (sane m) (bT (small_ops hd hn (by omega)) (bT (sample_mm (by omega) _ (fun i _ j _ => eA i j) t ht (by omega)) (bT (pointBox_eq (by omega) _ (fun i _ => eX i) s hs (by omega)) (bT (apply_eq (by omega) rfl _ _ (fun i _ j _ => (eA i j).ok) (fun i _ => (eX i).ok) (by omega)) ?_))))
  rw [mk_len, mm_len, if_neg (by simp)]
  refine bT (loop_ok (fun k y => armillarylaw04_MatrixApplyInclusion.l17 _ _ _ _ _ _ _ _ _ k y) (n + 1) (fun k i hi => ?_) (fun k => ?_) (show n + 1 < m + 100 by omega)) rfl
  · show armillarylaw04_MatrixApplyInclusion.l17 _ _ _ _ _ _ _ _ _ (k + 1) _ = _
    have hin := ins_dot (a := elt smI x.A (n + 1) i) (b := vec smI x.X) (p := fun j => ptI (elt smI x.A (n + 1) i j) (frac t (n + 1) i j)) (q := fun i => ptI (vec smI x.X i) (s.getD i 0)) (n := n) (fun j _ => (eA i j).fin) (fun j _ => (eX j).fin) (fun j _ => ptI_mem (eA i j) (frac_b ht _ _ _)) (fun j _ => ptI_mem (eX j) (getD_b hs _))
    have hok : Ok (dotI (elt smI x.A (n + 1) i) (vec smI x.X) n) := dotI_ok (fun j _ => (eA i j).ok) (fun j _ => (eX j).ok)
    rw [armillarylaw04_MatrixApplyInclusion.l17, mm_len, if_pos (dlt hi), mk_len, if_pos (rng hi), Int.toNat_natCast, mk_get _ hi, Option.bind_some, valid_eq, decide_eq_true hok, Option.bind_some, Option.bind_some, if_neg (by simp), if_pos (show (!true) = false from rfl), if_pos (rng hi), Option.bind_some, if_pos (rng hi), mm_get _ hi, Option.bind_some,
      dotN_eq (by omega) _ _ (fun j _ => (eA i j).pt (ptI_mem (eA i j) (frac_b ht _ _ _))) (fun j _ => (eX j).pt (ptI_mem (eX j) (getD_b hs _))) (by omega), Option.bind_some, scaled_eq hok hin, Option.bind_some, if_neg (by simp), wnext (by omega)]
  · show armillarylaw04_MatrixApplyInclusion.l17 _ _ _ _ _ _ _ _ _ (k + 1) _ = _
    rw [armillarylaw04_MatrixApplyInclusion.l17, mm_len, if_neg (by rw [dnl]; simp)]
theorem Pure_MatrixApplyInclusion : armillarylaw04_MatrixApplyInclusion.Pure :=
  fun _ _ _ _ _ _ _ _ _ h3 h4 h5 => ⟨1 + 100, app_law 1 _ _ _ h3 h4 h5⟩
end Go.Proofs.YtglcmhldonkfdaaDoor
