/- MatrixMulInclusion: the plain law. Own work. -/
import Derived.Test.YtglcmhldonkfdaaDoorPlM6
import Derived.Test.YtglcmhldonkfdaaDoorPlM7
set_option maxRecDepth 10000
set_option linter.unusedVariables false
set_option linter.unusedSimpArgs false
namespace Go.Proofs.YtglcmhldonkfdaaDoor
open Go
theorem mul_law (m : Nat) (x : TOperands) (t : List Int) (hN : 0 ≤ x.N ∧ x.N ≤ 255) (ht : ∀ y ∈ t, 0 ≤ y ∧ y ≤ 65535) :
    armillarylaw04_MatrixMulInclusion (m + 100) x t = some true := by
  obtain ⟨n, hd, hn⟩ := dim_eq hN
  unfold armillarylaw04_MatrixMulInclusion
  have eA : ∀ i j, Sm (elt smI x.A (n + 1) i j) := fun i j => elt_sm _ _ _ _
  have eB : ∀ i j, Sm (elt smI x.B (n + 1) i j) := fun i j => elt_sm _ _ _ _
  have hok : ∀ i j, Ok (dotI (elt smI x.A (n + 1) i) (fun k => elt smI x.B (n + 1) k j) n) := fun i j => dotI_ok (fun k _ => (eA i k).ok) (fun k _ => (eB k j).ok)
  refine bT (sane m) (bT (small_ops hd hn (by omega)) (bT (sample_mm (by omega) _ (fun i _ j _ => eA i j) t ht (by omega)) (bT (sample_mm (by omega) _ (fun i _ j _ => eB i j) t ht (by omega)) (bT (mul_mm (by omega) rfl _ _ (fun i _ j _ => (eA i j).ok) (fun i _ j _ => (eB i j).ok) (by omega)) ?_))))
  have hv := r4valid (N := n + 1) (k0 := m + 100) (by omega) (by omega) (fun i j => dotI (elt smI x.A (n + 1) i) (fun k => elt smI x.B (n + 1) k j) n) (fun i _ j _ => hok i j) (by omega)
  rw [mm_len, mm_len]
  refine gT (by simp) hv ?_
  rw [if_neg (by simp)]
  refine bT (loop_ok (fun k y => armillarylaw04_MatrixMulInclusion.l18 _ _ _ _ _ _ _ _ _ k y) (n + 1) (fun k i hi => ?_) (fun k => ?_) (show n + 1 < m + 100 by omega)) rfl
  · show armillarylaw04_MatrixMulInclusion.l18 _ _ _ _ _ _ _ _ _ (k + 1) _ = _
    rw [armillarylaw04_MatrixMulInclusion.l18, mm_len, if_pos (dlt hi)]
    refine bT (loop_ok (fun k y => armillarylaw04_MatrixMulInclusion.l24 _ _ _ _ _ _ _ _ _ _ k y) (n + 1) (fun k j hj => ?_) (fun k => ?_) (show n + 1 < m + 100 by omega)) (by show armillarylaw04_MatrixMulInclusion.l18 _ _ _ _ _ _ _ _ _ _ _ = _; rw [wnext (by omega)])
    · show armillarylaw04_MatrixMulInclusion.l24 _ _ _ _ _ _ _ _ _ _ (k + 1) _ = _
      have hin := ins_dot (a := elt smI x.A (n + 1) i) (b := fun k => elt smI x.B (n + 1) k j) (p := fun k => ptI (elt smI x.A (n + 1) i k) (frac t (n + 1) i k)) (q := fun k => ptI (elt smI x.B (n + 1) k j) (frac t (n + 1) k j)) (n := n) (fun k _ => (eA i k).fin) (fun k _ => (eB k j).fin) (fun k _ => ptI_mem (eA i k) (frac_b ht _ _ _)) (fun k _ => ptI_mem (eB k j) (frac_b ht _ _ _))
      rw [armillarylaw04_MatrixMulInclusion.l24, mm_len, if_pos (dlt hj), mm_len, if_pos (rng hi), Int.toNat_natCast, mm_get _ hi, Option.bind_some, mk_len, if_pos (rng hj), Int.toNat_natCast, mk_get _ hj, Option.bind_some, if_pos (rng hi), mm_get _ hi, Option.bind_some, col_eq (by omega) hj _ (by omega), Option.bind_some,
        dotN_eq (by omega) _ _ (fun k _ => (eA i k).pt (ptI_mem (eA i k) (frac_b ht _ _ _))) (fun k _ => (eB k j).pt (ptI_mem (eB k j) (frac_b ht _ _ _))) (by omega), Option.bind_some, scaled_eq (hok i j) hin, Option.bind_some, if_neg (by simp), wnext (by omega)]
    · show armillarylaw04_MatrixMulInclusion.l24 _ _ _ _ _ _ _ _ _ _ (k + 1) _ = _
      rw [armillarylaw04_MatrixMulInclusion.l24, mm_len, if_neg (by rw [dnl]; simp)]
  · show armillarylaw04_MatrixMulInclusion.l18 _ _ _ _ _ _ _ _ _ (k + 1) _ = _
    rw [armillarylaw04_MatrixMulInclusion.l18, mm_len, if_neg (by rw [dnl]; simp)]
theorem Pure_MatrixMulInclusion : armillarylaw04_MatrixMulInclusion.Pure :=
  fun _ _ _ _ _ _ _ _ h3 h4 => ⟨1 + 100, mul_law 1 _ _ h3 h4⟩
end Go.Proofs.YtglcmhldonkfdaaDoor
