/- The law MatrixOrthogonality. Own work. -/
import Derived.Test.YtglcmhldonkfdaaDoorPlAll2
set_option maxRecDepth 10000
set_option linter.unusedVariables false
set_option linter.unusedSimpArgs false
namespace Go.Proofs.YtglcmhldonkfdaaDoor
open Go
theorem orl_law (m : Nat) (l : List Int) {x : Int} (hx : 0 ≤ x ∧ x ≤ 255) : armillarylaw04_MatrixOrthogonality (m + 100) l x = some true := by
  obtain ⟨n, hd, hn⟩ := dim_eq hx
  obtain ⟨u, O, ho⟩ := orth_eq (N := n + 1) (K := m + 100) (by omega) (by omega) (m := elN l (n + 1)) (fun i _ k _ => by have := elN_b l (n + 1) i k; omega)
  have C := O.cols
  have hb : bOf (n + 1) ≤ 172 := by
    rcases (show n = 0 ∨ n = 1 ∨ n = 2 ∨ n = 3 by omega) with rfl | rfl | rfl | rfl <;> decide
  have cp := fun t ht k hk => C.comp (t := t) ht (k := k) hk
  have hk : n + 1 < m + 100 := by omega
  unfold armillarylaw04_MatrixOrthogonality
  refine bT (sane m) (bT hd (bT (numbers_eq (by omega) l hk) (bT ho (bT (bounded_eq (by omega) (fun i hi j hj => by have := cp j hj i hi; show -1048576 ≤ u j i ∧ u j i ≤ 1048576; omega) hk) ?_))))
  rw [if_neg (by decide)]
  refine bT (loop_ok (fun k x' => armillarylaw04_MatrixOrthogonality.l16 (m + 100) l x true ((n + 1 : Nat) : Int) _ (mm (n + 1) (n + 1) fun i k => u k i) true k x') (n + 1) (fun k i hi => ?_) (fun k => ?_) hk) rfl
  · show armillarylaw04_MatrixOrthogonality.l16 _ _ _ _ _ _ _ _ (k + 1) _ = _
    rw [armillarylaw04_MatrixOrthogonality.l16, if_pos (dlt hi)]
    refine bT (v := .inr ()) ?_ (by show armillarylaw04_MatrixOrthogonality.l16 _ _ _ _ _ _ _ _ _ _ = _; rw [wnext (by omega)])
    have b := fun t ht => fun k (hk : k < n + 1) => (show -536870912 ≤ u t k ∧ u t k ≤ 536870912 by have := cp t ht k hk; omega)
    have h1 := C.up i hi
    have h2 := C.low i hi
    refine bT (col_eq (by omega) hi _ hk) (bT (dotN_eq (by omega) _ _ (b i hi) (b i hi) hk) ?_)
    rw [if_neg (by
      show ¬ (decide (dotN (u i) (u i) (n + 1) < 4290774016) || decide (dotN (u i) (u i) (n + 1) > 4299162624)) = true
      simp; omega)]
    refine loop_ok (γ := Bool ⊕ Unit) (fun k x' => armillarylaw04_MatrixOrthogonality.l28 (m + 100) l x true ((n + 1 : Nat) : Int) _ (mm (n + 1) (n + 1) fun i k => u k i) true (i : Int) _ _ k x') i (fun k j hj => ?_) (fun k => ?_) (by omega)
    · show armillarylaw04_MatrixOrthogonality.l28 _ _ _ _ _ _ _ _ _ _ _ (k + 1) _ = _
      have hj' : j < n + 1 := by omega
      obtain ⟨y, h3, h4⟩ := abs_eq (x := dotN (u i) (u j) (n + 1)) (B := 67108864) (by have := C.pair i hi j hj' (by omega); omega) (by omega)
      rw [armillarylaw04_MatrixOrthogonality.l28, if_pos (dlt hj)]
      refine bT (col_eq (by omega) hj' _ hk) (bT (dotN_eq (by omega) _ _ (b i hi) (b j hj') hk) (bT h3 ?_))
      rw [if_neg (by simpa using h4), wnext (by omega)]
    · show armillarylaw04_MatrixOrthogonality.l28 _ _ _ _ _ _ _ _ _ _ _ (k + 1) _ = _
      rw [armillarylaw04_MatrixOrthogonality.l28, if_neg (by rw [dnl]; simp)]
  · show armillarylaw04_MatrixOrthogonality.l16 _ _ _ _ _ _ _ _ (k + 1) _ = _
    rw [armillarylaw04_MatrixOrthogonality.l16, if_neg (by rw [dnl]; simp)]
theorem Pure_MatrixOrthogonality : armillarylaw04_MatrixOrthogonality.Pure :=
  fun l x _ hx => ⟨1 + 100, orl_law 1 l hx⟩
end Go.Proofs.YtglcmhldonkfdaaDoor
