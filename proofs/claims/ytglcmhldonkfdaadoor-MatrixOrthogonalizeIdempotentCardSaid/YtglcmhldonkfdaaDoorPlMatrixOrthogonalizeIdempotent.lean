/- The law MatrixOrthogonalizeIdempotent. Own work. -/
import Derived.Test.YtglcmhldonkfdaaDoorPlAll2
set_option maxRecDepth 10000
set_option linter.unusedVariables false
set_option linter.unusedSimpArgs false
namespace Go.Proofs.YtglcmhldonkfdaaDoor
open Go
theorem ide_law (m : Nat) (l : List Int) {x : Int} (hx : 0 ≤ x ∧ x ≤ 255) : armillarylaw04_MatrixOrthogonalizeIdempotent (m + 100) l x = some true := by
  obtain ⟨n, hd, hn⟩ := dim_eq hx
  have hm : ∀ i, i < n + 1 → ∀ k, k < n + 1 → -16777216 ≤ elN l (n + 1) i k ∧ elN l (n + 1) i k ≤ 16777216 := fun i _ k _ => by have := elN_b l (n + 1) i k; omega
  obtain ⟨o, O, ho⟩ := orth_eq (N := n + 1) (K := m + 100) (by omega) (by omega) (m := elN l (n + 1)) hm
  have cp := fun t ht k hk => O.cols.comp (t := t) ht (k := k) hk
  obtain ⟨p, P, hp⟩ := orth_eq (N := n + 1) (K := m + 100) (by omega) (by omega) (m := fun i k => o k i) (fun i hi k hk => by have := cp k hk i hi; show -16777216 ≤ o k i ∧ o k i ≤ 16777216; omega)
  have cq := fun t ht k hk => P.cols.comp (t := t) ht (k := k) hk
  have hk : n + 1 < m + 100 := by omega
  have tw := twice O P
  have h00 : 0 < n + 1 := by omega
  obtain ⟨L, hL, hL0, hL1, hL2⟩ := length_eq (N := n + 1) (by omega) (w := fun i => elN l (n + 1) i 0) (fun k hk' => by have := hm k hk' 0 h00; show -536870912 ≤ elN l (n + 1) k 0 ∧ elN l (n + 1) k 0 ≤ 536870912; omega) (K := m + 100) (by omega)
  unfold armillarylaw04_MatrixOrthogonalizeIdempotent
  refine bT (sane m) (bT hd (bT (numbers_eq (by omega) l hk) (bT ho (bT (bounded_eq (by omega) (fun i hi j hj => by have := cp j hj i hi; show -1048576 ≤ o j i ∧ o j i ≤ 1048576; omega) hk) ?_))))
  rw [if_neg (by decide)]
  refine bT hp (bT (bounded_eq (by omega) (fun i hi j hj => by have := cq j hj i hi; show -1048576 ≤ p j i ∧ p j i ≤ 1048576; omega) hk) ?_)
  rw [if_neg (by decide)]
  refine bT (loop_ok (fun k x' => armillarylaw04_MatrixOrthogonalizeIdempotent.l46 (m + 100) l x true ((n + 1 : Nat) : Int) _ (mm (n + 1) (n + 1) fun i k => o k i) true (mm (n + 1) (n + 1) fun i k => p k i) true k x') (n + 1) (fun k i hi => ?_) (fun k => ?_) hk) ?_
  · show armillarylaw04_MatrixOrthogonalizeIdempotent.l46 _ _ _ _ _ _ _ _ _ _ (k + 1) _ = _
    rw [armillarylaw04_MatrixOrthogonalizeIdempotent.l46, if_pos (dlt hi)]
    refine bT (v := .inr ()) ?_ (by show armillarylaw04_MatrixOrthogonalizeIdempotent.l46 _ _ _ _ _ _ _ _ _ _ _ _ = _; rw [wnext (by omega)])
    refine loop_ok (γ := Bool ⊕ Unit) (fun k x' => armillarylaw04_MatrixOrthogonalizeIdempotent.l52 (m + 100) l x true ((n + 1 : Nat) : Int) _ (mm (n + 1) (n + 1) fun i k => o k i) true (mm (n + 1) (n + 1) fun i k => p k i) true (i : Int) k x') (n + 1) (fun k j hj => ?_) (fun k => ?_) hk
    · show armillarylaw04_MatrixOrthogonalizeIdempotent.l52 _ _ _ _ _ _ _ _ _ _ _ (k + 1) _ = _
      have b1 := cp j hj i hi
      have b2 := cq j hj i hi
      obtain ⟨y, h3, h4⟩ := abs_eq (x := o j i - p j i) (B := 1024) (tw j hj i hi) (by omega)
      rw [armillarylaw04_MatrixOrthogonalizeIdempotent.l52, if_pos (dlt hj), mm_len, mm_len, if_pos (rng hi), Int.toNat_natCast, mm_get _ hi, Option.bind_some, mk_len, if_pos (rng hj), Int.toNat_natCast, mk_get _ hj, Option.bind_some, if_pos (rng hi), mm_get _ hi, Option.bind_some, mk_len, if_pos (rng hj), mk_get _ hj, Option.bind_some, w64 (x := o j i - p j i) (by omega) (by omega), h3, Option.bind_some, if_neg (by simpa using h4), wnext (by omega)]
    · show armillarylaw04_MatrixOrthogonalizeIdempotent.l52 _ _ _ _ _ _ _ _ _ _ _ (k + 1) _ = _
      rw [armillarylaw04_MatrixOrthogonalizeIdempotent.l52, if_neg (by rw [dnl]; simp)]
  · show armillarylaw04_MatrixOrthogonalizeIdempotent.l46 _ _ _ _ _ _ _ _ _ _ (k + 1) _ = _
    rw [armillarylaw04_MatrixOrthogonalizeIdempotent.l46, if_neg (by rw [dnl]; simp)]
  refine bT (col_eq (c := 0) (by omega) h00 _ hk) (bT hL ?_)
  refine bT (v := .inr ()) ?_ rfl
  by_cases hl : 4096 ≤ L
  · -- the first column
    obtain ⟨c, M, H⟩ := O.each 0 h00
    have e0 : ∀ w, red (n + 1) 0 o w = w := fun w => rfl
    have hh := sq_le (show (0 : Int) ≤ 4096 by omega) hl
    have hc := H.first (by rw [e0]; omega)
    have lo := H.lo
    have hi' := H.hi
    have v := H.v_eq
    have m1 := H.L1
    have m2 := H.L2
    rw [e0, hc] at lo hi' v
    obtain rfl : L = M := root_one hL0 (by omega) hL1 hL2 lo hi'
    refine loop_ok (γ := Bool) (fun k x' => armillarylaw04_MatrixOrthogonalizeIdempotent.l27 (m + 100) l x true ((n + 1 : Nat) : Int) _ (mm (n + 1) (n + 1) fun i k => o k i) true (mm (n + 1) (n + 1) fun i k => p k i) true () (mk (n + 1) fun i => elN l (n + 1) i 0) L k x') (n + 1) (fun k i hi => ?_) (fun k => ?_) hk
    · show armillarylaw04_MatrixOrthogonalizeIdempotent.l27 _ _ _ _ _ _ _ _ _ _ _ _ _ (k + 1) _ = _
      have b1 := cp 0 h00 i hi
      have b3 := hm i hi 0 h00
      obtain ⟨r, r1, r2, r3⟩ := nrv_r (fun i => elN l (n + 1) i 0) (show 0 < L by omega) i
      rw [← v, Int.mul_comm] at r1
      have b2 : -((65554 : Int) * 1073741824) ≤ o 0 i * L ∧ o 0 i * L ≤ 65554 * 1073741824 := prod_bound b1 (by omega)
      obtain ⟨y, h3, h4⟩ := abs_eq (x := o 0 i * L - elN l (n + 1) i 0 * 65536) (B := 2 * L) (by omega) (by omega)
      have g0 : ∀ f : Nat → Int, (mk (n + 1) f)[(0 : Int).toNat]? = some (f 0) := fun f => mk_get (i := 0) _ h00
      rw [armillarylaw04_MatrixOrthogonalizeIdempotent.l27, if_pos (by rw [dlt hi, decide_eq_true (show L ≥ 4096 from hl)]; rfl), mm_len, if_pos (rng hi), Int.toNat_natCast, mm_get _ hi, Option.bind_some, mk_len, if_pos ⟨by omega, by omega⟩, g0, Option.bind_some, mk_len, if_pos (rng hi), mk_get _ hi, Option.bind_some, w64 (x := o 0 i * L) (by omega) (by omega), w64 (x := elN l (n + 1) i 0 * 65536) (by omega) (by omega), w64 (x := o 0 i * L - elN l (n + 1) i 0 * 65536) (by omega) (by omega), h3, Option.bind_some, w64 (x := 2 * L) (by omega) (by omega), if_neg (by simpa using h4), wnext (by omega)]
    · show armillarylaw04_MatrixOrthogonalizeIdempotent.l27 _ _ _ _ _ _ _ _ _ _ _ _ _ (k + 1) _ = _
      rw [armillarylaw04_MatrixOrthogonalizeIdempotent.l27, if_neg (by rw [dnl]; simp)]
  · rw [armillarylaw04_MatrixOrthogonalizeIdempotent.l27, if_neg (by simp; omega)]
theorem Pure_MatrixOrthogonalizeIdempotent : armillarylaw04_MatrixOrthogonalizeIdempotent.Pure :=
  fun l x _ hx => ⟨1 + 100, ide_law 1 l hx⟩
end Go.Proofs.YtglcmhldonkfdaaDoor
