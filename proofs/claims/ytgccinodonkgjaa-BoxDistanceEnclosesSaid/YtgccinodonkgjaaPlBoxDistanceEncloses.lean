/- BoxDistanceEncloses: the plain law. Own work. -/
import Derived.Test.YtgccinodonkgjaaPlC4
set_option maxRecDepth 10000
set_option linter.unusedVariables false
set_option linter.unusedSimpArgs false
namespace Go.Proofs.Ytgccinodonkgjaa
open Go
theorem distLoop (x : TInput) (t3 : Bool) (t5 : List TInterval × List TInterval) (t11 t13 : TInterval) (t14 t17 : Bool) {n : Nat} (hn : n < 1000000) {p q : Nat → Int} {U : Int} (hU : U < 2147483648)
    (hpq : ∀ i, i < n → -2147483648 < p i - q i ∧ p i - q i < 2147483648 ∧ 0 ≤ (p i - q i) * (p i - q i) / 65536 ∧ (p i - q i) * (p i - q i) / 65536 ≤ cdiv ((p i - q i) * (p i - q i)) 65536)
    (hb : sumN (fun i => cdiv ((p i - q i) * (p i - q i)) 65536) n ≤ U) {k : Nat} (hk : n < k) :
    armillarylaw03_BoxDistanceEncloses.l30 k x t3 t5 (mk n p) (mk n q) t11 t13 t14 t17 k 0 0 0 = some (sumN (fun i => (p i - q i) * (p i - q i) / 65536) n, sumN (fun i => cdiv ((p i - q i) * (p i - q i)) 65536) n) := by
  have hc0 : ∀ i, i < n → 0 ≤ cdiv ((p i - q i) * (p i - q i)) 65536 := fun i hi => by have := hpq i hi; omega
  have key : ∀ (r i k' : Nat), i + r = n → r < k' → armillarylaw03_BoxDistanceEncloses.l30 k x t3 t5 (mk n p) (mk n q) t11 t13 t14 t17 k' (sumN (fun i => (p i - q i) * (p i - q i) / 65536) i) (sumN (fun i => cdiv ((p i - q i) * (p i - q i)) 65536) i) (i : Int) =
      some (sumN (fun i => (p i - q i) * (p i - q i) / 65536) n, sumN (fun i => cdiv ((p i - q i) * (p i - q i)) 65536) n) := by
    intro r
    induction r with
    | zero =>
      intro i k' hi hk'
      obtain ⟨k', rfl⟩ : ∃ m, k' = m + 1 := ⟨k' - 1, by omega⟩
      obtain rfl : i = n := by omega
      rw [armillarylaw03_BoxDistanceEncloses.l30]
      simp only [mk_len, dnl, Bool.false_eq_true, if_false]
    | succ r ih =>
      intro i k' hi hk'
      obtain ⟨k', rfl⟩ : ∃ m, k' = m + 1 := ⟨k' - 1, by omega⟩
      have hi' : i < n := by omega
      obtain ⟨g1, g2, g3, g4⟩ := hpq i hi'
      have hw : w_i64 (p i - q i) = p i - q i := w64 (by omega) (by omega)
      have hp := prod_bound (x := p i - q i) (y := p i - q i) (A := 2147483648) (B := 2147483648) ⟨by omega, by omega⟩ ⟨by omega, by omega⟩
      have hm : armillaryref01_Mul (p i - q i) (p i - q i) = some ((p i - q i) * (p i - q i) / 65536, cdiv ((p i - q i) * (p i - q i)) 65536) := rmul (by omega) (by omega)
      have s1 : sumN (fun i => cdiv ((p i - q i) * (p i - q i)) 65536) (i + 1) ≤ U := Int.le_trans (sumN_mono hc0 (by omega)) hb
      have s2 : sumN (fun i => (p i - q i) * (p i - q i) / 65536) (i + 1) ≤ sumN (fun i => cdiv ((p i - q i) * (p i - q i)) 65536) (i + 1) := sumN_le fun j hj => (hpq j (by omega)).2.2.2
      have s3 : 0 ≤ sumN (fun i => (p i - q i) * (p i - q i) / 65536) i := sumN_nn fun j hj => (hpq j (by omega)).2.2.1
      have s4 : 0 ≤ sumN (fun i => cdiv ((p i - q i) * (p i - q i)) 65536) i := sumN_nn fun j hj => hc0 j (by omega)
      have e1 : sumN (fun i => (p i - q i) * (p i - q i) / 65536) (i + 1) = sumN (fun i => (p i - q i) * (p i - q i) / 65536) i + (p i - q i) * (p i - q i) / 65536 := rfl
      have e2 : sumN (fun i => cdiv ((p i - q i) * (p i - q i)) 65536) (i + 1) = sumN (fun i => cdiv ((p i - q i) * (p i - q i)) 65536) i + cdiv ((p i - q i) * (p i - q i)) 65536 := rfl
      rw [armillarylaw03_BoxDistanceEncloses.l30]
      simp only [mk_len, dlt hi', decide_true, if_true, rng hi', and_self, Int.toNat_natCast, mk_get _ hi', Option.bind_some, wnext (Nat.lt_trans hi' hn), hw, hm]
      rw [w64 (x := sumN (fun i => (p i - q i) * (p i - q i) / 65536) i + (p i - q i) * (p i - q i) / 65536) (by omega) (by omega), w64 (x := sumN (fun i => cdiv ((p i - q i) * (p i - q i)) 65536) i + cdiv ((p i - q i) * (p i - q i)) 65536) (by omega) (by omega), ← e1, ← e2]
      exact ih (i + 1) k' (by omega) (by omega)
  exact key n 0 k (by omega) hk
theorem distance (x : TInput) (hN : 0 ≤ x.N ∧ x.N ≤ 255) (hP : ∀ y ∈ x.P.e0, 0 ≤ y ∧ y ≤ 65535) (hQ : ∀ y ∈ x.P.e1, 0 ≤ y ∧ y ≤ 65535) : armillarylaw03_BoxDistanceEncloses 100 x = some true := by
  obtain ⟨n, h1, h6, hd, hb⟩ := boxes_eq hN (k := 100) (by omega)
  have hn : n < 1000000 := by omega
  have hk : n < 100 := by omega
  have hA : ∀ i, i < n → Ok (bx x.A i) := fun i _ => bx_ok _ i
  have hB : ∀ i, i < n → Ok (bx x.B i) := fun i _ => bx_ok _ i
  have hD : Ok (Dn (dq (bx x.A) (bx x.B)) n) := Dn_ok fun i hi => dq_ok (hA i hi) (hB i hi)
  unfold armillarylaw03_BoxDistanceEncloses
  refine bT (sane 0) (bT hb (bT (pointIn_mk hn _ hA hP hk) (bT (pointIn_mk hn _ hB hQ hk) (bT (bdist hn hA hB) (bT (v := Dn (dq (bx x.A) (bx x.B)) n) (by rw [bdist hn hB hA, dist_comm]) ?_)))))
  have hbeq : ((Dn (dq (bx x.A) (bx x.B)) n).Lo == (Dn (dq (bx x.A) (bx x.B)) n).Lo && ((Dn (dq (bx x.A) (bx x.B)) n).Hi == (Dn (dq (bx x.A) (bx x.B)) n).Hi && true)) = true := by simp
  rw [hbeq]
  refine gT rfl (ival hD) (iF Bool.false_ne_true (bT isEnt ?_))
  by_cases e : Dn (dq (bx x.A) (bx x.B)) n = Ent
  · exact iT (decide_eq_true e) rfl
  · refine iF (by simp [e]) ?_
    obtain ⟨hq, hlo, hhi⟩ := Dn_fin (fun i hi => dq_ok (hA i hi) (hB i hi)) e
    have hDf := hD.fin e
    have pts : ∀ i, i < n → _ := fun i hi => dq_pts (hA i hi) (hB i hi) (hq i hi) (pt_in (hA i hi) (fr_ok hP i)).1 (pt_in (hB i hi) (fr_ok hQ i)).1
    have hfc : ∀ z : Int, z / 65536 ≤ cdiv z 65536 := fun z => fc (by omega) (Int.le_refl z)
    have hsum : sumN (fun i => cdiv ((pt (bx x.A i) (fr x.P.e0 i) - pt (bx x.B i) (fr x.P.e1 i)) * (pt (bx x.A i) (fr x.P.e0 i) - pt (bx x.B i) (fr x.P.e1 i))) 65536) n ≤ (Dn (dq (bx x.A) (bx x.B)) n).Hi := by
      rw [hhi]; exact sumN_le fun i hi => (pts i hi).2.2.2.2.2.2.2
    have hsum2 : (Dn (dq (bx x.A) (bx x.B)) n).Lo ≤ sumN (fun i => (pt (bx x.A i) (fr x.P.e0 i) - pt (bx x.B i) (fr x.P.e1 i)) * (pt (bx x.A i) (fr x.P.e0 i) - pt (bx x.B i) (fr x.P.e1 i)) / 65536) n := by
      rw [hlo]; exact sumN_le fun i hi => (pts i hi).2.2.2.2.2.2.1
    have hsum3 : sumN (fun i => (pt (bx x.A i) (fr x.P.e0 i) - pt (bx x.B i) (fr x.P.e1 i)) * (pt (bx x.A i) (fr x.P.e0 i) - pt (bx x.B i) (fr x.P.e1 i)) / 65536) n ≤ sumN (fun i => cdiv ((pt (bx x.A i) (fr x.P.e0 i) - pt (bx x.B i) (fr x.P.e1 i)) * (pt (bx x.A i) (fr x.P.e0 i) - pt (bx x.B i) (fr x.P.e1 i))) 65536) n := sumN_le fun i hi => hfc _
    have h0 : 0 ≤ (Dn (dq (bx x.A) (bx x.B)) n).Lo := by rw [hlo]; exact sumN_nn fun i hi => dq_lo (hA i hi) (hB i hi) (hq i hi)
    have hnn : ∀ z : Int, 0 ≤ z * z / 65536 := fun z => Int.ediv_nonneg (by
      rcases Int.le_total 0 z with h | h
      · exact Int.mul_nonneg h h
      · exact Int.mul_nonneg_of_nonpos_of_nonpos h h) (by omega)
    refine bT (distLoop x true _ _ _ _ _ hn (U := (Dn (dq (bx x.A) (bx x.B)) n).Hi) hDf.2.2 (fun i hi => ⟨(pts i hi).2.2.2.2.1, (pts i hi).2.2.2.2.2.1, hnn _, hfc _⟩) hsum hk) ?_
    refine bT (v := true) ?_ rfl
    congr 1
    simp only [Bool.true_and, Bool.and_eq_true, decide_eq_true_eq]
    exact ⟨⟨by omega, by omega⟩, h0⟩
theorem Pure_BoxDistanceEncloses : armillarylaw03_BoxDistanceEncloses.Pure := by
  intro A B C N p0 p1 _ _ _ hN hP hQ
  exact ⟨100, distance _ hN hP hQ⟩
end Go.Proofs.Ytgccinodonkgjaa
