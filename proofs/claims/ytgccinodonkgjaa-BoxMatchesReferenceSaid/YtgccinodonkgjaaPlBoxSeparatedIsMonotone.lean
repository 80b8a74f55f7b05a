/- BoxSeparatedIsMonotone: the plain law. Own work. -/
import Derived.Test.YtgccinodonkgjaaPlC4
set_option maxRecDepth 10000
set_option linter.unusedVariables false
set_option linter.unusedSimpArgs false
namespace Go.Proofs.Ytgccinodonkgjaa
open Go
theorem mag_law' (x : Int) : ∃ d, armillarylaw03_magnitude x = some d ∧ 0 ≤ d ∧ d ≤ 16777215 := by
  have h := tm_bound x
  refine ⟨_, rfl, ?_⟩
  rw [w64 (by omega) (by omega)]
  have := mxl (Int.tmod x 16777216) (0 - Int.tmod x 16777216)
  omega
theorem cd_nn (d : Int) (h : 0 ≤ d * d) : 0 ≤ cdiv (d * d) 65536 := by unfold cdiv; omega
/-- Where two intervals meet, the squared distance begins at zero. -/
theorem dq_meet {f g : Nat → TInterval} {i : Nat} (hf : Ok (f i)) (hg : Ok (g i)) (h : Fin (dq f g i)) (hm : (f i).Lo ≤ (g i).Hi ∧ (g i).Lo ≤ (f i).Hi) : (dq f g i).Lo = 0 := by
  obtain ⟨_, _, h3, e⟩ := dq_fin hf hg h
  rw [e]
  have : sqm ⟨(f i).Lo - (g i).Hi, (f i).Hi - (g i).Lo⟩ = 0 := by unfold sqm mx; simp only; split <;> split <;> omega
  simp only [this]; decide
theorem sep_no {n : Nat} {f g : Nat → TInterval} (hf : ∀ i, i < n → Ok (f i)) (hg : ∀ i, i < n → Ok (g i)) (hm : ∀ i, i < n → Fin (f i) → Fin (g i) → (f i).Lo ≤ (g i).Hi ∧ (g i).Lo ≤ (f i).Hi) {d : Int} (hd : 0 ≤ d ∧ d ≤ 16777215) : sepB n f g d = false := by
  unfold sepB
  by_cases e : Dn (dq f g) n = Ent
  · simp [e]
  · obtain ⟨hq, hlo, _⟩ := Dn_fin (fun i hi => dq_ok (hf i hi) (hg i hi)) e
    have : (Dn (dq f g) n).Lo = 0 := by
      rw [hlo]
      exact sumN_zero fun i hi => dq_meet (hf i hi) (hg i hi) (hq i hi) (hm i hi (dq_fin (hf i hi) (hg i hi) (hq i hi)).1 (dq_fin (hf i hi) (hg i hi) (hq i hi)).2.1)
    have h1 := cd_nn d (sqb hd).1
    have h2 : decide ((Dn (dq f g) n).Lo > cdiv (d * d) 65536) = false := decide_eq_false (by omega)
    rw [h2, Bool.and_false]
theorem sep_yes {n : Nat} {f g : Nat → TInterval} {d : Int} (h : sepB n f g d = true) : Dn (dq f g) n ≠ Ent ∧ (Dn (dq f g) n).Lo > cdiv (d * d) 65536 := by
  unfold sepB at h
  simp only [Bool.and_eq_true, Bool.not_eq_true', decide_eq_false_iff_not, decide_eq_true_eq] at h
  exact h
theorem sep_mono {n : Nat} {f g : Nat → TInterval} {d e : Int} (hd : 0 ≤ d) (hde : d ≤ e) (h : sepB n f g e = true) : sepB n f g d = true := by
  obtain ⟨h1, h2⟩ := sep_yes h
  have h3 : cdiv (d * d) 65536 ≤ cdiv (e * e) 65536 := cdiv_mono (by omega) (sq_le hd hde)
  unfold sepB
  rw [decide_eq_false h1, decide_eq_true (by omega)]; rfl
/-- Points of separated boxes are separated. -/
theorem sep_pts {n : Nat} {f g : Nat → TInterval} (hf : ∀ i, i < n → Ok (f i)) (hg : ∀ i, i < n → Ok (g i)) {p q : Nat → Int} (hp : ∀ i, i < n → In (f i) (p i)) (hq : ∀ i, i < n → In (g i) (q i)) {d : Int} (h : sepB n f g d = true) : sepB n (fun i => nw (p i) (p i)) (fun i => nw (q i) (q i)) d = true := by
  obtain ⟨h1, h2⟩ := sep_yes h
  obtain ⟨hfq, hlo, hhi⟩ := Dn_fin (fun i hi => dq_ok (hf i hi) (hg i hi)) h1
  have hDf := (Dn_ok (m := n) fun i hi => dq_ok (hf i hi) (hg i hi)).fin h1
  have hpt : ∀ i, i < n → dq (fun i => nw (p i) (p i)) (fun i => nw (q i) (q i)) i = ⟨(p i - q i) * (p i - q i) / 65536, cdiv ((p i - q i) * (p i - q i)) 65536⟩ ∧ Fin ⟨(p i - q i) * (p i - q i) / 65536, cdiv ((p i - q i) * (p i - q i)) 65536⟩ ∧ 0 ≤ (p i - q i) * (p i - q i) / 65536 ∧
      (dq f g i).Lo ≤ (p i - q i) * (p i - q i) / 65536 ∧ cdiv ((p i - q i) * (p i - q i)) 65536 ≤ (dq f g i).Hi := fun i hi => by
    obtain ⟨ff, fg, _, _⟩ := dq_fin (hf i hi) (hg i hi) (hfq i hi)
    obtain ⟨g1, g2, g3, g4, g5, g6, g7, g8⟩ := dq_pts (hf i hi) (hg i hi) (hfq i hi) (hp i hi) (hq i hi)
    unfold Fin at ff fg
    have fp : Fin ⟨p i, p i⟩ := ⟨by simp only; omega, by simp, by simp only; omega⟩
    have fq : Fin ⟨q i, q i⟩ := ⟨by simp only; omega, by simp, by simp only; omega⟩
    have fd : Fin ⟨p i - q i, p i - q i⟩ := ⟨by simp only; omega, by simp, by simp only; omega⟩
    have hnn : 0 ≤ (p i - q i) * (p i - q i) := by
      rcases Int.le_total 0 (p i - q i) with h | h
      · exact Int.mul_nonneg h h
      · exact Int.mul_nonneg_of_nonpos_of_nonpos h h
    have h0 : 0 ≤ (p i - q i) * (p i - q i) / 65536 := Int.ediv_nonneg hnn (by omega)
    have hfc : (p i - q i) * (p i - q i) / 65536 ≤ cdiv ((p i - q i) * (p i - q i)) 65536 := fc (by omega) (Int.le_refl _)
    have hH := (hfq i hi).2.2
    have fsq : Fin ⟨(p i - q i) * (p i - q i) / 65536, cdiv ((p i - q i) * (p i - q i)) 65536⟩ := ⟨by simp only; omega, hfc, by simp only; omega⟩
    refine ⟨?_, fsq, h0, g7, g8⟩
    have e1 : subI (nw (p i) (p i)) (nw (q i) (q i)) = ⟨p i - q i, p i - q i⟩ := by
      rw [nw_fin fp, nw_fin fq]
      unfold subI
      rw [if_neg (by intro hh; rcases hh with hh | hh; exact fp.nent hh; exact fq.nent hh)]
      exact nw_fin fd
    have e2 : sqm ⟨p i - q i, p i - q i⟩ * sqm ⟨p i - q i, p i - q i⟩ = (p i - q i) * (p i - q i) := by
      have : sqm ⟨p i - q i, p i - q i⟩ = p i - q i ∨ sqm ⟨p i - q i, p i - q i⟩ = -(p i - q i) := by unfold sqm mx; simp only; split <;> split <;> omega
      rcases this with h | h <;> rw [h]
      rw [Int.neg_mul_neg]
    have e3 : mag ⟨p i - q i, p i - q i⟩ * mag ⟨p i - q i, p i - q i⟩ = (p i - q i) * (p i - q i) := by
      have : mag ⟨p i - q i, p i - q i⟩ = p i - q i ∨ mag ⟨p i - q i, p i - q i⟩ = -(p i - q i) := by unfold mag mx; simp only; split <;> omega
      rcases this with h | h <;> rw [h]
      rw [Int.neg_mul_neg]
    unfold dq
    rw [e1]
    unfold sqI
    rw [if_neg fd.nent, e2, e3, nw_fin fsq]
  have hqc : Dn (dq (fun i => nw (p i) (p i)) (fun i => nw (q i) (q i))) n = Dn (fun i => ⟨(p i - q i) * (p i - q i) / 65536, cdiv ((p i - q i) * (p i - q i)) 65536⟩) n := Dn_congr fun i hi => (hpt i hi).1
  have hsH : sumN (fun i => cdiv ((p i - q i) * (p i - q i)) 65536) n ≤ (Dn (dq f g) n).Hi := by rw [hhi]; exact sumN_le fun i hi => (hpt i hi).2.2.2.2
  have hsL : (Dn (dq f g) n).Lo ≤ sumN (fun i => (p i - q i) * (p i - q i) / 65536) n := by rw [hlo]; exact sumN_le fun i hi => (hpt i hi).2.2.2.1
  have hH2 : (Dn (dq f g) n).Hi < 2147483648 := hDf.2.2
  have hH4 : sumN (fun i => cdiv ((p i - q i) * (p i - q i)) 65536) n < 2147483648 := by omega
  obtain ⟨eD, hD0, hDle⟩ := Dn_below (q := fun i => (⟨(p i - q i) * (p i - q i) / 65536, cdiv ((p i - q i) * (p i - q i)) 65536⟩ : TInterval)) (m := n) (fun i hi => ⟨(hpt i hi).2.1, (hpt i hi).2.2.1⟩) hH4
    (fun j hj => sumN_mono (fun i hi => by have h3 := (hpt i hi).2.2.1; have h4 := (hpt i hi).2.1.2.1; simp only at h4 ⊢; omega) hj)
  unfold sepB
  rw [hqc, eD]
  simp only at hD0 hDle ⊢
  have hne : (⟨sumN (fun i => (p i - q i) * (p i - q i) / 65536) n, sumN (fun i => cdiv ((p i - q i) * (p i - q i)) 65536) n⟩ : TInterval) ≠ Ent := fun e => by rw [Ent, TInterval.mk.injEq] at e; omega
  rw [decide_eq_false hne, decide_eq_true (by omega)]; rfl
theorem separated (x : TInput) (hN : 0 ≤ x.N ∧ x.N ≤ 255) (hP : ∀ y ∈ x.P.e0, 0 ≤ y ∧ y ≤ 65535) (hQ : ∀ y ∈ x.P.e1, 0 ≤ y ∧ y ≤ 65535) (d e : Int) : armillarylaw03_BoxSeparatedIsMonotone 100 x d e = some true := by
  obtain ⟨n, h1, h6, hd, hb⟩ := boxes_eq hN (k := 100) (by omega)
  have hn : n < 1000000 := by omega
  have hk : n < 100 := by omega
  have hA : ∀ i, i < n → Ok (bx x.A i) := fun i _ => bx_ok _ i
  have hB : ∀ i, i < n → Ok (bx x.B i) := fun i _ => bx_ok _ i
  obtain ⟨m, em, m0, m1⟩ := mag_law' d
  obtain ⟨l, el, l0, l1⟩ := mag_law' e
  have hcm : sepB n (bx x.B) (bx x.A) m = sepB n (bx x.A) (bx x.B) m := by unfold sepB; rw [dist_comm]
  have hself : sepB n (bx x.A) (bx x.A) l = false := sep_no hA hA (fun i hi f1 f2 => by unfold Fin at f1; omega) ⟨l0, l1⟩
  unfold armillarylaw03_BoxSeparatedIsMonotone
  refine bT (sane 0) (bT hb (bT em (bT el (bT (bsep hn hA hB ⟨m0, m1⟩) (bT (v := sepB n (bx x.A) (bx x.B) m) (by rw [bsep hn hB hA ⟨m0, m1⟩, hcm]) ?_)))))
  have hbb : (sepB n (bx x.A) (bx x.B) m == sepB n (bx x.A) (bx x.B) m) = true := by simp
  rw [hbb]
  refine gT (v := false) rfl (by rw [bsep hn hA hA ⟨l0, l1⟩, hself]) (iF Bool.false_ne_true ?_)
  cases hs : sepB n (bx x.A) (bx x.B) m with
  | false => exact iT rfl rfl
  | true =>
    refine iF Bool.false_ne_true ?_
    obtain ⟨s1, s2⟩ := sep_yes hs
    obtain ⟨hq, hlo, hhi⟩ := Dn_fin (fun i hi => dq_ok (hA i hi) (hB i hi)) s1
    have hpos : 0 < (Dn (dq (bx x.A) (bx x.B)) n).Lo := by have := cd_nn m (sqb ⟨m0, m1⟩).1; omega
    have hnm : allB n (fun i => metB (bx x.A i) (bx x.B i)) = false := by
      cases hm : allB n (fun i => metB (bx x.A i) (bx x.B i)) with
      | false => rfl
      | true =>
        exfalso
        have : (Dn (dq (bx x.A) (bx x.B)) n).Lo = 0 := by
          rw [hlo]
          refine sumN_zero fun i hi => dq_meet (hA i hi) (hB i hi) (hq i hi) ?_
          have h3 := metB_iff.1 (allB_iff.1 hm i hi)
          have h4 := mxl (bx x.A i).Lo (bx x.B i).Lo
          have h5 := mnl (bx x.A i).Hi (bx x.B i).Hi
          omega
        omega
    have hpA : ∀ i, i < n → In (bx x.A i) (pt (bx x.A i) (fr x.P.e0 i)) := fun i hi => (pt_in (hA i hi) (fr_ok hP i)).1
    have hpB : ∀ i, i < n → In (bx x.B i) (pt (bx x.B i) (fr x.P.e1 i)) := fun i hi => (pt_in (hB i hi) (fr_ok hQ i)).1
    have okP : ∀ i, i < n → Ok (nw (pt (bx x.A i) (fr x.P.e0 i)) (pt (bx x.A i) (fr x.P.e0 i))) := fun i hi => nw_ok (Int.le_refl _)
    have okQ : ∀ i, i < n → Ok (nw (pt (bx x.B i) (fr x.P.e1 i)) (pt (bx x.B i) (fr x.P.e1 i))) := fun i hi => nw_ok (Int.le_refl _)
    have hsp := sep_pts hA hB hpA hpB hs
    have hns : allB n (fun i => subB (nw (pt (bx x.A i) (fr x.P.e0 i)) (pt (bx x.A i) (fr x.P.e0 i))) (bx x.B i)) = false := by
      cases hm : allB n (fun i => subB (nw (pt (bx x.A i) (fr x.P.e0 i)) (pt (bx x.A i) (fr x.P.e0 i))) (bx x.B i)) with
      | false => rfl
      | true =>
        exfalso
        have : (Dn (dq (bx x.A) (bx x.B)) n).Lo = 0 := by
          rw [hlo]
          refine sumN_zero fun i hi => dq_meet (hA i hi) (hB i hi) (hq i hi) ?_
          have h3 := subB_iff.1 (allB_iff.1 hm i hi)
          obtain ⟨ff, fg, _, _⟩ := dq_fin (hA i hi) (hB i hi) (hq i hi)
          have h4 := (hpA i hi).resolve_left ff.nent
          unfold Fin at ff fg
          rw [nw_fin ⟨by simp only; omega, by simp, by simp only; omega⟩] at h3
          simp only at h3
          omega
        omega
    refine bT (v := ([], false)) (by rw [bint hn, hnm]; rfl) (bT (pointIn_mk hn _ hA hP hk) (bT (bpoint hn _ hk) (bT (pointIn_mk hn _ hB hQ hk) (bT (bpoint hn _ hk) ?_))))
    refine gT (v := true) rfl (by rw [bsep hn okP okQ ⟨m0, m1⟩, hsp]) ?_
    by_cases hlm : l > m
    · have hd1 : decide (l > m) = true := decide_eq_true hlm
      rw [hd1]
      refine gF (by simp) (gT (v := false) rfl (by rw [bsubset hn, hns]) rfl)
    · have hd1 : decide (l > m) = false := decide_eq_false hlm
      rw [hd1]
      refine gT (v := true) rfl (by rw [bsep hn hA hB ⟨l0, l1⟩, sep_mono l0 (by omega) hs]) (gT (v := false) rfl (by rw [bsubset hn, hns]) rfl)
theorem Pure_BoxSeparatedIsMonotone : armillarylaw03_BoxSeparatedIsMonotone.Pure := by
  intro A B C N p0 p1 d e _ _ _ hN hP hQ _ _
  exact ⟨100, separated _ hN hP hQ d e⟩
end Go.Proofs.Ytgccinodonkgjaa
