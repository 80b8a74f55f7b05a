/- BoxMatchesReference: the plain law. Own work. -/
import Derived.Test.YtgccinodonkgjaaPlBoxSeparatedIsMonotone
set_option maxRecDepth 10000
set_option linter.unusedVariables false
set_option linter.unusedSimpArgs false
namespace Go.Proofs.Ytgccinodonkgjaa
open Go
theorem refB (x : TInput) (hN : 0 ≤ x.N ∧ x.N ≤ 255) (hP : ∀ y ∈ x.P.e0, 0 ≤ y ∧ y ≤ 65535) (l : List Int) (d : Int) : armillarylaw03_BoxMatchesReference 100 x l d = some true := by
  obtain ⟨n, h1, h6, hd, hb⟩ := boxes_eq hN (k := 100) (by omega)
  have hn : n < 1000000 := by omega
  have hk : n < 100 := by omega
  have hA : ∀ i, i < n → Ok (bx x.A i) := fun i _ => bx_ok _ i
  have hB : ∀ i, i < n → Ok (bx x.B i) := fun i _ => bx_ok _ i
  obtain ⟨m, em, m0, m1⟩ := mag_law' d
  have hself : ∀ v : Bool, (v == v) = true := fun v => by simp
  have hIs : ∀ a : TInterval, ((a.Lo == a.Lo) && ((a.Hi == a.Hi) && true)) = true := fun a => by simp
  have hs0 : armillaryref03_Same 100 [] [] = some true := by decide
  unfold armillarylaw03_BoxMatchesReference
  refine bT (sane 0) (bT hb ?_)
  by_cases hg : x.A.length > 20 ∨ l.length > 6
  · refine iT ?_ rfl
    simp only [Bool.or_eq_true, decide_eq_true_eq]; omega
  · have hA20 : x.A.length < 100 := by omega
    have hl6 : l.length < 100 := by omega
    refine iF (by simp only [Bool.or_eq_true, decide_eq_true_eq]; omega) ?_
    have hsame : armillaryref03_Same 100 (if allB n (fun i => metB (bx x.A i) (bx x.B i)) = true then (mk n fun i => metI (bx x.A i) (bx x.B i), true) else ([], false)).1 (if allB n (fun i => metB (bx x.A i) (bx x.B i)) = true then (mk n fun i => metI (bx x.A i) (bx x.B i), true) else ([], false)).1 = some true := by
      by_cases h : allB n (fun i => metB (bx x.A i) (bx x.B i)) = true
      · rw [if_pos h]; exact same_self hn _ hk
      · rw [if_neg h]; exact hs0
    refine bT (bint hn _ _) (bT (rint hn _ _ hk) (bT (pointIn_mk hn _ hA hP hk) (bT em ?_)))
    have hv1 : box_Valid 100 x.A = some ((decide ((x.A.length : Int) ≥ 1) && decide ((x.A.length : Int) ≤ 6)) && allB x.A.length fun i => decide (Ok (x.A.getD i default))) := by
      have := bvalid (n := x.A.length) (by omega) (fun i => x.A.getD i default) hA20
      rwa [← mk_of] at this
    have hv2 : armillaryref03_Valid 100 x.A = some ((decide ((x.A.length : Int) ≥ 1) && decide ((x.A.length : Int) ≤ 6)) && allB x.A.length fun i => decide (Ok (x.A.getD i default))) := by
      have := rvalid (n := x.A.length) (by omega) (fun i => x.A.getD i default) hA20
      rw [← mk_of, Bool.and_comm] at this
      exact this
    refine bT hv1 (bT hv2 ?_)
    rw [hself]
    refine gT rfl hsame ?_
    rw [hself]
    refine gT rfl (bcontains hn _ _ hk) (gT rfl (rcontains hn _ _ hk) ?_)
    rw [hself]
    refine gT rfl (bsubset hn _ _) (gT rfl (rsubset hn _ _ hk) ?_)
    rw [hself]
    refine iF Bool.false_ne_true ?_
    refine bT (v := mk l.length fun i => Int.tmod (l.getD i default) 16777216) ?_ ?_
    · refine loop_map _ l.length (fun i => Int.tmod (l.getD i default) 16777216) (by omega) (fun k acc i hi ha => ?_) (fun k acc => ?_) hl6
      · have h2 : l[i]? = some (l.getD i default) := by simp [List.getD, hi]
        rw [armillarylaw03_BoxMatchesReference.l35]
        simp only [dlt hi, decide_true, if_true, rng hi, and_self, Int.toNat_natCast, h2, Option.bind_some, wnext (show i < 1000000 by omega), armillaryref01_Made, ha]
      · rw [armillarylaw03_BoxMatchesReference.l35]
        simp only [dnl, Bool.false_eq_true, if_false]
    · refine bT (v := true) rfl (iT rfl ?_)
      refine bT (bhull hn _ _) (bT (rhull hn _ _ hk) (bT (same_self hn _ hk) (gT rfl (bdist hn hA hB) (gT rfl (rdist hn hA hB hk) ?_))))
      rw [hIs]
      refine gT rfl (bsep hn hA hB ⟨m0, m1⟩) (gT rfl (rsep hn hA hB ⟨m0, m1⟩ hk) ?_)
      rw [hself]
      refine bT (v := true) rfl (iT rfl (bT (binflate hn _ m hk hA ⟨m0, by omega⟩) (bT (rinflate hn _ m hk hA ⟨m0, by omega⟩) (bT (same_self hn _ hk) (bT (v := true) rfl (iT rfl ?_))))))
      rw [mk_len]
      by_cases h0 : l.length = 0
      · exact bT (v := true) (by simp [h0]) (iT rfl rfl)
      · have hne : ((l.length : Int) == 0) = false := by rw [beq_eq_false_iff_ne]; omega
        refine bT (v := false) (by rw [hne]) (iF Bool.false_ne_true (iT rfl ?_))
        exact bT (bpoint (by omega) _ hl6) (bT (rpoint (by omega) _ hl6) (bT (same_self (by omega) _ hl6) rfl))
theorem Pure_BoxMatchesReference : armillarylaw03_BoxMatchesReference.Pure := by
  intro A B C N p0 p1 l d _ _ _ hN hP _ _ _
  exact ⟨100, refB _ hN hP l d⟩
end Go.Proofs.Ytgccinodonkgjaa
