/- BoxSubsetOrder: the plain law. Own work. -/
import Derived.Test.YtgccinodonkgjaaPlC3
set_option maxRecDepth 10000
set_option linter.unusedVariables false
set_option linter.unusedSimpArgs false
namespace Go.Proofs.Ytgccinodonkgjaa
open Go
/-! ### Points and subsets -/
theorem subB_iff {a b : TInterval} : subB a b = true ↔ b.Lo ≤ a.Lo ∧ a.Hi ≤ b.Hi := by simp [subB]
theorem subB_self (a : TInterval) : subB a a = true := subB_iff.2 ⟨Int.le_refl _, Int.le_refl _⟩
theorem subB_anti {a b : TInterval} (h : subB a b = true) (h' : subB b a = true) : a = b := by
  rw [subB_iff] at h h'
  obtain ⟨x, y⟩ := a
  obtain ⟨u, v⟩ := b
  simp only at h h'
  rw [TInterval.mk.injEq]; omega
theorem subB_trans {a b c : TInterval} (h : subB a b = true) (h' : subB b c = true) : subB a c = true := by
  rw [subB_iff] at *; omega
theorem In_sub {a b : TInterval} (hb : Ok b) {x : Int} (h : subB a b = true) (hx : In a x) : In b x := by
  rw [subB_iff] at h
  rcases hx with e | hx
  · left
    have h1 : a.Lo = -2147483648 ∧ a.Hi = 2147483648 := by rw [e]; exact ⟨rfl, rfl⟩
    exact hb.ent_of (.inl (by omega))
  · right; omega
/-- A point of an interval, as an interval, lies in it. -/
theorem pt_sub {a : TInterval} (h : Ok a) {u : Int} (hu : 0 ≤ u ∧ u ≤ 65535) : subB (nw (pt a u) (pt a u)) a = true := by
  rw [subB_iff]
  have hp := pt_in h hu
  rcases h with e | h
  · rw [e]
    have : pt Ent u = u := by unfold pt; rw [if_pos rfl]
    rw [this, nw_fin ⟨by simp; omega, by simp, by simp; omega⟩]
    exact ⟨by simp [Ent]; omega, by simp [Ent]; omega⟩
  · have hne : a ≠ Ent := by have := h.ne; simpa using this
    rcases hp.1 with e | hx
    · exact absurd e hne
    · unfold Fin at h
      rw [nw_fin ⟨by simp; omega, by simp, by simp; omega⟩]
      exact ⟨by simp; omega, by simp; omega⟩
theorem subsetOrder (x : TInput) (hN : 0 ≤ x.N ∧ x.N ≤ 255) (hP : ∀ y ∈ x.P.e0, 0 ≤ y ∧ y ≤ 65535) : armillarylaw03_BoxSubsetOrder 100 x = some true := by
  obtain ⟨n, h1, h6, hd, hb⟩ := boxes_eq hN (k := 100) (by omega)
  have hn : n < 1000000 := by omega
  have hk : n < 100 := by omega
  have hf : ∀ i, i < n → Ok (bx x.A i) := fun i _ => bx_ok _ i
  have eAA : allB n (fun i => subB (bx x.A i) (bx x.A i)) = true := allB_iff.2 fun i _ => subB_self _
  have eAp : allB n (fun i => decide (In (bx x.A i) (pt (bx x.A i) (fr x.P.e0 i)))) = true := allB_iff.2 fun i _ => decide_eq_true (pt_in (bx_ok _ i) (fr_ok hP i)).1
  have ePA : allB n (fun i => subB (nw (pt (bx x.A i) (fr x.P.e0 i)) (pt (bx x.A i) (fr x.P.e0 i))) (bx x.A i)) = true := allB_iff.2 fun i _ => pt_sub (bx_ok _ i) (fr_ok hP i)
  have eAB : allB n (fun i => subB (bx x.A i) (bx x.B i)) = true → allB n (fun i => subB (bx x.B i) (bx x.A i)) = true → allB n (fun i => decide (bx x.A i = bx x.B i)) = true := fun h h' => allB_iff.2 fun i hi => decide_eq_true (subB_anti (allB_iff.1 h i hi) (allB_iff.1 h' i hi))
  have eAC : allB n (fun i => subB (bx x.A i) (bx x.B i)) = true → allB n (fun i => subB (bx x.B i) (bx x.C i)) = true → allB n (fun i => subB (bx x.A i) (bx x.C i)) = true := fun h h' => allB_iff.2 fun i hi => subB_trans (allB_iff.1 h i hi) (allB_iff.1 h' i hi)
  have eBp : allB n (fun i => subB (bx x.A i) (bx x.B i)) = true → allB n (fun i => decide (In (bx x.B i) (pt (bx x.A i) (fr x.P.e0 i)))) = true := fun h => allB_iff.2 fun i hi => decide_eq_true (In_sub (bx_ok _ i) (allB_iff.1 h i hi) (pt_in (bx_ok _ i) (fr_ok hP i)).1)
  unfold armillarylaw03_BoxSubsetOrder
  refine bT (sane 0) (bT hb ?_)
  rw [hd]
  refine bT (made_mk _ hn hk) (bT (pointIn_mk hn _ hf hP hk) ?_)
  simp only [bsubset hn, same_mk hn _ _ hk, bcontains hn _ _ hk, bpoint hn _ hk, eAA, eAp, ePA, Option.bind_some, Bool.not_true, beq_self_eq_true, if_true, Bool.false_or, Bool.true_and]
  cases hab : allB n (fun i => subB (bx x.A i) (bx x.B i)) with
  | false => rfl
  | true =>
    cases hba : allB n (fun i => subB (bx x.B i) (bx x.A i)) with
    | false =>
      cases hbc : allB n (fun i => subB (bx x.B i) (bx x.C i)) with
      | false => simp [eBp hab]
      | true => simp [eBp hab, eAC hab hbc]
    | true =>
      cases hbc : allB n (fun i => subB (bx x.B i) (bx x.C i)) with
      | false => simp [eBp hab, eAB hab hba]
      | true => simp [eBp hab, eAC hab hbc, eAB hab hba]
theorem Pure_BoxSubsetOrder : armillarylaw03_BoxSubsetOrder.Pure := by
  intro A B C N p0 p1 _ _ _ hN hP _
  exact ⟨100, subsetOrder _ hN hP⟩
end Go.Proofs.Ytgccinodonkgjaa
