/- BoxHullIsLeastUpperBound: the plain law. Own work. -/
import Derived.Test.YtgccinodonkgjaaPlBoxSubsetOrder
set_option maxRecDepth 10000
set_option linter.unusedVariables false
set_option linter.unusedSimpArgs false
namespace Go.Proofs.Ytgccinodonkgjaa
open Go
theorem hull_l (a b : TInterval) : subB a (hullI a b) = true := by
  rw [subB_iff]; unfold hullI
  have h1 := mnl a.Lo b.Lo
  have h2 := mxl a.Hi b.Hi
  exact ⟨h1.1, h2.1⟩
theorem hull_comm (a b : TInterval) : hullI a b = hullI b a := by
  unfold hullI
  have h1 := mnl a.Lo b.Lo
  have h2 := mxl a.Hi b.Hi
  have h3 := mnl b.Lo a.Lo
  have h4 := mxl b.Hi a.Hi
  rw [TInterval.mk.injEq]; omega
theorem hull_r (a b : TInterval) : subB b (hullI a b) = true := by rw [hull_comm]; exact hull_l b a
theorem hull_lub {a b c : TInterval} (h : subB a c = true) (h' : subB b c = true) : subB (hullI a b) c = true := by
  rw [subB_iff] at *; unfold hullI
  have h1 := mnl a.Lo b.Lo
  have h2 := mxl a.Hi b.Hi
  simp only; omega
theorem hull_abs {a b : TInterval} (h : subB a b = true) : hullI a b = b := subB_anti (hull_lub h (subB_self b)) (hull_r a b)
theorem hull_again (a b : TInterval) : hullI (hullI a b) a = hullI a b := by rw [hull_comm]; exact hull_abs (hull_l a b)
theorem dims {n : Nat} (h1 : 1 ≤ n) (h6 : n ≤ 6) : (decide ((n : Int) ≥ 1) && decide ((n : Int) ≤ 6)) = true := by
  rw [Bool.and_eq_true]; exact ⟨decide_eq_true (by omega), decide_eq_true (by omega)⟩
theorem hullLub (x : TInput) (hN : 0 ≤ x.N ∧ x.N ≤ 255) : armillarylaw03_BoxHullIsLeastUpperBound 100 x = some true := by
  obtain ⟨n, h1, h6, hd, hb⟩ := boxes_eq hN (k := 100) (by omega)
  have hn : n < 1000000 := by omega
  have hk : n < 100 := by omega
  have eV : allB n (fun i => decide (Ok (hullI (bx x.A i) (bx x.B i)))) = true := allB_iff.2 fun i _ => decide_eq_true (hull_ok (bx_ok _ i) (bx_ok _ i))
  have eA : allB n (fun i => subB (bx x.A i) (hullI (bx x.A i) (bx x.B i))) = true := allB_iff.2 fun i _ => hull_l _ _
  have eB : allB n (fun i => subB (bx x.B i) (hullI (bx x.A i) (bx x.B i))) = true := allB_iff.2 fun i _ => hull_r _ _
  have eC : allB n (fun i => decide (hullI (bx x.A i) (bx x.B i) = hullI (bx x.B i) (bx x.A i))) = true := allB_iff.2 fun i _ => decide_eq_true (hull_comm _ _)
  have eH : allB n (fun i => decide (hullI (hullI (bx x.A i) (bx x.B i)) (bx x.A i) = hullI (bx x.A i) (bx x.B i))) = true := allB_iff.2 fun i _ => decide_eq_true (hull_again _ _)
  have eL : allB n (fun i => subB (bx x.A i) (bx x.C i)) = true → allB n (fun i => subB (bx x.B i) (bx x.C i)) = true → allB n (fun i => subB (hullI (bx x.A i) (bx x.B i)) (bx x.C i)) = true := fun h h' => allB_iff.2 fun i hi => hull_lub (allB_iff.1 h i hi) (allB_iff.1 h' i hi)
  have eAbs : allB n (fun i => subB (bx x.A i) (bx x.B i)) = true → allB n (fun i => decide (hullI (bx x.A i) (bx x.B i) = bx x.B i)) = true := fun h => allB_iff.2 fun i hi => decide_eq_true (hull_abs (allB_iff.1 h i hi))
  unfold armillarylaw03_BoxHullIsLeastUpperBound
  refine bT (sane 0) (bT hb ?_)
  rw [hd]
  refine bT (made_mk _ hn hk) ?_
  simp only [bhull hn, bvalid hn _ hk, dims h1 h6, bsubset hn, same_mk hn _ _ hk, eV, eA, eB, eC, eH, Option.bind_some, Bool.not_true, Bool.not_false, beq_self_eq_true, if_true, Bool.false_or, Bool.true_and, Bool.or_self, Bool.false_eq_true, if_false]
  cases hac : allB n (fun i => subB (bx x.A i) (bx x.C i)) <;> cases hbc : allB n (fun i => subB (bx x.B i) (bx x.C i)) <;> cases hab : allB n (fun i => subB (bx x.A i) (bx x.B i)) <;> simp_all
theorem Pure_BoxHullIsLeastUpperBound : armillarylaw03_BoxHullIsLeastUpperBound.Pure := by
  intro A B C N p0 p1 _ _ _ hN _ _
  exact ⟨100, hullLub _ hN⟩
end Go.Proofs.Ytgccinodonkgjaa
