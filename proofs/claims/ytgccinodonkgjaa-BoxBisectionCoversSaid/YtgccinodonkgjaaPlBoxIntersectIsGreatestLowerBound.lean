/- BoxIntersectIsGreatestLowerBound: the plain law. Own work. -/
import Derived.Test.YtgccinodonkgjaaPlBoxHullIsLeastUpperBound
set_option maxRecDepth 10000
set_option linter.unusedVariables false
set_option linter.unusedSimpArgs false
namespace Go.Proofs.Ytgccinodonkgjaa
open Go
theorem metB_iff {a b : TInterval} : metB a b = true ↔ mx a.Lo b.Lo ≤ mn a.Hi b.Hi := by simp [metB]
theorem metB_comm (a b : TInterval) : metB a b = metB b a := by
  unfold metB
  have h1 := mxl a.Lo b.Lo
  have h2 := mnl a.Hi b.Hi
  have h3 := mxl b.Lo a.Lo
  have h4 := mnl b.Hi a.Hi
  congr 1
  rw [eq_iff_iff]; omega
theorem metI_comm (a b : TInterval) : metI a b = metI b a := by
  unfold metI
  have h1 := mxl a.Lo b.Lo
  have h2 := mnl a.Hi b.Hi
  have h3 := mxl b.Lo a.Lo
  have h4 := mnl b.Hi a.Hi
  rw [TInterval.mk.injEq]; omega
theorem metI_l (a b : TInterval) : subB (metI a b) a = true := by
  rw [subB_iff]; unfold metI
  have h1 := mxl a.Lo b.Lo
  have h2 := mnl a.Hi b.Hi
  exact ⟨h1.1, h2.1⟩
theorem metI_r (a b : TInterval) : subB (metI a b) b = true := by rw [metI_comm]; exact metI_l b a
theorem met_glb {a b c : TInterval} (hc : Ok c) (h : subB c a = true) (h' : subB c b = true) : metB a b = true ∧ subB c (metI a b) = true := by
  rw [subB_iff] at h h'
  rw [metB_iff, subB_iff]; unfold metI
  have h1 := mxl a.Lo b.Lo
  have h2 := mnl a.Hi b.Hi
  have h3 := hc.b
  simp only; omega
theorem met_ok {a b : TInterval} (ha : Ok a) (hb : Ok b) (h : metB a b = true) : Ok (metI a b) := inter_ok ha hb (metB_iff.1 h)
theorem intGlb (x : TInput) (hN : 0 ≤ x.N ∧ x.N ≤ 255) (hP : ∀ y ∈ x.P.e0, 0 ≤ y ∧ y ≤ 65535) : armillarylaw03_BoxIntersectIsGreatestLowerBound 100 x = some true := by
  obtain ⟨n, h1, h6, hd, hb⟩ := boxes_eq hN (k := 100) (by omega)
  have hn : n < 1000000 := by omega
  have hk : n < 100 := by omega
  have hf : ∀ i, i < n → Ok (bx x.A i) := fun i _ => bx_ok _ i
  have h0 : (0 : Nat) < 1000000 := by omega
  have hs0 : armillaryref03_Same 100 [] [] = some true := by decide
  have em : allB n (fun i => metB (bx x.B i) (bx x.A i)) = allB n (fun i => metB (bx x.A i) (bx x.B i)) := by congr 1; funext i; exact metB_comm _ _
  have eI : mk n (fun i => metI (bx x.B i) (bx x.A i)) = mk n (fun i => metI (bx x.A i) (bx x.B i)) := mk_congr fun i _ => metI_comm _ _
  have eA : allB n (fun i => subB (metI (bx x.A i) (bx x.B i)) (bx x.A i)) = true := allB_iff.2 fun i _ => metI_l _ _
  have eB : allB n (fun i => subB (metI (bx x.A i) (bx x.B i)) (bx x.B i)) = true := allB_iff.2 fun i _ => metI_r _ _
  have eG : allB n (fun i => subB (bx x.C i) (bx x.A i)) = true → allB n (fun i => subB (bx x.C i) (bx x.B i)) = true → allB n (fun i => metB (bx x.A i) (bx x.B i)) = true ∧ allB n (fun i => subB (bx x.C i) (metI (bx x.A i) (bx x.B i))) = true := fun h h' =>
    ⟨allB_iff.2 fun i hi => (met_glb (bx_ok _ i) (allB_iff.1 h i hi) (allB_iff.1 h' i hi)).1, allB_iff.2 fun i hi => (met_glb (bx_ok _ i) (allB_iff.1 h i hi) (allB_iff.1 h' i hi)).2⟩
  have eV : allB n (fun i => metB (bx x.A i) (bx x.B i)) = true → allB n (fun i => decide (Ok (metI (bx x.A i) (bx x.B i)))) = true := fun h => allB_iff.2 fun i hi => decide_eq_true (met_ok (bx_ok _ i) (bx_ok _ i) (allB_iff.1 h i hi))
  have eP : allB n (fun i => metB (bx x.A i) (bx x.B i)) = true → allB n (fun i => decide (In (metI (bx x.A i) (bx x.B i)) (pt (bx x.A i) (fr x.P.e0 i)))) = allB n (fun i => decide (In (bx x.B i) (pt (bx x.A i) (fr x.P.e0 i)))) := fun h => by
    rw [Bool.eq_iff_iff, allB_iff, allB_iff]
    constructor
    · intro hh i hi
      have := of_decide_eq_true (hh i hi)
      exact decide_eq_true ((In_inter (bx_ok _ i) (bx_ok _ i) _ (metB_iff.1 (allB_iff.1 h i hi))).1 this).2
    · intro hh i hi
      have := of_decide_eq_true (hh i hi)
      exact decide_eq_true ((In_inter (bx_ok _ i) (bx_ok _ i) _ (metB_iff.1 (allB_iff.1 h i hi))).2 ⟨(pt_in (bx_ok _ i) (fr_ok hP i)).1, this⟩)
  have eN : allB n (fun i => metB (bx x.A i) (bx x.B i)) = false → allB n (fun i => decide (In (bx x.B i) (pt (bx x.A i) (fr x.P.e0 i)))) = false := fun h => by
    obtain ⟨i, hi, h2⟩ := allB_not.1 h
    refine allB_not.2 ⟨i, hi, decide_eq_false fun hin => ?_⟩
    refine In_none (bx_ok _ i) (bx_ok _ i) (pt (bx x.A i) (fr x.P.e0 i)) (fun hm => ?_) ⟨(pt_in (bx_ok _ i) (fr_ok hP i)).1, hin⟩
    rw [metB_iff.2 hm] at h2; cases h2
  unfold armillarylaw03_BoxIntersectIsGreatestLowerBound
  refine bT (sane 0) (bT hb ?_)
  rw [hd]
  refine bT (made_mk _ hn hk) (bT (pointIn_mk hn _ hf hP hk) ?_)
  simp only [bint hn, bsubset hn, bvalid hn _ hk, dims h1 h6, bcontains hn _ _ hk, em, eI, Option.bind_some]
  cases hm : allB n (fun i => metB (bx x.A i) (bx x.B i)) with
  | false =>
    have e1 := eN hm
    cases hca : allB n (fun i => subB (bx x.C i) (bx x.A i)) <;> cases hcb : allB n (fun i => subB (bx x.C i) (bx x.B i)) <;> simp_all [hs0]
  | true =>
    have e1 := eV hm
    have e2 := eP hm
    simp only [if_true, same_self hn _ hk, Option.bind_some, bsubset hn, bvalid hn _ hk, dims h1 h6, bcontains hn _ _ hk, eA, eB, e1, e2, Bool.not_true, Bool.and_self, beq_self_eq_true]
    cases hca : allB n (fun i => subB (bx x.C i) (bx x.A i)) <;> cases hcb : allB n (fun i => subB (bx x.C i) (bx x.B i)) <;> simp_all
theorem Pure_BoxIntersectIsGreatestLowerBound : armillarylaw03_BoxIntersectIsGreatestLowerBound.Pure := by
  intro A B C N p0 p1 _ _ _ hN hP _
  exact ⟨100, intGlb _ hN hP⟩
end Go.Proofs.Ytgccinodonkgjaa
