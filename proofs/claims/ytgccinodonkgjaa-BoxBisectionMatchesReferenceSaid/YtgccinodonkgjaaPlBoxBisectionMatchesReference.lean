/- BoxBisectionMatchesReference: the plain law. Own work. -/
import Derived.Test.YtgccinodonkgjaaPlC5
set_option maxRecDepth 10000
set_option linter.unusedVariables false
set_option linter.unusedSimpArgs false
namespace Go.Proofs.Ytgccinodonkgjaa
open Go
theorem bisect (x : TInput) (hN : 0 ≤ x.N ∧ x.N ≤ 255) (k : Int) (hk8 : -128 ≤ k ∧ k ≤ 127) : armillarylaw03_BoxBisectionMatchesReference 100 x k = some true := by
  obtain ⟨n, h1, h6, hd, hb⟩ := boxes_eq hN (k := 100) (by omega)
  have hn : n < 1000000 := by omega
  have hk : n < 100 := by omega
  have hA : ∀ i, i < n → Ok (bx x.A i) := fun i _ => bx_ok _ i
  have hself : ∀ v : Bool, (v == v) = true := fun v => by simp
  have hselfI : ∀ v : Int, (v == v) = true := fun v => by simp
  have hs0 : armillaryref03_Same 100 [] [] = some true := by decide
  have hR : ∃ R : List TInterval × List TInterval × Int, box_Bisect (mk n (bx x.A)) k = some R ∧ armillaryref03_Bisect (mk n (bx x.A)) k = some R ∧ armillaryref03_Same 100 R.1 R.1 = some true ∧ armillaryref03_Same 100 R.2.1 R.2.1 = some true := by
    by_cases ho : k < 0 ∨ (n : Int) ≤ k
    · exact ⟨_, (bis_out ho).1, (bis_out ho).2, hs0, hs0⟩
    · obtain ⟨j, rfl⟩ : ∃ j : Nat, k = (j : Int) := ⟨k.toNat, by omega⟩
      have hj : j < n := by omega
      rcases hA j hj with e | h
      · exact ⟨_, (bis_ent hj e).1, (bis_ent hj e).2, hs0, hs0⟩
      · exact ⟨_, (bis_in hn hj h).1, (bis_in hn hj h).2, same_self hn _ hk, same_self hn _ hk⟩
  obtain ⟨R, r1, r2, r3, r4⟩ := hR
  obtain ⟨M, m1, m2⟩ := bwidth h1 hn hA hk
  obtain ⟨M', m1', m2'⟩ := rwidth h1 hn hA hk
  obtain rfl := m2.uniq m2'
  obtain ⟨a, ha, a1, a2⟩ := widest h1 hn hA hk
  unfold armillarylaw03_BoxBisectionMatchesReference
  rw [w64 (by omega) (by omega)]
  refine bT (sane 0) (bT hb (bT r1 (bT r2 (bT (bmid hn _ hk hA) (bT (rmid hn _ hk hA) (iF (by simp) ?_))))))
  refine bT (v := .inr ()) ?_ ?_
  · have := loop_all (armillarylaw03_BoxBisectionMatchesReference.l26 100 x k true (mk n (bx x.A), mk n (bx x.B)) R R (mk n fun i => ((bx x.A i).Lo + (bx x.A i).Hi) / 2) (mk n fun i => ((bx x.A i).Lo + (bx x.A i).Hi) / 2)) n (fun _ => true) (fun m i hi => by
        rw [armillarylaw03_BoxBisectionMatchesReference.l26]
        simp only [mk_len, dlt hi, decide_true, if_true, rng hi, and_self, Int.toNat_natCast, mk_get _ hi, Option.bind_some, wnext (Nat.lt_trans hi hn)]
        rw [if_neg (by simp)]) (fun m => by
        rw [armillarylaw03_BoxBisectionMatchesReference.l26]
        simp only [mk_len, dnl, Bool.false_eq_true, if_false]) hk
    rw [if_pos (allB_iff.2 fun _ _ => rfl)] at this
    exact this
  · show ((if (true == true) = true then armillaryref03_Same 100 R.1 R.1 else some default).bind _) = some true
    refine gT rfl r3 (gT rfl r4 ?_)
    rw [hselfI R.2.2]
    refine gT rfl m1 (gT rfl m1' ?_)
    rw [hselfI M]
    refine gT rfl a1 (gT rfl a2 ?_)
    rw [hselfI (a : Int)]
    rfl
theorem Pure_BoxBisectionMatchesReference : armillarylaw03_BoxBisectionMatchesReference.Pure := by
  intro A B C N p0 p1 k _ _ _ hN _ _ hk
  exact ⟨100, bisect _ hN k hk⟩
end Go.Proofs.Ytgccinodonkgjaa
