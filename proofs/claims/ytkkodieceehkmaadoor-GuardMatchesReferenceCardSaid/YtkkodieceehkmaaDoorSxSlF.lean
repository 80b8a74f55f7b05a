/- Sx: rows: two rows handed back. Own work. -/
import Derived.Test.YtkkodieceehkmaaDoorSxSlE
set_option linter.unusedVariables false
namespace Go.Sx
open Go Go.RowKit
section
variable {P : Program} {ops : Array Oper} {B : Nat} {w0 : World} {n i : Nat} {o : Oper} {Spre : Nu → St}
/-- A call that hands back two new rows (beside plain values). -/
theorem ok_callRL2 (ks : List Nat) (Ks : Nu → List KV) (f : FuncId) (args : Nu → Array Value) (v : Option Addr → Nat → Option Addr → Nat → Value) (e1 sz1 n1 : Nat) (xs1 : List Value) (e2 sz2 n2 : Nat) (xs2 : List Value) (d k1 k2 : Nat)
    (hC : ∀ ν w, AllH (Ks ν) w → Calls P f (args ν) w fun en w' => ∃ p cap p2 cap2, en = .returned (v p cap p2 cap2) ∧ Below w.heap.size w w' ∧ w'.ownsRow w.heap.size e1 sz1 (.slice p n1 cap) n1 xs1 ∧ w'.ownsRow w.heap.size e2 sz2 (.slice p2 n2 cap2) n2 xs2 ∧ ∀ j, fpOwn p j → ¬ fpOwn p2 j)
    (hK : ∀ ν, ks.map (Spre ν) = Ks ν := by intro _; kernel_rfl)
    (hd : o.dst = some d := by rfl) (hdn : Nat.blt d n = true := by rfl) (hkn1 : Nat.ble n k1 = true := by rfl) (hkn2 : Nat.blt k1 k2 = true := by rfl) (hsel : noSel o = true := by rfl) (hg : o.guard = none := by rfl)
    (hk : ∀ ν, (o.op.operands.all (knownB (Spre ν))) = true := by intro _; kernel_rfl) (hp : ∀ ν, (condsOf o (Spre ν)).all id = true := by intro _; kernel_rfl)
    (hv : ∀ ν w, (execOp (envU (Spre ν)) o).run P w = .ok (.enter f (args ν)) w := by intro _ _; kernel_rfl) :
    OpOK P ops B w0 n i o Spre (ks ++ tmpsOf ops o) (fun ν => [(d, .slot true (v ((ν i).o 0) ((ν i).n 0) ((ν i).o 1) ((ν i).n 1))), (k1, owK e1 sz1 ((ν i).o 0) n1 ((ν i).n 0) xs1), (k2, owK e2 sz2 ((ν i).o 1) n2 ((ν i).n 1) xs2)]) := by
  have hdn' : d < n := by simpa using hdn
  have hkn1' : n ≤ k1 := by simpa using hkn1
  have hkn2' : k1 < k2 := by simpa using hkn2
  refine opok_of (c := fun _ => true) (fun _ h => List.mem_append_right _ h) (noSel_spec hsel) (fun ν => by unfold wantS; rw [hg]) hk ?_ ?_
  · intro ν S a w hcf; cases hcf
  · intro Q p S a w hpi hct hag hrep hev0
    have hev : ∀ ν, Ext p ν → execOp a.eval o = execOp (envU (Spre ν)) o := fun ν hν => (hev0 ν hν).trans (env_strip (noSel_spec hsel) (by simpa using hp ν))
    unfold Oper.wp
    obtain ⟨ν0, h0⟩ := Ext.exists p
    rw [hev ν0 h0, hv ν0 w]
    simp only [Oper.upon]
    refine (hC ν0 w (allH_of ks _ (hK ν0) fun k hk' => ?_)).mono ?_
    · have := (hrep ν0 h0).holds k
      rw [hag ν0 h0 k (List.mem_append_left _ hk')] at this; exact this
    · rintro en w' ⟨q, cap, q2, cap2, rfl, hb, hown, hown2, hdj⟩
      refine ⟨⟨fun j => if j = 0 then cap else cap2, fun j => if j = 0 then q else q2⟩, fun ν hν => ?_⟩
      have hν' := hν.of_set hpi
      have e0 : (ν i).o 0 = q := by rw [hν.at_set]; rfl
      have e1 : (ν i).n 0 = cap := by rw [hν.at_set]; rfl
      have e2 : (ν i).o 1 = q2 := by rw [hν.at_set]; rfl
      have e3 : (ν i).n 1 = cap2 := by rw [hν.at_set]; rfl
      rw [e0, e1, e2, e3, hd]
      have hr := hrep ν hν'
      have r3 := (hr.world hb).put hdn' true (v q cap q2 cap2)
      have hold : ∀ k' j, (upd (S ν) d (.slot true (v q cap q2 cap2)) k').fp j → j < w.heap.size := fun k' j hj => by
        by_cases ed : k' = d
        · subst ed; rw [upd_same] at hj; exact hj.elim
        · rw [upd_ne _ _ ed] at hj
          exact hr.inb k' j hj
      have r4 := r3.ent k1 (owK _ sz1 q n1 cap xs1) (by intro c x h; cases h) (fun w3 ha => owns_agree (owns_zero hown) ha) (fun j hj => (owns_lt hown j hj).2) (fun _ j hj => Nat.le_trans hr.base (owns_lt hown j hj).1)
        (fun k' j hne _ hj hj' => by
          have h1 := (owns_lt hown j hj).1
          have h2 := hold k' j hj'
          omega)
      refine r4.ent k2 _ (by intro c x h; cases h) (fun w3 ha => owns_agree (owns_zero hown2) ha) (fun j hj => (owns_lt hown2 j hj).2) (fun _ j hj => Nat.le_trans hr.base (owns_lt hown2 j hj).1) ?_
      intro k' j hne _ hj hj'
      have h1 := (owns_lt hown2 j hj).1
      by_cases ek : k' = k1
      · subst ek
        rw [upd_same] at hj'
        exact hdj j hj' hj
      · rw [upd_ne _ _ ek] at hj'
        have := hold k' j hj'
        omega
end
/-- The end of a function that hands back two new rows. -/
theorem k_doneR2 {P : Program} {n : Nat} {w0 : World} {S : St} {a : Act} {w : World} (hr : Rep w0.heap.size w0 n S a w) {fn : Func} (v : Option Addr → Nat → Option Addr → Nat → Value) (p : Option Addr) (cap : Nat) (p2 : Option Addr) (cap2 : Nat) (segs : List (Nat × Seg)) (k e sz n' : Nat) (xs : List Value) (k2 e2 sz2 n2 : Nat) (xs2 : List Value)
    (hne : k ≠ k2) (hrow : S k = owK e sz p n' cap xs) (hrow2 : S k2 = owK e2 sz2 p2 n2 cap2 xs2)
    (hk : (fn.results.toList).all (fun x => isSlot (S (resT x))) = true)
    (hs : ∀ p ∈ segs, (∃ e, S p.1 = .blk p.2.b p.2.cs e) ∧ Nat.ble (p.2.off + p.2.m) p.2.cs.length = true)
    (hp : peek P (resultsE fn (fun t => envS S (.tmp t))) (segV (segs.map (·.2))) [] = some (v p cap p2 cap2, segA (segs.map (·.2)))) :
    bodyPost P fn (fun en w' => ∃ p cap p2 cap2, en = .returned (v p cap p2 cap2) ∧ Below w0.heap.size w0 w' ∧ w'.ownsRow w0.heap.size e sz (.slice p n' cap) n' xs ∧ w'.ownsRow w0.heap.size e2 sz2 (.slice p2 n2 cap2) n2 xs2 ∧ ∀ j, fpOwn p j → ¬ fpOwn p2 j) .ret a w := by
  have hh := hr.holds k
  rw [hrow] at hh
  have hh2 := hr.holds k2
  rw [hrow2] at hh2
  exact ⟨hr.defers, v p cap p2 cap2, run_results hr _ segs hk hs hp, p, cap, p2, cap2, rfl, hr.below, owns_base (ow_of hh) fun j hj => hr.ge k j (by rw [hrow]; trivial) (by rw [hrow]; exact hj), owns_base (ow_of hh2) fun j hj => hr.ge k2 j (by rw [hrow2]; trivial) (by rw [hrow2]; exact hj),
    fun j hj hj2 => hr.disj k k2 j hne (by rw [hrow]; trivial) (by rw [hrow]; exact hj) (by rw [hrow2]; exact hj2)⟩
end Go.Sx
