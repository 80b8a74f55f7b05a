/- BoxBisectionCovers: the plain law. Own work. -/
import Derived.Test.YtgccinodonkgjaaPlC5
set_option maxRecDepth 10000
set_option linter.unusedVariables false
set_option linter.unusedSimpArgs false
namespace Go.Proofs.Ytgccinodonkgjaa
open Go
theorem covers (x : TInput) (hN : 0 ≤ x.N ∧ x.N ≤ 255) (hP : ∀ y ∈ x.P.e0, 0 ≤ y ∧ y ≤ 65535) : armillarylaw03_BoxBisectionCovers 100 x = some true := by
  obtain ⟨n, h1, h6, hd, hb⟩ := boxes_eq hN (k := 100) (by omega)
  have hn : n < 1000000 := by omega
  have hk : n < 100 := by omega
  have hA : ∀ i, i < n → Ok (bx x.A i) := fun i _ => bx_ok _ i
  obtain ⟨k, hkn, a1, _⟩ := widest h1 hn hA hk
  have hp : ∀ i, i < n → In (bx x.A i) (pt (bx x.A i) (fr x.P.e0 i)) := fun i hi => (pt_in (hA i hi) (fr_ok hP i)).1
  unfold armillarylaw03_BoxBisectionCovers
  refine bT (sane 0) (bT hb (bT (pointIn_mk hn _ hA hP hk) (bT a1 ?_)))
  have hb0 : (decide ((k : Int) < 0) || decide ((k : Int) ≥ ((mk n (bx x.A)).length : Int))) = false := by rw [mk_len, Bool.or_eq_false_iff]; exact ⟨decide_eq_false (by omega), decide_eq_false (by omega)⟩
  rcases hA k hkn with e | hF
  · refine bT (bis_ent hkn e).1 (iF (by rw [hb0]; exact Bool.false_ne_true) (iT (by rw [mk_len]; exact rng hkn) (bT (by rw [Int.toNat_natCast]; exact mk_get _ hkn) (bT (by rw [e]; exact ref_isEnt_ent) (iT rfl rfl)))))
  · refine bT (bis_in hn hkn hF).1 (iF (by rw [hb0]; exact Bool.false_ne_true) (iT (by rw [mk_len]; exact rng hkn) (bT (by rw [Int.toNat_natCast]; exact mk_get _ hkn) (bT (ref_isEnt_fin hF) (iF Bool.false_ne_true ?_)))))
    have hF' := hF
    unfold Fin at hF'
    have hm1 : (bx x.A k).Lo ≤ mid (bx x.A k) := by unfold mid; omega
    have hm2 : mid (bx x.A k) ≤ (bx x.A k).Hi := by unfold mid; omega
    have hlow : ∀ i, i < n → Ok (lowF (bx x.A) k i) := fun i hi => by
      unfold lowF; split
      · exact .inr ⟨by simp only; omega, by simp only; omega, by simp only; omega⟩
      · exact hA i hi
    have hhigh : ∀ i, i < n → Ok (highF (bx x.A) k i) := fun i hi => by
      unfold highF; split
      · exact .inr ⟨by simp only; omega, by simp only; omega, by simp only; omega⟩
      · exact hA i hi
    have eH : mk n (fun i => hullI (lowF (bx x.A) k i) (highF (bx x.A) k i)) = mk n (bx x.A) := mk_congr fun i hi => by
      unfold lowF highF
      by_cases e : i = k
      · subst e
        rw [if_pos rfl, if_pos rfl]
        unfold hullI mn mx
        simp only
        have g1 := TInterval.mk.injEq (bx x.A i).Lo (bx x.A i).Hi (bx x.A i).Lo (bx x.A i).Hi
        rw [show (if mid (bx x.A i) < (bx x.A i).Lo then mid (bx x.A i) else (bx x.A i).Lo) = (bx x.A i).Lo by rw [if_neg (by omega)]]
        rw [show (if (bx x.A i).Hi > mid (bx x.A i) then (bx x.A i).Hi else mid (bx x.A i)) = (bx x.A i).Hi by split <;> omega]
      · rw [if_neg e, if_neg e]; exact hull_abs (subB_self _)
    have eC : allB n (fun i => decide (In (lowF (bx x.A) k i) (pt (bx x.A i) (fr x.P.e0 i)))) = true ∨ allB n (fun i => decide (In (highF (bx x.A) k i) (pt (bx x.A i) (fr x.P.e0 i)))) = true := by
      have hpk := (hp k hkn).resolve_left (by have := hF.ne; simpa using this)
      rcases Int.le_total (pt (bx x.A k) (fr x.P.e0 k)) (mid (bx x.A k)) with h | h
      · left
        refine allB_iff.2 fun i hi => decide_eq_true ?_
        unfold lowF
        by_cases e : i = k
        · subst e; rw [if_pos rfl]; right; exact ⟨hpk.1, h⟩
        · rw [if_neg e]; exact hp i hi
      · right
        refine allB_iff.2 fun i hi => decide_eq_true ?_
        unfold highF
        by_cases e : i = k
        · subst e; rw [if_pos rfl]; right; exact ⟨h, hpk.2⟩
        · rw [if_neg e]; exact hp i hi
    have eM : allB n (fun i => metB (lowF (bx x.A) k i) (highF (bx x.A) k i)) = true := allB_iff.2 fun i hi => metB_iff.2 (by
      unfold lowF highF
      by_cases e : i = k
      · subst e
        rw [if_pos rfl, if_pos rfl]
        have g1 := mxl (bx x.A i).Lo (mid (bx x.A i))
        have g2 := mnl (mid (bx x.A i)) (bx x.A i).Hi
        simp only; omega
      · rw [if_neg e, if_neg e]
        have g1 := mxl (bx x.A i).Lo (bx x.A i).Lo
        have g2 := mnl (bx x.A i).Hi (bx x.A i).Hi
        have g3 := (hA i hi).b
        omega)
    have eml : metI (lowF (bx x.A) k k) (highF (bx x.A) k k) = ⟨mid (bx x.A k), mid (bx x.A k)⟩ := by
      unfold lowF highF metI mx mn
      rw [if_pos rfl, if_pos rfl]
      simp only
      rw [show (if mid (bx x.A k) > (bx x.A k).Lo then mid (bx x.A k) else (bx x.A k).Lo) = mid (bx x.A k) by split <;> omega]
      rw [show (if (bx x.A k).Hi < mid (bx x.A k) then (bx x.A k).Hi else mid (bx x.A k)) = mid (bx x.A k) by split <;> omega]
    have wM : interval_Width (metI (lowF (bx x.A) k k) (highF (bx x.A) k k)) = some 0 := by
      rw [eml, width_ok (.inr ⟨by simp only; omega, by simp only; omega, by simp only; omega⟩)]; simp
    have wL : interval_Width (lowF (bx x.A) k k) = some (mid (bx x.A k) - (bx x.A k).Lo) := by rw [width_ok (hlow k hkn)]; unfold lowF; rw [if_pos rfl]
    have wH : interval_Width (highF (bx x.A) k k) = some ((bx x.A k).Hi - mid (bx x.A k)) := by rw [width_ok (hhigh k hkn)]; unfold highF; rw [if_pos rfl]
    have wA : interval_Width (bx x.A k) = some ((bx x.A k).Hi - (bx x.A k).Lo) := width_ok (hA k hkn)
    have hmid : (bx x.A k).Hi - mid (bx x.A k) - (mid (bx x.A k) - (bx x.A k).Lo) ≤ 1 ∧ mid (bx x.A k) - (bx x.A k).Lo ≤ (bx x.A k).Hi - mid (bx x.A k) := by unfold mid; omega
    generalize hmd : mid (bx x.A k) = md at *
    refine bT (v := false) (by rw [mk_len, mk_len, mk_len]; simp) (bT (v := false) rfl (iF Bool.false_ne_true (iT rfl ?_)))
    refine bT (v := mk n (bx x.A)) (by rw [bhull hn, eH]) (bT (same_self hn _ hk) ?_)
    have part : ∀ X : Option Bool, (box_Intersect (mk n (lowF (bx x.A) k)) (mk n (highF (bx x.A) k)) = some (mk n fun i => metI (lowF (bx x.A) k i) (highF (bx x.A) k i), true)) := fun X => by rw [bint hn, if_pos eM]
    obtain ⟨cl, hcl⟩ : ∃ c, allB n (fun i => decide (In (lowF (bx x.A) k i) (pt (bx x.A i) (fr x.P.e0 i)))) = c := ⟨_, rfl⟩
    rw [hcl] at eC
    obtain ⟨w, hw, hcw⟩ : ∃ w, (if (((!true) == false) && (cl == false)) = true then box_Contains 100 (mk n (highF (bx x.A) k)) (mk n fun i => pt (bx x.A i) (fr x.P.e0 i)) else some default) = some w ∧ (cl || w) = true := by
      cases cl with
      | true => exact ⟨default, rfl, rfl⟩
      | false => exact ⟨true, iT rfl (by rw [bcontains hn _ _ hk, eC.resolve_left Bool.false_ne_true]), rfl⟩
    refine gT (v := cl) rfl (by rw [bcontains hn _ _ hk, hcl]) (bT hw (iF (by rw [hcw]; exact Bool.false_ne_true) ?_))
    refine bT (part none) ?_
    have hr : ∀ {α : Type} (F : Nat → α), 0 ≤ (k : Int) ∧ (k : Int) < ((mk n F).length : Int) := fun F => by rw [mk_len]; exact rng hkn
    have hg : ∀ {α : Type} (F : Nat → α), (mk n F)[((k : Int)).toNat]? = some (F k) := fun F => by rw [Int.toNat_natCast]; exact mk_get F hkn
    refine iT (fun _ => hr _) (gT rfl (hg _) (gT rfl wM (iT (fun _ => hr _) (gT rfl (hg _) (gT rfl wL (iT (fun _ => hr _) (gT rfl (hg _) (gT rfl wH (iT (fun _ => hr _) (gT rfl (hg _) (gT rfl wA ?_)))))))))))
    have e1 : w_i64 (md - (bx x.A k).Lo + ((bx x.A k).Hi - md)) = (bx x.A k).Hi - (bx x.A k).Lo := by rw [w64 (by omega) (by omega)]; omega
    rw [e1]
    have e2 : ((bx x.A k).Hi - (bx x.A k).Lo == (bx x.A k).Hi - (bx x.A k).Lo) = true := by simp
    rw [e2]
    refine iT (fun _ => hr _) (gT rfl (hg _) (gT rfl wH (iT (fun _ => hr _) (gT rfl (hg _) (gT rfl wL ?_)))))
    have e3 : decide (w_i64 ((bx x.A k).Hi - md - (md - (bx x.A k).Lo)) ≤ 1) = true := decide_eq_true (by rw [w64 (by omega) (by omega)]; omega)
    rw [e3]
    refine bT (v := true) rfl (iT (fun _ => hr _) (gT rfl (hg _) (gT rfl wH (iT (fun _ => hr _) (gT rfl (hg _) (gT rfl wL ?_))))))
    have e4 : decide ((bx x.A k).Hi - md ≥ md - (bx x.A k).Lo) = true := decide_eq_true (by omega)
    rw [e4]; rfl
theorem Pure_BoxBisectionCovers : armillarylaw03_BoxBisectionCovers.Pure := by
  intro A B C N p0 p1 _ _ _ hN hP _
  exact ⟨100, covers _ hN hP⟩
end Go.Proofs.Ytgccinodonkgjaa
