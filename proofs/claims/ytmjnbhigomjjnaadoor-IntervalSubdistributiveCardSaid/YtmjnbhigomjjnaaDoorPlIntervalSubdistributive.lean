/- The law of subdistributivity, over the printed plain functions: it answers true. Own work. -/
import Derived.Test.YtmjnbhigomjjnaaDoorPlB5
namespace Go.Proofs.YtmjnbhigomjjnaaDoor
set_option maxRecDepth 10000
set_option linter.unusedSimpArgs false
set_option linter.unusedVariables false

theorem add_ok {a b : TInterval} (ha : Ok a) (hb : Ok b) : ∃ r, interval_Add a b = some r ∧ Ok r := by
  rcases ha with rfl | ha
  · exact ⟨Ent, add_entl _, .inl rfl⟩
  · rcases hb with rfl | hb
    · exact ⟨Ent, add_entr _, .inl rfl⟩
    · exact ⟨_, add_fin ha hb, nw_ok (by unfold Fin at ha hb; omega)⟩

theorem subdistributive {k0 : Nat} (hk : 4294967296 < k0) (x : TOperands) (y : TInterval) : armillarylaw02_IntervalSubdistributive k0 x y = some true := by
  unfold armillarylaw02_IntervalSubdistributive
  obtain ⟨a, ha, oka⟩ := made_ok ⟨x.A.Lo, x.A.Hi⟩
  obtain ⟨b, hb, okb⟩ := made_ok ⟨x.B.Lo, x.B.Hi⟩
  obtain ⟨c, hc, okc⟩ := made_ok y
  obtain ⟨s, hs, oks⟩ := add_ok okb okc
  refine bT (sane' hk) (bT ha (bT hb (bT hc (bT hs ?_))))
  rcases oka with rfl | fa
  · exact bT ref_isEnt_ent (gF (by decide) (iT rfl rfl))
  refine bT (ref_isEnt_fin fa) ?_
  by_cases es : s = Ent
  · subst es
    exact gT rfl ref_isEnt_ent (iT rfl rfl)
  have fs : Fin s := oks.resolve_left es
  refine gT rfl (ref_isEnt_fin fs) (iF (by decide) ?_)
  have fb : Fin b := by
    rcases okb with rfl | f
    · rw [add_entl] at hs
      exact absurd (Option.some.inj hs).symm es
    · exact f
  have fcc : Fin c := by
    rcases okc with rfl | f
    · rw [add_entr] at hs
      exact absurd (Option.some.inj hs).symm es
    · exact f
  rw [add_fin fb fcc] at hs
  have hs' := Option.some.inj hs
  have es2 : s = ⟨b.Lo + c.Lo, b.Hi + c.Hi⟩ := by
    rcases nw_cases (b.Lo + c.Lo) (b.Hi + c.Hi) (by unfold Fin at fb fcc; omega) with ⟨e, _⟩ | ⟨e, _⟩
    · rw [e] at hs'; exact absurd hs'.symm es
    · rw [e] at hs'; exact hs'.symm
  obtain ⟨l, h, hm, H⟩ := mul_fin fa fs
  obtain ⟨l1, h1, hm1, H1⟩ := mul_fin fa fb
  obtain ⟨l2, h2, hm2, H2⟩ := mul_fin fa fcc
  have hl : l1 + l2 ≤ l := by
    have i := H.isl; have k1 := H1.lo; have k2 := H2.lo
    rw [es2] at i
    simp only [Int.mul_add] at i
    omega
  have hh : h ≤ h1 + h2 := by
    have i := H.ish; have k1 := H1.hi; have k2 := H2.hi
    rw [es2] at i
    simp only [Int.mul_add] at i
    omega
  obtain ⟨r, hr, hr2⟩ := add_nw_sub (x := l1 / 65536) (y := cdiv h1 65536) (u := l2 / 65536) (v := cdiv h2 65536) (p := l / 65536) (q := cdiv h 65536) (fc (by omega) H1.le) (fc (by omega) H2.le) (fc (by omega) H.le) (by omega) (by have := c_le h1; have := c_le h2; exact (cdiv_le (by omega)).2 (by omega))
  refine bT hm (bT hm1 (bT hm2 (bT hr (bT hr2 (iF (by decide) ?_)))))
  obtain ⟨d, hd, hd2⟩ := back fa fb H1
  refine bT hm1 (bT hd (bT hd2 (gT rfl (sub_fin fs fcc) (gT (v := true) rfl (sub_nw_l fb ?_ ?_) rfl))))
  · rw [es2]; have := fcc; unfold Fin at this; simp only; omega
  · rw [es2]; have := fcc; unfold Fin at this; simp only; omega
theorem Pure_IntervalSubdistributive : armillarylaw02_IntervalSubdistributive.Pure := by
  unfold armillarylaw02_IntervalSubdistributive.Pure
  intros
  exact ⟨4294967400, subdistributive (by decide) _ _⟩
end Go.Proofs.YtmjnbhigomjjnaaDoor
