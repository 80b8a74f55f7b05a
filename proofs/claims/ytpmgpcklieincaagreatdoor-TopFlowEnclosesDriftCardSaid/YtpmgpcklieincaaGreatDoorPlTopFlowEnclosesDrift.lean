/- TopFlowEnclosesDrift: the plain law. Own work. -/
import Derived.Test.YtpmgpcklieincaaGreatDoorPlAll2
set_option linter.unusedVariables false
set_option linter.unusedSimpArgs false
set_option maxRecDepth 10000
namespace Go.Proofs.YtpmgpcklieincaaGreatDoor
theorem sanity_ok (n : Nat) : armillarytop_sanity14 (n + 100) = some true := by
  obtain ⟨l, h1, h2⟩ := flow_drift (u := 8192) (by omega) n 0 65536 32 (by omega) (by omega) (by omega) (by omega)
  obtain ⟨he, b, hb, _, _, hbe, _⟩ := at_drift h2 (by omega) (by omega) (by omega) 131072 (by omega) (by omega) n
  have hb' := hbe rfl
  subst hb'
  have h1' : flow_Integrate (n + 100) (tp ⟨131072, 131072⟩) [⟨65536, 65536⟩] ⟨ctl, 0, 131072⟩ = some (l, 0) := h1
  have he' : flow_End l = some ([⟨327680, 327680⟩], 131072, true) := he
  have hb' : flow_At (n + 100) l 131072 = some ([⟨327680, 327680⟩], true) := hb
  unfold armillarytop_sanity14
  refine bT (v := ⟨131072, 131072⟩) (by kernel_rfl) (bT rfl (bT (compile_drift ⟨131072, 131072⟩ (n + 90)) (bT (v := ⟨65536, 65536⟩) (by kernel_rfl) (bT (v := ⟨ctl, 0, 131072⟩) (by kernel_rfl) (bT h1' (bT he' (bT hb' (iF (by decide) ?_))))))))
  kernel_rfl
theorem Pure_TopFlowEnclosesDrift : armillarytop_TopFlowEnclosesDrift.Pure := by
  intro u a1 a2 a3 a4 hu h1 h2 h3 h4
  refine ⟨100, ?_⟩
  obtain ⟨T, hT⟩ : ∃ T, T = a2 * 65536 := ⟨_, rfl⟩
  obtain ⟨x, hx⟩ : ∃ x, x = Int.tmod a1 1048576 := ⟨_, rfl⟩
  obtain ⟨m, hm⟩ : ∃ m : Nat, (m : Int) = 1 + a3 % 64 := ⟨(1 + a3 % 64).toNat, by omega⟩
  have bx : -1048576 < x ∧ x < 1048576 := by
    have e1 := Int.tmod_lt_of_pos a1 (b := 1048576) (by decide)
    have e2 := Int.lt_tmod_of_pos a1 (b := 1048576) (by decide)
    omega
  have e3 : Int.tmod a3 64 = a3 % 64 := Int.tmod_eq_emod_of_nonneg h3.1
  obtain ⟨l, f1, f2⟩ := flow_drift (u := u) (by omega) 0 T x m (by omega) (by omega) (by omega) (by omega)
  obtain ⟨d, hd⟩ : ∃ d, d = 4096 * (m : Int) * a4 / 65535 := ⟨_, rfl⟩
  have pb := prod_bound (x := 4096 * (m : Int)) (y := a4) (A := 262144) (B := 65535) (by omega) (by omega)
  have pn : 0 ≤ 4096 * (m : Int) * a4 := Int.mul_nonneg (by omega) h4.1
  have pm : 4096 * (m : Int) * a4 ≤ 4096 * (m : Int) * 65535 := mulL h4.2 (by omega)
  have hd0 : 0 ≤ d ∧ d ≤ 4096 * (m : Int) := by omega
  obtain ⟨he, b, hb, hb1, hb2, _, hbn⟩ := at_drift f2 (by omega) (by omega) (by omega) (T + d) (by omega) (by omega) 0
  have wT : w_i64 (w_i64 a2 * 65536) = T := by rw [w64 (x := a2) (by omega) (by omega)]; exact w64e hT.symm (by omega) (by omega)
  have wm : w_i64 (T + w_i64 (w_i64 (1 + w_i64 (Int.tmod a3 64)) * 4096)) = T + 4096 * m := by
    rw [e3, w64 (x := a3 % 64) (by omega) (by omega), w64 (x := 1 + a3 % 64) (by omega) (by omega), ← hm, w64e (x := (m : Int) * 4096) (y := 4096 * (m : Int)) (by omega) (by omega) (by omega), w64 (by omega) (by omega)]
  have hor : armillarytop_horizon14 2 a2 a3 = some ⟨ctl, T, T + 4096 * m⟩ := by
    unfold armillarytop_horizon14
    refine bT (v := ctl) (by kernel_rfl) (bT rfl ?_)
    rw [wT, wm]
  have ws : w_i64 (w_i64 u * 16) = 16 * u := by rw [w64 (x := u) (by omega) (by omega)]; exact w64e (by omega) (by omega) (by omega)
  have wx : w_i64 (Int.tmod a1 1048576) = x := by rw [← hx]; exact w64 (by omega) (by omega)
  have pt : ∀ y, -100000000 ≤ y → y ≤ 100000000 → armillaryref02_Point y = some ⟨y, y⟩ := fun y g1 g2 => by
    unfold armillaryref02_Point
    refine bT (refnew_nw (Int.le_refl y)) ?_
    rw [nw_fin (by unfold Fin; dsimp only; omega)]
  have wt : w_i64 (T + w_i64 (Int.tdiv (w_i64 (w_i64 (T + 4096 * m - T) * w_i64 a4)) 65535)) = T + d := by
    rw [w64e (x := T + 4096 * m - T) (y := 4096 * (m : Int)) (by omega) (by omega) (by omega), w64 (x := a4) (by omega) (by omega), w64 (x := 4096 * (m : Int) * a4) (by omega) (by omega), Int.tdiv_eq_ediv_of_nonneg pn, ← hd, w64 (x := d) (by omega) (by omega)]
    exact w64 (by omega) (by omega)
  have pu := prod_bound (x := 16 * u) (y := d) (A := 524288) (B := 262144) (by omega) (by omega)
  have wz : w_i64 (w_i64 (x * 65536) + w_i64 (16 * u * w_i64 (T + d - T))) = x * 65536 + 16 * u * (T + d - T) := by
    have ed : T + d - T = d := by omega
    rw [ed, w64 (x := d) (by omega) (by omega), w64 (x := 16 * u * d) (by omega) (by omega), w64 (x := x * 65536) (by omega) (by omega)]
    exact w64 (by omega) (by omega)
  have bb : -2199023255552 ≤ x * 65536 + 16 * u * (T + d - T) ∧ x * 65536 + 16 * u * (T + d - T) ≤ 2199023255552 := by
    have ed : T + d - T = d := by omega
    rw [ed]; omega
  have hw : w_i64 (b.Lo * 65536) = b.Lo * 65536 ∧ w_i64 (b.Hi * 65536) = b.Hi * 65536 := by
    have hbf := hbn (by omega)
    exact ⟨w64 (by omega) (by omega), w64 (by omega) (by omega)⟩
  unfold armillarytop_TopFlowEnclosesDrift
  have f1' : flow_Integrate 100 (tp ⟨16 * u, 16 * u⟩) [⟨x, x⟩] ⟨⟨ctl.Order, ctl.First, ctl.Least, ctl.Most, ctl.Wide⟩, T, T + 4096 * m⟩ = some (l, 0) := f1
  have hb' : flow_At 100 l (T + d) = some ([b], true) := hb
  refine bT (sanity_ok 0) (bT hor (bT (v := ⟨16 * u, 16 * u⟩) (by rw [ws]; exact pt _ (by omega) (by omega)) (bT rfl (bT (compile_drift _ 90) (bT (v := ⟨x, x⟩) (by rw [wx]; exact pt _ (by omega) (by omega)) ?_)))))
  dsimp only
  refine bT f1' (iF (by simp) ?_)
  dsimp only
  rw [wt, wx, ws]
  refine bT hb' (bT rfl (bT rfl ?_))
  rw [wz]
  refine iT (fun _ => by simp) (bT (v := b) (iT rfl rfl) (bT (v := true) ?_ (iT (fun _ => by simp) (bT (v := b) (iT rfl rfl) ?_))))
  · rw [hw.1, decide_eq_true hb1]; rfl
  · rw [hw.2, decide_eq_true hb2]; rfl
end Go.Proofs.YtpmgpcklieincaaGreatDoor
