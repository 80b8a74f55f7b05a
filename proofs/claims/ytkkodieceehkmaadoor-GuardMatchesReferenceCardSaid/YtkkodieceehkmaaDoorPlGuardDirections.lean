/- GuardDirections: the plain law. Own work. -/
import Derived.Test.YtkkodieceehkmaaDoorPlG3
set_option maxRecDepth 100000
set_option linter.unusedVariables false
set_option linter.unusedSimpArgs false
namespace Go.Proofs.YtkkodieceehkmaaDoor
open Go
theorem sane (m : Nat) : armillarylaw15_sanity (m + 100) = some true := by kernel_rfl
abbrev KK : Nat := 4294967496
theorem saneK : armillarylaw15_sanity KK = some true := sane (4294967396)
/-- What a guard comes to on three boxes. -/
theorem cross_at {k : Nat} (hk : K32 + 10 < k) {g : TGuard} {s : TSegment} {m : Nat} {e : Ex} (hg : g.F = e.code) (he : e.ok (m : Int)) (hd : e.dep ≤ 5) (hl : e.code.length < 32) {f t b : Nat → TInterval} (sF : s.From = mk m f) (sT : s.To = mk m t) (sB : s.Tube = mk m b)
    (ff : ∀ i, Ok (f i)) (tf : ∀ i, Ok (t i)) (bf : ∀ i, Ok (b i)) (hT : -1048576 < s.T ∧ s.T < 1048576) (hH : 0 ≤ s.H ∧ s.H ≤ 131072) :
    ∃ w u v, Ok w ∧ Ok u ∧ Ok v ∧ e.ev (mk m b) ⟨s.T, s.T + s.H⟩ = some w ∧ e.ev (mk m f) ⟨s.T, s.T⟩ = some u ∧ e.ev (mk m t) ⟨s.T + s.H, s.T + s.H⟩ = some v ∧ ∀ d, guard_Crossing k ⟨g.F, d⟩ s = some (cross d w u v) := by
  have hw : w_i64 (s.T + s.H) = s.T + s.H := w64 (by omega) (by omega)
  obtain ⟨w, w1, w2, w3⟩ := eval_ex (env_mk (m := m) bf (t := ⟨s.T, s.T + s.H⟩) (.inr (by unfold Fin; simp only; omega))) he (by omega) (k := k) (by omega) (d := 0)
  obtain ⟨u, u1, u2, u3⟩ := eval_ex (env_mk (m := m) ff (t := ⟨s.T, s.T⟩) (.inr (by unfold Fin; simp only; omega))) he (by omega) (k := k) (by omega) (d := 0)
  obtain ⟨v, v1, v2, v3⟩ := eval_ex (env_mk (m := m) tf (t := ⟨s.T + s.H, s.T + s.H⟩) (.inr (by unfold Fin; simp only; omega))) he (by omega) (k := k) (by omega) (d := 0)
  refine ⟨w, u, v, w1, u1, v1, w2, u2, v2, fun d => ?_⟩
  obtain ⟨j, rfl⟩ : ∃ j, k = j + 3 := ⟨k - 3, by omega⟩
  refine crossing_eq (g := ⟨g.F, d⟩) w1 u1 v1 ?_ ?_ ?_
  · rw [hw, sB, hg]; exact w3
  · rw [sF, hg]; exact u3
  · rw [hw, sT, hg]; exact v3
theorem up_cases (w a b : TInterval) : up w a b = 0 ∨ up w a b = 1 ∨ up w a b = 2 ∧ a.Hi < 0 ∧ 0 ≤ b.Lo := by
  unfold up
  split
  · rename_i h; exact .inr (.inr ⟨rfl, h⟩)
  · split
    · exact .inl rfl
    · exact .inr (.inl rfl)
theorem Ok.le {a : TInterval} (h : Ok a) : a.Lo ≤ a.Hi := by
  rcases h with rfl | h
  · decide
  · exact h.le
theorem up_both {w a b : TInterval} (ha : Ok a) : ¬ (up w a b = 2 ∧ up (ngv w) (ngv a) (ngv b) = 2) := by
  rintro ⟨h1, h2⟩
  have c1 := up_cases w a b
  have c2 := up_cases (ngv w) (ngv a) (ngv b)
  have hle := ha.le
  have e1 : (ngv a).Hi = -a.Lo := rfl
  omega
theorem Pure_GuardDirections : armillarylaw15_GuardDirections.Pure := by
  intro c00 c01 c02 c03 c04 c05 c06 c07 c08 h0 h1 h2 h3 h4 h5 h6 h7 h8
  refine ⟨KK, ?_⟩
  unfold armillarylaw15_GuardDirections
  obtain ⟨g, s, m, e, f, t, b, hs, S⟩ := seg_ok (⟨c00, c01, c02, c03, c04, c05, (⟨c06, c07⟩ : TTimeStep), c08⟩ : TInput) h2 (k := KK) (by decide)
  obtain ⟨w, u, v, w1, u1, v1, _, _, _, hc⟩ := cross_at (k := KK) (by decide) S.gF S.eok S.dep S.len S.sF S.sT S.sB (fun i => .inr (S.ff i)) (fun i => .inr (S.tf i)) (fun i => .inr (S.bf i)) S.T (by have := S.H; omega)
  refine bT saneK ?_
  refine bT hs ?_
  refine bT (hc 1) ?_
  refine bT (hc (-1)) ?_
  refine bT (hc 0) ?_
  have c1 := up_cases w u v
  have c2 := up_cases (ngv w) (ngv u) (ngv v)
  have c3 := up_both (w := w) (b := v) u1
  have k1 : cross 1 w u v = up w u v := by unfold cross; rw [if_pos (by decide)]
  have k2 : cross (-1) w u v = up (ngv w) (ngv u) (ngv v) := by unfold cross; rw [if_neg (by decide), if_pos (by decide)]
  have k3 : cross 0 w u v = if up w u v = 2 ∨ up (ngv w) (ngv u) (ngv v) = 2 then 2 else if up w u v = 0 ∧ up (ngv w) (ngv u) (ngv v) = 0 then 0 else 1 := by unfold cross; rw [if_neg (by decide), if_neg (by decide)]
  rw [k1, k2, k3]
  generalize up w u v = A at *
  generalize up (ngv w) (ngv u) (ngv v) = B at *
  have hA : A = 0 ∨ A = 1 ∨ A = 2 := by omega
  have hB : B = 0 ∨ B = 1 ∨ B = 2 := by omega
  rcases hA with rfl | rfl | rfl <;> rcases hB with rfl | rfl | rfl <;> first | rfl | exact absurd ⟨rfl, rfl⟩ c3
end Go.Proofs.YtkkodieceehkmaaDoor
