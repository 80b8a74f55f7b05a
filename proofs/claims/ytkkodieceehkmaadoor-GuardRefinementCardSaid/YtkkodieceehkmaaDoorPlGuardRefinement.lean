/- GuardRefinement: the plain law. Own work. -/
import Derived.Test.YtkkodieceehkmaaDoorPlGuardSideIsotone
set_option maxRecDepth 100000
set_option linter.unusedVariables false
set_option linter.unusedSimpArgs false
namespace Go.Proofs.YtkkodieceehkmaaDoor
open Go
theorem up_sub {w a b w' a' b' : TInterval} (hw : Le w' w) (ha : Le a' a) (hb : Le b' b) (la : a'.Lo ≤ a'.Hi) (lb : b'.Lo ≤ b'.Hi) (ia : Le a' w') (ib : Le b' w') (h : up w a b ≠ 1) : up w' a' b' = up w a b := by
  unfold Le at *
  unfold up at *
  by_cases c : a.Hi < 0 ∧ 0 ≤ b.Lo
  · rw [if_pos c, if_pos (by omega)]
  · rw [if_neg c] at h ⊢
    by_cases c2 : w.Hi < 0 ∨ 0 ≤ w.Lo
    · rw [if_pos c2, if_neg (by omega), if_pos (by omega)]
    · rw [if_neg c2] at h; exact absurd rfl h
theorem cross_sub {d : Int} {w a b w' a' b' : TInterval} (hw : Le w' w) (ha : Le a' a) (hb : Le b' b) (la : a'.Lo ≤ a'.Hi) (lb : b'.Lo ≤ b'.Hi) (ia : Le a' w') (ib : Le b' w') (ka : a.Lo ≤ a.Hi) (h : cross d w a b ≠ 1) : cross d w' a' b' = cross d w a b := by
  have p := fun h => up_sub hw ha hb la lb ia ib h
  have q := fun h => up_sub (ngv_mono hw) (ngv_mono ha) (ngv_mono hb) (ngv_le la) (ngv_le lb) (ngv_mono ia) (ngv_mono ib) h
  unfold cross at *
  by_cases d1 : 0 < d
  · rw [if_pos d1] at h ⊢; rw [if_pos d1]; exact p h
  rw [if_neg d1] at h ⊢; rw [if_neg d1]
  by_cases d2 : d < 0
  · rw [if_pos d2] at h ⊢; rw [if_pos d2]; exact q h
  rw [if_neg d2] at h ⊢; rw [if_neg d2]
  have c1 := up_cases w a b
  have c2 := up_cases (ngv w) (ngv a) (ngv b)
  have c3 := up_cases w' a' b'
  have c4 := up_cases (ngv w') (ngv a') (ngv b')
  generalize up w a b = A at *
  generalize up (ngv w) (ngv a) (ngv b) = B at *
  generalize up w' a' b' = A' at *
  generalize up (ngv w') (ngv a') (ngv b') = B' at *
  by_cases e1 : A = 1
  · by_cases e2 : B = 2
    · have := q (by omega)
      rw [if_pos (by omega), if_pos (by omega)]
    · rw [if_neg (by omega), if_neg (by omega)] at h; exact absurd rfl h
  · have h1 := p e1
    by_cases e2 : B = 1
    · by_cases e3 : A = 2
      · rw [if_pos (by omega), if_pos (by omega)]
      · rw [if_neg (by omega), if_neg (by omega)] at h; exact absurd rfl h
    · have h2 := q e2
      rw [h1, h2]
theorem Pure_GuardRefinement : armillarylaw15_GuardRefinement.Pure := by
  intro c00 c01 c02 c03 c04 c05 c06 c07 c08 h0 h1 h2 h3 h4 h5 h6 h7 h8
  refine ⟨KK, ?_⟩
  unfold armillarylaw15_GuardRefinement
  obtain ⟨g, s, m, e, f, t, b, hs, S⟩ := seg_ok (⟨c00, c01, c02, c03, c04, c05, (⟨c06, c07⟩ : TTimeStep), c08⟩ : TInput) h2 (k := KK) (by decide)
  have hT := S.T
  have hH := S.H
  have hm := S.m1
  have hKK : KK = 4294967496 := rfl
  obtain ⟨w, u, v, w1, u1, v1, ew, eu, ev, hc⟩ := cross_at (k := KK) (by decide) S.gF S.eok S.dep S.len S.sF S.sT S.sB (fun i => .inr (S.ff i)) (fun i => .inr (S.tf i)) (fun i => .inr (S.bf i)) S.T (by omega)
  have pf := fun i => pti_ok S.ff h8 i
  have pg := fun i => pti_ok S.tf h8 i
  have hF : armillarylaw15_pointBox KK s.From c08 = some (mk m (pti f c08)) := by rw [S.sF]; exact pointBox_mk (by omega) S.ff h8 (by omega)
  have hTo : armillarylaw15_pointBox KK s.To c08 = some (mk m (pti t c08)) := by rw [S.sT]; exact pointBox_mk (by omega) S.tf h8 (by omega)
  refine bT saneK ?_
  refine bT hs ?_
  refine bT hF ?_
  refine bT hTo ?_
  refine bT (rhull (by omega) _ _ (by omega)) ?_
  refine bT (hc g.Dir) ?_
  by_cases c : cross g.Dir w u v = 1
  · refine gF (by rw [c]; simp) ?_
    rw [c]; rfl
  · obtain ⟨w', u', v', w1', u1', v1', ew', eu', ev', hc'⟩ := cross_at (k := KK) (by decide) (g := g) (s := ⟨s.T, s.H, mk m (pti f c08), s.Pre, mk m (fun i => hullI (pti f c08 i) (pti t c08 i)), mk m (pti t c08)⟩) S.gF S.eok S.dep S.len rfl rfl rfl (fun i => .inr (pf i).1) (fun i => .inr (pg i).1) (fun i => .inr (hull_fin (pf i).1 (pg i).1)) S.T (by show 0 ≤ s.H ∧ s.H ≤ 131072; omega)
    refine gT (by simpa using c) (hc' g.Dir) ?_
    have tok : ∀ {x y : Int}, (-1048576 < x ∧ x ≤ y ∧ y < 1179649) → Ok (⟨x, y⟩ : TInterval) := fun h => .inr (by unfold Fin; simp only; omega)
    have t1 : Ok (⟨s.T, s.T + s.H⟩ : TInterval) := tok (by omega)
    have t2 : Ok (⟨s.T, s.T⟩ : TInterval) := tok (by omega)
    have t3 : Ok (⟨s.T + s.H, s.T + s.H⟩ : TInterval) := tok (by omega)
    have l0 : ∀ x : TInterval, Le x x := fun x => ⟨Int.le_refl _, Int.le_refl _⟩
    have l2 : Le (⟨s.T, s.T⟩ : TInterval) ⟨s.T, s.T + s.H⟩ := ⟨Int.le_refl _, by simp only; omega⟩
    have l3 : Le (⟨s.T + s.H, s.T + s.H⟩ : TInterval) ⟨s.T, s.T + s.H⟩ := ⟨by simp only; omega, Int.le_refl _⟩
    have EB := env_mk (m := m) (fun i => .inr (S.bf i)) t1
    have EF := env_mk (m := m) (fun i => .inr (S.ff i)) t2
    have ET := env_mk (m := m) (fun i => .inr (S.tf i)) t3
    have EF' := env_mk (m := m) (f := pti f c08) (fun i => .inr (pf i).1) t2
    have ET' := env_mk (m := m) (f := pti t c08) (fun i => .inr (pg i).1) t3
    have EB' := env_mk (m := m) (f := fun i => hullI (pti f c08 i) (pti t c08 i)) (fun i => .inr (hull_fin (pf i).1 (pg i).1)) t1
    have hsub : ∀ i, Le (hullI (pti f c08 i) (pti t c08 i)) (b i) := fun i => by
      have a1 := (pf i).2.trans (S.fl i)
      have a2 := (pg i).2.trans (S.tl i)
      unfold Le hullI mn mx at *
      simp only
      split <;> split <;> omega
    have hw := Ex.mono EB' EB (mk_le hsub) (l0 _) e S.eok w' w ew' ew
    have hu := Ex.mono EF' EF (mk_le fun i => (pf i).2) (l0 _) e S.eok u' u eu' eu
    have hv := Ex.mono ET' ET (mk_le fun i => (pg i).2) (l0 _) e S.eok v' v ev' ev
    have iu := Ex.mono EF' EB' (mk_le fun i => hull_l _ _) l2 e S.eok u' w' eu' ew'
    have iv := Ex.mono ET' EB' (mk_le fun i => hull_r _ _) l3 e S.eok v' w' ev' ew'
    rw [cross_sub hw hu hv u1'.le v1'.le iu iv u1.le c]
    simp
end Go.Proofs.YtkkodieceehkmaaDoor
