/- GuardSideIsotone: the plain law. Own work. -/
import Derived.Test.YtkkodieceehkmaaDoorPlGuardDirections
set_option maxRecDepth 100000
set_option linter.unusedVariables false
set_option linter.unusedSimpArgs false
namespace Go.Proofs.YtkkodieceehkmaaDoor
open Go
theorem le_of_sub {a b : TInterval} (h : interval_Subset a b = some true) : Le a b := by
  rw [subset_eq] at h
  have := Option.some.inj h
  simpa [Le] using this
theorem sub_of_le {a b : TInterval} (h : Le a b) : interval_Subset a b = some true := subset_of h
theorem le_ent {a : TInterval} (h : Ok a) : Le a Ent := ⟨h.b.1, h.b.2.2.1⟩
theorem ngv_mono {a b : TInterval} (h : Le a b) : Le (ngv a) (ngv b) := by
  unfold Le ngv at *; simp only; omega
theorem sqv_mono {a b : TInterval} (ha : Ok a) (hb : Ok b) (h : Le a b) {r r' : TInterval} (e : sqv a = some r) (e' : sqv b = some r') : Le r r' := by
  obtain ⟨q, hq, okq⟩ := sqv_ok ha
  obtain rfl := Option.some.inj (hq.symm.trans e)
  unfold sqv at e e'
  by_cases c : b.Lo < 0
  · rw [if_pos c] at e'
    obtain rfl := Option.some.inj e'
    exact le_ent okq
  · rw [if_neg c] at e'
    have c2 : ¬ a.Lo < 0 := by have := h.1; omega
    rw [if_neg c2] at e
    have fa : Fin a := by
      rcases ha with rfl | fa
      · exact absurd (show Ent.Lo < 0 by decide) c2
      · exact fa
    have fb : Fin b := by
      rcases hb with rfl | fb
      · exact absurd (show Ent.Lo < 0 by decide) c
      · exact fb
    have la := fa.le
    have lb := fb.le
    obtain ⟨s, t, u, v, e1, r1, r2, h3, h4⟩ := isqrt_fin (k0 := K32 + 1) (by decide) fa (by omega)
    obtain ⟨s', t', u', v', e1', r1', r2', h3', h4'⟩ := isqrt_fin (k0 := K32 + 1) (by decide) fb (by omega)
    rw [e1] at e
    rw [e1'] at e'
    obtain rfl := Option.some.inj e
    obtain rfl := Option.some.inj e'
    have m1 : mx a.Lo 0 = a.Lo := by unfold mx; split <;> omega
    have m2 : mx b.Lo 0 = b.Lo := by unfold mx; split <;> omega
    rw [m1] at r1
    rw [m2] at r1'
    exact ⟨(Root.mono r1' r1 (by have := h.1; omega)).1, (Root.mono r2 r2' (by have := h.2; omega)).2⟩
theorem mono_two {f : TInterval → TInterval → Option TInterval} {a b a' b' r r' : TInterval} (h : ∃ r r', f a b = some r ∧ f a' b' = some r' ∧ interval_Subset r r' = some true) (e : f a b = some r) (e' : f a' b' = some r') : Le r r' := by
  obtain ⟨q, q', h1, h2, h3⟩ := h
  obtain rfl := Option.some.inj (h1.symm.trans e)
  obtain rfl := Option.some.inj (h2.symm.trans e')
  exact le_of_sub h3
theorem Ex.mono {n : Int} {x x' : List TInterval} {t t' : TInterval} (h : Env n x t) (h' : Env n x' t') (hx : ∀ (i : Nat) (y y' : TInterval), x[i]? = some y → x'[i]? = some y' → Le y y') (ht : Le t t') : ∀ e : Ex, e.ok n → ∀ r r', e.ev x t = some r → e.ev x' t' = some r' → Le r r'
  | .num c, _, r, r', e, e' => by
    obtain rfl := Option.some.inj e
    obtain rfl := Option.some.inj e'
    exact ⟨Int.le_refl _, Int.le_refl _⟩
  | .var k, _, r, r', e, e' => hx _ r r' e e'
  | .time, _, r, r', e, e' => by
    obtain rfl := Option.some.inj e
    obtain rfl := Option.some.inj e'
    exact ht
  | .neg e, he, r, r', e1, e2 => by
    obtain ⟨q, h1, h2⟩ := Ex.ev_ok h e he
    obtain ⟨q', h1', h2'⟩ := Ex.ev_ok h' e he
    have hm := Ex.mono h h' hx ht e he q q' h1 h1'
    simp only [Ex.ev, h1, h1', Option.bind_some, neg_is h2, neg_is h2'] at e1 e2
    obtain rfl := Option.some.inj e1
    obtain rfl := Option.some.inj e2
    exact ngv_mono hm
  | .sqr e, he, r, r', e1, e2 => by
    obtain ⟨q, h1, h2⟩ := Ex.ev_ok h e he
    obtain ⟨q', h1', h2'⟩ := Ex.ev_ok h' e he
    have hm := Ex.mono h h' hx ht e he q q' h1 h1'
    simp only [Ex.ev, h1, h1', Option.bind_some] at e1 e2
    obtain ⟨a, a', k1, k2, k3⟩ := mono_sq h2 h2' hm
    obtain rfl := Option.some.inj (k1.symm.trans e1)
    obtain rfl := Option.some.inj (k2.symm.trans e2)
    exact le_of_sub k3
  | .sqrt e, he, r, r', e1, e2 => by
    obtain ⟨q, h1, h2⟩ := Ex.ev_ok h e he
    obtain ⟨q', h1', h2'⟩ := Ex.ev_ok h' e he
    have hm := Ex.mono h h' hx ht e he q q' h1 h1'
    simp only [Ex.ev, h1, h1', Option.bind_some] at e1 e2
    exact sqv_mono h2 h2' hm e1 e2
  | .bin op a b, he, r, r', e1, e2 => by
    obtain ⟨u, h1, h2⟩ := Ex.ev_ok h a he.2.1
    obtain ⟨u', h1', h2'⟩ := Ex.ev_ok h' a he.2.1
    obtain ⟨v, h3, h4⟩ := Ex.ev_ok h b he.2.2
    obtain ⟨v', h3', h4'⟩ := Ex.ev_ok h' b he.2.2
    have hu := Ex.mono h h' hx ht a he.2.1 u u' h1 h1'
    have hv := Ex.mono h h' hx ht b he.2.2 v v' h3 h3'
    simp only [Ex.ev, h1, h1', h3, h3', Option.bind_some] at e1 e2
    split at e1
    · rename_i c; rw [if_pos c] at e2; exact mono_two (mono_add h2 h4 h2' h4' hu hv) e1 e2
    rename_i c; rw [if_neg c] at e2
    split at e1
    · rename_i c; rw [if_pos c] at e2; exact mono_two (mono_sub h2 h4 h2' h4' hu hv) e1 e2
    rename_i c; rw [if_neg c] at e2
    split at e1
    · rename_i c; rw [if_pos c] at e2; exact mono_two (mono_mul h2 h4 h2' h4' hu hv) e1 e2
    rename_i c; rw [if_neg c] at e2
    exact mono_two (mono_div h2 h4 h2' h4' hu hv) e1 e2
theorem mk_le {n : Nat} {f g : Nat → TInterval} (h : ∀ i, Le (f i) (g i)) : ∀ (i : Nat) (y y' : TInterval), (mk n f)[i]? = some y → (mk n g)[i]? = some y' → Le y y' := by
  intro i y y' h1 h2
  by_cases hi : i < n
  · rw [mk_get _ hi] at h1 h2
    obtain rfl := Option.some.inj h1
    obtain rfl := Option.some.inj h2
    exact h i
  · rw [List.getElem?_eq_none (by rw [mk_len]; omega)] at h1; cases h1
/-- A point of each interval. -/
def pti (f : Nat → TInterval) (l : List Int) (i : Nat) : TInterval := ⟨pt (f i) (fr l i), pt (f i) (fr l i)⟩
theorem pti_ok {f : Nat → TInterval} (hf : ∀ i, Fin (f i)) {l : List Int} (hl : ∀ y ∈ l, 0 ≤ y ∧ y ≤ 65535) (i : Nat) : Fin (pti f l i) ∧ Le (pti f l i) (f i) := by
  have h := (pt_in (.inr (hf i)) (fr_ok hl i)).1
  have hne : f i ≠ Ent := by have := (hf i).ne; simpa using this
  have h2 := h.resolve_left hne
  have hF := hf i
  unfold Fin at hF
  exact ⟨by unfold Fin pti; simp only; omega, h2⟩
theorem pointBox_mk {n : Nat} (hn : n < 1000000) {f : Nat → TInterval} (hf : ∀ i, Fin (f i)) {l : List Int} (hl : ∀ y ∈ l, 0 ≤ y ∧ y ≤ 65535) {k : Nat} (hk : n < k) : armillarylaw15_pointBox k (mk n f) l = some (mk n (pti f l)) := by
  unfold armillarylaw15_pointBox
  rw [pointIn_mk hn f (fun i _ => .inr (hf i)) hl hk, Option.bind_some, rpoint hn _ hk, Option.bind_some]
  congr 1
  exact mk_congr fun i _ => nw_fin (pti_ok hf hl i).1
theorem side_of {k : Nat} {g : TGuard} {x : List TInterval} {t w : TInterval} (h : guard_Eval k ⟨g.F, g.Dir⟩ x t = some w) : guard_Side k g x t = some (if w.Lo > 0 then 1 else if w.Hi < 0 then -1 else 0) := by
  unfold guard_Side
  rw [h, Option.bind_some, sign_eq, Option.bind_some]
theorem point_T {T : Int} (h : -1048576 < T ∧ T < 1048576) : armillaryref02_Point T = some ⟨T, T⟩ := by
  unfold armillaryref02_Point
  rw [refnew_nw (Int.le_refl _), Option.bind_some, nw_fin (by unfold Fin; simp only; omega)]
theorem Pure_GuardSideIsotone : armillarylaw15_GuardSideIsotone.Pure := by
  intro c00 c01 c02 c03 c04 c05 c06 c07 c08 h0 h1 h2 h3 h4 h5 h6 h7 h8
  refine ⟨KK, ?_⟩
  unfold armillarylaw15_GuardSideIsotone
  obtain ⟨g, s, m, e, f, t, b, hs, S⟩ := seg_ok (⟨c00, c01, c02, c03, c04, c05, (⟨c06, c07⟩ : TTimeStep), c08⟩ : TInput) h2 (k := KK) (by decide)
  have hT := S.T
  have hH := S.H
  have hm := S.m1
  have hdep := S.dep
  have hlen := S.len
  have hKK : KK = 4294967496 := rfl
  have hK3 : K32 = 4294967296 := rfl
  have hw : w_i64 (s.T + s.H) = s.T + s.H := w64 (by omega) (by omega)
  have hp := fun i => pti_ok S.bf h8 i
  have E1 := env_mk (m := m) (fun i => .inr (S.bf i)) (t := ⟨s.T, s.T + s.H⟩) (.inr (by unfold Fin; simp only; omega))
  have E2 := env_mk (m := m) (f := pti b c08) (fun i => .inr (hp i).1) (t := ⟨s.T, s.T⟩) (.inr (by unfold Fin; simp only; omega))
  obtain ⟨w, w1, w2, w3⟩ := eval_ex E1 S.eok (by omega) (k := KK) (by omega) (d := g.Dir)
  obtain ⟨a, a1, a2, a3⟩ := eval_ex E2 S.eok (by omega) (k := KK) (by omega) (d := g.Dir)
  have hle : Le a w := Ex.mono E2 E1 (mk_le fun i => (hp i).2) ⟨Int.le_refl _, by simp only; omega⟩ e S.eok a w a2 w2
  rw [← S.gF] at w3 a3
  refine bT saneK ?_
  refine bT hs ?_
  have hpb : armillarylaw15_pointBox KK s.Tube c08 = some (mk m (pti b c08)) := by rw [S.sB]; exact pointBox_mk (by omega) S.bf h8 (by omega)
  refine bT hpb ?_
  have hside : guard_Side KK ⟨g.F, g.Dir⟩ s.Tube ⟨s.T, w_i64 (s.T + s.H)⟩ = some (if w.Lo > 0 then 1 else if w.Hi < 0 then -1 else 0) := by rw [hw, S.sB]; exact side_of w3
  refine bT hside ?_
  refine bT (point_T hT) ?_
  refine bT a3 ?_
  have hev : guard_Eval KK ⟨g.F, g.Dir⟩ s.Tube ⟨s.T, w_i64 (s.T + s.H)⟩ = some w := by rw [hw, S.sB]; exact w3
  refine gT rfl hev ?_
  refine gT rfl (sub_of_le hle) ?_
  have hla := a1.le
  have hl1 := hle.1
  have hl2 := hle.2
  by_cases c1 : w.Lo > 0
  · rw [if_pos c1]
    refine gT (by simp) (point_T hT) ?_
    refine gT (by simp) (side_of a3) ?_
    rw [if_pos (by omega)]
    rfl
  · rw [if_neg c1]
    by_cases c2 : w.Hi < 0
    · rw [if_pos c2]
      refine gT (by simp) (point_T hT) ?_
      refine gT (by simp) (side_of a3) ?_
      rw [if_neg (by omega), if_pos (by omega)]
      rfl
    · rw [if_neg c2]
      refine gF (by simp) ?_
      refine gF (by simp) ?_
      rfl
end Go.Proofs.YtkkodieceehkmaaDoor
