/- GuardMatchesReference: the plain law. Own work. -/
import Derived.Test.YtkkodieceehkmaaDoorPlG6
set_option maxRecDepth 100000
set_option linter.unusedVariables false
set_option linter.unusedSimpArgs false
namespace Go.Proofs.YtkkodieceehkmaaDoor
open Go
theorem same_self {l : List TNode} (hl : l.length < 1000) {k : Nat} (hk : 1000 < k) : armillaryref07_Same k l l = some true := by
  unfold armillaryref07_Same
  rw [if_neg (by simp)]
  have hs : ∀ (m i : Nat), i < l.length → armillaryref07_Same.l8 k l l (m + 1) (i : Int) = if (fun _ : Nat => true) i = true then armillaryref07_Same.l8 k l l m ((i + 1 : Nat) : Int) else some (.inl false) := fun m i hi => by
    rw [armillaryref07_Same.l8, if_pos (dlt hi), if_pos (rng hi), Int.toNat_natCast, getD_some hi, Option.bind_some, if_pos (rng hi), Option.bind_some, Option.bind_some, if_neg (by simp), wk (by omega) (by omega)]
    rfl
  have he : ∀ m : Nat, armillaryref07_Same.l8 k l l (m + 1) (l.length : Int) = some (.inr ()) := fun m => by rw [armillaryref07_Same.l8, if_neg (by simp)]
  have h := loop_all (armillaryref07_Same.l8 k l l) l.length (fun _ => true) hs he (k := k) (by omega)
  rw [h, Option.bind_some, if_pos (allB_iff.2 fun _ _ => rfl)]
theorem gsame {g : TGuard} (hl : g.F.length < 1000) {k : Nat} (hk : 1000 < k) : armillaryref15_Same k g g = some true := by
  unfold armillaryref15_Same
  rw [if_pos (by simp), same_self hl hk, Option.bind_some]
  simp
theorem concat2 {a b : List TNode} (ha : 0 < a.length ∧ a.length < 1000) (hb : 0 < b.length ∧ b.length < 1000) (k : Nat) : api_Node_38 (k + 5) [a, b] = some (a ++ b) := by
  unfold api_Node_38
  have c0 : decide ((0 : Int) < ((([a, b] : List (List TNode)).length : Nat) : Int)) = true := by simp
  have c1 : decide ((1 : Int) < ((([a, b] : List (List TNode)).length : Nat) : Int)) = true := by simp
  have c2 : ¬ (decide ((2 : Int) < ((([a, b] : List (List TNode)).length : Nat) : Int)) = true) := by simp
  have r0 : 0 ≤ (0 : Int) ∧ (0 : Int) < ((([a, b] : List (List TNode)).length : Nat) : Int) := by simp
  have r1 : 0 ≤ (1 : Int) ∧ (1 : Int) < ((([a, b] : List (List TNode)).length : Nat) : Int) := by simp
  have g0 : ([a, b] : List (List TNode))[(0 : Int).toNat]? = some a := rfl
  have g1 : ([a, b] : List (List TNode))[(1 : Int).toNat]? = some b := rfl
  have w1 : w_i64 ((0 : Int) + 1) = 1 := rfl
  have w2 : w_i64 ((1 : Int) + 1) = 2 := rfl
  have s1 : w_i64 ((0 : Int) + (a.length : Int)) = (a.length : Int) := by rw [wk (by omega) (by omega)]; omega
  have s2 : w_i64 ((a.length : Int) + (b.length : Int)) = ((a.length + b.length : Nat) : Int) := by rw [wk (by omega) (by omega)]; omega
  have h1 : api_Node_38.l25 (k + 5) [a, b] (k + 5) 0 0 = some ((a.length + b.length : Nat) : Int) := by
    rw [api_Node_38.l25, if_pos c0, if_pos r0, g0, Option.bind_some, s1, w1, if_neg (by simp), api_Node_38.l25, if_pos c1, if_pos r1, g1, Option.bind_some, s2, w2, if_neg (by simp <;> omega), api_Node_38.l25, if_neg c2]
  rw [h1, Option.bind_some]
  have hg : api_Node_73 ((a.length + b.length : Nat) : Int) = some [] := by
    unfold api_Node_73
    have e : w_i64 (((a.length + b.length : Nat) : Int) - w_i64 (0 - 0)) = ((a.length + b.length : Nat) : Int) := by rw [show w_i64 (0 - 0) = 0 from rfl, wk (by omega) (by omega)]; omega
    rw [e, if_neg (by simp <;> omega), if_pos (by simp <;> omega), if_pos (by omega)]
  rw [hg, Option.bind_some]
  have h2 : api_Node_38.l13 (k + 5) [a, b] ((a.length + b.length : Nat) : Int) [] (k + 5) [] 0 = some (a ++ b) := by
    rw [api_Node_38.l13, if_pos c0, if_pos r0, g0, Option.bind_some, if_pos (by simp only [List.length_nil]; omega), w1, api_Node_38.l13, if_pos c1, if_pos r1, g1, Option.bind_some, if_pos (by simp only [List.length_append, List.length_nil]; omega), w2, api_Node_38.l13, if_neg c2, List.nil_append]
  rw [h2]; rfl
theorem reverse_eq {g : TGuard} {e : Ex} (hg : g.F = e.code) (hl : e.code.length < 100) (k : Nat) : ∃ r : TGuard, guard_Reverse (k + 5) g = some r ∧ armillaryref15_Reverse g = some r ∧ r.F.length < 1000 := by
  obtain ⟨x, r, hx, ho, hr⟩ := e.head
  have hF : g.F = x :: r := by rw [hg, hx]
  have hlen : (x :: r).length < 100 := by rw [← hx]; exact hl
  have c0 : ((decide (((x :: r).length : Int) > 0)) == true) = true := by simp <;> omega
  have r0 : 0 ≤ (0 : Int) ∧ (0 : Int) < (((x :: r).length : Nat) : Int) := by simp only [List.length_cons]; omega
  have g0 : (x :: r)[(0 : Int).toNat]? = some x := rfl
  have hpos : 0 < (x :: r).length := by simp
  by_cases c : x.Op = 4
  · have cc : (decide (((x :: r).length : Int) > 0) && (x.Op == 4)) = true := by simp [c] <;> omega
    have c1 : 0 ≤ (1 : Int) ∧ (1 : Int) ≤ (((x :: r).length : Nat) : Int) := by omega
    refine ⟨⟨(x :: r).drop (1 : Int).toNat, w_i64 (0 - g.Dir)⟩, ?_, ?_, ?_⟩
    · unfold guard_Reverse
      rw [hF, if_pos (fun _ => r0), if_pos c0, g0, Option.bind_some, if_pos cc, if_pos c1]
    · unfold armillaryref15_Reverse
      rw [hF, if_pos (fun _ => r0), if_pos c0, g0, Option.bind_some, if_pos cc, if_pos c1]
    · show ((x :: r).drop 1).length < 1000
      simp only [List.length_drop]; omega
  · have cc : ¬ ((decide (((x :: r).length : Int) > 0) && (x.Op == 4)) = true) := by simp [c]
    refine ⟨⟨[(⟨4, 0, (⟨0, 0⟩ : TInterval)⟩ : TNode)] ++ (x :: r), w_i64 (0 - g.Dir)⟩, ?_, ?_, ?_⟩
    · unfold guard_Reverse
      rw [hF, if_pos (fun _ => r0), if_pos c0, g0, Option.bind_some, if_neg cc, concat2 ⟨by simp, by simp⟩ ⟨hpos, by omega⟩ k, Option.bind_some]
    · unfold armillaryref15_Reverse
      rw [hF, if_pos (fun _ => r0), if_pos c0, g0, Option.bind_some, if_neg cc, if_pos ⟨hpos, by omega⟩]
    · show ([_] ++ (x :: r)).length < 1000
      simp only [List.length_append, List.length_cons, List.length_nil] at hlen ⊢; omega
theorem rup_eq (w a b : TInterval) : armillaryref15_upward w a b = some (up w a b) := by
  unfold armillaryref15_upward up
  by_cases h : a.Hi < 0 ∧ 0 ≤ b.Lo
  · rw [if_pos (by simpa using h), if_pos h]
  · rw [if_neg (by simpa using h), if_neg h]
    by_cases h1 : w.Hi < 0 ∨ 0 ≤ w.Lo
    · rw [if_pos (by simpa using h1), if_pos h1]
    · rw [if_neg (by simpa using h1), if_neg h1]
theorem rdown_eq (w a b : TInterval) : armillaryref15_downward w a b = some (up (ngv w) (ngv a) (ngv b)) := by
  unfold armillaryref15_downward up ngv
  simp only
  by_cases h : 0 < a.Lo ∧ b.Hi ≤ 0
  · rw [if_pos (by simpa using h), if_pos (show -a.Lo < 0 ∧ 0 ≤ -b.Hi by omega)]
  · rw [if_neg (by simpa using h), if_neg (show ¬ (-a.Lo < 0 ∧ 0 ≤ -b.Hi) by omega)]
    by_cases h1 : 0 < w.Lo ∨ w.Hi ≤ 0
    · rw [if_pos (by simpa using h1), if_pos (show -w.Lo < 0 ∨ 0 ≤ -w.Hi by omega)]
    · rw [if_neg (by simpa using h1), if_neg (show ¬ (-w.Lo < 0 ∨ 0 ≤ -w.Hi) by omega)]
theorem rcross {k : Nat} {g : TGuard} {s : TSegment} {w a b : TInterval} (hd : -1 ≤ g.Dir ∧ g.Dir ≤ 1) (hT : armillaryref02_Point s.T = some ⟨s.T, s.T⟩) (hH : armillaryref02_Point (w_i64 (s.T + s.H)) = some ⟨w_i64 (s.T + s.H), w_i64 (s.T + s.H)⟩)
    (h1 : armillaryref15_Eval k ⟨g.F, g.Dir⟩ s.Tube ⟨s.T, w_i64 (s.T + s.H)⟩ = some w) (h2 : armillaryref15_Eval k ⟨g.F, g.Dir⟩ s.From ⟨s.T, s.T⟩ = some a) (h3 : armillaryref15_Eval k ⟨g.F, g.Dir⟩ s.To ⟨w_i64 (s.T + s.H), w_i64 (s.T + s.H)⟩ = some b) :
    armillaryref15_Crossing k g s = some (cross g.Dir w a b) := by
  unfold armillaryref15_Crossing
  rw [h1, Option.bind_some, hT, Option.bind_some, h2, Option.bind_some, hH, Option.bind_some, h3, Option.bind_some, rup_eq, Option.bind_some, rdown_eq, Option.bind_some]
  unfold cross
  by_cases d1 : 0 < g.Dir
  · rw [if_pos (by simp; omega), if_pos d1]
  rw [if_neg (by simp; omega), if_neg d1]
  by_cases d2 : g.Dir < 0
  · rw [if_pos (by simp; omega), if_pos d2]
  rw [if_neg (by simp; omega), if_neg d2]
  by_cases c : up w a b = 2 ∨ up (ngv w) (ngv a) (ngv b) = 2
  · rw [if_pos (by simpa using c), if_pos c]
  rw [if_neg (by simpa using c), if_neg c]
  by_cases c0 : up w a b = 0 ∧ up (ngv w) (ngv a) (ngv b) = 0
  · rw [if_pos (by simpa using c0), if_pos c0]
  · rw [if_neg (by simpa using c0), if_neg c0]
abbrev KM : Nat := 4294977296
theorem saneM : armillarylaw15_sanity KM = some true := sane 4294977196
theorem Pure_GuardMatchesReference : armillarylaw15_GuardMatchesReference.Pure := by
  intro c00 c01 c02 c03 c04 c05 c06 c07 c08 c10 c11 c20 h0 h1 h2 h3 h4 h5 h6 h7 h8 h9 h10 h11
  refine ⟨KM, ?_⟩
  unfold armillarylaw15_GuardMatchesReference
  obtain ⟨g, s, m, e, f, t, b, hs, S⟩ := seg_ok (⟨c00, c01, c02, c03, c04, c05, (⟨c06, c07⟩ : TTimeStep), c08⟩ : TInput) h2 (k := KM) (by decide)
  have hT := S.T
  have hH := S.H
  have hm := S.m1
  have hdep := S.dep
  have hlen := S.len
  have hKM : KM = 4294977296 := rfl
  have hK3 : K32 = 4294967296 := rfl
  have hw : w_i64 (s.T + s.H) = s.T + s.H := w64 (by omega) (by omega)
  have tok : ∀ {x y : Int}, (-1048576 < x ∧ x ≤ y ∧ y < 1179649) → Fin (⟨x, y⟩ : TInterval) := fun h => by unfold Fin; simp only; omega
  have E1 := env_mk (m := m) (fun i => .inr (S.bf i)) (t := ⟨s.T, s.T + s.H⟩) (.inr (tok (by omega)))
  have E2 := env_mk (m := m) (fun i => .inr (S.ff i)) (t := ⟨s.T, s.T + s.H⟩) (.inr (tok (by omega)))
  obtain ⟨w, w1, w2, w3⟩ := eval_ex E1 S.eok (by omega) (k := KM) (by omega) (d := g.Dir)
  obtain ⟨u, u1, u2, u3⟩ := eval_ex E2 S.eok (by omega) (k := KM) (by omega) (d := g.Dir)
  have rev : ∀ {x : List TInterval} {t r : TInterval}, Env (m : Int) x t → e.ev x t = some r → armillaryref15_Eval KM ⟨g.F, g.Dir⟩ x t = some r := fun hE hr => by
    unfold armillaryref15_Eval
    rw [S.gF, e.reval hE S.eok (by omega) KM (by omega) _ hr]; rfl
  have hgl : g.F.length < 1000 := by rw [S.gF]; omega
  have hval : guard_Valid KM ⟨g.F, g.Dir⟩ (s.From.length : Int) = some true := by
    rw [(gvalid (g := ⟨g.F, g.Dir⟩) hgl (by omega)).1, S.sF, mk_len]
    have : VE (m : Int) g.F := by rw [S.gF]; exact code_VE S.eok (by omega)
    have hd := S.gD
    simp only [this, and_true]
    congr 1
    rw [decide_eq_true_eq]
    omega
  refine bT saneM ?_
  refine bT hs ?_
  have hfirst : ∃ v8 v9 : Bool, (if ((decide ((c10.length : Int) < 300)) == true) = true then guard_Valid KM (⟨c10, c11⟩ : TGuard) (w_i64 c20) else some default) = some v8 ∧ (if ((decide ((c10.length : Int) < 300)) == true) = true then armillaryref15_Valid KM (⟨c10, c11⟩ : TGuard) (w_i64 c20) else some default) = some v9 ∧ v8 = v9 := by
    by_cases c : c10.length < 300
    · have := gvalid (g := ⟨c10, c11⟩) (show c10.length < 1000 by omega) (n := w_i64 c20) (k := KM) (by omega)
      rw [if_pos (by simp; omega), if_pos (by simp; omega)]
      exact ⟨_, _, this.1, this.2, rfl⟩
    · rw [if_neg (by simp; omega), if_neg (by simp; omega)]
      exact ⟨_, _, rfl, rfl, rfl⟩
  obtain ⟨v8, v9, e8, e9, rfl⟩ := hfirst
  refine bT e8 ?_
  refine bT e9 ?_
  refine iF (by simp) ?_
  refine gT rfl hval ?_
  have hev : guard_Eval KM ⟨g.F, g.Dir⟩ s.Tube ⟨s.T, w_i64 (s.T + s.H)⟩ = some w := by rw [hw, S.sB, S.gF]; exact w3
  have hevF : guard_Eval KM ⟨g.F, g.Dir⟩ s.From ⟨s.T, w_i64 (s.T + s.H)⟩ = some u := by rw [hw, S.sF, S.gF]; exact u3
  have hrv : armillaryref15_Eval KM ⟨g.F, g.Dir⟩ s.Tube ⟨s.T, w_i64 (s.T + s.H)⟩ = some w := by rw [hw, S.sB]; exact rev E1 w2
  have hrvF : armillaryref15_Eval KM ⟨g.F, g.Dir⟩ s.From ⟨s.T, w_i64 (s.T + s.H)⟩ = some u := by rw [hw, S.sF]; exact rev E2 u2
  refine gT rfl hev ?_
  refine gT rfl hrv ?_
  have heq : ((w.Lo == w.Lo) && ((w.Hi == w.Hi) && true)) = true := by simp
  have hside := side_of hevF
  have hrside : armillaryref15_Side KM ⟨g.F, g.Dir⟩ s.From ⟨s.T, w_i64 (s.T + s.H)⟩ = some (if u.Lo > 0 then 1 else if u.Hi < 0 then -1 else 0) := by
    unfold armillaryref15_Side
    rw [hrvF, Option.bind_some, rsign_eq, sign_eq, Option.bind_some]
  rw [heq]
  refine gT rfl hside ?_
  refine gT rfl hrside ?_
  refine bT (v := true) (by simp) ?_
  refine iT rfl ?_
  obtain ⟨r, r1, r2, r3⟩ := reverse_eq (g := ⟨g.F, g.Dir⟩) S.gF (by omega) (4294977291)
  refine bT r1 ?_
  refine bT r2 ?_
  refine bT (gsame r3 (by omega)) ?_
  obtain ⟨w', u', v', w1', u1', v1', ew, eu, ev, hc⟩ := cross_at (k := KM) (by decide) S.gF S.eok S.dep S.len S.sF S.sT S.sB (fun i => .inr (S.ff i)) (fun i => .inr (S.tf i)) (fun i => .inr (S.bf i)) S.T (by omega)
  refine gT rfl (hc g.Dir) ?_
  have pt1 : armillaryref02_Point s.T = some ⟨s.T, s.T⟩ := point_T hT
  have pt2 : armillaryref02_Point (w_i64 (s.T + s.H)) = some ⟨w_i64 (s.T + s.H), w_i64 (s.T + s.H)⟩ := by
    rw [hw]
    unfold armillaryref02_Point
    rw [refnew_nw (Int.le_refl _), Option.bind_some, nw_fin (tok (by omega))]
  have F2 := env_mk (m := m) (fun i => .inr (S.ff i)) (t := ⟨s.T, s.T⟩) (.inr (tok (by omega)))
  have F3 := env_mk (m := m) (fun i => .inr (S.tf i)) (t := ⟨s.T + s.H, s.T + s.H⟩) (.inr (tok (by omega)))
  have hrc := rcross (k := KM) (g := ⟨g.F, g.Dir⟩) (s := s) S.gD pt1 pt2 (by rw [hw, S.sB]; exact rev E1 ew) (by rw [S.sF]; exact rev F2 eu) (by rw [hw, S.sT]; exact rev F3 ev)
  refine gT rfl hrc ?_
  simp
end Go.Proofs.YtkkodieceehkmaaDoor
