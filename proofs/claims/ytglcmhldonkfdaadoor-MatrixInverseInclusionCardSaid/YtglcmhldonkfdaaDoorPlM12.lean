/- What the program's Inverse comes to. Own work. -/
import Derived.Test.YtglcmhldonkfdaaDoorPlM11
set_option maxRecDepth 10000
set_option linter.unusedVariables false
set_option linter.unusedSimpArgs false
namespace Go.Proofs.YtglcmhldonkfdaaDoor
open Go
def anyE (n : Nat) (f : Nat → TInterval) : Bool := !allB n fun j => !decide (f j = Ent)
theorem anyE_iff {n : Nat} {f : Nat → TInterval} : anyE n f = true ↔ ∃ j, j < n ∧ f j = Ent := by
  unfold anyE
  cases h : allB n fun j => !decide (f j = Ent) with
  | true =>
    have := allB_iff.1 h
    constructor
    · intro x; cases x
    · rintro ⟨j, hj, e⟩; have := this j hj; simp [e] at this
  | false =>
    obtain ⟨j, hj, e⟩ := allB_not.1 h
    exact ⟨fun _ => ⟨j, hj, by simpa using e⟩, fun _ => rfl⟩
theorem anyE_eq {n : Nat} (hn : n < 1000000) (f : Nat → TInterval) {K : Nat} (hK : n < K) : api_Interval_75_s76 K (mk n f) = some (anyE n f) := by
  unfold api_Interval_75_s76 api_Interval_105_s76
  have L := loop_find (fun m x => api_Interval_105_s76.l6 K (mk n f) m x) n (fun j => decide (f j = Ent)) (fun j => (j : Int)) (fun m i hi _ => by
    show api_Interval_105_s76.l6 _ _ (m + 1) _ = _
    rw [api_Interval_105_s76.l6, mk_len, if_pos (dlt hi), if_pos (rng hi), Int.toNat_natCast, mk_get _ hi, Option.bind_some, isEnt, Option.bind_some, wnext (by omega)]) (fun m => by
    show api_Interval_105_s76.l6 _ _ (m + 1) _ = _
    rw [api_Interval_105_s76.l6, mk_len, if_neg (by rw [dnl]; simp)]) hK
  rcases L with ⟨i, hi, hp, _, h⟩ | ⟨hp, h⟩
  · have e : anyE n f = true := anyE_iff.2 ⟨i, hi, by simpa using hp⟩
    rw [e]
    refine bT (bT h rfl) ?_
    rw [decide_eq_true (show (i : Int) ≥ 0 by omega)]
  · have e : anyE n f = false := by
      cases h2 : anyE n f with
      | false => rfl
      | true => obtain ⟨j, hj, e⟩ := anyE_iff.1 h2; have := hp j hj; simp [e] at this
    rw [e]
    exact bT (bT h rfl) rfl
def aug (N : Nat) (f : Nat → Nat → TInterval) (i j : Nat) : TInterval := if j < N then f i j else idn i (j - N)
theorem aug_ok {N : Nat} {f : Nat → Nat → TInterval} (hf : OkM N N f) : OkM N (N + N) (aug N f) := fun i hi j hj => by
  unfold aug; split
  · exact hf i hi j (by assumption)
  · exact (idn_sm _ _).ok
theorem aug_row (N : Nat) (f : Nat → Nat → TInterval) (i : Nat) : mk N (f i) ++ mk N (idn i) = mk (N + N) (aug N f i) := mk_app _ _ _ _
def invR (N : Nat) (f : Nat → Nat → TInterval) : Option (Nat → Nat → TInterval) :=
  match gjR N N 0 (aug N f) with
  | none => none
  | some g => if allB N (fun i => !anyE N fun j => g i (N + j)) = true then some fun i j => g i (N + j) else none
theorem gjR_ok {N M : Nat} (hNM : N ≤ M) : ∀ {d k : Nat} {g g' : Nat → Nat → TInterval}, k + d = N → OkM N M g → gjR N d k g = some g' → OkM N M g'
  | 0, _, _, _, _, h, e => by cases e; exact h
  | d + 1, k, g, g', hk, h, e => by
    rw [gjR] at e
    cases hp : pvS g k (N - k) with
    | none => rw [hp] at e; cases e
    | some p =>
      rw [hp] at e
      have hpp := pvS_some hp
      exact gjR_ok hNM (d := d) (k := k + 1) (by omega) (elm_ok (swp_ok h (by omega) (by omega)) (by omega) (by omega)) e
theorem inv_eq {N : Nat} (h0 : 0 < N) (h6 : N ≤ 6) (f : Nat → Nat → TInterval) (hf : OkM N N f) {K : Nat} (hK : 20 < K) :
    matrix_Inverse K (mm N N f) = some (match invR N f with | none => ([], false) | some g => (mm N N g, true)) := by
  unfold matrix_Inverse
  have hn : N < 1000000 := by omega
  have hao := aug_ok hf
  rw [mm_len, if_pos (n0 hn), Int.toNat_natCast]
  refine bT (v := mm N (N + N) (aug N f)) ?_ ?_
  · refine bT (ident_eq h0 h6 (by omega)) ?_
    refine loop_0 (fun m s x => matrix_Inverse.l137 K (mm N N f) (mm N N idn) m s x) N (fun i => mk N fun a => if a < i then mk (N + N) (aug N f a) else []) _ ?_ (fun m i hi => ?_) (fun m => ?_) (by omega)
    · rw [mk_rep]; exact mk_congr fun a _ => by rw [if_neg (by omega)]
    · show matrix_Inverse.l137 _ _ _ (m + 1) (mk N fun a => if a < i then mk (N + N) (aug N f a) else []) _ = _
      rw [matrix_Inverse.l137, mm_len, if_pos (dlt hi), if_pos (rng hi), Int.toNat_natCast, mm_get _ hi, Option.bind_some, mm_len, if_pos (rng hi), mm_get _ hi, Option.bind_some, cat2 _ _ (by rw [mk_len]; omega) (by rw [mk_len]; omega) (by rw [mk_len]; omega) (by omega), Option.bind_some, mk_len, if_pos (rng hi), mk_get _ hi, Option.bind_some, wnext (by omega), aug_row, mk_set]
      congr 1
      refine mk_congr fun a ha => ?_
      by_cases e : a = i
      · subst e; rw [if_pos rfl, if_pos (by omega)]
      · rw [if_neg e]
        by_cases e2 : a < i
        · rw [if_pos e2, if_pos (by omega)]
        · rw [if_neg e2, if_neg (by omega)]
    · show matrix_Inverse.l137 _ _ _ (m + 1) (mk N fun a => if a < N then mk (N + N) (aug N f a) else []) _ = _
      rw [matrix_Inverse.l137, mm_len, if_neg (by rw [dnl]; simp)]
      refine congrArg some (mk_congr fun a ha => ?_)
      rw [if_pos ha]
  have L := l35_eq (N := N) (M := N + N) (K := K) hn (by omega) (by omega) (by omega) (x1 := mm N N f) (mm_len _ _ _) (mm N (N + N) (aug N f)) N 0 K (aug N f) (by omega) (by omega) hao
  refine bT L ?_
  unfold invR
  cases hg : gjR N N 0 (aug N f) with
  | none => rfl
  | some g =>
    have hgo := gjR_ok (by omega) (by omega) hao hg
    refine bT (loop_ex (fun m s x => matrix_Inverse.l15 K (mm N N f) (mm N (N + N) (aug N f)) (mm N (N + N) g) m s x) N (fun i => mk N fun a => if a < i then mk N (fun j => g a (N + j)) else mk (N + N) (g a)) (fun i => anyE N fun j => g i (N + j)) (([] : List (List TInterval)), false) (mm N N fun i j => g i (N + j)) (fun m i hi => ?_) (fun m => ?_) (by omega)) ?_
    · show matrix_Inverse.l15 _ _ _ _ (m + 1) (mk N fun a => if a < i then mk N (fun j => g a (N + j)) else mk (N + N) (g a)) _ = _
      have hset : (mk N fun a => if a < i then mk N (fun j => g a (N + j)) else mk (N + N) (g a)).set i (mk N fun j => g i (N + j)) = mk N fun a => if a < i + 1 then mk N (fun j => g a (N + j)) else mk (N + N) (g a) := by
        rw [mk_set]
        refine mk_congr fun a ha => ?_
        by_cases e : a = i
        · subst e; rw [if_pos rfl, if_pos (by omega)]
        · rw [if_neg e]
          by_cases e2 : a < i
          · rw [if_pos e2, if_pos (by omega)]
          · rw [if_neg e2, if_neg (by omega)]
      have hdrop : (mk (N + N) (g i)).drop N = mk N fun j => g i (N + j) := by rw [mk_drop, show N + N - N = N by omega]
      rw [matrix_Inverse.l15, mm_len, if_pos (dlt hi), mk_len, if_pos (rng hi), Int.toNat_natCast, mk_get _ hi, Option.bind_some, if_neg (show ¬ i < i by omega), mk_len, if_pos (by omega), if_pos (rng hi), Option.bind_some, Int.toNat_natCast, hdrop, hset, mk_len, if_pos (rng hi), mk_get _ hi, Option.bind_some, if_pos (show i < i + 1 by omega), anyE_eq hn _ (by omega), Option.bind_some, wnext (by omega)]
    · show matrix_Inverse.l15 _ _ _ _ (m + 1) (mk N fun a => if a < N then mk N (fun j => g a (N + j)) else mk (N + N) (g a)) _ = _
      rw [matrix_Inverse.l15, mm_len, if_neg (by rw [dnl]; simp)]
      refine congrArg (fun x => some (Sum.inr x)) (mk_congr fun a ha => ?_)
      rw [if_pos ha]
    · rcases Bool.eq_false_or_eq_true (allB N fun i => !anyE N fun j => g i (N + j)) with h | h <;> simp only [h] <;> rfl
end Go.Proofs.YtglcmhldonkfdaaDoor
