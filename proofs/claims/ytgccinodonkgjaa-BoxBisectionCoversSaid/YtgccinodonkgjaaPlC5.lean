/- Boxes: widths and halves. Own work. -/
import Derived.Test.YtgccinodonkgjaaPlBoxIntersectIsGreatestLowerBound
set_option maxRecDepth 10000
set_option linter.unusedVariables false
set_option linter.unusedSimpArgs false
namespace Go.Proofs.Ytgccinodonkgjaa
open Go
structure IsMax (n : Nat) (w : Nat → Int) (M : Int) : Prop where
  le : ∀ i, i < n → w i ≤ M
  at_ : ∃ i, i < n ∧ w i = M
theorem IsMax.uniq {n : Nat} {w : Nat → Int} {M M' : Int} (h : IsMax n w M) (h' : IsMax n w M') : M = M' := by
  obtain ⟨i, hi, e⟩ := h.at_
  obtain ⟨j, hj, e'⟩ := h'.at_
  have h1 := h.le j hj
  have h2 := h'.le i hi
  omega
theorem rwidth_ok {a : TInterval} (h : Ok a) : armillaryref02_Width a = some (a.Hi - a.Lo) := by
  have := width_ok h
  unfold interval_Width at this
  unfold armillaryref02_Width
  exact this
def wd (f : Nat → TInterval) (i : Nat) : Int := (f i).Hi - (f i).Lo
theorem wd_nn {f : Nat → TInterval} {i : Nat} (h : Ok (f i)) : 0 ≤ wd f i := by have := h.b; unfold wd; omega
theorem rwidth {n : Nat} (h1 : 1 ≤ n) (hn : n < 1000000) {f : Nat → TInterval} (hf : ∀ i, i < n → Ok (f i)) {k : Nat} (hk : n < k) : ∃ M, armillaryref03_Width k (mk n f) = some M ∧ IsMax n (wd f) M := by
  have key : ∀ (r i k' : Nat) (x : Int), i + r = n → r < k' → (∀ j, j < i → wd f j ≤ x) → (x = 0 ∨ ∃ j, j < i ∧ wd f j = x) → 0 ≤ x → ∃ M, armillaryref03_Width.l9 k (mk n f) k' x (i : Int) = some M ∧ IsMax n (wd f) M := by
    intro r
    induction r with
    | zero =>
      intro i k' x hi hk' a1 a2 a3
      obtain ⟨k', rfl⟩ : ∃ m, k' = m + 1 := ⟨k' - 1, by omega⟩
      obtain rfl : i = n := by omega
      refine ⟨x, ?_, a1, ?_⟩
      · rw [armillaryref03_Width.l9]
        simp only [mk_len, dnl, Bool.false_eq_true, if_false]
      · rcases a2 with e | e
        · refine ⟨0, by omega, ?_⟩
          have := a1 0 (by omega)
          have := wd_nn (hf 0 (by omega))
          omega
        · exact e
    | succ r ih =>
      intro i k' x hi hk' a1 a2 a3
      obtain ⟨k', rfl⟩ : ∃ m, k' = m + 1 := ⟨k' - 1, by omega⟩
      have hi' : i < n := by omega
      have hm := mxl x (wd f i)
      have hw := wd_nn (hf i hi')
      rw [armillaryref03_Width.l9]
      simp only [mk_len, dlt hi', decide_true, if_true, rng hi', and_self, Int.toNat_natCast, mk_get _ hi', Option.bind_some, wnext (Nat.lt_trans hi' hn), rwidth_ok (hf i hi')]
      refine ih (i + 1) k' (mx x (wd f i)) (by omega) (by omega) (fun j hj => ?_) ?_ (by omega)
      · by_cases e : j = i
        · subst e; exact hm.2.1
        · have := a1 j (by omega); omega
      · rcases hm.2.2 with e | e
        · rcases a2 with e2 | ⟨j, hj, e2⟩
          · left; omega
          · right; exact ⟨j, by omega, by omega⟩
        · right; exact ⟨i, by omega, e.symm⟩
  obtain ⟨M, e, hM⟩ := key n 0 k 0 (by omega) hk (fun j hj => absurd hj (Nat.not_lt_zero _)) (.inl rfl) (Int.le_refl _)
  refine ⟨M, ?_, hM⟩
  unfold armillaryref03_Width
  rw [show ((0 : Nat) : Int) = 0 from rfl] at e
  rw [e]; rfl
theorem bmax {n : Nat} (h1 : 1 ≤ n) (hn : n < 1000000) (w : Nat → Int) {k : Nat} (hk : n < k) : ∃ M, slices_Max_int64_int64 k (mk n w) = some M ∧ IsMax n w M := by
  have key : ∀ (r i k' : Nat) (x : Int), i + r = n → r < k' → (∀ j, j < i → w j ≤ x) → (∃ j, j < i ∧ w j = x) → ∃ M, slices_Max_int64_int64.l12 k (mk n w) (w 0) k' x (i : Int) = some M ∧ IsMax n w M := by
    intro r
    induction r with
    | zero =>
      intro i k' x hi hk' a1 a2
      obtain ⟨k', rfl⟩ : ∃ m, k' = m + 1 := ⟨k' - 1, by omega⟩
      obtain rfl : i = n := by omega
      refine ⟨x, ?_, a1, a2⟩
      rw [slices_Max_int64_int64.l12]
      simp only [mk_len, dnl, Bool.false_eq_true, if_false]
    | succ r ih =>
      intro i k' x hi hk' a1 a2
      obtain ⟨k', rfl⟩ : ∃ m, k' = m + 1 := ⟨k' - 1, by omega⟩
      have hi' : i < n := by omega
      have hm := mxl x (w i)
      rw [slices_Max_int64_int64.l12]
      simp only [mk_len, dlt hi', decide_true, if_true, rng hi', and_self, Int.toNat_natCast, mk_get _ hi', Option.bind_some, wnext (Nat.lt_trans hi' hn)]
      refine ih (i + 1) k' (mx x (w i)) (by omega) (by omega) (fun j hj => ?_) ?_
      · by_cases e : j = i
        · subst e; exact hm.2.1
        · have := a1 j (by omega); omega
      · rcases hm.2.2 with e | e
        · obtain ⟨j, hj, e2⟩ := a2
          exact ⟨j, by omega, by omega⟩
        · exact ⟨i, by omega, e.symm⟩
  obtain ⟨M, e, hM⟩ := key (n - 1) 1 k (w 0) (by omega) (by omega) (fun j hj => by have : j = 0 := by omega
                                                                                   subst this; exact Int.le_refl _) ⟨0, by omega, rfl⟩
  refine ⟨M, ?_, hM⟩
  unfold slices_Max_int64_int64
  rw [mk_len, if_neg (by simp; omega), if_pos (by omega), show ((0 : Int).toNat) = 0 from rfl, mk_get w (show 0 < n by omega), Option.bind_some]
  rw [show ((1 : Nat) : Int) = 1 from rfl] at e
  rw [e]; rfl
theorem bwidth {n : Nat} (h1 : 1 ≤ n) (hn : n < 1000000) {f : Nat → TInterval} (hf : ∀ i, i < n → Ok (f i)) {k : Nat} (hk : n < k) : ∃ M, box_Width k (mk n f) = some M ∧ IsMax n (wd f) M := by
  obtain ⟨M, e, hM⟩ := bmax h1 hn (wd f) hk
  refine ⟨M, ?_, hM⟩
  unfold box_Width
  rw [mapWidth hn f hk hf, Option.bind_some, show (mk n fun i => (f i).Hi - (f i).Lo) = mk n (wd f) from rfl, e]; rfl
theorem widest {n : Nat} (h1 : 1 ≤ n) (hn : n < 1000000) {f : Nat → TInterval} (hf : ∀ i, i < n → Ok (f i)) {k : Nat} (hk : n < k) : ∃ i : Nat, i < n ∧ box_WidestAxis k (mk n f) = some (i : Int) ∧ armillaryref03_WidestAxis k (mk n f) = some (i : Int) := by
  obtain ⟨M, eM, hM⟩ := bwidth h1 hn hf hk
  obtain ⟨M', eM', hM'⟩ := rwidth h1 hn hf hk
  obtain rfl := hM.uniq hM'
  have l1 := loop_find (slices_Index_int64_int64.l6 k (mk n (wd f)) M) n (fun i => M == wd f i) (fun i => (i : Int)) (fun m i hi => by
      rw [slices_Index_int64_int64.l6]
      simp only [mk_len, dlt hi, decide_true, if_true, rng hi, and_self, Int.toNat_natCast, mk_get _ hi, Option.bind_some, wnext (Nat.lt_trans hi hn)]) (fun m => by
      rw [slices_Index_int64_int64.l6]
      simp only [mk_len, dnl, Bool.false_eq_true, if_false]) hk
  have l2 := loop_find (armillaryref03_WidestAxis.l6 k (mk n f)) n (fun i => wd f i == M) (fun i => (i : Int)) (fun m i hi => by
      rw [armillaryref03_WidestAxis.l6]
      simp only [mk_len, dlt hi, decide_true, if_true, rng hi, and_self, Int.toNat_natCast, mk_get _ hi, Option.bind_some, wnext (Nat.lt_trans hi hn), rwidth_ok (hf i hi), eM']
      rfl) (fun m => by
      rw [armillaryref03_WidestAxis.l6]
      simp only [mk_len, dnl, Bool.false_eq_true, if_false]) hk
  obtain ⟨a, ha, ea⟩ := hM.at_
  rcases l1 with ⟨i, hi, p1, p2, e1⟩ | ⟨hno, _⟩
  · rcases l2 with ⟨j, hj, q1, q2, e2⟩ | ⟨hno, _⟩
    · have hij : i = j := by
        rcases Nat.lt_trichotomy i j with h | h | h
        · have := q2 i h
          simp only [beq_iff_eq] at p1
          simp [p1] at this
        · exact h
        · have := p2 j h
          simp only [beq_iff_eq] at q1
          simp [q1] at this
      subst hij
      refine ⟨i, hi, ?_, ?_⟩
      · unfold box_WidestAxis slices_Index_int64_int64
        rw [mapWidth hn f hk hf, Option.bind_some, eM, Option.bind_some, show (mk n fun i => (f i).Hi - (f i).Lo) = mk n (wd f) from rfl, e1]; rfl
      · unfold armillaryref03_WidestAxis
        rw [e2]; rfl
    · have := hno a ha
      simp [ea] at this
  · have := hno a ha
    simp [ea] at this
/-! ### Halves -/
def mid (a : TInterval) : Int := (a.Lo + a.Hi) / 2
def lowF (f : Nat → TInterval) (k : Nat) (i : Nat) : TInterval := if i = k then ⟨(f k).Lo, mid (f k)⟩ else f i
def highF (f : Nat → TInterval) (k : Nat) (i : Nat) : TInterval := if i = k then ⟨mid (f k), (f k).Hi⟩ else f i
theorem mk_set {α : Type} {n k : Nat} (hk : k < n) (f : Nat → α) (v : α) : (mk n f).set k v = mk n fun i => if i = k then v else f i := by
  apply List.ext_getElem?
  intro j
  rw [List.getElem?_set]
  by_cases e : k = j
  · subst e
    rw [if_pos rfl, if_pos (by rw [mk_len]; exact hk), mk_get _ hk, if_pos rfl]
  · rw [if_neg e]
    by_cases hj : j < n
    · rw [mk_get _ hj, mk_get _ hj, if_neg (fun h => e h.symm)]
    · rw [List.getElem?_eq_none (by rw [mk_len]; omega), List.getElem?_eq_none (by rw [mk_len]; omega)]
theorem bis_out {n : Nat} {f : Nat → TInterval} {k : Int} (h : k < 0 ∨ (n : Int) ≤ k) : box_Bisect (mk n f) k = some ([], [], 1) ∧ armillaryref03_Bisect (mk n f) k = some ([], [], 1) := by
  have hb : (decide (k < 0) || decide (k ≥ (n : Int))) = true := by simp only [Bool.or_eq_true, decide_eq_true_eq]; omega
  constructor
  · unfold box_Bisect
    rw [mk_len, hb]
    exact iT (fun hh => by simp at hh) (gF (by simp) (gF (by simp) (iT rfl rfl)))
  · unfold armillaryref03_Bisect
    rw [mk_len, hb]
    exact iT (fun hh => by simp at hh) (gF (by simp) (gF (by simp) (iT rfl rfl)))
theorem bis_ent {n k : Nat} (hk : k < n) {f : Nat → TInterval} (h : f k = Ent) : box_Bisect (mk n f) (k : Int) = some ([], [], 1) ∧ armillaryref03_Bisect (mk n f) (k : Int) = some ([], [], 1) := by
  have hb : (decide ((k : Int) < 0) || decide ((k : Int) ≥ (n : Int))) = false := by rw [Bool.or_eq_false_iff]; exact ⟨decide_eq_false (by omega), decide_eq_false (by omega)⟩
  constructor
  · unfold box_Bisect
    rw [mk_len, hb, Int.toNat_natCast]
    exact iT (fun _ => rng hk) (gT rfl (mk_get f hk) (gT rfl (by rw [h]; exact isEnt_ent) (iT rfl rfl)))
  · unfold armillaryref03_Bisect
    rw [mk_len, hb, Int.toNat_natCast]
    exact iT (fun _ => rng hk) (gT rfl (mk_get f hk) (gT rfl (by rw [h]; exact ref_isEnt_ent) (iT rfl rfl)))
theorem bis_in {n k : Nat} (hn : n < 1000000) (hk : k < n) {f : Nat → TInterval} (h : Fin (f k)) : box_Bisect (mk n f) (k : Int) = some (mk n (lowF f k), mk n (highF f k), 0) ∧ armillaryref03_Bisect (mk n f) (k : Int) = some (mk n (lowF f k), mk n (highF f k), 0) := by
  have hb : (decide ((k : Int) < 0) || decide ((k : Int) ≥ (n : Int))) = false := by rw [Bool.or_eq_false_iff]; exact ⟨decide_eq_false (by omega), decide_eq_false (by omega)⟩
  have hcl : api_Interval_79 (mk n f) = some (mk n f) := by
    unfold api_Interval_79
    rw [mk_len, if_pos (by omega), if_pos (by omega)]
  have e1 : (mk n f).set k ⟨(f k).Lo, (((f k).Lo + (f k).Hi) / 2)⟩ = mk n (lowF f k) := mk_set hk f _
  have e2 : (mk n f).set k ⟨(((f k).Lo + (f k).Hi) / 2), (f k).Hi⟩ = mk n (highF f k) := mk_set hk f _
  constructor
  · unfold box_Bisect
    rw [mk_len, hb, Int.toNat_natCast]
    refine iT (fun _ => rng hk) (gT rfl (mk_get f hk) (gT rfl (isEnt_fin h) (iF Bool.false_ne_true (bT hcl (bT hcl (iT (rng hk) (bT (mk_get f hk) (bT (mid_fin (.inr h)) ?_))))))))
    rw [mk_len]
    refine iT (rng hk) (bT (mk_get f hk) (iT (rng hk) (bT (mk_get f hk) ?_)))
    rw [e1, e2]
  · unfold armillaryref03_Bisect
    rw [mk_len, hb, Int.toNat_natCast]
    refine iT (fun _ => rng hk) (gT rfl (mk_get f hk) (gT rfl (ref_isEnt_fin h) (iF Bool.false_ne_true (iT ⟨by omega, hn⟩ (iT ⟨by omega, hn⟩ (iT (rng hk) (bT (mk_get f hk) (bT ((rmid_eq (.inr h)).trans (mid_fin (.inr h))) ?_))))))))
    refine iT (rng hk) (bT (mk_get f hk) (iT (rng hk) (bT (mk_get f hk) (iT (rng hk) (bT (mk_get f hk) (iT (rng hk) (bT (mk_get f hk) ?_)))))))
    rw [e1, e2]
end Go.Proofs.Ytgccinodonkgjaa
