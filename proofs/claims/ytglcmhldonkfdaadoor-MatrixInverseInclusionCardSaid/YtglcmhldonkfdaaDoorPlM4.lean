/- What the reference's small functions on matrices come to. Own work. -/
import Derived.Test.YtglcmhldonkfdaaDoorPlM3
set_option maxRecDepth 10000
set_option linter.unusedVariables false
set_option linter.unusedSimpArgs false
namespace Go.Proofs.YtglcmhldonkfdaaDoor
open Go
theorem mm_congr {α : Type} {n m : Nat} {f g : Nat → Nat → α} (h : ∀ i, i < n → ∀ j, j < m → f i j = g i j) : mm n m f = mm n m g :=
  mk_congr fun i hi => mk_congr fun j hj => h i hi j hj
theorem mm_get {α : Type} {n m i : Nat} (f : Nat → Nat → α) (h : i < n) : (mm n m f)[i]? = some (mk m (f i)) := mk_get _ h
theorem mm_len {α : Type} (n m : Nat) (f : Nat → Nat → α) : (mm n m f).length = n := mk_len _ _
theorem mm_set {α : Type} (n m : Nat) (f : Nat → Nat → α) (i j : Nat) (v : α) : (mm n m f).set i ((mk m (f i)).set j v) = mm n m fun a c => if a = i ∧ c = j then v else f a c := by
  unfold mm
  rw [mk_set, mk_set]
  refine mk_congr fun a ha => ?_
  by_cases e : a = i
  · subst e; rw [if_pos rfl]; exact mk_congr fun c hc => by simp only [true_and]
  · rw [if_neg e]; exact mk_congr fun c hc => (if_neg (fun h => e h.1)).symm
theorem dim_eq {x : Int} (h : 0 ≤ x ∧ x ≤ 255) : ∃ n : Nat, armillaryref04_Dim x = some ((n + 1 : Nat) : Int) ∧ n < 4 := by
  unfold armillaryref04_Dim
  have hm : Int.tmod x 4 = x % 4 := Int.tmod_eq_emod_of_nonneg h.1
  refine ⟨(x % 4).toNat, ?_, by omega⟩
  rw [w64 (x := x) (by omega) (by omega), hm, w64 (by omega) (by omega)]
  congr 1
  omega
theorem pt_eq (x : Int) : armillaryref02_Point x = some (nw x x) := by
  unfold armillaryref02_Point; rw [refnew_nw (Int.le_refl _)]; rfl
theorem one_pt : nw 65536 65536 = ⟨65536, 65536⟩ := rfl
theorem rident {N : Nat} (h0 : 0 < N) (h6 : N ≤ 6) {k0 : Nat} (hk : N < k0) : armillaryref04_Identity k0 (N : Int) = some (mm N N idn) := by
  unfold armillaryref04_Identity
  rw [if_neg (by simp; omega)]
  refine bT (loop_0 (fun k s x => armillaryref04_Identity.l11 k0 (N : Int) k s x) N (fun j => mm j N idn) _ rfl (fun k j hj => ?_) (fun k => ?_) hk) rfl
  · show armillaryref04_Identity.l11 _ _ (k + 1) _ _ = _
    have e : (List.replicate N (⟨0, 0⟩ : TInterval)).set j ⟨65536, 65536⟩ = mk N (idn j) := by
      rw [mk_rep, mk_set]
      refine mk_congr fun c hc => ?_
      unfold idn
      by_cases h : c = j
      · subst h; simp
      · rw [if_neg h, if_neg (fun e => h e.symm)]
    rw [armillaryref04_Identity.l11, if_pos (dlt hj), if_pos (n0 (by omega)), pt_eq, Option.bind_some, Int.toNat_natCast, Int.toNat_natCast, mk_rep, mk_len, if_pos (rng hj), mk_get _ hj, Option.bind_some, if_pos (by rw [mm_len]; omega), wnext (by omega), ← mk_rep, one_pt, e]
    unfold mm
    rw [← mk_succ]
  · show armillaryref04_Identity.l11 _ _ (k + 1) _ _ = _
    rw [armillaryref04_Identity.l11, if_neg (by rw [dnl]; simp)]
theorem fill_row {α : Type} (l : Nat → List (List α) → Int → Option (List (List α))) (n i L : Nat) (hi : i < n) (E z : Nat → Nat → α) (hE : ∀ i j, L ≤ i * n + j → E i j = z i j)
    (hs : ∀ (k : Nat) (acc : List (List α)) (j : Nat) (row : List α), j < n → i * n + j < L → acc.length = n → acc[i]? = some row → row.length = n → l (k + 1) acc (j : Int) = l k (acc.set i (row.set j (E i j))) ((j + 1 : Nat) : Int))
    (he : ∀ (k : Nat) (acc : List (List α)) (j : Nat), j ≤ n → ¬ (j < n ∧ i * n + j < L) → l (k + 1) acc (j : Int) = some acc) {k : Nat} (hk : n < k) :
    l k (mm n n fun a c => if a < i then E a c else z a c) 0 = some (mm n n fun a c => if a < i + 1 then E a c else z a c) := by
  refine loop_0 l (min n (L - i * n)) (fun j => mm n n fun a c => if a < i ∨ a = i ∧ c < j then E a c else z a c) _ (mm_congr fun a ha c hc => ?_) (fun k j hj => ?_) (fun k => ?_) (by omega)
  · by_cases h : a < i
    · rw [if_pos h, if_pos (.inl h)]
    · rw [if_neg h, if_neg (by omega)]
  · show l (k + 1) (mm n n fun a c => if a < i ∨ a = i ∧ c < j then E a c else z a c) _ = _
    rw [hs k _ j _ (by omega) (by omega) (mm_len _ _ _) (mm_get _ hi) (mk_len _ _), mm_set]
    congr 1
    refine mm_congr fun a ha c hc => ?_
    by_cases e : a = i ∧ c = j
    · rw [if_pos e, if_pos (by omega), e.1, e.2]
    · rw [if_neg e]
      by_cases h : a < i ∨ a = i ∧ c < j
      · rw [if_pos h, if_pos (by omega)]
      · rw [if_neg h, if_neg (by omega)]
  · show l (k + 1) (mm n n fun a c => if a < i ∨ a = i ∧ c < min n (L - i * n) then E a c else z a c) _ = _
    rw [he _ _ _ (by omega) (by omega)]
    congr 1
    refine mm_congr fun a ha c hc => ?_
    by_cases h : a < i + 1
    · rw [if_pos h]
      by_cases h2 : a < i ∨ a = i ∧ c < min n (L - i * n)
      · rw [if_pos h2]
      · rw [if_neg h2]
        obtain rfl : a = i := by omega
        exact (hE _ _ (by omega)).symm
    · rw [if_neg h, if_neg (by omega)]
theorem fill_eq {α : Type} (l : Nat → List (List α) → Int → Option (List (List α))) (n : Nat) (E z : Nat → Nat → α)
    (hs : ∀ (k i : Nat), i < n → l (k + 1) (mm n n fun a c => if a < i then E a c else z a c) (i : Int) = l k (mm n n fun a c => if a < i + 1 then E a c else z a c) ((i + 1 : Nat) : Int))
    (he : ∀ (k : Nat) (acc : List (List α)), l (k + 1) acc (n : Int) = some acc) {k : Nat} (hk : n < k) :
    l k (mm n n z) 0 = some (mm n n E) := by
  refine loop_0 l n (fun i => mm n n fun a c => if a < i then E a c else z a c) _ (mm_congr fun a _ c _ => by rw [if_neg (by omega)]) hs (fun k => ?_) hk
  show l (k + 1) (mm n n fun a c => if a < n then E a c else z a c) _ = _
  rw [he]
  congr 1
  exact mm_congr fun a ha c _ => if_pos ha
def smI (a : TInterval) : TInterval := ⟨mn (Int.tmod a.Lo 16777216) (Int.tmod a.Hi 16777216), mx (Int.tmod a.Lo 16777216) (Int.tmod a.Hi 16777216)⟩
def Sm (a : TInterval) : Prop := -16777216 < a.Lo ∧ a.Lo ≤ a.Hi ∧ a.Hi < 16777216
theorem smI_sm (a : TInterval) : Sm (smI a) := by
  have h1 := tm_bound a.Lo
  have h2 := tm_bound a.Hi
  have h3 := mnl (Int.tmod a.Lo 16777216) (Int.tmod a.Hi 16777216)
  have h4 := mxl (Int.tmod a.Lo 16777216) (Int.tmod a.Hi 16777216)
  unfold Sm smI
  simp only
  omega
theorem Sm.fin {a : TInterval} (h : Sm a) : Fin a := by unfold Sm at h; unfold Fin; omega
theorem Sm.ok {a : TInterval} (h : Sm a) : Ok a := .inr h.fin
theorem small_eq (a : TInterval) : armillaryref02_Small a = some (smI a) := rfl
theorem idn_sm (i j : Nat) : Sm (idn i j) := by unfold idn Sm; split <;> simp
def elt (s : TInterval → TInterval) (l : List TInterval) (n i j : Nat) : TInterval := if i * n + j < l.length then s (l.getD (i * n + j) default) else idn i j
theorem elt_P {P : TInterval → Prop} {s : TInterval → TInterval} (hs : ∀ a, P (s a)) (hi : ∀ i j, P (idn i j)) (l : List TInterval) (n i j : Nat) : P (elt s l n i j) := by
  unfold elt; split
  · exact hs _
  · exact hi _ _
theorem w_ij {i j n : Nat} (hn : n ≤ 6) (hi : i < n) (hj : j ≤ n) : w_i64 (w_i64 ((i : Int) * (n : Int)) + (j : Int)) = ((i * n + j : Nat) : Int) := by
  have h : i * n ≤ 6 * 6 := Nat.mul_le_mul (by omega) hn
  have e : (i : Int) * (n : Int) = ((i * n : Nat) : Int) := (Int.natCast_mul _ _).symm
  rw [e, w64 (x := ((i * n : Nat) : Int)) (by omega) (by omega), w64 (by omega) (by omega)]
  omega
theorem small_mm {N : Nat} (h0 : 0 < N) (h6 : N ≤ 6) (l : List TInterval) {k0 : Nat} (hk : N < k0) : armillaryref04_Small k0 l (N : Int) = some (mm N N (elt smI l N)) := by
  unfold armillaryref04_Small
  rw [rident h0 h6 hk, Option.bind_some]
  refine bT (fill_eq (fun k s x => armillaryref04_Small.l10 k0 l (N : Int) (mm N N idn) k s x) N (elt smI l N) idn (fun k i hi => ?_) (fun k acc => ?_) hk) rfl
  · show armillaryref04_Small.l10 _ _ _ _ (k + 1) _ _ = _
    rw [armillaryref04_Small.l10, if_pos (dlt hi)]
    refine bT (fill_row (fun k s x => armillaryref04_Small.l18 k0 l (N : Int) (mm N N idn) _ (i : Int) k s x) N i l.length hi (elt smI l N) idn (fun i j h => by unfold elt; rw [if_neg (by omega)]) (fun k acc j row hj hL ha hr hw => ?_) (fun k acc j hj hx => ?_) hk) (by rw [wnext (by omega)])
    · show armillaryref04_Small.l18 _ _ _ _ _ _ (k + 1) _ _ = _
      have hg : l[i * N + j]? = some (l.getD (i * N + j) default) := by rw [List.getElem?_eq_getElem hL]; simp [List.getD, hL]
      have hw' : row[j]? = some (row.getD j default) := by rw [List.getElem?_eq_getElem (by omega)]; simp [List.getD, show j < row.length by omega]
      rw [armillaryref04_Small.l18, w_ij h6 hi (by omega), if_pos (by rw [dlt hj, dlt hL]; rfl), ha, if_pos (rng hi), Int.toNat_natCast, hr, Option.bind_some, if_pos (rng hL), Int.toNat_natCast, hg, Option.bind_some, small_eq, Option.bind_some, hw, if_pos (rng hj), Int.toNat_natCast, hw', Option.bind_some, wnext (by omega)]
      unfold elt
      rw [if_pos hL]
    · show armillaryref04_Small.l18 _ _ _ _ _ _ (k + 1) _ _ = _
      rw [armillaryref04_Small.l18, w_ij h6 hi hj, if_neg (by simp; omega)]
  · show armillaryref04_Small.l10 _ _ _ _ (k + 1) _ _ = _
    rw [armillaryref04_Small.l10, if_neg (by rw [dnl]; simp)]
def vec (s : TInterval → TInterval) (l : List TInterval) (i : Nat) : TInterval := if i < l.length then s (l.getD i default) else ⟨0, 0⟩
theorem vec_P {P : TInterval → Prop} {s : TInterval → TInterval} (hs : ∀ a, P (s a)) (hz : P ⟨0, 0⟩) (l : List TInterval) (i : Nat) : P (vec s l i) := by
  unfold vec; split
  · exact hs _
  · exact hz
theorem gD {α : Type} (l : List α) (d : α) {i : Nat} (h : i < l.length) : l[i]? = some (l.getD i d) := by rw [List.getElem?_eq_getElem h]; simp [List.getD, h]
theorem smallBox_eq {N : Nat} (hn : N < 1000000) (l : List TInterval) {k0 : Nat} (hk : N < k0) : armillaryref04_SmallBox k0 l (N : Int) = some (mk N (vec smI l)) := by
  unfold armillaryref04_SmallBox
  rw [if_pos (n0 hn), Int.toNat_natCast]
  refine bT (loop_0 (fun k s x => armillaryref04_SmallBox.l10 k0 l (N : Int) k s x) (min N l.length) (fun j => mk N fun i => if i < j then vec smI l i else ⟨0, 0⟩) (mk N (vec smI l)) ?_ (fun k j hj => ?_) (fun k => ?_) (by omega)) rfl
  · rw [mk_rep]; exact mk_congr fun i _ => by rw [if_neg (by omega)]
  · show armillaryref04_SmallBox.l10 _ _ _ (k + 1) _ _ = _
    have hj1 : j < N := by omega
    have hj2 : j < l.length := by omega
    rw [armillaryref04_SmallBox.l10, if_pos (by rw [dlt hj1, dlt hj2]; rfl), if_pos (rng hj2), Int.toNat_natCast, gD l default hj2, Option.bind_some, small_eq, Option.bind_some, mk_len, if_pos (rng hj1), mk_get _ hj1, Option.bind_some, wnext (by omega), mk_set]
    congr 1
    refine mk_congr fun i hi => ?_
    by_cases e : i = j
    · subst e; rw [if_pos rfl, if_pos (by omega), vec, if_pos hj2]
    · rw [if_neg e]
      by_cases h : i < j
      · rw [if_pos h, if_pos (by omega)]
      · rw [if_neg h, if_neg (by omega)]
  · show armillaryref04_SmallBox.l10 _ _ _ (k + 1) _ _ = _
    rw [armillaryref04_SmallBox.l10, if_neg (by simp; omega)]
    congr 1
    refine mk_congr fun i hi => ?_
    by_cases h : i < min N l.length
    · rw [if_pos h]
    · rw [if_neg h, vec, if_neg (by omega)]
end Go.Proofs.YtglcmhldonkfdaaDoor
