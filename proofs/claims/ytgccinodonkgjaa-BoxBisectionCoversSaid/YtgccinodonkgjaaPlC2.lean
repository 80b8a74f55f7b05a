/- Boxes as lists told by index; loops over them. Own work. -/
import Derived.Test.YtgccinodonkgjaaPlC1
set_option maxRecDepth 10000
set_option linter.unusedVariables false
set_option linter.unusedSimpArgs false
namespace Go.Proofs.Ytgccinodonkgjaa
open Go
def mk {α : Type} (n : Nat) (f : Nat → α) : List α := (List.range n).map f
theorem mk_len {α : Type} (n : Nat) (f : Nat → α) : (mk n f).length = n := by simp [mk]
theorem mk_get {α : Type} {n i : Nat} (f : Nat → α) (h : i < n) : (mk n f)[i]? = some (f i) := by simp [mk, h]
theorem mk_succ {α : Type} (n : Nat) (f : Nat → α) : mk (n + 1) f = mk n f ++ [f n] := by simp [mk, List.range_succ]
theorem mk_congr {α : Type} {n : Nat} {f g : Nat → α} (h : ∀ i, i < n → f i = g i) : mk n f = mk n g := by
  unfold mk
  exact List.map_congr_left fun i hi => h i (List.mem_range.1 hi)
theorem mk_of {α : Type} (l : List α) (d : α) : l = mk l.length fun i => l.getD i d := by
  apply List.ext_getElem?
  intro i
  by_cases h : i < l.length
  · rw [mk_get _ h, List.getElem?_eq_getElem h]
    simp [List.getD, h]
  · rw [List.getElem?_eq_none (by omega), List.getElem?_eq_none (by rw [mk_len]; omega)]
def allB (n : Nat) (p : Nat → Bool) : Bool := (List.range n).all p
theorem allB_iff {n : Nat} {p : Nat → Bool} : allB n p = true ↔ ∀ i, i < n → p i = true := by simp [allB]
theorem allB_not {n : Nat} {p : Nat → Bool} : allB n p = false ↔ ∃ i, i < n ∧ p i = false := by simp [allB]
theorem wnext {i : Nat} (h : i < 1000000) : w_i64 ((i : Int) + 1) = ((i + 1 : Nat) : Int) := by
  rw [w64 (by omega) (by omega)]; omega
theorem loop_map {β : Type} (l : Nat → List β → Int → Option (List β)) (n : Nat) (f : Nat → β) (hn : n < 1000000)
    (hs : ∀ (k : Nat) (acc : List β) (i : Nat), i < n → acc.length < 1000000 → l (k + 1) acc (i : Int) = l k (acc ++ [f i]) ((i + 1 : Nat) : Int))
    (he : ∀ (k : Nat) (acc : List β), l (k + 1) acc (n : Int) = some acc) {k : Nat} (hk : n < k) : l k [] 0 = some (mk n f) := by
  have key : ∀ (r i k : Nat), i + r = n → r < k → l k (mk i f) (i : Int) = some (mk n f) := by
    intro r
    induction r with
    | zero =>
      intro i k hi hk
      obtain ⟨k, rfl⟩ : ∃ m, k = m + 1 := ⟨k - 1, by omega⟩
      obtain rfl : i = n := by omega
      exact he k _
    | succ r ih =>
      intro i k hi hk
      obtain ⟨k, rfl⟩ : ∃ m, k = m + 1 := ⟨k - 1, by omega⟩
      rw [hs k _ i (by omega) (by rw [mk_len]; omega), ← mk_succ]
      exact ih (i + 1) k (by omega) (by omega)
  exact key n 0 k (by omega) hk
theorem find_none {n : Nat} {p : Nat → Bool} (h : ∀ i, i < n → p i = false) : (List.range n).find? p = none := by
  rw [List.find?_eq_none]; intro i hi; rw [h i (List.mem_range.1 hi)]; simp
theorem loop_find {γ : Type} (l : Nat → Int → Option (γ ⊕ Unit)) (n : Nat) (p : Nat → Bool) (v : Nat → γ)
    (hs : ∀ (k i : Nat), i < n → l (k + 1) (i : Int) = if p i = true then some (.inl (v i)) else l k ((i + 1 : Nat) : Int))
    (he : ∀ k : Nat, l (k + 1) (n : Int) = some (.inr ())) {k : Nat} (hk : n < k) :
    (∃ i, i < n ∧ p i = true ∧ (∀ j, j < i → p j = false) ∧ l k 0 = some (.inl (v i))) ∨ ((∀ i, i < n → p i = false) ∧ l k 0 = some (.inr ())) := by
  have key : ∀ (r i k : Nat), i + r = n → r < k → (∀ j, j < i → p j = false) →
      (∃ i', i' < n ∧ p i' = true ∧ (∀ j, j < i' → p j = false) ∧ l k (i : Int) = some (.inl (v i'))) ∨ ((∀ i, i < n → p i = false) ∧ l k (i : Int) = some (.inr ())) := by
    intro r
    induction r with
    | zero =>
      intro i k hi hk hp
      obtain ⟨k, rfl⟩ : ∃ m, k = m + 1 := ⟨k - 1, by omega⟩
      obtain rfl : i = n := by omega
      exact .inr ⟨hp, he k⟩
    | succ r ih =>
      intro i k hi hk hp
      obtain ⟨k, rfl⟩ : ∃ m, k = m + 1 := ⟨k - 1, by omega⟩
      rw [hs k i (by omega)]
      by_cases h : p i = true
      · rw [if_pos h]
        exact .inl ⟨i, by omega, h, hp, rfl⟩
      · rw [if_neg h]
        refine ih (i + 1) k (by omega) (by omega) fun j hj => ?_
        by_cases e : j = i
        · subst e; simpa using h
        · exact hp j (by omega)
  exact key n 0 k (by omega) hk (fun j hj => absurd hj (Nat.not_lt_zero _))
theorem loop_all (l : Nat → Int → Option (Bool ⊕ Unit)) (n : Nat) (p : Nat → Bool)
    (hs : ∀ (k i : Nat), i < n → l (k + 1) (i : Int) = if p i = true then l k ((i + 1 : Nat) : Int) else some (.inl false))
    (he : ∀ k : Nat, l (k + 1) (n : Int) = some (.inr ())) {k : Nat} (hk : n < k) : l k 0 = some (if allB n p = true then .inr () else .inl false) := by
  rcases loop_find l n (fun i => !p i) (fun _ => false) (fun k i hi => by rw [hs k i hi]; cases p i <;> rfl) he hk with ⟨i, hi, hp, _, h⟩ | ⟨hp, h⟩
  · have : allB n p = false := allB_not.2 ⟨i, hi, by simpa using hp⟩
    rw [h, this]; rfl
  · have : allB n p = true := allB_iff.2 fun i hi => by simpa using hp i hi
    rw [h, this]; rfl
theorem dlt {i n : Nat} (h : i < n) : decide ((i : Int) < (n : Int)) = true := decide_eq_true (by omega)
theorem dnl (n : Nat) : decide ((n : Int) < (n : Int)) = false := decide_eq_false (by omega)
theorem rng {i n : Nat} (h : i < n) : 0 ≤ (i : Int) ∧ (i : Int) < (n : Int) := ⟨by omega, by omega⟩

theorem notif {α : Type} (b : Bool) (X Y : α) : (if (!b) = true then X else Y) = if b = true then Y else X := by cases b <;> rfl
theorem loop_set {β : Type} (l : Nat → List β → Int → Option (List β)) (n : Nat) (f : Nat → β) (z : β)
    (hs : ∀ (k : Nat) (acc : List β) (i : Nat), i < n → acc.length = n → l (k + 1) acc (i : Int) = l k (acc.set i (f i)) ((i + 1 : Nat) : Int))
    (he : ∀ (k : Nat) (acc : List β), l (k + 1) acc (n : Int) = some acc) {k : Nat} (hk : n < k) : l k (List.replicate n z) 0 = some (mk n f) := by
  have key : ∀ (r i k : Nat), i + r = n → r < k → l k (mk n fun j => if j < i then f j else z) (i : Int) = some (mk n f) := by
    intro r
    induction r with
    | zero =>
      intro i k hi hk
      obtain ⟨k, rfl⟩ : ∃ m, k = m + 1 := ⟨k - 1, by omega⟩
      obtain rfl : i = n := by omega
      rw [he]
      congr 1
      exact mk_congr fun j hj => by rw [if_pos hj]
    | succ r ih =>
      intro i k hi hk
      obtain ⟨k, rfl⟩ : ∃ m, k = m + 1 := ⟨k - 1, by omega⟩
      rw [hs k _ i (by omega) (mk_len _ _)]
      have : (mk n fun j => if j < i then f j else z).set i (f i) = mk n fun j => if j < i + 1 then f j else z := by
        apply List.ext_getElem?
        intro j
        rw [List.getElem?_set]
        by_cases e : i = j
        · subst e
          rw [if_pos rfl, if_pos (by rw [mk_len]; omega), mk_get _ (by omega), if_pos (by omega)]
        · rw [if_neg e]
          by_cases hj : j < n
          · rw [mk_get _ hj, mk_get _ hj]
            congr 1
            by_cases h1 : j < i
            · rw [if_pos h1, if_pos (by omega)]
            · rw [if_neg h1, if_neg (by omega)]
          · rw [List.getElem?_eq_none (by rw [mk_len]; omega), List.getElem?_eq_none (by rw [mk_len]; omega)]
      rw [this]
      exact ih (i + 1) k (by omega) (by omega)
  have h0 : List.replicate n z = mk n fun j => if j < 0 then f j else z := by
    apply List.ext_getElem?
    intro j
    by_cases hj : j < n
    · rw [mk_get _ hj]; simp [hj]
    · rw [List.getElem?_eq_none (by simp; omega), List.getElem?_eq_none (by rw [mk_len]; omega)]
  rw [h0]
  exact key n 0 k (by omega) hk
theorem loop_fold {S : Type} (l : Nat → S → Int → Option S) (n : Nat) (g : Nat → S → S) (Inv : Nat → S → Prop)
    (hs : ∀ (k : Nat) (s : S) (i : Nat), i < n → Inv i s → l (k + 1) s (i : Int) = l k (g i s) ((i + 1 : Nat) : Int) ∧ Inv (i + 1) (g i s))
    (he : ∀ (k : Nat) (s : S), l (k + 1) s (n : Int) = some s) {k : Nat} (hk : n < k) (s0 : S) (h0 : Inv 0 s0) : l k s0 0 = some ((List.range n).foldl (fun s i => g i s) s0) ∧ Inv n ((List.range n).foldl (fun s i => g i s) s0) := by
  have key : ∀ (r i k : Nat) (s : S), i + r = n → r < k → s = (List.range i).foldl (fun s i => g i s) s0 → Inv i s → l k s (i : Int) = some ((List.range n).foldl (fun s i => g i s) s0) ∧ Inv n ((List.range n).foldl (fun s i => g i s) s0) := by
    intro r
    induction r with
    | zero =>
      intro i k s hi hk hs' hI
      obtain ⟨k, rfl⟩ : ∃ m, k = m + 1 := ⟨k - 1, by omega⟩
      obtain rfl : i = n := by omega
      rw [he, ← hs']
      exact ⟨rfl, hI⟩
    | succ r ih =>
      intro i k s hi hk hs' hI
      obtain ⟨k, rfl⟩ : ∃ m, k = m + 1 := ⟨k - 1, by omega⟩
      obtain ⟨h1, h2⟩ := hs k s i (by omega) hI
      rw [h1]
      exact ih (i + 1) k _ (by omega) (by omega) (by rw [List.range_succ, List.foldl_append, ← hs']; rfl) h2
  exact key n 0 k s0 (by omega) hk rfl h0
theorem beqI (a b : TInterval) : ((a.Lo == b.Lo) && ((a.Hi == b.Hi) && true)) = decide (a = b) := by
  obtain ⟨x, y⟩ := a
  obtain ⟨u, v⟩ := b
  by_cases h1 : x = u <;> by_cases h2 : y = v <;> simp [h1, h2]
/-- An interval extended by d on both sides. -/
def infl (d : Int) (a : TInterval) : TInterval := if a = Ent then a else nw (a.Lo - d) (a.Hi + d)
theorem binfl {a : TInterval} (h : Ok a) {d : Int} (hd : 0 ≤ d ∧ d ≤ 4294967296) : box_Inflate_1 a d = some (infl d a) := by
  unfold box_Inflate_1 infl
  rw [isEnt]
  have h1 := h.wlo
  have h2 := h.whi
  unfold Wid at h1 h2
  by_cases e : a = Ent
  · simp [e]
  · simp only [Option.bind_some, e, decide_false, Bool.false_eq_true, if_false]
    rw [w64 (by omega) (by omega), w64 (by omega) (by omega), new_eq]; rfl
theorem rinfl {a : TInterval} (h : Ok a) {d : Int} (hd : 0 ≤ d ∧ d ≤ 4294967296) : w_i64 (a.Lo - d) = a.Lo - d ∧ w_i64 (a.Hi + d) = a.Hi + d := by
  have h1 := h.wlo
  have h2 := h.whi
  unfold Wid at h1 h2
  exact ⟨w64 (by omega) (by omega), w64 (by omega) (by omega)⟩
/-! ### The reference's loops -/
def subB (a b : TInterval) : Bool := decide (b.Lo ≤ a.Lo) && decide (a.Hi ≤ b.Hi)
def hullI (a b : TInterval) : TInterval := ⟨mn a.Lo b.Lo, mx a.Hi b.Hi⟩
theorem rsubset {n : Nat} (hn : n < 1000000) (f g : Nat → TInterval) {k : Nat} (hk : n < k) : armillaryref03_Subset k (mk n f) (mk n g) = some (allB n (fun i => subB (f i) (g i))) := by
  unfold armillaryref03_Subset
  rw [loop_all (armillaryref03_Subset.l6 k (mk n f) (mk n g)) n (fun i => subB (f i) (g i)) (fun m i hi => ?_) (fun m => ?_) hk]
  · cases allB n (fun i => subB (f i) (g i)) <;> rfl
  · rw [armillaryref03_Subset.l6]
    simp only [mk_len, dlt hi, decide_true, if_true, rng hi, and_self, Int.toNat_natCast, mk_get _ hi, Option.bind_some, wnext (Nat.lt_trans hi hn), armillaryref02_Subset, subB]
    exact notif _ _ _
  · rw [armillaryref03_Subset.l6]
    simp only [mk_len, dnl, Bool.false_eq_true, if_false]
theorem rhull {n : Nat} (hn : n < 1000000) (f g : Nat → TInterval) {k : Nat} (hk : n < k) : armillaryref03_Hull k (mk n f) (mk n g) = some (mk n (fun i => hullI (f i) (g i))) := by
  unfold armillaryref03_Hull
  rw [loop_map (armillaryref03_Hull.l9 k (mk n f) (mk n g)) n (fun i => hullI (f i) (g i)) hn (fun m acc i hi ha => ?_) (fun m acc => ?_) hk]
  · rfl
  · rw [armillaryref03_Hull.l9]
    simp only [mk_len, dlt hi, decide_true, if_true, rng hi, and_self, Int.toNat_natCast, mk_get _ hi, Option.bind_some, wnext (Nat.lt_trans hi hn), ha, armillaryref02_Hull, hullI]
  · rw [armillaryref03_Hull.l9]
    simp only [mk_len, dnl, Bool.false_eq_true, if_false]
theorem rvalid {n : Nat} (hn : n < 1000000) (f : Nat → TInterval) {k : Nat} (hk : n < k) : armillaryref03_Valid k (mk n f) = some (allB n (fun i => decide (Ok (f i))) && (decide ((n : Int) ≥ 1) && decide ((n : Int) ≤ 6))) := by
  unfold armillaryref03_Valid
  rw [loop_all (armillaryref03_Valid.l6 k (mk n f)) n (fun i => decide (Ok (f i))) (fun m i hi => ?_) (fun m => ?_) hk]
  · rw [mk_len]; cases allB n (fun i => decide (Ok (f i))) <;> rfl
  · rw [armillaryref03_Valid.l6]
    simp only [mk_len, dlt hi, decide_true, if_true, rng hi, and_self, Int.toNat_natCast, mk_get _ hi, Option.bind_some, wnext (Nat.lt_trans hi hn), valid_eq]
    exact notif _ _ _
  · rw [armillaryref03_Valid.l6]
    simp only [mk_len, dnl, Bool.false_eq_true, if_false]
theorem rpoint {n : Nat} (hn : n < 1000000) (p : Nat → Int) {k : Nat} (hk : n < k) : armillaryref03_Point k (mk n p) = some (mk n (fun i => nw (p i) (p i))) := by
  unfold armillaryref03_Point
  rw [loop_map (armillaryref03_Point.l9 k (mk n p)) n (fun i => nw (p i) (p i)) hn (fun m acc i hi ha => ?_) (fun m acc => ?_) hk]
  · rfl
  · rw [armillaryref03_Point.l9]
    simp only [mk_len, dlt hi, decide_true, if_true, rng hi, and_self, Int.toNat_natCast, mk_get _ hi, Option.bind_some, wnext (Nat.lt_trans hi hn), ha, armillaryref02_Point, refnew_nw (Int.le_refl _)]
  · rw [armillaryref03_Point.l9]
    simp only [mk_len, dnl, Bool.false_eq_true, if_false]
theorem rcontains {n : Nat} (hn : n < 1000000) (f : Nat → TInterval) (p : Nat → Int) {k : Nat} (hk : n < k) : armillaryref03_Contains k (mk n f) (mk n p) = some (allB n (fun i => decide (In (f i) (p i)))) := by
  unfold armillaryref03_Contains
  rw [loop_all (armillaryref03_Contains.l6 k (mk n f) (mk n p)) n (fun i => decide (In (f i) (p i))) (fun m i hi => ?_) (fun m => ?_) hk]
  · cases allB n (fun i => decide (In (f i) (p i))) <;> rfl
  · rw [armillaryref03_Contains.l6]
    simp only [mk_len, dlt hi, decide_true, if_true, rng hi, and_self, Int.toNat_natCast, mk_get _ hi, Option.bind_some, wnext (Nat.lt_trans hi hn), rcont_eq, cont_eq]
    exact notif _ _ _
  · rw [armillaryref03_Contains.l6]
    simp only [mk_len, dnl, Bool.false_eq_true, if_false]
theorem same_mk {n : Nat} (hn : n < 1000000) (f g : Nat → TInterval) {k : Nat} (hk : n < k) : armillaryref03_Same k (mk n f) (mk n g) = some (allB n (fun i => decide (f i = g i))) := by
  unfold armillaryref03_Same
  rw [loop_all (armillaryref03_Same.l8 k (mk n f) (mk n g)) n (fun i => decide (f i = g i)) (fun m i hi => ?_) (fun m => ?_) hk]
  · rw [if_neg (by simp [mk_len])]; cases allB n (fun i => decide (f i = g i)) <;> rfl
  · rw [armillaryref03_Same.l8]
    simp only [mk_len, dlt hi, decide_true, if_true, rng hi, and_self, Int.toNat_natCast, mk_get _ hi, Option.bind_some, wnext (Nat.lt_trans hi hn), beqI]
    exact notif _ _ _
  · rw [armillaryref03_Same.l8]
    simp only [mk_len, dnl, Bool.false_eq_true, if_false]
theorem rmid {n : Nat} (hn : n < 1000000) (f : Nat → TInterval) {k : Nat} (hk : n < k) (hf : ∀ i, i < n → Ok (f i)) : armillaryref03_Mid k (mk n f) = some (mk n (fun i => ((f i).Lo + (f i).Hi) / 2)) := by
  unfold armillaryref03_Mid
  rw [loop_map (armillaryref03_Mid.l9 k (mk n f)) n (fun i => ((f i).Lo + (f i).Hi) / 2) hn (fun m acc i hi ha => ?_) (fun m acc => ?_) hk]
  · rfl
  · rw [armillaryref03_Mid.l9]
    simp only [mk_len, dlt hi, decide_true, if_true, rng hi, and_self, Int.toNat_natCast, mk_get _ hi, Option.bind_some, wnext (Nat.lt_trans hi hn), ha, rmid_eq (hf i hi), mid_fin (hf i hi)]
  · rw [armillaryref03_Mid.l9]
    simp only [mk_len, dnl, Bool.false_eq_true, if_false]
theorem rinflate {n : Nat} (hn : n < 1000000) (f : Nat → TInterval) (d : Int) {k : Nat} (hk : n < k) (hf : ∀ i, i < n → Ok (f i)) (hd : 0 ≤ d ∧ d ≤ 4294967296) : armillaryref03_Inflate k (mk n f) d = some (mk n (fun i => infl d (f i))) := by
  unfold armillaryref03_Inflate
  rw [loop_map (armillaryref03_Inflate.l9 k (mk n f) d) n (fun i => infl d (f i)) hn (fun m acc i hi ha => ?_) (fun m acc => ?_) hk]
  · rfl
  · rw [armillaryref03_Inflate.l9]
    have hw := rinfl (hf i hi) hd
    have hn2 : armillaryref02_New ((f i).Lo - d) ((f i).Hi + d) = some (nw ((f i).Lo - d) ((f i).Hi + d)) := refnew_nw (by have := (hf i hi).b; omega)
    simp only [mk_len, dlt hi, decide_true, if_true, rng hi, and_self, Int.toNat_natCast, mk_get _ hi, Option.bind_some, wnext (Nat.lt_trans hi hn), ha, ref_isEnt, hw.1, hw.2, hn2]
    unfold infl
    by_cases e : f i = Ent
    · simp [e]
    · simp [e]
  · rw [armillaryref03_Inflate.l9]
    simp only [mk_len, dnl, Bool.false_eq_true, if_false]
/-! ### The program's loops -/
theorem bcontains {n : Nat} (hn : n < 1000000) (f : Nat → TInterval) (p : Nat → Int) {k : Nat} (hk : n < k) : box_Contains k (mk n f) (mk n p) = some (allB n (fun i => decide (In (f i) (p i)))) := by
  unfold box_Contains
  rw [loop_all (box_Contains.l6 k (mk n f) (mk n p)) n (fun i => decide (In (f i) (p i))) (fun m i hi => ?_) (fun m => ?_) hk]
  · cases allB n (fun i => decide (In (f i) (p i))) <;> rfl
  · rw [box_Contains.l6]
    simp only [mk_len, dlt hi, decide_true, if_true, rng hi, and_self, Int.toNat_natCast, mk_get _ hi, Option.bind_some, wnext (Nat.lt_trans hi hn), cont_eq]
    exact notif _ _ _
  · rw [box_Contains.l6]
    simp only [mk_len, dnl, Bool.false_eq_true, if_false]
theorem mapPoint {n : Nat} (hn : n < 1000000) (p : Nat → Int) {k : Nat} (hk : n < k) : api_Interval_76_s77 k (mk n p) = some (mk n (fun i => nw (p i) (p i))) := by
  have h0 : 0 ≤ (n : Int) ∧ (n : Int) < 1000000 := ⟨by omega, by omega⟩
  unfold api_Interval_76_s77
  simp only [mk_len, h0, and_self, if_true, Int.toNat_natCast]
  rw [loop_set (api_Interval_76_s77.l10 k (mk n p)) n (fun i => nw (p i) (p i)) (⟨0, 0⟩ : TInterval) (fun m acc i hi ha => ?_) (fun m acc => ?_) hk]
  · rfl
  · rw [api_Interval_76_s77.l10]
    have hg : ∃ x, acc[i]? = some x := ⟨acc[i]'(by omega), List.getElem?_eq_getElem (by omega)⟩
    obtain ⟨x, hx⟩ := hg
    simp only [mk_len, dlt hi, decide_true, if_true, rng hi, and_self, Int.toNat_natCast, mk_get _ hi, Option.bind_some, wnext (Nat.lt_trans hi hn), ha, hx, interval_Point, new_eq]
  · rw [api_Interval_76_s77.l10]
    simp only [mk_len, dnl, Bool.false_eq_true, if_false]
theorem mapMid {n : Nat} (hn : n < 1000000) (f : Nat → TInterval) {k : Nat} (hk : n < k) (hf : ∀ i, i < n → Ok (f i)) : api_Interval_int64_s80 k (mk n f) = some (mk n (fun i => ((f i).Lo + (f i).Hi) / 2)) := by
  have h0 : 0 ≤ (n : Int) ∧ (n : Int) < 1000000 := ⟨by omega, by omega⟩
  unfold api_Interval_int64_s80
  simp only [mk_len, h0, and_self, if_true, Int.toNat_natCast]
  rw [loop_set (api_Interval_int64_s80.l10 k (mk n f)) n (fun i => ((f i).Lo + (f i).Hi) / 2) (0 : Int) (fun m acc i hi ha => ?_) (fun m acc => ?_) hk]
  · rfl
  · rw [api_Interval_int64_s80.l10]
    have hg : ∃ x, acc[i]? = some x := ⟨acc[i]'(by omega), List.getElem?_eq_getElem (by omega)⟩
    obtain ⟨x, hx⟩ := hg
    simp only [mk_len, dlt hi, decide_true, if_true, rng hi, and_self, Int.toNat_natCast, mk_get _ hi, Option.bind_some, wnext (Nat.lt_trans hi hn), ha, hx, mid_fin (hf i hi)]
  · rw [api_Interval_int64_s80.l10]
    simp only [mk_len, dnl, Bool.false_eq_true, if_false]
theorem mapWidth {n : Nat} (hn : n < 1000000) (f : Nat → TInterval) {k : Nat} (hk : n < k) (hf : ∀ i, i < n → Ok (f i)) : api_Interval_int64_s46 k (mk n f) = some (mk n (fun i => (f i).Hi - (f i).Lo)) := by
  have h0 : 0 ≤ (n : Int) ∧ (n : Int) < 1000000 := ⟨by omega, by omega⟩
  unfold api_Interval_int64_s46
  simp only [mk_len, h0, and_self, if_true, Int.toNat_natCast]
  rw [loop_set (api_Interval_int64_s46.l10 k (mk n f)) n (fun i => (f i).Hi - (f i).Lo) (0 : Int) (fun m acc i hi ha => ?_) (fun m acc => ?_) hk]
  · rfl
  · rw [api_Interval_int64_s46.l10]
    have hg : ∃ x, acc[i]? = some x := ⟨acc[i]'(by omega), List.getElem?_eq_getElem (by omega)⟩
    obtain ⟨x, hx⟩ := hg
    simp only [mk_len, dlt hi, decide_true, if_true, rng hi, and_self, Int.toNat_natCast, mk_get _ hi, Option.bind_some, wnext (Nat.lt_trans hi hn), ha, hx, width_ok (hf i hi)]
  · rw [api_Interval_int64_s46.l10]
    simp only [mk_len, dnl, Bool.false_eq_true, if_false]
theorem mapInfl {n : Nat} (hn : n < 1000000) (f : Nat → TInterval) (d : Int) {k : Nat} (hk : n < k) (hf : ∀ i, i < n → Ok (f i)) (hd : 0 ≤ d ∧ d ≤ 4294967296) : api_Interval_72_s73 k (mk n f) d = some (mk n (fun i => infl d (f i))) := by
  have h0 : 0 ≤ (n : Int) ∧ (n : Int) < 1000000 := ⟨by omega, by omega⟩
  unfold api_Interval_72_s73
  simp only [mk_len, h0, and_self, if_true, Int.toNat_natCast]
  rw [loop_set (api_Interval_72_s73.l10 k (mk n f) d) n (fun i => infl d (f i)) (⟨0, 0⟩ : TInterval) (fun m acc i hi ha => ?_) (fun m acc => ?_) hk]
  · rfl
  · rw [api_Interval_72_s73.l10]
    have hg : ∃ x, acc[i]? = some x := ⟨acc[i]'(by omega), List.getElem?_eq_getElem (by omega)⟩
    obtain ⟨x, hx⟩ := hg
    simp only [mk_len, dlt hi, decide_true, if_true, rng hi, and_self, Int.toNat_natCast, mk_get _ hi, Option.bind_some, wnext (Nat.lt_trans hi hn), ha, hx, binfl (hf i hi) hd]
  · rw [api_Interval_72_s73.l10]
    simp only [mk_len, dnl, Bool.false_eq_true, if_false]
end Go.Proofs.Ytgccinodonkgjaa
