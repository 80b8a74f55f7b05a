/- Lists told by index, loops told by their states. Own work. -/
import Derived.Test.YtglcmhldonkfdaaDoorPlM1
set_option maxRecDepth 10000
set_option linter.unusedVariables false
set_option linter.unusedSimpArgs false
namespace Go.Proofs.YtglcmhldonkfdaaDoor
open Go
def mk {α : Type} (n : Nat) (f : Nat → α) : List α := (List.range n).map f
theorem mk_len {α : Type} (n : Nat) (f : Nat → α) : (mk n f).length = n := by simp [mk]
theorem mk_get {α : Type} {n i : Nat} (f : Nat → α) (h : i < n) : (mk n f)[i]? = some (f i) := by simp [mk, h]
theorem mk_succ {α : Type} (n : Nat) (f : Nat → α) : mk (n + 1) f = mk n f ++ [f n] := by simp [mk, List.range_succ]
theorem mk_zero {α : Type} (f : Nat → α) : mk 0 f = [] := rfl
theorem mk_congr {α : Type} {n : Nat} {f g : Nat → α} (h : ∀ i, i < n → f i = g i) : mk n f = mk n g := by
  unfold mk
  exact List.map_congr_left fun i hi => h i (List.mem_range.1 hi)
theorem mk_ext {α : Type} {n : Nat} {l : List α} {f : Nat → α} (hl : l.length = n) (h : ∀ i, i < n → l[i]? = some (f i)) : l = mk n f := by
  apply List.ext_getElem?
  intro i
  by_cases hi : i < n
  · rw [mk_get _ hi, h i hi]
  · rw [List.getElem?_eq_none (by omega), List.getElem?_eq_none (by rw [mk_len]; omega)]
theorem mk_set {α : Type} (n : Nat) (f : Nat → α) (i : Nat) (v : α) : (mk n f).set i v = mk n fun j => if j = i then v else f j := by
  refine mk_ext (by rw [List.length_set, mk_len]) fun j hj => ?_
  rw [List.getElem?_set]
  by_cases e : i = j
  · subst e; rw [if_pos rfl, if_pos (by rw [mk_len]; exact hj), if_pos rfl]
  · rw [if_neg e, mk_get _ hj, if_neg (fun h => e h.symm)]
theorem mk_rep {α : Type} (n : Nat) (v : α) : List.replicate n v = mk n fun _ => v :=
  mk_ext (by simp) fun i hi => by simp [hi]
theorem mk_app {α : Type} (n m : Nat) (f g : Nat → α) : mk n f ++ mk m g = mk (n + m) fun i => if i < n then f i else g (i - n) := by
  refine mk_ext (by rw [List.length_append, mk_len, mk_len]) fun i hi => ?_
  by_cases h : i < n
  · rw [List.getElem?_append_left (by rw [mk_len]; exact h), mk_get _ h, if_pos h]
  · rw [List.getElem?_append_right (by rw [mk_len]; omega), mk_len, mk_get _ (by omega), if_neg h]
theorem mk_drop {α : Type} (n m : Nat) (f : Nat → α) : (mk n f).drop m = mk (n - m) fun i => f (m + i) :=
  mk_ext (by rw [List.length_drop, mk_len]) fun i hi => by rw [List.getElem?_drop, mk_get _ (by omega)]
def mm {α : Type} (n m : Nat) (f : Nat → Nat → α) : List (List α) := mk n fun i => mk m (f i)
def allB (n : Nat) (p : Nat → Bool) : Bool := (List.range n).all p
theorem allB_iff {n : Nat} {p : Nat → Bool} : allB n p = true ↔ ∀ i, i < n → p i = true := by simp [allB]
theorem allB_not {n : Nat} {p : Nat → Bool} : allB n p = false ↔ ∃ i, i < n ∧ p i = false := by simp [allB]
theorem wnext {i : Nat} (h : i < 1000000) : w_i64 ((i : Int) + 1) = ((i + 1 : Nat) : Int) := by
  rw [w64 (by omega) (by omega)]; omega
theorem dlt {i n : Nat} (h : i < n) : decide ((i : Int) < (n : Int)) = true := decide_eq_true (by omega)
theorem dnl (n : Nat) : decide ((n : Int) < (n : Int)) = false := decide_eq_false (by omega)
theorem rng {i n : Nat} (h : i < n) : 0 ≤ (i : Int) ∧ (i : Int) < (n : Int) := ⟨by omega, by omega⟩
theorem loop_st {S R : Type} (l : Nat → S → Int → Option R) (n : Nat) (st : Nat → S) (r : R) (i0 : Nat)
    (hs : ∀ (k i : Nat), i0 ≤ i → i < n → l (k + 1) (st i) (i : Int) = l k (st (i + 1)) ((i + 1 : Nat) : Int))
    (he : ∀ k : Nat, l (k + 1) (st n) (n : Int) = some r) {k : Nat} (hk : n < k) (hi0 : i0 ≤ n) : l k (st i0) (i0 : Int) = some r := by
  have key : ∀ (d i k : Nat), i0 ≤ i → i + d = n → d < k → l k (st i) (i : Int) = some r := by
    intro d
    induction d with
    | zero =>
      intro i k h0 hi hk
      obtain ⟨k, rfl⟩ : ∃ m, k = m + 1 := ⟨k - 1, by omega⟩
      obtain rfl : i = n := by omega
      exact he k
    | succ d ih =>
      intro i k h0 hi hk
      obtain ⟨k, rfl⟩ : ∃ m, k = m + 1 := ⟨k - 1, by omega⟩
      rw [hs k i h0 (by omega)]
      exact ih (i + 1) k (by omega) (by omega) (by omega)
  exact key (n - i0) i0 k (Nat.le_refl _) (by omega) (by omega)
theorem loop_0 {S R : Type} (l : Nat → S → Int → Option R) (n : Nat) (st : Nat → S) (r : R) {s : S} (h0 : s = st 0)
    (hs : ∀ (k i : Nat), i < n → l (k + 1) (st i) (i : Int) = l k (st (i + 1)) ((i + 1 : Nat) : Int))
    (he : ∀ k : Nat, l (k + 1) (st n) (n : Int) = some r) {k : Nat} (hk : n < k) : l k s 0 = some r := by
  rw [h0]; exact loop_st l n st r 0 (fun k i _ hi => hs k i hi) he hk (Nat.zero_le _)
theorem loop_find {γ : Type} (l : Nat → Int → Option (γ ⊕ Unit)) (n : Nat) (p : Nat → Bool) (v : Nat → γ)
    (hs : ∀ (k i : Nat), i < n → (∀ j, j < i → p j = false) → l (k + 1) (i : Int) = if p i = true then some (.inl (v i)) else l k ((i + 1 : Nat) : Int))
    (he : ∀ k : Nat, l (k + 1) (n : Int) = some (.inr ())) {k : Nat} (hk : n < k) :
    (∃ i, i < n ∧ p i = true ∧ (∀ j, j < i → p j = false) ∧ l k 0 = some (.inl (v i))) ∨ ((∀ i, i < n → p i = false) ∧ l k 0 = some (.inr ())) := by
  have key : ∀ (r i k : Nat), i + r = n → r < k → (∀ j, j < i → p j = false) →
      (∃ i', i' < n ∧ p i' = true ∧ (∀ j, j < i' → p j = false) ∧ l k (i : Int) = some (.inl (v i'))) ∨ ((∀ i, i < n → p i = false) ∧ l k (i : Int) = some (.inr ())) := by
    intro r
    induction r with
    | zero =>
      intro i k hi hk hp
      obtain ⟨k, rfl⟩ : ∃ m, k = m + 1 := ⟨k - 1, by omega⟩
      obtain rfl : i = n := by omega
      exact .inr ⟨hp, he k⟩
    | succ r ih =>
      intro i k hi hk hp
      obtain ⟨k, rfl⟩ : ∃ m, k = m + 1 := ⟨k - 1, by omega⟩
      rw [hs k i (by omega) hp]
      by_cases h : p i = true
      · rw [if_pos h]
        exact .inl ⟨i, by omega, h, hp, rfl⟩
      · rw [if_neg h]
        refine ih (i + 1) k (by omega) (by omega) fun j hj => ?_
        by_cases e : j = i
        · subst e; simpa using h
        · exact hp j (by omega)
  exact key n 0 k (by omega) hk (fun j hj => absurd hj (Nat.not_lt_zero _))
theorem loop_ok {γ : Type} (l : Nat → Int → Option (γ ⊕ Unit)) (n : Nat)
    (hs : ∀ (k i : Nat), i < n → l (k + 1) (i : Int) = l k ((i + 1 : Nat) : Int))
    (he : ∀ k : Nat, l (k + 1) (n : Int) = some (.inr ())) {k : Nat} (hk : n < k) : l k 0 = some (.inr ()) :=
  loop_st (fun k (_ : Unit) i => l k i) n (fun _ => ()) (.inr ()) 0 (fun k i _ hi => hs k i hi) he hk (Nat.zero_le _)
def imul (a b : TInterval) : TInterval := (interval_Mul a b).getD default
def iadd (a b : TInterval) : TInterval := (interval_Add a b).getD default
def isub (a b : TInterval) : TInterval := (interval_Sub a b).getD default
def idiv (a b : TInterval) : TInterval := (interval_Div a b).getD default
theorem imul_eq {a b : TInterval} (ha : Ok a) (hb : Ok b) : interval_Mul a b = some (imul a b) := by
  obtain ⟨r, h, _⟩ := mul_ok ha hb; rw [imul, h]; rfl
theorem imul_ok {a b : TInterval} (ha : Ok a) (hb : Ok b) : Ok (imul a b) := by
  obtain ⟨r, h, o⟩ := mul_ok ha hb; rw [imul, h]; exact o
theorem iadd_eq {a b : TInterval} (ha : Ok a) (hb : Ok b) : interval_Add a b = some (iadd a b) := by
  obtain ⟨r, h, _⟩ := add_ok' ha hb; rw [iadd, h]; rfl
theorem iadd_ok {a b : TInterval} (ha : Ok a) (hb : Ok b) : Ok (iadd a b) := by
  obtain ⟨r, h, o⟩ := add_ok' ha hb; rw [iadd, h]; exact o
theorem isub_eq {a b : TInterval} (ha : Ok a) (hb : Ok b) : interval_Sub a b = some (isub a b) := by
  obtain ⟨r, h, _⟩ := sub_ok ha hb; rw [isub, h]; rfl
theorem isub_ok {a b : TInterval} (ha : Ok a) (hb : Ok b) : Ok (isub a b) := by
  obtain ⟨r, h, o⟩ := sub_ok ha hb; rw [isub, h]; exact o
theorem idiv_eq {a b : TInterval} (ha : Ok a) (hb : Ok b) : interval_Div a b = some (idiv a b) := by
  obtain ⟨r, h, _⟩ := div_ok ha hb; rw [idiv, h]; rfl
theorem idiv_ok {a b : TInterval} (ha : Ok a) (hb : Ok b) : Ok (idiv a b) := by
  obtain ⟨r, h, o⟩ := div_ok ha hb; rw [idiv, h]; exact o
def dotI (a b : Nat → TInterval) : Nat → TInterval
  | 0 => imul (a 0) (b 0)
  | n + 1 => iadd (dotI a b n) (imul (a (n + 1)) (b (n + 1)))
theorem dotI_ok {a b : Nat → TInterval} : ∀ {n : Nat}, (∀ i, i ≤ n → Ok (a i)) → (∀ i, i ≤ n → Ok (b i)) → Ok (dotI a b n)
  | 0, ha, hb => imul_ok (ha 0 (Nat.le_refl _)) (hb 0 (Nat.le_refl _))
  | n + 1, ha, hb => iadd_ok (dotI_ok (fun i h => ha i (by omega)) (fun i h => hb i (by omega))) (imul_ok (ha _ (Nat.le_refl _)) (hb _ (Nat.le_refl _)))
end Go.Proofs.YtglcmhldonkfdaaDoor
