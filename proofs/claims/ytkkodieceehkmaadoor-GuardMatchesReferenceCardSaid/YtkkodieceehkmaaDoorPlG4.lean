/- G4: the plain law. Own work. -/
import Derived.Test.YtkkodieceehkmaaDoorPlGuardSideIsotone
set_option maxRecDepth 10000
set_option linter.unusedVariables false
set_option linter.unusedSimpArgs false
/- The length of an expression, and who is valid. Own work. -/
namespace Go.Proofs.YtkkodieceehkmaaDoor
open Go
def allB (n : Nat) (p : Nat → Bool) : Bool := (List.range n).all p
theorem allB_iff {n : Nat} {p : Nat → Bool} : allB n p = true ↔ ∀ i, i < n → p i = true := by simp [allB]
theorem allB_not {n : Nat} {p : Nat → Bool} : allB n p = false ↔ ∃ i, i < n ∧ p i = false := by simp [allB]
theorem find_none {n : Nat} {p : Nat → Bool} (h : ∀ i, i < n → p i = false) : (List.range n).find? p = none := by
  rw [List.find?_eq_none]; intro i hi; rw [h i (List.mem_range.1 hi)]; simp
theorem loop_find {γ : Type} (l : Nat → Int → Option (γ ⊕ Unit)) (n : Nat) (p : Nat → Bool) (v : Nat → γ)
    (hs : ∀ (k i : Nat), i < n → l (k + 1) (i : Int) = if p i = true then some (.inl (v i)) else l k ((i + 1 : Nat) : Int))
    (he : ∀ k : Nat, l (k + 1) (n : Int) = some (.inr ())) {k : Nat} (hk : n < k) :
    (∃ i, i < n ∧ p i = true ∧ (∀ j, j < i → p j = false) ∧ l k 0 = some (.inl (v i))) ∨ ((∀ i, i < n → p i = false) ∧ l k 0 = some (.inr ())) := by
  have key : ∀ (r i k : Nat), i + r = n → r < k → (∀ j, j < i → p j = false) →
      (∃ i', i' < n ∧ p i' = true ∧ (∀ j, j < i' → p j = false) ∧ l k (i : Int) = some (.inl (v i'))) ∨ ((∀ i, i < n → p i = false) ∧ l k (i : Int) = some (.inr ())) := by
    intro r
    induction r with
    | zero =>
      intro i k hi hk hp
      obtain ⟨k, rfl⟩ : ∃ m, k = m + 1 := ⟨k - 1, by omega⟩
      obtain rfl : i = n := by omega
      exact .inr ⟨hp, he k⟩
    | succ r ih =>
      intro i k hi hk hp
      obtain ⟨k, rfl⟩ : ∃ m, k = m + 1 := ⟨k - 1, by omega⟩
      rw [hs k i (by omega)]
      by_cases h : p i = true
      · rw [if_pos h]
        exact .inl ⟨i, by omega, h, hp, rfl⟩
      · rw [if_neg h]
        refine ih (i + 1) k (by omega) (by omega) fun j hj => ?_
        by_cases e : j = i
        · subst e; simpa using h
        · exact hp j (by omega)
  exact key n 0 k (by omega) hk (fun j hj => absurd hj (Nat.not_lt_zero _))
theorem loop_all (l : Nat → Int → Option (Bool ⊕ Unit)) (n : Nat) (p : Nat → Bool)
    (hs : ∀ (k i : Nat), i < n → l (k + 1) (i : Int) = if p i = true then l k ((i + 1 : Nat) : Int) else some (.inl false))
    (he : ∀ k : Nat, l (k + 1) (n : Int) = some (.inr ())) {k : Nat} (hk : n < k) : l k 0 = some (if allB n p = true then .inr () else .inl false) := by
  rcases loop_find l n (fun i => !p i) (fun _ => false) (fun k i hi => by rw [hs k i hi]; cases p i <;> rfl) he hk with ⟨i, hi, hp, _, h⟩ | ⟨hp, h⟩
  · have : allB n p = false := allB_not.2 ⟨i, hi, by simpa using hp⟩
    rw [h, this]; rfl
  · have : allB n p = true := allB_iff.2 fun i hi => by simpa using hp i hi
    rw [h, this]; rfl
/-- How many operands; none: no operation. -/
def ar (op : Int) : Option Nat := if 1 ≤ op ∧ op ≤ 3 then some 0 else if 4 ≤ op ∧ op ≤ 6 then some 1 else if 7 ≤ op ∧ op ≤ 10 then some 2 else none
theorem ode_arity_eq (op : Int) : ode_arity op = some (match ar op with | some a => (a : Int) | none => -1) := by
  unfold ode_arity ar
  by_cases h1 : 1 ≤ op ∧ op ≤ 3
  · rw [if_pos (by simpa using h1), if_pos h1]; rfl
  rw [if_neg (by simpa using h1), if_neg h1]
  by_cases h2 : 4 ≤ op ∧ op ≤ 6
  · rw [if_pos (by simpa using h2), if_pos h2]; rfl
  rw [if_neg (by simpa using h2), if_neg h2]
  by_cases h3 : 7 ≤ op ∧ op ≤ 10
  · rw [if_pos (by simpa using h3), if_pos h3]; rfl
  · rw [if_neg (by simpa using h3), if_neg h3]
theorem ref_arity_eq (op : Int) : armillaryref07_Arity op = some (match ar op with | some a => (a : Int) | none => -1) := by
  by_cases h : 1 ≤ op ∧ op ≤ 10
  · rw [arity_eq h]
    unfold ar
    by_cases h1 : op ≤ 3
    · rw [if_pos h1, if_pos (show 1 ≤ op ∧ op ≤ 3 by omega)]; rfl
    by_cases h2 : op ≤ 6
    · rw [if_neg h1, if_pos h2, if_neg (show ¬ (1 ≤ op ∧ op ≤ 3) by omega), if_pos (show 4 ≤ op ∧ op ≤ 6 by omega)]; rfl
    · rw [if_neg h1, if_neg h2, if_neg (show ¬ (1 ≤ op ∧ op ≤ 3) by omega), if_neg (show ¬ (4 ≤ op ∧ op ≤ 6) by omega), if_pos (show 7 ≤ op ∧ op ≤ 10 by omega)]; rfl
  · unfold armillaryref07_Arity ar
    rw [if_pos (by simp; omega), if_neg (by omega), if_neg (by omega), if_neg (by omega)]
theorem ar_le {op : Int} {a : Nat} (h : ar op = some a) : a ≤ 2 := by
  unfold ar at h
  split at h
  · injection h with h; omega
  split at h
  · injection h with h; omega
  split at h
  · injection h with h; omega
  · cases h
/-- How long the first m expressions of a list are. -/
def run : Nat → List TNode → Option Nat
  | 0, _ => some 0
  | _ + 1, [] => none
  | m + 1, x :: l => match ar x.Op with
    | none => none
    | some a => (run (m + a) l).map (· + 1)
theorem run_le : ∀ (l : List TNode) (m n : Nat), run m l = some n → n ≤ l.length
  | l, 0, n, h => by rw [run] at h; injection h with h; omega
  | [], m + 1, n, h => by rw [run] at h; cases h
  | x :: l, m + 1, n, h => by
    rw [run] at h
    cases ha : ar x.Op with
    | none => rw [ha] at h; cases h
    | some a =>
      rw [ha] at h
      obtain ⟨k, hk, rfl⟩ := Option.map_eq_some_iff.1 h
      have := run_le l _ _ hk
      simp only [List.length_cons]; omega
theorem run_add : ∀ (l : List TNode) (m k : Nat), run (m + k) l = (run m l).bind fun n => (run k (l.drop n)).map (n + ·)
  | l, 0, k => by
    rw [Nat.zero_add, run, Option.bind_some, List.drop_zero]
    cases run k l <;> simp
  | [], m + 1, k => by rw [show m + 1 + k = m + k + 1 by omega, run, run]; rfl
  | x :: l, m + 1, k => by
    rw [show m + 1 + k = m + k + 1 by omega, run, run]
    cases ar x.Op with
    | none => rfl
    | some a =>
      dsimp only
      rw [show m + k + a = m + a + k by omega, run_add l (m + a) k]
      cases run (m + a) l with
      | none => rfl
      | some n =>
        simp only [Option.bind_some, Option.map_some, List.drop_succ_cons]
        cases run k (l.drop n) with
        | none => rfl
        | some j => simp only [Option.map_some]; congr 1; omega
theorem run_code : ∀ (e : Ex) (n : Int), e.ok n → ∀ (m : Nat) (post : List TNode), run (m + 1) (e.code ++ post) = (run m post).map (e.code.length + ·)
  | .num c, n, _, m, post | .var c, n, _, m, post | .time, n, _, m, post => by
    show (run (m + 0) post).map (· + 1) = _
    rw [Nat.add_zero]; congr 1; funext x; exact Nat.add_comm _ _
  | .neg e, n, h, m, post | .sqr e, n, h, m, post | .sqrt e, n, h, m, post => by
    show (run (m + 1) (e.code ++ post)).map (· + 1) = _
    rw [run_code e n h m post]
    cases run m post with
    | none => rfl
    | some k => simp only [Option.map_some, Ex.code, List.length_cons]; congr 1; omega
  | .bin op a b, n, h, m, post => by
    have ho : ar op = some 2 := by
      have := h.1
      unfold ar
      rw [if_neg (by omega), if_neg (by omega), if_pos (by omega)]
    show run (m + 1) (⟨op, 0, Z0⟩ :: (a.code ++ b.code) ++ post) = _
    rw [List.cons_append, run, show ar (⟨op, 0, Z0⟩ : TNode).Op = some 2 from ho]
    show (run (m + 2) _).map (· + 1) = _
    rw [List.append_assoc, show m + 2 = (m + 1) + 1 by omega, run_code a n h.2.1 (m + 1) (b.code ++ post), run_code b n h.2.2 m post]
    cases run m post with
    | none => rfl
    | some k => simp only [Option.map_some, Ex.code, List.length_cons, List.length_append]; congr 1; omega
/-! ### The program's length -/
theorem wk {x : Int} (h1 : -1000000000 ≤ x) (h2 : x ≤ 1000000000) : w_i64 x = x := w64 (by omega) (by omega)
theorem oexpr_loop (l : List TNode) (hl : l.length < 1000) (k0 : Nat) (hv : ∀ x ∈ l, ∃ a, ar x.Op = some a) : ∀ (r : List TNode) (i m k : Nat), l.drop i = r → i + r.length = l.length → r.length < k → m ≤ 2 * i + 1 → ode_exprLen.l8 k0 l k ((m + 1 : Nat) : Int) (i : Int) = some (match run (m + 1) r with | some n => .inl ((i + n : Nat) : Int) | none => .inr ())
  | [], i, m, k, hr, hi, hk, hm => by
    obtain ⟨k, rfl⟩ : ∃ j, k = j + 1 := ⟨k - 1, by omega⟩
    simp only [List.length_nil] at hi
    rw [ode_exprLen.l8, if_neg (by simp; omega), run]
  | x :: r, i, m, k, hr, hi, hk, hm => by
    obtain ⟨k, rfl⟩ : ∃ j, k = j + 1 := ⟨k - 1, by omega⟩
    simp only [List.length_cons] at hi hk
    have hx : l[i]? = some x := by
      have := List.getElem?_drop (xs := l) (i := i) (j := 0)
      rw [hr] at this; simpa using this.symm
    have hd : l.drop (i + 1) = r := by
      have : (l.drop i).drop 1 = r := by rw [hr]; rfl
      rwa [List.drop_drop] at this
    obtain ⟨a, ha⟩ := hv x (List.mem_of_getElem? hx)
    have ha2 := ar_le ha
    rw [ode_exprLen.l8, if_pos (by simp; omega), if_pos (by omega), Int.toNat_natCast, hx, Option.bind_some, ode_arity_eq, ha, Option.bind_some, run, ha]
    dsimp only
    have e1 : w_i64 (((m + 1 : Nat) : Int) + w_i64 ((a : Int) - 1)) = ((m + a : Nat) : Int) := by rw [wk (x := (a : Int) - 1) (by omega) (by omega), wk (by omega) (by omega)]; omega
    have e2 : w_i64 ((i : Int) + 1) = ((i + 1 : Nat) : Int) := by rw [wk (by omega) (by omega)]; omega
    rw [e1, e2]
    cases hma : m + a with
    | zero => rw [if_pos (by simp), run]; rfl
    | succ q =>
      rw [if_neg (by simp; omega), oexpr_loop l hl k0 hv r (i + 1) q k hd (by omega) (by omega) (by omega)]
      cases run (q + 1) r with
      | none => rfl
      | some n => simp only [Option.map_some]; congr 2; omega
theorem oexpr_eq {l : List TNode} (hl : l.length < 1000) {k : Nat} (hk : 1000 < k) (hv : ∀ x ∈ l, ∃ a, ar x.Op = some a) : ode_exprLen k l = some (match run 1 l with | some n => (n : Int) | none => (l.length : Int) + 1) := by
  unfold ode_exprLen
  have := oexpr_loop l hl k hv l 0 0 k (by simp) (by omega) (by omega) (by omega)
  rw [show ((0 + 1 : Nat) : Int) = 1 from rfl, show ((0 : Nat) : Int) = 0 from rfl] at this
  rw [this, Option.bind_some]
  cases run 1 l with
  | none => rw [wk (by omega) (by omega)]
  | some n => simp
/-! ### The reference's length -/
theorem rexpr_aux : ∀ (N : Nat) (l : List TNode), l.length ≤ N → l.length < 1000 → ∀ (k : Nat), l.length + 4 < k → armillaryref07_exprLen k l = some (match run 1 l with | some n => (n : Int) | none => -1)
  | _, [], _, hl, k, hk => by
    obtain ⟨k, rfl⟩ : ∃ j, k = j + 1 := ⟨k - 1, by omega⟩
    rw [armillaryref07_exprLen, armillaryref07_exprLen.body]
    rfl
  | 0, x :: l, hN, _, _, _ => by simp at hN
  | N + 1, x :: l, hN, hl, k, hk => by
    have hN' : l.length ≤ N := by simpa using hN
    obtain ⟨k, rfl⟩ : ∃ j, k = j + 4 := ⟨k - 4, by simp only [List.length_cons] at hk; omega⟩
    simp only [List.length_cons] at hl hk
    rw [armillaryref07_exprLen, armillaryref07_exprLen.body]
    have c1 : (((((x :: l).length : Nat) : Int) == 0) == false) = true := by simp; omega
    have c2 : 0 ≤ (0 : Int) ∧ (0 : Int) < (((x :: l).length : Nat) : Int) := by simp only [List.length_cons]; omega
    have hx : (x :: l)[(0 : Int).toNat]? = some x := rfl
    rw [if_pos (fun _ => c2), if_pos c1, hx, Option.bind_some, if_pos c1, ref_arity_eq, Option.bind_some, run]
    cases ha : ar x.Op with
    | none => rw [if_pos (by simp)]
    | some a =>
      have ha2 := ar_le ha
      rw [if_neg (by simp; omega)]
      have step : ∀ (q : Nat) (p j : Int), armillaryref07_exprLen.l14 (k + 3) (armillaryref07_exprLen (k + 3)) (x :: l) x (a : Int) (q + 1) p j = if decide (j < (a : Int)) = true then (if 0 ≤ p ∧ p ≤ (((x :: l).length : Nat) : Int) then (armillaryref07_exprLen (k + 3) ((x :: l).drop p.toNat)).bind fun t21 => if (decide (t21 < 0)) = true then some (.inl (-1)) else armillaryref07_exprLen.l14 (k + 3) (armillaryref07_exprLen (k + 3)) (x :: l) x (a : Int) q (w_i64 (p + t21)) (w_i64 (j + 1)) else none) else some (.inr p) := by
        intro q p j
        rw [armillaryref07_exprLen.l14, if_pos c2, hx, Option.bind_some, ref_arity_eq, ha, Option.bind_some]
      have hrec : ∀ n : Nat, n ≤ l.length → armillaryref07_exprLen (k + 3) (l.drop n) = some (match run 1 (l.drop n) with | some n => (n : Int) | none => -1) := fun n hn => by
        have : (l.drop n).length = l.length - n := List.length_drop ..
        exact rexpr_aux N (l.drop n) (by omega) (by omega) (k + 3) (by omega)
      have hd : ∀ n : Nat, (x :: l).drop (((n + 1 : Nat) : Int)).toNat = l.drop n := fun n => by rw [Int.toNat_natCast, List.drop_succ_cons]
      have one : (1 : Int) = ((0 + 1 : Nat) : Int) := rfl
      dsimp only
      rw [step (k + 2)]
      cases a with
      | zero =>
        rw [if_neg (by simp), Option.bind_some, Nat.add_zero, run]; rfl
      | succ a =>
        rw [if_pos (by simp <;> omega), if_pos (by simp only [List.length_cons]; omega), show (x :: l).drop (1 : Int).toNat = l from rfl, rexpr_aux N l (by omega) (by omega) (k + 3) (by omega), Option.bind_some]
        rw [show 0 + (a + 1) = 1 + a by omega, run_add l 1 a]
        cases h1 : run 1 l with
        | none => simp
        | some n =>
          have hn := run_le l 1 n h1
          simp only [Option.bind_some]
          rw [if_neg (by simp), step (k + 1)]
          have e1 : w_i64 ((1 : Int) + (n : Int)) = ((n + 1 : Nat) : Int) := by rw [wk (by omega) (by omega)]; omega
          have e2 : w_i64 ((0 : Int) + 1) = 1 := rfl
          rw [e1, e2]
          cases a with
          | zero =>
            rw [if_neg (by simp), run]; simp
          | succ a =>
            obtain rfl : a = 0 := by omega
            rw [if_pos (by simp), if_pos (by simp only [List.length_cons]; omega), hd n, hrec n hn, Option.bind_some]
            cases h2 : run (0 + 1) (l.drop n) with
            | none => simp [h2]
            | some j =>
              have hj := run_le _ _ _ h2
              rw [List.length_drop] at hj
              have e3 : w_i64 ((1 : Int) + 1) = 2 := rfl
              dsimp only
              rw [if_neg (by simp), e3, step k, if_neg (by simp), wk (x := ((n + 1 : Nat) : Int) + (j : Int)) (by omega) (by omega)]
              show some (((n + 1 : Nat) : Int) + (j : Int)) = some (((n + j + 1 : Nat)) : Int)
              congr 1; omega
theorem rexpr_eq {l : List TNode} (hl : l.length < 1000) {k : Nat} (hk : l.length + 4 < k) : armillaryref07_exprLen k l = some (match run 1 l with | some n => (n : Int) | none => -1) := rexpr_aux l.length l (Nat.le_refl _) hl k hk

end Go.Proofs.YtkkodieceehkmaaDoor
