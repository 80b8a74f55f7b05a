/- G6: the plain law. Own work. -/
import Derived.Test.YtkkodieceehkmaaDoorPlG5
set_option maxRecDepth 10000
set_option linter.unusedVariables false
set_option linter.unusedSimpArgs false
/- The reference's value. Own work. -/
namespace Go.Proofs.YtkkodieceehkmaaDoor
open Go
def Ex.subs : Ex → List Ex
  | .neg e => [e]
  | .sqr e => [e]
  | .sqrt e => [e]
  | .bin _ a b => [a, b]
  | _ => []
def Ex.op : Ex → Int
  | .num _ => 1
  | .var _ => 2
  | .time => 3
  | .neg _ => 4
  | .sqr _ => 5
  | .sqrt _ => 6
  | .bin op _ _ => op
theorem Ex.head (e : Ex) : ∃ x r, e.code = x :: r ∧ x.Op = e.op ∧ r = (e.subs.map Ex.code).flatten := by
  cases e <;> exact ⟨_, _, rfl, rfl, by simp [Ex.subs]⟩
theorem Ex.arity {n : Int} {e : Ex} (h : e.ok n) : ar e.op = some e.subs.length := by
  cases e with
  | bin op a b =>
    have := h.1
    show ar op = some 2
    unfold ar
    rw [if_neg (show ¬ (1 ≤ op ∧ op ≤ 3) by omega), if_neg (show ¬ (4 ≤ op ∧ op ≤ 6) by omega), if_pos (show 7 ≤ op ∧ op ≤ 10 by omega)]
  | _ => rfl
theorem Ex.subs_ok {n : Int} {e : Ex} (h : e.ok n) : ∀ s ∈ e.subs, s.ok n := by
  cases e <;> intro s hs <;> simp [Ex.subs] at hs
  · subst hs; exact h
  · subst hs; exact h
  · subst hs; exact h
  · rcases hs with rfl | rfl
    · exact h.2.1
    · exact h.2.2
theorem rexpr_code {n : Int} {e : Ex} (h : e.ok n) {post : List TNode} (hl : (e.code ++ post).length < 1000) {k : Nat} (hk : 2000 < k) : armillaryref07_exprLen k (e.code ++ post) = some (e.code.length : Int) := by
  rw [rexpr_eq hl (by omega)]
  have := run_code e n h 0 post
  rw [Nat.zero_add, run] at this
  rw [this]; simp
theorem opers_loop {n : Int} {l : List TNode} (hl : l.length < 1000) {k0 : Nat} (hk0 : 2000 < k0) {x : TNode} {r : List TNode} (hx : l = x :: r) {q : Nat} (ha : ar x.Op = some q) :
    ∀ (ss : List Ex) (pre : List TNode) (acc : List (List TNode)) (j k : Nat), (∀ s ∈ ss, s.ok n) → l = pre ++ (ss.map Ex.code).flatten → j + ss.length = q → ss.length < k → acc.length + ss.length < 1000 → armillaryref07_Operands.l10 k0 l k acc (pre.length : Int) (j : Int) = some (acc ++ ss.map Ex.code)
  | [], pre, acc, j, k, _, _, hj, hk, _ => by
    obtain ⟨k, rfl⟩ : ∃ m, k = m + 1 := ⟨k - 1, by omega⟩
    have c2 : 0 ≤ (0 : Int) ∧ (0 : Int) < (l.length : Int) := by rw [hx]; simp only [List.length_cons]; omega
    have h0 : l[(0 : Int).toNat]? = some x := by rw [hx]; rfl
    rw [armillaryref07_Operands.l10, if_pos c2, h0, Option.bind_some, ref_arity_eq, ha, Option.bind_some]
    dsimp only
    rw [if_neg (by simp only [decide_eq_true_eq]; simp only [List.length_nil] at hj; omega)]
    simp
  | s :: ss, pre, acc, j, k, hok, hpre, hj, hk, hacc => by
    obtain ⟨k, rfl⟩ : ∃ m, k = m + 1 := ⟨k - 1, by omega⟩
    simp only [List.length_cons] at hj hk hacc
    have hq2 := ar_le ha
    have c2 : 0 ≤ (0 : Int) ∧ (0 : Int) < (l.length : Int) := by rw [hx]; simp only [List.length_cons]; omega
    have h0 : l[(0 : Int).toNat]? = some x := by rw [hx]; rfl
    have hpre' : l = pre ++ (s.code ++ (ss.map Ex.code).flatten) := by rw [hpre]; simp
    have hlen : l.length = pre.length + (s.code ++ (ss.map Ex.code).flatten).length := by rw [hpre', List.length_append]
    have hd : l.drop ((pre.length : Int)).toNat = s.code ++ (ss.map Ex.code).flatten := by rw [Int.toNat_natCast, hpre', List.drop_left]
    have hle : s.code.length ≤ (s.code ++ (ss.map Ex.code).flatten).length := by rw [List.length_append]; omega
    have hw : w_i64 ((pre.length : Int) + (s.code.length : Int)) = ((pre.length + s.code.length : Nat) : Int) := by rw [wk (by omega) (by omega)]; omega
    have hw2 : w_i64 ((j : Int) + 1) = ((j + 1 : Nat) : Int) := by rw [wk (by omega) (by omega)]; omega
    rw [armillaryref07_Operands.l10, if_pos c2, h0, Option.bind_some, ref_arity_eq, ha, Option.bind_some]
    dsimp only
    rw [if_pos (by simp only [decide_eq_true_eq]; omega), if_pos (by omega), hd, rexpr_code (hok s (by simp)) (by omega) hk0, Option.bind_some, hw, if_pos (by omega), if_pos (by omega), hw2]
    have htk : (l.take (((pre.length + s.code.length : Nat) : Int)).toNat).drop ((pre.length : Int)).toNat = s.code := by
      rw [Int.toNat_natCast, Int.toNat_natCast, hpre', ← List.append_assoc, show pre.length + s.code.length = (pre ++ s.code).length by rw [List.length_append], List.take_left, List.drop_left]
    rw [htk]
    have := opers_loop hl hk0 hx ha ss (pre ++ s.code) (acc ++ [s.code]) (j + 1) k (fun z hz => hok z (by simp [hz])) (by rw [hpre]; simp) (by omega) (by omega) (by simp only [List.length_append, List.length_cons, List.length_nil]; omega)
    rw [List.length_append] at this
    rw [this]; simp
theorem opers_eq {n : Int} {e : Ex} (h : e.ok n) (hl : e.code.length < 1000) {k : Nat} (hk : 2000 < k) : armillaryref07_Operands k e.code = some (e.subs.map Ex.code) := by
  obtain ⟨x, r, hx, ho, hr⟩ := e.head
  unfold armillaryref07_Operands
  have hq : e.subs.length ≤ 2 := by cases e <;> simp [Ex.subs]
  have := opers_loop hl hk (n := n) hx (by rw [ho]; exact Ex.arity h) e.subs [x] [] 0 k (Ex.subs_ok h) (by rw [hx, hr]; rfl) (by omega) (by omega) (by simp only [List.length_nil]; omega)
  rw [show (([x] : List TNode).length : Int) = 1 from rfl, show ((0 : Nat) : Int) = 0 from rfl] at this
  rw [this]; rfl
inductive All2 {α β : Type} (R : α → β → Prop) : List α → List β → Prop
  | nil : All2 R [] []
  | cons {a : α} {b : β} {l : List α} {m : List β} (h : R a b) (t : All2 R l m) : All2 R (a :: l) (b :: m)
theorem vals_loop {k0 : Nat} {rec : List TNode → List TInterval → TInterval → Option TInterval} {a0 : List TNode} {x : List TInterval} {t : TInterval} : ∀ (ss : List Ex) (vs : List TInterval) (all : List Ex) (pre : List Ex) (acc : List TInterval) (k : Nat), all = pre ++ ss → All2 (fun s v => rec s.code x t = some v) ss vs → ss.length < k → all.length < 1000 → acc.length = pre.length →
    armillaryref07_Eval.l82 k0 rec a0 x t (all.map Ex.code) k acc (pre.length : Int) = some (acc ++ vs)
  | [], vs, all, pre, acc, k, hall, hf, hk, hl, hacc => by
    obtain ⟨k, rfl⟩ : ∃ m, k = m + 1 := ⟨k - 1, by omega⟩
    cases hf
    rw [armillaryref07_Eval.l82, if_neg (by rw [hall]; simp)]
    simp
  | s :: ss, vs, all, pre, acc, k, hall, hf, hk, hl, hacc => by
    obtain ⟨k, rfl⟩ : ∃ m, k = m + 1 := ⟨k - 1, by omega⟩
    cases hf with
    | @cons _ v _ vs hv hf =>
      have hlen : all.length = pre.length + ss.length + 1 := by rw [hall]; simp; omega
      have hi : pre.length < (all.map Ex.code).length := by rw [List.length_map]; omega
      have hg : (all.map Ex.code)[pre.length]? = some s.code := by rw [hall]; simp
      simp only [List.length_cons] at hk
      have hw2 : w_i64 ((pre.length : Int) + 1) = ((pre.length + 1 : Nat) : Int) := by rw [wk (by omega) (by omega)]; omega
      rw [armillaryref07_Eval.l82, if_pos (dlt hi), if_pos (rng hi), Int.toNat_natCast, hg, Option.bind_some, hv, Option.bind_some, if_pos (by omega), hw2]
      have := vals_loop (k0 := k0) (a0 := a0) ss vs all (pre ++ [s]) (acc ++ [v]) k (by rw [hall]; simp) hf (by omega) hl (by simp [hacc])
      rw [show (pre ++ [s]).length = pre.length + 1 by simp] at this
      rw [this]; simp
theorem Ex.reval {n : Int} {x : List TInterval} {t : TInterval} (h : Env n x t) : ∀ (e : Ex), e.ok n → e.code.length < 1000 → ∀ (k : Nat), K32 + 4000 + e.dep < k → ∀ r, e.ev x t = some r → armillaryref07_Eval k e.code x t = some r := by
  have hK3 : K32 = 4294967296 := rfl
  have start : ∀ (e : Ex), e.ok n → e.code.length < 1000 → ∀ (k : Nat), K32 + 4000 < k → ∀ vs, All2 (fun (s : Ex) v => armillaryref07_Eval k s.code x t = some v) e.subs vs → ∀ (X : List TInterval → Option TInterval) (r : Option TInterval), X vs = r →
      ((armillaryref07_Operands k e.code).bind fun t3 => (armillaryref07_Eval.l82 k (armillaryref07_Eval k) e.code x t t3 k ([] : List TInterval) 0).bind X) = r := by
    intro e he hl k hk vs hvs X r hX
    have hq : e.subs.length ≤ 2 := by cases e <;> simp [Ex.subs]
    have := vals_loop (k0 := k) (rec := armillaryref07_Eval k) (a0 := e.code) e.subs vs e.subs [] [] k rfl hvs (by omega) (by omega) rfl
    rw [show ((([] : List Ex).length : Nat) : Int) = 0 from rfl] at this
    rw [opers_eq he hl (by omega), Option.bind_some, this, Option.bind_some]
    exact hX
  intro e
  induction e with
  | num c =>
    intro he hl k hk r hr
    obtain ⟨k, rfl⟩ : ∃ m, k = m + 1 := ⟨k - 1, by omega⟩
    obtain rfl := Option.some.inj hr
    rw [armillaryref07_Eval, armillaryref07_Eval.body]
    exact start (.num c) he hl k (by simp only [Ex.dep] at hk; omega) [] .nil _ _ rfl
  | var q =>
    intro he hl k hk r hr
    obtain ⟨k, rfl⟩ : ∃ m, k = m + 1 := ⟨k - 1, by omega⟩
    rw [armillaryref07_Eval, armillaryref07_Eval.body]
    refine start (.var q) he hl k (by simp only [Ex.dep] at hk; omega) [] .nil _ _ ?_
    have hq : 0 ≤ q ∧ q < n := he
    have hlx := h.len
    have hr' : x[q.toNat]? = some r := hr
    show (if 0 ≤ q ∧ q < (x.length : Int) then (x[q.toNat]?).bind fun t18 => some t18 else none) = some r
    rw [if_pos (by omega), hr']; rfl
  | time =>
    intro he hl k hk r hr
    obtain ⟨k, rfl⟩ : ∃ m, k = m + 1 := ⟨k - 1, by omega⟩
    obtain rfl := Option.some.inj hr
    rw [armillaryref07_Eval, armillaryref07_Eval.body]
    exact start .time he hl k (by simp only [Ex.dep] at hk; omega) [] .nil _ _ rfl
  | neg e ih =>
    intro he hl k hk r hr
    obtain ⟨k, rfl⟩ : ∃ m, k = m + 1 := ⟨k - 1, by omega⟩
    obtain ⟨q, h1, h2⟩ := Ex.ev_ok h e he
    have hr2 : interval_Neg q = some r := by simpa [Ex.ev, h1] using hr
    have hl2 : e.code.length < 1000 := by simp only [Ex.code, List.length_cons] at hl; omega
    simp only [Ex.dep] at hk
    rw [armillaryref07_Eval, armillaryref07_Eval.body]
    refine start (.neg e) he hl k (by omega) [q] (.cons (ih he hl2 k (by omega) q h1) .nil) _ _ ?_
    have c0 : 0 ≤ (0 : Int) ∧ (0 : Int) < (((Ex.neg e).code.length : Nat) : Int) := by simp only [Ex.code, List.length_cons]; omega
    have hx : ((Ex.neg e).code)[(0 : Int).toNat]? = some ⟨4, 0, Z0⟩ := rfl
    rw [if_pos c0, hx, Option.bind_some]
    show (armillaryref02_Neg q).bind _ = _
    rw [rneg_eq, hr2]; rfl
  | sqr e ih =>
    intro he hl k hk r hr
    obtain ⟨k, rfl⟩ : ∃ m, k = m + 1 := ⟨k - 1, by omega⟩
    obtain ⟨q, h1, h2⟩ := Ex.ev_ok h e he
    have hr2 : interval_Square q = some r := by simpa [Ex.ev, h1] using hr
    have hl2 : e.code.length < 1000 := by simp only [Ex.code, List.length_cons] at hl; omega
    simp only [Ex.dep] at hk
    rw [armillaryref07_Eval, armillaryref07_Eval.body]
    refine start (.sqr e) he hl k (by omega) [q] (.cons (ih he hl2 k (by omega) q h1) .nil) _ _ ?_
    have c0 : 0 ≤ (0 : Int) ∧ (0 : Int) < (((Ex.sqr e).code.length : Nat) : Int) := by simp only [Ex.code, List.length_cons]; omega
    have hx : ((Ex.sqr e).code)[(0 : Int).toNat]? = some ⟨5, 0, Z0⟩ := rfl
    rw [if_pos c0, hx, Option.bind_some]
    show (armillaryref02_Square q).bind _ = _
    rw [rsq_eq h2, hr2]; rfl
  | sqrt e ih =>
    intro he hl k hk r hr
    obtain ⟨k, rfl⟩ : ∃ m, k = m + 1 := ⟨k - 1, by omega⟩
    obtain ⟨q, h1, h2⟩ := Ex.ev_ok h e he
    have hr2 : sqv q = some r := by simpa [Ex.ev, h1] using hr
    have hl2 : e.code.length < 1000 := by simp only [Ex.code, List.length_cons] at hl; omega
    simp only [Ex.dep] at hk
    rw [armillaryref07_Eval, armillaryref07_Eval.body]
    refine start (.sqrt e) he hl k (by omega) [q] (.cons (ih he hl2 k (by omega) q h1) .nil) _ _ ?_
    have c0 : 0 ≤ (0 : Int) ∧ (0 : Int) < (((Ex.sqrt e).code.length : Nat) : Int) := by simp only [Ex.code, List.length_cons]; omega
    have hx : ((Ex.sqrt e).code)[(0 : Int).toNat]? = some ⟨6, 0, Z0⟩ := rfl
    rw [if_pos c0, hx, Option.bind_some]
    show (if decide (q.Lo < 0) = true then (armillaryref02_Entire).bind fun t36 => some t36 else (armillaryref02_Sqrt k q).bind fun t40 => some (⟨t40.1.Lo, t40.1.Hi⟩ : TInterval)) = some r
    by_cases hq : q.Lo < 0
    · rw [sqv, if_pos hq] at hr2
      obtain rfl := Option.some.inj hr2
      rw [if_pos (by simpa using hq)]
      rfl
    · rw [sqv, if_neg hq] at hr2
      obtain ⟨r', h3, h4, h5⟩ := sqrt_k h2 (by omega) (k := k) (by omega)
      rw [h5] at hr2
      obtain rfl := Option.some.inj hr2
      obtain ⟨R, e1, e2⟩ := rsqrt_eq (k0 := k) (by omega) h2
      obtain rfl := Option.some.inj (h4.symm.trans e1)
      rw [if_neg (by simpa using hq), e2]
      rfl
  | bin op a b iha ihb =>
    intro he hl k hk r hr
    obtain ⟨k, rfl⟩ : ∃ m, k = m + 1 := ⟨k - 1, by omega⟩
    obtain ⟨u, h1, h2⟩ := Ex.ev_ok h a he.2.1
    obtain ⟨v, h3, h4⟩ := Ex.ev_ok h b he.2.2
    have hop : 7 ≤ op ∧ op ≤ 10 := he.1
    have hr2 : (if op = 7 then interval_Add u v else if op = 8 then interval_Sub u v else if op = 9 then interval_Mul u v else interval_Div u v) = some r := by simpa [Ex.ev, h1, h3] using hr
    have hla : a.code.length < 1000 := by simp only [Ex.code, List.length_cons, List.length_append] at hl; omega
    have hlb : b.code.length < 1000 := by simp only [Ex.code, List.length_cons, List.length_append] at hl; omega
    simp only [Ex.dep] at hk
    rw [armillaryref07_Eval, armillaryref07_Eval.body]
    refine start (.bin op a b) he hl k (by omega) [u, v] (.cons (iha he.2.1 hla k (by omega) u h1) (.cons (ihb he.2.2 hlb k (by omega) v h3) .nil)) _ _ ?_
    have hne : ∀ c : Int, c < 7 → ¬ ((op == c) = true) := fun c hc h => by have := eq_of_beq h; omega
    have c0 : 0 ≤ (0 : Int) ∧ (0 : Int) < (((Ex.bin op a b).code.length : Nat) : Int) := by simp only [Ex.code, List.length_cons]; omega
    have hx : ((Ex.bin op a b).code)[(0 : Int).toNat]? = some ⟨op, 0, Z0⟩ := rfl
    rw [if_pos c0, hx, Option.bind_some, if_neg (hne 1 (by decide)), if_neg (hne 2 (by decide)), if_neg (hne 3 (by decide)), if_neg (hne 4 (by decide)), if_neg (hne 5 (by decide)), if_neg (hne 6 (by decide))]
    by_cases c7 : op = 7
    · subst c7
      rw [if_pos (by rfl)]
      show (armillaryref02_Add u v).bind _ = _
      rw [radd_eq h2 h4]; rw [if_pos rfl] at hr2; rw [hr2]; rfl
    rw [if_neg (by simpa using c7)]
    rw [if_neg c7] at hr2
    by_cases c8 : op = 8
    · subst c8
      rw [if_pos (by rfl)]
      show (armillaryref02_Sub u v).bind _ = _
      rw [rsub_eq h2 h4]; rw [if_pos rfl] at hr2; rw [hr2]; rfl
    rw [if_neg (by simpa using c8)]
    rw [if_neg c8] at hr2
    by_cases c9 : op = 9
    · subst c9
      rw [if_pos (by rfl)]
      show (armillaryref02_Mul k u v).bind _ = _
      rw [rmul_eq (by omega) h2 h4]; rw [if_pos rfl] at hr2; rw [hr2]; rfl
    rw [if_neg (by simpa using c9)]
    rw [if_neg c9] at hr2
    show (armillaryref02_Div k u v).bind _ = _
    rw [rdiv_eq (by omega) h2 h4, hr2]; rfl
end Go.Proofs.YtkkodieceehkmaaDoor
