/- G2: the plain law. Own work. -/
import Derived.Test.YtkkodieceehkmaaDoorPlG1
set_option maxRecDepth 10000
set_option linter.unusedVariables false
set_option linter.unusedSimpArgs false
/- Expressions as trees: how they are written down, what they come to. Own work. -/
namespace Go.Proofs.YtkkodieceehkmaaDoor
open Go
inductive Ex where
  | num (c : TInterval)
  | var (n : Int)
  | time
  | neg (e : Ex)
  | sqr (e : Ex)
  | sqrt (e : Ex)
  | bin (op : Int) (a b : Ex)
abbrev Z0 : TInterval := ⟨0, 0⟩
def Ex.code : Ex → List TNode
  | .num c => [⟨1, 0, c⟩]
  | .var n => [⟨2, n, Z0⟩]
  | .time => [⟨3, 0, Z0⟩]
  | .neg e => ⟨4, 0, Z0⟩ :: e.code
  | .sqr e => ⟨5, 0, Z0⟩ :: e.code
  | .sqrt e => ⟨6, 0, Z0⟩ :: e.code
  | .bin op a b => ⟨op, 0, Z0⟩ :: (a.code ++ b.code)
def Ex.ok (n : Int) : Ex → Prop
  | .num c => Ok c
  | .var k => 0 ≤ k ∧ k < n
  | .time => True
  | .neg e => e.ok n
  | .sqr e => e.ok n
  | .sqrt e => e.ok n
  | .bin op a b => (7 ≤ op ∧ op ≤ 10) ∧ a.ok n ∧ b.ok n
def Ex.dep : Ex → Nat
  | .neg e => e.dep + 1
  | .sqr e => e.dep + 1
  | .sqrt e => e.dep + 1
  | .bin _ a b => max a.dep b.dep + 1
  | _ => 1
abbrev K32 : Nat := 4294967296
def sqv (a : TInterval) : Option TInterval := if a.Lo < 0 then some Ent else (interval_Sqrt (K32 + 1) a).map (·.1)
def Ex.ev (x : List TInterval) (t : TInterval) : Ex → Option TInterval
  | .num c => some c
  | .var n => x[n.toNat]?
  | .time => some t
  | .neg e => (e.ev x t).bind interval_Neg
  | .sqr e => (e.ev x t).bind interval_Square
  | .sqrt e => (e.ev x t).bind sqv
  | .bin op a b => (a.ev x t).bind fun u => (b.ev x t).bind fun v => if op = 7 then interval_Add u v else if op = 8 then interval_Sub u v else if op = 9 then interval_Mul u v else interval_Div u v
theorem Root.uniq {n s t s' t' : Int} (h : Root n s t) (h' : Root n s' t') : s = s' ∧ t = t' := by
  have h1 := Root.mono h h' (Int.le_refl _)
  have h2 := Root.mono h' h (Int.le_refl _)
  omega
theorem sqrt_k {a : TInterval} (ha : Ok a) (h0 : 0 ≤ a.Lo) {k : Nat} (hk : K32 < k) : ∃ r, Ok r ∧ interval_Sqrt k a = some (r, true) ∧ interval_Sqrt (K32 + 1) a = some (r, true) := by
  rcases ha with rfl | fa
  · exact absurd h0 (by decide)
  · have h2 : 0 ≤ a.Hi := by have := fa.le; omega
    obtain ⟨s, t, u, v, e1, r1, r2, h3, h4⟩ := isqrt_fin hk fa h2
    obtain ⟨s', t', u', v', e1', r1', r2', h3', h4'⟩ := isqrt_fin (k0 := K32 + 1) (by decide) fa h2
    obtain ⟨rfl, _⟩ := Root.uniq r1 r1'
    obtain ⟨_, rfl⟩ := Root.uniq r2 r2'
    exact ⟨⟨s, t⟩, .inr h4, e1, e1'⟩
theorem sqv_ok {a : TInterval} (ha : Ok a) : ∃ r, sqv a = some r ∧ Ok r := by
  unfold sqv
  by_cases h : a.Lo < 0
  · exact ⟨Ent, by rw [if_pos h], .inl rfl⟩
  · obtain ⟨r, h1, _, h3⟩ := sqrt_k ha (by omega) (k := K32 + 1) (by decide)
    exact ⟨r, by rw [if_neg h, h3]; rfl, h1⟩
structure Env (n : Int) (x : List TInterval) (t : TInterval) : Prop where
  len : (x.length : Int) = n
  ok : ∀ y ∈ x, Ok y
  tok : Ok t
theorem Env.get {n : Int} {x : List TInterval} {t : TInterval} (h : Env n x t) {k : Int} (hk : 0 ≤ k ∧ k < n) : ∃ y, x[k.toNat]? = some y ∧ Ok y := by
  have hlt : k.toNat < x.length := by have := h.len; omega
  exact ⟨x[k.toNat], List.getElem?_eq_getElem hlt, h.ok _ (List.getElem_mem hlt)⟩
theorem bin_ok {op : Int} {u v : TInterval} (hu : Ok u) (hv : Ok v) : ∃ r, (if op = 7 then interval_Add u v else if op = 8 then interval_Sub u v else if op = 9 then interval_Mul u v else interval_Div u v) = some r ∧ Ok r := by
  split
  · exact add_ok' hu hv
  split
  · exact sub_ok hu hv
  split
  · exact mul_ok hu hv
  · exact div_ok hu hv
theorem Ex.ev_ok {n : Int} {x : List TInterval} {t : TInterval} (h : Env n x t) : ∀ e : Ex, e.ok n → ∃ r, e.ev x t = some r ∧ Ok r
  | .num c, he => ⟨c, rfl, he⟩
  | .var k, he => h.get he
  | .time, _ => ⟨t, rfl, h.tok⟩
  | .neg e, he => by
    obtain ⟨r, h1, h2⟩ := Ex.ev_ok h e he
    exact ⟨ngv r, by simp only [Ex.ev, h1, Option.bind_some]; exact neg_is h2, ngv_ok h2⟩
  | .sqr e, he => by
    obtain ⟨r, h1, h2⟩ := Ex.ev_ok h e he
    obtain ⟨q, h3, h4⟩ := sq_ok h2
    exact ⟨q, by simp only [Ex.ev, h1, Option.bind_some]; exact h3, h4⟩
  | .sqrt e, he => by
    obtain ⟨r, h1, h2⟩ := Ex.ev_ok h e he
    obtain ⟨q, h3, h4⟩ := sqv_ok h2
    exact ⟨q, by simp only [Ex.ev, h1, Option.bind_some]; exact h3, h4⟩
  | .bin op a b, he => by
    obtain ⟨u, h1, h2⟩ := Ex.ev_ok h a he.2.1
    obtain ⟨v, h3, h4⟩ := Ex.ev_ok h b he.2.2
    obtain ⟨q, h5, h6⟩ := bin_ok (op := op) h2 h4
    exact ⟨q, by simp only [Ex.ev, h1, h3, Option.bind_some]; exact h5, h6⟩
theorem Ex.code_pos : ∀ e : Ex, 0 < e.code.length
  | .num _ | .var _ | .time | .neg _ | .sqr _ | .sqrt _ | .bin _ _ _ => by simp [Ex.code]
/-- The code's head, wherever it stands. -/
theorem get_mid {pre post : List TNode} {x : TNode} {r : List TNode} {l : List TNode} (hl : l = pre ++ (x :: r) ++ post) : l[((pre.length : Int)).toNat]? = some x := by
  subst hl
  rw [Int.toNat_natCast, List.append_assoc, List.getElem?_append_right (Nat.le_refl _), Nat.sub_self]
  rfl
theorem len_mid {pre post : List TNode} {x : TNode} {r : List TNode} {l : List TNode} (hl : l = pre ++ (x :: r) ++ post) : 0 ≤ (pre.length : Int) ∧ (pre.length : Int) < (l.length : Int) := by
  subst hl
  simp only [List.length_append, List.length_cons]
  omega
theorem Ex.eval {n : Int} {x : List TInterval} {t : TInterval} (h : Env n x t) {l : List TNode} (hlen : l.length < 1000000) : ∀ (e : Ex), e.ok n → ∀ (k : Nat), K32 + e.dep < k → ∀ (pre post : List TNode), l = pre ++ e.code ++ post →
    ∀ r, e.ev x t = some r → ode_Eval_1 k l (pre.length : Int) x t = some (r, ((pre.length + e.code.length : Nat) : Int)) := by
  intro e
  have hw : ∀ {m : Nat}, m ≤ l.length → w_i64 ((m : Int)) = (m : Int) := fun hm => w64 (by omega) (by omega)
  have hw1 : ∀ {p : Nat}, p + 1 ≤ l.length → w_i64 ((p : Int) + 1) = ((p + 1 : Nat) : Int) := fun h => (w64 (by omega) (by omega)).trans (by omega)
  have hpl : ∀ {pre c post : List TNode}, l = pre ++ c ++ post → pre.length + c.length ≤ l.length := fun e => by rw [e]; simp only [List.length_append]; omega
  induction e with
  | num c =>
    intro he k hk pre post hl r hr
    obtain ⟨k, rfl⟩ : ∃ m, k = m + 1 := ⟨k - 1, by omega⟩
    obtain rfl := Option.some.inj hr
    have hp := hpl hl
    rw [ode_Eval_1, ode_Eval_1.body, if_pos (len_mid hl), get_mid hl, Option.bind_some, if_pos (by rfl)]
    have : w_i64 ((pre.length : Int) + 1) = ((pre.length + 1 : Nat) : Int) := hw1 hp
    rw [this]; rfl
  | var q =>
    intro he k hk pre post hl r hr
    obtain ⟨k, rfl⟩ : ∃ m, k = m + 1 := ⟨k - 1, by omega⟩
    have hp := hpl hl
    have hq : 0 ≤ q ∧ q < n := he
    have hlx := h.len
    rw [ode_Eval_1, ode_Eval_1.body, if_pos (len_mid hl), get_mid hl, Option.bind_some, if_neg (by show ¬ ((2 : Int) == 1) = true; decide), if_pos (by rfl), if_pos (by show 0 ≤ q ∧ q < (x.length : Int); omega)]
    have hr' : x[q.toNat]? = some r := hr
    have : w_i64 ((pre.length : Int) + 1) = ((pre.length + 1 : Nat) : Int) := hw1 hp
    show (x[q.toNat]?).bind _ = _
    rw [hr', Option.bind_some, this]; rfl
  | time =>
    intro he k hk pre post hl r hr
    obtain ⟨k, rfl⟩ : ∃ m, k = m + 1 := ⟨k - 1, by omega⟩
    obtain rfl := Option.some.inj hr
    have hp := hpl hl
    rw [ode_Eval_1, ode_Eval_1.body, if_pos (len_mid hl), get_mid hl, Option.bind_some, if_neg (by show ¬ ((3 : Int) == 1) = true; decide), if_neg (by show ¬ ((3 : Int) == 2) = true; decide), if_pos (by rfl)]
    have : w_i64 ((pre.length : Int) + 1) = ((pre.length + 1 : Nat) : Int) := hw1 hp
    rw [this]; rfl
  | neg e ih =>
    intro he k hk pre post hl r hr
    obtain ⟨k, rfl⟩ : ∃ m, k = m + 1 := ⟨k - 1, by omega⟩
    have hp := hpl hl
    obtain ⟨q, h1, h2⟩ := Ex.ev_ok h e he
    have hr2 : interval_Neg q = some r := by simpa [Ex.ev, h1] using hr
    have hl2 : l = (pre ++ [⟨4, 0, Z0⟩]) ++ e.code ++ post := by rw [hl]; simp [Ex.code]
    have hi := ih he k (by simp only [Ex.dep] at hk; omega) _ post hl2 q h1
    have e1 : w_i64 ((pre.length : Int) + 1) = ((pre.length + 1 : Nat) : Int) := hw1 (by have := Ex.code_pos (.neg e); omega)
    have e2 : ((pre ++ [⟨4, 0, Z0⟩] : List TNode).length : Int) = ((pre.length + 1 : Nat) : Int) := by simp
    rw [e2] at hi
    rw [ode_Eval_1, ode_Eval_1.body, if_pos (len_mid hl), get_mid hl, Option.bind_some, if_neg (by show ¬ ((4 : Int) == 1) = true; decide), if_neg (by show ¬ ((4 : Int) == 2) = true; decide), if_neg (by show ¬ ((4 : Int) == 3) = true; decide), if_pos (by rfl), e1, hi, Option.bind_some]
    show (interval_Neg q).bind _ = _
    rw [hr2, Option.bind_some]
    simp only [Ex.code, List.length_cons, List.length_append, List.length_nil]
    congr 2; omega
  | sqr e ih =>
    intro he k hk pre post hl r hr
    obtain ⟨k, rfl⟩ : ∃ m, k = m + 1 := ⟨k - 1, by omega⟩
    have hp := hpl hl
    obtain ⟨q, h1, h2⟩ := Ex.ev_ok h e he
    have hr2 : interval_Square q = some r := by simpa [Ex.ev, h1] using hr
    have hl2 : l = (pre ++ [⟨5, 0, Z0⟩]) ++ e.code ++ post := by rw [hl]; simp [Ex.code]
    have hi := ih he k (by simp only [Ex.dep] at hk; omega) _ post hl2 q h1
    have e1 : w_i64 ((pre.length : Int) + 1) = ((pre.length + 1 : Nat) : Int) := hw1 (by have := Ex.code_pos (.sqr e); omega)
    have e2 : ((pre ++ [⟨5, 0, Z0⟩] : List TNode).length : Int) = ((pre.length + 1 : Nat) : Int) := by simp
    rw [e2] at hi
    rw [ode_Eval_1, ode_Eval_1.body, if_pos (len_mid hl), get_mid hl, Option.bind_some, if_neg (by show ¬ ((5 : Int) == 1) = true; decide), if_neg (by show ¬ ((5 : Int) == 2) = true; decide), if_neg (by show ¬ ((5 : Int) == 3) = true; decide), if_neg (by show ¬ ((5 : Int) == 4) = true; decide), if_pos (by rfl), e1, hi, Option.bind_some]
    show (interval_Square q).bind _ = _
    rw [hr2, Option.bind_some]
    simp only [Ex.code, List.length_cons, List.length_append, List.length_nil]
    congr 2; omega
  | sqrt e ih =>
    intro he k hk pre post hl r hr
    obtain ⟨k, rfl⟩ : ∃ m, k = m + 1 := ⟨k - 1, by omega⟩
    have hp := hpl hl
    obtain ⟨q, h1, h2⟩ := Ex.ev_ok h e he
    have hr2 : sqv q = some r := by simpa [Ex.ev, h1] using hr
    have hl2 : l = (pre ++ [⟨6, 0, Z0⟩]) ++ e.code ++ post := by rw [hl]; simp [Ex.code]
    have hi := ih he k (by simp only [Ex.dep] at hk; omega) _ post hl2 q h1
    have e1 : w_i64 ((pre.length : Int) + 1) = ((pre.length + 1 : Nat) : Int) := hw1 (by have := Ex.code_pos (.sqrt e); omega)
    have e2 : ((pre ++ [⟨6, 0, Z0⟩] : List TNode).length : Int) = ((pre.length + 1 : Nat) : Int) := by simp
    rw [e2] at hi
    rw [ode_Eval_1, ode_Eval_1.body, if_pos (len_mid hl), get_mid hl, Option.bind_some, if_neg (by show ¬ ((6 : Int) == 1) = true; decide), if_neg (by show ¬ ((6 : Int) == 2) = true; decide), if_neg (by show ¬ ((6 : Int) == 3) = true; decide), if_neg (by show ¬ ((6 : Int) == 4) = true; decide), if_neg (by show ¬ ((6 : Int) == 5) = true; decide), if_pos (by rfl), e1, hi, Option.bind_some]
    by_cases hq : q.Lo < 0
    · rw [sqv, if_pos hq] at hr2
      obtain rfl := Option.some.inj hr2
      rw [if_pos (by simpa using hq)]
      show (some Ent : Option TInterval).bind _ = _
      rw [Option.bind_some]
      simp only [Ex.code, List.length_cons, List.length_append, List.length_nil]
      congr 2; omega
    · rw [sqv, if_neg hq] at hr2
      obtain ⟨r', h3, h4, h5⟩ := sqrt_k h2 (by omega) (k := k) (by simp only [Ex.dep] at hk; omega)
      rw [h5] at hr2
      obtain rfl := Option.some.inj hr2
      rw [if_neg (by simpa using hq)]
      show (interval_Sqrt k q).bind _ = _
      rw [h4, Option.bind_some]
      simp only [Ex.code, List.length_cons, List.length_append, List.length_nil]
      congr 2; omega
  | bin op a b iha ihb =>
    intro he k hk pre post hl r hr
    obtain ⟨k, rfl⟩ : ∃ m, k = m + 1 := ⟨k - 1, by omega⟩
    have hp := hpl hl
    obtain ⟨u, h1, h2⟩ := Ex.ev_ok h a he.2.1
    obtain ⟨v, h3, h4⟩ := Ex.ev_ok h b he.2.2
    have hop : 7 ≤ op ∧ op ≤ 10 := he.1
    have hr2 : (if op = 7 then interval_Add u v else if op = 8 then interval_Sub u v else if op = 9 then interval_Mul u v else interval_Div u v) = some r := by simpa [Ex.ev, h1, h3] using hr
    have hl2 : l = (pre ++ [⟨op, 0, Z0⟩]) ++ a.code ++ (b.code ++ post) := by rw [hl]; simp [Ex.code]
    have hl3 : l = (pre ++ [⟨op, 0, Z0⟩] ++ a.code) ++ b.code ++ post := by rw [hl]; simp [Ex.code]
    have hia := iha he.2.1 k (by simp only [Ex.dep] at hk; omega) _ _ hl2 u h1
    have hib := ihb he.2.2 k (by simp only [Ex.dep] at hk; omega) _ post hl3 v h3
    have e1 : w_i64 ((pre.length : Int) + 1) = ((pre.length + 1 : Nat) : Int) := hw1 (by have := Ex.code_pos (.bin op a b); omega)
    have e2 : (pre ++ [⟨op, 0, Z0⟩] : List TNode).length = pre.length + 1 := by simp
    have e3 : (pre ++ [⟨op, 0, Z0⟩] ++ a.code : List TNode).length = pre.length + 1 + a.code.length := by simp only [List.length_append, List.length_cons, List.length_nil]
    rw [e2] at hia
    rw [e3] at hib
    have hne : ∀ c : Int, c < 7 → ¬ ((op == c) = true) := fun c hc h => by have := eq_of_beq h; omega
    rw [ode_Eval_1, ode_Eval_1.body, if_pos (len_mid hl), get_mid hl, Option.bind_some, if_neg (hne 1 (by decide)), if_neg (hne 2 (by decide)), if_neg (hne 3 (by decide)), if_neg (hne 4 (by decide)), if_neg (hne 5 (by decide)), if_neg (hne 6 (by decide)), e1, hia, Option.bind_some]
    have hfin : (some (r, ((pre.length + 1 + a.code.length + b.code.length : Nat) : Int)) : Option (TInterval × Int)) = some (r, ((pre.length + (Ex.bin op a b).code.length : Nat) : Int)) := by
      simp only [Ex.code, List.length_cons, List.length_append]
      congr 2; omega
    rw [← hfin, Option.bind_some]
    simp only []
    by_cases c7 : op = 7
    · rw [if_pos c7] at hr2 ⊢
      rw [hib, Option.bind_some]
      show (interval_Add u v).bind _ = _
      rw [hr2]; rfl
    rw [if_neg c7] at hr2 ⊢
    by_cases c8 : op = 8
    · rw [if_pos c8] at hr2 ⊢
      rw [hib, Option.bind_some]
      show (interval_Sub u v).bind _ = _
      rw [hr2]; rfl
    rw [if_neg c8] at hr2 ⊢
    by_cases c9 : op = 9
    · rw [if_pos c9] at hr2 ⊢
      rw [hib, Option.bind_some]
      show (interval_Mul u v).bind _ = _
      rw [hr2]; rfl
    rw [if_neg c9] at hr2 ⊢
    have c10 : op = 10 := by omega
    rw [if_pos c10, hib, Option.bind_some]
    show (interval_Div u v).bind _ = _
    rw [hr2]; rfl
theorem eval_ex {n : Int} {x : List TInterval} {t : TInterval} (h : Env n x t) {e : Ex} (he : e.ok n) (hlen : e.code.length < 1000000) {k : Nat} (hk : K32 + e.dep < k) {d : Int} : ∃ r, Ok r ∧ e.ev x t = some r ∧ guard_Eval k ⟨e.code, d⟩ x t = some r := by
  obtain ⟨r, h1, h2⟩ := e.ev_ok h he
  refine ⟨r, h2, h1, ?_⟩
  have := e.eval h hlen he k hk [] [] (by simp) r h1
  unfold guard_Eval ode_Eval
  show ((ode_Eval_1 k e.code ((([] : List TNode).length : Nat) : Int) x t).bind _).bind _ = _
  rw [this]; rfl
end Go.Proofs.YtkkodieceehkmaaDoor
