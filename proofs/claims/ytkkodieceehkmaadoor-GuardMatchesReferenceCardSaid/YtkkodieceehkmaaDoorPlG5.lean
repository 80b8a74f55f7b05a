/- G5: the plain law. Own work. -/
import Derived.Test.YtkkodieceehkmaaDoorPlG4
set_option maxRecDepth 10000
set_option linter.unusedVariables false
set_option linter.unusedSimpArgs false
/- Who is valid, for the program and for the reference. Own work. -/
namespace Go.Proofs.YtkkodieceehkmaaDoor
open Go
def vn (n : Int) (x : TNode) : Bool := if x.Op = 1 then decide (x.N = 0 ∧ Ok x.C) else if x.Op = 2 then decide ((0 ≤ x.N ∧ x.N < n) ∧ x.C = Z0) else decide ((ar x.Op).isSome = true ∧ x.N = 0 ∧ x.C = Z0)
def rn (n : Int) (x : TNode) : Bool := decide (¬ ((x.Op = 1 ∧ (x.N ≠ 0 ∨ ¬ Ok x.C)) ∨ (x.Op ≠ 1 ∧ x.C ≠ Z0)) ∧ ¬ ((x.Op = 2 ∧ (x.N < 0 ∨ n ≤ x.N)) ∨ (x.Op ≠ 2 ∧ x.N ≠ 0)))
theorem beqZ (a : TInterval) : ((a.Lo == 0) && ((a.Hi == 0) && true)) = decide (a = Z0) := by
  obtain ⟨x, y⟩ := a
  by_cases h1 : x = 0 <;> by_cases h2 : y = 0 <;> simp [h1, h2, Z0]
theorem vn_eq (x : TNode) (n : Int) : ode_validNode x n = some (vn n x) := by
  unfold ode_validNode vn
  by_cases h1 : x.Op = 1
  · rw [if_pos (by simpa using h1), if_pos h1]
    by_cases h2 : x.N = 0
    · rw [if_pos (by simpa using h2)]
      show (interval_Valid x.C).bind _ = _
      rw [ivalid_eq, Option.bind_some]
      simp [h2]
    · rw [if_neg (by simpa using h2), Option.bind_some]
      simp [h2]
  rw [if_neg (by simpa using h1), if_neg h1]
  by_cases h2 : x.Op = 2
  · rw [if_pos (by simpa using h2), if_pos h2, Option.bind_some, beqZ]
    simp [Bool.decide_and]
  rw [if_neg (by simpa using h2), if_neg h2, ode_arity_eq, Option.bind_some, beqZ]
  cases ha : ar x.Op with
  | none => simp
  | some a => by_cases hN : x.N = 0 <;> simp [hN]
theorem vn_ar {n : Int} {x : TNode} (h : vn n x = true) : ∃ a, ar x.Op = some a := by
  unfold vn at h
  by_cases h1 : x.Op = 1
  · exact ⟨0, by rw [h1]; rfl⟩
  rw [if_neg h1] at h
  by_cases h2 : x.Op = 2
  · exact ⟨0, by rw [h2]; rfl⟩
  rw [if_neg h2] at h
  exact Option.isSome_iff_exists.1 (of_decide_eq_true h).1
theorem vn_rn (n : Int) (x : TNode) : (vn n x = true) ↔ (rn n x = true ∧ ∃ a, ar x.Op = some a) := by
  constructor
  · intro h
    refine ⟨?_, vn_ar h⟩
    unfold vn at h
    unfold rn
    rw [decide_eq_true_eq]
    by_cases h1 : x.Op = 1
    · rw [if_pos h1] at h
      have := of_decide_eq_true h
      refine ⟨?_, ?_⟩
      · rintro (⟨_, h3⟩ | ⟨h3, _⟩)
        · rcases h3 with h3 | h3
          · exact h3 this.1
          · exact h3 this.2
        · exact h3 h1
      · rintro (⟨h3, _⟩ | ⟨_, h3⟩)
        · omega
        · exact h3 this.1
    rw [if_neg h1] at h
    by_cases h2 : x.Op = 2
    · rw [if_pos h2] at h
      have := of_decide_eq_true h
      refine ⟨?_, ?_⟩
      · rintro (⟨h3, _⟩ | ⟨_, h3⟩)
        · exact h1 h3
        · exact h3 this.2
      · rintro (⟨_, h3⟩ | ⟨h3, _⟩)
        · omega
        · exact h3 h2
    rw [if_neg h2] at h
    have := of_decide_eq_true h
    refine ⟨?_, ?_⟩
    · rintro (⟨h3, _⟩ | ⟨_, h3⟩)
      · exact h1 h3
      · exact h3 this.2.2
    · rintro (⟨h3, _⟩ | ⟨_, h3⟩)
      · exact h2 h3
      · exact h3 this.2.1
  · rintro ⟨h, ha⟩
    unfold rn at h
    have h := of_decide_eq_true h
    unfold vn
    by_cases h1 : x.Op = 1
    · rw [if_pos h1, decide_eq_true_eq]
      refine ⟨Decidable.byContradiction fun e => h.1 (.inl ⟨h1, .inl e⟩), Decidable.byContradiction fun e => h.1 (.inl ⟨h1, .inr e⟩)⟩
    rw [if_neg h1]
    have hc : x.C = Z0 := Decidable.byContradiction fun e => h.1 (.inr ⟨h1, e⟩)
    by_cases h2 : x.Op = 2
    · rw [if_pos h2, decide_eq_true_eq]
      refine ⟨Decidable.byContradiction fun e => h.2 (.inl ⟨h2, by omega⟩), hc⟩
    rw [if_neg h2, decide_eq_true_eq]
    exact ⟨Option.isSome_iff_exists.2 ha, Decidable.byContradiction fun e => h.2 (.inr ⟨h2, e⟩), hc⟩
theorem run_all : ∀ (l : List TNode) (m : Nat), run m l = some l.length → ∀ x ∈ l, ∃ a, ar x.Op = some a
  | [], _, _, x, hx => by cases hx
  | y :: l, 0, h, x, hx => by rw [run] at h; injection h with h; simp at h
  | y :: l, m + 1, h, x, hx => by
    rw [run] at h
    cases ha : ar y.Op with
    | none => rw [ha] at h; cases h
    | some a =>
      rw [ha] at h
      obtain ⟨k, hk, hk2⟩ := Option.map_eq_some_iff.1 h
      have : k = l.length := by simpa using hk2
      rcases List.mem_cons.1 hx with rfl | hx
      · exact ⟨a, ha⟩
      · exact run_all l (m + a) (by rw [hk, this]) x hx
/-- What it is to be a valid expression. -/
def VE (n : Int) (l : List TNode) : Prop := (0 < l.length ∧ l.length ≤ 200) ∧ (∀ x ∈ l, vn n x = true) ∧ run 1 l = some l.length
theorem mem_get {l : List TNode} {p : TNode → Bool} : (∀ i, i < l.length → p (l.getD i default) = true) ↔ ∀ x ∈ l, p x = true := by
  constructor
  · intro h x hx
    obtain ⟨i, hi, rfl⟩ := List.mem_iff_getElem.1 hx
    have := h i hi
    simpa [List.getD, hi] using this
  · intro h i hi
    have : l.getD i default = l[i] := by simp [List.getD, hi]
    rw [this]; exact h _ (List.getElem_mem hi)
theorem getD_some {l : List TNode} {i : Nat} (h : i < l.length) : l[i]? = some (l.getD i default) := by simp [List.getD, h]
theorem contains_bad {l : List TNode} (hl : l.length < 1000) {n : Int} {k : Nat} (hk : 1000 < k) : ∃ b : Bool, api_Node_51_s52 k l n = some b ∧ (b = false ↔ ∀ x ∈ l, vn n x = true) := by
  unfold api_Node_51_s52 api_Node_78_s52
  have hs : ∀ (m i : Nat), i < l.length → api_Node_78_s52.l6 k l n (m + 1) (i : Int) = if (!vn n (l.getD i default)) = true then some (.inl (i : Int)) else api_Node_78_s52.l6 k l n m ((i + 1 : Nat) : Int) := fun m i hi => by
    rw [api_Node_78_s52.l6, if_pos (dlt hi), if_pos (rng hi), Int.toNat_natCast, getD_some hi, Option.bind_some]
    unfold ode_ValidExpr_1
    rw [show ode_validNode (⟨(l.getD i default).Op, (l.getD i default).N, ⟨(l.getD i default).C.Lo, (l.getD i default).C.Hi⟩⟩ : TNode) n = ode_validNode (l.getD i default) n from rfl, vn_eq, Option.bind_some, Option.bind_some, wk (by omega) (by omega)]
    rfl
  have he : ∀ m : Nat, api_Node_78_s52.l6 k l n (m + 1) (l.length : Int) = some (.inr ()) := fun m => by rw [api_Node_78_s52.l6, if_neg (by simp)]
  rcases loop_find (api_Node_78_s52.l6 k l n) l.length (fun i => !vn n (l.getD i default)) (fun i => (i : Int)) hs he (k := k) (by omega) with ⟨i, hi, hp, _, h⟩ | ⟨hp, h⟩
  · rw [h]
    refine ⟨true, by simp, ?_⟩
    constructor
    · intro e; cases e
    · intro e
      have := mem_get.2 e i hi
      rw [this] at hp; cases hp
  · rw [h]
    refine ⟨false, by simp, ?_⟩
    simp only [true_iff]
    exact mem_get.1 fun i hi => by have := hp i hi; simpa using this
instance (n : Int) (l : List TNode) : Decidable (VE n l) := by unfold VE; infer_instance
theorem oval {l : List TNode} (hl : l.length < 1000) {n : Int} {k : Nat} (hk : 1000 < k) : ode_ValidExpr k l n = some (decide (VE n l)) := by
  unfold ode_ValidExpr
  by_cases h1 : 0 < l.length ∧ l.length ≤ 200
  · have c1 : (decide ((l.length : Int) > 0) && decide ((l.length : Int) ≤ 200)) = true := by simp; omega
    obtain ⟨b, hb, hb2⟩ := contains_bad hl (n := n) hk
    rw [c1, if_pos (by simp), hb, Option.bind_some]
    cases b with
    | true =>
      rw [if_neg (by simp), Option.bind_some, Option.bind_some]
      have : ¬ VE n l := fun h => by have := hb2.2 h.2.1; cases this
      simp [this]
    | false =>
      have hv := hb2.1 rfl
      rw [if_pos (by simp), oexpr_eq hl hk (fun x hx => vn_ar (hv x hx)), Option.bind_some, Option.bind_some]
      cases hr : run 1 l with
      | none =>
        have : ¬ VE n l := fun h => by rw [h.2.2] at hr; cases hr
        simp [this] <;> omega
      | some m =>
        by_cases e : m = l.length
        · have : VE n l := ⟨h1, hv, by rw [hr, e]⟩
          simp [this, e]
        · have : ¬ VE n l := fun h => by rw [h.2.2] at hr; injection hr with hr; exact e hr.symm
          simp [this] <;> omega
  · have c1 : (decide ((l.length : Int) > 0) && decide ((l.length : Int) ≤ 200)) = false := by simp; omega
    rw [c1, if_neg (by simp), Option.bind_some, if_neg (by simp), Option.bind_some, Option.bind_some]
    have : ¬ VE n l := fun h => h1 h.1
    simp [this]
theorem rval {l : List TNode} (hl : l.length < 1000) {n : Int} {k : Nat} (hk : 2000 < k) : armillaryref07_ValidExpr k l n = some (decide (VE n l)) := by
  unfold armillaryref07_ValidExpr
  by_cases h1 : 0 < l.length ∧ l.length ≤ 200
  · have hne : l ≠ [] := by rintro rfl; simp at h1
    rw [if_neg (by simp [hne]; omega)]
    have hloop := loop_all (armillaryref07_ValidExpr.l9 k l n) l.length (fun i => rn n (l.getD i default)) (fun m i hi => ?_) (fun m => ?_) (k := k) (by omega)
    · rw [hloop, Option.bind_some]
      by_cases ha : allB l.length (fun i => rn n (l.getD i default)) = true
      · rw [if_pos ha]
        dsimp only
        rw [rexpr_eq hl (by omega), Option.bind_some]
        have hrn := mem_get.1 (allB_iff.1 ha)
        cases hr : run 1 l with
        | none =>
          have : ¬ VE n l := fun h => by rw [h.2.2] at hr; cases hr
          simp [this] <;> omega
        | some m =>
          by_cases e : m = l.length
          · have hrun : run 1 l = some l.length := by rw [hr, e]
            have : VE n l := ⟨h1, fun x hx => (vn_rn n x).2 ⟨hrn x hx, run_all l 1 hrun x hx⟩, hrun⟩
            simp [this, e]
          · have : ¬ VE n l := fun h => by rw [h.2.2] at hr; injection hr with hr; exact e hr.symm
            simp [this] <;> omega
      · rw [if_neg ha]
        have : ¬ VE n l := fun h => ha (allB_iff.2 (mem_get.2 fun x hx => ((vn_rn n x).1 (h.2.1 x hx)).1))
        simp [this]
    · rw [armillaryref07_ValidExpr.l9, if_pos (dlt hi), if_pos (rng hi), Int.toNat_natCast, getD_some hi, Option.bind_some]
      generalize l.getD i default = x
      have hw : w_i64 ((i : Int) + 1) = ((i + 1 : Nat) : Int) := by rw [wk (by omega) (by omega)]; omega
      rw [hw, beqZ, show armillaryref02_Valid (⟨x.C.Lo, x.C.Hi⟩ : TInterval) = armillaryref02_Valid x.C from rfl, valid_eq]
      have hb : ∀ (b : Bool), (if (((x.Op == 1) == true) && ((x.N != 0) == false)) = true then some (decide (Ok x.C)) else some default) = some b → ((((x.Op == 1) && ((x.N != 0) || (!b))) || ((x.Op != 1) && (!(decide (x.C = Z0))))) = true ↔ ((x.Op = 1 ∧ (x.N ≠ 0 ∨ ¬ Ok x.C)) ∨ (x.Op ≠ 1 ∧ x.C ≠ Z0))) := by
        intro b hb
        by_cases o1 : x.Op = 1
        · by_cases o2 : x.N = 0
          · rw [if_pos (by simp [o1, o2])] at hb
            injection hb with hb
            subst hb
            simp [o1, o2]
          · simp [o1, o2]
        · simp [o1]
      obtain ⟨b, hb1⟩ : ∃ b, (if (((x.Op == 1) == true) && ((x.N != 0) == false)) = true then some (decide (Ok x.C)) else some default) = some b := by split <;> exact ⟨_, rfl⟩
      rw [hb1, Option.bind_some]
      have hb2 := hb b hb1
      by_cases q1 : (x.Op = 1 ∧ (x.N ≠ 0 ∨ ¬ Ok x.C)) ∨ (x.Op ≠ 1 ∧ x.C ≠ Z0)
      · rw [if_pos (hb2.2 q1), if_neg (by unfold rn; simp only [decide_eq_true_eq]; exact fun h => h.1 q1)]
      · rw [if_neg (fun h => q1 (hb2.1 h))]
        by_cases q2 : (x.Op = 2 ∧ (x.N < 0 ∨ n ≤ x.N)) ∨ (x.Op ≠ 2 ∧ x.N ≠ 0)
        · rw [if_pos (by simpa using q2), if_neg (by unfold rn; simp only [decide_eq_true_eq]; exact fun h => h.2 q2)]
        · rw [if_neg (by simpa using q2), if_pos (by unfold rn; simp only [decide_eq_true_eq]; exact ⟨q1, q2⟩)]
    · rw [armillaryref07_ValidExpr.l9, if_neg (by simp)]
  · rw [if_pos (by
      have : l.length = 0 ∨ 200 < l.length := by omega
      rcases this with h | h
      · simp [List.length_eq_zero_iff.1 h]
      · simp; omega)]
    have : ¬ VE n l := fun h => h1 h.1
    simp [this]
theorem gvalid {g : TGuard} (hl : g.F.length < 1000) {n : Int} {k : Nat} (hk : 2000 < k) : guard_Valid k g n = some (decide ((1 ≤ n ∧ n ≤ 6) ∧ (-1 ≤ g.Dir ∧ g.Dir ≤ 1) ∧ VE n g.F)) ∧ armillaryref15_Valid k g n = some (decide ((1 ≤ n ∧ n ≤ 6) ∧ (-1 ≤ g.Dir ∧ g.Dir ≤ 1) ∧ VE n g.F)) := by
  constructor
  · unfold guard_Valid
    rw [Option.bind_some, oval hl (by omega)]
    by_cases h1 : 1 ≤ n ∧ n ≤ 6
    · by_cases h2 : -1 ≤ g.Dir ∧ g.Dir ≤ 1
      · rw [if_pos (by simp; omega), Option.bind_some]; simp [h1, h2]
      · rw [if_neg (by simp; omega), Option.bind_some]; simp [h1, h2] <;> omega
    · rw [if_neg (by simp; omega), Option.bind_some]; simp [h1] <;> omega
  · unfold armillaryref15_Valid
    rw [rval hl hk]
    by_cases h1 : 1 ≤ n ∧ n ≤ 6
    · rw [if_pos (by simp; omega), Option.bind_some, Option.bind_some]
      simp only [h1, decide_true, Bool.and_self, ge_iff_le, Bool.true_and, and_self, true_and, Bool.decide_and]
      cases decide (VE n g.F) <;> simp
    · rw [if_neg (by simp; omega), Option.bind_some, Option.bind_some]; simp [h1] <;> omega
theorem code_vn {n : Int} : ∀ (e : Ex), e.ok n → ∀ x ∈ e.code, vn n x = true
  | .num c, h, x, hx => by obtain rfl := List.mem_singleton.1 hx; unfold vn; rw [if_pos rfl, decide_eq_true_eq]; exact ⟨rfl, h⟩
  | .var k, h, x, hx => by obtain rfl := List.mem_singleton.1 hx; unfold vn; rw [if_neg (show ¬ (2 : Int) = 1 by decide), if_pos rfl, decide_eq_true_eq]; exact ⟨h, rfl⟩
  | .time, h, x, hx => by obtain rfl := List.mem_singleton.1 hx; rfl
  | .neg e, h, x, hx => by
    rcases List.mem_cons.1 hx with rfl | hx
    · rfl
    · exact code_vn e h x hx
  | .sqr e, h, x, hx => by
    rcases List.mem_cons.1 hx with rfl | hx
    · rfl
    · exact code_vn e h x hx
  | .sqrt e, h, x, hx => by
    rcases List.mem_cons.1 hx with rfl | hx
    · rfl
    · exact code_vn e h x hx
  | .bin op a b, h, x, hx => by
    rcases List.mem_cons.1 hx with rfl | hx
    · have := h.1
      unfold vn
      rw [if_neg (show ¬ op = 1 by omega), if_neg (show ¬ op = 2 by omega), decide_eq_true_eq]
      refine ⟨?_, rfl, rfl⟩
      unfold ar
      rw [if_neg (show ¬ (1 ≤ op ∧ op ≤ 3) by omega), if_neg (show ¬ (4 ≤ op ∧ op ≤ 6) by omega), if_pos (show 7 ≤ op ∧ op ≤ 10 by omega)]; rfl
    · rcases List.mem_append.1 hx with hx | hx
      · exact code_vn a h.2.1 x hx
      · exact code_vn b h.2.2 x hx
theorem code_VE {n : Int} {e : Ex} (h : e.ok n) (hl : e.code.length ≤ 200) : VE n e.code := by
  refine ⟨⟨e.code_pos, hl⟩, code_vn e h, ?_⟩
  have := run_code e n h 0 []
  rw [List.append_nil, Nat.zero_add, run] at this
  simpa using this
end Go.Proofs.YtkkodieceehkmaaDoor
