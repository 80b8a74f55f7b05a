/- G3: the plain law. Own work. -/
import Derived.Test.YtkkodieceehkmaaDoorPlG2
set_option maxRecDepth 10000
set_option linter.unusedVariables false
set_option linter.unusedSimpArgs false
/- Loops as lists, how guards and segments are made. Own work. -/
namespace Go.Proofs.YtkkodieceehkmaaDoor
open Go
def mk {α : Type} (n : Nat) (f : Nat → α) : List α := (List.range n).map f
theorem mk_len {α : Type} (n : Nat) (f : Nat → α) : (mk n f).length = n := by simp [mk]
theorem mk_get {α : Type} {n i : Nat} (f : Nat → α) (h : i < n) : (mk n f)[i]? = some (f i) := by simp [mk, h]
theorem mk_succ {α : Type} (n : Nat) (f : Nat → α) : mk (n + 1) f = mk n f ++ [f n] := by simp [mk, List.range_succ]
theorem mk_congr {α : Type} {n : Nat} {f g : Nat → α} (h : ∀ i, i < n → f i = g i) : mk n f = mk n g := by
  unfold mk
  exact List.map_congr_left fun i hi => h i (List.mem_range.1 hi)
theorem mk_of {α : Type} (l : List α) (d : α) : l = mk l.length fun i => l.getD i d := by
  apply List.ext_getElem?
  intro i
  by_cases h : i < l.length
  · rw [mk_get _ h, List.getElem?_eq_getElem h]
    simp [List.getD, h]
  · rw [List.getElem?_eq_none (by omega), List.getElem?_eq_none (by rw [mk_len]; omega)]
theorem wnext {i : Nat} (h : i < 1000000) : w_i64 ((i : Int) + 1) = ((i + 1 : Nat) : Int) := by
  rw [w64 (by omega) (by omega)]; omega
theorem loop_map {β : Type} (l : Nat → List β → Int → Option (List β)) (n : Nat) (f : Nat → β) (hn : n < 1000000)
    (hs : ∀ (k : Nat) (acc : List β) (i : Nat), i < n → acc.length < 1000000 → l (k + 1) acc (i : Int) = l k (acc ++ [f i]) ((i + 1 : Nat) : Int))
    (he : ∀ (k : Nat) (acc : List β), l (k + 1) acc (n : Int) = some acc) {k : Nat} (hk : n < k) : l k [] 0 = some (mk n f) := by
  have key : ∀ (r i k : Nat), i + r = n → r < k → l k (mk i f) (i : Int) = some (mk n f) := by
    intro r
    induction r with
    | zero =>
      intro i k hi hk
      obtain ⟨k, rfl⟩ : ∃ m, k = m + 1 := ⟨k - 1, by omega⟩
      obtain rfl : i = n := by omega
      exact he k _
    | succ r ih =>
      intro i k hi hk
      obtain ⟨k, rfl⟩ : ∃ m, k = m + 1 := ⟨k - 1, by omega⟩
      rw [hs k _ i (by omega) (by rw [mk_len]; omega), ← mk_succ]
      exact ih (i + 1) k (by omega) (by omega)
  exact key n 0 k (by omega) hk
theorem dlt {i n : Nat} (h : i < n) : decide ((i : Int) < (n : Int)) = true := decide_eq_true (by omega)
theorem dnl (n : Nat) : decide ((n : Int) < (n : Int)) = false := decide_eq_false (by omega)
theorem rng {i n : Nat} (h : i < n) : 0 ≤ (i : Int) ∧ (i : Int) < (n : Int) := ⟨by omega, by omega⟩
theorem notif {α : Type} (b : Bool) (X Y : α) : (if (!b) = true then X else Y) = if b = true then Y else X := by cases b <;> rfl
def hullI (a b : TInterval) : TInterval := ⟨mn a.Lo b.Lo, mx a.Hi b.Hi⟩
theorem rhull {n : Nat} (hn : n < 1000000) (f g : Nat → TInterval) {k : Nat} (hk : n < k) : armillaryref03_Hull k (mk n f) (mk n g) = some (mk n (fun i => hullI (f i) (g i))) := by
  unfold armillaryref03_Hull
  rw [loop_map (armillaryref03_Hull.l9 k (mk n f) (mk n g)) n (fun i => hullI (f i) (g i)) hn (fun m acc i hi ha => ?_) (fun m acc => ?_) hk]
  · rfl
  · rw [armillaryref03_Hull.l9]
    simp only [mk_len, dlt hi, decide_true, if_true, rng hi, and_self, Int.toNat_natCast, mk_get _ hi, Option.bind_some, wnext (Nat.lt_trans hi hn), ha, armillaryref02_Hull, hullI]
  · rw [armillaryref03_Hull.l9]
    simp only [mk_len, dnl, Bool.false_eq_true, if_false]
theorem rpoint {n : Nat} (hn : n < 1000000) (p : Nat → Int) {k : Nat} (hk : n < k) : armillaryref03_Point k (mk n p) = some (mk n (fun i => nw (p i) (p i))) := by
  unfold armillaryref03_Point
  rw [loop_map (armillaryref03_Point.l9 k (mk n p)) n (fun i => nw (p i) (p i)) hn (fun m acc i hi ha => ?_) (fun m acc => ?_) hk]
  · rfl
  · rw [armillaryref03_Point.l9]
    simp only [mk_len, dlt hi, decide_true, if_true, rng hi, and_self, Int.toNat_natCast, mk_get _ hi, Option.bind_some, wnext (Nat.lt_trans hi hn), ha, armillaryref02_Point, refnew_nw (Int.le_refl _)]
  · rw [armillaryref03_Point.l9]
    simp only [mk_len, dnl, Bool.false_eq_true, if_false]
def In (a : TInterval) (x : Int) : Prop := a = Ent ∨ a.Lo ≤ x ∧ x ≤ a.Hi
def pt (a : TInterval) (u : Int) : Int := if a = Ent then u else a.Lo + (a.Hi - a.Lo) * u / 65535
def fr (l : List Int) (i : Nat) : Int := if i < l.length then l.getD i default else 0
theorem fr_ok {l : List Int} (h : ∀ y ∈ l, 0 ≤ y ∧ y ≤ 65535) (i : Nat) : 0 ≤ fr l i ∧ fr l i ≤ 65535 := by
  unfold fr
  split
  · rename_i hi
    have : l.getD i default = l[i] := by simp [List.getD, hi]
    rw [this]; exact h _ (List.getElem_mem hi)
  · omega
theorem pt_in {a : TInterval} (h : Ok a) {u : Int} (hu : 0 ≤ u ∧ u ≤ 65535) : In a (pt a u) ∧ -2147483648 ≤ pt a u ∧ pt a u ≤ 2147483648 := by
  unfold pt In
  rcases h with rfl | h
  · simp only [if_true, true_or, true_and]; omega
  · have hne : a ≠ Ent := by have := h.ne; simpa using this
    rw [if_neg hne]
    unfold Fin at h
    have h1 : (a.Hi - a.Lo) * u ≤ (a.Hi - a.Lo) * 65535 := Int.mul_le_mul_of_nonneg_left hu.2 (by omega)
    have h0 : 0 ≤ (a.Hi - a.Lo) * u := Int.mul_nonneg (by omega) hu.1
    have h2 : (a.Hi - a.Lo) * u / 65535 ≤ a.Hi - a.Lo := by
      have := Int.ediv_le_ediv (c := 65535) (by omega) h1
      rwa [Int.mul_ediv_cancel _ (by omega)] at this
    have h3 : 0 ≤ (a.Hi - a.Lo) * u / 65535 := Int.ediv_nonneg h0 (by omega)
    refine ⟨.inr ⟨by omega, by omega⟩, by omega, by omega⟩
theorem pointIn_mk {n : Nat} (hn : n < 1000000) (f : Nat → TInterval) (hf : ∀ i, i < n → Ok (f i)) {l : List Int} (hl : ∀ y ∈ l, 0 ≤ y ∧ y ≤ 65535) {k : Nat} (hk : n < k) : armillaryref03_PointIn k (mk n f) l = some (mk n fun i => pt (f i) (fr l i)) := by
  unfold armillaryref03_PointIn
  rw [loop_map (armillaryref03_PointIn.l9 k (mk n f) l) n (fun i => pt (f i) (fr l i)) hn (fun m acc i hi ha => ?_) (fun m acc => ?_) hk]
  · rfl
  · rw [armillaryref03_PointIn.l9]
    have hu := fr_ok hl i
    have hj : (if decide ((i : Int) < (l.length : Int)) = true then if 0 ≤ (i : Int) ∧ (i : Int) < (l.length : Int) then (l[(i : Int).toNat]?).bind fun t38 => some (w_i64 t38) else none else some 0) = some (fr l i) := by
      by_cases h : i < l.length
      · have h2 : l[i]? = some (fr l i) := by unfold fr; rw [if_pos h]; simp [List.getD, h]
        rw [if_pos (dlt h), if_pos (rng h), Int.toNat_natCast, h2, Option.bind_some, w64 (by omega) (by omega)]
      · have : fr l i = 0 := by unfold fr; rw [if_neg h]
        rw [if_neg (by simp; omega), this]
    rw [hj]
    have hp := hf i hi
    simp only [mk_len, dlt hi, decide_true, if_true, rng hi, and_self, Int.toNat_natCast, mk_get _ hi, Option.bind_some, wnext (Nat.lt_trans hi hn), ha, ref_isEnt]
    unfold pt
    rcases hp with e | h
    · simp [e]
    · have hne : f i ≠ Ent := by have := h.ne; simpa using this
      unfold Fin at h
      have h0 : 0 ≤ ((f i).Hi - (f i).Lo) * fr l i := Int.mul_nonneg (by omega) hu.1
      have h1 : ((f i).Hi - (f i).Lo) * fr l i ≤ 4294967296 * 65535 := Int.mul_le_mul (by omega) hu.2 hu.1 (by omega)
      have h2 : Int.tdiv (((f i).Hi - (f i).Lo) * fr l i) 65535 = ((f i).Hi - (f i).Lo) * fr l i / 65535 := Int.tdiv_eq_ediv_of_nonneg h0
      have h3 : 0 ≤ ((f i).Hi - (f i).Lo) * fr l i / 65535 := Int.ediv_nonneg h0 (by omega)
      have h4 : ((f i).Hi - (f i).Lo) * fr l i / 65535 ≤ 4294967296 := by
        have := Int.ediv_le_ediv (c := 65535) (by omega) h1
        rwa [Int.mul_ediv_cancel _ (by omega)] at this
      simp only [hne, decide_false, Bool.false_eq_true, if_false, Option.bind_some]
      rw [w64 (x := (f i).Hi - (f i).Lo) (by omega) (by omega), w64 (x := ((f i).Hi - (f i).Lo) * fr l i) (by omega) (by omega), h2, w64 (x := ((f i).Hi - (f i).Lo) * fr l i / 65535) (by omega) (by omega), w64 (by omega) (by omega)]
  · rw [armillaryref03_PointIn.l9]
    simp only [mk_len, dnl, Bool.false_eq_true, if_false]
/-! ### The builder -/
theorem band_le (x : Int) {c : Nat} (hc : c < 9223372036854775808) (h0 : (BitVec.ofInt 64 (c : Int)).toNat = c) : 0 ≤ b_and .i64 x (c : Int) ∧ b_and .i64 x (c : Int) ≤ (c : Int) := by
  have h : ((BitVec.ofInt 64 x) &&& (BitVec.ofInt 64 (c : Int))).toNat ≤ c := by
    rw [BitVec.toNat_and]
    refine Nat.le_trans Nat.and_le_right ?_
    rw [h0]; exact Nat.le_refl _
  show 0 ≤ IntKind.wrap .i64 (((BitVec.ofInt 64 x) &&& (BitVec.ofInt 64 (c : Int))).toNat : Int) ∧ IntKind.wrap .i64 (((BitVec.ofInt 64 x) &&& (BitVec.ofInt 64 (c : Int))).toNat : Int) ≤ (c : Int)
  have e : IntKind.wrap .i64 (((BitVec.ofInt 64 x) &&& (BitVec.ofInt 64 (c : Int))).toNat : Int) = (((BitVec.ofInt 64 x) &&& (BitVec.ofInt 64 (c : Int))).toNat : Int) := w64 (by omega) (by omega)
  rw [e]; omega
theorem band255 (x : Int) : 0 ≤ b_and .i64 x 255 ∧ b_and .i64 x 255 ≤ 255 := band_le x (c := 255) (by decide) (by decide)
theorem band1 (x : Int) : 0 ≤ b_and .i64 x 1 ∧ b_and .i64 x 1 ≤ 1 := band_le x (c := 1) (by decide) (by decide)
theorem tmb (x : Int) {m : Int} (hm : 0 < m) : -m < Int.tmod x m ∧ Int.tmod x m < m := by
  have h1 := Int.tmod_lt_of_pos x hm
  have h2 := Int.tmod_lt_of_pos (-x) hm
  rw [Int.neg_tmod] at h2
  omega
theorem tmp (x : Int) {m : Int} (hx : 0 ≤ x) (hm : 0 < m) : 0 ≤ Int.tmod x m ∧ Int.tmod x m < m := ⟨Int.tmod_nonneg m hx, Int.tmod_lt_of_pos x hm⟩
theorem near_ok (c : TInterval) {b : Int} (hb : 1 ≤ b ∧ b ≤ 256) : ∃ r, armillaryref02_Near c b = some r ∧ Ok r := by
  unfold armillaryref02_Near
  rw [if_pos (by omega), if_pos (by omega)]
  have h1 := tmb c.Lo (m := 1048576) (by omega)
  have h2 := tmb c.Hi (m := b) (by omega)
  have h3 : w_i64 (Int.tmod c.Hi b + b) = Int.tmod c.Hi b + b := w64 (by omega) (by omega)
  have h4 := tmp (Int.tmod c.Hi b + b) (m := b) (by omega) (by omega)
  rw [h3, w64 (by omega) (by omega)]
  refine ⟨_, rfl, .inr ?_⟩
  unfold Fin
  simp only
  omega
theorem arity_eq {o : Int} (h : 1 ≤ o ∧ o ≤ 10) : armillaryref07_Arity o = some (if o ≤ 3 then 0 else if o ≤ 6 then 1 else 2) := by
  unfold armillaryref07_Arity
  rw [if_neg (by simp; omega)]
  by_cases h1 : o ≤ 3
  · rw [if_pos (by simpa using h1), if_pos h1]
  · rw [if_neg (by simpa using h1), if_neg h1]
    by_cases h2 : o ≤ 6
    · rw [if_pos (by simpa using h2), if_pos h2]
    · rw [if_neg (by simpa using h2), if_neg h2]
theorem build_ok {n : Int} (hn : 1 ≤ n ∧ n ≤ 6) : ∀ (d : Nat), d < 10 → ∀ (k : Nat), d < k → ∀ raw : List TNode, ∃ (e : Ex) (raw' : List TNode), armillaryref07_builder_build k ((d + 1 : Nat) : Int) ⟨raw, n⟩ = some (e.code, ⟨raw', n⟩) ∧ e.ok n ∧ e.dep ≤ d + 1 ∧ e.code.length < 2 ^ (d + 1) := by
  intro d
  induction d with
  | zero =>
    intro _ k hk raw
    obtain ⟨k, rfl⟩ : ∃ m, k = m + 1 := ⟨k - 1, by omega⟩
    rw [armillaryref07_builder_build, armillaryref07_builder_build.body]
    cases raw with
    | nil => exact ⟨.num ⟨65536, 65536⟩, [], rfl, .inr (by unfold Fin; simp), by simp [Ex.dep], by simp [Ex.code]⟩
    | cons x raw =>
      rw [if_neg (by simp <;> omega), if_pos (by simp <;> omega), show ((0 : Int).toNat) = 0 from rfl, List.getElem?_cons_zero, Option.bind_some, if_pos (by simp <;> omega), show ((1 : Int).toNat) = 1 from rfl, List.drop_succ_cons, List.drop_zero]
      have h1 := band255 x.Op
      have h2 := tmp (b_and .i64 x.Op 255) (m := 10) h1.1 (by omega)
      have ho : w_i64 (1 + Int.tmod (b_and .i64 x.Op 255) 10) = 1 + Int.tmod (b_and .i64 x.Op 255) 10 := w64 (by omega) (by omega)
      rw [ho]
      generalize hO : 1 + Int.tmod (b_and .i64 x.Op 255) 10 = o
      have hor : 1 ≤ o ∧ o ≤ 10 := by omega
      have h3 := band255 x.N
      have h4 := band1 x.N
      have h5 : 0 ≤ b_and .i64 x.N 255 * b_and .i64 x.N 1 := Int.mul_nonneg h3.1 h4.1
      have h6 : b_and .i64 x.N 255 * b_and .i64 x.N 1 ≤ 255 * 1 := Int.mul_le_mul h3.2 h4.2 h4.1 (by omega)
      have hby : w_i64 (1 + w_i64 (b_and .i64 x.N 255 * b_and .i64 x.N 1)) = 1 + b_and .i64 x.N 255 * b_and .i64 x.N 1 := by rw [w64 (x := b_and .i64 x.N 255 * b_and .i64 x.N 1) (by omega) (by omega), w64 (by omega) (by omega)]
      obtain ⟨c, hc1, hc2⟩ := near_ok (⟨x.C.Lo, x.C.Hi⟩ : TInterval) (b := 1 + b_and .i64 x.N 255 * b_and .i64 x.N 1) (by omega)
      have hnum : ∃ (e : Ex) (raw' : List TNode), ((armillaryref02_Near (⟨x.C.Lo, x.C.Hi⟩ : TInterval) (w_i64 (1 + w_i64 (b_and .i64 x.N 255 * b_and .i64 x.N 1)))).bind fun t15 => (armillaryref07_Const t15).bind fun t16 => some (t16, (⟨raw, n⟩ : Tbuilder))) = some (e.code, ⟨raw', n⟩) ∧ e.ok n ∧ e.dep ≤ 0 + 1 ∧ e.code.length < 2 ^ (0 + 1) := by
        rw [hby, hc1]
        exact ⟨.num c, raw, rfl, hc2, by simp [Ex.dep], by simp [Ex.code]⟩
      have hleaf : ∀ e : Ex, e.code.length = 1 → e.ok n → e.dep = 1 → ∃ (e' : Ex) (raw' : List TNode), (some (e.code, (⟨raw, n⟩ : Tbuilder)) : Option (List TNode × Tbuilder)) = some (e'.code, ⟨raw', n⟩) ∧ e'.ok n ∧ e'.dep ≤ 0 + 1 ∧ e'.code.length < 2 ^ (0 + 1) := fun e h h2 h3 => ⟨e, raw, rfl, h2, by omega, by simp [h]⟩
      by_cases o1 : o = 1
      · subst o1
        rw [if_neg (by simp), Option.bind_some, if_pos (by simp)]
        exact hnum
      · rw [if_pos (by simp [o1]), arity_eq hor, Option.bind_some]
        by_cases oa : o ≤ 3
        · rw [if_neg (by simp [o1, oa])]
          by_cases o2 : o = 2
          · subst o2
            rw [if_pos (by simp), if_pos (show n ≠ 0 by omega)]
            have h7 := tmp (b_and .i64 x.N 255) (m := n) h3.1 (by omega)
            exact hleaf (.var (Int.tmod (b_and .i64 x.N 255) n)) rfl h7 rfl
          · have o3 : o = 3 := by omega
            subst o3
            rw [if_neg (by simp), if_pos (by simp)]
            exact hleaf .time rfl trivial rfl
        · rw [if_pos (by simp only [oa, if_false]; split <;> simp)]
          exact hnum
  | succ d ih =>
    intro hd k hk raw
    obtain ⟨k, rfl⟩ : ∃ m, k = m + 1 := ⟨k - 1, by omega⟩
    have hpow : 2 ^ (d + 1 + 1) = 2 ^ (d + 1) + 2 ^ (d + 1) := by rw [Nat.pow_succ]; omega
    have hpos : 2 ≤ 2 ^ (d + 1) := by
      have := Nat.pow_le_pow_right (n := 2) (by omega) (show 1 ≤ d + 1 by omega)
      omega
    rw [armillaryref07_builder_build, armillaryref07_builder_build.body]
    cases raw with
    | nil => exact ⟨.num ⟨65536, 65536⟩, [], rfl, .inr (by unfold Fin; simp), by simp [Ex.dep], by simp only [Ex.code, List.length_cons, List.length_nil]; omega⟩
    | cons x raw =>
      rw [if_neg (by simp <;> omega), if_pos (by simp <;> omega), show ((0 : Int).toNat) = 0 from rfl, List.getElem?_cons_zero, Option.bind_some, if_pos (by simp <;> omega), show ((1 : Int).toNat) = 1 from rfl, List.drop_succ_cons, List.drop_zero]
      have h1 := band255 x.Op
      have h2 := tmp (b_and .i64 x.Op 255) (m := 10) h1.1 (by omega)
      have ho : w_i64 (1 + Int.tmod (b_and .i64 x.Op 255) 10) = 1 + Int.tmod (b_and .i64 x.Op 255) 10 := w64 (by omega) (by omega)
      rw [ho]
      generalize hO : 1 + Int.tmod (b_and .i64 x.Op 255) 10 = o
      have hor : 1 ≤ o ∧ o ≤ 10 := by omega
      have h3 := band255 x.N
      have h4 := band1 x.N
      have h5 : 0 ≤ b_and .i64 x.N 255 * b_and .i64 x.N 1 := Int.mul_nonneg h3.1 h4.1
      have h6 : b_and .i64 x.N 255 * b_and .i64 x.N 1 ≤ 255 * 1 := Int.mul_le_mul h3.2 h4.2 h4.1 (by omega)
      have hby : w_i64 (1 + w_i64 (b_and .i64 x.N 255 * b_and .i64 x.N 1)) = 1 + b_and .i64 x.N 255 * b_and .i64 x.N 1 := by rw [w64 (x := b_and .i64 x.N 255 * b_and .i64 x.N 1) (by omega) (by omega), w64 (by omega) (by omega)]
      obtain ⟨c, hc1, hc2⟩ := near_ok (⟨x.C.Lo, x.C.Hi⟩ : TInterval) (b := 1 + b_and .i64 x.N 255 * b_and .i64 x.N 1) (by omega)
      have hleaf : ∀ e : Ex, e.code.length = 1 → e.ok n → e.dep = 1 → ∃ (e' : Ex) (raw' : List TNode), (some (e.code, (⟨raw, n⟩ : Tbuilder)) : Option (List TNode × Tbuilder)) = some (e'.code, ⟨raw', n⟩) ∧ e'.ok n ∧ e'.dep ≤ d + 1 + 1 ∧ e'.code.length < 2 ^ (d + 1 + 1) := fun e h h2 h3 => ⟨e, raw, rfl, h2, by omega, by omega⟩
      have hnot : decide (((d + 1 + 1 : Nat) : Int) < 2) = false := decide_eq_false (by omega)
      have hdec : w_i64 (((d + 1 + 1 : Nat) : Int) - 1) = ((d + 1 : Nat) : Int) := by rw [w64 (by omega) (by omega)]; omega
      by_cases o1 : o = 1
      · subst o1
        rw [if_neg (by simp), Option.bind_some, if_pos (by simp), hby, hc1]
        exact hleaf (.num c) rfl hc2 rfl
      · rw [if_pos (by simp [o1]), arity_eq hor, Option.bind_some, hnot, if_neg (by simp [o1])]
        by_cases o2 : o = 2
        · subst o2
          rw [if_pos (by simp), if_pos (show n ≠ 0 by omega)]
          have h7 := tmp (b_and .i64 x.N 255) (m := n) h3.1 (by omega)
          exact hleaf (.var (Int.tmod (b_and .i64 x.N 255) n)) rfl h7 rfl
        rw [if_neg (by simpa using o2)]
        by_cases o3 : o = 3
        · subst o3
          rw [if_pos (by simp)]
          exact hleaf .time rfl trivial rfl
        rw [if_neg (by simpa using o3), Option.bind_some, if_neg (show ¬ o ≤ 3 by omega), hdec]
        obtain ⟨e1, r1, he1, hk1, hd1, hl1⟩ := ih (by omega) k (by omega) raw
        have hp1 := e1.code_pos
        have hb : (2 : Nat) ^ (d + 1) ≤ 2 ^ 10 := Nat.pow_le_pow_right (by omega) (by omega)
        by_cases o6 : o ≤ 6
        · rw [if_pos o6, if_pos (by simp), he1, Option.bind_some]
          dsimp only
          unfold armillaryref07_Unary
          rw [if_pos ⟨hp1, by omega⟩, Option.bind_some]
          have hcase : o = 4 ∨ o = 5 ∨ o = 6 := by omega
          rcases hcase with rfl | rfl | rfl
          · exact ⟨.neg e1, r1, rfl, hk1, by simp only [Ex.dep]; omega, by simp only [Ex.code, List.length_cons]; omega⟩
          · exact ⟨.sqr e1, r1, rfl, hk1, by simp only [Ex.dep]; omega, by simp only [Ex.code, List.length_cons]; omega⟩
          · exact ⟨.sqrt e1, r1, rfl, hk1, by simp only [Ex.dep]; omega, by simp only [Ex.code, List.length_cons]; omega⟩
        · rw [if_neg o6, if_neg (by simp), he1, Option.bind_some]
          obtain ⟨e2, r2, he2, hk2, hd2, hl2⟩ := ih (by omega) k (by omega) r1
          have hp2 := e2.code_pos
          dsimp only
          rw [he2, Option.bind_some]
          dsimp only
          unfold armillaryref07_Binary
          have hbl : ([(⟨o, 0, (⟨0, 0⟩ : TInterval)⟩ : TNode)] ++ e1.code).length = e1.code.length + 1 := by simp
          rw [if_pos ⟨hp1, by omega⟩, if_pos ⟨hp2, by omega, by omega⟩, Option.bind_some]
          exact ⟨.bin o e1 e2, r2, rfl, ⟨by omega, hk1, hk2⟩, by simp only [Ex.dep]; omega, by simp only [Ex.code, List.length_cons, List.length_append]; omega⟩
theorem made_ex {n : Int} (hn : 1 ≤ n ∧ n ≤ 6) (raw : List TNode) {k : Nat} (hk : 5 < k) : ∃ e : Ex, armillaryref07_Made k raw 8 n = some e.code ∧ e.ok n ∧ e.dep ≤ 5 ∧ e.code.length < 32 := by
  unfold armillaryref07_Made
  have h := mnl (raw.length : Int) 8
  rw [if_pos (by omega)]
  obtain ⟨e, r, h1, h2, h3, h4⟩ := build_ok hn 4 (by omega) k (by omega) (raw.take (mn (raw.length : Int) 8).toNat)
  rw [show ((4 + 1 : Nat) : Int) = 5 from rfl] at h1
  rw [h1]
  exact ⟨e, rfl, h2, h3, h4⟩
theorem dir_ok (d : Int) : -1 ≤ w_i64 (Int.tmod d 2) ∧ w_i64 (Int.tmod d 2) ≤ 1 := by
  have h := tmb d (m := 2) (by omega)
  rw [w64 (by omega) (by omega)]; omega
/-! ### Segments -/
def sml (a : TInterval) : TInterval := ⟨mn (Int.tmod a.Lo 16777216) (Int.tmod a.Hi 16777216), mx (Int.tmod a.Lo 16777216) (Int.tmod a.Hi 16777216)⟩
def bd (A : List TInterval) (i : Nat) : TInterval := if i < A.length then sml (A.getD i default) else ⟨0, 0⟩
theorem sml_fin (a : TInterval) : Fin (sml a) := by
  have h1 := tmb a.Lo (m := 16777216) (by omega)
  have h2 := tmb a.Hi (m := 16777216) (by omega)
  unfold sml Fin mn mx
  simp only
  split <;> split <;> omega
theorem bd_fin (A : List TInterval) (i : Nat) : Fin (bd A i) := by
  unfold bd
  split
  · exact sml_fin _
  · unfold Fin; simp
theorem bounded_mk (A : List TInterval) {n : Nat} (hn : n < 1000000) {k : Nat} (hk : n < k) : armillarylaw15_bounded k A (n : Int) = some (mk n (bd A)) := by
  unfold armillarylaw15_bounded
  rw [loop_map (armillarylaw15_bounded.l9 k A (n : Int)) n (bd A) hn (fun m acc i hi ha => ?_) (fun m acc => ?_) hk]
  · rfl
  · rw [armillarylaw15_bounded.l9, if_pos (dlt hi)]
    have hj : (if decide ((i : Int) < (A.length : Int)) = true then if 0 ≤ (i : Int) ∧ (i : Int) < (A.length : Int) then (A[(i : Int).toNat]?).bind fun t21 => (armillaryref02_Small t21).bind fun t22 => some (t22.Lo, t22.Hi) else none else some ((0 : Int), (0 : Int))) = some ((bd A i).Lo, (bd A i).Hi) := by
      by_cases h : i < A.length
      · have h2 : A[i]? = some (A.getD i default) := by simp [List.getD, h]
        rw [if_pos (dlt h), if_pos (rng h), Int.toNat_natCast, h2, Option.bind_some]
        unfold bd
        rw [if_pos h]
        rfl
      · unfold bd
        rw [if_neg (by simp; omega), if_neg h]
    rw [hj, Option.bind_some, if_pos ha, wnext (Nat.lt_trans hi hn)]
  · rw [armillarylaw15_bounded.l9, if_neg (by simp)]
theorem hull_fin {a b : TInterval} (ha : Fin a) (hb : Fin b) : Fin (hullI a b) := by
  unfold Fin hullI mn mx at *
  simp only
  split <;> split <;> omega
theorem hull_l (a b : TInterval) : Le a (hullI a b) := ⟨(mnl _ _).1, (mxl _ _).1⟩
theorem hull_r (a b : TInterval) : Le b (hullI a b) := ⟨(mnl _ _).2.1, (mxl _ _).2.1⟩
theorem Le.trans {a b c : TInterval} (h : Le a b) (k : Le b c) : Le a c := ⟨Int.le_trans k.1 h.1, Int.le_trans h.2 k.2⟩
structure Sg (g : TGuard) (s : TSegment) (m : Nat) (e : Ex) (f t b : Nat → TInterval) : Prop where
  m1 : 1 ≤ m ∧ m ≤ 3
  gF : g.F = e.code
  gD : -1 ≤ g.Dir ∧ g.Dir ≤ 1
  eok : e.ok (m : Int)
  dep : e.dep ≤ 5
  len : e.code.length < 32
  sF : s.From = mk m f
  sT : s.To = mk m t
  sP : s.Pre = mk m b
  sB : s.Tube = mk m b
  ff : ∀ i, Fin (f i)
  tf : ∀ i, Fin (t i)
  bf : ∀ i, Fin (b i)
  fl : ∀ i, Le (f i) (b i)
  tl : ∀ i, Le (t i) (b i)
  T : -1048576 < s.T ∧ s.T < 1048576
  H : 1 ≤ s.H ∧ s.H ≤ 131072
theorem step_ok (g : TTimeStep) : ∃ r, armillaryref12_Made g = some r ∧ (-1048576 < r.T ∧ r.T < 1048576) ∧ (1 ≤ r.H ∧ r.H ≤ 131072) := by
  unfold armillaryref12_Made
  have h1 := tmb g.H (m := 131072) (by omega)
  have h2 := tmb g.T (m := 1048576) (by omega)
  by_cases h : Int.tmod g.H 131072 < 0
  · rw [if_pos (by simpa using h), Option.bind_some, w64 (x := 0 - Int.tmod g.H 131072) (by omega) (by omega), w64 (by omega) (by omega)]
    exact ⟨_, rfl, h2, by simp only; omega⟩
  · rw [if_neg (by simpa using h), Option.bind_some, w64 (by omega) (by omega)]
    exact ⟨_, rfl, h2, by simp only; omega⟩
theorem seg_ok (x : TInput) (hN : 0 ≤ x.N ∧ x.N ≤ 255) {k : Nat} (hk : 10 < k) : ∃ g s m e f t b, armillarylaw15_segment k x = some (g, s) ∧ Sg g s m e f t b := by
  unfold armillarylaw15_segment
  obtain ⟨r, hr, hT, hH⟩ := step_ok (⟨x.G.T, x.G.H⟩ : TTimeStep)
  have h1 := tmp x.N (m := 3) hN.1 (by omega)
  have hw : w_i64 (1 + w_i64 (Int.tmod x.N 3)) = 1 + Int.tmod x.N 3 := by rw [w64 (x := Int.tmod x.N 3) (by omega) (by omega), w64 (by omega) (by omega)]
  obtain ⟨m, hm⟩ : ∃ m : Nat, 1 + Int.tmod x.N 3 = (m : Int) := ⟨(1 + Int.tmod x.N 3).toNat, by omega⟩
  have hm1 : 1 ≤ m ∧ m ≤ 3 := by omega
  rw [hr, hw, hm]
  obtain ⟨e, he, hk2, hd, hl⟩ := made_ex (n := (m : Int)) (by omega) x.F (k := k) (by omega)
  rw [Option.bind_some, bounded_mk x.A (by omega) (by omega), Option.bind_some, bounded_mk x.B (by omega) (by omega), Option.bind_some, rhull (by omega) _ _ (by omega), Option.bind_some, bounded_mk x.C (by omega) (by omega), Option.bind_some, rhull (by omega) _ _ (by omega), Option.bind_some]
  unfold armillaryref15_Made
  rw [he]
  refine ⟨_, _, m, e, bd x.A, bd x.B, fun i => hullI (hullI (bd x.A i) (bd x.B i)) (bd x.C i), rfl, hm1, rfl, dir_ok _, hk2, hd, hl, rfl, rfl, rfl, rfl, fun i => bd_fin _ _, fun i => bd_fin _ _, fun i => hull_fin (hull_fin (bd_fin _ _) (bd_fin _ _)) (bd_fin _ _), fun i => (hull_l _ _).trans (hull_l _ _), fun i => (hull_r _ _).trans (hull_l _ _), hT, hH⟩
theorem env_mk {m : Nat} {f : Nat → TInterval} (hf : ∀ i, Ok (f i)) {t : TInterval} (ht : Ok t) : Env (m : Int) (mk m f) t :=
  ⟨by rw [mk_len], fun y hy => by obtain ⟨i, _, rfl⟩ := List.mem_map.1 hy; exact hf i, ht⟩
/-! ### Crossings -/
def up (w a b : TInterval) : Int := if a.Hi < 0 ∧ 0 ≤ b.Lo then 2 else if w.Hi < 0 ∨ 0 ≤ w.Lo then 0 else 1
theorem up_eq (w a b : TInterval) : guard_values_upward ⟨w, a, b⟩ = some (up w a b) := by
  unfold guard_values_upward up
  by_cases h : a.Hi < 0 ∧ 0 ≤ b.Lo
  · rw [if_pos (by simpa using h), if_pos h]
  · rw [if_neg (by simpa using h), if_neg h]
    by_cases h1 : w.Hi < 0
    · rw [if_pos (by simpa using h1), Option.bind_some, if_pos (by simpa using h1), if_pos (.inl h1)]
    · rw [if_neg (by simpa using h1), Option.bind_some]
      by_cases h2 : 0 ≤ w.Lo
      · rw [if_pos (by simpa using h2), if_pos (.inr h2)]
      · rw [if_neg (by simpa using h2), if_neg (by omega)]
theorem contains2 (a b : Int) (k : Nat) : slices_Contains_int_int (k + 3) [a, b] 2 = some (decide (a = 2 ∨ b = 2)) := by
  have e1 : slices_Index_int_int (k + 3) [a, b] 2 = some (if a = 2 then 0 else if b = 2 then 1 else -1) := by
    unfold slices_Index_int_int
    rw [slices_Index_int_int.l6, if_pos (by simp), if_pos (by simp), show ((0 : Int).toNat) = 0 from rfl, List.getElem?_cons_zero, Option.bind_some]
    by_cases h : a = 2
    · subst h; rfl
    · rw [if_neg (by simp; omega), if_neg h, show w_i64 (0 + 1) = 1 from rfl, slices_Index_int_int.l6, if_pos (by simp), if_pos (by simp), show ((1 : Int).toNat) = 1 from rfl, List.getElem?_cons_succ, List.getElem?_cons_zero, Option.bind_some]
      by_cases h2 : b = 2
      · subst h2; rfl
      · rw [if_neg (by simp; omega), if_neg h2, show w_i64 (1 + 1) = 2 from rfl, slices_Index_int_int.l6, if_neg (by simp)]
        rfl
  unfold slices_Contains_int_int
  rw [e1, Option.bind_some]
  congr 1
  split
  · rename_i h; simp [h]
  · rename_i h
    split
    · rename_i h2; simp [h2]
    · rename_i h2; simp [h, h2]
def cross (d : Int) (w a b : TInterval) : Int := if 0 < d then up w a b else if d < 0 then up (ngv w) (ngv a) (ngv b) else if up w a b = 2 ∨ up (ngv w) (ngv a) (ngv b) = 2 then 2 else if up w a b = 0 ∧ up (ngv w) (ngv a) (ngv b) = 0 then 0 else 1
theorem crossing_eq {k : Nat} {g : TGuard} {s : TSegment} {w a b : TInterval} (hw : Ok w) (ha : Ok a) (hb : Ok b)
    (h1 : guard_Eval (k + 3) ⟨g.F, g.Dir⟩ s.Tube ⟨s.T, w_i64 (s.T + s.H)⟩ = some w) (h2 : guard_Eval (k + 3) ⟨g.F, g.Dir⟩ s.From ⟨s.T, s.T⟩ = some a) (h3 : guard_Eval (k + 3) ⟨g.F, g.Dir⟩ s.To ⟨w_i64 (s.T + s.H), w_i64 (s.T + s.H)⟩ = some b) :
    guard_Crossing (k + 3) g s = some (cross g.Dir w a b) := by
  unfold guard_Crossing guard_Crossing_1
  have hn : guard_values_negated ⟨w, a, b⟩ = some ⟨ngv w, ngv a, ngv b⟩ := by
    unfold guard_values_negated
    show (interval_Neg w).bind _ = _
    rw [neg_is hw, Option.bind_some]
    show (interval_Neg a).bind _ = _
    rw [neg_is ha, Option.bind_some]
    show (interval_Neg b).bind _ = _
    rw [neg_is hb, Option.bind_some]
  rw [h1, Option.bind_some, Option.bind_some, h2, Option.bind_some, Option.bind_some, h3, Option.bind_some, Option.bind_some, up_eq, Option.bind_some, hn, Option.bind_some, up_eq, Option.bind_some]
  unfold cross
  by_cases d1 : 0 < g.Dir
  · rw [if_pos (by simpa using d1), if_pos d1]
  rw [if_neg (by simpa using d1), if_neg d1]
  by_cases d2 : g.Dir < 0
  · rw [if_pos (by simpa using d2), if_pos d2]
  rw [if_neg (by simpa using d2), if_neg d2, contains2, Option.bind_some]
  by_cases c : up w a b = 2 ∨ up (ngv w) (ngv a) (ngv b) = 2
  · rw [if_pos (by simpa using c), if_pos c]
  rw [if_neg (by simpa using c), if_neg c]
  by_cases c0 : up w a b = 0 ∧ up (ngv w) (ngv a) (ngv b) = 0
  · rw [if_pos (by simpa using c0), if_pos c0]
  · rw [if_neg (by simpa using c0), if_neg c0]

end Go.Proofs.YtkkodieceehkmaaDoor
