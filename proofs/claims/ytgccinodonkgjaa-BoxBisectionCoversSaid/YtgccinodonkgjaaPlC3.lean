/- Boxes: what the program's and the reference's functions come to, by index. Own work. -/
import Derived.Test.YtgccinodonkgjaaPlC2
set_option maxRecDepth 10000
set_option linter.unusedVariables false
set_option linter.unusedSimpArgs false
namespace Go.Proofs.Ytgccinodonkgjaa
open Go
/-! ### Made -/
theorem madeE (a : TInterval) : ∃ b, armillaryref02_Made a = some b ∧ Ok b := made_ok a
noncomputable def madeF (a : TInterval) : TInterval := Classical.choose (madeE a)
theorem madeF_eq (a : TInterval) : armillaryref02_Made a = some (madeF a) := (Classical.choose_spec (madeE a)).1
theorem madeF_ok (a : TInterval) : Ok (madeF a) := (Classical.choose_spec (madeE a)).2
noncomputable def bx (l : List TInterval) (i : Nat) : TInterval := if i < l.length then madeF (l.getD i default) else ⟨0, 0⟩
theorem bx_ok (l : List TInterval) (i : Nat) : Ok (bx l i) := by
  unfold bx
  split
  · exact madeF_ok _
  · exact .inr ⟨by simp, by simp, by simp⟩
theorem made_mk (l : List TInterval) {n : Nat} (hn : n < 1000000) {k : Nat} (hk : n < k) : armillaryref03_Made k l (n : Int) = some (mk n (bx l)) := by
  unfold armillaryref03_Made
  rw [loop_map (armillaryref03_Made.l9 k l (n : Int)) n (bx l) hn (fun m acc i hi ha => ?_) (fun m acc => ?_) hk]
  · rfl
  · rw [armillaryref03_Made.l9]
    simp only [dlt hi, if_true, Int.toNat_natCast, wnext (Nat.lt_trans hi hn), ha]
    by_cases h : i < l.length
    · have h1 : decide ((i : Int) < (l.length : Int)) = true := decide_eq_true (by omega)
      have h2 : l[i]? = some (l.getD i default) := by simp [List.getD, h]
      simp only [h1, decide_true, if_true, rng h, and_self, h2, Option.bind_some, madeF_eq]
      have : bx l i = madeF (l.getD i default) := by unfold bx; rw [if_pos h]
      rw [this]
    · have h1 : decide ((i : Int) < (l.length : Int)) = false := decide_eq_false (by omega)
      have : bx l i = ⟨0, 0⟩ := by unfold bx; rw [if_neg h]
      simp only [h1, Bool.false_eq_true, if_false, Option.bind_some, this]
  · rw [armillaryref03_Made.l9]
    simp only [dnl, Bool.false_eq_true, if_false]
/-- The dimension. -/
theorem dim {u : Int} (h : 0 ≤ u ∧ u ≤ 255) : ∃ n : Nat, w_i64 (1 + w_i64 (Int.tmod u 6)) = (n : Int) ∧ 1 ≤ n ∧ n ≤ 6 := by
  have h1 : Int.tmod u 6 = u % 6 := Int.tmod_eq_emod_of_nonneg h.1
  refine ⟨(1 + u % 6).toNat, ?_, by omega, by omega⟩
  rw [h1, w64 (x := u % 6) (by omega) (by omega), w64 (by omega) (by omega)]
  omega
theorem boxes_eq {x : TInput} (h : 0 ≤ x.N ∧ x.N ≤ 255) {k : Nat} (hk : 6 < k) : ∃ n : Nat, 1 ≤ n ∧ n ≤ 6 ∧ w_i64 (1 + w_i64 (Int.tmod x.N 6)) = (n : Int) ∧ armillarylaw03_boxes k x = some (mk n (bx x.A), mk n (bx x.B)) := by
  obtain ⟨n, h1, h2, h3⟩ := dim h
  refine ⟨n, h2, h3, h1, ?_⟩
  unfold armillarylaw03_boxes
  rw [h1, made_mk _ (by omega) (by omega), made_mk _ (by omega) (by omega)]
  rfl
/-! ### PointIn -/
def pt (a : TInterval) (u : Int) : Int := if a = Ent then u else a.Lo + (a.Hi - a.Lo) * u / 65535
def fr (l : List Int) (i : Nat) : Int := if i < l.length then l.getD i default else 0
theorem fr_ok {l : List Int} (h : ∀ y ∈ l, 0 ≤ y ∧ y ≤ 65535) (i : Nat) : 0 ≤ fr l i ∧ fr l i ≤ 65535 := by
  unfold fr
  split
  · rename_i hi
    have : l.getD i default = l[i] := by simp [List.getD, hi]
    rw [this]; exact h _ (List.getElem_mem hi)
  · omega
theorem pt_in {a : TInterval} (h : Ok a) {u : Int} (hu : 0 ≤ u ∧ u ≤ 65535) : In a (pt a u) ∧ -2147483648 ≤ pt a u ∧ pt a u ≤ 2147483648 := by
  unfold pt In
  rcases h with rfl | h
  · simp only [if_true, true_or, true_and]; omega
  · have hne : a ≠ Ent := by have := h.ne; simpa using this
    rw [if_neg hne]
    unfold Fin at h
    have h1 : (a.Hi - a.Lo) * u ≤ (a.Hi - a.Lo) * 65535 := Int.mul_le_mul_of_nonneg_left hu.2 (by omega)
    have h0 : 0 ≤ (a.Hi - a.Lo) * u := Int.mul_nonneg (by omega) hu.1
    have h2 : (a.Hi - a.Lo) * u / 65535 ≤ a.Hi - a.Lo := by
      have := Int.ediv_le_ediv (c := 65535) (by omega) h1
      rwa [Int.mul_ediv_cancel _ (by omega)] at this
    have h3 : 0 ≤ (a.Hi - a.Lo) * u / 65535 := Int.ediv_nonneg h0 (by omega)
    refine ⟨.inr ⟨by omega, by omega⟩, by omega, by omega⟩
theorem pointIn_mk {n : Nat} (hn : n < 1000000) (f : Nat → TInterval) (hf : ∀ i, i < n → Ok (f i)) {l : List Int} (hl : ∀ y ∈ l, 0 ≤ y ∧ y ≤ 65535) {k : Nat} (hk : n < k) : armillaryref03_PointIn k (mk n f) l = some (mk n fun i => pt (f i) (fr l i)) := by
  unfold armillaryref03_PointIn
  rw [loop_map (armillaryref03_PointIn.l9 k (mk n f) l) n (fun i => pt (f i) (fr l i)) hn (fun m acc i hi ha => ?_) (fun m acc => ?_) hk]
  · rfl
  · rw [armillaryref03_PointIn.l9]
    have hu := fr_ok hl i
    have hj : (if decide ((i : Int) < (l.length : Int)) = true then if 0 ≤ (i : Int) ∧ (i : Int) < (l.length : Int) then (l[(i : Int).toNat]?).bind fun t38 => some (w_i64 t38) else none else some 0) = some (fr l i) := by
      by_cases h : i < l.length
      · have h2 : l[i]? = some (fr l i) := by unfold fr; rw [if_pos h]; simp [List.getD, h]
        rw [if_pos (dlt h), if_pos (rng h), Int.toNat_natCast, h2, Option.bind_some, w64 (by omega) (by omega)]
      · have : fr l i = 0 := by unfold fr; rw [if_neg h]
        rw [if_neg (by simp; omega), this]
    rw [hj]
    have hp := hf i hi
    simp only [mk_len, dlt hi, decide_true, if_true, rng hi, and_self, Int.toNat_natCast, mk_get _ hi, Option.bind_some, wnext (Nat.lt_trans hi hn), ha, ref_isEnt]
    unfold pt
    rcases hp with e | h
    · simp [e]
    · have hne : f i ≠ Ent := by have := h.ne; simpa using this
      unfold Fin at h
      have h0 : 0 ≤ ((f i).Hi - (f i).Lo) * fr l i := Int.mul_nonneg (by omega) hu.1
      have h1 : ((f i).Hi - (f i).Lo) * fr l i ≤ 4294967296 * 65535 := Int.mul_le_mul (by omega) hu.2 hu.1 (by omega)
      have h2 : Int.tdiv (((f i).Hi - (f i).Lo) * fr l i) 65535 = ((f i).Hi - (f i).Lo) * fr l i / 65535 := Int.tdiv_eq_ediv_of_nonneg h0
      have h3 : 0 ≤ ((f i).Hi - (f i).Lo) * fr l i / 65535 := Int.ediv_nonneg h0 (by omega)
      have h4 : ((f i).Hi - (f i).Lo) * fr l i / 65535 ≤ 4294967296 := by
        have := Int.ediv_le_ediv (c := 65535) (by omega) h1
        rwa [Int.mul_ediv_cancel _ (by omega)] at this
      simp only [hne, decide_false, Bool.false_eq_true, if_false, Option.bind_some]
      rw [w64 (x := (f i).Hi - (f i).Lo) (by omega) (by omega), w64 (x := ((f i).Hi - (f i).Lo) * fr l i) (by omega) (by omega), h2, w64 (x := ((f i).Hi - (f i).Lo) * fr l i / 65535) (by omega) (by omega), w64 (by omega) (by omega)]
  · rw [armillaryref03_PointIn.l9]
    simp only [mk_len, dnl, Bool.false_eq_true, if_false]
/-! ### The program's walks over pairs -/
theorem zip_mk {α β : Type} (n : Nat) (f : Nat → α) (g : Nat → β) : (mk n f).zip (mk n g) = mk n fun i => (f i, g i) := by
  unfold mk
  rw [List.zip_map']
theorem mk_all {α : Type} (n : Nat) (f : Nat → α) (p : α → Bool) : (mk n f).all p = allB n fun i => p (f i) := by
  unfold mk allB
  rw [List.all_map]; rfl
theorem bsub_l (a b : List TInterval) : ∀ l : List (TInterval × TInterval), box_Subset.l6 a b l = some (l.all fun p => subB p.1 p.2)
  | [] => rfl
  | (x, y) :: l => by
    rw [box_Subset.l6]
    simp only [interval_Subset, Option.bind_some, bsub_l a b l, List.all_cons]
    show (if (!(subB x y)) = true then _ else _) = some (subB x y && _)
    cases subB x y <;> rfl
theorem bsubset {n : Nat} (hn : n < 1000000) (f g : Nat → TInterval) : box_Subset (mk n f) (mk n g) = some (allB n fun i => subB (f i) (g i)) := by
  unfold box_Subset
  rw [if_pos (by rw [mk_len, mk_len]; exact ⟨Nat.le_refl _, hn⟩), bsub_l, zip_mk, mk_all]
theorem bhull_l (a b : List TInterval) : ∀ (l : List (TInterval × TInterval)) (acc : List TInterval), acc.length + l.length < 1000000 → box_Hull.l8 a b l acc = some (acc ++ l.map fun p => hullI p.1 p.2)
  | [], acc, _ => by rw [box_Hull.l8]; simp
  | (x, y) :: l, acc, h => by
    simp only [List.length_cons] at h
    rw [box_Hull.l8]
    simp only [interval_Hull, Option.bind_some]
    rw [if_pos (by omega), bhull_l a b l _ (by simp; omega)]
    simp [hullI]
theorem mk_map {α β : Type} (n : Nat) (f : Nat → α) (g : α → β) : (mk n f).map g = mk n fun i => g (f i) := by
  unfold mk; rw [List.map_map]; rfl
theorem bhull {n : Nat} (hn : n < 1000000) (f g : Nat → TInterval) : box_Hull (mk n f) (mk n g) = some (mk n fun i => hullI (f i) (g i)) := by
  unfold box_Hull
  rw [if_pos (by rw [mk_len, mk_len]; exact ⟨Nat.le_refl _, hn⟩), bhull_l _ _ _ _ (by rw [zip_mk, mk_len]; simpa using hn), zip_mk, mk_map]
  rfl
def metB (a b : TInterval) : Bool := decide (mx a.Lo b.Lo ≤ mn a.Hi b.Hi)
def metI (a b : TInterval) : TInterval := ⟨mx a.Lo b.Lo, mn a.Hi b.Hi⟩
theorem bint_l (a b : List TInterval) : ∀ (l : List (TInterval × TInterval)) (acc : List TInterval), acc.length + l.length < 1000000 →
    box_Intersect.l8 a b l acc = some (if (l.all fun p => metB p.1 p.2) = true then (acc ++ l.map (fun p => metI p.1 p.2), true) else ([], false))
  | [], acc, _ => by rw [box_Intersect.l8]; simp
  | (x, y) :: l, acc, h => by
    simp only [List.length_cons] at h
    rw [box_Intersect.l8]
    rw [int_eq]
    by_cases hm : mx x.Lo y.Lo ≤ mn x.Hi y.Hi
    · have h1 : metB x y = true := decide_eq_true hm
      rw [if_pos hm, Option.bind_some, if_neg (by simp), if_pos (by omega), bint_l a b l _ (by simp; omega)]
      simp only [List.all_cons, h1, Bool.true_and, List.map_cons, List.append_assoc, List.singleton_append]
      rfl
    · have h1 : metB x y = false := decide_eq_false hm
      rw [if_neg hm, Option.bind_some, if_pos (by simp)]
      simp [h1]
theorem bint {n : Nat} (hn : n < 1000000) (f g : Nat → TInterval) : box_Intersect (mk n f) (mk n g) = some (if allB n (fun i => metB (f i) (g i)) = true then (mk n fun i => metI (f i) (g i), true) else ([], false)) := by
  unfold box_Intersect
  rw [if_pos (by rw [mk_len, mk_len]; exact ⟨Nat.le_refl _, hn⟩), bint_l _ _ _ _ (by rw [zip_mk, mk_len]; simpa using hn), zip_mk, mk_all, mk_map]
  rfl
theorem rintB (a b : TInterval) : armillaryref02_Intersect a b = some (if metB a b = true then (metI a b, true) else (⟨0, 0⟩, false)) := by
  rw [rint_eq, int_eq]; unfold metB metI
  by_cases h : mx a.Lo b.Lo ≤ mn a.Hi b.Hi
  · rw [if_pos h, if_pos (by simpa using h)]
  · rw [if_neg h, if_neg (by simpa using h)]
theorem rint {n : Nat} (hn : n < 1000000) (f g : Nat → TInterval) {k : Nat} (hk : n < k) : armillaryref03_Intersect k (mk n f) (mk n g) = some (if allB n (fun i => metB (f i) (g i)) = true then (mk n fun i => metI (f i) (g i), true) else ([], false)) := by
  have key : ∀ (r i k' : Nat), i + r = n → r < k' → (∀ j, j < i → metB (f j) (g j) = true) →
      armillaryref03_Intersect.l9 k (mk n f) (mk n g) k' (mk i fun i => metI (f i) (g i)) (i : Int) = some (if allB n (fun i => metB (f i) (g i)) = true then .inr (mk n fun i => metI (f i) (g i)) else .inl ([], false)) := by
    intro r
    induction r with
    | zero =>
      intro i k' hi hk' hp
      obtain ⟨k', rfl⟩ : ∃ m, k' = m + 1 := ⟨k' - 1, by omega⟩
      obtain rfl : i = n := by omega
      rw [armillaryref03_Intersect.l9, if_pos (allB_iff.2 hp)]
      simp only [mk_len, dnl, Bool.false_eq_true, if_false]
    | succ r ih =>
      intro i k' hi hk' hp
      obtain ⟨k', rfl⟩ : ∃ m, k' = m + 1 := ⟨k' - 1, by omega⟩
      have hi' : i < n := by omega
      rw [armillaryref03_Intersect.l9]
      simp only [mk_len, dlt hi', decide_true, if_true, rng hi', and_self, Int.toNat_natCast, mk_get _ hi', Option.bind_some, wnext (Nat.lt_trans hi' hn), rintB]
      by_cases h : metB (f i) (g i) = true
      · rw [if_pos h]
        simp only [Bool.not_true, Bool.false_eq_true, if_false, Nat.lt_trans hi' hn, if_true]
        rw [show ([(⟨(metI (f i) (g i)).Lo, (metI (f i) (g i)).Hi⟩ : TInterval)]) = [metI (f i) (g i)] from rfl, ← mk_succ (f := fun i => metI (f i) (g i))]
        refine ih (i + 1) k' (by omega) (by omega) fun j hj => ?_
        by_cases e : j = i
        · subst e; exact h
        · exact hp j (by omega)
      · rw [if_neg h]
        have : allB n (fun i => metB (f i) (g i)) = false := allB_not.2 ⟨i, hi', by simpa using h⟩
        rw [this]; rfl
  unfold armillaryref03_Intersect
  have h0 := key n 0 k (by omega) hk (fun j hj => absurd hj (Nat.not_lt_zero _))
  rw [show (mk 0 fun i => metI (f i) (g i)) = [] from rfl, show ((0 : Nat) : Int) = 0 from rfl] at h0
  rw [h0]
  by_cases h : allB n (fun i => metB (f i) (g i)) = true
  · rw [if_pos h, if_pos h]; rfl
  · rw [if_neg h, if_neg h]; rfl
/-! ### Valid -/
theorem bvalid {n : Nat} (hn : n < 1000000) (f : Nat → TInterval) {k : Nat} (hk : n < k) : box_Valid k (mk n f) = some ((decide ((n : Int) ≥ 1) && decide ((n : Int) ≤ 6)) && allB n fun i => decide (Ok (f i))) := by
  unfold box_Valid
  rw [mk_len]
  cases hc : (decide ((n : Int) ≥ 1) && decide ((n : Int) ≤ 6)) with
  | false => simp
  | true =>
    simp only [beq_self_eq_true, if_true]
    unfold api_Interval_57_s56 api_Interval_93_s56
    have hl := loop_find (api_Interval_93_s56.l6 k (mk n f)) n (fun i => !decide (Ok (f i))) (fun i => (i : Int)) (fun m i hi => by
        rw [api_Interval_93_s56.l6]
        simp only [mk_len, dlt hi, decide_true, if_true, rng hi, and_self, Int.toNat_natCast, mk_get _ hi, Option.bind_some, wnext (Nat.lt_trans hi hn), box_Valid_1, ivalid_eq]) (fun m => by
        rw [api_Interval_93_s56.l6]
        simp only [mk_len, dnl, Bool.false_eq_true, if_false]) hk
    rcases hl with ⟨i, hi, hp, _, h⟩ | ⟨hp, h⟩
    · have h1 : allB n (fun i => decide (Ok (f i))) = false := allB_not.2 ⟨i, hi, by simpa using hp⟩
      rw [h, h1]
      have : decide ((i : Int) ≥ 0) = true := decide_eq_true (by omega)
      simp only [Option.bind_some, this, Bool.not_true, Bool.and_false]
    · have h1 : allB n (fun i => decide (Ok (f i))) = true := allB_iff.2 fun i hi => by simpa using hp i hi
      rw [h, h1]; rfl
/-! ### Point, Mid, Inflate -/
theorem bpoint {n : Nat} (hn : n < 1000000) (p : Nat → Int) {k : Nat} (hk : n < k) : box_Point k (mk n p) = some (mk n fun i => nw (p i) (p i)) := by
  unfold box_Point; rw [mapPoint hn p hk]; rfl
theorem bmid {n : Nat} (hn : n < 1000000) (f : Nat → TInterval) {k : Nat} (hk : n < k) (hf : ∀ i, i < n → Ok (f i)) : box_Mid k (mk n f) = some (mk n fun i => ((f i).Lo + (f i).Hi) / 2) := by
  unfold box_Mid; rw [mapMid hn f hk hf]; rfl
theorem binflate {n : Nat} (hn : n < 1000000) (f : Nat → TInterval) (d : Int) {k : Nat} (hk : n < k) (hf : ∀ i, i < n → Ok (f i)) (hd : 0 ≤ d ∧ d ≤ 4294967296) : box_Inflate k (mk n f) d = some (mk n fun i => infl d (f i)) := by
  unfold box_Inflate; rw [mapInfl hn f d hk hf hd]; rfl
theorem unb {n : Nat} (hn : n < 1000000) (f : Nat → TInterval) {k : Nat} (hk : n < k) : armillarylaw03_unbounded k (mk n f) = some (!allB n fun i => !decide (f i = Ent)) := by
  unfold armillarylaw03_unbounded
  have hl := loop_find (armillarylaw03_unbounded.l6 k (mk n f)) n (fun i => decide (f i = Ent)) (fun i => true) (fun m i hi => by
      rw [armillarylaw03_unbounded.l6]
      simp only [mk_len, dlt hi, decide_true, if_true, rng hi, and_self, Int.toNat_natCast, mk_get _ hi, Option.bind_some, wnext (Nat.lt_trans hi hn), isEnt]) (fun m => by
      rw [armillarylaw03_unbounded.l6]
      simp only [mk_len, dnl, Bool.false_eq_true, if_false]) hk
  rcases hl with ⟨i, hi, hp, _, h⟩ | ⟨hp, h⟩
  · have h1 : allB n (fun i => !decide (f i = Ent)) = false := allB_not.2 ⟨i, hi, by simpa using hp⟩
    rw [h, h1]; rfl
  · have h1 : allB n (fun i => !decide (f i = Ent)) = true := allB_iff.2 fun i hi => by simpa using hp i hi
    rw [h, h1]; rfl
theorem same_self {n : Nat} (hn : n < 1000000) (f : Nat → TInterval) {k : Nat} (hk : n < k) : armillaryref03_Same k (mk n f) (mk n f) = some true := by
  rw [same_mk hn f f hk]
  congr 1
  exact allB_iff.2 fun i _ => by simp
theorem sane (m : Nat) : armillarylaw03_sanity (m + 100) = some true := by kernel_rfl
end Go.Proofs.Ytgccinodonkgjaa
