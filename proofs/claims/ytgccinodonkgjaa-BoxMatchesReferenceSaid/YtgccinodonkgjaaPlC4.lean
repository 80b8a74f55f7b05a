/- Boxes: squared distances and separation. Own work. -/
import Derived.Test.YtgccinodonkgjaaPlBoxIntersectIsGreatestLowerBound
set_option maxRecDepth 10000
set_option linter.unusedVariables false
set_option linter.unusedSimpArgs false
namespace Go.Proofs.Ytgccinodonkgjaa
open Go
def subI (a b : TInterval) : TInterval := if a = Ent ∨ b = Ent then Ent else nw (a.Lo - b.Hi) (a.Hi - b.Lo)
def sqI (a : TInterval) : TInterval := if a = Ent then Ent else nw (sqm a * sqm a / 65536) (cdiv (mag a * mag a) 65536)
def addI (a b : TInterval) : TInterval := if a = Ent ∨ b = Ent then Ent else nw (a.Lo + b.Lo) (a.Hi + b.Hi)
theorem Ok.fin {a : TInterval} (h : Ok a) (hn : a ≠ Ent) : Fin a := h.resolve_left hn
theorem Fin.nent {a : TInterval} (h : Fin a) : a ≠ Ent := by have := h.ne; simpa using this
theorem sub_tot {a b : TInterval} (ha : Ok a) (hb : Ok b) : interval_Sub a b = some (subI a b) ∧ Ok (subI a b) := by
  unfold subI
  by_cases e : a = Ent
  · subst e; rw [if_pos (.inl rfl)]; exact ⟨sub_entl hb, .inl rfl⟩
  · by_cases e' : b = Ent
    · subst e'; rw [if_pos (.inr rfl)]; exact ⟨sub_entr a, .inl rfl⟩
    · rw [if_neg (by simp [e, e'])]
      have fa := ha.fin e
      have fb := hb.fin e'
      refine ⟨sub_fin fa fb, nw_ok ?_⟩
      unfold Fin at fa fb; omega
theorem add_tot {a b : TInterval} (ha : Ok a) (hb : Ok b) : interval_Add a b = some (addI a b) ∧ Ok (addI a b) := by
  unfold addI
  by_cases e : a = Ent
  · subst e; rw [if_pos (.inl rfl)]; exact ⟨add_entl b, .inl rfl⟩
  · by_cases e' : b = Ent
    · subst e'; rw [if_pos (.inr rfl)]; exact ⟨add_entr a, .inl rfl⟩
    · rw [if_neg (by simp [e, e'])]
      have fa := ha.fin e
      have fb := hb.fin e'
      refine ⟨add_fin fa fb, nw_ok ?_⟩
      unfold Fin at fa fb; omega
theorem sq_tot {a : TInterval} (ha : Ok a) : interval_Square a = some (sqI a) ∧ Ok (sqI a) := by
  unfold sqI
  by_cases e : a = Ent
  · subst e; rw [if_pos rfl]; exact ⟨sq_ent, .inl rfl⟩
  · rw [if_neg e]
    have fa := ha.fin e
    refine ⟨sq_fin fa, nw_ok (fc (by omega) (sq_le2 fa))⟩
/-- The sum of the first m intervals. -/
def Dn (q : Nat → TInterval) : Nat → TInterval
  | 0 => ⟨0, 0⟩
  | m + 1 => addI (Dn q m) (q m)
def sumN (q : Nat → Int) : Nat → Int
  | 0 => 0
  | m + 1 => sumN q m + q m
theorem Dn_ok {q : Nat → TInterval} : ∀ {m : Nat}, (∀ i, i < m → Ok (q i)) → Ok (Dn q m)
  | 0, _ => .inr ⟨by simp [Dn], by simp [Dn], by simp [Dn]⟩
  | m + 1, h => (add_tot (Dn_ok fun i hi => h i (by omega)) (h m (by omega))).2
theorem Dn_fin {q : Nat → TInterval} : ∀ {m : Nat}, (∀ i, i < m → Ok (q i)) → Dn q m ≠ Ent → (∀ i, i < m → Fin (q i)) ∧ (Dn q m).Lo = sumN (fun i => (q i).Lo) m ∧ (Dn q m).Hi = sumN (fun i => (q i).Hi) m
  | 0, _, _ => ⟨fun i hi => absurd hi (Nat.not_lt_zero _), rfl, rfl⟩
  | m + 1, h, hn => by
    unfold Dn addI at hn
    have h1 : ¬ (Dn q m = Ent ∨ q m = Ent) := fun hh => by rw [if_pos hh] at hn; exact hn rfl
    have h2 : Dn q m ≠ Ent := fun e => h1 (.inl e)
    have h3 : q m ≠ Ent := fun e => h1 (.inr e)
    obtain ⟨i1, i2, i3⟩ := Dn_fin (fun i hi => h i (by omega)) h2
    have fq := (h m (by omega)).fin h3
    have fD := (Dn_ok fun i hi => h i (by omega : i < m + 1)).fin h2
    rw [if_neg h1] at hn
    have hle : (Dn q m).Lo + (q m).Lo ≤ (Dn q m).Hi + (q m).Hi := by unfold Fin at fq fD; omega
    rcases nw_cases _ _ hle with ⟨e, _⟩ | ⟨e, hf⟩
    · exact absurd e hn
    · refine ⟨fun i hi => ?_, ?_, ?_⟩
      · by_cases e2 : i = m
        · subst e2; exact fq
        · exact i1 i (by omega)
      · unfold Dn addI; rw [if_neg h1, e]; simp only [sumN]; rw [i2]
      · unfold Dn addI; rw [if_neg h1, e]; simp only [sumN]; rw [i3]
/-- A sum that stays below is no entire line. -/
theorem Dn_below {q : Nat → TInterval} : ∀ {m : Nat}, (∀ i, i < m → Fin (q i) ∧ 0 ≤ (q i).Lo) → sumN (fun i => (q i).Hi) m < 2147483648 → (∀ j, j ≤ m → sumN (fun i => (q i).Hi) j ≤ sumN (fun i => (q i).Hi) m) →
    Dn q m = ⟨sumN (fun i => (q i).Lo) m, sumN (fun i => (q i).Hi) m⟩ ∧ 0 ≤ sumN (fun i => (q i).Lo) m ∧ sumN (fun i => (q i).Lo) m ≤ sumN (fun i => (q i).Hi) m
  | 0, _, _, _ => ⟨rfl, by simp [sumN], by simp [sumN]⟩
  | m + 1, h, hb, hm => by
    have hq := h m (by omega)
    have hfq := hq.1
    unfold Fin at hfq
    have hs : sumN (fun i => (q i).Hi) (m + 1) = sumN (fun i => (q i).Hi) m + (q m).Hi := rfl
    have hsl : sumN (fun i => (q i).Lo) (m + 1) = sumN (fun i => (q i).Lo) m + (q m).Lo := rfl
    have hpre : ∀ j, j ≤ m → sumN (fun i => (q i).Hi) j ≤ sumN (fun i => (q i).Hi) m := by
      intro j hj
      have key : ∀ d j, j + d = m → sumN (fun i => (q i).Hi) j ≤ sumN (fun i => (q i).Hi) m := by
        intro d
        induction d with
        | zero => intro j hj; have : j = m := by omega
                  subst this; exact Int.le_refl _
        | succ d ih =>
          intro j hj
          have h1 := ih (j + 1) (by omega)
          have h2 := h j (by omega)
          have h3 := h2.1
          unfold Fin at h3
          have h4 : sumN (fun i => (q i).Hi) (j + 1) = sumN (fun i => (q i).Hi) j + (q j).Hi := rfl
          omega
      exact key (m - j) j (by omega)
    obtain ⟨e, h0, hle⟩ := Dn_below (m := m) (fun i hi => h i (by omega)) (by omega) hpre
    have hD : Fin (Dn q m) := by rw [e]; unfold Fin; simp only; omega
    refine ⟨?_, by rw [hsl]; omega, by rw [hs, hsl]; omega⟩
    unfold Dn addI
    rw [if_neg (by intro hh; rcases hh with hh | hh; exact hD.nent hh; exact hq.1.nent hh), e, nw_fin]
    · rfl
    · unfold Fin; simp only; omega
theorem sumN_le {p q : Nat → Int} : ∀ {m : Nat}, (∀ i, i < m → p i ≤ q i) → sumN p m ≤ sumN q m
  | 0, _ => Int.le_refl _
  | m + 1, h => by
    have h1 := sumN_le (p := p) (q := q) (m := m) fun i hi => h i (by omega)
    have h2 := h m (by omega)
    simp only [sumN]; omega
theorem sumN_nn {q : Nat → Int} {m : Nat} (h : ∀ i, i < m → 0 ≤ q i) : 0 ≤ sumN q m := by
  have h1 : ∀ m, sumN (fun _ => (0 : Int)) m = 0 := by
    intro m
    induction m with
    | zero => rfl
    | succ m ih => simp only [sumN, ih]; rfl
  have := sumN_le (p := fun _ => 0) (q := q) (m := m) h
  rw [h1] at this; exact this
theorem sumN_mono {q : Nat → Int} {m : Nat} (h : ∀ i, i < m → 0 ≤ q i) {j : Nat} (hj : j ≤ m) : sumN q j ≤ sumN q m := by
  have key : ∀ d j, j + d = m → sumN q j ≤ sumN q m := by
    intro d
    induction d with
    | zero => intro j hj; have : j = m := by omega
              subst this; exact Int.le_refl _
    | succ d ih =>
      intro j hj
      have h1 := ih (j + 1) (by omega)
      have h2 := h j (by omega)
      have h4 : sumN q (j + 1) = sumN q j + q j := rfl
      omega
  exact key (m - j) j (by omega)
theorem sumN_zero {q : Nat → Int} : ∀ {m : Nat}, (∀ i, i < m → q i = 0) → sumN q m = 0
  | 0, _ => rfl
  | m + 1, h => by simp only [sumN]; rw [sumN_zero fun i hi => h i (by omega), h m (by omega)]; rfl
theorem sumN_congr {p q : Nat → Int} {m : Nat} (h : ∀ i, i < m → p i = q i) : sumN p m = sumN q m := by
  have h1 := sumN_le (p := p) (q := q) (m := m) fun i hi => Int.le_of_eq (h i hi)
  have h2 := sumN_le (p := q) (q := p) (m := m) fun i hi => Int.le_of_eq (h i hi).symm
  omega
theorem Dn_congr {p q : Nat → TInterval} : ∀ {m : Nat}, (∀ i, i < m → p i = q i) → Dn p m = Dn q m
  | 0, _ => rfl
  | m + 1, h => by unfold Dn; rw [Dn_congr fun i hi => h i (by omega), h m (by omega)]
/-! ### The squared distance -/
def dq (f g : Nat → TInterval) (i : Nat) : TInterval := sqI (subI (f i) (g i))
theorem dq_ok {f g : Nat → TInterval} {i : Nat} (hf : Ok (f i)) (hg : Ok (g i)) : Ok (dq f g i) := (sq_tot (sub_tot hf hg).2).2
theorem bdist_l (a b : List TInterval) {f g : Nat → TInterval} {n : Nat} (hf : ∀ i, i < n → Ok (f i)) (hg : ∀ i, i < n → Ok (g i)) : ∀ (r m : Nat), m + r = n →
    box_SquaredDistance.l9 a b ((List.range' m r).map fun i => (f i, g i)) (Dn (dq f g) m).Lo (Dn (dq f g) m).Hi = some (Dn (dq f g) n)
  | 0, m, h => by
    obtain rfl : m = n := by omega
    rfl
  | r + 1, m, h => by
    rw [List.range'_succ, List.map_cons, box_SquaredDistance.l9, (sub_tot (hf m (by omega)) (hg m (by omega))).1, Option.bind_some, (sq_tot (sub_tot (hf m (by omega)) (hg m (by omega))).2).1, Option.bind_some]
    have hD : Ok (Dn (dq f g) m) := Dn_ok fun i hi => dq_ok (hf i (by omega)) (hg i (by omega))
    have ha := add_tot hD (dq_ok (hf m (by omega)) (hg m (by omega)))
    rw [show (⟨(Dn (dq f g) m).Lo, (Dn (dq f g) m).Hi⟩ : TInterval) = Dn (dq f g) m from rfl, show sqI (subI (f m) (g m)) = dq f g m from rfl, ha.1, Option.bind_some]
    exact bdist_l a b hf hg r (m + 1) (by omega)
theorem bdist {n : Nat} (hn : n < 1000000) {f g : Nat → TInterval} (hf : ∀ i, i < n → Ok (f i)) (hg : ∀ i, i < n → Ok (g i)) : box_SquaredDistance (mk n f) (mk n g) = some (Dn (dq f g) n) := by
  unfold box_SquaredDistance
  rw [if_pos (by rw [mk_len, mk_len]; exact ⟨Nat.le_refl _, hn⟩), zip_mk]
  have := bdist_l (mk n f) (mk n g) hf hg n 0 (by omega)
  unfold mk at this ⊢
  rw [List.range_eq_range']
  rw [List.range_eq_range'] at this
  exact this
theorem rdist {n : Nat} (hn : n < 1000000) {f g : Nat → TInterval} (hf : ∀ i, i < n → Ok (f i)) (hg : ∀ i, i < n → Ok (g i)) {k : Nat} (hk : n < k) : armillaryref03_SquaredDistance k (mk n f) (mk n g) = some (Dn (dq f g) n) := by
  have key : ∀ (r i k' : Nat), i + r = n → r < k' → armillaryref03_SquaredDistance.l11 k (mk n f) (mk n g) k' (i : Int) (Dn (dq f g) i).Lo (Dn (dq f g) i).Hi = some ((Dn (dq f g) n).Lo, (Dn (dq f g) n).Hi) := by
    intro r
    induction r with
    | zero =>
      intro i k' hi hk'
      obtain ⟨k', rfl⟩ : ∃ m, k' = m + 1 := ⟨k' - 1, by omega⟩
      obtain rfl : i = n := by omega
      rw [armillaryref03_SquaredDistance.l11]
      simp only [mk_len, dnl, Bool.false_eq_true, if_false]
    | succ r ih =>
      intro i k' hi hk'
      obtain ⟨k', rfl⟩ : ∃ m, k' = m + 1 := ⟨k' - 1, by omega⟩
      have hi' : i < n := by omega
      have s1 := sub_tot (hf i hi') (hg i hi')
      have s2 := sq_tot s1.2
      have hD : Ok (Dn (dq f g) i) := Dn_ok fun j hj => dq_ok (hf j (by omega)) (hg j (by omega))
      have s3 := add_tot hD (dq_ok (hf i hi') (hg i hi'))
      have r1 : armillaryref02_Sub (f i) (g i) = some (subI (f i) (g i)) := by rw [rsub_eq (hf i hi') (hg i hi')]; exact s1.1
      have r2 : armillaryref02_Square (subI (f i) (g i)) = some (dq f g i) := by rw [rsq_eq s1.2]; exact s2.1
      have r3 : armillaryref02_Add ⟨(Dn (dq f g) i).Lo, (Dn (dq f g) i).Hi⟩ (dq f g i) = some (Dn (dq f g) (i + 1)) := by
        rw [show (⟨(Dn (dq f g) i).Lo, (Dn (dq f g) i).Hi⟩ : TInterval) = Dn (dq f g) i from rfl, radd_eq hD (dq_ok (hf i hi') (hg i hi'))]; exact s3.1
      rw [armillaryref03_SquaredDistance.l11]
      simp only [mk_len, dlt hi', decide_true, if_true, rng hi', and_self, Int.toNat_natCast, mk_get _ hi', Option.bind_some, wnext (Nat.lt_trans hi' hn), r1, r2, r3]
      exact ih (i + 1) k' (by omega) (by omega)
  unfold armillaryref03_SquaredDistance
  have h0 := key n 0 k (by omega) hk
  rw [show ((0 : Nat) : Int) = 0 from rfl, show (Dn (dq f g) 0) = ⟨0, 0⟩ from rfl] at h0
  rw [h0]; rfl
theorem tm16 (x : Int) : -65536 < Int.tmod x 65536 ∧ Int.tmod x 65536 < 65536 := by
  have h1 := Int.tmod_lt_of_pos x (b := 65536) (by omega)
  have h2 := Int.tmod_lt_of_pos (-x) (b := 65536) (by omega)
  rw [Int.neg_tmod] at h2
  omega
instance (a : TInterval) : Decidable (Fin a) := by unfold Fin; infer_instance
instance (a : TInterval) : Decidable (Ok a) := by unfold Ok; infer_instance
theorem rmul {x y : Int} (h1 : -4611686018427387904 ≤ x * y) (h2 : x * y ≤ 4611686018427387904) : armillaryref01_Mul x y = some (x * y / 65536, cdiv (x * y) 65536) := by
  unfold armillaryref01_Mul
  rw [w64 (by omega) (by omega)]
  have hb : (0 : Int) < 65536 := by omega
  have hT := tdm (x * y) 65536 hb
  have hc := cdiv_eq (a := x * y) hb
  generalize x * y = z at *
  have hd := ediv_bounds (a := z) (b := 65536) (B := 4611686018427387904) hb h1 h2
  have hm0 := Int.emod_nonneg z (show (65536 : Int) ≠ 0 by omega)
  have hm1 := Int.emod_lt_of_pos z hb
  have e1 : armillaryref01_Down z 65536 = some (z / 65536) := by
    unfold armillaryref01_Down
    rw [if_pos (by omega), if_pos (by omega)]
    by_cases hneg : Int.tmod z 65536 < 0
    · obtain ⟨g1, g2⟩ := hT.1 hneg
      have hz : z < 0 := by
        by_cases hz : 0 ≤ z
        · have := Int.tmod_nonneg 65536 hz; omega
        · omega
      rw [if_pos (by simp; omega)]
      rw [w64 (x := Int.tdiv z 65536) (by omega) (by omega), w64 (by omega) (by omega)]
      simp only [Option.bind_some]; rw [g1]
    · obtain ⟨g1, g2⟩ := hT.2 hneg
      rw [if_neg (by
        intro hh
        simp only [Bool.and_eq_true, bne_iff_ne, ne_eq, Bool.not_eq_true', beq_eq_false_iff_ne] at hh
        have hz : z < 0 := by
          by_cases hz : z < 0
          · exact hz
          · exfalso; apply hh.2
            have : ¬ ((65536 : Int) < 0) := by omega
            simp [hz, this]
        have h6 : Int.tmod z 65536 ≤ 0 := by
          have := Int.tmod_nonneg 65536 (show 0 ≤ -z by omega)
          rw [Int.neg_tmod] at this; omega
        omega)]
      rw [w64 (by omega) (by omega)]
      simp only [Option.bind_some]; rw [g1]
  have e2 : armillaryref01_Up z 65536 = some (cdiv z 65536) := by
    unfold armillaryref01_Up
    rw [if_pos (by omega), if_pos (by omega)]
    by_cases hneg : Int.tmod z 65536 < 0
    · obtain ⟨g1, g2⟩ := hT.1 hneg
      have hz : z < 0 := by
        by_cases hz : 0 ≤ z
        · have := Int.tmod_nonneg 65536 hz; omega
        · omega
      have h7 : Int.tdiv z 65536 = cdiv z 65536 := by
        rw [hc, ← g1]
        have hb3 := tm16 z
        have : mn (z % 65536) 1 = 1 := by unfold mn; split <;> omega
        rw [this]; omega
      rw [if_neg (by simp; omega)]
      rw [w64 (by omega) (by omega), h7]
      rfl
    · obtain ⟨g1, g2⟩ := hT.2 hneg
      by_cases hz0 : Int.tmod z 65536 = 0
      · rw [if_neg (by simp [hz0])]
        rw [w64 (by omega) (by omega), g1, hc]
        have : mn (z % 65536) 1 = 0 := by unfold mn; split <;> omega
        rw [this]; simp
      · have hz : ¬ z < 0 := by
          intro hz
          have h6 : Int.tmod z 65536 ≤ 0 := by
            have := Int.tmod_nonneg 65536 (show 0 ≤ -z by omega)
            rw [Int.neg_tmod] at this; omega
          omega
        rw [if_pos (by simp; omega)]
        rw [w64 (x := Int.tdiv z 65536) (by omega) (by omega), w64 (by omega) (by omega), g1, hc]
        have : mn (z % 65536) 1 = 1 := by unfold mn; split <;> omega
        rw [this]; rfl
  rw [e1, Option.bind_some, e2]; rfl
/-- What 'Separated' answers. -/
def sepB (n : Nat) (f g : Nat → TInterval) (d : Int) : Bool := !decide (Dn (dq f g) n = Ent) && decide ((Dn (dq f g) n).Lo > cdiv (d * d) 65536)
theorem sqb {d : Int} (h : 0 ≤ d ∧ d ≤ 16777215) : 0 ≤ d * d ∧ d * d ≤ 281474943156225 := ⟨Int.mul_nonneg h.1 h.1, Int.mul_le_mul h.2 h.2 h.1 (by omega)⟩
theorem bsep {n : Nat} (hn : n < 1000000) {f g : Nat → TInterval} (hf : ∀ i, i < n → Ok (f i)) (hg : ∀ i, i < n → Ok (g i)) {d : Int} (hd : 0 ≤ d ∧ d ≤ 16777215) : box_Separated (mk n f) (mk n g) d = some (sepB n f g d) := by
  unfold box_Separated
  have h1 := sqb hd
  rw [bdist hn hf hg, Option.bind_some, mul_eq ⟨by omega, by omega⟩ ⟨by omega, by omega⟩, Option.bind_some, isEnt]
  rfl
theorem rsep {n : Nat} (hn : n < 1000000) {f g : Nat → TInterval} (hf : ∀ i, i < n → Ok (f i)) (hg : ∀ i, i < n → Ok (g i)) {d : Int} (hd : 0 ≤ d ∧ d ≤ 16777215) {k : Nat} (hk : n < k) : armillaryref03_Separated k (mk n f) (mk n g) d = some (sepB n f g d) := by
  unfold armillaryref03_Separated
  have h1 := sqb hd
  rw [rdist hn hf hg hk, Option.bind_some, rmul (by omega) (by omega), Option.bind_some, ref_isEnt]
  rfl
theorem dq_comm (f g : Nat → TInterval) (i : Nat) : dq f g i = dq g f i := by
  unfold dq subI
  by_cases e : f i = Ent ∨ g i = Ent
  · rw [if_pos e, if_pos e.symm]
  · rw [if_neg e, if_neg fun h => e h.symm]
    unfold nw
    by_cases h : (f i).Lo - (g i).Hi ≤ -2147483648 ∨ (f i).Hi - (g i).Lo ≥ 2147483648 ∨ (f i).Lo - (g i).Hi ≥ 2147483648 ∨ (f i).Hi - (g i).Lo ≤ -2147483648
    · rw [if_pos h, if_pos (by omega)]
    · rw [if_neg h, if_neg (by omega)]
      have h1 : (⟨(f i).Lo - (g i).Hi, (f i).Hi - (g i).Lo⟩ : TInterval) ≠ Ent := fun e => by rw [Ent, TInterval.mk.injEq] at e; omega
      have h2 : (⟨(g i).Lo - (f i).Hi, (g i).Hi - (f i).Lo⟩ : TInterval) ≠ Ent := fun e => by rw [Ent, TInterval.mk.injEq] at e; omega
      unfold sqI
      rw [if_neg h1, if_neg h2]
      have e1 : sqm ⟨(f i).Lo - (g i).Hi, (f i).Hi - (g i).Lo⟩ = sqm ⟨(g i).Lo - (f i).Hi, (g i).Hi - (f i).Lo⟩ := by
        unfold sqm mx; simp only; split <;> split <;> split <;> split <;> omega
      have e2 : mag ⟨(f i).Lo - (g i).Hi, (f i).Hi - (g i).Lo⟩ = mag ⟨(g i).Lo - (f i).Hi, (g i).Hi - (f i).Lo⟩ := by
        unfold mag mx; simp only; split <;> split <;> omega
      rw [e1, e2]
theorem dist_comm (f g : Nat → TInterval) (n : Nat) : Dn (dq f g) n = Dn (dq g f) n := Dn_congr fun i _ => dq_comm f g i
/-- A bounded square of a difference: what it says. -/
theorem dq_fin {f g : Nat → TInterval} {i : Nat} (hf : Ok (f i)) (hg : Ok (g i)) (h : Fin (dq f g i)) : Fin (f i) ∧ Fin (g i) ∧ Fin ⟨(f i).Lo - (g i).Hi, (f i).Hi - (g i).Lo⟩ ∧
    dq f g i = ⟨sqm ⟨(f i).Lo - (g i).Hi, (f i).Hi - (g i).Lo⟩ * sqm ⟨(f i).Lo - (g i).Hi, (f i).Hi - (g i).Lo⟩ / 65536, cdiv (mag ⟨(f i).Lo - (g i).Hi, (f i).Hi - (g i).Lo⟩ * mag ⟨(f i).Lo - (g i).Hi, (f i).Hi - (g i).Lo⟩) 65536⟩ := by
  have hne := h.nent
  unfold dq at hne
  have h1 : subI (f i) (g i) ≠ Ent := fun e => by unfold sqI at hne; rw [if_pos e] at hne; exact hne rfl
  have h2 : ¬ (f i = Ent ∨ g i = Ent) := fun e => by unfold subI at h1; rw [if_pos e] at h1; exact h1 rfl
  have ff := hf.fin fun e => h2 (.inl e)
  have fg := hg.fin fun e => h2 (.inr e)
  have hs : subI (f i) (g i) = nw ((f i).Lo - (g i).Hi) ((f i).Hi - (g i).Lo) := by unfold subI; rw [if_neg h2]
  rw [hs] at h1
  have hle : (f i).Lo - (g i).Hi ≤ (f i).Hi - (g i).Lo := by unfold Fin at ff fg; omega
  rcases nw_cases _ _ hle with ⟨e, _⟩ | ⟨e, hf2⟩
  · exact absurd e h1
  · refine ⟨ff, fg, hf2, ?_⟩
    have hd : dq f g i = sqI ⟨(f i).Lo - (g i).Hi, (f i).Hi - (g i).Lo⟩ := by unfold dq; rw [hs, e]
    rw [hd] at h ⊢
    have h3 := h.nent
    unfold sqI at h3 ⊢
    rw [if_neg hf2.nent] at h3 ⊢
    rcases nw_cases _ _ (fc (d := 65536) (by omega) (sq_le2 hf2)) with ⟨e4, _⟩ | ⟨e4, _⟩
    · exact absurd e4 h3
    · exact e4
theorem dq_lo {f g : Nat → TInterval} {i : Nat} (hf : Ok (f i)) (hg : Ok (g i)) (h : Fin (dq f g i)) : 0 ≤ (dq f g i).Lo := by
  obtain ⟨_, _, h3, e⟩ := dq_fin hf hg h
  rw [e]
  exact Int.ediv_nonneg (Int.mul_nonneg (sqm_nn _) (sqm_nn _)) (by omega)
/-- Points of the two: the square of their difference lies within. -/
theorem dq_pts {f g : Nat → TInterval} {i : Nat} (hf : Ok (f i)) (hg : Ok (g i)) (h : Fin (dq f g i)) {p q : Int} (hp : In (f i) p) (hq : In (g i) q) :
    (f i).Lo ≤ p ∧ p ≤ (f i).Hi ∧ (g i).Lo ≤ q ∧ q ≤ (g i).Hi ∧ -2147483648 < p - q ∧ p - q < 2147483648 ∧ (dq f g i).Lo ≤ (p - q) * (p - q) / 65536 ∧ cdiv ((p - q) * (p - q)) 65536 ≤ (dq f g i).Hi := by
  obtain ⟨ff, fg, h3, e⟩ := dq_fin hf hg h
  have hp' := hp.resolve_left ff.nent
  have hq' := hq.resolve_left fg.nent
  have hm := sq_mem h3 (p := p - q) ⟨by simp only; omega, by simp only; omega⟩
  have h3' := h3
  unfold Fin at h3'
  simp only at h3'
  refine ⟨hp'.1, hp'.2, hq'.1, hq'.2, by omega, by omega, ?_, ?_⟩
  · rw [e]; exact Int.ediv_le_ediv (by omega) hm.1
  · rw [e]; exact cdiv_mono (by omega) hm.2
end Go.Proofs.Ytgccinodonkgjaa
