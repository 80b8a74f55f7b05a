/- Samples, dot products, comparisons. Own work. -/
import Derived.Test.YtglcmhldonkfdaaDoorPlM4
set_option maxRecDepth 10000
set_option linter.unusedVariables false
set_option linter.unusedSimpArgs false
namespace Go.Proofs.YtglcmhldonkfdaaDoor
open Go
def ptI (a : TInterval) (t : Int) : Int := a.Lo + (a.Hi - a.Lo) * t / 65535
theorem ptI_mem {a : TInterval} {t : Int} (h : Sm a) (ht : 0 ≤ t ∧ t ≤ 65535) : a.Lo ≤ ptI a t ∧ ptI a t ≤ a.Hi := by
  unfold Sm at h
  have h1 : 0 ≤ (a.Hi - a.Lo) * t := Int.mul_nonneg (by omega) ht.1
  have h2 : (a.Hi - a.Lo) * t ≤ (a.Hi - a.Lo) * 65535 := mulL ht.2 (by omega)
  unfold ptI
  have h3 : 0 ≤ (a.Hi - a.Lo) * t / 65535 := Int.ediv_nonneg h1 (by omega)
  have h4 : (a.Hi - a.Lo) * t / 65535 ≤ a.Hi - a.Lo := by
    have := Int.ediv_le_ediv (c := 65535) (by omega) h2
    rw [Int.mul_ediv_cancel _ (by omega)] at this
    exact this
  omega
theorem ptI_eq {a : TInterval} {t : Int} (h : Sm a) (ht : 0 ≤ t ∧ t ≤ 65535) : w_i64 (a.Lo + (w_i64 (Int.tdiv (w_i64 ((w_i64 (a.Hi - a.Lo)) * t)) 65535))) = ptI a t := by
  have hm := ptI_mem h ht
  unfold Sm at h
  have h1 : 0 ≤ (a.Hi - a.Lo) * t := Int.mul_nonneg (by omega) ht.1
  have h2 : (a.Hi - a.Lo) * t ≤ 33554432 * 65535 := Int.le_trans (mulL ht.2 (by omega)) (mulR (by omega) (by omega))
  unfold ptI at hm ⊢
  have e : Int.tdiv ((a.Hi - a.Lo) * t) 65535 = (a.Hi - a.Lo) * t / 65535 := Int.tdiv_eq_ediv_of_nonneg h1
  rw [w64 (x := a.Hi - a.Lo) (by omega) (by omega), w64 (x := (a.Hi - a.Lo) * t) (by omega) (by omega), e, w64 (x := (a.Hi - a.Lo) * t / 65535) (by omega) (by omega), w64 (by omega) (by omega)]
theorem pointIn_eq {a : TInterval} {t : Int} (h : Sm a) (ht : 0 ≤ t ∧ t ≤ 65535) : armillaryref04_pointIn a t = some (ptI a t) := by
  unfold armillaryref04_pointIn
  rw [ref_isEnt_fin h.fin, Option.bind_some, if_neg (by simp), w64 (x := t) (by omega) (by omega), ptI_eq h ht]
def frac (ts : List Int) (N i j : Nat) : Int := if ts.length > 0 then ts.getD ((i * N + j) % ts.length) 0 else 0
theorem frac_b {ts : List Int} (h : ∀ y ∈ ts, 0 ≤ y ∧ y ≤ 65535) (N i j : Nat) : 0 ≤ frac ts N i j ∧ frac ts N i j ≤ 65535 := by
  unfold frac
  split
  · rename_i hp
    have hl := Nat.mod_lt (i * N + j) hp
    have e : ts.getD ((i * N + j) % ts.length) 0 = ts[(i * N + j) % ts.length] := by simp [List.getD, hl]
    rw [e]
    exact h _ (List.getElem_mem _)
  · omega
theorem sample_mm {N : Nat} (h6 : N ≤ 6) (f : Nat → Nat → TInterval) (hf : ∀ i, i < N → ∀ j, j < N → Sm (f i j)) (ts : List Int) (hts : ∀ y ∈ ts, 0 ≤ y ∧ y ≤ 65535) {k0 : Nat} (hk : N < k0) :
    armillaryref04_Sample k0 (mm N N f) ts = some (mm N N fun i j => ptI (f i j) (frac ts N i j)) := by
  unfold armillaryref04_Sample
  refine bT (loop_0 (fun k s x => armillaryref04_Sample.l9 k0 (mm N N f) ts k s x) N (fun j => mm j N fun i j => ptI (f i j) (frac ts N i j)) _ rfl (fun k i hi => ?_) (fun k => ?_) hk) rfl
  · show armillaryref04_Sample.l9 _ _ _ (k + 1) _ _ = _
    rw [armillaryref04_Sample.l9, mm_len, if_pos (dlt hi)]
    refine bT (v := mm (i + 1) N fun i j => ptI (f i j) (frac ts N i j)) ?_ (by rw [wnext (by omega)])
    refine bT (loop_0 (fun k s x => armillaryref04_Sample.l22 k0 (mm N N f) ts _ (i : Int) k s x) N (fun j => mk j fun j => ptI (f i j) (frac ts N i j)) (mk N fun j => ptI (f i j) (frac ts N i j)) rfl (fun k j hj => ?_) (fun k => ?_) hk) ?_
    · show armillaryref04_Sample.l22 _ _ _ _ _ (k + 1) _ _ = _
      rw [armillaryref04_Sample.l22, mm_len, if_pos (dlt hj)]
      refine bT (v := frac ts N i j) ?_ ?_
      · unfold frac
        by_cases h : ts.length > 0
        · have hl := Nat.mod_lt (i * N + j) h
          have e : Int.tmod ((i * N + j : Nat) : Int) (ts.length : Int) = (((i * N + j) % ts.length : Nat) : Int) := by
            rw [Int.tmod_eq_emod_of_nonneg (by omega)]; rfl
          rw [if_pos (by simp; omega), if_pos (by omega), w_ij h6 hi (by omega), e, if_pos (rng hl), Int.toNat_natCast, gD ts 0 hl, Option.bind_some, if_pos h]
        · rw [if_neg (by rw [decide_eq_true_eq]; omega), if_neg h]
      · rw [if_pos (rng hi), Int.toNat_natCast, mm_get _ hi, Option.bind_some, mk_len, if_pos (rng hj), Int.toNat_natCast, mk_get _ hj, Option.bind_some, pointIn_eq (hf i hi j hj) (frac_b hts _ _ _), Option.bind_some, mk_len, if_pos (by omega), wnext (by omega), ← mk_succ]
    · show armillaryref04_Sample.l22 _ _ _ _ _ (k + 1) _ _ = _
      rw [armillaryref04_Sample.l22, mm_len, if_neg (by rw [dnl]; simp)]
    · refine (if_pos (by show (mm i N _).length < _; rw [mm_len]; omega)).trans ?_
      show some (mm i N (fun i j => ptI (f i j) (frac ts N i j)) ++ _) = _
      unfold mm
      rw [mk_succ]
  · show armillaryref04_Sample.l9 _ _ _ (k + 1) _ _ = _
    rw [armillaryref04_Sample.l9, mm_len, if_neg (by rw [dnl]; simp)]
theorem pointBox_eq {N : Nat} (hn : N < 1000000) (b : Nat → TInterval) (hb : ∀ i, i < N → Sm (b i)) (ts : List Int) (hts : ∀ y ∈ ts, 0 ≤ y ∧ y ≤ 65535) {k0 : Nat} (hk : N < k0) :
    armillaryref03_PointIn k0 (mk N b) ts = some (mk N fun i => ptI (b i) (ts.getD i 0)) := by
  unfold armillaryref03_PointIn
  refine bT (loop_0 (fun k s x => armillaryref03_PointIn.l9 k0 (mk N b) ts k s x) N (fun j => mk j fun i => ptI (b i) (ts.getD i 0)) _ rfl (fun k i hi => ?_) (fun k => ?_) hk) rfl
  · show armillaryref03_PointIn.l9 _ _ _ (k + 1) _ _ = _
    rw [armillaryref03_PointIn.l9, mk_len, if_pos (dlt hi)]
    have hg : 0 ≤ ts.getD i 0 ∧ ts.getD i 0 ≤ 65535 := by
      by_cases h : i < ts.length
      · have e : ts.getD i 0 = ts[i] := by simp [List.getD, h]
        rw [e]; exact hts _ (List.getElem_mem _)
      · have e : ts.getD i 0 = 0 := by simp [List.getD, List.getElem?_eq_none (Nat.le_of_not_lt h)]
        rw [e]; omega
    refine bT (v := mk (i + 1) fun i => ptI (b i) (ts.getD i 0)) ?_ (by rw [wnext (by omega)])
    refine bT (v := ts.getD i 0) ?_ ?_
    · by_cases h : i < ts.length
      · rw [if_pos (dlt h), if_pos (rng h), Int.toNat_natCast, gD ts 0 h, Option.bind_some, w64 (by omega) (by omega)]
      · have e : ts.getD i 0 = 0 := by simp [List.getD, List.getElem?_eq_none (Nat.le_of_not_lt h)]
        rw [if_neg (by simp; omega), e]
    · rw [if_pos (rng hi), Int.toNat_natCast, mk_get _ hi, Option.bind_some, ref_isEnt_fin (hb i hi).fin, Option.bind_some, if_neg (by simp), if_pos (rng hi), Option.bind_some, if_pos (rng hi), Option.bind_some, if_pos (rng hi), Option.bind_some, mk_len, if_pos (by omega), ptI_eq (hb i hi) hg, mk_succ]
  · show armillaryref03_PointIn.l9 _ _ _ (k + 1) _ _ = _
    rw [armillaryref03_PointIn.l9, mk_len, if_neg (by rw [dnl]; simp)]
def InS (a : TInterval) (x : Int) : Prop := a = Ent ∨ a.Lo * 65536 ≤ x ∧ x ≤ a.Hi * 65536
theorem r4valid {N : Nat} (h0 : 0 < N) (h6 : N ≤ 6) (f : Nat → Nat → TInterval) (hf : ∀ i, i < N → ∀ j, j < N → Ok (f i j)) {k0 : Nat} (hk : N < k0) : armillaryref04_Valid k0 (mm N N f) = some true := by
  unfold armillaryref04_Valid
  rw [if_neg (by rw [mm_len]; simp; omega)]
  refine bT (loop_ok (fun k x => armillaryref04_Valid.l8 k0 (mm N N f) k x) N (fun k i hi => ?_) (fun k => ?_) hk) rfl
  · show armillaryref04_Valid.l8 _ _ (k + 1) _ = _
    rw [armillaryref04_Valid.l8, mm_len, if_pos (dlt hi)]
    refine bT (v := .inr ()) ?_ (by show armillaryref04_Valid.l8 _ _ _ _ = _; rw [wnext (by omega)])
    rw [if_pos (rng hi), Int.toNat_natCast, mm_get _ hi, Option.bind_some, if_neg (by rw [mk_len]; simp)]
    refine loop_ok (fun k x => armillaryref04_Valid.l18 k0 (mm N N f) (i : Int) (mk N (f i)) k x) N (fun k j hj => ?_) (fun k => ?_) hk
    · show armillaryref04_Valid.l18 _ _ _ _ (k + 1) _ = _
      rw [armillaryref04_Valid.l18, mm_len, if_pos (dlt hj), if_pos (rng hi), Int.toNat_natCast, mm_get _ hi, Option.bind_some, mk_len, if_pos (rng hj), Int.toNat_natCast, mk_get _ hj, Option.bind_some, valid_eq, Option.bind_some, decide_eq_true (hf i hi j hj), if_neg (by simp), wnext (by omega)]
    · show armillaryref04_Valid.l18 _ _ _ _ (k + 1) _ = _
      rw [armillaryref04_Valid.l18, mm_len, if_neg (by rw [dnl]; simp)]
  · show armillaryref04_Valid.l8 _ _ (k + 1) _ = _
    rw [armillaryref04_Valid.l8, mm_len, if_neg (by rw [dnl]; simp)]
end Go.Proofs.YtglcmhldonkfdaaDoor
