/- What the program's functions on matrices come to. Own work. -/
import Derived.Test.YtglcmhldonkfdaaDoorPlM2
set_option maxRecDepth 10000
set_option linter.unusedVariables false
set_option linter.unusedSimpArgs false
namespace Go.Proofs.YtglcmhldonkfdaaDoor
open Go
theorem w1 : w_i64 (0 + 1) = ((1 : Nat) : Int) := rfl
theorem apply1 {n m i k : Nat} (hi : i < n) (hk : k < m) (f : Nat → Nat → TInterval) : matrix_Apply_1_m (k : Int) (mm n m f) (i : Int) = some (f i k) := by
  unfold matrix_Apply_1_m mm
  simp only [mk_len, rng hi, rng hk, and_self, if_true, Int.toNat_natCast, mk_get _ hi, mk_get _ hk, Option.bind_some]
theorem apply2 {n k : Nat} (hk : k < n) (f : Nat → TInterval) : matrix_Apply_2_m (k : Int) (mk n f) = some (f k) := by
  unfold matrix_Apply_2_m
  simp only [mk_len, rng hk, and_self, if_true, Int.toNat_natCast, mk_get _ hk, Option.bind_some]
theorem mul1 {n m i k : Nat} (hi : i < n) (hk : k < m) (f : Nat → Nat → TInterval) : matrix_Mul_1_1_m (k : Int) (mm n m f) (i : Int) = some (f i k) := by
  unfold matrix_Mul_1_1_m mm
  simp only [mk_len, rng hi, rng hk, and_self, if_true, Int.toNat_natCast, mk_get _ hi, mk_get _ hk, Option.bind_some]
theorem mul2 {n m i k : Nat} (hi : i < n) (hk : k < m) (f : Nat → Nat → TInterval) : matrix_Mul_1_2_m (i : Int) (mm n m f) (k : Int) = some (f i k) := by
  unfold matrix_Mul_1_2_m mm
  simp only [mk_len, rng hi, rng hk, and_self, if_true, Int.toNat_natCast, mk_get _ hi, mk_get _ hk, Option.bind_some]
theorem dot53 {n N i : Nat} (hn : N < 1000000) (h0 : N = n + 1) (hi : i < N) (f : Nat → Nat → TInterval) (b : Nat → TInterval) (hf : ∀ k, k < N → Ok (f i k)) (hb : ∀ k, k < N → Ok (b k)) {k0 : Nat} (hk : N < k0) :
    matrix_dot_s53_s54 k0 (N : Int) (mm N N f) (i : Int) (mk N b) = some (dotI (f i) b n) := by
  have p0 : 0 < N := by omega
  have e0 : matrix_Apply_1_m 0 (mm N N f) (i : Int) = some (f i 0) := apply1 hi p0 f
  have e1 : matrix_Apply_2_m 0 (mk N b) = some (b 0) := apply2 p0 b
  unfold matrix_dot_s53_s54
  rw [e0, Option.bind_some, e1, Option.bind_some, imul_eq (hf 0 p0) (hb 0 p0), Option.bind_some]
  have L := loop_st (fun k (s : TInterval) x => matrix_dot_s53_s54.l14 k0 (N : Int) (mm N N f) (i : Int) (mk N b) (f i 0) (b 0) (imul (f i 0) (b 0)) k s.Lo s.Hi x) N (fun j => dotI (f i) b (j - 1)) ((dotI (f i) b n).Lo, (dotI (f i) b n).Hi) 1 (fun k j h1 hj => by
    obtain ⟨j, rfl⟩ : ∃ m, j = m + 1 := ⟨j - 1, by omega⟩
    show matrix_dot_s53_s54.l14 _ _ _ _ _ _ _ _ (k + 1) _ _ _ = _
    rw [matrix_dot_s53_s54.l14]
    rw [if_pos (dlt hj), apply1 hi hj f, Option.bind_some, apply2 hj b, Option.bind_some, imul_eq (hf _ hj) (hb _ hj), Option.bind_some, iadd_eq (dotI_ok (fun a h => hf a (by omega)) (fun a h => hb a (by omega))) (imul_ok (hf _ hj) (hb _ hj)), Option.bind_some, wnext (by omega)]
    rfl) (fun k => by
    show matrix_dot_s53_s54.l14 _ _ _ _ _ _ _ _ (k + 1) _ _ _ = _
    rw [matrix_dot_s53_s54.l14, if_neg (by rw [dnl]; simp), h0]
    rfl) hk (by omega)
  exact bT L rfl
theorem dot58 {n N i c : Nat} (hn : N < 1000000) (h0 : N = n + 1) (hi : i < N) (hc : c < N) (f g : Nat → Nat → TInterval) (hf : ∀ k, k < N → Ok (f i k)) (hb : ∀ k, k < N → Ok (g k c)) {k0 : Nat} (hk : N < k0) :
    matrix_dot_s58_s59 k0 (N : Int) (mm N N f) (i : Int) (mm N N g) (c : Int) = some (dotI (f i) (fun k => g k c) n) := by
  have p0 : 0 < N := by omega
  have e0 : matrix_Mul_1_1_m 0 (mm N N f) (i : Int) = some (f i 0) := mul1 hi p0 f
  have e1 : matrix_Mul_1_2_m 0 (mm N N g) (c : Int) = some (g 0 c) := mul2 p0 hc g
  unfold matrix_dot_s58_s59
  rw [e0, Option.bind_some, e1, Option.bind_some, imul_eq (hf 0 p0) (hb 0 p0), Option.bind_some]
  have L := loop_st (fun k (s : TInterval) x => matrix_dot_s58_s59.l14 k0 (N : Int) (mm N N f) (i : Int) (mm N N g) (c : Int) (f i 0) (g 0 c) (imul (f i 0) (g 0 c)) k s.Lo s.Hi x) N (fun j => dotI (f i) (fun k => g k c) (j - 1)) ((dotI (f i) (fun k => g k c) n).Lo, (dotI (f i) (fun k => g k c) n).Hi) 1 (fun k j h1 hj => by
    obtain ⟨j, rfl⟩ : ∃ m, j = m + 1 := ⟨j - 1, by omega⟩
    show matrix_dot_s58_s59.l14 _ _ _ _ _ _ _ _ _ (k + 1) _ _ _ = _
    rw [matrix_dot_s58_s59.l14]
    rw [if_pos (dlt hj), mul1 hi hj f, Option.bind_some, mul2 hj hc g, Option.bind_some, imul_eq (hf _ hj) (hb _ hj), Option.bind_some, iadd_eq (dotI_ok (fun a h => hf a (by omega)) (fun a h => hb a (by omega))) (imul_ok (hf _ hj) (hb _ hj)), Option.bind_some, wnext (by omega)]
    rfl) (fun k => by
    show matrix_dot_s58_s59.l14 _ _ _ _ _ _ _ _ _ (k + 1) _ _ _ = _
    rw [matrix_dot_s58_s59.l14, if_neg (by rw [dnl]; simp), h0]
    rfl) hk (by omega)
  exact bT L rfl
theorem apply_eq {n N : Nat} (hn : N < 1000000) (h0 : N = n + 1) (f : Nat → Nat → TInterval) (b : Nat → TInterval) (hf : ∀ i, i < N → ∀ k, k < N → Ok (f i k)) (hb : ∀ k, k < N → Ok (b k)) {k0 : Nat} (hk : N < k0) :
    matrix_Apply k0 (mm N N f) (mk N b) = some (mk N fun i => dotI (f i) b n) := by
  unfold matrix_Apply
  have hl : (mm N N f).length = N := mk_len _ _
  refine bT (loop_0 (fun k s x => matrix_Apply.l9 k0 (mm N N f) (mk N b) k s x) N (fun j => mk j fun i => dotI (f i) b n) _ rfl (fun k j hj => ?_) (fun k => ?_) hk) rfl
  · show matrix_Apply.l9 _ _ _ (k + 1) _ _ = _
    rw [matrix_Apply.l9, hl, if_pos (dlt hj), dot53 hn h0 hj f b (hf j hj) hb hk, Option.bind_some, mk_len, if_pos (by omega), wnext (by omega), ← mk_succ]
  · show matrix_Apply.l9 _ _ _ (k + 1) _ _ = _
    rw [matrix_Apply.l9, hl, if_neg (by rw [dnl]; simp)]
theorem build_row {β : Type} (l : Nat → List (List β) → Int → Option (List (List β))) (n i : Nat) (hi : i < n) (f : Nat → Nat → β) (hn : n < 1000000)
    (hs : ∀ (k : Nat) (acc : List (List β)) (j : Nat) (row : List β), j < n → acc.length = n → acc[i]? = some row → row.length < 1000000 → l (k + 1) acc (j : Int) = l k (acc.set i (row ++ [f i j])) ((j + 1 : Nat) : Int))
    (he : ∀ (k : Nat) (acc : List (List β)), l (k + 1) acc (n : Int) = some acc) {k : Nat} (hk : n < k) :
    l k (mk n fun a => if a < i then mk n (f a) else []) 0 = some (mk n fun a => if a < i + 1 then mk n (f a) else []) := by
  refine loop_0 l n (fun j => mk n fun a => if a < i then mk n (f a) else if a = i then mk j (f i) else []) _ (mk_congr fun a ha => ?_) (fun k j hj => ?_) (fun k => ?_) hk
  · by_cases h : a < i
    · rw [if_pos h, if_pos h]
    · rw [if_neg h, if_neg h, mk_zero, ite_self]
  · show l (k + 1) (mk n fun a => if a < i then mk n (f a) else if a = i then mk j (f i) else []) _ = _
    rw [hs k _ j (mk j (f i)) hj (mk_len _ _) (by rw [mk_get _ hi, if_neg (by omega), if_pos rfl]) (by rw [mk_len]; omega), ← mk_succ, mk_set]
    congr 1
    refine mk_congr fun a ha => ?_
    by_cases h : a = i
    · subst h; rw [if_pos rfl, if_neg (by omega), if_pos rfl]
    · simp only [h, if_false]
  · show l (k + 1) (mk n fun a => if a < i then mk n (f a) else if a = i then mk n (f i) else []) _ = _
    rw [he]
    congr 1
    refine mk_congr fun a ha => ?_
    by_cases h : a < i
    · rw [if_pos h, if_pos (by omega)]
    · by_cases e : a = i
      · subst e; rw [if_neg (by omega), if_pos rfl, if_pos (by omega)]
      · rw [if_neg h, if_neg e, if_neg (by omega)]
theorem build_eq {β : Type} (l : Nat → List (List β) → Int → Option (List (List β))) (n : Nat) (f : Nat → Nat → β)
    (hs : ∀ (k i : Nat), i < n → l (k + 1) (mk n fun a => if a < i then mk n (f a) else []) (i : Int) = l k (mk n fun a => if a < i + 1 then mk n (f a) else []) ((i + 1 : Nat) : Int))
    (he : ∀ (k : Nat) (acc : List (List β)), l (k + 1) acc (n : Int) = some acc) {k : Nat} (hk : n < k) :
    l k (List.replicate n []) 0 = some (mm n n f) := by
  refine loop_0 l n (fun i => mk n fun a => if a < i then mk n (f a) else []) _ ?_ hs (fun k => ?_) hk
  · rw [mk_rep]; exact mk_congr fun a _ => by rw [if_neg (by omega)]
  · show l (k + 1) (mk n fun a => if a < n then mk n (f a) else []) _ = _
    rw [he]
    congr 1
    exact mk_congr fun a ha => if_pos ha
theorem n0 {n : Nat} (hn : n < 1000000) : 0 ≤ (n : Int) ∧ (n : Int) < 1000000 := ⟨by omega, by omega⟩
theorem mul_mm {n N : Nat} (hn : N < 1000000) (h0 : N = n + 1) (f g : Nat → Nat → TInterval) (hf : ∀ i, i < N → ∀ k, k < N → Ok (f i k)) (hg : ∀ i, i < N → ∀ k, k < N → Ok (g i k)) {k0 : Nat} (hk : N < k0) :
    matrix_Mul k0 (mm N N f) (mm N N g) = some (mm N N fun i j => dotI (f i) (fun k => g k j) n) := by
  have hl : (mm N N f).length = N := mk_len _ _
  unfold matrix_Mul
  refine bT ?_ rfl
  unfold api_Interval_56_s57
  rw [hl, if_pos (n0 hn), Int.toNat_natCast]
  refine bT (build_eq (fun k s x => api_Interval_56_s57.l10 k0 (N : Int) (mm N N f) (mm N N g) k s x) N (fun i j => dotI (f i) (fun k => g k j) n) (fun k i hi => ?_) (fun k acc => ?_) hk) rfl
  · show api_Interval_56_s57.l10 _ _ _ _ (k + 1) _ _ = _
    rw [api_Interval_56_s57.l10, if_pos (dlt hi)]
    refine bT (build_row (fun k s x => api_Interval_56_s57.l19 k0 (N : Int) (mm N N f) (mm N N g) _ (i : Int) k s x) N i hi (fun i j => dotI (f i) (fun k => g k j) n) hn (fun k acc j row hj ha hr hw => ?_) (fun k acc => ?_) hk) (by rw [wnext (by omega)])
    · show api_Interval_56_s57.l19 _ _ _ _ _ _ (k + 1) _ _ = _
      have e : matrix_Mul_1_m k0 (i : Int) (j : Int) (mm N N f) (mm N N g) = some (dotI (f i) (fun k => g k j) n) := by
        unfold matrix_Mul_1_m
        rw [hl, dot58 hn h0 hi hj f g (hf i hi) (fun k hk => hg k hk j hj) hk]; rfl
      rw [api_Interval_56_s57.l19, if_pos (dlt hj), ha, if_pos (rng hi), Int.toNat_natCast, hr, Option.bind_some, e, Option.bind_some, if_pos hw, if_pos (rng hi), Option.bind_some, wnext (by omega)]
    · show api_Interval_56_s57.l19 _ _ _ _ _ _ (k + 1) _ _ = _
      rw [api_Interval_56_s57.l19, if_neg (by rw [dnl]; simp)]
  · show api_Interval_56_s57.l10 _ _ _ _ (k + 1) _ _ = _
    rw [api_Interval_56_s57.l10, if_neg (by rw [dnl]; simp)]
def idn (i j : Nat) : TInterval := if i = j then ⟨65536, 65536⟩ else ⟨0, 0⟩
end Go.Proofs.YtglcmhldonkfdaaDoor
