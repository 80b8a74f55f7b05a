/- What the program's functions on matrices come to. Own work. -/
import Derived.Test.YtglcmhldonkfdaaDoorPlM2
set_option maxRecDepth 10000
set_option linter.unusedVariables false
set_option linter.unusedSimpArgs false
namespace Go.Proofs.YtglcmhldonkfdaaDoor
open Go
theorem w1 : w_i64 (0 + 1) = ((1 : Nat) : Int) := rfl
theorem build_row {β : Type} (l : Nat → List (List β) → Int → Option (List (List β))) (n i : Nat) (hi : i < n) (f : Nat → Nat → β) (hn : n < 1000000)
    (hs : ∀ (k : Nat) (acc : List (List β)) (j : Nat) (row : List β), j < n → acc.length = n → acc[i]? = some row → row.length < 1000000 → l (k + 1) acc (j : Int) = l k (acc.set i (row ++ [f i j])) ((j + 1 : Nat) : Int))
    (he : ∀ (k : Nat) (acc : List (List β)), l (k + 1) acc (n : Int) = some acc) {k : Nat} (hk : n < k) :
    l k (mk n fun a => if a < i then mk n (f a) else []) 0 = some (mk n fun a => if a < i + 1 then mk n (f a) else []) := by
  refine loop_0 l n (fun j => mk n fun a => if a < i then mk n (f a) else if a = i then mk j (f i) else []) _ (mk_congr fun a ha => ?_) (fun k j hj => ?_) (fun k => ?_) hk
  · by_cases h : a < i
    · rw [if_pos h, if_pos h]
    · rw [if_neg h, if_neg h, mk_zero, ite_self]
  · show l (k + 1) (mk n fun a => if a < i then mk n (f a) else if a = i then mk j (f i) else []) _ = _
    rw [hs k _ j (mk j (f i)) hj (mk_len _ _) (by rw [mk_get _ hi, if_neg (by omega), if_pos rfl]) (by rw [mk_len]; omega), ← mk_succ, mk_set]
    congr 1
    refine mk_congr fun a ha => ?_
    by_cases h : a = i
    · subst h; rw [if_pos rfl, if_neg (by omega), if_pos rfl]
    · simp only [h, if_false]
  · show l (k + 1) (mk n fun a => if a < i then mk n (f a) else if a = i then mk n (f i) else []) _ = _
    rw [he]
    congr 1
    refine mk_congr fun a ha => ?_
    by_cases h : a < i
    · rw [if_pos h, if_pos (by omega)]
    · by_cases e : a = i
      · subst e; rw [if_neg (by omega), if_pos rfl, if_pos (by omega)]
      · rw [if_neg h, if_neg e, if_neg (by omega)]
theorem build_eq {β : Type} (l : Nat → List (List β) → Int → Option (List (List β))) (n : Nat) (f : Nat → Nat → β)
    (hs : ∀ (k i : Nat), i < n → l (k + 1) (mk n fun a => if a < i then mk n (f a) else []) (i : Int) = l k (mk n fun a => if a < i + 1 then mk n (f a) else []) ((i + 1 : Nat) : Int))
    (he : ∀ (k : Nat) (acc : List (List β)), l (k + 1) acc (n : Int) = some acc) {k : Nat} (hk : n < k) :
    l k (List.replicate n []) 0 = some (mm n n f) := by
  refine loop_0 l n (fun i => mk n fun a => if a < i then mk n (f a) else []) _ ?_ hs (fun k => ?_) hk
  · rw [mk_rep]; exact mk_congr fun a _ => by rw [if_neg (by omega)]
  · show l (k + 1) (mk n fun a => if a < n then mk n (f a) else []) _ = _
    rw [he]
    congr 1
    exact mk_congr fun a ha => if_pos ha
theorem n0 {n : Nat} (hn : n < 1000000) : 0 ≤ (n : Int) ∧ (n : Int) < 1000000 := ⟨by omega, by omega⟩
def idn (i j : Nat) : TInterval := if i = j then ⟨65536, 65536⟩ else ⟨0, 0⟩
theorem id1 (i j : Nat) : matrix_Identity_1 (i : Int) (j : Int) = some (idn i j) := by
  unfold matrix_Identity_1 idn
  by_cases h : i = j
  · subst h; rw [if_pos (by simp), if_pos rfl]; rfl
  · rw [if_neg (by simp; omega), if_neg h]; rfl
theorem ident_eq {N : Nat} (h0 : 0 < N) (h6 : N ≤ 6) {k0 : Nat} (hk : N < k0) : matrix_Identity k0 (N : Int) = some (mm N N idn) := by
  have hn : N < 1000000 := by omega
  unfold matrix_Identity
  rw [if_neg (by simp; omega)]
  refine bT ?_ rfl
  unfold api_Interval_56_s63
  rw [if_pos (n0 hn), Int.toNat_natCast]
  refine bT (build_eq (fun k s x => api_Interval_56_s63.l10 k0 (N : Int) k s x) N idn (fun k i hi => ?_) (fun k acc => ?_) hk) rfl
  · show api_Interval_56_s63.l10 _ _ (k + 1) _ _ = _
    rw [api_Interval_56_s63.l10, if_pos (dlt hi)]
    refine bT (build_row (fun k s x => api_Interval_56_s63.l19 k0 (N : Int) _ (i : Int) k s x) N i hi idn hn (fun k acc j row hj ha hr hw => ?_) (fun k acc => ?_) hk) (by rw [wnext (by omega)])
    · show api_Interval_56_s63.l19 _ _ _ _ (k + 1) _ _ = _
      rw [api_Interval_56_s63.l19, if_pos (dlt hj), ha, if_pos (rng hi), Int.toNat_natCast, hr, Option.bind_some, id1, Option.bind_some, if_pos hw, if_pos (rng hi), Option.bind_some, wnext (by omega)]
    · show api_Interval_56_s63.l19 _ _ _ _ (k + 1) _ _ = _
      rw [api_Interval_56_s63.l19, if_neg (by rw [dnl]; simp)]
  · show api_Interval_56_s63.l10 _ _ (k + 1) _ _ = _
    rw [api_Interval_56_s63.l10, if_neg (by rw [dnl]; simp)]
end Go.Proofs.YtglcmhldonkfdaaDoor
