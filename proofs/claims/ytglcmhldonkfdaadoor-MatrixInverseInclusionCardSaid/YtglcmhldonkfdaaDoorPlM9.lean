/- What the program's Inverse comes to. Own work. -/
import Derived.Test.YtglcmhldonkfdaaDoorPlM8
set_option maxRecDepth 10000
set_option linter.unusedVariables false
set_option linter.unusedSimpArgs false
namespace Go.Proofs.YtglcmhldonkfdaaDoor
open Go
theorem loop_ex {S R γ : Type} (l : Nat → S → Int → Option (γ ⊕ R)) (n : Nat) (st : Nat → S) (p : Nat → Bool) (v : γ) (r : R)
    (hs : ∀ (k i : Nat), i < n → l (k + 1) (st i) (i : Int) = if p i = true then some (.inl v) else l k (st (i + 1)) ((i + 1 : Nat) : Int))
    (he : ∀ k : Nat, l (k + 1) (st n) (n : Int) = some (.inr r)) {k : Nat} (hk : n < k) : l k (st 0) 0 = some (if allB n (fun i => !p i) = true then .inr r else .inl v) := by
  have key : ∀ (d i k : Nat), i + d = n → d < k → (∀ j, j < i → p j = false) → l k (st i) (i : Int) = some (if allB n (fun i => !p i) = true then .inr r else .inl v) := by
    intro d
    induction d with
    | zero =>
      intro i k hi hk hp
      obtain ⟨k, rfl⟩ : ∃ m, k = m + 1 := ⟨k - 1, by omega⟩
      obtain rfl : i = n := by omega
      rw [he k, if_pos (allB_iff.2 fun j hj => by rw [hp j hj]; rfl)]
    | succ d ih =>
      intro i k hi hk hp
      obtain ⟨k, rfl⟩ : ∃ m, k = m + 1 := ⟨k - 1, by omega⟩
      rw [hs k i (by omega)]
      by_cases h : p i = true
      · have : allB n (fun i => !p i) = false := allB_not.2 ⟨i, by omega, by rw [h]; rfl⟩
        rw [if_pos h, this]; rfl
      · rw [if_neg h]
        refine ih (i + 1) k (by omega) (by omega) fun j hj => ?_
        by_cases e : j = i
        · subst e; simpa using h
        · exact hp j (by omega)
  exact key n 0 k (by omega) hk (fun j hj => absurd hj (Nat.not_lt_zero _))
def sg (a : TInterval) : Int := if a.Lo > 0 then 1 else if a.Hi < 0 then -1 else 0
def mig (a : TInterval) : Int := mn (mx a.Lo (-a.Lo)) (mx a.Hi (-a.Hi))
theorem mig_eq {a : TInterval} (ha : Ok a) : matrix_mignitude a = some (mig a) := by
  have h1 := ha.wlo
  have h2 := ha.whi
  unfold Wid at h1 h2
  unfold matrix_mignitude mig
  rw [w64 (x := 0 - a.Lo) (by omega) (by omega), w64 (x := 0 - a.Hi) (by omega) (by omega), Int.zero_sub, Int.zero_sub]
def pvS (g : Nat → Nat → TInterval) (k : Nat) : Nat → Option Nat
  | 0 => none
  | d + 1 => if sg (g (k + d) k) ≠ 0 then
      match pvS g k d with
      | none => some (k + d)
      | some r => if mig (g (k + d) k) > mig (g r k) then some (k + d) else some r
    else pvS g k d
def pvI : Option Nat → Int
  | none => -1
  | some r => r
theorem pvS_some {g : Nat → Nat → TInterval} {k : Nat} : ∀ {d r : Nat}, pvS g k d = some r → k ≤ r ∧ r < k + d ∧ sg (g r k) ≠ 0
  | 0, _, h => by cases h
  | d + 1, r, h => by
    rw [pvS] at h
    split at h
    · rename_i hz
      split at h
      · obtain rfl := Option.some.inj h; exact ⟨by omega, by omega, hz⟩
      · rename_i q hq
        have := pvS_some hq
        split at h
        · obtain rfl := Option.some.inj h; exact ⟨by omega, by omega, hz⟩
        · obtain rfl := Option.some.inj h; exact ⟨this.1, by omega, this.2.2⟩
    · have := pvS_some h; exact ⟨this.1, by omega, this.2.2⟩
theorem pivot_eq {N M k : Nat} (hN : N < 1000000) (hk : k ≤ N) (hM : k < M) (g : Nat → Nat → TInterval) (hg : ∀ i, i < N → Ok (g i k)) {K : Nat} (hK : N < K) :
    matrix_pivotRow K (mm N M g) (k : Int) = some (pvI (pvS g k (N - k))) := by
  unfold matrix_pivotRow
  have L := loop_st (fun m s x => matrix_pivotRow.l9 K (mm N M g) (k : Int) m s x) N (fun i => pvI (pvS g k (i - k))) (pvI (pvS g k (N - k))) k (fun m i hi hin => by
    show matrix_pivotRow.l9 _ _ _ (m + 1) _ _ = _
    rw [matrix_pivotRow.l9, mm_len, if_pos (dlt hin)]
    obtain ⟨d, rfl⟩ : ∃ d, i = k + d := ⟨i - k, by omega⟩
    rw [show k + d - k = d by omega, show k + d + 1 - k = d + 1 by omega]
    refine bT (v := pvI (pvS g k (d + 1))) ?_ (by rw [wnext (by omega)])
    rw [if_pos (rng hin), Int.toNat_natCast, mm_get _ hin, Option.bind_some, mk_len, if_pos (rng hM), Int.toNat_natCast, mk_get _ hM, Option.bind_some, sign_eq, Option.bind_some, Option.bind_some, pvS]
    by_cases hz : sg (g (k + d) k) ≠ 0
    · have hz' : (if (g (k + d) k).Lo > 0 then (1 : Int) else if (g (k + d) k).Hi < 0 then -1 else 0) ≠ 0 := hz
      rw [if_pos hz, if_pos (by simpa using hz')]
      cases hq : pvS g k d with
      | none => 
        rw [Option.bind_some, if_pos (by rfl)]; rfl
      | some r =>
        have hr := pvS_some hq
        have hrN : r < N := by omega
        have hnf : decide (pvI (some r) < 0) = false := decide_eq_false (by show ¬ ((r : Int) < 0); omega)
        have hnn : ¬ (decide (pvI (some r) < 0) = true) := by rw [hnf]; simp
        rw [Option.bind_some, if_neg hnn, if_pos hnf, if_pos (rng hin), Option.bind_some, mk_len, if_pos (rng hM), mk_get _ hM, Option.bind_some, mig_eq (hg _ hin), Option.bind_some]
        show (if 0 ≤ (r : Int) ∧ (r : Int) < (N : Int) then _ else none) = _
        rw [if_pos (rng hrN)]
        show Option.bind ((mm N M g)[(r : Int).toNat]?) _ = _
        rw [Int.toNat_natCast, mm_get _ hrN, Option.bind_some, mk_len, if_pos (rng hM), mk_get _ hM, Option.bind_some, mig_eq (hg _ hrN), Option.bind_some]
        by_cases hm : mig (g (k + d) k) > mig (g r k)
        · rw [if_pos (decide_eq_true hm)]
          show _ = some (pvI (if mig (g (k + d) k) > mig (g r k) then some (k + d) else some r))
          rw [if_pos hm]; rfl
        · rw [if_neg (by simpa using hm)]
          show _ = some (pvI (if mig (g (k + d) k) > mig (g r k) then some (k + d) else some r))
          rw [if_neg hm]
    · have hz' : ¬ (if (g (k + d) k).Lo > 0 then (1 : Int) else if (g (k + d) k).Hi < 0 then -1 else 0) ≠ 0 := hz
      rw [if_neg hz, if_neg (by simpa using hz'), if_pos (by simpa using hz')]) (fun m => by
    show matrix_pivotRow.l9 _ _ _ (m + 1) _ _ = _
    rw [matrix_pivotRow.l9, mm_len, if_neg (by rw [dnl]; simp)]) hK hk
  rw [show k - k = 0 by omega] at L
  exact bT L rfl
end Go.Proofs.YtglcmhldonkfdaaDoor
