/- Exact elimination beside the intervals'. Own work. -/
import Derived.Test.YtglcmhldonkfdaaDoorPlM13
set_option maxRecDepth 10000
set_option linter.unusedVariables false
set_option linter.unusedSimpArgs false
namespace Go.Proofs.YtglcmhldonkfdaaDoor
open Go
def sumQ (f : Nat → Rat) : Nat → Rat
  | 0 => 0
  | n + 1 => sumQ f n + f n
theorem sumQ_congr {f g : Nat → Rat} : ∀ {n : Nat}, (∀ i, i < n → f i = g i) → sumQ f n = sumQ g n
  | 0, _ => rfl
  | n + 1, h => by rw [sumQ, sumQ, sumQ_congr (fun i hi => h i (by omega)), h n (by omega)]
theorem sumQ_mul (c : Rat) (f : Nat → Rat) : ∀ n, sumQ (fun i => c * f i) n = c * sumQ f n
  | 0 => by simp [sumQ]
  | n + 1 => by rw [sumQ, sumQ, sumQ_mul c f n]; grind
theorem sumQ_sub (f g : Nat → Rat) : ∀ n, sumQ (fun i => f i - g i) n = sumQ f n - sumQ g n
  | 0 => by simp [sumQ]; grind
  | n + 1 => by rw [sumQ, sumQ, sumQ, sumQ_sub f g n]; grind
theorem sumQ_zero : ∀ {n : Nat} {f : Nat → Rat}, (∀ i, i < n → f i = 0) → sumQ f n = 0
  | 0, _, _ => rfl
  | n + 1, f, h => by rw [sumQ, sumQ_zero (fun i hi => h i (by omega)), h n (by omega)]; grind
theorem sumQ_upd (f : Nat → Rat) (x : Rat) (k : Nat) : ∀ {n : Nat}, k < n → sumQ (fun i => if i = k then x else f i) n = sumQ f n - f k + x
  | 0, h => absurd h (Nat.not_lt_zero _)
  | n + 1, h => by
    rw [sumQ, sumQ]
    by_cases e : k = n
    · subst e
      rw [if_pos rfl, sumQ_congr (g := f) (fun i hi => if_neg (by omega))]
      grind
    · rw [if_neg (by omega), sumQ_upd f x k (by omega)]
      grind
theorem sumQ_one {f : Nat → Rat} {k n : Nat} (hk : k < n) (h : ∀ i, i < n → i ≠ k → f i = 0) : sumQ f n = f k := by
  have e : sumQ (fun i => if i = k then 0 else f i) n = 0 := sumQ_zero fun i hi => by
    by_cases e : i = k
    · rw [if_pos e]
    · rw [if_neg e]; exact h i hi e
  have := sumQ_upd f 0 k hk
  grind
def swpQ (R : Nat → Nat → Rat) (k p i : Nat) : Nat → Rat := if i = p then R k else if i = k then R p else R i
def elmQ (S : Nat → Nat → Rat) (k i j : Nat) : Rat := if i = k then S k j * 65536 / S k k else S i j - S i k * (S k j * 65536 / S k k) / 65536
def InM (N M : Nat) (g : Nat → Nat → TInterval) (R : Nat → Nat → Rat) : Prop := ∀ i, i < N → ∀ j, j < M → InQ (g i j) (R i j)
theorem swp_in {N M k p : Nat} {g : Nat → Nat → TInterval} {R : Nat → Nat → Rat} (h : InM N M g R) (hk : k < N) (hp : p < N) : InM N M (swp g k p) (swpQ R k p) := fun i hi j hj => by
  unfold swp swpQ
  by_cases e : i = p
  · rw [if_pos e, if_pos e]; exact h k hk j hj
  · rw [if_neg e, if_neg e]
    by_cases e2 : i = k
    · rw [if_pos e2, if_pos e2]; exact h p hp j hj
    · rw [if_neg e2, if_neg e2]; exact h i hi j hj
theorem swp_kk {g : Nat → Nat → TInterval} (k p : Nat) : swp g k p k = g p := by
  unfold swp
  by_cases e : k = p
  · rw [if_pos e, e]
  · rw [if_neg e, if_pos rfl]
theorem elm_in {N M k : Nat} {h : Nat → Nat → TInterval} {S : Nat → Nat → Rat} (ho : OkM N M h) (hi : InM N M h S) (hk : k < N) (hkM : k < M) (hz : sg (h k k) ≠ 0) : InM N M (elm h k) (elmQ S k) := fun i hiN j hj => by
  have hn : InQ (nrm h k j) (S k j * 65536 / S k k) := inq_div (ho k hk j hj) (ho k hk k hkM) hz (hi k hk j hj) (hi k hk k hkM)
  unfold elm elmQ
  by_cases e : i = k
  · rw [if_pos e, if_pos e]; exact hn
  · rw [if_neg e, if_neg e]
    exact inq_sub (ho i hiN j hj) (imul_ok (ho i hiN k hkM) (nrm_ok ho hk hkM hj)) (hi i hiN j hj) (inq_mul (ho i hiN k hkM) (nrm_ok ho hk hkM hj) (hi i hiN k hkM) hn)
theorem gj_ind {N M : Nat} (hNM : N ≤ M) (Inv : Nat → (Nat → Nat → Rat) → Prop)
    (hs : ∀ k p R, k ≤ p → p < N → swpQ R k p k k ≠ 0 → Inv k R → Inv (k + 1) (elmQ (swpQ R k p) k)) :
    ∀ {d k : Nat} {g g' : Nat → Nat → TInterval} {R : Nat → Nat → Rat}, k + d = N → OkM N M g → InM N M g R → Inv k R → gjR N d k g = some g' → ∃ R', InM N M g' R' ∧ Inv N R'
  | 0, k, g, g', R, hk, _, hi, hv, e => by
    cases e
    obtain rfl : k = N := by omega
    exact ⟨R, hi, hv⟩
  | d + 1, k, g, g', R, hk, ho, hi, hv, e => by
    rw [gjR] at e
    cases hp : pvS g k (N - k) with
    | none => rw [hp] at e; cases e
    | some p =>
      rw [hp] at e
      have hpp := pvS_some hp
      have hpN : p < N := by omega
      have hz : sg (swp g k p k k) ≠ 0 := by rw [swp_kk]; exact hpp.2.2
      have ho' := swp_ok ho (show k < N by omega) hpN
      have hi' := swp_in hi (show k < N by omega) hpN
      have hne : swpQ R k p k k ≠ 0 := sg_ne (ho' k (by omega) k (by omega)) hz (hi' k (by omega) k (by omega))
      exact gj_ind hNM Inv hs (d := d) (k := k + 1) (by omega) (elm_ok ho' (by omega) (by omega)) (elm_in ho' hi' (by omega) (by omega) hz) (hs k p R hpp.1 hpN hne hv) e
def InvS (N : Nat) (k : Nat) (R : Nat → Nat → Rat) : Prop :=
  ∃ v : Nat → Rat, (∃ i, i < N ∧ v i ≠ 0) ∧ (∀ i, i < k → v i = 0) ∧ ∀ j, j < N → sumQ (fun i => v i * R i j) N = 0
theorem invS_step {N : Nat} (k p : Nat) (R : Nat → Nat → Rat) (hkp : k ≤ p) (hp : p < N) (hne : swpQ R k p k k ≠ 0) (h : InvS N k R) : InvS N (k + 1) (elmQ (swpQ R k p) k) := by
  obtain ⟨v, ⟨i0, hi0, hv0⟩, hz, hs⟩ := h
  have hk : k < N := by omega
  -- the coefficients after the swap
  obtain ⟨v1, hv1, hz1, hs1⟩ : ∃ v1 : Nat → Rat, (∃ i, i < N ∧ v1 i ≠ 0) ∧ (∀ i, i < k → v1 i = 0) ∧ ∀ j, j < N → sumQ (fun i => v1 i * swpQ R k p i j) N = 0 := by
    by_cases ekp : p = k
    · subst ekp
      refine ⟨v, ⟨i0, hi0, hv0⟩, hz, fun j hj => ?_⟩
      rw [← hs j hj]
      refine sumQ_congr fun i hi => ?_
      unfold swpQ
      by_cases e : i = p
      · rw [if_pos e, e]
      · rw [if_neg e, if_neg e]
    · refine ⟨fun i => if i = p then v k else if i = k then v p else v i, ?_, fun i hi => ?_, fun j hj => ?_⟩
      · by_cases e1 : i0 = p
        · exact ⟨k, hk, by show (if k = p then v k else if k = k then v p else v k) ≠ 0; rw [if_neg (fun h => ekp h.symm), if_pos rfl, ← e1]; exact hv0⟩
        · by_cases e2 : i0 = k
          · exact ⟨p, hp, by show (if p = p then v k else if p = k then v p else v p) ≠ 0; rw [if_pos rfl, ← e2]; exact hv0⟩
          · exact ⟨i0, hi0, by show (if i0 = p then v k else if i0 = k then v p else v i0) ≠ 0; rw [if_neg e1, if_neg e2]; exact hv0⟩
      · show (if i = p then v k else if i = k then v p else v i) = 0
        rw [if_neg (by omega), if_neg (by omega)]; exact hz i hi
      · have e : ∀ i, (if i = p then v k else if i = k then v p else v i) * swpQ R k p i j = if i = p then v k * R k j else if i = k then v p * R p j else v i * R i j := fun i => by
          unfold swpQ
          by_cases e1 : i = p
          · rw [if_pos e1, if_pos e1, if_pos e1]
          · rw [if_neg e1, if_neg e1, if_neg e1]
            by_cases e2 : i = k
            · rw [if_pos e2, if_pos e2, if_pos e2]
            · rw [if_neg e2, if_neg e2, if_neg e2]
        rw [sumQ_congr (fun i _ => e i), sumQ_upd (fun i => if i = k then v p * R p j else v i * R i j) _ p hp, sumQ_upd (fun i => v i * R i j) _ k hk, hs j hj]
        show (0 - v k * R k j + v p * R p j) - (if p = k then v p * R p j else v p * R p j) + v k * R k j = 0
        rw [if_neg ekp]
        grind
  generalize swpQ R k p = S at *
  refine ⟨fun i => if i = k then 0 else v1 i, ?_, fun i hi => ?_, fun j hj => ?_⟩
  · by_cases hx : ∃ i, i < N ∧ i ≠ k ∧ v1 i ≠ 0
    · obtain ⟨i, hi, e, hv⟩ := hx
      exact ⟨i, hi, by show (if i = k then 0 else v1 i) ≠ 0; rw [if_neg e]; exact hv⟩
    · exfalso
      have hall : ∀ i, i < N → i ≠ k → v1 i = 0 := fun i hi e => Classical.byContradiction fun hv => hx ⟨i, hi, e, hv⟩
      have h1 := hs1 k hk
      rw [sumQ_one hk (fun i hi e => by rw [hall i hi e]; grind)] at h1
      have hvk : v1 k = 0 := by
        rcases Rat.mul_eq_zero.1 h1 with h | h
        · exact h
        · exact absurd h hne
      obtain ⟨i, hi, hv⟩ := hv1
      by_cases e : i = k
      · subst e; exact hv hvk
      · exact hv (hall i hi e)
  · show (if i = k then 0 else v1 i) = 0
    by_cases e : i = k
    · rw [if_pos e]
    · rw [if_neg e]; exact hz1 i (by omega)
  · have e : ∀ i, (if i = k then 0 else v1 i) * elmQ S k i j = if i = k then 0 else v1 i * S i j - S k j / S k k * (v1 i * S i k) := fun i => by
      unfold elmQ
      by_cases e : i = k
      · rw [if_pos e, if_pos e]; grind
      · rw [if_neg e, if_neg e, if_neg e]; grind
    rw [sumQ_congr (fun i _ => e i), sumQ_upd (fun i => v1 i * S i j - S k j / S k k * (v1 i * S i k)) 0 k hk, sumQ_sub, sumQ_mul, hs1 j hj, hs1 k hk]
    grind
end Go.Proofs.YtglcmhldonkfdaaDoor
