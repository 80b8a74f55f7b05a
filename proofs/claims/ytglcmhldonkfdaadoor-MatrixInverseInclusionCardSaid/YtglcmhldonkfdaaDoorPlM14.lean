/- Exact elimination beside the intervals'. Own work. -/
import Derived.Test.YtglcmhldonkfdaaDoorPlM13
set_option maxRecDepth 10000
set_option linter.unusedVariables false
set_option linter.unusedSimpArgs false
namespace Go.Proofs.YtglcmhldonkfdaaDoor
open Go
def sumQ (f : Nat → Rat) : Nat → Rat
  | 0 => 0
  | n + 1 => sumQ f n + f n
theorem sumQ_congr {f g : Nat → Rat} : ∀ {n : Nat}, (∀ i, i < n → f i = g i) → sumQ f n = sumQ g n
  | 0, _ => rfl
  | n + 1, h => by rw [sumQ, sumQ, sumQ_congr (fun i hi => h i (by omega)), h n (by omega)]
theorem sumQ_mul (c : Rat) (f : Nat → Rat) : ∀ n, sumQ (fun i => c * f i) n = c * sumQ f n
  | 0 => by simp [sumQ]
  | n + 1 => by rw [sumQ, sumQ, sumQ_mul c f n]; grind
theorem sumQ_sub (f g : Nat → Rat) : ∀ n, sumQ (fun i => f i - g i) n = sumQ f n - sumQ g n
  | 0 => by simp [sumQ]; grind
  | n + 1 => by rw [sumQ, sumQ, sumQ, sumQ_sub f g n]; grind
theorem sumQ_add (f g : Nat → Rat) : ∀ n, sumQ (fun i => f i + g i) n = sumQ f n + sumQ g n
  | 0 => by simp [sumQ]; grind
  | n + 1 => by rw [sumQ, sumQ, sumQ, sumQ_add f g n]; grind
theorem sumQ_zero : ∀ {n : Nat} {f : Nat → Rat}, (∀ i, i < n → f i = 0) → sumQ f n = 0
  | 0, _, _ => rfl
  | n + 1, f, h => by rw [sumQ, sumQ_zero (fun i hi => h i (by omega)), h n (by omega)]; grind
theorem sumQ_comm (f : Nat → Nat → Rat) (m : Nat) : ∀ n, sumQ (fun i => sumQ (fun j => f i j) m) n = sumQ (fun j => sumQ (fun i => f i j) n) m
  | 0 => by rw [sumQ, sumQ_zero]; intro i _; rfl
  | n + 1 => by
    rw [sumQ, sumQ_comm f m n, ← sumQ_add]
    exact sumQ_congr fun i _ => rfl
theorem sumQ_upd (f : Nat → Rat) (x : Rat) (k : Nat) : ∀ {n : Nat}, k < n → sumQ (fun i => if i = k then x else f i) n = sumQ f n - f k + x
  | 0, h => absurd h (Nat.not_lt_zero _)
  | n + 1, h => by
    rw [sumQ, sumQ]
    by_cases e : k = n
    · subst e
      rw [if_pos rfl, sumQ_congr (g := f) (fun i hi => if_neg (by omega))]
      grind
    · rw [if_neg (by omega), sumQ_upd f x k (by omega)]
      grind
def swpQ (R : Nat → Nat → Rat) (k p i : Nat) : Nat → Rat := if i = p then R k else if i = k then R p else R i
def elmQ (S : Nat → Nat → Rat) (k i j : Nat) : Rat := if i = k then S k j * 65536 / S k k else S i j - S i k * (S k j * 65536 / S k k) / 65536
def InM (N M : Nat) (g : Nat → Nat → TInterval) (R : Nat → Nat → Rat) : Prop := ∀ i, i < N → ∀ j, j < M → InQ (g i j) (R i j)
theorem swp_in {N M k p : Nat} {g : Nat → Nat → TInterval} {R : Nat → Nat → Rat} (h : InM N M g R) (hk : k < N) (hp : p < N) : InM N M (swp g k p) (swpQ R k p) := fun i hi j hj => by
  unfold swp swpQ
  by_cases e : i = p
  · rw [if_pos e, if_pos e]; exact h k hk j hj
  · rw [if_neg e, if_neg e]
    by_cases e2 : i = k
    · rw [if_pos e2, if_pos e2]; exact h p hp j hj
    · rw [if_neg e2, if_neg e2]; exact h i hi j hj
theorem swp_kk {g : Nat → Nat → TInterval} (k p : Nat) : swp g k p k = g p := by
  unfold swp
  by_cases e : k = p
  · rw [if_pos e, e]
  · rw [if_neg e, if_pos rfl]
theorem elm_in {N M k : Nat} {h : Nat → Nat → TInterval} {S : Nat → Nat → Rat} (ho : OkM N M h) (hi : InM N M h S) (hk : k < N) (hkM : k < M) (hz : sg (h k k) ≠ 0) : InM N M (elm h k) (elmQ S k) := fun i hiN j hj => by
  have hn : InQ (nrm h k j) (S k j * 65536 / S k k) := inq_div (ho k hk j hj) (ho k hk k hkM) hz (hi k hk j hj) (hi k hk k hkM)
  unfold elm elmQ
  by_cases e : i = k
  · rw [if_pos e, if_pos e]; exact hn
  · rw [if_neg e, if_neg e]
    exact inq_sub (ho i hiN j hj) (imul_ok (ho i hiN k hkM) (nrm_ok ho hk hkM hj)) (hi i hiN j hj) (inq_mul (ho i hiN k hkM) (nrm_ok ho hk hkM hj) (hi i hiN k hkM) hn)
theorem gj_ind {N M : Nat} (hNM : N ≤ M) (Inv : Nat → (Nat → Nat → Rat) → Prop)
    (hs : ∀ k p R, k ≤ p → p < N → swpQ R k p k k ≠ 0 → Inv k R → Inv (k + 1) (elmQ (swpQ R k p) k)) :
    ∀ {d k : Nat} {g g' : Nat → Nat → TInterval} {R : Nat → Nat → Rat}, k + d = N → OkM N M g → InM N M g R → Inv k R → gjR N d k g = some g' → ∃ R', InM N M g' R' ∧ Inv N R'
  | 0, k, g, g', R, hk, _, hi, hv, e => by
    cases e
    obtain rfl : k = N := by omega
    exact ⟨R, hi, hv⟩
  | d + 1, k, g, g', R, hk, ho, hi, hv, e => by
    rw [gjR] at e
    cases hp : pvS g k (N - k) with
    | none => rw [hp] at e; cases e
    | some p =>
      rw [hp] at e
      have hpp := pvS_some hp
      have hpN : p < N := by omega
      have hz : sg (swp g k p k k) ≠ 0 := by rw [swp_kk]; exact hpp.2.2
      have ho' := swp_ok ho (show k < N by omega) hpN
      have hi' := swp_in hi (show k < N by omega) hpN
      have hne : swpQ R k p k k ≠ 0 := sg_ne (ho' k (by omega) k (by omega)) hz (hi' k (by omega) k (by omega))
      exact gj_ind hNM Inv hs (d := d) (k := k + 1) (by omega) (elm_ok ho' (by omega) (by omega)) (elm_in ho' hi' (by omega) (by omega) hz) (hs k p R hpp.1 hpN hne hv) e
def InvI (N : Nat) (A : Nat → Nat → Rat) (k : Nat) (R : Nat → Nat → Rat) : Prop :=
  (∀ c, c < k → ∀ i, i < N → R i c = if i = c then 65536 else 0) ∧ (∀ i, i < N → ∀ j, j < N → R i j * 65536 = sumQ (fun l => R i (N + l) * A l j) N)
theorem invI_step {N : Nat} (A : Nat → Nat → Rat) (k p : Nat) (R : Nat → Nat → Rat) (hkp : k ≤ p) (hp : p < N) (hne : swpQ R k p k k ≠ 0) (h : InvI N A k R) : InvI N A (k + 1) (elmQ (swpQ R k p) k) := by
  have s1 : ∀ c, c < k → ∀ i, i < N → swpQ R k p i c = if i = c then 65536 else 0 := fun c hc i hi => by
    unfold swpQ
    by_cases e : i = p
    · rw [if_pos e, h.1 c hc k (by omega), if_neg (by omega), if_neg (by omega)]
    · rw [if_neg e]
      by_cases e2 : i = k
      · rw [if_pos e2, h.1 c hc p hp, if_neg (by omega), if_neg (by omega)]
      · rw [if_neg e2, h.1 c hc i hi]
  have s2 : ∀ i, i < N → ∀ j, j < N → swpQ R k p i j * 65536 = sumQ (fun l => swpQ R k p i (N + l) * A l j) N := fun i hi j hj => by
    unfold swpQ
    by_cases e : i = p
    · rw [if_pos e]; exact h.2 k (by omega) j hj
    · rw [if_neg e]
      by_cases e2 : i = k
      · rw [if_pos e2]; exact h.2 p hp j hj
      · rw [if_neg e2]; exact h.2 i hi j hj
  generalize swpQ R k p = S at *
  refine ⟨fun c hc i hi => ?_, fun i hi j hj => ?_⟩
  · unfold elmQ
    by_cases e : c = k
    · subst e
      by_cases e2 : i = c
      · rw [if_pos e2, if_pos e2]; grind
      · rw [if_neg e2, if_neg e2]; grind
    · have z := s1 c (by omega) k (by omega)
      rw [if_neg (by omega)] at z
      by_cases e2 : i = k
      · rw [if_pos e2, if_neg (by omega), z]; grind
      · rw [if_neg e2, z, ← s1 c (by omega) i hi]; grind
  · have q := s2 k (by omega) j hj
    unfold elmQ
    by_cases e2 : i = k
    · simp only [e2, if_true]
      rw [sumQ_congr (g := fun l => 65536 / S k k * (S k (N + l) * A l j)) (fun l _ => by grind), sumQ_mul, ← q]
      grind
    · simp only [e2, if_false]
      have q2 := s2 i hi j hj
      rw [sumQ_congr (g := fun l => S i (N + l) * A l j - S i k / S k k * (S k (N + l) * A l j)) (fun l _ => by grind), sumQ_sub, sumQ_mul, ← q, ← q2]
      grind
end Go.Proofs.YtglcmhldonkfdaaDoor
