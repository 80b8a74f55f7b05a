/- What the program's Inverse comes to: its steps. Own work. -/
import Derived.Test.YtglcmhldonkfdaaDoorPlM9
set_option maxRecDepth 10000
set_option linter.unusedVariables false
set_option linter.unusedSimpArgs false
namespace Go.Proofs.YtglcmhldonkfdaaDoor
open Go
theorem cat2 (a b : List TInterval) (ha : a.length < 1000) (hb : b.length < 1000) (h : 0 < a.length + b.length) {K : Nat} (hK : 10 < K) : api_Interval_70 K [a, b] = some (a ++ b) := by
  obtain ⟨m, rfl⟩ : ∃ m, K = m + 3 := ⟨K - 3, by omega⟩
  unfold api_Interval_70
  have e1 : api_Interval_70.l25 (m + 3) [a, b] (m + 3) 0 0 = some ((a.length + b.length : Nat) : Int) := by
    rw [api_Interval_70.l25, if_pos (by rfl), if_pos (by show (0 : Int) ≤ 0 ∧ (0 : Int) < 2; decide)]
    refine bT (v := a) rfl ?_
    rw [Int.zero_add, w64 (x := (a.length : Int)) (by omega) (by omega), if_neg (by rw [decide_eq_true_eq]; omega), show w_i64 (0 + 1) = 1 from rfl]
    rw [api_Interval_70.l25, if_pos (by rfl), if_pos (by show (0 : Int) ≤ 1 ∧ (1 : Int) < 2; decide)]
    refine bT (v := b) rfl ?_
    rw [w64 (x := (a.length : Int) + (b.length : Int)) (by omega) (by omega), if_neg (by rw [decide_eq_true_eq]; omega), show w_i64 (1 + 1) = 2 from rfl]
    rw [api_Interval_70.l25, if_neg (by show ¬ decide ((2 : Int) < 2) = true; decide)]
    rfl
  have e2 : api_Interval_95_m ((a.length + b.length : Nat) : Int) = some [] := by
    unfold api_Interval_95_m
    have e : w_i64 (((a.length + b.length : Nat) : Int) - w_i64 (0 - 0)) = ((a.length + b.length : Nat) : Int) := by
      rw [show w_i64 (0 - 0) = 0 from rfl, Int.sub_zero, w64 (by omega) (by omega)]
    rw [e, if_neg (by rw [decide_eq_true_eq]; omega), if_pos (by rw [decide_eq_true_eq]; omega), if_pos (by omega)]
  refine bT e1 (bT e2 (bT (v := a ++ b) ?_ rfl))
  rw [api_Interval_70.l13, if_pos (by rfl), if_pos (by show (0 : Int) ≤ 0 ∧ (0 : Int) < 2; decide)]
  refine bT (v := a) rfl ?_
  rw [if_pos ⟨by omega, by decide⟩, show w_i64 (0 + 1) = 1 from rfl]
  rw [api_Interval_70.l13, if_pos (by rfl), if_pos (by show (0 : Int) ≤ 1 ∧ (1 : Int) < 2; decide)]
  refine bT (v := b) rfl ?_
  rw [if_pos ⟨by omega, by simp; omega⟩, show w_i64 (1 + 1) = 2 from rfl]
  rw [api_Interval_70.l13, if_neg (by show ¬ decide ((2 : Int) < 2) = true; decide)]
  rfl
def swp (g : Nat → Nat → TInterval) (k p i : Nat) : Nat → TInterval := if i = p then g k else if i = k then g p else g i
def nrm (h : Nat → Nat → TInterval) (k j : Nat) : TInterval := idiv (h k j) (h k k)
def elm (h : Nat → Nat → TInterval) (k i j : Nat) : TInterval := if i = k then nrm h k j else isub (h i j) (imul (h i k) (nrm h k j))
def gjR (N : Nat) : Nat → Nat → (Nat → Nat → TInterval) → Option (Nat → Nat → TInterval)
  | 0, _, g => some g
  | d + 1, k, g => match pvS g k (N - k) with
    | none => none
    | some p => gjR N d (k + 1) (elm (swp g k p) k)
def OkM (N M : Nat) (g : Nat → Nat → TInterval) : Prop := ∀ i, i < N → ∀ j, j < M → Ok (g i j)
theorem swp_ok {N M k p : Nat} {g : Nat → Nat → TInterval} (h : OkM N M g) (hk : k < N) (hp : p < N) : OkM N M (swp g k p) := fun i hi j hj => by
  unfold swp; split
  · exact h k hk j hj
  · split
    · exact h p hp j hj
    · exact h i hi j hj
theorem nrm_ok {N M k : Nat} {g : Nat → Nat → TInterval} (h : OkM N M g) (hk : k < N) (hM : k < M) {j : Nat} (hj : j < M) : Ok (nrm g k j) := idiv_ok (h k hk j hj) (h k hk k hM)
theorem elm_ok {N M k : Nat} {g : Nat → Nat → TInterval} (h : OkM N M g) (hk : k < N) (hM : k < M) : OkM N M (elm g k) := fun i hi j hj => by
  unfold elm; split
  · exact nrm_ok h hk hM hj
  · exact isub_ok (h i hi j hj) (imul_ok (h i hi k hM) (nrm_ok h hk hM hj))
theorem l113_eq {N M k K : Nat} (hN : N < 1000000) (hM : M < 1000000) (hk : k < N) (hkM : k < M) {h : Nat → Nat → TInterval} (ho : OkM N M h) (hK : M < K) (x1 x2 x3 : List (List TInterval)) (t42 : Int) (t47 t50 t52 t54 t57 : List TInterval) {t110 : List TInterval} (ht : t110.length = M) :
    matrix_Inverse.l113 K x1 x2 x3 (k : Int) t42 t47 t50 t52 t54 t57 (h k k) t110 K (mm N M h) 0 = some (mm N M fun a c => if a = k then nrm h k c else h a c) := by
  refine loop_0 (fun m s x => matrix_Inverse.l113 K x1 x2 x3 (k : Int) t42 t47 t50 t52 t54 t57 (h k k) t110 m s x) M (fun j => mm N M fun a c => if a = k ∧ c < j then nrm h k c else h a c) _ (mm_congr fun a _ c _ => by rw [if_neg (by omega)]) (fun m j hj => ?_) (fun m => ?_) hK
  · show matrix_Inverse.l113 _ _ _ _ _ _ _ _ _ _ _ _ _ (m + 1) (mm N M fun a c => if a = k ∧ c < j then nrm h k c else h a c) _ = _
    rw [matrix_Inverse.l113, ht, if_pos (dlt hj)]
    simp only [mm_len, rng hk, and_self, if_true, Int.toNat_natCast, mm_get _ hk, Option.bind_some, mk_len, rng hj, mk_get _ hj]
    rw [if_neg (by omega), idiv_eq (ho k hk j hj) (ho k hk k hkM), Option.bind_some, wnext (by omega)]
    rw [show (mk M fun c => if True ∧ c < j then nrm h k c else h k c) = mk M ((fun a c => if a = k ∧ c < j then nrm h k c else h a c) k) from mk_congr fun c _ => by simp, mm_set N M (fun a c => if a = k ∧ c < j then nrm h k c else h a c) k j]
    congr 1
    refine mm_congr fun a ha c hc => ?_
    by_cases e : a = k ∧ c = j
    · rw [if_pos e, if_pos (by omega), e.2]; rfl
    · rw [if_neg e]
      by_cases e2 : a = k ∧ c < j
      · rw [if_pos e2, if_pos (by omega)]
      · rw [if_neg e2, if_neg (by omega)]
  · show matrix_Inverse.l113 _ _ _ _ _ _ _ _ _ _ _ _ _ (m + 1) (mm N M fun a c => if a = k ∧ c < M then nrm h k c else h a c) _ = _
    rw [matrix_Inverse.l113, ht, if_neg (by rw [dnl]; simp)]
    congr 1
    refine mm_congr fun a ha c hc => ?_
    by_cases e : a = k
    · rw [if_pos e, if_pos ⟨e, hc⟩]
    · rw [if_neg e, if_neg (fun x => e x.1)]
end Go.Proofs.YtglcmhldonkfdaaDoor
