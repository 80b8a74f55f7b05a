/- What the program's functions on matrices come to. Own work. -/
import Derived.Test.YtglcmhldonkfdaaDoorPlM2
set_option maxRecDepth 10000
set_option linter.unusedVariables false
set_option linter.unusedSimpArgs false
namespace Go.Proofs.YtglcmhldonkfdaaDoor
open Go
theorem w1 : w_i64 (0 + 1) = ((1 : Nat) : Int) := rfl
theorem apply1 {n m i k : Nat} (hi : i < n) (hk : k < m) (f : Nat → Nat → TInterval) : matrix_Apply_1_m (k : Int) (mm n m f) (i : Int) = some (f i k) := by
  unfold matrix_Apply_1_m mm
  simp only [mk_len, rng hi, rng hk, and_self, if_true, Int.toNat_natCast, mk_get _ hi, mk_get _ hk, Option.bind_some]
theorem apply2 {n k : Nat} (hk : k < n) (f : Nat → TInterval) : matrix_Apply_2_m (k : Int) (mk n f) = some (f k) := by
  unfold matrix_Apply_2_m
  simp only [mk_len, rng hk, and_self, if_true, Int.toNat_natCast, mk_get _ hk, Option.bind_some]
theorem dot53 {n N i : Nat} (hn : N < 1000000) (h0 : N = n + 1) (hi : i < N) (f : Nat → Nat → TInterval) (b : Nat → TInterval) (hf : ∀ k, k < N → Ok (f i k)) (hb : ∀ k, k < N → Ok (b k)) {k0 : Nat} (hk : N < k0) :
    matrix_dot_s53_s54 k0 (N : Int) (mm N N f) (i : Int) (mk N b) = some (dotI (f i) b n) := by
  have p0 : 0 < N := by omega
  have e0 : matrix_Apply_1_m 0 (mm N N f) (i : Int) = some (f i 0) := apply1 hi p0 f
  have e1 : matrix_Apply_2_m 0 (mk N b) = some (b 0) := apply2 p0 b
  unfold matrix_dot_s53_s54
  rw [e0, Option.bind_some, e1, Option.bind_some, imul_eq (hf 0 p0) (hb 0 p0), Option.bind_some]
  have L := loop_st (fun k (s : TInterval) x => matrix_dot_s53_s54.l14 k0 (N : Int) (mm N N f) (i : Int) (mk N b) (f i 0) (b 0) (imul (f i 0) (b 0)) k s.Lo s.Hi x) N (fun j => dotI (f i) b (j - 1)) ((dotI (f i) b n).Lo, (dotI (f i) b n).Hi) 1 (fun k j h1 hj => by
    obtain ⟨j, rfl⟩ : ∃ m, j = m + 1 := ⟨j - 1, by omega⟩
    show matrix_dot_s53_s54.l14 _ _ _ _ _ _ _ _ (k + 1) _ _ _ = _
    rw [matrix_dot_s53_s54.l14]
    rw [if_pos (dlt hj), apply1 hi hj f, Option.bind_some, apply2 hj b, Option.bind_some, imul_eq (hf _ hj) (hb _ hj), Option.bind_some, iadd_eq (dotI_ok (fun a h => hf a (by omega)) (fun a h => hb a (by omega))) (imul_ok (hf _ hj) (hb _ hj)), Option.bind_some, wnext (by omega)]
    rfl) (fun k => by
    show matrix_dot_s53_s54.l14 _ _ _ _ _ _ _ _ (k + 1) _ _ _ = _
    rw [matrix_dot_s53_s54.l14, if_neg (by rw [dnl]; simp), h0]
    rfl) hk (by omega)
  exact bT L rfl
theorem apply_eq {n N : Nat} (hn : N < 1000000) (h0 : N = n + 1) (f : Nat → Nat → TInterval) (b : Nat → TInterval) (hf : ∀ i, i < N → ∀ k, k < N → Ok (f i k)) (hb : ∀ k, k < N → Ok (b k)) {k0 : Nat} (hk : N < k0) :
    matrix_Apply k0 (mm N N f) (mk N b) = some (mk N fun i => dotI (f i) b n) := by
  unfold matrix_Apply
  have hl : (mm N N f).length = N := mk_len _ _
  refine bT (loop_0 (fun k s x => matrix_Apply.l9 k0 (mm N N f) (mk N b) k s x) N (fun j => mk j fun i => dotI (f i) b n) _ rfl (fun k j hj => ?_) (fun k => ?_) hk) rfl
  · show matrix_Apply.l9 _ _ _ (k + 1) _ _ = _
    rw [matrix_Apply.l9, hl, if_pos (dlt hj), dot53 hn h0 hj f b (hf j hj) hb hk, Option.bind_some, mk_len, if_pos (by omega), wnext (by omega), ← mk_succ]
  · show matrix_Apply.l9 _ _ _ (k + 1) _ _ = _
    rw [matrix_Apply.l9, hl, if_neg (by rw [dnl]; simp)]
theorem n0 {n : Nat} (hn : n < 1000000) : 0 ≤ (n : Int) ∧ (n : Int) < 1000000 := ⟨by omega, by omega⟩
def idn (i j : Nat) : TInterval := if i = j then ⟨65536, 65536⟩ else ⟨0, 0⟩
end Go.Proofs.YtglcmhldonkfdaaDoor
