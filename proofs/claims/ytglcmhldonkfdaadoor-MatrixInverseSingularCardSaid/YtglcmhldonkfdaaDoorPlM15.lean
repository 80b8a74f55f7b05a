/- Singular and diagonal matrices. Own work. -/
import Derived.Test.YtglcmhldonkfdaaDoorPlM14
set_option maxRecDepth 10000
set_option linter.unusedVariables false
set_option linter.unusedSimpArgs false
namespace Go.Proofs.YtglcmhldonkfdaaDoor
open Go
def hulI (a b : TInterval) : TInterval := ⟨mn a.Lo b.Lo, mx a.Hi b.Hi⟩
def Zr0 : TInterval := ⟨0, 0⟩
theorem zr0_fin : Fin Zr0 := by unfold Fin Zr0; simp
def augQ (N : Nat) (A : Nat → Nat → Rat) (i j : Nat) : Rat := if j < N then A i j else if i = j - N then 65536 else 0
theorem aug_in {N : Nat} {f : Nat → Nat → TInterval} {A : Nat → Nat → Rat} (hA : InM N N f A) : InM N (N + N) (aug N f) (augQ N A) := fun i hi j hj => by
  unfold aug augQ
  by_cases e : j < N
  · rw [if_pos e, if_pos e]; exact hA i hi j e
  · rw [if_neg e, if_neg e]
    unfold idn
    by_cases e2 : i = j - N
    · rw [if_pos e2, if_pos e2]; exact .inr ⟨by simp, by simp⟩
    · rw [if_neg e2, if_neg e2]; exact .inr ⟨by simp, by simp⟩
theorem sing_none {N : Nat} (f : Nat → Nat → TInterval) (hf : OkM N N f) (A : Nat → Nat → Rat) (hA : InM N N f A) (v : Nat → Rat) (hv : ∃ i, i < N ∧ v i ≠ 0) (hs : ∀ j, j < N → sumQ (fun i => v i * A i j) N = 0) : invR N f = none := by
  unfold invR
  cases hg : gjR N N 0 (aug N f) with
  | none => rfl
  | some g =>
    exfalso
    obtain ⟨R', _, w, ⟨i, hi, hw⟩, hz, _⟩ := gj_ind (N := N) (M := N + N) (by omega) (InvS N) (fun k p R h1 h2 h3 h4 => invS_step k p R h1 h2 h3 h4) (by omega) (aug_ok hf) (aug_in hA) ⟨v, hv, fun i hi => absurd hi (Nat.not_lt_zero _), fun j hj => by
      rw [← hs j hj]
      exact sumQ_congr fun i hi => by unfold augQ; rw [if_pos hj]⟩ hg
    exact hw (hz i hi)
theorem pt_div {a d : Int} (ha : -2147483648 < a ∧ a < 2147483648) (hd : 0 < d ∧ d < 2147483648) : idiv ⟨a, a⟩ ⟨d, d⟩ = nw (a * 65536 / d) (cdiv (a * 65536) d) := by
  obtain ⟨x, y, u, v, e, H⟩ := div_above (a := ⟨a, a⟩) (b := ⟨d, d⟩) (by unfold Fin; simp only; omega) (by unfold Fin; simp only; omega) hd.1
  have h1 : x = a := by rcases H.x_ with h | h <;> exact h
  have h2 : y = d := by rcases H.y_ with h | h <;> exact h
  have h3 : u = a := by rcases H.u_ with h | h <;> exact h
  have h4 : v = d := by rcases H.v_ with h | h <;> exact h
  subst h1 h2 h3 h4
  rw [idiv, e]; rfl
theorem zr_div {d : Int} (hd : 0 < d ∧ d < 2147483648) : idiv Zr0 ⟨d, d⟩ = Zr0 := by
  rw [show Zr0 = ⟨0, 0⟩ from rfl, pt_div (by omega) hd, Int.zero_mul, Int.zero_ediv]
  unfold cdiv
  rw [Int.neg_zero, Int.zero_ediv]
  rfl
theorem self_div {d : Int} (hd : 0 < d ∧ d < 2147483648) : idiv ⟨d, d⟩ ⟨d, d⟩ = ⟨65536, 65536⟩ := by
  rw [pt_div (by omega) hd]
  have e1 : d * 65536 / d = 65536 := Int.mul_ediv_cancel_left _ (by omega)
  have e2 : cdiv (d * 65536) d = 65536 := by
    unfold cdiv
    rw [← Int.mul_neg, Int.mul_ediv_cancel_left _ (by omega)]
    rfl
  rw [e1, e2]; rfl
theorem one_div {d : Int} (hd : 4 ≤ d ∧ d < 2147483648) : Fin (idiv ⟨65536, 65536⟩ ⟨d, d⟩) := by
  rw [pt_div (by omega) (by omega)]
  have h1 : 0 ≤ 65536 * 65536 / d := Int.ediv_nonneg (by omega) (by omega)
  have h2 : cdiv (65536 * 65536) d ≤ 1073741824 := (cdiv_le (by omega)).2 (by omega)
  have h3 : 65536 * 65536 / d ≤ cdiv (65536 * 65536) d := fc (by omega) (Int.le_refl _)
  rw [nw_fin (by unfold Fin; simp only; omega)]
  unfold Fin
  simp only
  omega
theorem mulZ {a : TInterval} (fa : Fin a) : imul Zr0 a = Zr0 := by
  obtain ⟨l, h, e, H⟩ := mul_fin zr0_fin fa
  have h1 := H.isl
  have h2 := H.ish
  have : l = 0 := by simpa [Zr0] using h1
  have : h = 0 := by simpa [Zr0] using h2
  subst l h
  rw [imul, e]; rfl
theorem subZ {a : TInterval} (ha : Ok a) : isub a Zr0 = a := by
  rcases ha with rfl | fa
  · rw [isub, sub_entl (.inr zr0_fin)]; rfl
  · rw [isub, sub_fin fa zr0_fin]
    show nw (a.Lo - 0) (a.Hi - 0) = a
    rw [Int.sub_zero, Int.sub_zero]
    exact nw_self fa
def dgG (N : Nat) (d : Nat → Int) (k i j : Nat) : TInterval :=
  if i < k then (if j < N then idn i j else if i = j - N then idiv ⟨65536, 65536⟩ ⟨d i, d i⟩ else Zr0)
  else (if j < N then (if i = j then ⟨d i, d i⟩ else Zr0) else idn i (j - N))
theorem idn_ne {i j : Nat} (h : i ≠ j) : idn i j = Zr0 := by unfold idn; rw [if_neg h]; rfl
theorem idn_eq (i : Nat) : idn i i = ⟨65536, 65536⟩ := by unfold idn; rw [if_pos rfl]
theorem dg_ok {N : Nat} {d : Nat → Int} (hd : ∀ i, 4 ≤ d i ∧ d i < 2147483648) (k i j : Nat) : Fin (dgG N d k i j) := by
  unfold dgG
  have hh := hd i
  have f1 := (idn_sm i j).fin
  have f2 := (idn_sm i (j - N)).fin
  split
  · split
    · exact f1
    · split
      · exact one_div hh
      · exact zr0_fin
  · split
    · split
      · unfold Fin; simp only; omega
      · exact zr0_fin
    · exact f2
theorem dg_col {N : Nat} {d : Nat → Int} {k i : Nat} (hk : k < N) (h : i ≠ k) : dgG N d k i k = Zr0 := by
  unfold dgG
  rw [if_pos hk, if_pos hk, idn_ne h, if_neg h, ite_self]
theorem dg_kk {N : Nat} {d : Nat → Int} {k : Nat} (hk : k < N) : dgG N d k k k = ⟨d k, d k⟩ := by
  unfold dgG
  rw [if_neg (by omega), if_pos hk, if_pos rfl]
theorem dg_pv {N : Nat} {d : Nat → Int} (hd : ∀ i, 4 ≤ d i ∧ d i < 2147483648) {k : Nat} (hk : k < N) : ∀ e, pvS (dgG N d k) k (e + 1) = some k
  | 0 => by
    have h := hd k
    have hz : sg (dgG N d k (k + 0) k) ≠ 0 := by
      rw [Nat.add_zero, dg_kk hk]; unfold sg; simp only
      rw [if_pos (show d k > 0 by omega)]; omega
    rw [pvS, if_pos hz]; rfl
  | e + 1 => by
    have hz : ¬ sg (dgG N d k (k + (e + 1)) k) ≠ 0 := by
      rw [dg_col hk (by omega)]; simp [sg, Zr0]
    rw [pvS, if_neg hz, dg_pv hd hk e]
theorem swp_self (g : Nat → Nat → TInterval) (k : Nat) : swp g k k = g := by
  funext i
  unfold swp
  by_cases e : i = k
  · rw [if_pos e, e]
  · rw [if_neg e, if_neg e]
theorem dg_nrm {N : Nat} {d : Nat → Int} (hd : ∀ i, 4 ≤ d i ∧ d i < 2147483648) {k : Nat} (hk : k < N) (j : Nat) : nrm (dgG N d k) k j = dgG N d (k + 1) k j := by
  have h := hd k
  unfold nrm
  rw [dg_kk hk]
  unfold dgG
  rw [if_neg (Nat.lt_irrefl k), if_pos (Nat.lt_succ_self k)]
  by_cases e : j < N
  · rw [if_pos e, if_pos e]
    by_cases e2 : k = j
    · subst e2; rw [if_pos rfl, idn_eq, self_div (by omega)]
    · rw [if_neg e2, idn_ne e2, zr_div (by omega)]
  · rw [if_neg e, if_neg e]
    by_cases e2 : k = j - N
    · rw [if_pos e2, ← e2, idn_eq]
    · rw [if_neg e2, idn_ne e2, zr_div (by omega)]
theorem dg_step {N : Nat} {d : Nat → Int} (hd : ∀ i, 4 ≤ d i ∧ d i < 2147483648) {k : Nat} (hk : k < N) : elm (swp (dgG N d k) k k) k = dgG N d (k + 1) := by
  rw [swp_self]
  funext i j
  unfold elm
  by_cases e : i = k
  · rw [if_pos e, e]; exact dg_nrm hd hk j
  · rw [if_neg e, dg_col hk e, dg_nrm hd hk, mulZ (dg_ok hd _ _ _), subZ (.inr (dg_ok hd _ _ _))]
    unfold dgG
    by_cases e2 : i < k
    · rw [if_pos e2, if_pos (show i < k + 1 by omega)]
    · rw [if_neg e2, if_neg (show ¬ i < k + 1 by omega)]
theorem dg_run {N : Nat} {d : Nat → Int} (hd : ∀ i, 4 ≤ d i ∧ d i < 2147483648) : ∀ (e k : Nat), k + e = N → gjR N e k (dgG N d k) = some (dgG N d N)
  | 0, k, h => by obtain rfl : k = N := by omega
                  rfl
  | e + 1, k, h => by
    rw [gjR, show N - k = e + 1 by omega, dg_pv hd (by omega) e]
    show gjR N e (k + 1) (elm (swp (dgG N d k) k k) k) = _
    rw [dg_step hd (by omega)]
    exact dg_run hd e (k + 1) (by omega)
def dgM (d : Nat → Int) (i j : Nat) : TInterval := if i = j then ⟨d i, d i⟩ else Zr0
theorem dg_inv {N : Nat} {d : Nat → Int} (hd : ∀ i, 4 ≤ d i ∧ d i < 2147483648) : invR N (dgM d) = some fun i j => dgG N d N i (N + j) := by
  have e : aug N (dgM d) = dgG N d 0 := by
    funext i j
    unfold aug dgM dgG
    rw [if_neg (Nat.not_lt_zero i)]
  unfold invR
  rw [e, dg_run hd N 0 (by omega)]
  show (if (allB N fun i => !anyE N fun j => dgG N d N i (N + j)) = true then some fun i j => dgG N d N i (N + j) else none) = _
  rw [if_pos]
  refine allB_iff.2 fun i hi => ?_
  cases h : anyE N fun j => dgG N d N i (N + j) with
  | false => rfl
  | true =>
    obtain ⟨j, hj, e⟩ := anyE_iff.1 h
    exact absurd e (dg_ok hd _ _ _).not
end Go.Proofs.YtglcmhldonkfdaaDoor
