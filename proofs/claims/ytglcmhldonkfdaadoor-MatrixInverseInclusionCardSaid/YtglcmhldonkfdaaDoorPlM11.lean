/- What the program's Inverse comes to: elimination. Own work. -/
import Derived.Test.YtglcmhldonkfdaaDoorPlM10
set_option maxRecDepth 10000
set_option linter.unusedVariables false
set_option linter.unusedSimpArgs false
namespace Go.Proofs.YtglcmhldonkfdaaDoor
open Go
theorem l82_eq {N M k i K : Nat} (hN : N < 1000000) (hM : M < 1000000) (hk : k < N) (hkM : k < M) (hi : i < N) (hik : i ≠ k) {h : Nat → Nat → TInterval} (ho : OkM N M h) (hK : M < K) (x1 x2 x3 : List (List TInterval)) (t42 : Int) (t47 t50 t52 t54 t57 : List TInterval) (t59 : TInterval) (j61 x63 : List (List TInterval)) (t74 : List TInterval) {t79 : List TInterval} (ht : t79.length = M) :
    matrix_Inverse.l82 K x1 x2 x3 (k : Int) t42 t47 t50 t52 t54 t57 t59 j61 x63 (i : Int) t74 (h i k) t79 K (mm N M fun a c => if a = k then nrm h k c else if a < i then elm h k a c else h a c) 0 = some (mm N M fun a c => if a = k then nrm h k c else if a < i + 1 then elm h k a c else h a c) := by
  refine loop_0 (fun m s x => matrix_Inverse.l82 K x1 x2 x3 (k : Int) t42 t47 t50 t52 t54 t57 t59 j61 x63 (i : Int) t74 (h i k) t79 m s x) M (fun j => mm N M fun a c => if a = k then nrm h k c else if a < i ∨ a = i ∧ c < j then elm h k a c else h a c) _ (mm_congr fun a _ c _ => ?_) (fun m j hj => ?_) (fun m => ?_) hK
  · by_cases e : a = k
    · rw [if_pos e, if_pos e]
    · rw [if_neg e, if_neg e]
      by_cases e2 : a < i
      · rw [if_pos e2, if_pos (.inl e2)]
      · rw [if_neg e2, if_neg (by omega)]
  · show matrix_Inverse.l82 _ _ _ _ _ _ _ _ _ _ _ _ _ _ _ _ _ _ (m + 1) (mm N M fun a c => if a = k then nrm h k c else if a < i ∨ a = i ∧ c < j then elm h k a c else h a c) _ = _
    rw [matrix_Inverse.l82, ht, if_pos (dlt hj)]
    simp only [mm_len, rng hk, rng hi, and_self, if_true, Int.toNat_natCast, mm_get _ hk, mm_get _ hi, Option.bind_some, mk_len, rng hj, mk_get _ hj]
    rw [if_neg hik, if_neg (by omega), imul_eq (ho i hi k hkM) (nrm_ok ho hk hkM hj), Option.bind_some, isub_eq (ho i hi j hj) (imul_ok (ho i hi k hkM) (nrm_ok ho hk hkM hj)), Option.bind_some, wnext (by omega)]
    rw [show (mk M fun c => if i = k then nrm h k c else if i < i ∨ True ∧ c < j then elm h k i c else h i c) = mk M ((fun a c => if a = k then nrm h k c else if a < i ∨ a = i ∧ c < j then elm h k a c else h a c) i) from mk_congr fun c _ => by simp, mm_set N M (fun a c => if a = k then nrm h k c else if a < i ∨ a = i ∧ c < j then elm h k a c else h a c) i j]
    congr 1
    refine mm_congr fun a ha c hc => ?_
    by_cases e : a = i ∧ c = j
    · rw [if_pos e, e.1, e.2, if_neg hik, if_pos (by omega), elm, if_neg hik]
    · rw [if_neg e]
      by_cases e2 : a = k
      · rw [if_pos e2, if_pos e2]
      · rw [if_neg e2, if_neg e2]
        by_cases e3 : a < i ∨ a = i ∧ c < j
        · rw [if_pos e3, if_pos (by omega)]
        · rw [if_neg e3, if_neg (by omega)]
  · show matrix_Inverse.l82 _ _ _ _ _ _ _ _ _ _ _ _ _ _ _ _ _ _ (m + 1) (mm N M fun a c => if a = k then nrm h k c else if a < i ∨ a = i ∧ c < M then elm h k a c else h a c) _ = _
    rw [matrix_Inverse.l82, ht, if_neg (by rw [dnl]; simp)]
    congr 1
    refine mm_congr fun a ha c hc => ?_
    by_cases e2 : a = k
    · rw [if_pos e2, if_pos e2]
    · rw [if_neg e2, if_neg e2]
      by_cases e3 : a < i + 1
      · rw [if_pos e3, if_pos (by omega)]
      · rw [if_neg e3, if_neg (by omega)]
theorem l65_eq {N M k K : Nat} (hN : N < 1000000) (hM : M < 1000000) (hk : k < N) (hkM : k < M) {h : Nat → Nat → TInterval} (ho : OkM N M h) (hK : M < K) (hKN : N < K) {x1 : List (List TInterval)} (hx : x1.length = N) (x2 x3 : List (List TInterval)) (t42 : Int) (t47 t50 t52 t54 t57 : List TInterval) (t59 : TInterval) (j61 : List (List TInterval)) :
    matrix_Inverse.l65 K x1 x2 x3 (k : Int) t42 t47 t50 t52 t54 t57 t59 j61 K (mm N M fun a c => if a = k then nrm h k c else h a c) 0 = some (.inr (mm N M (elm h k))) := by
  refine loop_0 (fun m s x => matrix_Inverse.l65 K x1 x2 x3 (k : Int) t42 t47 t50 t52 t54 t57 t59 j61 m s x) N (fun i => mm N M fun a c => if a = k then nrm h k c else if a < i then elm h k a c else h a c) _ (mm_congr fun a _ c _ => by rw [if_neg (show ¬ a < 0 by omega)]) (fun m i hi => ?_) (fun m => ?_) hKN
  · show matrix_Inverse.l65 _ _ _ _ _ _ _ _ _ _ _ _ _ (m + 1) (mm N M fun a c => if a = k then nrm h k c else if a < i then elm h k a c else h a c) _ = _
    rw [matrix_Inverse.l65, hx, if_pos (dlt hi)]
    refine bT (v := mm N M fun a c => if a = k then nrm h k c else if a < i + 1 then elm h k a c else h a c) ?_ (by rw [wnext (by omega)])
    by_cases e : i = k
    · subst e
      rw [if_pos (by simp)]
      congr 1
      refine mm_congr fun a _ c _ => ?_
      by_cases e2 : a = i
      · rw [if_pos e2, if_pos e2]
      · rw [if_neg e2, if_neg e2]
        by_cases e3 : a < i
        · rw [if_pos e3, if_pos (by omega)]
        · rw [if_neg e3, if_neg (by omega)]
    · rw [if_neg (by simp; omega)]
      simp only [mm_len, rng hi, and_self, if_true, Int.toNat_natCast, mm_get _ hi, Option.bind_some, mk_len, rng hkM, mk_get _ hkM]
      rw [if_neg e, if_neg (by omega)]
      exact l82_eq hN hM hk hkM hi e ho hK _ _ _ _ _ _ _ _ _ _ _ _ _ (mk_len _ _)
  · show matrix_Inverse.l65 _ _ _ _ _ _ _ _ _ _ _ _ _ (m + 1) (mm N M fun a c => if a = k then nrm h k c else if a < N then elm h k a c else h a c) _ = _
    rw [matrix_Inverse.l65, hx, if_neg (by rw [dnl]; simp)]
    refine congrArg (fun x => some (Sum.inr x)) (mm_congr fun a ha c hc => ?_)
    by_cases e : a = k
    · rw [if_pos e, elm, if_pos e]
    · rw [if_neg e, if_pos ha]
theorem swp_list {N M k p : Nat} (g : Nat → Nat → TInterval) : ((mm N M g).set k (mk M (g p))).set p (mk M (g k)) = mm N M (swp g k p) := by
  unfold mm
  rw [mk_set, mk_set]
  refine mk_congr fun i hi => ?_
  unfold swp
  by_cases e : i = p
  · rw [if_pos e, if_pos e]
  · rw [if_neg e, if_neg e]
    by_cases e2 : i = k
    · rw [if_pos e2, if_pos e2]
    · rw [if_neg e2, if_neg e2]
theorem l35_eq {N M K : Nat} (hN : N < 1000000) (hM : M < 1000000) (hNM : N ≤ M) (hK : M < K) {x1 : List (List TInterval)} (hx : x1.length = N) (x2 : List (List TInterval)) :
    ∀ (d k m : Nat) (g : Nat → Nat → TInterval), k + d = N → d < m → OkM N M g →
      matrix_Inverse.l35 K x1 x2 m (mm N M g) (k : Int) = some (match gjR N d k g with | none => .inl ([], false) | some g' => .inr (mm N M g'))
  | 0, k, m, g, hkd, hm, ho => by
    obtain ⟨m, rfl⟩ : ∃ q, m = q + 1 := ⟨m - 1, by omega⟩
    obtain rfl : k = N := by omega
    rw [matrix_Inverse.l35, hx, if_neg (by rw [dnl]; simp)]
    rfl
  | d + 1, k, m, g, hkd, hm, ho => by
    obtain ⟨m, rfl⟩ : ∃ q, m = q + 1 := ⟨m - 1, by omega⟩
    have hk : k < N := by omega
    have hkM : k < M := by omega
    rw [matrix_Inverse.l35, hx, if_pos (dlt hk), pivot_eq hN (by omega) hkM g (fun i hi => ho i hi k hkM) (by omega), Option.bind_some, gjR]
    cases hp : pvS g k (N - k) with
    | none =>
      rw [if_pos (by decide)]
      rfl
    | some p =>
      have hpp := pvS_some hp
      have hpN : p < N := by omega
      have ho' := swp_ok ho hk hpN
      have e1 : decide (pvI (some p) < 0) = false := decide_eq_false (by show ¬ ((p : Int) < 0); omega)
      rw [if_neg (by rw [e1]; simp)]
      refine bT (v := .inr (mm N M (elm (swp g k p) k))) ?_ ?_
      · show (if 0 ≤ (p : Int) ∧ (p : Int) < ((mm N M g).length : Int) then ((mm N M g)[(p : Int).toNat]?).bind _ else none) = _
        rw [mm_len, if_pos (rng hpN), Int.toNat_natCast, mm_get _ hpN, Option.bind_some, if_pos (rng hk), Int.toNat_natCast, mm_get _ hk, Option.bind_some, if_pos (rng hk), Option.bind_some]
        have hl1 : (((mm N M g).set k (mk M (g p))).length : Int) = N := by rw [List.length_set, mm_len]
        have hg1 : ∃ x, ((mm N M g).set k (mk M (g p)))[p]? = some x := ⟨((mm N M g).set k (mk M (g p)))[p]'(by rw [List.length_set, mm_len]; exact hpN), List.getElem?_eq_getElem _⟩
        obtain ⟨x, hx1⟩ := hg1
        show (if 0 ≤ (p : Int) ∧ (p : Int) < (((mm N M g).set k (mk M (g p))).length : Int) then (((mm N M g).set k (mk M (g p)))[(p : Int).toNat]?).bind _ else none) = _
        rw [hl1, if_pos (rng hpN), Int.toNat_natCast, hx1, Option.bind_some]
        rw [show (pvI (some p)).toNat = p from Int.toNat_natCast p, swp_list, mm_len, if_pos (rng hk), mm_get _ hk, Option.bind_some, mk_len, if_pos (rng hkM), mk_get _ hkM, Option.bind_some, if_pos (rng hk), Option.bind_some]
        refine bT (l113_eq hN hM hk hkM ho' hK _ _ _ _ _ _ _ _ _ (mk_len _ _)) ?_
        exact l65_eq hN hM hk hkM ho' hK (by omega) hx _ _ _ _ _ _ _ _ _ _
      · show matrix_Inverse.l35 K x1 x2 m (mm N M (elm (swp g k p) k)) (w_i64 ((k : Int) + 1)) = _
        rw [wnext (by omega)]
        exact l35_eq hN hM hNM hK hx x2 d (k + 1) m _ (by omega) (by omega) (elm_ok ho' hk hkM)
end Go.Proofs.YtglcmhldonkfdaaDoor
