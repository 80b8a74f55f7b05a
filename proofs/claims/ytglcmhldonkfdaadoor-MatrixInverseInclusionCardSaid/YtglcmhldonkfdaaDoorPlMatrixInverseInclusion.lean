/- MatrixInverseInclusion: the plain law. Own work. -/
import Derived.Test.YtglcmhldonkfdaaDoorPlM6
import Derived.Test.YtglcmhldonkfdaaDoorPlM15
set_option maxRecDepth 10000
set_option linter.unusedVariables false
set_option linter.unusedSimpArgs false
namespace Go.Proofs.YtglcmhldonkfdaaDoor
open Go
theorem pt_nw' {t : Int} (h : -2147483648 < t ∧ t < 2147483648) : nw t t = ⟨t, t⟩ := nw_fin (by unfold Fin; simp only; omega)
theorem inq_pt (t : Int) : InQ ⟨t, t⟩ (t : Rat) := .inr ⟨Rat.le_refl, Rat.le_refl⟩
theorem rapply {n N : Nat} (hn : N < 1000000) (h0 : N = n + 1) (f : Nat → Nat → TInterval) (b : Nat → TInterval) (hf : ∀ i, i < N → ∀ k, k < N → Ok (f i k)) (hb : ∀ k, k < N → Ok (b k)) {K : Nat} (hk : N < K) (hK : 4294967296 < K) :
    armillaryref04_Apply K (mm N N f) (mk N b) = some (mk N fun i => dotI (f i) b n) := by
  have p0 : 0 < N := by omega
  unfold armillaryref04_Apply
  refine bT (loop_0 (fun k s x => armillaryref04_Apply.l9 K (mm N N f) (mk N b) k s x) N (fun j => mk j fun i => dotI (f i) b n) _ rfl (fun k i hi => ?_) (fun k => ?_) hk) rfl
  · show armillaryref04_Apply.l9 _ _ _ (k + 1) _ _ = _
    rw [armillaryref04_Apply.l9, mm_len, if_pos (dlt hi)]
    refine bT (v := mk (i + 1) fun i => dotI (f i) b n) ?_ (by rw [wnext (by omega)])
    have r0 : 0 ≤ (0 : Int) ∧ (0 : Int) < (N : Int) := ⟨Int.le_refl _, by omega⟩
    rw [if_pos (rng hi), Int.toNat_natCast, mm_get _ hi, Option.bind_some, mk_len, if_pos r0, show (0 : Int).toNat = 0 from rfl, mk_get _ p0, Option.bind_some, mk_len, if_pos r0, mk_get _ p0, Option.bind_some, rmul_eq hK (hf i hi 0 p0) (hb 0 p0), imul_eq (hf i hi 0 p0) (hb 0 p0), Option.bind_some]
    have L := loop_st (fun k (s : TInterval) x => armillaryref04_Apply.l33 K (mm N N f) (mk N b) (mk i fun i => dotI (f i) b n) (i : Int) (mk N (f i)) (f i 0) (b 0) (imul (f i 0) (b 0)) k s.Lo s.Hi x) N (fun j => dotI (f i) b (j - 1)) ((dotI (f i) b n).Lo, (dotI (f i) b n).Hi) 1 (fun k j h1 hj => by
      obtain ⟨j, rfl⟩ : ∃ m, j = m + 1 := ⟨j - 1, by omega⟩
      have o1 := imul_ok (hf i hi _ hj) (hb _ hj)
      have o2 : Ok (dotI (f i) b j) := dotI_ok (fun a h => hf i hi a (by omega)) (fun a h => hb a (by omega))
      show armillaryref04_Apply.l33 _ _ _ _ _ _ _ _ _ (k + 1) (dotI (f i) b j).Lo (dotI (f i) b j).Hi _ = _
      rw [armillaryref04_Apply.l33, mm_len, if_pos (dlt hj), if_pos (rng hi), Int.toNat_natCast, mm_get _ hi, Option.bind_some, mk_len, if_pos (rng hj), Int.toNat_natCast, mk_get _ hj, Option.bind_some, mk_len, if_pos (rng hj), mk_get _ hj, Option.bind_some, rmul_eq hK (hf i hi _ hj) (hb _ hj), imul_eq (hf i hi _ hj) (hb _ hj), Option.bind_some, radd_eq o2 o1, iadd_eq o2 o1, Option.bind_some, wnext (by omega)]
      rfl) (fun k => by
      show armillaryref04_Apply.l33 _ _ _ _ _ _ _ _ _ (k + 1) _ _ _ = _
      rw [armillaryref04_Apply.l33, mm_len, if_neg (by rw [dnl]; simp), h0]
      rfl) hk (by omega)
    refine bT L ?_
    rw [mk_len, if_pos (by omega), mk_succ]
  · show armillaryref04_Apply.l9 _ _ _ (k + 1) _ _ = _
    rw [armillaryref04_Apply.l9, mm_len, if_neg (by rw [dnl]; simp)]
theorem rpoint {n : Nat} (hn : n < 1000000) (p : Nat → Int) {k : Nat} (hk : n < k) : armillaryref03_Point k (mk n p) = some (mk n (fun i => nw (p i) (p i))) := by
  unfold armillaryref03_Point
  refine bT (loop_0 (fun m s x => armillaryref03_Point.l9 k (mk n p) m s x) n (fun j => mk j fun i => nw (p i) (p i)) _ rfl (fun m i hi => ?_) (fun m => ?_) hk) rfl
  · show armillaryref03_Point.l9 _ _ (m + 1) _ _ = _
    rw [armillaryref03_Point.l9, mk_len, if_pos (dlt hi), if_pos (rng hi), Int.toNat_natCast, mk_get _ hi, Option.bind_some, pt_eq, Option.bind_some, mk_len, if_pos (by omega), wnext (by omega), mk_succ]
  · show armillaryref03_Point.l9 _ _ (m + 1) _ _ = _
    rw [armillaryref03_Point.l9, mk_len, if_neg (by rw [dnl]; simp)]
theorem rfromN {N : Nat} (hn : N < 1000000) (M : Nat → Nat → Int) {K : Nat} (hk : N < K) : armillaryref04_FromNumbers K (mm N N M) = some (mm N N fun i j => nw (M i j) (M i j)) := by
  unfold armillaryref04_FromNumbers
  refine bT (loop_0 (fun k s x => armillaryref04_FromNumbers.l9 K (mm N N M) k s x) N (fun j => mm j N fun i j => nw (M i j) (M i j)) _ rfl (fun k i hi => ?_) (fun k => ?_) hk) rfl
  · show armillaryref04_FromNumbers.l9 _ _ (k + 1) _ _ = _
    rw [armillaryref04_FromNumbers.l9, mm_len, if_pos (dlt hi)]
    refine bT (v := mm (i + 1) N fun i j => nw (M i j) (M i j)) ?_ (by rw [wnext (by omega)])
    refine bT (loop_0 (fun k s x => armillaryref04_FromNumbers.l22 K (mm N N M) _ (i : Int) k s x) N (fun j => mk j fun j => nw (M i j) (M i j)) (mk N fun j => nw (M i j) (M i j)) rfl (fun k j hj => ?_) (fun k => ?_) hk) ?_
    · show armillaryref04_FromNumbers.l22 _ _ _ _ (k + 1) _ _ = _
      rw [armillaryref04_FromNumbers.l22, mm_len, if_pos (dlt hj), if_pos (rng hi), Int.toNat_natCast, mm_get _ hi, Option.bind_some, mk_len, if_pos (rng hj), Int.toNat_natCast, mk_get _ hj, Option.bind_some, pt_eq, Option.bind_some, mk_len, if_pos (by omega), wnext (by omega), ← mk_succ]
    · show armillaryref04_FromNumbers.l22 _ _ _ _ (k + 1) _ _ = _
      rw [armillaryref04_FromNumbers.l22, mm_len, if_neg (by rw [dnl]; simp)]
    · refine (if_pos (by show (mm i N _).length < _; rw [mm_len]; omega)).trans ?_
      show some (mm i N (fun i j => nw (M i j) (M i j)) ++ _) = _
      unfold mm
      rw [mk_succ]
  · show armillaryref04_FromNumbers.l9 _ _ (k + 1) _ _ = _
    rw [armillaryref04_FromNumbers.l9, mm_len, if_neg (by rw [dnl]; simp)]
theorem inq_dot {a b : Nat → TInterval} {r s : Nat → Rat} : ∀ {n : Nat}, (∀ i, i ≤ n → Ok (a i)) → (∀ i, i ≤ n → Ok (b i)) → (∀ i, i ≤ n → InQ (a i) (r i)) → (∀ i, i ≤ n → InQ (b i) (s i)) → InQ (dotI a b n) (sumQ (fun i => r i * s i / 65536) (n + 1))
  | 0, ha, hb, hr, hs => by
    have e : sumQ (fun i => r i * s i / 65536) (0 + 1) = r 0 * s 0 / 65536 := by show 0 + _ = _; grind
    rw [e]
    exact inq_mul (ha 0 (Nat.le_refl _)) (hb 0 (Nat.le_refl _)) (hr 0 (Nat.le_refl _)) (hs 0 (Nat.le_refl _))
  | n + 1, ha, hb, hr, hs => by
    rw [sumQ]
    exact inq_add (dotI_ok (fun i h => ha i (by omega)) (fun i h => hb i (by omega))) (imul_ok (ha _ (Nat.le_refl _)) (hb _ (Nat.le_refl _)))
      (inq_dot (fun i h => ha i (by omega)) (fun i h => hb i (by omega)) (fun i h => hr i (by omega)) (fun i h => hs i (by omega)))
      (inq_mul (ha _ (Nat.le_refl _)) (hb _ (Nat.le_refl _)) (hr _ (Nat.le_refl _)) (hs _ (Nat.le_refl _)))
theorem inv_in {N : Nat} (f : Nat → Nat → TInterval) (hf : OkM N N f) (A : Nat → Nat → Rat) (hA : InM N N f A) {g : Nat → Nat → TInterval} (h : invR N f = some g) :
    OkM N N g ∧ (∀ i, i < N → ∀ j, j < N → g i j ≠ Ent) ∧ ∃ E : Nat → Nat → Rat, InM N N g E ∧ ∀ i, i < N → ∀ j, j < N → sumQ (fun l => E i l * A l j) N = if i = j then 65536 * 65536 else 0 := by
  unfold invR at h
  cases hg : gjR N N 0 (aug N f) with
  | none => rw [hg] at h; cases h
  | some g' =>
    rw [hg] at h
    have h : (if allB N (fun i => !anyE N fun j => g' i (N + j)) = true then some fun i j => g' i (N + j) else none) = some g := h
    by_cases hb : allB N (fun i => !anyE N fun j => g' i (N + j)) = true
    · rw [if_pos hb] at h
      obtain rfl := Option.some.inj h
      have hgo := gjR_ok (N := N) (M := N + N) (by omega) (by omega) (aug_ok hf) hg
      obtain ⟨R', hin, hI, hL⟩ := gj_ind (N := N) (M := N + N) (by omega) (InvI N A) (fun k p R h1 h2 h3 h4 => invI_step A k p R h1 h2 h3 h4) (by omega) (aug_ok hf) (aug_in hA) ⟨fun c hc => absurd hc (Nat.not_lt_zero _), fun i hi j hj => by
        have e : ∀ l, augQ N A i (N + l) * A l j = if l = i then 65536 * A i j else 0 := fun l => by
          unfold augQ
          rw [if_neg (by omega)]
          by_cases e : l = i
          · rw [if_pos (by omega), if_pos e, e]
          · rw [if_neg (by omega), if_neg e]; grind
        rw [sumQ_congr (fun l _ => e l), sumQ_upd (fun _ => 0) _ i hi, sumQ_zero (f := fun _ => 0) (fun _ _ => rfl)]
        unfold augQ
        rw [if_pos hj]
        grind⟩ hg
      refine ⟨fun i hi j hj => hgo i hi (N + j) (by omega), fun i hi j hj e => ?_, fun i j => R' i (N + j), fun i hi j hj => hin i hi (N + j) (by omega), fun i hi j hj => ?_⟩
      · have h1 := allB_iff.1 hb i hi
        have h2 : anyE N (fun j => g' i (N + j)) = true := anyE_iff.2 ⟨j, hj, e⟩
        rw [h2] at h1; cases h1
      · have h1 := hL i hi j hj
        have h2 := hI j hj i hi
        rw [← h1, h2]
        by_cases e : i = j
        · rw [if_pos e, if_pos e]
        · rw [if_neg e, if_neg e]; grind
    · rw [if_neg hb] at h
      cases h
theorem inv_law (m : Nat) (hm : 4294967296 ≤ m) (x : TOperands) (t s : List Int) (hN : 0 ≤ x.N ∧ x.N ≤ 255) (ht : ∀ y ∈ t, 0 ≤ y ∧ y ≤ 65535) (hs : ∀ y ∈ s, 0 ≤ y ∧ y ≤ 65535) :
    armillarylaw04_MatrixInverseInclusion (m + 100) x t s = some true := by
  obtain ⟨n, hd, hn⟩ := dim_eq hN
  unfold armillarylaw04_MatrixInverseInclusion
  generalize hN' : n + 1 = N at *
  have N0 : 0 < N := by omega
  have N6 : N ≤ 6 := by omega
  have N1 : N < 1000000 := by omega
  have hk : N < m + 100 := by omega
  have eA : ∀ a c, Sm (elt smI x.A N a c) := fun a c => elt_sm _ _ _ _
  have eX : ∀ i, Sm (vec smI x.X i) := fun i => vec_sm _ _
  refine bT (sane m) (bT (v := (mm N N (elt smI x.A N), mm N N (elt smI x.B N), mk N (vec smI x.X))) (by subst hN'; exact small_ops hd hn (by omega)) ?_)
  refine bT (sample_mm N6 _ (fun a _ c _ => eA a c) t ht hk) (bT (pointBox_eq N1 _ (fun i _ => eX i) s hs hk) ?_)
  obtain ⟨M, hMM, hM, hMb⟩ : ∃ M : Nat → Nat → Int, (fun a c => ptI (elt smI x.A N a c) (frac t N a c)) = M ∧ (∀ a c, (elt smI x.A N a c).Lo ≤ M a c ∧ M a c ≤ (elt smI x.A N a c).Hi) ∧ ∀ a c, -16777216 < M a c ∧ M a c < 16777216 := by
    refine ⟨_, rfl, fun a c => ptI_mem (eA a c) (frac_b ht _ _ _), fun a c => ?_⟩
    have h1 := ptI_mem (eA a c) (frac_b ht N a c)
    have h2 := eA a c
    unfold Sm at h2
    show _ < ptI _ _ ∧ ptI _ _ < _
    omega
  obtain ⟨p, hpp, hpb⟩ : ∃ p : Nat → Int, (fun i => ptI (vec smI x.X i) (s.getD i 0)) = p ∧ ∀ a, -16777216 < p a ∧ p a < 16777216 := by
    refine ⟨_, rfl, fun a => ?_⟩
    have h1 := ptI_mem (eX a) (getD_b hs a)
    have h2 := eX a
    unfold Sm at h2
    show _ < ptI _ _ ∧ ptI _ _ < _
    omega
  rw [hMM, hpp]
  have okA : OkM N N (elt smI x.A N) := fun a _ c _ => (eA a c).ok
  refine bT (inv_eq N0 N6 _ okA (by omega)) ?_
  cases hinv : invR N (elt smI x.A N) with
  | none => rfl
  | some g =>
    obtain ⟨og, ng, E, hE, hEA⟩ := inv_in _ okA (fun a c => (M a c : Rat)) (fun a _ c _ => .inr ⟨cle (hM a c).1, cle (hM a c).2⟩) hinv
    refine iF (by simp) ?_
    refine bT (r4valid N0 N6 _ og hk) (iF (by rw [mm_len, mm_len]; simp) ?_)
    have eM : (fun i j => nw (M i j) (M i j)) = fun i j => (⟨M i j, M i j⟩ : TInterval) := by
      funext i j; exact pt_nw' (by have := hMb i j; omega)
    have eP : (fun i => nw (p i) (p i)) = fun i => (⟨p i, p i⟩ : TInterval) := by
      funext i; exact pt_nw' (by have := hpb i; omega)
    have oM : ∀ i j, Ok (⟨M i j, M i j⟩ : TInterval) := fun i j => .inr (by have := hMb i j; unfold Fin; simp only; omega)
    have oP : ∀ i, Ok (⟨p i, p i⟩ : TInterval) := fun i => .inr (by have := hpb i; unfold Fin; simp only; omega)
    have hNn : N = n + 1 := hN'.symm
    refine bT (rfromN N1 _ hk) (bT (rpoint N1 _ hk) ?_)
    rw [eM, eP]
    refine bT (rapply N1 hNn _ _ (fun i _ j _ => oM i j) (fun i _ => oP i) hk (by omega)) ?_
    have oI : ∀ i, Ok (dotI (fun j => (⟨M i j, M i j⟩ : TInterval)) (fun j => ⟨p j, p j⟩) n) := fun i => dotI_ok (fun j _ => oM i j) (fun j _ => oP j)
    refine bT (rapply N1 hNn _ _ og (fun i _ => oI i) hk (by omega)) ?_
    -- the image and the way back, in exact numbers
    have hI : ∀ l, InQ (dotI (fun j => (⟨M l j, M l j⟩ : TInterval)) (fun j => ⟨p j, p j⟩) n) (sumQ (fun j => (M l j : Rat) * (p j : Rat) / 65536) N) := fun l => by
      rw [hNn]
      exact inq_dot (fun j _ => oM l j) (fun j _ => oP j) (fun j _ => inq_pt _) (fun j _ => inq_pt _)
    have hB : ∀ i, i < N → InQ (dotI (g i) (fun l => dotI (fun j => (⟨M l j, M l j⟩ : TInterval)) (fun j => ⟨p j, p j⟩) n) n) (p i : Rat) := fun i hi => by
      have h := inq_dot (n := n) (a := g i) (b := fun l => dotI (fun j => (⟨M l j, M l j⟩ : TInterval)) (fun j => ⟨p j, p j⟩) n) (r := E i) (s := fun l => sumQ (fun j => (M l j : Rat) * (p j : Rat) / 65536) N) (fun j hj => og i hi j (by omega)) (fun l _ => oI l) (fun j hj => hE i hi j (by omega)) (fun l _ => hI l)
      rw [← hNn] at h
      have e : sumQ (fun l => E i l * sumQ (fun j => (M l j : Rat) * (p j : Rat) / 65536) N / 65536) N = (p i : Rat) := by
        rw [sumQ_congr (g := fun l => sumQ (fun j => (p j : Rat) / (65536 * 65536) * (E i l * (M l j : Rat))) N) (fun l _ => by
          rw [show E i l * sumQ (fun j => (M l j : Rat) * (p j : Rat) / 65536) N / 65536 = E i l / 65536 * sumQ (fun j => (M l j : Rat) * (p j : Rat) / 65536) N by grind, ← sumQ_mul]
          exact sumQ_congr fun j _ => by grind), sumQ_comm]
        rw [sumQ_congr (g := fun j => if j = i then (p i : Rat) else 0) (fun j hj => by
          rw [sumQ_mul, hEA i hi j hj]
          by_cases e : i = j
          · rw [if_pos e, if_pos e.symm, e]; grind
          · rw [if_neg e, if_neg (fun h => e h.symm)]; grind), sumQ_upd (fun _ => 0) _ i hi, sumQ_zero (f := fun _ => 0) (fun _ _ => rfl)]
        grind
      rw [e] at h
      exact h
    refine bT (loop_ok (fun k y => armillarylaw04_MatrixInverseInclusion.l26 _ _ _ _ _ _ _ _ _ _ _ _ _ _ k y) N (fun k i hi => ?_) (fun k => ?_) hk) rfl
    · show armillarylaw04_MatrixInverseInclusion.l26 _ _ _ _ _ _ _ _ _ _ _ _ _ _ (k + 1) _ = _
      have hc : armillaryref02_Contains (dotI (g i) (fun l => dotI (fun j => (⟨M l j, M l j⟩ : TInterval)) (fun j => ⟨p j, p j⟩) n) n) (p i) = some true := by
        unfold armillaryref02_Contains
        rw [ref_isEnt, Option.bind_some]
        rcases hB i hi with h | h
        · simp [h]
        · have h1 := Rat.intCast_le_intCast.mp h.1
          have h2 := Rat.intCast_le_intCast.mp h.2
          simp [h1, h2]
      have he : armillaryref02_IsEntire (g i 0) = some false := by
        rw [ref_isEnt, decide_eq_false (ng i hi 0 N0)]
      rw [armillarylaw04_MatrixInverseInclusion.l26, mk_len, if_pos (dlt hi), mk_len, if_pos (rng hi), Int.toNat_natCast, mk_get _ hi, Option.bind_some, if_pos (rng hi), mk_get _ hi, Option.bind_some, hc, Option.bind_some, Option.bind_some, if_neg (by simp), if_pos (show (!true) = false from rfl), mm_len, if_pos (rng hi), mm_get _ hi, Option.bind_some, mk_len, if_pos ⟨Int.le_refl _, by omega⟩, show (0 : Int).toNat = 0 from rfl, mk_get _ N0, Option.bind_some, he, Option.bind_some, if_neg (by simp), wnext (by omega)]
    · show armillarylaw04_MatrixInverseInclusion.l26 _ _ _ _ _ _ _ _ _ _ _ _ _ _ (k + 1) _ = _
      rw [armillarylaw04_MatrixInverseInclusion.l26, mk_len, if_neg (by rw [dnl]; simp)]
theorem Pure_MatrixInverseInclusion : armillarylaw04_MatrixInverseInclusion.Pure :=
  fun _ _ _ _ _ _ _ _ _ h3 h4 h5 => ⟨4294967296 + 100, inv_law 4294967296 (Nat.le_refl _) _ _ _ h3 h4 h5⟩
end Go.Proofs.YtglcmhldonkfdaaDoor
