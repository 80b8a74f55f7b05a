/- MatrixInverseSingular: the plain law. Own work. -/
import Derived.Test.YtglcmhldonkfdaaDoorPlM6
import Derived.Test.YtglcmhldonkfdaaDoorPlM15
set_option maxRecDepth 10000
set_option linter.unusedVariables false
set_option linter.unusedSimpArgs false
namespace Go.Proofs.YtglcmhldonkfdaaDoor
open Go
theorem hul_eq (a b : TInterval) : armillaryref02_Hull a b = some (hulI a b) := rfl
theorem hul_ok {a b : TInterval} (ha : Ok a) (hb : Ok b) : Ok (hulI a b) := hull_ok ha hb
theorem pt_nw {t : Int} (h : -2147483648 < t ∧ t < 2147483648) : nw t t = ⟨t, t⟩ := nw_fin (by unfold Fin; simp only; omega)
theorem abs_eq {x : Int} (h : -536870912 ≤ x ∧ x ≤ 536870912) : armillarylaw04_abs x = some (mx x (-x)) := by
  unfold armillarylaw04_abs; rw [w64 (by omega) (by omega), Int.zero_sub]
theorem tmodN {x : Int} (h : 0 ≤ x ∧ x ≤ 255) (N : Nat) (h0 : 0 < N) : ∃ i : Nat, Int.tmod (w_i64 x) (N : Int) = (i : Int) ∧ i < N := by
  refine ⟨(x % N).toNat, ?_, ?_⟩
  · rw [w64 (by omega) (by omega), Int.tmod_eq_emod_of_nonneg h.1]
    have := Int.emod_nonneg x (show (N : Int) ≠ 0 by omega)
    omega
  · have := Int.emod_lt_of_pos x (show (0 : Int) < N by omega)
    have := Int.emod_nonneg x (show (N : Int) ≠ 0 by omega)
    omega
theorem hul_in {a : TInterval} (ha : Ok a) {t : Int} (ht : -16777216 < t ∧ t < 16777216) : InQ (hulI a ⟨t, t⟩) (t : Rat) :=
  .inr ⟨cle (mnl a.Lo t).2.1, cle (mxl a.Hi t).2.1⟩
theorem sin_law (m : Nat) (hm : 4294967296 ≤ m) (x : TOperands) (t : List Int) (w : TA2_Int) (hN : 0 ≤ x.N ∧ x.N ≤ 255) (ht : ∀ y ∈ t, 0 ≤ y ∧ y ≤ 65535) (h0 : 0 ≤ w.e0 ∧ w.e0 ≤ 255) (h1 : 0 ≤ w.e1 ∧ w.e1 ≤ 255) :
    armillarylaw04_MatrixInverseSingular (m + 100) x t w = some true := by
  obtain ⟨n, hd, hn⟩ := dim_eq hN
  unfold armillarylaw04_MatrixInverseSingular
  generalize hN' : n + 1 = N at *
  have N0 : 0 < N := by omega
  have N6 : N ≤ 6 := by omega
  have N1 : N < 1000000 := by omega
  have hk : N < m + 100 := by omega
  obtain ⟨i, hi, hiN⟩ := tmodN h0 N N0
  obtain ⟨q, hq, hqN⟩ := tmodN h1 N N0
  have eA : ∀ a c, Sm (elt smI x.A N a c) := fun a c => elt_sm _ _ _ _
  refine bT (sane m) (bT (v := (mm N N (elt smI x.A N), mm N N (elt smI x.B N), mk N (vec smI x.X))) (by subst hN'; exact small_ops hd hn (by omega)) ?_)
  rw [mm_len, if_pos (by omega), if_pos (by omega)]
  refine bT (sample_mm N6 _ (fun a _ c _ => eA a c) t ht hk) ?_
  -- the numbers
  obtain ⟨M, hMM, hM, hMb⟩ : ∃ M : Nat → Nat → Int, (fun a c => ptI (elt smI x.A N a c) (frac t N a c)) = M ∧ (∀ a c, (elt smI x.A N a c).Lo ≤ M a c ∧ M a c ≤ (elt smI x.A N a c).Hi) ∧ ∀ a c, -16777216 < M a c ∧ M a c < 16777216 := by
    refine ⟨_, rfl, fun a c => ptI_mem (eA a c) (frac_b ht _ _ _), fun a c => ?_⟩
    have h1 := ptI_mem (eA a c) (frac_b ht N a c)
    have h2 := eA a c
    unfold Sm at h2
    show _ < ptI _ _ ∧ ptI _ _ < _
    omega
  rw [hMM]
  clear hMM
  generalize hF : elt smI x.A N = f at *
  -- the targets
  obtain ⟨tg, htg⟩ : ∃ tg : Nat → Int, tg = fun c => if i = q then 0 else M q c := ⟨_, rfl⟩
  have htb : ∀ c, -16777216 < tg c ∧ tg c < 16777216 := fun c => by
    rw [htg]; show _ < (if i = q then 0 else M q c) ∧ (if i = q then 0 else M q c) < _
    split
    · omega
    · exact hMb q c
  refine bT (v := mm N N fun a c => if a = i then hulI (f a c) ⟨tg c, tg c⟩ else f a c) ?_ ?_
  · refine loop_0 (fun k s y => armillarylaw04_MatrixInverseSingular.l84 _ _ _ _ _ _ _ k s y) N (fun j => mm N N fun a c => if a = i ∧ c < j then hulI (f a c) ⟨tg c, tg c⟩ else f a c) _ (mm_congr fun a _ c _ => by rw [if_neg (by omega)]) (fun k j hj => ?_) (fun k => ?_) hk
    · show armillarylaw04_MatrixInverseSingular.l84 _ _ _ _ _ _ _ (k + 1) (mm N N fun a c => if a = i ∧ c < j then hulI (f a c) ⟨tg c, tg c⟩ else f a c) _ = _
      rw [armillarylaw04_MatrixInverseSingular.l84, mm_len, if_pos (dlt hj), hi, hq, Option.bind_some]
      refine bT (v := tg j) ?_ ?_
      · by_cases e : i = q
        · rw [if_neg (by simp [e]), htg]
          show _ = some (if i = q then 0 else M q j)
          rw [if_pos e]
        · rw [if_pos (by simp; omega), mm_len, if_pos (rng hqN), Int.toNat_natCast, mm_get _ hqN, Option.bind_some, mk_len, if_pos (rng hj), Int.toNat_natCast, mk_get _ hj, Option.bind_some, htg]
          show _ = some (if i = q then 0 else M q j)
          rw [if_neg e]
      · rw [mm_len, if_pos (rng hiN), Int.toNat_natCast, mm_get _ hiN, Option.bind_some, if_pos (rng hiN), Option.bind_some, mk_len, if_pos (rng hj), Int.toNat_natCast, mk_get _ hj, Option.bind_some, pt_eq, Option.bind_some, pt_nw (by have := htb j; omega), hul_eq, Option.bind_some, if_pos (rng hj), Option.bind_some, wnext (by omega), mm_set N N (fun a c => if a = i ∧ c < j then hulI (f a c) ⟨tg c, tg c⟩ else f a c) i j]
        congr 1
        refine mm_congr fun a ha c hc => ?_
        by_cases e : a = i ∧ c = j
        · rw [if_pos e, if_neg (by omega), if_pos (by omega), e.1, e.2]
        · rw [if_neg e]
          by_cases e2 : a = i ∧ c < j
          · rw [if_pos e2, if_pos (by omega)]
          · rw [if_neg e2, if_neg (by omega)]
    · show armillarylaw04_MatrixInverseSingular.l84 _ _ _ _ _ _ _ (k + 1) (mm N N fun a c => if a = i ∧ c < N then hulI (f a c) ⟨tg c, tg c⟩ else f a c) _ = _
      rw [armillarylaw04_MatrixInverseSingular.l84, mm_len, if_neg (by rw [dnl]; simp)]
      refine congrArg some (mm_congr fun a ha c hc => ?_)
      by_cases e : a = i
      · rw [if_pos ⟨e, hc⟩, if_pos e]
      · rw [if_neg (fun h => e h.1), if_neg e]
  have ok1 : OkM N N fun a c => if a = i then hulI (f a c) ⟨tg c, tg c⟩ else f a c := fun a _ c _ => by
    show Ok (if a = i then hulI (f a c) ⟨tg c, tg c⟩ else f a c)
    have := htb c
    split
    · exact hul_ok (eA a c).ok (.inr (by unfold Fin; simp only; omega))
    · exact (eA a c).ok
  have none1 : invR N (fun a c => if a = i then hulI (f a c) ⟨tg c, tg c⟩ else f a c) = none := by
    refine sing_none _ ok1 (fun a c => if a = i then (tg c : Rat) else (M a c : Rat)) (fun a ha c hc => ?_) (fun a => if a = i then 1 else if a = q then -1 else 0) ⟨i, hiN, by show (if i = i then (1 : Rat) else _) ≠ 0; rw [if_pos rfl]; decide⟩ (fun j hj => ?_)
    · show InQ (if a = i then hulI (f a c) ⟨tg c, tg c⟩ else f a c) (if a = i then (tg c : Rat) else (M a c : Rat))
      by_cases e : a = i
      · rw [if_pos e, if_pos e]; exact hul_in (eA a c).ok (htb c)
      · rw [if_neg e, if_neg e]; exact .inr ⟨cle (hM a c).1, cle (hM a c).2⟩
    · by_cases e : i = q
      · have ht0 : tg j = 0 := by rw [htg]; exact if_pos e
        refine sumQ_zero fun a ha => ?_
        by_cases e2 : a = i
        · rw [if_pos e2, if_pos e2, ht0]; simp
        · rw [if_neg e2, if_neg (by omega)]; grind
      · have ht0 : tg j = M q j := by rw [htg]; exact if_neg e
        have s : ∀ a, (if a = i then (1 : Rat) else if a = q then -1 else 0) * (if a = i then (tg j : Rat) else (M a j : Rat)) = if a = i then (M q j : Rat) else if a = q then -(M q j : Rat) else 0 := fun a => by
          by_cases e2 : a = i
          · rw [if_pos e2, if_pos e2, if_pos e2, ht0]; grind
          · rw [if_neg e2, if_neg e2, if_neg e2]
            by_cases e3 : a = q
            · rw [if_pos e3, if_pos e3, e3]; grind
            · rw [if_neg e3, if_neg e3]; grind
        rw [sumQ_congr (fun a _ => s a), sumQ_upd (fun a => if a = q then -(M q j : Rat) else 0) _ i hiN, sumQ_upd (fun _ => 0) _ q hqN, sumQ_zero (f := fun _ => 0) (fun _ _ => rfl)]
        show (0 - 0 + -(M q j : Rat)) - (if i = q then -(M q j : Rat) else 0) + (M q j : Rat) = 0
        rw [if_neg e]; grind
  refine bT (inv_eq N0 N6 _ ok1 (by omega)) ?_
  rw [none1]
  refine iF (by simp) ?_
  -- the diagonal matrix
  refine bT (rident N0 N6 hk) ?_
  obtain ⟨dd, hdd⟩ : ∃ dd : Nat → Int, dd = fun a => mx (M a a) (-(M a a)) + 4 := ⟨_, rfl⟩
  have hdb : ∀ a, 4 ≤ dd a ∧ dd a < 2147483648 := fun a => by
    have h := hMb a a
    have h2 := mxl (M a a) (-(M a a))
    rw [hdd]; simp only; omega
  have habs : ∀ a, armillarylaw04_abs (M a a) = some (mx (M a a) (-(M a a))) := fun a => abs_eq (by have := hMb a a; omega)
  have hw : ∀ a, w_i64 (mx (M a a) (-(M a a)) + 4) = dd a := fun a => by
    have h := hdb a
    rw [hdd] at h ⊢
    simp only at h
    exact w64 (by omega) (by omega)
  have hp : ∀ a, armillaryref02_Point (dd a) = some ⟨dd a, dd a⟩ := fun a => by rw [pt_eq, pt_nw (by have := hdb a; omega)]
  refine bT (v := mm N N (dgM dd)) ?_ ?_
  · refine loop_0 (fun k s y => armillarylaw04_MatrixInverseSingular.l61 _ _ _ _ _ _ _ _ _ _ k s y) N (fun j => mm N N fun a c => if a < j then dgM dd a c else idn a c) _ (mm_congr fun a _ c _ => by rw [if_neg (by omega)]) (fun k j hj => ?_) (fun k => ?_) hk
    · show armillarylaw04_MatrixInverseSingular.l61 _ _ _ _ _ _ _ _ _ _ (k + 1) (mm N N fun a c => if a < j then dgM dd a c else idn a c) _ = _
      rw [armillarylaw04_MatrixInverseSingular.l61, mm_len, if_pos (dlt hj), mm_len, if_pos (rng hj), Int.toNat_natCast, mm_get _ hj, Option.bind_some, mm_len, if_pos (rng hj), mm_get _ hj, Option.bind_some, mk_len, if_pos (rng hj), mk_get _ hj, Option.bind_some, habs, Option.bind_some, hw, hp, Option.bind_some, mk_len, if_pos (rng hj), mk_get _ hj, Option.bind_some, wnext (by omega), mm_set N N (fun a c => if a < j then dgM dd a c else idn a c) j j]
      congr 1
      refine mm_congr fun a ha c hc => ?_
      by_cases e : a = j ∧ c = j
      · rw [if_pos e, if_pos (by omega), e.1, e.2, dgM, if_pos rfl]
      · rw [if_neg e]
        by_cases e2 : a < j
        · rw [if_pos e2, if_pos (by omega)]
        · rw [if_neg e2]
          by_cases e3 : a < j + 1
          · rw [if_pos e3, dgM, if_neg (by omega), idn_ne (by omega)]
          · rw [if_neg e3]
    · show armillarylaw04_MatrixInverseSingular.l61 _ _ _ _ _ _ _ _ _ _ (k + 1) (mm N N fun a c => if a < N then dgM dd a c else idn a c) _ = _
      rw [armillarylaw04_MatrixInverseSingular.l61, mm_len, if_neg (by rw [dnl]; simp)]
      exact congrArg some (mm_congr fun a ha c hc => if_pos ha)
  have ok2 : OkM N N (dgM dd) := fun a _ c _ => by
    have := hdb a
    unfold dgM
    split
    · exact .inr (by unfold Fin; simp only; omega)
    · exact .inr zr0_fin
  refine bT (inv_eq N0 N6 _ ok2 (by omega)) ?_
  rw [dg_inv hdb]
  refine iF (by rw [mm_len]; simp) ?_
  refine bT (loop_ok (fun k y => armillarylaw04_MatrixInverseSingular.l30 _ _ _ _ _ _ _ _ _ _ _ _ k y) N (fun k j hj => ?_) (fun k => ?_) hk) rfl
  · show armillarylaw04_MatrixInverseSingular.l30 _ _ _ _ _ _ _ _ _ _ _ _ (k + 1) _ = _
    have h1 : (⟨65536, 65536⟩ : TInterval) = nw 65536 65536 := rfl
    have hdiv : armillaryref02_Div (m + 100) ⟨65536, 65536⟩ ⟨dd j, dd j⟩ = some (idiv ⟨65536, 65536⟩ ⟨dd j, dd j⟩) := by
      have o1 : Ok ⟨65536, 65536⟩ := .inr (by unfold Fin; simp)
      have o2 : Ok ⟨dd j, dd j⟩ := .inr (by have := hdb j; unfold Fin; simp only; omega)
      rw [rdiv_eq (by omega) o1 o2, idiv_eq o1 o2]
    have hent : dgG N dd N j (N + j) = idiv ⟨65536, 65536⟩ ⟨dd j, dd j⟩ := by
      unfold dgG; rw [if_pos hj, if_neg (by omega), if_pos (by omega)]
    rw [armillarylaw04_MatrixInverseSingular.l30, mm_len, if_pos (dlt hj), mm_len, if_pos (rng hj), Int.toNat_natCast, mm_get _ hj, Option.bind_some, mk_len, Option.bind_some, if_neg (by simp), if_pos (by simp), if_pos (rng hj), Option.bind_some, mk_len, if_pos (rng hj), mk_get _ hj, Option.bind_some, pt_eq, ← h1, Option.bind_some, mm_len, if_pos (rng hj), mm_get _ hj, Option.bind_some, mk_len, if_pos (rng hj), mk_get _ hj, Option.bind_some, habs, Option.bind_some, hw, hp, Option.bind_some, hdiv, Option.bind_some, hent, beqI, decide_eq_true rfl, if_neg (by simp), wnext (by omega)]
  · show armillarylaw04_MatrixInverseSingular.l30 _ _ _ _ _ _ _ _ _ _ _ _ (k + 1) _ = _
    rw [armillarylaw04_MatrixInverseSingular.l30, mm_len, if_neg (by rw [dnl]; simp)]
theorem Pure_MatrixInverseSingular : armillarylaw04_MatrixInverseSingular.Pure :=
  fun _ _ _ _ _ _ _ _ _ _ h3 h4 h5 h6 => ⟨4294967296 + 100, sin_law 4294967296 (Nat.le_refl _) _ _ _ h3 h4 h5 h6⟩
end Go.Proofs.YtglcmhldonkfdaaDoor
