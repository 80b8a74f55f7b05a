/- MatrixIsotonicity: the plain law. Own work. -/
import Derived.Test.YtglcmhldonkfdaaDoorPlM6
import Derived.Test.YtglcmhldonkfdaaDoorPlM8
set_option maxRecDepth 10000
set_option linter.unusedVariables false
set_option linter.unusedSimpArgs false
namespace Go.Proofs.YtglcmhldonkfdaaDoor
open Go
theorem le_of_sub {a b : TInterval} (h : interval_Subset a b = some true) : Le a b := by
  rw [subset_eq] at h
  have := of_decide_eq_true (Option.some.inj h)
  exact this
theorem imono_add {a b a' b' : TInterval} (ha : Ok a) (hb : Ok b) (ha' : Ok a') (hb' : Ok b') (h1 : Le a a') (h2 : Le b b') : Le (iadd a b) (iadd a' b') := by
  obtain ⟨r, r', e, e', h⟩ := mono_add ha hb ha' hb' h1 h2
  rw [iadd, iadd, e, e']; exact le_of_sub h
theorem imono_mul {a b a' b' : TInterval} (ha : Ok a) (hb : Ok b) (ha' : Ok a') (hb' : Ok b') (h1 : Le a a') (h2 : Le b b') : Le (imul a b) (imul a' b') := by
  obtain ⟨r, r', e, e', h⟩ := mono_mul ha hb ha' hb' h1 h2
  rw [imul, imul, e, e']; exact le_of_sub h
theorem dot_mono {a b a' b' : Nat → TInterval} : ∀ {n : Nat}, (∀ i, Ok (a i)) → (∀ i, Ok (b i)) → (∀ i, Ok (a' i)) → (∀ i, Ok (b' i)) → (∀ i, i ≤ n → Le (a i) (a' i)) → (∀ i, i ≤ n → Le (b i) (b' i)) → Le (dotI a b n) (dotI a' b' n)
  | 0, ha, hb, ha', hb', h1, h2 => imono_mul (ha 0) (hb 0) (ha' 0) (hb' 0) (h1 0 (Nat.le_refl _)) (h2 0 (Nat.le_refl _))
  | n + 1, ha, hb, ha', hb', h1, h2 => imono_add (dotI_ok (fun i _ => ha i) (fun i _ => hb i)) (imul_ok (ha _) (hb _)) (dotI_ok (fun i _ => ha' i) (fun i _ => hb' i)) (imul_ok (ha' _) (hb' _)) (dot_mono ha hb ha' hb' (fun i h => h1 i (by omega)) (fun i h => h2 i (by omega))) (imono_mul (ha _) (hb _) (ha' _) (hb' _) (h1 _ (Nat.le_refl _)) (h2 _ (Nat.le_refl _)))
def hullI (a b : TInterval) : TInterval := ⟨mn a.Lo b.Lo, mx a.Hi b.Hi⟩
theorem hullI_ok {a b : TInterval} (ha : Ok a) (hb : Ok b) : Ok (hullI a b) := hull_ok ha hb
theorem hullI_le (a b : TInterval) : Le a (hullI a b) := ⟨(mnl a.Lo b.Lo).1, (mxl a.Hi b.Hi).1⟩
theorem rhull {n : Nat} (hn : n < 1000000) (f g : Nat → TInterval) {k : Nat} (hk : n < k) : armillaryref03_Hull k (mk n f) (mk n g) = some (mk n (fun i => hullI (f i) (g i))) := by
  unfold armillaryref03_Hull
  refine bT (loop_0 (fun m s x => armillaryref03_Hull.l9 k (mk n f) (mk n g) m s x) n (fun j => mk j fun i => hullI (f i) (g i)) _ rfl (fun m i hi => ?_) (fun m => ?_) hk) rfl
  · show armillaryref03_Hull.l9 _ _ _ (m + 1) _ _ = _
    rw [armillaryref03_Hull.l9, mk_len, if_pos (dlt hi), if_pos (rng hi), Int.toNat_natCast, mk_get _ hi, Option.bind_some, mk_len, if_pos (rng hi), mk_get _ hi, Option.bind_some]
    refine bT rfl ?_
    rw [mk_len, if_pos (by omega), wnext (by omega), mk_succ]
    rfl
  · show armillaryref03_Hull.l9 _ _ _ (m + 1) _ _ = _
    rw [armillaryref03_Hull.l9, mk_len, if_neg (by rw [dnl]; simp)]
theorem rsubset {n : Nat} (hn : n < 1000000) (f g : Nat → TInterval) (h : ∀ i, i < n → Le (f i) (g i)) {k : Nat} (hk : n < k) : armillaryref03_Subset k (mk n f) (mk n g) = some true := by
  unfold armillaryref03_Subset
  refine bT (loop_ok (fun m x => armillaryref03_Subset.l6 k (mk n f) (mk n g) m x) n (fun m i hi => ?_) (fun m => ?_) hk) rfl
  · show armillaryref03_Subset.l6 _ _ _ (m + 1) _ = _
    rw [armillaryref03_Subset.l6, mk_len, if_pos (dlt hi), if_pos (rng hi), Int.toNat_natCast, mk_get _ hi, Option.bind_some, mk_len, if_pos (rng hi), mk_get _ hi, Option.bind_some, show armillaryref02_Subset (f i) (g i) = some true from by unfold armillaryref02_Subset; rw [decide_eq_true (h i hi).1, decide_eq_true (h i hi).2]; rfl, Option.bind_some, if_neg (by simp), wnext (by omega)]
  · show armillaryref03_Subset.l6 _ _ _ (m + 1) _ = _
    rw [armillaryref03_Subset.l6, mk_len, if_neg (by rw [dnl]; simp)]
theorem iso_law (m : Nat) (x y : TOperands) (hN : 0 ≤ x.N ∧ x.N ≤ 255) : armillarylaw04_MatrixIsotonicity (m + 100) x y = some true := by
  obtain ⟨n, hd, hn⟩ := dim_eq hN
  unfold armillarylaw04_MatrixIsotonicity
  have hn6 : n + 1 ≤ 6 := by omega
  have hn1 : n + 1 < 1000000 := by omega
  have hk : n + 1 < m + 100 := by omega
  have oA : ∀ i j, Ok (elt mdI x.A (n + 1) i j) := fun i j => elt_ok _ _ _ _
  have oB : ∀ i j, Ok (elt mdI x.B (n + 1) i j) := fun i j => elt_ok _ _ _ _
  have oX : ∀ i, Ok (vec mdI x.X i) := fun i => vec_ok _ _
  have oA' : ∀ i j, Ok (elt mdI y.A (n + 1) i j) := fun i j => elt_ok _ _ _ _
  have oB' : ∀ i j, Ok (elt mdI y.B (n + 1) i j) := fun i j => elt_ok _ _ _ _
  have oX' : ∀ i, Ok (vec mdI y.X i) := fun i => vec_ok _ _
  refine bT (sane m) (bT (made_ops hd hn (by omega)) (bT (made_ops (x := ⟨y.A, y.B, y.X, x.N⟩) hd hn (by omega)) ?_))
  refine bT (v := (mm (n + 1) (n + 1) fun i j => hullI (elt mdI x.A (n + 1) i j) (elt mdI y.A (n + 1) i j), mm (n + 1) (n + 1) fun i j => hullI (elt mdI x.B (n + 1) i j) (elt mdI y.B (n + 1) i j))) ?_ ?_
  · refine loop_0 (fun k (s : List (List TInterval) × List (List TInterval)) z => armillarylaw04_MatrixIsotonicity.l57 _ _ _ _ _ _ k s.1 s.2 z) (n + 1) (fun i => (mm (n + 1) (n + 1) fun a j => if a < i then hullI (elt mdI x.A (n + 1) a j) (elt mdI y.A (n + 1) a j) else elt mdI y.A (n + 1) a j, mm (n + 1) (n + 1) fun a j => if a < i then hullI (elt mdI x.B (n + 1) a j) (elt mdI y.B (n + 1) a j) else elt mdI y.B (n + 1) a j)) _ (s := (mm (n + 1) (n + 1) (elt mdI y.A (n + 1)), mm (n + 1) (n + 1) (elt mdI y.B (n + 1)))) ?_ (fun k i hi => ?_) (fun k => ?_) hk
    · congr 1 <;> exact mm_congr fun i _ j _ => by rw [if_neg (by omega)]
    · show armillarylaw04_MatrixIsotonicity.l57 _ _ _ _ _ _ (k + 1) (mm _ _ _) (mm _ _ _) _ = _
      have st : ∀ (f g : Nat → Nat → TInterval), (mm (n + 1) (n + 1) fun a j => if a < i then hullI (f a j) (g a j) else g a j).set i (mk (n + 1) fun j => hullI (f i j) (g i j)) = mm (n + 1) (n + 1) fun a j => if a < i + 1 then hullI (f a j) (g a j) else g a j := fun f g => by
        unfold mm
        rw [mk_set]
        refine mk_congr fun a ha => ?_
        by_cases e : a = i
        · subst e; rw [if_pos rfl]; exact mk_congr fun j _ => (if_pos (by omega)).symm
        · rw [if_neg e]
          refine mk_congr fun j _ => ?_
          show (if a < i then hullI (f a j) (g a j) else g a j) = if a < i + 1 then hullI (f a j) (g a j) else g a j
          by_cases h : a < i
          · rw [if_pos h, if_pos (by omega)]
          · rw [if_neg h, if_neg (by omega)]
      have eg : ∀ (f g : Nat → Nat → TInterval), (mm (n + 1) (n + 1) fun a j => if a < i then hullI (f a j) (g a j) else g a j)[i]? = some (mk (n + 1) (g i)) := fun f g => by
        rw [mm_get _ hi]; congr 1; exact mk_congr fun j _ => by rw [if_neg (by omega)]
      rw [armillarylaw04_MatrixIsotonicity.l57]
      simp only [mm_len, dlt hi, decide_true, if_true, rng hi, and_self, Int.toNat_natCast, mm_get _ hi, Option.bind_some]
      rw [show (mk (n + 1) fun j => if i < i then hullI (elt mdI x.A (n + 1) i j) (elt mdI y.A (n + 1) i j) else elt mdI y.A (n + 1) i j) = mk (n + 1) (elt mdI y.A (n + 1) i) from mk_congr fun j _ => by rw [if_neg (by omega)], show (mk (n + 1) fun j => if i < i then hullI (elt mdI x.B (n + 1) i j) (elt mdI y.B (n + 1) i j) else elt mdI y.B (n + 1) i j) = mk (n + 1) (elt mdI y.B (n + 1) i) from mk_congr fun j _ => by rw [if_neg (by omega)]]
      rw [rhull hn1 _ _ hk, Option.bind_some, rhull hn1 _ _ hk, Option.bind_some, st, st, wnext (by omega)]
    · show armillarylaw04_MatrixIsotonicity.l57 _ _ _ _ _ _ (k + 1) (mm _ _ _) (mm _ _ _) _ = _
      rw [armillarylaw04_MatrixIsotonicity.l57, mm_len, if_neg (by rw [dnl]; simp)]
      refine congrArg some (Prod.ext ?_ ?_)
      · exact mm_congr fun i hi j _ => by rw [if_pos hi]
      · exact mm_congr fun i hi j _ => by rw [if_pos hi]
  have oD : ∀ i j, Ok (hullI (elt mdI x.A (n + 1) i j) (elt mdI y.A (n + 1) i j)) := fun i j => hullI_ok (oA i j) (oA' i j)
  have oE : ∀ i j, Ok (hullI (elt mdI x.B (n + 1) i j) (elt mdI y.B (n + 1) i j)) := fun i j => hullI_ok (oB i j) (oB' i j)
  have oF : ∀ i, Ok (hullI (vec mdI x.X i) (vec mdI y.X i)) := fun i => hullI_ok (oX i) (oX' i)
  refine bT (rhull hn1 _ _ hk) (bT (mul_mm hn1 rfl _ _ (fun i _ j _ => oA i j) (fun i _ j _ => oB i j) hk) (bT (mul_mm hn1 rfl _ _ (fun i _ j _ => oD i j) (fun i _ j _ => oE i j) hk) ?_))
  rw [mm_len, mm_len, mm_len, if_neg (by simp)]
  refine bT (loop_ok (fun k y => armillarylaw04_MatrixIsotonicity.l28 _ _ _ _ _ _ _ _ _ _ k y) (n + 1) (fun k i hi => ?_) (fun k => ?_) hk) ?_
  · show armillarylaw04_MatrixIsotonicity.l28 _ _ _ _ _ _ _ _ _ _ (k + 1) _ = _
    rw [armillarylaw04_MatrixIsotonicity.l28]
    simp only [mm_len, mk_len, dlt hi, decide_true, if_true, rng hi, and_self, Int.toNat_natCast, mm_get _ hi, Option.bind_some, bne_self_eq_false, Bool.false_eq_true, if_false]
    rw [rsubset hn1 _ _ (fun j _ => dot_mono (oA i) (fun k => oB k j) (oD i) (fun k => oE k j) (fun k _ => hullI_le _ _) (fun k _ => hullI_le _ _)) hk, Option.bind_some, if_neg (by simp), wnext (by omega)]
  · show armillarylaw04_MatrixIsotonicity.l28 _ _ _ _ _ _ _ _ _ _ (k + 1) _ = _
    rw [armillarylaw04_MatrixIsotonicity.l28, mm_len, if_neg (by rw [dnl]; simp)]
  show Option.bind _ _ = _
  refine bT (apply_eq hn1 rfl _ _ (fun i _ j _ => oA i j) (fun i _ => oX i) hk) (bT (apply_eq hn1 rfl _ _ (fun i _ j _ => oD i j) (fun i _ => oF i) hk) ?_)
  rw [mk_len, mk_len, Option.bind_some]
  refine gT (by simp) (rsubset hn1 _ _ (fun i _ => dot_mono (oA i) oX (oD i) oF (fun k _ => hullI_le _ _) (fun k _ => hullI_le _ _)) hk) ?_
  simp
theorem Pure_MatrixIsotonicity : armillarylaw04_MatrixIsotonicity.Pure :=
  fun _ _ _ _ _ _ _ _ _ _ _ h3 _ _ _ _ => ⟨1 + 100, iso_law 1 _ _ h3⟩
end Go.Proofs.YtglcmhldonkfdaaDoor
