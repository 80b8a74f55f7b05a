/- MatrixTransposition: the plain law. Own work. -/
import Derived.Test.YtglcmhldonkfdaaDoorPlM6
import Derived.Test.YtglcmhldonkfdaaDoorPlM8
set_option maxRecDepth 10000
set_option linter.unusedVariables false
set_option linter.unusedSimpArgs false
namespace Go.Proofs.YtglcmhldonkfdaaDoor
open Go
theorem imul_comm {a b : TInterval} (ha : Ok a) (hb : Ok b) : imul a b = imul b a := by rw [imul, imul, mul_comm' ha hb]
theorem dotI_comm {a b : Nat → TInterval} : ∀ {n : Nat}, (∀ i, i ≤ n → Ok (a i)) → (∀ i, i ≤ n → Ok (b i)) → dotI a b n = dotI b a n
  | 0, ha, hb => imul_comm (ha 0 (Nat.le_refl _)) (hb 0 (Nat.le_refl _))
  | n + 1, ha, hb => by rw [dotI, dotI, dotI_comm (fun i h => ha i (by omega)) (fun i h => hb i (by omega)), imul_comm (ha _ (Nat.le_refl _)) (hb _ (Nat.le_refl _))]
def Zr : TInterval := ⟨0, 0⟩
theorem zr_sm : Sm Zr := by unfold Sm Zr; simp
theorem imul_one {a : TInterval} (ha : Ok a) : imul a ⟨65536, 65536⟩ = a := by rw [imul, mul_one' ha]; rfl
theorem iadd_zr {a : TInterval} (ha : Ok a) : iadd a Zr = a := by
  have h := add_zero' ha
  rw [iadd, show Zr = ⟨0, 0⟩ from rfl, h]; rfl
theorem zr_iadd {a : TInterval} (ha : Ok a) : iadd Zr a = a := by
  have h := add_comm' zr_sm.ok ha
  rw [iadd, h]; exact iadd_zr ha
theorem imul_zr {a : TInterval} (fa : Fin a) : imul a Zr = Zr := by
  obtain ⟨l, h, e, H⟩ := mul_fin fa zr_sm.fin
  have h1 := H.isl
  have h2 := H.ish
  have : l = 0 := by simpa [Zr] using h1
  have : h = 0 := by simpa [Zr] using h2
  subst l h
  rw [imul, e]; rfl
theorem dot_pick {c : Nat → TInterval} (i : Nat) : ∀ {n : Nat}, (∀ k, k ≤ n → Sm (c k)) → dotI c (idn i) n = if i ≤ n then c i else Zr
  | 0, hc => by
    rw [dotI, idn]
    by_cases h : i = 0
    · subst h; rw [if_pos rfl, if_pos (Nat.le_refl _), imul_one (hc 0 (Nat.le_refl _)).ok]
    · rw [if_neg h, if_neg (by omega)]; exact imul_zr (hc 0 (Nat.le_refl _)).fin
  | n + 1, hc => by
    rw [dotI, dot_pick i (fun k h => hc k (by omega)), idn]
    have h1 := hc (n + 1) (Nat.le_refl _)
    by_cases h : i = n + 1
    · subst h
      rw [if_neg (by omega), if_pos rfl, if_pos (Nat.le_refl _), imul_one h1.ok, zr_iadd h1.ok]
    · rw [if_neg h, show (⟨0, 0⟩ : TInterval) = Zr from rfl, imul_zr h1.fin]
      by_cases h2 : i ≤ n
      · rw [if_pos h2, if_pos (by omega), iadd_zr (hc i (by omega)).ok]
      · rw [if_neg h2, if_neg (by omega), iadd_zr zr_sm.ok]
theorem idn_comm (i j : Nat) : idn i j = idn j i := by
  unfold idn
  by_cases h : i = j
  · rw [if_pos h, if_pos h.symm]
  · rw [if_neg h, if_neg (fun e => h e.symm)]
theorem tra_law (m : Nat) (x : TOperands) (hN : 0 ≤ x.N ∧ x.N ≤ 255) : armillarylaw04_MatrixTransposition (m + 100) x = some true := by
  obtain ⟨n, hd, hn⟩ := dim_eq hN
  unfold armillarylaw04_MatrixTransposition
  have oA : ∀ i j, Ok (elt mdI x.A (n + 1) i j) := fun i j => elt_ok _ _ _ _
  have oB : ∀ i j, Ok (elt mdI x.B (n + 1) i j) := fun i j => elt_ok _ _ _ _
  have eA : ∀ i j, Sm (elt smI x.A (n + 1) i j) := fun i j => elt_sm _ _ _ _
  have eX : ∀ i, Sm (vec smI x.X i) := fun i => vec_sm _ _
  have hn6 : n + 1 ≤ 6 := by omega
  have hn1 : n + 1 < 1000000 := by omega
  have hk : n + 1 < m + 100 := by omega
  refine bT (sane m) (bT (made_ops hd hn (by omega)) (bT (small_ops hd hn (by omega)) ?_))
  rw [mm_len]
  refine bT (ident_eq (by omega) hn6 hk) (bT (transp_eq hn1 _ hk) (bT (transp_eq hn1 _ hk) (bT (r4same hn1 hn1 _ _ (fun _ _ _ _ => rfl) hk hk) (bT rfl (iT rfl ?_)))))
  refine bT (mul_mm hn1 rfl _ _ (fun i _ j _ => oA i j) (fun i _ j _ => oB i j) hk) (bT (transp_eq hn1 _ hk) (bT (transp_eq hn1 _ hk) (bT (transp_eq hn1 _ hk) (bT (mul_mm hn1 rfl _ _ (fun i _ j _ => oB j i) (fun i _ j _ => oA j i) hk) (bT (r4same hn1 hn1 _ _ (fun i _ j _ => ?_) hk hk) (bT rfl (iT rfl ?_)))))))
  · exact dotI_comm (fun k _ => oA j k) (fun k _ => oB k i)
  refine bT (mul_mm hn1 rfl _ _ (fun i _ j _ => (idn_sm i j).ok) (fun i _ j _ => (eA i j).ok) hk) (bT (r4same hn1 hn1 _ _ (fun i hi j _ => ?_) hk hk) (bT rfl (iT rfl ?_)))
  · show dotI (idn i) (fun k => elt smI x.A (n + 1) k j) n = _
    rw [dotI_comm (fun k _ => (idn_sm i k).ok) (fun k _ => (eA k j).ok), dot_pick i (fun k _ => eA k j), if_pos (by omega)]
  refine bT (mul_mm hn1 rfl _ _ (fun i _ j _ => (eA i j).ok) (fun i _ j _ => (idn_sm i j).ok) hk) (bT (r4same hn1 hn1 _ _ (fun i hi j hj => ?_) hk hk) (bT rfl (iT rfl ?_)))
  · show dotI (elt smI x.A (n + 1) i) (fun k => idn k j) n = _
    rw [show (fun k => idn k j) = idn j from funext fun k => idn_comm k j, dot_pick j (fun k _ => eA i k), if_pos (by omega)]
  refine bT (apply_eq hn1 rfl _ _ (fun i _ j _ => (idn_sm i j).ok) (fun i _ => (eX i).ok) hk) (bT (r3same hn1 _ _ (fun i hi => ?_) hk) (bT rfl (iT rfl ?_)))
  · show dotI (idn i) (vec smI x.X) n = _
    rw [dotI_comm (fun k _ => (idn_sm i k).ok) (fun k _ => (eX k).ok), dot_pick i (fun k _ => eX k), if_pos (by omega)]
  exact bT (transp_eq hn1 _ hk) (bT (r4same hn1 hn1 _ _ (fun i _ j _ => idn_comm j i) hk hk) rfl)
theorem Pure_MatrixTransposition : armillarylaw04_MatrixTransposition.Pure :=
  fun _ _ _ _ _ _ _ h3 => ⟨1 + 100, tra_law 1 _ h3⟩
end Go.Proofs.YtglcmhldonkfdaaDoor
