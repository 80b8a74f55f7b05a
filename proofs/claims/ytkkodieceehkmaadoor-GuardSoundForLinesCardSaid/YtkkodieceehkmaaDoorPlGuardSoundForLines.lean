/- GuardSoundForLines: the plain law. Own work. -/
import Derived.Test.YtkkodieceehkmaaDoorPlGuardDirections
set_option maxRecDepth 100000
set_option linter.unusedVariables false
set_option linter.unusedSimpArgs false
namespace Go.Proofs.YtkkodieceehkmaaDoor
open Go
def crB (a b d : Int) : Bool := (((decide (d ≥ 0)) && (decide (a < 0))) && (decide (b ≥ 0))) || (((decide (d ≤ 0)) && (decide (a > 0))) && (decide (b ≤ 0)))
theorem crosses_eq (a b d : Int) : armillarylaw15_crosses a b d = some (crB a b d) := rfl
theorem crB_iff (a b d : Int) : crB a b d = true ↔ (0 ≤ d ∧ a < 0 ∧ 0 ≤ b) ∨ (d ≤ 0 ∧ 0 < a ∧ b ≤ 0) := by
  unfold crB
  simp only [Bool.or_eq_true, Bool.and_eq_true, decide_eq_true_eq, and_assoc, ge_iff_le, gt_iff_lt]
/-- A point between two numbers. -/
theorem conv_le {A E M e : Int} (he : 0 ≤ e ∧ e ≤ 65535) (h1 : A ≤ M) (h2 : E ≤ M) : A * 65535 + (E - A) * e ≤ M * 65535 := by
  have k1 : A * (65535 - e) ≤ M * (65535 - e) := Int.mul_le_mul_of_nonneg_right h1 (by omega)
  have k2 : E * e ≤ M * e := Int.mul_le_mul_of_nonneg_right h2 he.1
  rw [Int.mul_sub, Int.mul_sub] at k1
  rw [Int.sub_mul]
  omega
theorem conv_ge {A E M e : Int} (he : 0 ≤ e ∧ e ≤ 65535) (h1 : M ≤ A) (h2 : M ≤ E) : M * 65535 ≤ A * 65535 + (E - A) * e := by
  have k1 : M * (65535 - e) ≤ A * (65535 - e) := Int.mul_le_mul_of_nonneg_right h1 (by omega)
  have k2 : M * e ≤ E * e := Int.mul_le_mul_of_nonneg_right h2 he.1
  rw [Int.mul_sub, Int.mul_sub] at k1
  rw [Int.sub_mul]
  omega
theorem up0 {L H A E : Int} (h : up ⟨L, H⟩ ⟨A, A⟩ ⟨E, E⟩ = 0) : H < 0 ∨ 0 ≤ L := by
  unfold up at h
  split at h
  · cases h
  · split at h
    · rename_i c; exact c
    · cases h
theorem cross0 {d L H A E e1 e2 : Int} (hL : L ≤ A ∧ L ≤ E) (hH : A ≤ H ∧ E ≤ H) (h1 : 0 ≤ e1 ∧ e1 ≤ 65535) (h2 : 0 ≤ e2 ∧ e2 ≤ 65535) (h : cross d ⟨L, H⟩ ⟨A, A⟩ ⟨E, E⟩ = 0) : crB (A * 65535 + (E - A) * e1) (A * 65535 + (E - A) * e2) d = false := by
  have a1 := conv_le h1 hH.1 hH.2
  have a2 := conv_le h2 hH.1 hH.2
  have b1 := conv_ge h1 hL.1 hL.2
  have b2 := conv_ge h2 hL.1 hL.2
  have hu : 0 ≤ d → up ⟨L, H⟩ ⟨A, A⟩ ⟨E, E⟩ = 0 := fun hd => by
    unfold cross at h
    split at h
    · exact h
    · rw [if_neg (by omega)] at h
      split at h
      · cases h
      · split at h
        · rename_i c; exact c.1
        · cases h
  have hn : d ≤ 0 → up ⟨-H, -L⟩ ⟨-A, -A⟩ ⟨-E, -E⟩ = 0 := fun hd => by
    unfold cross at h
    rw [if_neg (by omega)] at h
    split at h
    · exact h
    · split at h
      · cases h
      · split at h
        · rename_i c; exact c.2
        · cases h
  cases hc : crB (A * 65535 + (E - A) * e1) (A * 65535 + (E - A) * e2) d with
  | false => rfl
  | true =>
    exfalso
    rcases (crB_iff _ _ _).1 hc with ⟨hd, k1, k2⟩ | ⟨hd, k1, k2⟩
    · have := up0 (hu hd); omega
    · have := up0 (hn hd); omega
theorem up2 {L H A E : Int} (h : up ⟨L, H⟩ ⟨A, A⟩ ⟨E, E⟩ = 2) : A < 0 ∧ 0 ≤ E := by
  unfold up at h
  split at h
  · rename_i c; exact c
  · split at h <;> cases h
theorem cross2 {d L H A E : Int} (h : cross d ⟨L, H⟩ ⟨A, A⟩ ⟨E, E⟩ = 2) : crB A E d = true := by
  rw [crB_iff]
  unfold cross at h
  split at h
  · have := up2 h; omega
  split at h
  · have := up2 (L := -H) (H := -L) (A := -A) (E := -E) h; omega
  split at h
  · rename_i c
    rcases c with c | c
    · have := up2 c; omega
    · have := up2 (L := -H) (H := -L) (A := -A) (E := -E) c; omega
  · split at h <;> cases h
theorem sub_ev {m : Nat} {f : Nat → TInterval} {c t : TInterval} (h0 : 0 < m) (hf : Fin (f 0)) (hc : Fin c) {w : TInterval} (h : (Ex.bin 8 (.var 0) (.num c)).ev (mk m f) t = some w) : w = nw ((f 0).Lo - c.Hi) ((f 0).Hi - c.Lo) := by
  have hg : (mk m f)[(0 : Int).toNat]? = some (f 0) := mk_get f h0
  simp only [Ex.ev, hg, Option.bind_some] at h
  rw [if_neg (by decide), if_pos trivial, sub_fin hf hc] at h
  exact (Option.some.inj h).symm
theorem Pure_GuardSoundForLines : armillarylaw15_GuardSoundForLines.Pure := by
  intro c00 c10 c20 c30 c40 c41 h0 h1 h2 h3 h4 h5
  refine ⟨KK, ?_⟩
  unfold armillarylaw15_GuardSoundForLines
  have ty := tmb c00 (m := 1048576) (by omega)
  have tw := tmb c10 (m := 1048576) (by omega)
  have tb := tmb c20 (m := 1048576) (by omega)
  have hd := dir_ok c30
  have wy : w_i64 (Int.tmod c00 1048576) = Int.tmod c00 1048576 := w64 (by omega) (by omega)
  have ww : w_i64 (Int.tmod c10 1048576) = Int.tmod c10 1048576 := w64 (by omega) (by omega)
  have wb : w_i64 (Int.tmod c20 1048576) = Int.tmod c20 1048576 := w64 (by omega) (by omega)
  rw [wy, ww, wb]
  generalize Int.tmod c00 1048576 = y at *
  generalize Int.tmod c10 1048576 = v at *
  generalize Int.tmod c20 1048576 = b at *
  generalize w_i64 (Int.tmod c30 2) = d at *
  have w1 : w_i64 (y + v) = y + v := w64 (by omega) (by omega)
  have w2 : w_i64 (y - b) = y - b := w64 (by omega) (by omega)
  have w3 : w_i64 (y + v - b) = y + v - b := w64 (by omega) (by omega)
  have w4 : w_i64 ((y - b) * 65535) = (y - b) * 65535 := w64 (by omega) (by omega)
  have he1 : 0 ≤ mn c40 c41 ∧ mn c40 c41 ≤ 65535 := by unfold mn; split <;> omega
  have he2 : 0 ≤ mx c40 c41 ∧ mx c40 c41 ≤ 65535 := by unfold mx; split <;> omega
  have vb : ∀ e : Int, 0 ≤ e ∧ e ≤ 65535 → -68719411200 ≤ v * e ∧ v * e ≤ 68719411200 := fun e he => by
    have := prod_bound (x := v) (y := e) (A := 1048576) (B := 65535) (by omega) (by omega)
    omega
  have hb1 := vb _ he1
  have hb2 := vb _ he2
  have e1 : w_i64 (w_i64 ((y - b) * 65535) + w_i64 (v * w_i64 (mn c40 c41))) = (y - b) * 65535 + v * mn c40 c41 := by
    rw [w4, w64 (x := mn c40 c41) (by omega) (by omega), w64 (x := v * mn c40 c41) (by omega) (by omega), w64 (by omega) (by omega)]
  have e2 : w_i64 (w_i64 ((y - b) * 65535) + w_i64 (v * w_i64 (mx c40 c41))) = (y - b) * 65535 + v * mx c40 c41 := by
    rw [w4, w64 (x := mx c40 c41) (by omega) (by omega), w64 (x := v * mx c40 c41) (by omega) (by omega), w64 (by omega) (by omega)]
  rw [w1, w2, w3, e1, e2]
  have pT : ∀ {x : Int}, -4194304 < x ∧ x < 4194304 → armillaryref02_Point x = some ⟨x, x⟩ ∧ Fin (⟨x, x⟩ : TInterval) := fun {x} h => by
    have hF : Fin (⟨x, x⟩ : TInterval) := by unfold Fin; simp only; omega
    refine ⟨?_, hF⟩
    unfold armillaryref02_Point
    rw [refnew_nw (Int.le_refl _), Option.bind_some, nw_fin hF]
  obtain ⟨p1, f1⟩ := pT (x := y) (by omega)
  obtain ⟨p2, f2⟩ := pT (x := y + v) (by omega)
  obtain ⟨p3, f3⟩ := pT (x := b) (by omega)
  have hmn := mnl y (y + v)
  have hmx := mxl y (y + v)
  have ft : Fin (⟨mn y (y + v), mx y (y + v)⟩ : TInterval) := by unfold Fin; simp only; omega
  obtain ⟨w, u, q, hw, hu, hq, ew, eu, eq, hc⟩ := cross_at (k := KK) (by decide) (m := 1) (e := .bin 8 (.var 0) (.num ⟨b, b⟩)) (g := ⟨[⟨8, 0, Z0⟩, ⟨2, 0, Z0⟩, ⟨1, 0, ⟨b, b⟩⟩], d⟩) (s := ⟨0, 65536, [⟨y, y⟩], [⟨mn y (y + v), mx y (y + v)⟩], [⟨mn y (y + v), mx y (y + v)⟩], [⟨y + v, y + v⟩]⟩)
    (f := fun _ => ⟨y, y⟩) (t := fun _ => ⟨y + v, y + v⟩) (b := fun _ => ⟨mn y (y + v), mx y (y + v)⟩) rfl ⟨by omega, ⟨by omega, by omega⟩, .inr f3⟩ (by simp [Ex.dep]) (by simp [Ex.code]) rfl rfl rfl (fun _ => .inr f1) (fun _ => .inr f2) (fun _ => .inr ft) (by simp) (by simp)
  have rw_ := sub_ev (by omega) ft f3 ew
  have ru := sub_ev (by omega) f1 f3 eu
  have rq := sub_ev (by omega) f2 f3 eq
  simp only at rw_ ru rq
  rw [nw_fin (by unfold Fin; simp only; omega)] at rw_ ru rq
  subst rw_ ru rq
  have E : y + v - b - (y - b) = v := by omega
  have k0 := cross0 (d := d) (L := mn y (y + v) - b) (H := mx y (y + v) - b) (A := y - b) (E := y + v - b) (e1 := mn c40 c41) (e2 := mx c40 c41) (by omega) (by omega) he1 he2
  rw [E] at k0
  have k2 := cross2 (d := d) (L := mn y (y + v) - b) (H := mx y (y + v) - b) (A := y - b) (E := y + v - b)
  have hcd := hc d
  generalize cross d (⟨mn y (y + v) - b, mx y (y + v) - b⟩ : TInterval) ⟨y - b, y - b⟩ ⟨y + v - b, y + v - b⟩ = k at *
  refine bT saneK (bT rfl (bT rfl (bT p1 (bT p2 (bT p3 (bT hcd (bT rfl (bT rfl ?_))))))))
  by_cases c0 : k = 0
  · subst c0
    refine gT rfl ((crosses_eq _ _ _).trans (congrArg some (k0 rfl))) ?_
    rfl
  · refine gF (by simpa using c0) ?_
    refine iF (by simp [c0]) ?_
    by_cases c2 : k = 2
    · subst c2
      refine gT rfl ((crosses_eq _ _ _).trans (congrArg some (k2 rfl))) ?_
      rfl
    · refine gF (by simp [c2]) ?_
      simp [c2]
end Go.Proofs.YtkkodieceehkmaaDoor
