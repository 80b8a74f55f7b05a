/- Samples, dot products, comparisons. Own work. -/
import Derived.Test.YtglcmhldonkfdaaDoorPlM4
set_option maxRecDepth 10000
set_option linter.unusedVariables false
set_option linter.unusedSimpArgs false
namespace Go.Proofs.YtglcmhldonkfdaaDoor
open Go
def InS (a : TInterval) (x : Int) : Prop := a = Ent ∨ a.Lo * 65536 ≤ x ∧ x ≤ a.Hi * 65536
theorem r4same {N M : Nat} (hn : N < 1000000) (hm : M < 1000000) (f g : Nat → Nat → TInterval) (h : ∀ i, i < N → ∀ j, j < M → f i j = g i j) {k0 : Nat} (hk : N < k0) (hk2 : M < k0) : armillaryref04_Same k0 (mm N M f) (mm N M g) = some true := by
  rw [← mm_congr h]
  unfold armillaryref04_Same
  rw [if_neg (by simp)]
  refine bT (loop_ok (fun k x => armillaryref04_Same.l8 k0 (mm N M f) (mm N M f) k x) N (fun k i hi => ?_) (fun k => ?_) hk) rfl
  · show armillaryref04_Same.l8 _ _ _ (k + 1) _ = _
    rw [armillaryref04_Same.l8, mm_len, if_pos (dlt hi)]
    refine bT (v := .inr ()) ?_ (by show armillaryref04_Same.l8 _ _ _ _ _ = _; rw [wnext (by omega)])
    rw [if_pos (rng hi), Int.toNat_natCast, mm_get _ hi, Option.bind_some, if_pos (rng hi), Option.bind_some, if_neg (by simp)]
    refine loop_ok (fun k x => armillaryref04_Same.l22 k0 (mm N M f) (mm N M f) (i : Int) (mk M (f i)) (mk M (f i)) k x) M (fun k j hj => ?_) (fun k => ?_) hk2
    · show armillaryref04_Same.l22 _ _ _ _ _ _ (k + 1) _ = _
      rw [armillaryref04_Same.l22, mm_len, if_pos (rng hi), Int.toNat_natCast, mm_get _ hi, Option.bind_some, mk_len, if_pos (dlt hj), if_pos (rng hi), Option.bind_some, mk_len, if_pos (rng hj), Int.toNat_natCast, mk_get _ hj, Option.bind_some, if_pos (rng hi), Option.bind_some, mk_len, if_pos (rng hj), mk_get _ hj, Option.bind_some, beqI, decide_eq_true rfl, if_neg (by simp), wnext (by omega)]
    · show armillaryref04_Same.l22 _ _ _ _ _ _ (k + 1) _ = _
      rw [armillaryref04_Same.l22, mm_len, if_pos (rng hi), Int.toNat_natCast, mm_get _ hi, Option.bind_some, mk_len, if_neg (by rw [dnl]; simp)]
  · show armillaryref04_Same.l8 _ _ _ (k + 1) _ = _
    rw [armillaryref04_Same.l8, mm_len, if_neg (by rw [dnl]; simp)]
theorem r3same {N : Nat} (hn : N < 1000000) (f g : Nat → TInterval) (h : ∀ i, i < N → f i = g i) {k0 : Nat} (hk : N < k0) : armillaryref03_Same k0 (mk N f) (mk N g) = some true := by
  rw [← mk_congr h]
  unfold armillaryref03_Same
  rw [if_neg (by simp)]
  refine bT (loop_ok (fun k x => armillaryref03_Same.l8 k0 (mk N f) (mk N f) k x) N (fun k i hi => ?_) (fun k => ?_) hk) rfl
  · show armillaryref03_Same.l8 _ _ _ (k + 1) _ = _
    rw [armillaryref03_Same.l8, mk_len, if_pos (dlt hi), if_pos (rng hi), Int.toNat_natCast, mk_get _ hi, Option.bind_some, if_pos (rng hi), Option.bind_some, beqI, decide_eq_true rfl, if_neg (by simp), wnext (by omega)]
  · show armillaryref03_Same.l8 _ _ _ (k + 1) _ = _
    rw [armillaryref03_Same.l8, mk_len, if_neg (by rw [dnl]; simp)]
end Go.Proofs.YtglcmhldonkfdaaDoor
