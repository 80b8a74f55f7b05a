/- TopClearedPairsStayApart: the plain law. Own work. -/
import Derived.Test.YtpmgpcklieincaaGreatDoorPlAll2
set_option linter.unusedVariables false
set_option linter.unusedSimpArgs false
set_option maxRecDepth 10000
namespace Go.Proofs.YtpmgpcklieincaaGreatDoor
theorem Pure_TopClearedPairsStayApart : armillarytop_TopClearedPairsStayApart.Pure := by
  intro X U Y V d t hX hU hY hV hd ht
  refine ⟨100, ?_⟩
  have d1 := Int.tmod_lt_of_pos d (b := 4194304) (by decide)
  have d2 : 0 ≤ Int.tmod d 4194304 := Int.tmod_nonneg _ hd.1
  have wD : w_i64 (Int.tmod d 4194304) = Int.tmod d 4194304 := w64 (by omega) (by omega)
  obtain ⟨r, dd, _, hs, h1, _⟩ := both (X := X) (Y := Y) hU hV (D := Int.tmod d 4194304) ⟨d2, d1⟩
  have wE : w_i64 (Int.tmod d 4194304 * 65535) = Int.tmod d 4194304 * 65535 := w64 (by omega) (by omega)
  unfold armillarytop_TopClearedPairsStayApart
  rw [sanity24_ok, Option.bind_some, traj hU, Option.bind_some, traj hV, Option.bind_some]
  dsimp only
  rw [if_neg (by decide), wD, hs, Option.bind_some]
  dsimp only
  rw [if_neg (by simp), if_pos (by intro _; simp), if_pos (by decide)]
  rw [show [(⟨1, 2, r, dd⟩ : TVerdict)][(0 : Int).toNat]? = some ⟨1, 2, r, dd⟩ from rfl, Option.bind_some]
  dsimp only
  by_cases hr : r = 1
  · subst hr
    obtain ⟨i, hi, hii, hp1, hp2⟩ := slot (16 * t) (by omega) (by omega)
    have hg := h1 rfl (i, i) hii
    have pa := posn (x := Int.tmod X 4194304) (u := U) hp1 hp2
    have pb := posn (x := Int.tmod Y 4194304) (u := V) hp1 hp2
    rw [if_pos (by decide), dist hU hV ht, Option.bind_some, Option.bind_some, wE]
    have ed : (U - V) * 16 * t = U * (16 * t) - V * (16 * t) := by rw [Int.mul_assoc, Int.sub_mul]
    rw [ed]
    have hgap : Int.tmod d 4194304 < gap (way (Int.tmod X 4194304 + kk i * U) (gg i * U)) (way (Int.tmod Y 4194304 + kk i * V) (gg i * V)) := hg
    unfold gap at hgap
    have g1 := mxl ((way (Int.tmod X 4194304 + kk i * U) (gg i * U)).Lo - (way (Int.tmod Y 4194304 + kk i * V) (gg i * V)).Hi) ((way (Int.tmod Y 4194304 + kk i * V) (gg i * V)).Lo - (way (Int.tmod X 4194304 + kk i * U) (gg i * U)).Hi)
    have g2 := mxl ((Int.tmod X 4194304 - Int.tmod Y 4194304) * 65535 + (U * (16 * t) - V * (16 * t))) (-((Int.tmod X 4194304 - Int.tmod Y 4194304) * 65535 + (U * (16 * t) - V * (16 * t))))
    rw [decide_eq_true (by omega)]
    rfl
  · have hb : (r != 1) = true := by simpa using hr
    rw [hb, if_neg (by decide), Option.bind_some, Option.bind_some]
    rfl
end Go.Proofs.YtpmgpcklieincaaGreatDoor
