/- Singular and diagonal matrices. Own work. -/
import Derived.Test.YtglcmhldonkfdaaDoorPlM14
set_option maxRecDepth 10000
set_option linter.unusedVariables false
set_option linter.unusedSimpArgs false
namespace Go.Proofs.YtglcmhldonkfdaaDoor
open Go
def augQ (N : Nat) (A : Nat → Nat → Rat) (i j : Nat) : Rat := if j < N then A i j else if i = j - N then 65536 else 0
theorem aug_in {N : Nat} {f : Nat → Nat → TInterval} {A : Nat → Nat → Rat} (hA : InM N N f A) : InM N (N + N) (aug N f) (augQ N A) := fun i hi j hj => by
  unfold aug augQ
  by_cases e : j < N
  · rw [if_pos e, if_pos e]; exact hA i hi j e
  · rw [if_neg e, if_neg e]
    unfold idn
    by_cases e2 : i = j - N
    · rw [if_pos e2, if_pos e2]; exact .inr ⟨by simp, by simp⟩
    · rw [if_neg e2, if_neg e2]; exact .inr ⟨by simp, by simp⟩
end Go.Proofs.YtglcmhldonkfdaaDoor
