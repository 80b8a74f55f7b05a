/- Samples, dot products, comparisons. Own work. -/
import Derived.Test.YtglcmhldonkfdaaDoorPlM4
set_option maxRecDepth 10000
set_option linter.unusedVariables false
set_option linter.unusedSimpArgs false
namespace Go.Proofs.YtglcmhldonkfdaaDoor
open Go
def InS (a : TInterval) (x : Int) : Prop := a = Ent ∨ a.Lo * 65536 ≤ x ∧ x ≤ a.Hi * 65536
end Go.Proofs.YtglcmhldonkfdaaDoor
