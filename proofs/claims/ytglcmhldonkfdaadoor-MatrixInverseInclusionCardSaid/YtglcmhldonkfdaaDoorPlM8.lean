/- Algebra of intervals: lemmas of the claims of law02, laid over this seat. Own work. -/
import Derived.Test.YtglcmhldonkfdaaDoorPlM7
set_option maxRecDepth 10000
set_option linter.unusedVariables false
set_option linter.unusedSimpArgs false
namespace Go.Proofs.YtglcmhldonkfdaaDoor
open Go
end Go.Proofs.YtglcmhldonkfdaaDoor
