/- The fixed examples. Own work. -/
import Derived.Test.YtglcmhldonkfdaaDoorPlM1
set_option maxRecDepth 10000
namespace Go.Proofs.YtglcmhldonkfdaaDoor
open Go
theorem sane (m : Nat) : armillarylaw04_sanity (m + 100) = some true := by kernel_rfl
end Go.Proofs.YtglcmhldonkfdaaDoor
