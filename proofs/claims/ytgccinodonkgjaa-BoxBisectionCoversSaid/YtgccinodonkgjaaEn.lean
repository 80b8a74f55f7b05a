/- What the printed proofs share: how an element lies in cells, the types' sizes. Printed by a program of this session. -/
import Derived.Test.YtgccinodonkgjaaSxRj
import Derived.Test.YtgccinodonkgjaaDefs
import Derived.Test.YtgccinodonkgjaaProg
set_option linter.unusedVariables false
set_option maxRecDepth 100000
namespace Go.Proofs.Ytgccinodonkgjaa
open Go Go.RowKit Go.Sx Go.Proofs
theorem mixed : Try.prog.follows .mixedOrders = true := by kernel_rfl
def en_TInterval (x : TInterval) : List Value := [.int .i64 x.Lo, .int .i64 x.Hi]
theorem en_TInterval_len (x : TInterval) : (en_TInterval x).length = 2 := rfl
def en_i64 (x : Int) : List Value := [.int .i64 x]
theorem en_i64_len (x : Int) : (en_i64 x).length = 1 := rfl
def en_u16 (x : Int) : List Value := [.int .u16 x]
theorem en_u16_len (x : Int) : (en_u16 x).length = 1 := rfl
theorem inf40 : Inf Try.prog 40 2 16 [.int .i64 0, .int .i64 0] := by unfold Inf; kernel_rfl
theorem inf2 : Inf Try.prog 2 1 8 [.int .i64 0] := by unfold Inf; kernel_rfl

end Go.Proofs.Ytgccinodonkgjaa
