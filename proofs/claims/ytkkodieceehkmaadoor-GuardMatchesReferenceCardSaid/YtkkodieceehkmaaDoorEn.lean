/- What the printed proofs share: how an element lies in cells, the types' sizes. Printed by a program of this session. -/
import Derived.Test.YtkkodieceehkmaaDoorSxZ
import Derived.Test.YtkkodieceehkmaaDoorDefs
import Derived.Test.YtkkodieceehkmaaDoorProg
set_option linter.unusedVariables false
set_option maxRecDepth 100000
namespace Go.Proofs.YtkkodieceehkmaaDoor
open Go Go.RowKit Go.Sx Go.Proofs
theorem mixed : Tryd.prog.follows .mixedOrders = true := by kernel_rfl
def gTab0 : List Value := [.func (.func 123) #[] #[], .func (.func 124) #[] #[], .func (.func 125) #[] #[], .func (.func 124) #[] #[], .func (.func 125) #[] #[], .func (.func 126) #[] #[], .func (.func 126) #[] #[], .func (.func 124) #[] #[], .nilFunc, .nilFunc, .func (.func 125) #[] #[], .func (.func 123) #[] #[], .func (.func 126) #[] #[], .func (.func 125) #[] #[], .func (.func 126) #[] #[], .func (.func 123) #[] #[], .func (.func 124) #[] #[], .func (.func 123) #[] #[]]
def gTab1 : List Value := [.func (.func 126) #[] #[], .func (.func 125) #[] #[], .func (.func 124) #[] #[], .func (.func 123) #[] #[], .func (.func 123) #[] #[], .func (.func 125) #[] #[], .func (.func 124) #[] #[], .func (.func 126) #[] #[], .func (.func 123) #[] #[], .func (.func 124) #[] #[], .func (.func 125) #[] #[], .func (.func 126) #[] #[]]
structure Glob (w : World) : Prop where
  tab0 : ∃ e fz, w.heap[0]? = some (.cells gTab0.toArray e fz)
  tab1 : ∃ e fz, w.heap[1]? = some (.cells gTab1.toArray e fz)
def globFp (i : Nat) : Prop := i < 2
def gk : KV := .fact globFp Glob
theorem glob_of {w : World} (h : gk.holds w) : Glob w := h w (agree.refl _ _)
theorem glob_local {w : World} (h : Glob w) (w' : World) (ha : agree globFp w w') : Glob w' := ⟨by obtain ⟨e, fz, he⟩ := h.tab0; exact ⟨e, fz, (ha 0 (show 0 < 2 by decide)).trans he⟩, by obtain ⟨e, fz, he⟩ := h.tab1; exact ⟨e, fz, (ha 1 (show 1 < 2 by decide)).trans he⟩⟩
theorem glob_in {w : World} (h : Glob w) (i : Nat) (hi : globFp i) : i < w.heap.size := by
  obtain ⟨e, fz, he⟩ := h.tab1
  have h1 := (Array.getElem?_eq_some_iff.1 he).1
  have h2 : i < 2 := hi
  omega
def en_TNode (x : TNode) : List Value := [.int .i64 x.Op, .int .i64 x.N, .int .i64 x.C.Lo, .int .i64 x.C.Hi]
theorem en_TNode_len (x : TNode) : (en_TNode x).length = 4 := rfl
def en_TInterval (x : TInterval) : List Value := [.int .i64 x.Lo, .int .i64 x.Hi]
theorem en_TInterval_len (x : TInterval) : (en_TInterval x).length = 2 := rfl
def en_i64 (x : Int) : List Value := [.int .i64 x]
theorem en_i64_len (x : Int) : (en_i64 x).length = 1 := rfl
def en_u16 (x : Int) : List Value := [.int .u16 x]
theorem en_u16_len (x : Int) : (en_u16 x).length = 1 := rfl
theorem inf53 : Inf Tryd.prog 53 4 32 [.int .i64 0, .int .i64 0, .int .i64 0, .int .i64 0] := by unfold Inf; kernel_rfl
theorem inf38 : Inf Tryd.prog 38 2 16 [.int .i64 0, .int .i64 0] := by unfold Inf; kernel_rfl
theorem inf22 : Inf Tryd.prog 22 1 24 [.slice none 0 0] := by unfold Inf; kernel_rfl
theorem inf2 : Inf Tryd.prog 2 1 8 [.int .i64 0] := by unfold Inf; kernel_rfl

end Go.Proofs.YtkkodieceehkmaaDoor
