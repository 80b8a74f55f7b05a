/- What the printed proofs share: how an element lies in cells, the types' sizes. Printed by a program of this session. -/
import Derived.Test.YtglcmhldonkfdaaDoorSxAll1
import Derived.Test.YtglcmhldonkfdaaDoorDefs
import Derived.Test.YtglcmhldonkfdaaDoorProg
set_option linter.unusedVariables false
set_option linter.unusedSimpArgs false
set_option maxRecDepth 100000
namespace Go.Proofs.YtglcmhldonkfdaaDoor
open Go Go.RowKit Go.Sx Go.Proofs
theorem mixed : Tryd.prog.follows .mixedOrders = true := by kernel_rfl
def gTab0 : List Value := [.func (.func 130) #[] #[], .func (.func 131) #[] #[], .func (.func 132) #[] #[], .func (.func 133) #[] #[], .func (.func 133) #[] #[], .func (.func 131) #[] #[], .func (.func 132) #[] #[], .func (.func 130) #[] #[], .func (.func 133) #[] #[], .func (.func 132) #[] #[], .func (.func 131) #[] #[], .func (.func 130) #[] #[]]
def gTab1 : List Value := [.func (.func 133) #[] #[], .func (.func 132) #[] #[], .func (.func 131) #[] #[], .func (.func 132) #[] #[], .func (.func 131) #[] #[], .func (.func 130) #[] #[], .func (.func 130) #[] #[], .func (.func 132) #[] #[], .nilFunc, .nilFunc, .func (.func 131) #[] #[], .func (.func 133) #[] #[], .func (.func 130) #[] #[], .func (.func 131) #[] #[], .func (.func 130) #[] #[], .func (.func 133) #[] #[], .func (.func 132) #[] #[], .func (.func 133) #[] #[]]
structure Glob (w : World) : Prop where
  tab0 : ∃ e fz, w.heap[0]? = some (.cells gTab0.toArray e fz)
  tab1 : ∃ e fz, w.heap[1]? = some (.cells gTab1.toArray e fz)
def globFp (i : Nat) : Prop := i < 2
def gk : KV := .fact globFp Glob
theorem glob_of {w : World} (h : gk.holds w) : Glob w := h w (agree.refl _ _)
theorem glob_local {w : World} (h : Glob w) (w' : World) (ha : agree globFp w w') : Glob w' := ⟨by obtain ⟨e, fz, he⟩ := h.tab0; exact ⟨e, fz, (ha 0 (show 0 < 2 by decide)).trans he⟩, by obtain ⟨e, fz, he⟩ := h.tab1; exact ⟨e, fz, (ha 1 (show 1 < 2 by decide)).trans he⟩⟩
theorem glob_holds {w : World} (h : Glob w) : gk.holds w := fun w' ha => glob_local h w' ha
theorem glob_in {w : World} (h : Glob w) (i : Nat) (hi : globFp i) : i < w.heap.size := by
  obtain ⟨e, fz, he⟩ := h.tab1
  have h1 := (Array.getElem?_eq_some_iff.1 he).1
  have h2 : i < 2 := hi
  omega
def en_TInterval (x : TInterval) : List Value := [.int .i64 x.Lo, .int .i64 x.Hi]
theorem en_TInterval_len (x : TInterval) : (en_TInterval x).length = 2 := rfl
def en_TA6_Int (x : TA6_Int) : List Value := [.int .i64 x.e0, .int .i64 x.e1, .int .i64 x.e2, .int .i64 x.e3, .int .i64 x.e4, .int .i64 x.e5]
theorem en_TA6_Int_len (x : TA6_Int) : (en_TA6_Int x).length = 6 := rfl
def en_i64 (x : Int) : List Value := [.int .i64 x]
theorem en_i64_len (x : Int) : (en_i64 x).length = 1 := rfl
abbrev E_TInterval : Enc TInterval := Enc.flat 2 en_TInterval (by decide) en_TInterval_len (fun _ => rfl)
abbrev E_S_TInterval : Enc (Sl TInterval) := E_TInterval.row
def gd_S_TInterval (x : List TInterval) : Sl TInterval := ⟨none, 0, x⟩
theorem ergd_S_TInterval (x : List TInterval) : Sl.l (gd_S_TInterval x) = x := rfl
abbrev E_TA6_Int : Enc TA6_Int := Enc.flat 6 en_TA6_Int (by decide) en_TA6_Int_len (fun _ => rfl)
abbrev E_S_TA6_Int : Enc (Sl TA6_Int) := E_TA6_Int.row
abbrev E_i64 : Enc Int := Enc.flat 1 en_i64 (by decide) en_i64_len (fun _ => rfl)
abbrev E_S_i64 : Enc (Sl Int) := E_i64.row
def gd_S_i64 (x : List Int) : Sl Int := ⟨none, 0, x⟩
theorem ergd_S_i64 (x : List Int) : Sl.l (gd_S_i64 x) = x := rfl
theorem inf37 : Inf Tryd.prog 37 2 16 [.int .i64 0, .int .i64 0] := by unfold Inf; kernel_rfl
theorem inf22 : Inf Tryd.prog 22 1 24 [.slice none 0 0] := by unfold Inf; kernel_rfl
theorem inf81 : Inf Tryd.prog 81 6 48 [.int .i64 0, .int .i64 0, .int .i64 0, .int .i64 0, .int .i64 0, .int .i64 0] := by unfold Inf; kernel_rfl
theorem inf32 : Inf Tryd.prog 32 1 24 [.slice none 0 0] := by unfold Inf; kernel_rfl
theorem inf2 : Inf Tryd.prog 2 1 8 [.int .i64 0] := by unfold Inf; kernel_rfl
end Go.Proofs.YtglcmhldonkfdaaDoor
