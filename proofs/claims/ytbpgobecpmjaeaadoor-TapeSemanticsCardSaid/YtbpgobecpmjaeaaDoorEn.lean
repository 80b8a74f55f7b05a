/- What the printed proofs share: how an element lies in cells, the types' sizes. Printed by a program of this session. -/
import Derived.Test.YtbpgobecpmjaeaaDoorSxAll1
import Derived.Test.YtbpgobecpmjaeaaDoorDefs
import Derived.Test.YtbpgobecpmjaeaaDoorProg
set_option linter.unusedVariables false
set_option linter.unusedSimpArgs false
set_option maxRecDepth 100000
namespace Go.Proofs.YtbpgobecpmjaeaaDoor
open Go Go.RowKit Go.Sx Go.Proofs
theorem mixed : Tryd.prog.follows .mixedOrders = true := by kernel_rfl
def gTab0 : List Value := [.nilFunc, .nilFunc, .nilFunc, .nilFunc, .nilFunc, .nilFunc, .nilFunc, .nilFunc, .func (.func 46) #[] #[], .nilFunc, .func (.func 47) #[] #[], .nilFunc, .func (.func 86) #[] #[], .nilFunc, .nilFunc, .func (.func 53) #[] #[], .nilFunc, .func (.func 54) #[] #[], .nilFunc, .func (.func 55) #[] #[], .nilFunc, .func (.func 56) #[] #[]]
def gTab1 : List Value := [.func (.func 87) #[] #[], .func (.func 88) #[] #[], .func (.func 89) #[] #[], .func (.func 88) #[] #[], .func (.func 89) #[] #[], .func (.func 90) #[] #[], .func (.func 90) #[] #[], .func (.func 88) #[] #[], .nilFunc, .nilFunc, .func (.func 89) #[] #[], .func (.func 87) #[] #[], .func (.func 90) #[] #[], .func (.func 89) #[] #[], .func (.func 90) #[] #[], .func (.func 87) #[] #[], .func (.func 88) #[] #[], .func (.func 87) #[] #[]]
def gTab2 : List Value := [.func (.func 90) #[] #[], .func (.func 89) #[] #[], .func (.func 88) #[] #[], .func (.func 87) #[] #[], .func (.func 87) #[] #[], .func (.func 89) #[] #[], .func (.func 88) #[] #[], .func (.func 90) #[] #[], .func (.func 87) #[] #[], .func (.func 88) #[] #[], .func (.func 89) #[] #[], .func (.func 90) #[] #[]]
structure Glob (w : World) : Prop where
  tab0 : ∃ e fz, w.heap[0]? = some (.cells gTab0.toArray e fz)
  tab1 : ∃ e fz, w.heap[1]? = some (.cells gTab1.toArray e fz)
  tab2 : ∃ e fz, w.heap[2]? = some (.cells gTab2.toArray e fz)
def globFp (i : Nat) : Prop := i < 3
def gk : KV := .fact globFp Glob
theorem glob_of {w : World} (h : gk.holds w) : Glob w := h w (agree.refl _ _)
theorem glob_local {w : World} (h : Glob w) (w' : World) (ha : agree globFp w w') : Glob w' := ⟨by obtain ⟨e, fz, he⟩ := h.tab0; exact ⟨e, fz, (ha 0 (show 0 < 3 by decide)).trans he⟩, by obtain ⟨e, fz, he⟩ := h.tab1; exact ⟨e, fz, (ha 1 (show 1 < 3 by decide)).trans he⟩, by obtain ⟨e, fz, he⟩ := h.tab2; exact ⟨e, fz, (ha 2 (show 2 < 3 by decide)).trans he⟩⟩
theorem glob_holds {w : World} (h : Glob w) : gk.holds w := fun w' ha => glob_local h w' ha
theorem glob_in {w : World} (h : Glob w) (i : Nat) (hi : globFp i) : i < w.heap.size := by
  obtain ⟨e, fz, he⟩ := h.tab2
  have h1 := (Array.getElem?_eq_some_iff.1 he).1
  have h2 : i < 3 := hi
  omega
def en_TInterval (x : TInterval) : List Value := [.int .i64 x.Lo, .int .i64 x.Hi]
theorem en_TInterval_len (x : TInterval) : (en_TInterval x).length = 2 := rfl
def en_TInstruction (x : TInstruction) : List Value := [.int .i64 x.Op, .int .i64 x.A, .int .i64 x.B, .int .i64 x.C.Lo, .int .i64 x.C.Hi]
theorem en_TInstruction_len (x : TInstruction) : (en_TInstruction x).length = 5 := rfl
def en_i64 (x : Int) : List Value := [.int .i64 x]
theorem en_i64_len (x : Int) : (en_i64 x).length = 1 := rfl
def en_TNode (x : TNode) : List Value := [.int .i64 x.Op, .int .i64 x.N, .int .i64 x.C.Lo, .int .i64 x.C.Hi]
theorem en_TNode_len (x : TNode) : (en_TNode x).length = 4 := rfl
def en_str (x : ByteArray) : List Value := [.string x]
theorem en_str_len (x : ByteArray) : (en_str x).length = 1 := rfl
def ek_TInstruction (x : TInstruction) : Value := .agg #[.int .i64 x.Op, .int .i64 x.A, .int .i64 x.B, .int .i64 x.C.Lo, .int .i64 x.C.Hi]
theorem kek_TInstruction : KeyOK Tryd.prog 50 ek_TInstruction := keyOK_agg (by kernel_rfl) (fun w em x => by kernel_rfl) (fun x y => by
  have e : eqV Tryd.prog 10000 50 (ek_TInstruction x) (ek_TInstruction y) = some ((x.Op == y.Op) && ((x.A == y.A) && ((x.B == y.B) && (((x.C.Lo == y.C.Lo) && ((x.C.Hi == y.C.Hi) && true)) && true)))) := by kernel_rfl
  rw [e]; congr 1
  obtain ⟨_, _, _, ⟨_, _⟩⟩ := x; obtain ⟨_, _, _, ⟨_, _⟩⟩ := y
  rw [Bool.eq_iff_iff]; simp)
def ek_i64 (x : Int) : Value := .int .i64 x
theorem kek_i64 : KeyOK Tryd.prog 3 ek_i64 := keyOK_int (kd := .i64) (by kernel_rfl)
abbrev E_TNode : Enc TNode := Enc.flat 4 en_TNode (by decide) en_TNode_len (fun _ => rfl)
abbrev E_S_TNode : Enc (Sl TNode) := E_TNode.row
def gd_S_TNode (x : List TNode) : Sl TNode := ⟨none, 0, x⟩
theorem ergd_S_TNode (x : List TNode) : Sl.l (gd_S_TNode x) = x := rfl
theorem inf28 : Inf Tryd.prog 28 2 16 [.int .i64 0, .int .i64 0] := by unfold Inf; kernel_rfl
theorem inf48 : Inf Tryd.prog 48 1 24 [.slice none 0 0] := by unfold Inf; kernel_rfl
theorem inf50 : Inf Tryd.prog 50 5 40 [.int .i64 0, .int .i64 0, .int .i64 0, .int .i64 0, .int .i64 0] := by unfold Inf; kernel_rfl
theorem inf3 : Inf Tryd.prog 3 1 8 [.int .i64 0] := by unfold Inf; kernel_rfl
theorem inf47 : Inf Tryd.prog 47 4 32 [.int .i64 0, .int .i64 0, .int .i64 0, .int .i64 0] := by unfold Inf; kernel_rfl
theorem inf9 : Inf Tryd.prog 9 1 16 [.string (⟨#[]⟩ : ByteArray)] := by unfold Inf; kernel_rfl
end Go.Proofs.YtbpgobecpmjaeaaDoor
