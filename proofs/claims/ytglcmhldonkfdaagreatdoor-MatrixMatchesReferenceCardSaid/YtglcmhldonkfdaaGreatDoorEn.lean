/- What the printed proofs share: how an element lies in cells, the types' sizes. Printed by a program of this session. -/
import Derived.Test.YtglcmhldonkfdaaGreatDoorSxAll1
import Derived.Test.YtglcmhldonkfdaaGreatDoorDefs
import Derived.Test.YtglcmhldonkfdaaGreatDoorProg
set_option linter.unusedVariables false
set_option linter.unusedSimpArgs false
set_option maxRecDepth 100000
set_option maxHeartbeats 4000000
namespace Go.Proofs.YtglcmhldonkfdaaGreatDoor
open Go Go.RowKit Go.Sx Go.Proofs
theorem qd : Tryz.prog.follows .mixedOrders = true := by kernel_rfl
def Wt : List Value := [.func (.func 121) #[] #[], .func (.func 122) #[] #[], .func (.func 123) #[] #[], .func (.func 124) #[] #[], .func (.func 124) #[] #[], .func (.func 122) #[] #[], .func (.func 123) #[] #[], .func (.func 121) #[] #[], .func (.func 124) #[] #[], .func (.func 123) #[] #[], .func (.func 122) #[] #[], .func (.func 121) #[] #[]]
def Vd : List Value := [.func (.func 124) #[] #[], .func (.func 123) #[] #[], .func (.func 122) #[] #[], .func (.func 123) #[] #[], .func (.func 122) #[] #[], .func (.func 121) #[] #[], .func (.func 121) #[] #[], .func (.func 123) #[] #[], .nilFunc, .nilFunc, .func (.func 122) #[] #[], .func (.func 124) #[] #[], .func (.func 121) #[] #[], .func (.func 122) #[] #[], .func (.func 121) #[] #[], .func (.func 124) #[] #[], .func (.func 123) #[] #[], .func (.func 124) #[] #[]]
structure Wn (w : World) : Prop where
 tab0 : ∃ e fz, w.heap[0]? = some (.cells Wt.toArray e fz)
 tab1 : ∃ e fz, w.heap[1]? = some (.cells Vd.toArray e fz)
def Wb (i : Nat) : Prop := i < 2
def gk : KV := .fact Wb Wn
theorem Yc {w : World} (h : gk.holds w) : Wn w := h w (agree.refl _ _)
theorem JR {w : World} (h : Wn w) (w' : World) (ha : agree Wb w w') : Wn w' := ⟨by obtain ⟨e, fz, he⟩ := h.tab0; exact ⟨e, fz, (ha 0 (show 0 < 2 by decide)).trans he⟩, by obtain ⟨e, fz, he⟩ := h.tab1; exact ⟨e, fz, (ha 1 (show 1 < 2 by decide)).trans he⟩⟩
theorem qcg {w : World} (h : Wn w) : gk.holds w := fun w' ha => JR h w' ha
theorem ZV {w : World} (h : Wn w) (i : Nat) (hi : Wb i) : i < w.heap.size := by
 obtain ⟨e, fz, he⟩ := h.tab1
 have h1 := (Array.getElem?_eq_some_iff.1 he).1
 have h2 : i < 2 := hi
 omega
def qb (x : qa) : List Value := [.int .i64 x.Lo, .int .i64 x.Hi]
theorem qh (x : qa) : (qb x).length = 2 := rfl
def qB (x : Int) : List Value := [.int .i64 x]
theorem q8 (x : Int) : (qB x).length = 1 := rfl
def qn (x : qG) : List Value := [.int .i64 x.e0, .int .i64 x.e1, .int .i64 x.e2, .int .i64 x.e3, .int .i64 x.e4, .int .i64 x.e5]
theorem Qq (x : qG) : (qn x).length = 6 := rfl
abbrev Wp : Enc qa := Enc.flat 2 qb (by decide) qh (fun _ => rfl)
abbrev qc : Enc (Sl qa) := Wp.row
def QS (x : List qa) : Sl qa := ⟨none, 0, x⟩
theorem qC (x : List qa) : Sl.l (QS x) = x := rfl
abbrev qga : Enc Int := Enc.flat 1 qB (by decide) q8 (fun _ => rfl)
abbrev Qp : Enc (Sl Int) := qga.row
def ZI (x : List Int) : Sl Int := ⟨none, 0, x⟩
theorem Xa (x : List Int) : Sl.l (ZI x) = x := rfl
abbrev qdd : Enc qG := Enc.flat 6 qn (by decide) Qq (fun _ => rfl)
abbrev ZA : Enc (Sl qG) := qdd.row
theorem J2 : Inf Tryz.prog 22 1 24 [.slice none 0 0] := by unfold Inf; kernel_rfl
theorem Jd : Inf Tryz.prog 48 2 16 [.int .i64 0, .int .i64 0] := by unfold Inf; kernel_rfl
theorem qaF : Inf Tryz.prog 26 1 24 [.slice none 0 0] := by unfold Inf; kernel_rfl
theorem qco : Inf Tryz.prog 2 1 8 [.int .i64 0] := by unfold Inf; kernel_rfl
theorem qb1 : Inf Tryz.prog 69 6 48 [.int .i64 0, .int .i64 0, .int .i64 0, .int .i64 0, .int .i64 0, .int .i64 0] := by unfold Inf; kernel_rfl
noncomputable abbrev dlgd_S_TInterval (g : Gh) (i : Nat) := g.dl Sl.l QS i
noncomputable abbrev slgd_S_TInterval (g : Gh) (i : Nat) x := Value.slice (g.o i) ((dlgd_S_TInterval g i x).length) (g.n i)
noncomputable abbrev dlgd_S_i64 (g : Gh) (i : Nat) := g.dl Sl.l ZI i
noncomputable abbrev slgd_S_i64 (g : Gh) (i : Nat) x := Value.slice (g.o i) ((dlgd_S_i64 g i x).length) (g.n i)
abbrev qj (p : Option Addr) (n c : Nat) L := ZC 22 48 2 qb p n c L L
abbrev qf (p : Option Addr) (c : Nat) L := ZC 22 48 2 qb p L.length c L L
noncomputable abbrev ns_en_TIntervalg (g : Gh) (i : Nat) x := ZC 22 48 2 qb (g.o i) (dlgd_S_TInterval g i x).length (g.n i) (dlgd_S_TInterval g i x) (dlgd_S_TInterval g i x)
abbrev Q9 (p : Option Addr) (n c : Nat) L := ZC 26 2 1 qB p n c L L
abbrev Qm (p : Option Addr) (c : Nat) L := ZC 26 2 1 qB p L.length c L L
noncomputable abbrev ns_en_i64g (g : Gh) (i : Nat) x := ZC 26 2 1 qB (g.o i) (dlgd_S_i64 g i x).length (g.n i) (dlgd_S_i64 g i x) (dlgd_S_i64 g i x)
end Go.Proofs.YtglcmhldonkfdaaGreatDoor
