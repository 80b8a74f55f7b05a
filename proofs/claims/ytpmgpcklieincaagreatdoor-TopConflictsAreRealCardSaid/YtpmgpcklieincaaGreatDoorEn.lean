/- What the printed proofs share: how an element lies in cells, the types' sizes. Printed by a program of this session. -/
import Derived.Test.YtpmgpcklieincaaGreatDoorSxAll1
import Derived.Test.YtpmgpcklieincaaGreatDoorDefs
import Derived.Test.YtpmgpcklieincaaGreatDoorProg
import Derived.Test.YtpmgpcklieincaaGreatDoorErr
set_option linter.unusedVariables false
set_option linter.unusedSimpArgs false
set_option maxRecDepth 100000
set_option maxHeartbeats 4000000
namespace Go.Proofs.YtpmgpcklieincaaGreatDoor
open Go Go.RowKit Go.Sx Go.Proofs
theorem mixed : Tryz.prog.follows .mixedOrders = true := by kernel_rfl
def gTab0 : List Value := [.func (.func 178) #[] #[], .func (.func 179) #[] #[], .func (.func 180) #[] #[], .func (.func 179) #[] #[], .func (.func 180) #[] #[], .func (.func 181) #[] #[], .func (.func 181) #[] #[], .func (.func 179) #[] #[], .nilFunc, .nilFunc, .func (.func 180) #[] #[], .func (.func 178) #[] #[], .func (.func 181) #[] #[], .func (.func 180) #[] #[], .func (.func 181) #[] #[], .func (.func 178) #[] #[], .func (.func 179) #[] #[], .func (.func 178) #[] #[]]
def gTab1 : List Value := [.nilFunc, .nilFunc, .nilFunc, .nilFunc, .nilFunc, .nilFunc, .nilFunc, .nilFunc, .func (.func 110) #[] #[], .nilFunc, .func (.func 91) #[] #[], .nilFunc, .func (.func 182) #[] #[], .nilFunc, .nilFunc, .func (.func 90) #[] #[], .nilFunc, .func (.func 92) #[] #[], .nilFunc, .func (.func 127) #[] #[], .nilFunc, .func (.func 137) #[] #[]]
def gTab2 : List Value := [.func (.func 181) #[] #[], .func (.func 180) #[] #[], .func (.func 179) #[] #[], .func (.func 178) #[] #[], .func (.func 178) #[] #[], .func (.func 180) #[] #[], .func (.func 179) #[] #[], .func (.func 181) #[] #[], .func (.func 178) #[] #[], .func (.func 179) #[] #[], .func (.func 180) #[] #[], .func (.func 181) #[] #[]]
structure Glob (w : World) : Prop where
  tab0 : ∃ e fz, w.heap[0]? = some (.cells gTab0.toArray e fz)
  tab1 : ∃ e fz, w.heap[1]? = some (.cells gTab1.toArray e fz)
  tab2 : ∃ e fz, w.heap[2]? = some (.cells gTab2.toArray e fz)
def globFp (i : Nat) : Prop := i < 3
def gk : KV := .fact globFp Glob
theorem glob_of {w : World} (h : gk.holds w) : Glob w := h w (agree.refl _ _)
theorem glob_local {w : World} (h : Glob w) (w' : World) (ha : agree globFp w w') : Glob w' := ⟨by obtain ⟨e, fz, he⟩ := h.tab0; exact ⟨e, fz, (ha 0 (show 0 < 3 by decide)).trans he⟩, by obtain ⟨e, fz, he⟩ := h.tab1; exact ⟨e, fz, (ha 1 (show 1 < 3 by decide)).trans he⟩, by obtain ⟨e, fz, he⟩ := h.tab2; exact ⟨e, fz, (ha 2 (show 2 < 3 by decide)).trans he⟩⟩
theorem glob_in {w : World} (h : Glob w) (i : Nat) (hi : globFp i) : i < w.heap.size := by
  obtain ⟨e, fz, he⟩ := h.tab2
  have h1 := (Array.getElem?_eq_some_iff.1 he).1
  have h2 : i < 3 := hi
  omega
def en_TInterval (x : TInterval) : List Value := [.int .i64 x.Lo, .int .i64 x.Hi]
theorem en_TInterval_len (x : TInterval) : (en_TInterval x).length = 2 := rfl
def en_TInstruction (x : TInstruction) : List Value := [.int .i64 x.Op, .int .i64 x.A, .int .i64 x.B, .int .i64 x.C.Lo, .int .i64 x.C.Hi]
theorem en_TInstruction_len (x : TInstruction) : (en_TInstruction x).length = 5 := rfl
def en_i64 (x : Int) : List Value := [.int .i64 x]
theorem en_i64_len (x : Int) : (en_i64 x).length = 1 := rfl
structure G_TSegment where
  T : Int
  H : Int
  From : Sl TInterval
  Pre : Sl TInterval
  Tube : Sl TInterval
  To : Sl TInterval
def en_TSegment (x : G_TSegment) : List Value := [.int .i64 x.T, .int .i64 x.H, .slice x.From.p x.From.l.length x.From.cap, .slice x.Pre.p x.Pre.l.length x.Pre.cap, .slice x.Tube.p x.Tube.l.length x.Tube.cap, .slice x.To.p x.To.l.length x.To.cap]
theorem en_TSegment_len (x : G_TSegment) : (en_TSegment x).length = 6 := rfl
def en_TNode (x : TNode) : List Value := [.int .i64 x.Op, .int .i64 x.N, .int .i64 x.C.Lo, .int .i64 x.C.Hi]
theorem en_TNode_len (x : TNode) : (en_TNode x).length = 4 := rfl
def en_str (x : ByteArray) : List Value := [.string x]
def ek_TInstruction (x : TInstruction) : Value := .agg #[.int .i64 x.Op, .int .i64 x.A, .int .i64 x.B, .int .i64 x.C.Lo, .int .i64 x.C.Hi]
theorem kek_TInstruction : KeyOK Tryz.prog 110 ek_TInstruction := keyOK_agg (by kernel_rfl) (fun w em x => by kernel_rfl) (fun x y => by
  have e : eqV Tryz.prog 10000 110 (ek_TInstruction x) (ek_TInstruction y) = some ((x.Op == y.Op) && ((x.A == y.A) && ((x.B == y.B) && (((x.C.Lo == y.C.Lo) && ((x.C.Hi == y.C.Hi) && true)) && true)))) := by kernel_rfl
  rw [e]; congr 1
  obtain ⟨_, _, _, ⟨_, _⟩⟩ := x; obtain ⟨_, _, _, ⟨_, _⟩⟩ := y
  rw [Bool.eq_iff_iff]; simp)
structure G_TTrajectory where
  Id : Int
  Segs : Sl G_TSegment
def en_TTrajectory (x : G_TTrajectory) : List Value := [.int .i64 x.Id, .slice x.Segs.p x.Segs.l.length x.Segs.cap]
theorem en_TTrajectory_len (x : G_TTrajectory) : (en_TTrajectory x).length = 2 := rfl
def en_TVerdict (x : TVerdict) : List Value := [.int .i64 x.A, .int .i64 x.B, .int .i64 x.Kind, .int .i64 x.Dist.Lo, .int .i64 x.Dist.Hi]
theorem en_TVerdict_len (x : TVerdict) : (en_TVerdict x).length = 5 := rfl
abbrev E_TInterval : Enc TInterval := Enc.flat 2 en_TInterval (by decide) en_TInterval_len (fun _ => rfl)
abbrev E_S_TInterval : Enc (Sl TInterval) := E_TInterval.row
def gd_S_TInterval (x : List TInterval) : Sl TInterval := ⟨none, 0, x⟩
theorem ergd_S_TInterval (x : List TInterval) : Sl.l (gd_S_TInterval x) = x := rfl
abbrev E_TSegment : Enc G_TSegment := Enc.st 6 en_TSegment ((Part.at (E_TInterval).row.toPart fun x : G_TSegment => x.From).and ((Part.at (E_TInterval).row.toPart fun x : G_TSegment => x.Pre).and ((Part.at (E_TInterval).row.toPart fun x : G_TSegment => x.Tube).and (Part.at (E_TInterval).row.toPart fun x : G_TSegment => x.To)))) (by decide) en_TSegment_len (fun _ => rfl)
def er_TSegment (x : G_TSegment) : TSegment := ⟨x.T, x.H, x.From.l, x.Pre.l, x.Tube.l, x.To.l⟩
def gd_TSegment (x : TSegment) : G_TSegment := ⟨x.T, x.H, ⟨none, 0, x.From⟩, ⟨none, 0, x.Pre⟩, ⟨none, 0, x.Tube⟩, ⟨none, 0, x.To⟩⟩
theorem ergd_TSegment (x : TSegment) : er_TSegment (gd_TSegment x) = x := rfl
theorem get_TSegment {x : List TSegment} {L : List G_TSegment} (h : x = L.map er_TSegment) {i : Nat} {t : TSegment} (ht : x[i]? = some t) : ∃ (p_From : Option Addr) (c_From : Nat) (p_Pre : Option Addr) (c_Pre : Nat) (p_Tube : Option Addr) (c_Tube : Nat) (p_To : Option Addr) (c_To : Nat), L[i]? = some (⟨t.T, t.H, ⟨p_From, c_From, t.From⟩, ⟨p_Pre, c_Pre, t.Pre⟩, ⟨p_Tube, c_Tube, t.Tube⟩, ⟨p_To, c_To, t.To⟩⟩ : G_TSegment) := by
  obtain ⟨y, hy, rfl⟩ := map_get h ht
  exact ⟨y.From.p, y.From.cap, y.Pre.p, y.Pre.cap, y.Tube.p, y.Tube.cap, y.To.p, y.To.cap, hy⟩
abbrev E_TNode : Enc TNode := Enc.flat 4 en_TNode (by decide) en_TNode_len (fun _ => rfl)
abbrev E_S_TNode : Enc (Sl TNode) := E_TNode.row
def gd_S_TNode (x : List TNode) : Sl TNode := ⟨none, 0, x⟩
theorem ergd_S_TNode (x : List TNode) : Sl.l (gd_S_TNode x) = x := rfl
abbrev E_TTrajectory : Enc G_TTrajectory := Enc.st 2 en_TTrajectory (Part.at (E_TSegment).row.toPart fun x : G_TTrajectory => x.Segs) (by decide) en_TTrajectory_len (fun _ => rfl)
def er_TTrajectory (x : G_TTrajectory) : TTrajectory := ⟨x.Id, x.Segs.l.map er_TSegment⟩
theorem get_TTrajectory {x : List TTrajectory} {L : List G_TTrajectory} (h : x = L.map er_TTrajectory) {i : Nat} {t : TTrajectory} (ht : x[i]? = some t) : ∃ (p_Segs : Option Addr) (c_Segs : Nat) (L_Segs : List G_TSegment), t.Segs = L_Segs.map er_TSegment ∧ L[i]? = some (⟨t.Id, ⟨p_Segs, c_Segs, L_Segs⟩⟩ : G_TTrajectory) := by
  obtain ⟨y, hy, rfl⟩ := map_get h ht
  exact ⟨y.Segs.p, y.Segs.cap, y.Segs.l, rfl, hy⟩
theorem inf46 : Inf Tryz.prog 46 2 16 [.int .i64 0, .int .i64 0] := by unfold Inf; kernel_rfl
theorem inf48 : Inf Tryz.prog 48 1 24 [.slice none 0 0] := by unfold Inf; kernel_rfl
theorem inf63 : Inf Tryz.prog 63 6 112 [.int .i64 0, .int .i64 0, .slice none 0 0, .slice none 0 0, .slice none 0 0, .slice none 0 0] := by unfold Inf; kernel_rfl
theorem inf59 : Inf Tryz.prog 59 1 24 [.slice none 0 0] := by unfold Inf; kernel_rfl
theorem inf110 : Inf Tryz.prog 110 5 40 [.int .i64 0, .int .i64 0, .int .i64 0, .int .i64 0, .int .i64 0] := by unfold Inf; kernel_rfl
theorem inf3 : Inf Tryz.prog 3 1 8 [.int .i64 0] := by unfold Inf; kernel_rfl
theorem inf88 : Inf Tryz.prog 88 5 40 [.int .i64 0, .int .i64 0, .int .i64 0, .int .i64 0, .int .i64 0] := by unfold Inf; kernel_rfl
noncomputable abbrev dlgd_S_TInterval (g : Gh) (i : Nat) := g.dl Sl.l gd_S_TInterval i
noncomputable abbrev slgd_S_TInterval (g : Gh) (i : Nat) x := Value.slice (g.o i) ((dlgd_S_TInterval g i x).length) (g.n i)
noncomputable abbrev dlgd_TSegment (g : Gh) (i : Nat) := g.dl er_TSegment gd_TSegment i
noncomputable abbrev slgd_TSegment (g : Gh) (i : Nat) x := Value.slice (g.o i) ((dlgd_TSegment g i x).length) (g.n i)
noncomputable abbrev dlgd_S_TNode (g : Gh) (i : Nat) := g.dl Sl.l gd_S_TNode i
noncomputable abbrev slgd_S_TNode (g : Gh) (i : Nat) x := Value.slice (g.o i) ((dlgd_S_TNode g i x).length) (g.n i)
abbrev ns_en_TInterval (p : Option Addr) (n c : Nat) L := nsK 48 46 2 en_TInterval p n c L L
abbrev ns_en_TIntervall (p : Option Addr) (c : Nat) L := nsK 48 46 2 en_TInterval p L.length c L L
noncomputable abbrev ns_en_TIntervalg (g : Gh) (i : Nat) x := nsK 48 46 2 en_TInterval (g.o i) (dlgd_S_TInterval g i x).length (g.n i) (dlgd_S_TInterval g i x) (dlgd_S_TInterval g i x)
abbrev ns_en_TNode (p : Option Addr) (n c : Nat) L := nsK 59 61 4 en_TNode p n c L L
abbrev ns_en_TNodel (p : Option Addr) (c : Nat) L := nsK 59 61 4 en_TNode p L.length c L L
noncomputable abbrev ns_en_TNodeg (g : Gh) (i : Nat) x := nsK 59 61 4 en_TNode (g.o i) (dlgd_S_TNode g i x).length (g.n i) (dlgd_S_TNode g i x) (dlgd_S_TNode g i x)
theorem errIs0 {x : Int} (h : x = 0) (w : World) : Calls Tryz.prog 34 #[.iface 32 (.int .i64 x), .iface 32 (.int .i64 0)] w fun e w' => e = .returned (.bool true) ∧ Below w.heap.size w w' := by
  subst h
  refine (errIs w).mono ?_
  rintro e w' ⟨rfl, rfl⟩
  exact ⟨rfl, Below.refl _ _⟩
end Go.Proofs.YtpmgpcklieincaaGreatDoor
