/- What the printed proofs share: how an element lies in cells, the types' sizes. Printed by a program of this session. -/
import Derived.Test.YtpmgpcklieincaaGreatDoorSxAll1
import Derived.Test.YtpmgpcklieincaaGreatDoorDefs
import Derived.Test.YtpmgpcklieincaaGreatDoorProg
import Derived.Test.YtpmgpcklieincaaGreatDoorErr
set_option linter.unusedVariables false
set_option linter.unusedSimpArgs false
set_option maxRecDepth 100000
set_option maxHeartbeats 4000000
namespace Go.Proofs.YtpmgpcklieincaaGreatDoor
open Go Go.RowKit Go.Sx Go.Proofs
theorem qd:Tryz.prog.follows .mixedOrders=true:=by kernel_rfl
def Vs:List Value:=[.func (.func 178) #[] #[],.func (.func 179) #[] #[],.func (.func 180) #[] #[],.func (.func 179) #[] #[],.func (.func 180) #[] #[],.func (.func 181) #[] #[],.func (.func 181) #[] #[],.func (.func 179) #[] #[],.nilFunc,.nilFunc,.func (.func 180) #[] #[],.func (.func 178) #[] #[],.func (.func 181) #[] #[],.func (.func 180) #[] #[],.func (.func 181) #[] #[],.func (.func 178) #[] #[],.func (.func 179) #[] #[],.func (.func 178) #[] #[]]
def JS:List Value:=[.nilFunc,.nilFunc,.nilFunc,.nilFunc,.nilFunc,.nilFunc,.nilFunc,.nilFunc,.func (.func 110) #[] #[],.nilFunc,.func (.func 91) #[] #[],.nilFunc,.func (.func 182) #[] #[],.nilFunc,.nilFunc,.func (.func 90) #[] #[],.nilFunc,.func (.func 92) #[] #[],.nilFunc,.func (.func 127) #[] #[],.nilFunc,.func (.func 137) #[] #[]]
def WG:List Value:=[.func (.func 181) #[] #[],.func (.func 180) #[] #[],.func (.func 179) #[] #[],.func (.func 178) #[] #[],.func (.func 178) #[] #[],.func (.func 180) #[] #[],.func (.func 179) #[] #[],.func (.func 181) #[] #[],.func (.func 178) #[] #[],.func (.func 179) #[] #[],.func (.func 180) #[] #[],.func (.func 181) #[] #[]]
structure Ww (w:World):Prop where
 tab0:∃ e fz,w.heap[0]? = some (.cells Vs.toArray e fz)
 tab1:∃ e fz,w.heap[1]? = some (.cells JS.toArray e fz)
 tab2:∃ e fz,w.heap[2]? = some (.cells WG.toArray e fz)
def Wg (i:Nat):Prop:=i<3
def gk:KV:=.fact Wg Ww
theorem QM {w:World} (h:gk.holds w):Ww w:=h w (agree.refl _ _)
theorem J2 {w:World} (h:Ww w) (w':World) (ha:agree Wg w w'):Ww w':=⟨by obtain ⟨e,fz,he⟩:=h.tab0; exact ⟨e,fz,(ha 0 (show 0<3 by decide)).trans he⟩,by obtain ⟨e,fz,he⟩:=h.tab1; exact ⟨e,fz,(ha 1 (show 1<3 by decide)).trans he⟩,by obtain ⟨e,fz,he⟩:=h.tab2; exact ⟨e,fz,(ha 2 (show 2<3 by decide)).trans he⟩⟩
theorem qcw {w:World} (h:Ww w):gk.holds w:=fun w' ha=>J2 h w' ha
theorem Yl {w:World} (h:Ww w) (i:Nat) (hi:Wg i):i<w.heap.size:=by
 obtain ⟨e,fz,he⟩:=h.tab2
 have h1:=(Array.getElem?_eq_some_iff.1 he).1
 have h2:i<3:=hi
 omega
def qa (x:qb):List Value:=[.int .i64 x.Lo,.int .i64 x.Hi]
theorem qe (x:qb):(qa x).length=2:=rfl
def qi (x:qh):List Value:=[.int .i64 x.Op,.int .i64 x.A,.int .i64 x.B,.int .i64 x.C.Lo,.int .i64 x.C.Hi]
theorem Y0 (x:qh):(qi x).length=5:=rfl
def Qn (x:Int):List Value:=[.int .i64 x]
theorem Jz (x:Int):(Qn x).length=1:=rfl
structure q7 where
 T:Int
 H:Int
 From:Sl qb
 Pre:Sl qb
 Tube:Sl qb
 To:Sl qb
def qo (x:q7):List Value:=[.int .i64 x.T,.int .i64 x.H,.slice x.From.p x.From.l.length x.From.cap,.slice x.Pre.p x.Pre.l.length x.Pre.cap,.slice x.Tube.p x.Tube.l.length x.Tube.cap,.slice x.To.p x.To.l.length x.To.cap]
theorem qx (x:q7):(qo x).length=6:=rfl
def qr (x:qu):List Value:=[.int .i64 x.Op,.int .i64 x.N,.int .i64 x.C.Lo,.int .i64 x.C.Hi]
theorem QJ (x:qu):(qr x).length=4:=rfl
def YE (x:ByteArray):List Value:=[.string x]
theorem qcq (x:ByteArray):(YE x).length=1:=rfl
def qU (x:qh):Value:=.agg #[.int .i64 x.Op,.int .i64 x.A,.int .i64 x.B,.int .i64 x.C.Lo,.int .i64 x.C.Hi]
theorem JU:qaQ Tryz.prog 110 qU:=qdq (by kernel_rfl) (fun w em x=>by kernel_rfl) (fun x y=>by
 have e:eqV Tryz.prog 10000 110 (qU x) (qU y)=some ((x.Op == y.Op) && ((x.A == y.A) && ((x.B == y.B) && (((x.C.Lo == y.C.Lo) && ((x.C.Hi == y.C.Hi) && true)) && true)))):=by kernel_rfl
 rw [e]; congr 1
 obtain ⟨_,_,_,⟨_,_⟩⟩:=x; obtain ⟨_,_,_,⟨_,_⟩⟩:=y
 rw [Bool.eq_iff_iff]; simp)
def JA (x:Int):List Value:=[.int .i8 x]
abbrev Ji:Enc qb:=Enc.flat 2 qa (by decide) qe (fun _=>rfl)
abbrev Qd:Enc (Sl qb):=Ji.row
def ZE (x:List qb):Sl qb:=⟨none,0,x⟩
theorem ZG (x:List qb):Sl.l (ZE x)=x:=rfl
abbrev qX:Enc q7:=Enc.st 6 qo ((Part.at (Ji).row.toPart fun x:q7=>x.From).and ((Part.at (Ji).row.toPart fun x:q7=>x.Pre).and ((Part.at (Ji).row.toPart fun x:q7=>x.Tube).and (Part.at (Ji).row.toPart fun x:q7=>x.To)))) (by decide) qx (fun _=>rfl)
def YB (x:q7):Qc:=⟨x.T,x.H,x.From.l,x.Pre.l,x.Tube.l,x.To.l⟩
def ZV (x:Qc):q7:=⟨x.T,x.H,⟨none,0,x.From⟩,⟨none,0,x.Pre⟩,⟨none,0,x.Tube⟩,⟨none,0,x.To⟩⟩
theorem qK (x:Qc):YB (ZV x)=x:=rfl
theorem XD {x:List Qc} {L:List q7} (h:x=L.map YB) {i:Nat} {t:Qc} (ht:x[i]? = some t):∃ (p_From:Option Addr) (c_From:Nat) (p_Pre:Option Addr) (c_Pre:Nat) (p_Tube:Option Addr) (c_Tube:Nat) (p_To:Option Addr) (c_To:Nat),L[i]? = some (⟨t.T,t.H,⟨p_From,c_From,t.From⟩,⟨p_Pre,c_Pre,t.Pre⟩,⟨p_Tube,c_Tube,t.Tube⟩,⟨p_To,c_To,t.To⟩⟩:q7):=by
 obtain ⟨y,hy,rfl⟩:=qcO h ht
 exact ⟨y.From.p,y.From.cap,y.Pre.p,y.Pre.cap,y.Tube.p,y.Tube.cap,y.To.p,y.To.cap,hy⟩
abbrev qcI:Enc qu:=Enc.flat 4 qr (by decide) QJ (fun _=>rfl)
abbrev QQ:Enc (Sl qu):=qcI.row
def Qo (x:List qu):Sl qu:=⟨none,0,x⟩
theorem ZJ (x:List qu):Sl.l (Qo x)=x:=rfl
theorem JT:WN Tryz.prog 46 2 16 [.int .i64 0,.int .i64 0]:=by unfold WN; kernel_rfl
theorem qed:WN Tryz.prog 48 1 24 [.slice none 0 0]:=by unfold WN; kernel_rfl
theorem qgf:WN Tryz.prog 63 6 112 [.int .i64 0,.int .i64 0,.slice none 0 0,.slice none 0 0,.slice none 0 0,.slice none 0 0]:=by unfold WN; kernel_rfl
theorem qfp:WN Tryz.prog 59 1 24 [.slice none 0 0]:=by unfold WN; kernel_rfl
theorem qf1:WN Tryz.prog 110 5 40 [.int .i64 0,.int .i64 0,.int .i64 0,.int .i64 0,.int .i64 0]:=by unfold WN; kernel_rfl
theorem qgF:WN Tryz.prog 3 1 8 [.int .i64 0]:=by unfold WN; kernel_rfl
theorem qeC:WN Tryz.prog 61 4 32 [.int .i64 0,.int .i64 0,.int .i64 0,.int .i64 0]:=by unfold WN; kernel_rfl
theorem qgE:WN Tryz.prog 9 1 16 [.string (⟨#[]⟩:ByteArray)]:=by unfold WN; kernel_rfl
noncomputable abbrev dlgd_S_TInterval (g:Gh) (i:Nat):=g.dl Sl.l ZE i
noncomputable abbrev slgd_S_TInterval (g:Gh) (i:Nat) x:=Value.slice (g.o i) ((dlgd_S_TInterval g i x).length) (g.n i)
noncomputable abbrev dlgd_TSegment (g:Gh) (i:Nat):=g.dl YB ZV i
noncomputable abbrev slgd_TSegment (g:Gh) (i:Nat) x:=Value.slice (g.o i) ((dlgd_TSegment g i x).length) (g.n i)
noncomputable abbrev dlgd_S_TNode (g:Gh) (i:Nat):=g.dl Sl.l Qo i
noncomputable abbrev slgd_S_TNode (g:Gh) (i:Nat) x:=Value.slice (g.o i) ((dlgd_S_TNode g i x).length) (g.n i)
abbrev Qp (p:Option Addr) (n c:Nat) L:=Zn 48 46 2 qa p n c L L
abbrev qt (p:Option Addr) (c:Nat) L:=Zn 48 46 2 qa p L.length c L L
noncomputable abbrev ns_en_TIntervalg (g:Gh) (i:Nat) x:=Zn 48 46 2 qa (g.o i) (dlgd_S_TInterval g i x).length (g.n i) (dlgd_S_TInterval g i x) (dlgd_S_TInterval g i x)
abbrev Zc (p:Option Addr) (n c:Nat) L:=Zn 59 61 4 qr p n c L L
abbrev Xd (p:Option Addr) (c:Nat) L:=Zn 59 61 4 qr p L.length c L L
noncomputable abbrev ns_en_TNodeg (g:Gh) (i:Nat) x:=Zn 59 61 4 qr (g.o i) (dlgd_S_TNode g i x).length (g.n i) (dlgd_S_TNode g i x) (dlgd_S_TNode g i x)
theorem qfy {x:Int} (h:x=0) (w:World):Calls Tryz.prog 34 #[.iface 32 (.int .i64 x),.iface 32 (.int .i64 0)] w fun e w'=>e = .returned (.bool true)∧Below w.heap.size w w':=by
 subst h
 refine (qgt w).mono ?_
 rintro e w' ⟨rfl,rfl⟩
 exact ⟨rfl,Below.refl _ _⟩
theorem qfX (x:Int) (w:World):Calls Tryz.prog 34 #[.iface 32 (.int .i64 x),.iface 32 (.int .i64 0)] w fun e w'=>e = .returned (.bool (x == 0))∧Below w.heap.size w w':=by
 by_cases h:x=0
 ·rw [show (x == 0)=true by simpa using h]; exact qfy h w
 ·rw [show (x == 0)=false by simpa using h]
  refine (qf5 x h w).mono ?_
  rintro e w' ⟨rfl,rfl⟩
  exact ⟨rfl,Below.refl _ _⟩
end Go.Proofs.YtpmgpcklieincaaGreatDoor
