/- What the printed proofs share: how an element lies in cells, the types' sizes. Printed by a program of this session. -/
import Derived.Test.YtpmgpcklieincaaGreatDoorSxAll1
import Derived.Test.YtpmgpcklieincaaGreatDoorDefs
import Derived.Test.YtpmgpcklieincaaGreatDoorProg
import Derived.Test.YtpmgpcklieincaaGreatDoorErr
set_option linter.unusedVariables false
set_option linter.unusedSimpArgs false
set_option maxRecDepth 100000
set_option maxHeartbeats 4000000
namespace Go.Proofs.YtpmgpcklieincaaGreatDoor
open Go Go.RowKit Go.Sx Go.Proofs
theorem qd:Tryz.prog.follows .mixedOrders=true:=by kernel_rfl
def VP:List Value:=[.func (.func 178) #[] #[],.func (.func 179) #[] #[],.func (.func 180) #[] #[],.func (.func 179) #[] #[],.func (.func 180) #[] #[],.func (.func 181) #[] #[],.func (.func 181) #[] #[],.func (.func 179) #[] #[],.nilFunc,.nilFunc,.func (.func 180) #[] #[],.func (.func 178) #[] #[],.func (.func 181) #[] #[],.func (.func 180) #[] #[],.func (.func 181) #[] #[],.func (.func 178) #[] #[],.func (.func 179) #[] #[],.func (.func 178) #[] #[]]
def Vm:List Value:=[.nilFunc,.nilFunc,.nilFunc,.nilFunc,.nilFunc,.nilFunc,.nilFunc,.nilFunc,.func (.func 110) #[] #[],.nilFunc,.func (.func 91) #[] #[],.nilFunc,.func (.func 182) #[] #[],.nilFunc,.nilFunc,.func (.func 90) #[] #[],.nilFunc,.func (.func 92) #[] #[],.nilFunc,.func (.func 127) #[] #[],.nilFunc,.func (.func 137) #[] #[]]
def qae:List Value:=[.func (.func 181) #[] #[],.func (.func 180) #[] #[],.func (.func 179) #[] #[],.func (.func 178) #[] #[],.func (.func 178) #[] #[],.func (.func 180) #[] #[],.func (.func 179) #[] #[],.func (.func 181) #[] #[],.func (.func 178) #[] #[],.func (.func 179) #[] #[],.func (.func 180) #[] #[],.func (.func 181) #[] #[]]
structure WX (w:World):Prop where
 tab0:∃ e fz,w.heap[0]?=some (.cells VP.toArray e fz)
 tab1:∃ e fz,w.heap[1]?=some (.cells Vm.toArray e fz)
 tab2:∃ e fz,w.heap[2]?=some (.cells qae.toArray e fz)
def WY (i:Nat):Prop:=i<3
def gk:KV:=.fact WY WX
theorem QB {w:World}(h:gk.holds w):WX w:=h w (agree.refl _ _)
theorem Vr {w:World}(h:WX w)(w':World)(ha:agree WY w w'):WX w':=⟨by obtain ⟨e,fz,he⟩:=h.tab0; exact ⟨e,fz,(ha 0 (show 0<3 by decide)).trans he⟩,by obtain ⟨e,fz,he⟩:=h.tab1; exact ⟨e,fz,(ha 1 (show 1<3 by decide)).trans he⟩,by obtain ⟨e,fz,he⟩:=h.tab2; exact ⟨e,fz,(ha 2 (show 2<3 by decide)).trans he⟩⟩
theorem qdr {w:World}(h:WX w):gk.holds w:=λw' ha=>Vr h w' ha
theorem Yj {w:World}(h:WX w)(i:Nat)(hi:WY i):i<w.heap.size:=by
 obtain ⟨e,fz,he⟩:=h.tab2
 have h1:=(Array.getElem?_eq_some_iff.1 he).1
 have h2:i<3:=hi
 omega
def qa (x:qb):List Value:=[.int .i64 x.Lo,.int .i64 x.Hi]
theorem qe (x:qb):(qa x).length=2:=rfl
def qi (x:qh):List Value:=[.int .i64 x.Op,.int .i64 x.A,.int .i64 x.B,.int .i64 x.C.Lo,.int .i64 x.C.Hi]
theorem YU (x:qh):(qi x).length=5:=rfl
def qL (x:Int):List Value:=[.int .i64 x]
theorem Zs (x:Int):(qL x).length=1:=rfl
structure qS where
 T:Int
 H:Int
 From:Sl qb
 Pre:Sl qb
 Tube:Sl qb
 To:Sl qb
def qC (x:qS):List Value:=[.int .i64 x.T,.int .i64 x.H,.slice x.From.p x.From.l.length x.From.cap,.slice x.Pre.p x.Pre.l.length x.Pre.cap,.slice x.Tube.p x.Tube.l.length x.Tube.cap,.slice x.To.p x.To.l.length x.To.cap]
theorem QS (x:qS):(qC x).length=6:=rfl
def qp (x:qt):List Value:=[.int .i64 x.Op,.int .i64 x.N,.int .i64 x.C.Lo,.int .i64 x.C.Hi]
theorem QJ (x:qt):(qp x).length=4:=rfl
def Y3 (x:ByteArray):List Value:=[.string x]
theorem qdk (x:ByteArray):(Y3 x).length=1:=rfl
def qP (x:qh):Value:=.agg #[.int .i64 x.Op,.int .i64 x.A,.int .i64 x.B,.int .i64 x.C.Lo,.int .i64 x.C.Hi]
theorem Vq:qbK Tryz.prog 110 qP:=qeG (by kernel_rfl) (λw em x=>by kernel_rfl) (λx y=>by
 have e:eqV Tryz.prog 10000 110 (qP x) (qP y)=some ((x.Op==y.Op)&&((x.A==y.A)&&((x.B==y.B)&&(((x.C.Lo==y.C.Lo)&&((x.C.Hi==y.C.Hi)&&true))&&true)))):=by kernel_rfl
 rw [e]; congr 1
 obtain ⟨_,_,_,⟨_,_⟩⟩:=x; obtain ⟨_,_,_,⟨_,_⟩⟩:=y
 rw [Bool.eq_iff_iff]; simp)
def Wb (x:Int):List Value:=[.int .i8 x]
def Z3 (x:Int):List Value:=[.int .u16 x]
theorem qaP (x:Int):(Z3 x).length=1:=rfl
abbrev JB:Enc qb:=Enc.flat 2 qa (by decide) qe (λ_=>rfl)
abbrev qW:Enc (Sl qb):=JB.row
def ZK (x:List qb):Sl qb:=⟨none,0,x⟩
theorem ZR (x:List qb):Sl.l (ZK x)=x:=rfl
abbrev Qm:Enc qS:=Enc.st 6 qC ((Part.at (JB).row.toPart λx:qS=>x.From).and ((Part.at (JB).row.toPart λx:qS=>x.Pre).and ((Part.at (JB).row.toPart λx:qS=>x.Tube).and (Part.at (JB).row.toPart λx:qS=>x.To)))) (by decide) QS (λ_=>rfl)
def YA (x:qS):qX:=⟨x.T,x.H,x.From.l,x.Pre.l,x.Tube.l,x.To.l⟩
def Z7 (x:qX):qS:=⟨x.T,x.H,⟨none,0,x.From⟩,⟨none,0,x.Pre⟩,⟨none,0,x.Tube⟩,⟨none,0,x.To⟩⟩
theorem JA (x:qX):YA (Z7 x)=x:=rfl
theorem ZS {x:List qX}{L:List qS}(h:x=L.map YA){i:Nat}{t:qX}(ht:x[i]?=some t):∃ (p_From:Option Addr) (c_From:Nat) (p_Pre:Option Addr) (c_Pre:Nat) (p_Tube:Option Addr) (c_Tube:Nat) (p_To:Option Addr) (c_To:Nat),L[i]?=some (⟨t.T,t.H,⟨p_From,c_From,t.From⟩,⟨p_Pre,c_Pre,t.Pre⟩,⟨p_Tube,c_Tube,t.Tube⟩,⟨p_To,c_To,t.To⟩⟩:qS):=by
 obtain ⟨y,hy,rfl⟩:=qdU h ht
 exact ⟨y.From.p,y.From.cap,y.Pre.p,y.Pre.cap,y.Tube.p,y.Tube.cap,y.To.p,y.To.cap,hy⟩
abbrev qdJ:Enc qt:=Enc.flat 4 qp (by decide) QJ (λ_=>rfl)
abbrev QM:Enc (Sl qt):=qdJ.row
def Qd (x:List qt):Sl qt:=⟨none,0,x⟩
theorem ZO (x:List qt):Sl.l (Qd x)=x:=rfl
theorem J1:V6 Tryz.prog 46 2 16 [.int .i64 0,.int .i64 0]:=by unfold V6; kernel_rfl
theorem qfE:V6 Tryz.prog 48 1 24 [.slice none 0 0]:=by unfold V6; kernel_rfl
theorem qia:V6 Tryz.prog 63 6 112 [.int .i64 0,.int .i64 0,.slice none 0 0,.slice none 0 0,.slice none 0 0,.slice none 0 0]:=by unfold V6; kernel_rfl
theorem qhc:V6 Tryz.prog 59 1 24 [.slice none 0 0]:=by unfold V6; kernel_rfl
theorem qhY:V6 Tryz.prog 110 5 40 [.int .i64 0,.int .i64 0,.int .i64 0,.int .i64 0,.int .i64 0]:=by unfold V6; kernel_rfl
theorem qiF:V6 Tryz.prog 3 1 8 [.int .i64 0]:=by unfold V6; kernel_rfl
theorem qf3:V6 Tryz.prog 61 4 32 [.int .i64 0,.int .i64 0,.int .i64 0,.int .i64 0]:=by unfold V6; kernel_rfl
theorem qiA:V6 Tryz.prog 9 1 16 [.string (⟨#[]⟩:ByteArray)]:=by unfold V6; kernel_rfl
theorem qh9:V6 Tryz.prog 2 1 8 [.int .i64 0]:=by unfold V6; kernel_rfl
noncomputable abbrev dlgd_S_TInterval (g:Gh) (i:Nat):=g.dl Sl.l ZK i
noncomputable abbrev slgd_S_TInterval (g:Gh) (i:Nat) x:=Value.slice (g.o i) ((dlgd_S_TInterval g i x).length) (g.n i)
noncomputable abbrev dlgd_TSegment (g:Gh) (i:Nat):=g.dl YA Z7 i
noncomputable abbrev slgd_TSegment (g:Gh) (i:Nat) x:=Value.slice (g.o i) ((dlgd_TSegment g i x).length) (g.n i)
noncomputable abbrev dlgd_S_TNode (g:Gh) (i:Nat):=g.dl Sl.l Qd i
noncomputable abbrev slgd_S_TNode (g:Gh) (i:Nat) x:=Value.slice (g.o i) ((dlgd_S_TNode g i x).length) (g.n i)
abbrev Qe (p:Option Addr)(n c:Nat) L:=ZE 48 46 2 qa p n c L L
abbrev qr (p:Option Addr)(c:Nat) L:=ZE 48 46 2 qa p L.length c L L
noncomputable abbrev ns_en_TIntervalg (g:Gh) (i:Nat) x:=ZE 48 46 2 qa (g.o i) (dlgd_S_TInterval g i x).length (g.n i) (dlgd_S_TInterval g i x) (dlgd_S_TInterval g i x)
abbrev qak (p:Option Addr)(n c:Nat) L:=ZE 59 61 4 qp p n c L L
abbrev WI (p:Option Addr)(c:Nat) L:=ZE 59 61 4 qp p L.length c L L
noncomputable abbrev ns_en_TNodeg (g:Gh) (i:Nat) x:=ZE 59 61 4 qp (g.o i) (dlgd_S_TNode g i x).length (g.n i) (dlgd_S_TNode g i x) (dlgd_S_TNode g i x)
theorem qhU {x:Int}(h:x=0)(w:World):Calls Tryz.prog 34 #[.iface 32 (.int .i64 x),.iface 32 (.int .i64 0)] w λe w'=>e = .returned (.bool true)∧Below w.heap.size w w':=by
 subst h
 refine (qit w).mono ?_
 rintro e w' ⟨rfl,rfl⟩
 exact ⟨rfl,Below.refl _ _⟩
theorem qhz (x:Int)(w:World):Calls Tryz.prog 34 #[.iface 32 (.int .i64 x),.iface 32 (.int .i64 0)] w λe w'=>e = .returned (.bool (x==0))∧Below w.heap.size w w':=by
 by_cases h:x=0
 ·rw [show (x==0)=true by simpa using h]; exact qhU h w
 ·rw [show (x==0)=false by simpa using h]
  refine (qhM x h w).mono ?_
  rintro e w' ⟨rfl,rfl⟩
  exact ⟨rfl,Below.refl _ _⟩
abbrev nn (u : Nu)(i : Nat) : Nat := (u i).n 0
abbrev F9 : List Value := [.func (.func 130) #[] #[],.func (.func 110) #[] #[],.func (.func 90) #[] #[],.func (.func 92) #[] #[],.func (.func 127) #[] #[],.func (.func 91) #[] #[],.func (.func 131) #[] #[],.func (.func 132) #[] #[],.func (.func 133) #[] #[]]
end Go.Proofs.YtpmgpcklieincaaGreatDoor
