/- What the printed proofs share: how an element lies in cells, the types' sizes. Printed by a program of this session. -/
import Derived.Test.YtpmgpcklieincaaGreatDoorSxAll1
import Derived.Test.YtpmgpcklieincaaGreatDoorDefs
import Derived.Test.YtpmgpcklieincaaGreatDoorProg
import Derived.Test.YtpmgpcklieincaaGreatDoorErr
set_option linter.unusedVariables false
set_option linter.unusedSimpArgs false
set_option maxRecDepth 100000
set_option maxHeartbeats 4000000
namespace Go.Proofs.YtpmgpcklieincaaGreatDoor
open Go Go.RowKit Go.Sx Go.Proofs
theorem qd:Tryz.prog.follows .mixedOrders=true:=by kernel_rfl
def VK:List Value:=[.func (.func 178) #[] #[],.func (.func 179) #[] #[],.func (.func 180) #[] #[],.func (.func 179) #[] #[],.func (.func 180) #[] #[],.func (.func 181) #[] #[],.func (.func 181) #[] #[],.func (.func 179) #[] #[],.nilFunc,.nilFunc,.func (.func 180) #[] #[],.func (.func 178) #[] #[],.func (.func 181) #[] #[],.func (.func 180) #[] #[],.func (.func 181) #[] #[],.func (.func 178) #[] #[],.func (.func 179) #[] #[],.func (.func 178) #[] #[]]
def Vj:List Value:=[.nilFunc,.nilFunc,.nilFunc,.nilFunc,.nilFunc,.nilFunc,.nilFunc,.nilFunc,.func (.func 110) #[] #[],.nilFunc,.func (.func 91) #[] #[],.nilFunc,.func (.func 182) #[] #[],.nilFunc,.nilFunc,.func (.func 90) #[] #[],.nilFunc,.func (.func 92) #[] #[],.nilFunc,.func (.func 127) #[] #[],.nilFunc,.func (.func 137) #[] #[]]
def qaf:List Value:=[.func (.func 181) #[] #[],.func (.func 180) #[] #[],.func (.func 179) #[] #[],.func (.func 178) #[] #[],.func (.func 178) #[] #[],.func (.func 180) #[] #[],.func (.func 179) #[] #[],.func (.func 181) #[] #[],.func (.func 178) #[] #[],.func (.func 179) #[] #[],.func (.func 180) #[] #[],.func (.func 181) #[] #[]]
structure WM (w:World):Prop where
 tab0:∃ e fz,w.heap[0]?=some (.cells VK.toArray e fz)
 tab1:∃ e fz,w.heap[1]?=some (.cells Vj.toArray e fz)
 tab2:∃ e fz,w.heap[2]?=some (.cells qaf.toArray e fz)
def WQ (i:Nat):Prop:=i<3
def gk:KV:=.fact WQ WM
theorem Qy {w:World}(h:gk.holds w):WM w:=h w (agree.refl _ _)
theorem Vp {w:World}(h:WM w)(w':World)(ha:agree WQ w w'):WM w':=⟨by obtain ⟨e,fz,he⟩:=h.tab0; exact ⟨e,fz,(ha 0 (show 0<3 by decide)).trans he⟩,by obtain ⟨e,fz,he⟩:=h.tab1; exact ⟨e,fz,(ha 1 (show 1<3 by decide)).trans he⟩,by obtain ⟨e,fz,he⟩:=h.tab2; exact ⟨e,fz,(ha 2 (show 2<3 by decide)).trans he⟩⟩
theorem qcZ {w:World}(h:WM w):gk.holds w:=λw' ha=>Vp h w' ha
theorem Yc {w:World}(h:WM w)(i:Nat)(hi:WQ i):i<w.heap.size:=by
 obtain ⟨e,fz,he⟩:=h.tab2
 have h1:=(Array.getElem?_eq_some_iff.1 he).1
 have h2:i<3:=hi
 omega
def qa (x:qb):List Value:=[.int .i64 x.Lo,.int .i64 x.Hi]
theorem qe (x:qb):(qa x).length=2:=rfl
def qi (x:qh):List Value:=[.int .i64 x.Op,.int .i64 x.A,.int .i64 x.B,.int .i64 x.C.Lo,.int .i64 x.C.Hi]
theorem YQ (x:qh):(qi x).length=5:=rfl
def q6 (x:Int):List Value:=[.int .i64 x]
theorem JP (x:Int):(q6 x).length=1:=rfl
structure qR where
 T:Int
 H:Int
 From:Sl qb
 Pre:Sl qb
 Tube:Sl qb
 To:Sl qb
def qC (x:qR):List Value:=[.int .i64 x.T,.int .i64 x.H,.slice x.From.p x.From.l.length x.From.cap,.slice x.Pre.p x.Pre.l.length x.Pre.cap,.slice x.Tube.p x.Tube.l.length x.Tube.cap,.slice x.To.p x.To.l.length x.To.cap]
theorem QQ (x:qR):(qC x).length=6:=rfl
def qp (x:qt):List Value:=[.int .i64 x.Op,.int .i64 x.N,.int .i64 x.C.Lo,.int .i64 x.C.Hi]
theorem QI (x:qt):(qp x).length=4:=rfl
def Y1 (x:ByteArray):List Value:=[.string x]
theorem qdc (x:ByteArray):(Y1 x).length=1:=rfl
def qM (x:qh):Value:=.agg #[.int .i64 x.Op,.int .i64 x.A,.int .i64 x.B,.int .i64 x.C.Lo,.int .i64 x.C.Hi]
theorem Vf:qbf Tryz.prog 110 qM:=qer (by kernel_rfl) (λw em x=>by kernel_rfl) (λx y=>by
 have e:eqV Tryz.prog 10000 110 (qM x) (qM y)=some ((x.Op==y.Op)&&((x.A==y.A)&&((x.B==y.B)&&(((x.C.Lo==y.C.Lo)&&((x.C.Hi==y.C.Hi)&&true))&&true)))):=by kernel_rfl
 rw [e]; congr 1
 obtain ⟨_,_,_,⟨_,_⟩⟩:=x; obtain ⟨_,_,_,⟨_,_⟩⟩:=y
 rw [Bool.eq_iff_iff]; simp)
def V6 (x:Int):List Value:=[.int .i8 x]
abbrev Ju:Enc qb:=Enc.flat 2 qa (by decide) qe (λ_=>rfl)
abbrev qU:Enc (Sl qb):=Ju.row
def ZD (x:List qb):Sl qb:=⟨none,0,x⟩
theorem ZI (x:List qb):Sl.l (ZD x)=x:=rfl
abbrev Qj:Enc qR:=Enc.st 6 qC ((Part.at (Ju).row.toPart λx:qR=>x.From).and ((Part.at (Ju).row.toPart λx:qR=>x.Pre).and ((Part.at (Ju).row.toPart λx:qR=>x.Tube).and (Part.at (Ju).row.toPart λx:qR=>x.To)))) (by decide) QQ (λ_=>rfl)
def Yw (x:qR):qW:=⟨x.T,x.H,x.From.l,x.Pre.l,x.Tube.l,x.To.l⟩
def Z1 (x:qW):qR:=⟨x.T,x.H,⟨none,0,x.From⟩,⟨none,0,x.Pre⟩,⟨none,0,x.Tube⟩,⟨none,0,x.To⟩⟩
theorem Jq (x:qW):Yw (Z1 x)=x:=rfl
theorem ZN {x:List qW}{L:List qR}(h:x=L.map Yw){i:Nat}{t:qW}(ht:x[i]?=some t):∃ (p_From:Option Addr) (c_From:Nat) (p_Pre:Option Addr) (c_Pre:Nat) (p_Tube:Option Addr) (c_Tube:Nat) (p_To:Option Addr) (c_To:Nat),L[i]?=some (⟨t.T,t.H,⟨p_From,c_From,t.From⟩,⟨p_Pre,c_Pre,t.Pre⟩,⟨p_Tube,c_Tube,t.Tube⟩,⟨p_To,c_To,t.To⟩⟩:qR):=by
 obtain ⟨y,hy,rfl⟩:=qdH h ht
 exact ⟨y.From.p,y.From.cap,y.Pre.p,y.Pre.cap,y.Tube.p,y.Tube.cap,y.To.p,y.To.cap,hy⟩
abbrev qd9:Enc qt:=Enc.flat 4 qp (by decide) QI (λ_=>rfl)
abbrev QL:Enc (Sl qt):=qd9.row
def q9 (x:List qt):Sl qt:=⟨none,0,x⟩
theorem ZM (x:List qt):Sl.l (q9 x)=x:=rfl
theorem JZ:Wc Tryz.prog 46 2 16 [.int .i64 0,.int .i64 0]:=by unfold Wc; kernel_rfl
theorem qe5:Wc Tryz.prog 48 1 24 [.slice none 0 0]:=by unfold Wc; kernel_rfl
theorem qhT:Wc Tryz.prog 63 6 112 [.int .i64 0,.int .i64 0,.slice none 0 0,.slice none 0 0,.slice none 0 0,.slice none 0 0]:=by unfold Wc; kernel_rfl
theorem qg6:Wc Tryz.prog 59 1 24 [.slice none 0 0]:=by unfold Wc; kernel_rfl
theorem qhA:Wc Tryz.prog 110 5 40 [.int .i64 0,.int .i64 0,.int .i64 0,.int .i64 0,.int .i64 0]:=by unfold Wc; kernel_rfl
theorem qik:Wc Tryz.prog 3 1 8 [.int .i64 0]:=by unfold Wc; kernel_rfl
theorem qe0:Wc Tryz.prog 61 4 32 [.int .i64 0,.int .i64 0,.int .i64 0,.int .i64 0]:=by unfold Wc; kernel_rfl
theorem qiq:Wc Tryz.prog 9 1 16 [.string (⟨#[]⟩:ByteArray)]:=by unfold Wc; kernel_rfl
noncomputable abbrev dlgd_S_TInterval (g:Gh) (i:Nat):=g.dl Sl.l ZD i
noncomputable abbrev slgd_S_TInterval (g:Gh) (i:Nat) x:=Value.slice (g.o i) ((dlgd_S_TInterval g i x).length) (g.n i)
noncomputable abbrev dlgd_TSegment (g:Gh) (i:Nat):=g.dl Yw Z1 i
noncomputable abbrev slgd_TSegment (g:Gh) (i:Nat) x:=Value.slice (g.o i) ((dlgd_TSegment g i x).length) (g.n i)
noncomputable abbrev dlgd_S_TNode (g:Gh) (i:Nat):=g.dl Sl.l q9 i
noncomputable abbrev slgd_S_TNode (g:Gh) (i:Nat) x:=Value.slice (g.o i) ((dlgd_S_TNode g i x).length) (g.n i)
abbrev Qa (p:Option Addr)(n c:Nat) L:=Zz 48 46 2 qa p n c L L
abbrev qq (p:Option Addr)(c:Nat) L:=Zz 48 46 2 qa p L.length c L L
noncomputable abbrev ns_en_TIntervalg (g:Gh) (i:Nat) x:=Zz 48 46 2 qa (g.o i) (dlgd_S_TInterval g i x).length (g.n i) (dlgd_S_TInterval g i x) (dlgd_S_TInterval g i x)
abbrev qae (p:Option Addr)(n c:Nat) L:=Zz 59 61 4 qp p n c L L
abbrev WC (p:Option Addr)(c:Nat) L:=Zz 59 61 4 qp p L.length c L L
noncomputable abbrev ns_en_TNodeg (g:Gh) (i:Nat) x:=Zz 59 61 4 qp (g.o i) (dlgd_S_TNode g i x).length (g.n i) (dlgd_S_TNode g i x) (dlgd_S_TNode g i x)
theorem qhq {x:Int}(h:x=0)(w:World):Calls Tryz.prog 34 #[.iface 32 (.int .i64 x),.iface 32 (.int .i64 0)] w λe w'=>e = .returned (.bool true)∧Below w.heap.size w w':=by
 subst h
 refine (qh0 w).mono ?_
 rintro e w' ⟨rfl,rfl⟩
 exact ⟨rfl,Below.refl _ _⟩
theorem qhz (x:Int)(w:World):Calls Tryz.prog 34 #[.iface 32 (.int .i64 x),.iface 32 (.int .i64 0)] w λe w'=>e = .returned (.bool (x==0))∧Below w.heap.size w w':=by
 by_cases h:x=0
 ·rw [show (x==0)=true by simpa using h]; exact qhq h w
 ·rw [show (x==0)=false by simpa using h]
  refine (qhr x h w).mono ?_
  rintro e w' ⟨rfl,rfl⟩
  exact ⟨rfl,Below.refl _ _⟩
abbrev nn (u : Nu)(i : Nat) : Nat := (u i).n 0
abbrev F9 : List Value := [.func (.func 130) #[] #[],.func (.func 110) #[] #[],.func (.func 90) #[] #[],.func (.func 92) #[] #[],.func (.func 127) #[] #[],.func (.func 91) #[] #[],.func (.func 131) #[] #[],.func (.func 132) #[] #[],.func (.func 133) #[] #[]]
end Go.Proofs.YtpmgpcklieincaaGreatDoor
