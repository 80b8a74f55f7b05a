/- What the printed proofs share: how an element lies in cells, the types' sizes. Printed by a program of this session. -/
import Derived.Test.YtpmgpcklieincaaGreatDoorSxAll1
import Derived.Test.YtpmgpcklieincaaGreatDoorDefs
import Derived.Test.YtpmgpcklieincaaGreatDoorProg
import Derived.Test.YtpmgpcklieincaaGreatDoorErr
set_option linter.unusedVariables false
set_option linter.unusedSimpArgs false
set_option maxRecDepth 100000
set_option maxHeartbeats 4000000
namespace Go.Proofs.YtpmgpcklieincaaGreatDoor
open Go Go.RowKit Go.Sx Go.Proofs
theorem qd:Tryz.prog.follows .mixedOrders=true:=by kernel_rfl
def VO:List Value:=[.func (.func 178) #[] #[],.func (.func 179) #[] #[],.func (.func 180) #[] #[],.func (.func 179) #[] #[],.func (.func 180) #[] #[],.func (.func 181) #[] #[],.func (.func 181) #[] #[],.func (.func 179) #[] #[],.nilFunc,.nilFunc,.func (.func 180) #[] #[],.func (.func 178) #[] #[],.func (.func 181) #[] #[],.func (.func 180) #[] #[],.func (.func 181) #[] #[],.func (.func 178) #[] #[],.func (.func 179) #[] #[],.func (.func 178) #[] #[]]
def Vf:List Value:=[.nilFunc,.nilFunc,.nilFunc,.nilFunc,.nilFunc,.nilFunc,.nilFunc,.nilFunc,.func (.func 110) #[] #[],.nilFunc,.func (.func 91) #[] #[],.nilFunc,.func (.func 182) #[] #[],.nilFunc,.nilFunc,.func (.func 90) #[] #[],.nilFunc,.func (.func 92) #[] #[],.nilFunc,.func (.func 127) #[] #[],.nilFunc,.func (.func 137) #[] #[]]
def W7:List Value:=[.func (.func 181) #[] #[],.func (.func 180) #[] #[],.func (.func 179) #[] #[],.func (.func 178) #[] #[],.func (.func 178) #[] #[],.func (.func 180) #[] #[],.func (.func 179) #[] #[],.func (.func 181) #[] #[],.func (.func 178) #[] #[],.func (.func 179) #[] #[],.func (.func 180) #[] #[],.func (.func 181) #[] #[]]
structure WR (w:World):Prop where
 tab0:∃ e fz,w.heap[0]?=some (.cells VO.toArray e fz)
 tab1:∃ e fz,w.heap[1]?=some (.cells Vf.toArray e fz)
 tab2:∃ e fz,w.heap[2]?=some (.cells W7.toArray e fz)
def W5 (i:Nat):Prop:=i<3
def gk:KV:=.fact W5 WR
theorem Qy {w:World}(h:gk.holds w):WR w:=h w (agree.refl _ _)
theorem Vp {w:World}(h:WR w)(w':World)(ha:agree W5 w w'):WR w':=⟨by obtain ⟨e,fz,he⟩:=h.tab0; exact ⟨e,fz,(ha 0 (show 0<3 by decide)).trans he⟩,by obtain ⟨e,fz,he⟩:=h.tab1; exact ⟨e,fz,(ha 1 (show 1<3 by decide)).trans he⟩,by obtain ⟨e,fz,he⟩:=h.tab2; exact ⟨e,fz,(ha 2 (show 2<3 by decide)).trans he⟩⟩
theorem qdd {w:World}(h:WR w):gk.holds w:=λw' ha=>Vp h w' ha
theorem Yd {w:World}(h:WR w)(i:Nat)(hi:W5 i):i<w.heap.size:=by
 obtain ⟨e,fz,he⟩:=h.tab2
 have h1:=(Array.getElem?_eq_some_iff.1 he).1
 have h2:i<3:=hi
 omega
def qa (x:qb):List Value:=[.int .i64 x.Lo,.int .i64 x.Hi]
theorem qe (x:qb):(qa x).length=2:=rfl
def qi (x:qh):List Value:=[.int .i64 x.Op,.int .i64 x.A,.int .i64 x.B,.int .i64 x.C.Lo,.int .i64 x.C.Hi]
theorem YP (x:qh):(qi x).length=5:=rfl
def q7 (x:Int):List Value:=[.int .i64 x]
theorem JO (x:Int):(q7 x).length=1:=rfl
structure qR where
 T:Int
 H:Int
 From:Sl qb
 Pre:Sl qb
 Tube:Sl qb
 To:Sl qb
def qC (x:qR):List Value:=[.int .i64 x.T,.int .i64 x.H,.slice x.From.p x.From.l.length x.From.cap,.slice x.Pre.p x.Pre.l.length x.Pre.cap,.slice x.Tube.p x.Tube.l.length x.Tube.cap,.slice x.To.p x.To.l.length x.To.cap]
theorem QQ (x:qR):(qC x).length=6:=rfl
def qp (x:qs):List Value:=[.int .i64 x.Op,.int .i64 x.N,.int .i64 x.C.Lo,.int .i64 x.C.Hi]
theorem QJ (x:qs):(qp x).length=4:=rfl
def YV (x:ByteArray):List Value:=[.string x]
theorem qcR (x:ByteArray):(YV x).length=1:=rfl
def qM (x:qh):Value:=.agg #[.int .i64 x.Op,.int .i64 x.A,.int .i64 x.B,.int .i64 x.C.Lo,.int .i64 x.C.Hi]
theorem Vk:qbr Tryz.prog 110 qM:=qes (by kernel_rfl) (λw em x=>by kernel_rfl) (λx y=>by
 have e:eqV Tryz.prog 10000 110 (qM x) (qM y)=some ((x.Op==y.Op)&&((x.A==y.A)&&((x.B==y.B)&&(((x.C.Lo==y.C.Lo)&&((x.C.Hi==y.C.Hi)&&true))&&true)))):=by kernel_rfl
 rw [e]; congr 1
 obtain ⟨_,_,_,⟨_,_⟩⟩:=x; obtain ⟨_,_,_,⟨_,_⟩⟩:=y
 rw [Bool.eq_iff_iff]; simp)
def V5 (x:Int):List Value:=[.int .i8 x]
abbrev Ju:Enc qb:=Enc.flat 2 qa (by decide) qe (λ_=>rfl)
abbrev qU:Enc (Sl qb):=Ju.row
def ZF (x:List qb):Sl qb:=⟨none,0,x⟩
theorem ZJ (x:List qb):Sl.l (ZF x)=x:=rfl
abbrev Qi:Enc qR:=Enc.st 6 qC ((Part.at (Ju).row.toPart λx:qR=>x.From).and ((Part.at (Ju).row.toPart λx:qR=>x.Pre).and ((Part.at (Ju).row.toPart λx:qR=>x.Tube).and (Part.at (Ju).row.toPart λx:qR=>x.To)))) (by decide) QQ (λ_=>rfl)
def Yw (x:qR):qW:=⟨x.T,x.H,x.From.l,x.Pre.l,x.Tube.l,x.To.l⟩
def Z3 (x:qW):qR:=⟨x.T,x.H,⟨none,0,x.From⟩,⟨none,0,x.Pre⟩,⟨none,0,x.Tube⟩,⟨none,0,x.To⟩⟩
theorem Jq (x:qW):Yw (Z3 x)=x:=rfl
theorem ZK {x:List qW}{L:List qR}(h:x=L.map Yw){i:Nat}{t:qW}(ht:x[i]?=some t):∃ (p_From:Option Addr) (c_From:Nat) (p_Pre:Option Addr) (c_Pre:Nat) (p_Tube:Option Addr) (c_Tube:Nat) (p_To:Option Addr) (c_To:Nat),L[i]?=some (⟨t.T,t.H,⟨p_From,c_From,t.From⟩,⟨p_Pre,c_Pre,t.Pre⟩,⟨p_Tube,c_Tube,t.Tube⟩,⟨p_To,c_To,t.To⟩⟩:qR):=by
 obtain ⟨y,hy,rfl⟩:=qec h ht
 exact ⟨y.From.p,y.From.cap,y.Pre.p,y.Pre.cap,y.Tube.p,y.Tube.cap,y.To.p,y.To.cap,hy⟩
abbrev qdy:Enc qs:=Enc.flat 4 qp (by decide) QJ (λ_=>rfl)
abbrev QL:Enc (Sl qs):=qdy.row
def q9 (x:List qs):Sl qs:=⟨none,0,x⟩
theorem ZL (x:List qs):Sl.l (q9 x)=x:=rfl
theorem JV:Wh Tryz.prog 46 2 16 [.int .i64 0,.int .i64 0]:=by unfold Wh; kernel_rfl
theorem qfH:Wh Tryz.prog 48 1 24 [.slice none 0 0]:=by unfold Wh; kernel_rfl
theorem qhW:Wh Tryz.prog 63 6 112 [.int .i64 0,.int .i64 0,.slice none 0 0,.slice none 0 0,.slice none 0 0,.slice none 0 0]:=by unfold Wh; kernel_rfl
theorem qg4:Wh Tryz.prog 59 1 24 [.slice none 0 0]:=by unfold Wh; kernel_rfl
theorem qhJ:Wh Tryz.prog 110 5 40 [.int .i64 0,.int .i64 0,.int .i64 0,.int .i64 0,.int .i64 0]:=by unfold Wh; kernel_rfl
theorem qiq:Wh Tryz.prog 3 1 8 [.int .i64 0]:=by unfold Wh; kernel_rfl
theorem qf9:Wh Tryz.prog 61 4 32 [.int .i64 0,.int .i64 0,.int .i64 0,.int .i64 0]:=by unfold Wh; kernel_rfl
theorem qih:Wh Tryz.prog 9 1 16 [.string (⟨#[]⟩:ByteArray)]:=by unfold Wh; kernel_rfl
noncomputable abbrev dlgd_S_TInterval (g:Gh) (i:Nat):=g.dl Sl.l ZF i
noncomputable abbrev slgd_S_TInterval (g:Gh) (i:Nat) x:=Value.slice (g.o i) ((dlgd_S_TInterval g i x).length) (g.n i)
noncomputable abbrev dlgd_TSegment (g:Gh) (i:Nat):=g.dl Yw Z3 i
noncomputable abbrev slgd_TSegment (g:Gh) (i:Nat) x:=Value.slice (g.o i) ((dlgd_TSegment g i x).length) (g.n i)
noncomputable abbrev dlgd_S_TNode (g:Gh) (i:Nat):=g.dl Sl.l q9 i
noncomputable abbrev slgd_S_TNode (g:Gh) (i:Nat) x:=Value.slice (g.o i) ((dlgd_S_TNode g i x).length) (g.n i)
abbrev Qa (p:Option Addr)(n c:Nat) L:=ZA 48 46 2 qa p n c L L
abbrev qq (p:Option Addr)(c:Nat) L:=ZA 48 46 2 qa p L.length c L L
noncomputable abbrev ns_en_TIntervalg (g:Gh) (i:Nat) x:=ZA 48 46 2 qa (g.o i) (dlgd_S_TInterval g i x).length (g.n i) (dlgd_S_TInterval g i x) (dlgd_S_TInterval g i x)
abbrev qag (p:Option Addr)(n c:Nat) L:=ZA 59 61 4 qp p n c L L
abbrev WG (p:Option Addr)(c:Nat) L:=ZA 59 61 4 qp p L.length c L L
noncomputable abbrev ns_en_TNodeg (g:Gh) (i:Nat) x:=ZA 59 61 4 qp (g.o i) (dlgd_S_TNode g i x).length (g.n i) (dlgd_S_TNode g i x) (dlgd_S_TNode g i x)
theorem qhH {x:Int}(h:x=0)(w:World):Calls Tryz.prog 34 #[.iface 32 (.int .i64 x),.iface 32 (.int .i64 0)] w λe w'=>e = .returned (.bool true)∧Below w.heap.size w w':=by
 subst h
 refine (qhT w).mono ?_
 rintro e w' ⟨rfl,rfl⟩
 exact ⟨rfl,Below.refl _ _⟩
theorem qho (x:Int)(w:World):Calls Tryz.prog 34 #[.iface 32 (.int .i64 x),.iface 32 (.int .i64 0)] w λe w'=>e = .returned (.bool (x==0))∧Below w.heap.size w w':=by
 by_cases h:x=0
 ·rw [show (x==0)=true by simpa using h]; exact qhH h w
 ·rw [show (x==0)=false by simpa using h]
  refine (qhf x h w).mono ?_
  rintro e w' ⟨rfl,rfl⟩
  exact ⟨rfl,Below.refl _ _⟩
abbrev nn (u : Nu)(i : Nat) : Nat := (u i).n 0
abbrev F9 : List Value := [.func (.func 130) #[] #[],.func (.func 110) #[] #[],.func (.func 90) #[] #[],.func (.func 92) #[] #[],.func (.func 127) #[] #[],.func (.func 91) #[] #[],.func (.func 131) #[] #[],.func (.func 132) #[] #[],.func (.func 133) #[] #[]]
end Go.Proofs.YtpmgpcklieincaaGreatDoor
