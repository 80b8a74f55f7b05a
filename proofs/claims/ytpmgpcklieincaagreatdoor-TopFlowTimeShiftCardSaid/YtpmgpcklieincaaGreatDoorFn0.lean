/- Each function of the program answers as the plain Lean function of its name (part 0). Printed by a program of this session. -/
import Derived.Test.YtpmgpcklieincaaGreatDoorEn
set_option linter.unusedVariables false
set_option linter.unusedSimpArgs false
set_option maxRecDepth 100000
set_option maxHeartbeats 4000000
namespace Go.Proofs.YtpmgpcklieincaaGreatDoor
open Go Go.RowKit Go.Sx Go.Proofs
theorem series_intervals.calls (w:World):Calls Tryz.prog 120 #[] w fun e w'=>e = .returned (.agg #[.func (.func 130) #[] #[],.func (.func 110) #[] #[],.func (.func 90) #[] #[],.func (.func 92) #[] #[],.func (.func 127) #[] #[],.func (.func 91) #[] #[],.func (.func 131) #[] #[],.func (.func 132) #[] #[],.func (.func 133) #[] #[]])∧Below w.heap.size w w':=by
  refine QD (args:=[]) 2 Tryz.func120 rfl (by kernel_rfl) (by kernel_rfl) fun a H=>?_
  refine qv ?_
  refine Vh qd H (.cons [0,2] (qs (fun b=>.pointer (some ⟨b,0,none⟩)) (fun ν=>[.nilFunc,.nilFunc,.nilFunc,.nilFunc,.nilFunc,.nilFunc,.nilFunc,.nilFunc,.nilFunc]) 215 0 2)<|.nil) (by kernel_rfl) fun ν1 a w' H=>?_
  replace H:=H.toL [(0,.slot true (.pointer (some ⟨(ν1 0).n 0,0,none⟩))),(2,.blk ((ν1 0).n 0) [.nilFunc,.nilFunc,.nilFunc,.nilFunc,.nilFunc,.nilFunc,.nilFunc,.nilFunc,.nilFunc] 215)] (by kernel_rfl)
  refine qv ?_
  refine Vh qd H (.cons [1] (qn (fun ν=>.agg #[.func (.func 130) #[] #[],.func (.func 110) #[] #[],.func (.func 90) #[] #[],.func (.func 92) #[] #[],.func (.func 127) #[] #[],.func (.func 91) #[] #[],.func (.func 131) #[] #[],.func (.func 132) #[] #[],.func (.func 133) #[] #[]]) 1)<|.cons [2] (qW 2 0 (fun ν=>(ν1 0).n 0) (fun ν=>[.nilFunc,.nilFunc,.nilFunc,.nilFunc,.nilFunc,.nilFunc,.nilFunc,.nilFunc,.nilFunc]) (fun ν=>[.func (.func 130) #[] #[],.func (.func 110) #[] #[],.func (.func 90) #[] #[],.func (.func 92) #[] #[],.func (.func 127) #[] #[],.func (.func 91) #[] #[],.func (.func 131) #[] #[],.func (.func 132) #[] #[],.func (.func 133) #[] #[]]) 215)<|.nil) (by kernel_rfl) fun ν2 a w' H=>?_
  replace H:=H.toL [(0,.slot true (.pointer (some ⟨(ν1 0).n 0,0,none⟩))),(2,.blk ((ν1 0).n 0) [.func (.func 130) #[] #[],.func (.func 110) #[] #[],.func (.func 90) #[] #[],.func (.func 92) #[] #[],.func (.func 127) #[] #[],.func (.func 91) #[] #[],.func (.func 131) #[] #[],.func (.func 132) #[] #[],.func (.func 133) #[] #[]] 215)] (by kernel_rfl)
  refine qF ?_
  exact Qj H _ 2 ((ν1 0).n 0) [.func (.func 130) #[] #[],.func (.func 110) #[] #[],.func (.func 90) #[] #[],.func (.func 92) #[] #[],.func (.func 127) #[] #[],.func (.func 91) #[] #[],.func (.func 131) #[] #[],.func (.func 132) #[] #[],.func (.func 133) #[] #[]] 215 0 9 (by kernel_rfl) (by kernel_rfl) (by kernel_rfl) (by kernel_rfl)
theorem step_restrictTo.calls (a0:List qb) (p_a0:Option Addr) (n_p_a0 c_a0:Nat) (w:World):Calls Tryz.prog 101 #[.slice p_a0 n_p_a0 c_a0] w fun e w'=>∃ b1,e = .returned (.func (.func 122) #[] #[.pointer (some ⟨b1,0,none⟩)])∧Below w.heap.size w w'∧w.heap.size≤b1∧w'.heap[b1]? = some (.cells [.slice p_a0 n_p_a0 c_a0].toArray 48 (0,0)):=by
  refine QD (args:=[.slice p_a0 n_p_a0 c_a0]) 4 Tryz.func101 rfl (by kernel_rfl) (by kernel_rfl) fun a H=>?_
  refine qv ?_
  refine Vh qd H (.cons [1,4] (qs (fun b=>.pointer (some ⟨b,0,none⟩)) (fun _=>[.slice p_a0 n_p_a0 c_a0]) 48 1 4) <|
    .cons [2] (qn (fun _=>.nilFunc) 2)<|.nil) (by kernel_rfl) fun ν1 a w1 H=>?_
  obtain ⟨b1,hb1⟩:∃ b,(ν1 0).n 0=b:=⟨_,rfl⟩
  replace H:=H.toL [(1,.slot true (.pointer (some ⟨(ν1 0).n 0,0,none⟩))),(4,.blk ((ν1 0).n 0) [.slice p_a0 n_p_a0 c_a0] 48)] (by kernel_rfl)
  rw [hb1] at H
  refine qv ?_
  refine Vh qd H (.cons [3] (qn (fun _=>.func (.func 122) #[] #[.pointer (some ⟨b1,0,none⟩)]) 3)<|.cons [2] (qn (fun _=>.func (.func 122) #[] #[.pointer (some ⟨b1,0,none⟩)]) 2)<|.nil) (by kernel_rfl) fun ν2 a w2 H=>?_
  replace H:=H.toL [(2,.slot true (.func (.func 122) #[] #[.pointer (some ⟨b1,0,none⟩)])),(4,.blk b1 [.slice p_a0 n_p_a0 c_a0] 48)] (by kernel_rfl)
  refine qF ?_
  exact ⟨H.defers,_,XZ H (.func (.func 122) #[] #[.pointer (some ⟨b1,0,none⟩)]) [] (by kernel_rfl) (by simp) (by kernel_rfl),b1,rfl,H.below,H.ge 4 b1 trivial rfl,H.holds 4⟩
theorem control_candidates.calls (a0:qH) (a1:Int) (w:World):Calls Tryz.prog 55 #[.agg #[.int .i64 a0.Order,.int .i64 a0.First,.int .i64 a0.Least,.int .i64 a0.Most,.int .i64 a0.Wide],.int .i64 a1] w fun e w'=>∃ b1 b2,e = .returned (.func (.func 76) #[] #[.pointer (some ⟨b2,0,none⟩),.pointer (some ⟨b1,0,none⟩)])∧Below w.heap.size w w'∧w.heap.size≤b1∧w.heap.size≤b2∧b1≠b2∧w'.heap[b1]? = some (.cells [.int .i64 a0.Order,.int .i64 a0.First,.int .i64 a0.Least,.int .i64 a0.Most,.int .i64 a0.Wide].toArray 27 (0,0))∧w'.heap[b2]? = some (.cells [.int .i64 a1].toArray 2 (0,0)):=by
  refine QD (args:=[.agg #[.int .i64 a0.Order,.int .i64 a0.First,.int .i64 a0.Least,.int .i64 a0.Most,.int .i64 a0.Wide],.int .i64 a1]) 6 Tryz.func55 rfl (by kernel_rfl) (by kernel_rfl) fun a H=>?_
  refine qv ?_
  refine Vh qd H (.cons [2,6] (qs (fun b=>.pointer (some ⟨b,0,none⟩)) (fun _=>[.int .i64 a0.Order,.int .i64 a0.First,.int .i64 a0.Least,.int .i64 a0.Most,.int .i64 a0.Wide]) 27 2 6) <|
    .cons [3,7] (qs (fun b=>.pointer (some ⟨b,0,none⟩)) (fun _=>[.int .i64 a1]) 2 3 7) <|
    .cons [4] (qn (fun _=>.nilFunc) 4)<|.nil) (by kernel_rfl) fun ν1 a w1 H=>?_
  obtain ⟨b1,hb1⟩:∃ b,(ν1 0).n 0=b:=⟨_,rfl⟩
  obtain ⟨b2,hb2⟩:∃ b,(ν1 1).n 0=b:=⟨_,rfl⟩
  replace H:=H.toL [(2,.slot true (.pointer (some ⟨(ν1 0).n 0,0,none⟩))),(3,.slot true (.pointer (some ⟨(ν1 1).n 0,0,none⟩))),(6,.blk ((ν1 0).n 0) [.int .i64 a0.Order,.int .i64 a0.First,.int .i64 a0.Least,.int .i64 a0.Most,.int .i64 a0.Wide] 27),(7,.blk ((ν1 1).n 0) [.int .i64 a1] 2)] (by kernel_rfl)
  rw [hb1,hb2] at H
  refine qv ?_
  refine Vh qd H (.cons [5] (qn (fun _=>.func (.func 76) #[] #[.pointer (some ⟨b2,0,none⟩),.pointer (some ⟨b1,0,none⟩)]) 5)<|.cons [4] (qn (fun _=>.func (.func 76) #[] #[.pointer (some ⟨b2,0,none⟩),.pointer (some ⟨b1,0,none⟩)]) 4)<|.nil) (by kernel_rfl) fun ν2 a w2 H=>?_
  replace H:=H.toL [(4,.slot true (.func (.func 76) #[] #[.pointer (some ⟨b2,0,none⟩),.pointer (some ⟨b1,0,none⟩)])),(6,.blk b1 [.int .i64 a0.Order,.int .i64 a0.First,.int .i64 a0.Least,.int .i64 a0.Most,.int .i64 a0.Wide] 27),(7,.blk b2 [.int .i64 a1] 2)] (by kernel_rfl)
  refine qF ?_
  exact ⟨H.defers,_,XZ H (.func (.func 76) #[] #[.pointer (some ⟨b2,0,none⟩),.pointer (some ⟨b1,0,none⟩)]) [] (by kernel_rfl) (by simp) (by kernel_rfl),b1,b2,rfl,H.below,H.ge 6 b1 trivial rfl,H.ge 7 b2 trivial rfl,fun e=>H.disj 6 7 b1 (by decide) trivial rfl e,H.holds 6,H.holds 7⟩
theorem picard_candidates.calls (a0:QE) (p_a0_L:Option Addr) (n_p_a0_L c_a0_L:Nat) (p_a0_Out:Option Addr) (n_p_a0_Out c_a0_Out:Nat) (a1:List qb) (p_a1:Option Addr) (n_p_a1 c_a1:Nat) (a2:Q6) (w:World):Calls Tryz.prog 95 #[.agg #[.int .i64 a0.N,.slice p_a0_L n_p_a0_L c_a0_L,.slice p_a0_Out n_p_a0_Out c_a0_Out],.slice p_a1 n_p_a1 c_a1,.agg #[.int .i64 a2.T,.int .i64 a2.H]] w fun e w'=>∃ b1 b2 b3,e = .returned (.func (.func 111) #[] #[.pointer (some ⟨b2,0,none⟩),.pointer (some ⟨b1,0,none⟩),.pointer (some ⟨b3,0,none⟩)])∧Below w.heap.size w w'∧w.heap.size≤b1∧w.heap.size≤b2∧w.heap.size≤b3∧b1≠b2∧b1≠b3∧b2≠b3∧w'.heap[b1]? = some (.cells [.int .i64 a0.N,.slice p_a0_L n_p_a0_L c_a0_L,.slice p_a0_Out n_p_a0_Out c_a0_Out].toArray 38 (0,0))∧w'.heap[b2]? = some (.cells [.slice p_a1 n_p_a1 c_a1].toArray 48 (0,0))∧w'.heap[b3]? = some (.cells [.int .i64 a2.T,.int .i64 a2.H].toArray 53 (0,0)):=by
  refine QD (args:=[.agg #[.int .i64 a0.N,.slice p_a0_L n_p_a0_L c_a0_L,.slice p_a0_Out n_p_a0_Out c_a0_Out],.slice p_a1 n_p_a1 c_a1,.agg #[.int .i64 a2.T,.int .i64 a2.H]]) 8 Tryz.func95 rfl (by kernel_rfl) (by kernel_rfl) fun a H=>?_
  refine qv ?_
  refine Vh qd H (.cons [3,8] (qs (fun b=>.pointer (some ⟨b,0,none⟩)) (fun _=>[.int .i64 a0.N,.slice p_a0_L n_p_a0_L c_a0_L,.slice p_a0_Out n_p_a0_Out c_a0_Out]) 38 3 8) <|
    .cons [4,9] (qs (fun b=>.pointer (some ⟨b,0,none⟩)) (fun _=>[.slice p_a1 n_p_a1 c_a1]) 48 4 9) <|
    .cons [5,10] (qs (fun b=>.pointer (some ⟨b,0,none⟩)) (fun _=>[.int .i64 a2.T,.int .i64 a2.H]) 53 5 10) <|
    .cons [6] (qn (fun _=>.nilFunc) 6)<|.nil) (by kernel_rfl) fun ν1 a w1 H=>?_
  obtain ⟨b1,hb1⟩:∃ b,(ν1 0).n 0=b:=⟨_,rfl⟩
  obtain ⟨b2,hb2⟩:∃ b,(ν1 1).n 0=b:=⟨_,rfl⟩
  obtain ⟨b3,hb3⟩:∃ b,(ν1 2).n 0=b:=⟨_,rfl⟩
  replace H:=H.toL [(3,.slot true (.pointer (some ⟨(ν1 0).n 0,0,none⟩))),(4,.slot true (.pointer (some ⟨(ν1 1).n 0,0,none⟩))),(5,.slot true (.pointer (some ⟨(ν1 2).n 0,0,none⟩))),(8,.blk ((ν1 0).n 0) [.int .i64 a0.N,.slice p_a0_L n_p_a0_L c_a0_L,.slice p_a0_Out n_p_a0_Out c_a0_Out] 38),(9,.blk ((ν1 1).n 0) [.slice p_a1 n_p_a1 c_a1] 48),(10,.blk ((ν1 2).n 0) [.int .i64 a2.T,.int .i64 a2.H] 53)] (by kernel_rfl)
  rw [hb1,hb2,hb3] at H
  refine qv ?_
  refine Vh qd H (.cons [7] (qn (fun _=>.func (.func 111) #[] #[.pointer (some ⟨b2,0,none⟩),.pointer (some ⟨b1,0,none⟩),.pointer (some ⟨b3,0,none⟩)]) 7)<|.cons [6] (qn (fun _=>.func (.func 111) #[] #[.pointer (some ⟨b2,0,none⟩),.pointer (some ⟨b1,0,none⟩),.pointer (some ⟨b3,0,none⟩)]) 6)<|.nil) (by kernel_rfl) fun ν2 a w2 H=>?_
  replace H:=H.toL [(6,.slot true (.func (.func 111) #[] #[.pointer (some ⟨b2,0,none⟩),.pointer (some ⟨b1,0,none⟩),.pointer (some ⟨b3,0,none⟩)])),(8,.blk b1 [.int .i64 a0.N,.slice p_a0_L n_p_a0_L c_a0_L,.slice p_a0_Out n_p_a0_Out c_a0_Out] 38),(9,.blk b2 [.slice p_a1 n_p_a1 c_a1] 48),(10,.blk b3 [.int .i64 a2.T,.int .i64 a2.H] 53)] (by kernel_rfl)
  refine qF ?_
  exact ⟨H.defers,_,XZ H (.func (.func 111) #[] #[.pointer (some ⟨b2,0,none⟩),.pointer (some ⟨b1,0,none⟩),.pointer (some ⟨b3,0,none⟩)]) [] (by kernel_rfl) (by simp) (by kernel_rfl),b1,b2,b3,rfl,H.below,H.ge 8 b1 trivial rfl,H.ge 9 b2 trivial rfl,H.ge 10 b3 trivial rfl,fun e=>H.disj 8 9 b1 (by decide) trivial rfl e,fun e=>H.disj 8 10 b1 (by decide) trivial rfl e,fun e=>H.disj 9 10 b2 (by decide) trivial rfl e,H.holds 8,H.holds 9,H.holds 10⟩
theorem box_pairs.calls (a0:List qb) (p_a0:Option Addr) (n_p_a0 c_a0:Nat) (a1:List qb) (p_a1:Option Addr) (n_p_a1 c_a1:Nat) (w:World):Calls Tryz.prog 43 #[.slice p_a0 n_p_a0 c_a0,.slice p_a1 n_p_a1 c_a1] w fun e w'=>∃ b1 b2,e = .returned (.func (.func 66) #[] #[.pointer (some ⟨b1,0,none⟩),.pointer (some ⟨b2,0,none⟩)])∧Below w.heap.size w w'∧w.heap.size≤b1∧w.heap.size≤b2∧b1≠b2∧w'.heap[b1]? = some (.cells [.slice p_a0 n_p_a0 c_a0].toArray 48 (0,0))∧w'.heap[b2]? = some (.cells [.slice p_a1 n_p_a1 c_a1].toArray 48 (0,0)):=by
  refine QD (args:=[.slice p_a0 n_p_a0 c_a0,.slice p_a1 n_p_a1 c_a1]) 6 Tryz.func43 rfl (by kernel_rfl) (by kernel_rfl) fun a H=>?_
  refine qv ?_
  refine Vh qd H (.cons [2,6] (qs (fun b=>.pointer (some ⟨b,0,none⟩)) (fun _=>[.slice p_a0 n_p_a0 c_a0]) 48 2 6) <|
    .cons [3,7] (qs (fun b=>.pointer (some ⟨b,0,none⟩)) (fun _=>[.slice p_a1 n_p_a1 c_a1]) 48 3 7) <|
    .cons [4] (qn (fun _=>.nilFunc) 4)<|.nil) (by kernel_rfl) fun ν1 a w1 H=>?_
  obtain ⟨b1,hb1⟩:∃ b,(ν1 0).n 0=b:=⟨_,rfl⟩
  obtain ⟨b2,hb2⟩:∃ b,(ν1 1).n 0=b:=⟨_,rfl⟩
  replace H:=H.toL [(2,.slot true (.pointer (some ⟨(ν1 0).n 0,0,none⟩))),(3,.slot true (.pointer (some ⟨(ν1 1).n 0,0,none⟩))),(6,.blk ((ν1 0).n 0) [.slice p_a0 n_p_a0 c_a0] 48),(7,.blk ((ν1 1).n 0) [.slice p_a1 n_p_a1 c_a1] 48)] (by kernel_rfl)
  rw [hb1,hb2] at H
  refine qv ?_
  refine Vh qd H (.cons [5] (qn (fun _=>.func (.func 66) #[] #[.pointer (some ⟨b1,0,none⟩),.pointer (some ⟨b2,0,none⟩)]) 5)<|.cons [4] (qn (fun _=>.func (.func 66) #[] #[.pointer (some ⟨b1,0,none⟩),.pointer (some ⟨b2,0,none⟩)]) 4)<|.nil) (by kernel_rfl) fun ν2 a w2 H=>?_
  replace H:=H.toL [(4,.slot true (.func (.func 66) #[] #[.pointer (some ⟨b1,0,none⟩),.pointer (some ⟨b2,0,none⟩)])),(6,.blk b1 [.slice p_a0 n_p_a0 c_a0] 48),(7,.blk b2 [.slice p_a1 n_p_a1 c_a1] 48)] (by kernel_rfl)
  refine qF ?_
  exact ⟨H.defers,_,XZ H (.func (.func 66) #[] #[.pointer (some ⟨b1,0,none⟩),.pointer (some ⟨b2,0,none⟩)]) [] (by kernel_rfl) (by simp) (by kernel_rfl),b1,b2,rfl,H.below,H.ge 6 b1 trivial rfl,H.ge 7 b2 trivial rfl,fun e=>H.disj 6 7 b1 (by decide) trivial rfl e,H.holds 6,H.holds 7⟩
theorem X9.calls (a0:Int) (r:qH) (w:World) (G:X9 a0=some r) :
  Calls Tryz.prog 29 #[.int .u8 a0] w fun e w'=>e = .returned (.agg #[vI r.Order,vI r.First,vI r.Least,vI r.Most,vI r.Wide])∧Below w.heap.size w w':=by
 refine QD (args:=[.int .u8 a0]) 8 Tryz.func29 rfl (by kernel_rfl) (by kernel_rfl) fun a H=>?_
 unfold X9 at G
 refine qg qd H (.cons [2,8] (qs (fun b=>vP b 0) (fun u1=>[vI 0,vI 0,vI 0,vI 0,vI 0]) 27 2 8)<|.nil) [0,2,8] fun u1 a w' H=>?_
 refine qg qd H (.v 3 (.int .u8 a0) <|
 .v 4 (.int .u8 (Int.tmod a0 3)) <|
 .v 5 (vI (qc (Int.tmod a0 3))) <|
 .v 6 (vI (qc (1+(qc (Int.tmod a0 3))))) <|
 .v 7 (.agg #[vI (qc (1+(qc (Int.tmod a0 3)))),vI 4096,vI 1024,vI 16384,vI 16777216]) <|
 .cons [8] (Qa 8 0 ((u1 0).n 0) [vI 0,vI 0,vI 0,vI 0,vI 0] [vI (qc (1+(qc (Int.tmod a0 3)))),vI 4096,vI 1024,vI 16384,vI 16777216] 27 [vI (qc (1+(qc (Int.tmod a0 3)))),vI 4096,vI 1024,vI 16384,vI 16777216])<|.nil) [2,8] fun u2 a w' H=>?_
 refine qF ?_
 obtain rfl:=sj G
 exact Qj H _ 8 ((u1 0).n 0) [vI (qc (1+(qc (Int.tmod a0 3)))),vI 4096,vI 1024,vI 16384,vI 16777216] 27 0 5 (by kernel_rfl) (by kernel_rfl) (by kernel_rfl) (by kernel_rfl)
theorem Q0.calls (a0:Int) (a1:Int) (a2:Int) (r:Zu) (w:World) (G:Q0 a0 a1 a2=some r) :
  Calls Tryz.prog 10 #[.int .u8 a0,.int .i8 a1,.int .u8 a2] w fun e w'=>e = .returned (.agg #[vI r.Ctrl.Order,vI r.Ctrl.First,vI r.Ctrl.Least,vI r.Ctrl.Most,vI r.Ctrl.Wide,vI r.T,vI r.Last])∧Below w.heap.size w w':=by
 refine QD (args:=[.int .u8 a0,.int .i8 a1,.int .u8 a2]) 22 Tryz.func10 rfl (by kernel_rfl) (by kernel_rfl) fun a H=>?_
 unfold Q0 at G
 refine qg qd H (.cons [6,22] (qs (fun b=>vP b 0) (fun u1=>[vI 0,vI 0,vI 0,vI 0,vI 0,vI 0,vI 0]) 29 6 22)<|.nil) [0,1,2,6,22] fun u1 a w' H=>?_
 refine qg qd H (.v 8 (.int .i8 a1) <|
 .v 9 (vI (qc a1)) <|
 .v 10 (vI (qc ((qc a1) * 65536))) <|
 .v 7 (vI (qc ((qc a1) * 65536)))<|.nil) [0,2,6,7,22] fun u2 a w' H=>?_
 obtain ⟨t4,ht4,G⟩:=qP G
 obtain ⟨z5,hz5,G⟩:=qP G
 replace hz5:=Option.some.inj hz5
 refine qg qd H (.v 11 (.int .u8 a0) <|
 .cons [12] (qq 29 _ _ 12 [] (fun u3 w _=>X9.calls a0  t4 w  ht4)) <|
 .v 13 (vI (qc ((qc a1) * 65536))) <|
 .v 14 (vI (qc ((qc a1) * 65536))) <|
 .v 15 (.int .u8 a2) <|
 .v 16 (.int .u8 (Int.tmod a2 64)) <|
 .v 17 (vI (qc (Int.tmod a2 64))) <|
 .v 18 (vI (qc (1+(qc (Int.tmod a2 64))))) <|
 .v 19 (vI (qc ((qc (1+(qc (Int.tmod a2 64)))) * 4096))) <|
 .cons [20] (QL (u':=fun u3=>[(20,sI z5)]) (qn (fun u3=>vI (qc ((qc ((qc a1) * 65536))+(qc ((qc (1+(qc (Int.tmod a2 64)))) * 4096))))) 20) (fun _=>by rw [← hz5])) <|
 .v 21 (.agg #[vI t4.Order,vI t4.First,vI t4.Least,vI t4.Most,vI t4.Wide,vI (qc ((qc a1) * 65536)),vI z5]) <|
 .cons [22] (Qa 22 0 ((u1 0).n 0) [vI 0,vI 0,vI 0,vI 0,vI 0,vI 0,vI 0] [vI t4.Order,vI t4.First,vI t4.Least,vI t4.Most,vI t4.Wide,vI (qc ((qc a1) * 65536)),vI z5] 29 [vI t4.Order,vI t4.First,vI t4.Least,vI t4.Most,vI t4.Wide,vI (qc ((qc a1) * 65536)),vI z5])<|.nil) [6,22] fun u3 a w' H=>?_
 refine qF ?_
 obtain rfl:=sj G
 exact Qj H _ 22 ((u1 0).n 0) [vI t4.Order,vI t4.First,vI t4.Least,vI t4.Most,vI t4.Wide,vI (qc ((qc a1) * 65536)),vI z5] 29 0 7 (by kernel_rfl) (by kernel_rfl) (by kernel_rfl) (by kernel_rfl)
theorem Zd.calls (a0:qH) (r:Bool) (w:World) (G:Zd a0=some r) :
  Calls Tryz.prog 30 #[.agg #[vI a0.Order,vI a0.First,vI a0.Least,vI a0.Most,vI a0.Wide]] w fun e w'=>e = .returned (.bool r)∧Below w.heap.size w w':=by
 refine QD (args:=[.agg #[vI a0.Order,vI a0.First,vI a0.Least,vI a0.Most,vI a0.Wide]]) 47 Tryz.func30 rfl (by kernel_rfl) (by kernel_rfl) fun a H=>?_
 unfold Zd at G
 refine qg qd H (.cons [1,47] (qs (fun b=>vP b 0) (fun u1=>[vI a0.Order,vI a0.First,vI a0.Least,vI a0.Most,vI a0.Wide]) 27 1 47) <|
 .v 2 (.bool false)<|.nil) [1,47] fun u1 a w' H=>?_
 obtain ⟨z3,hz3,G⟩:=qP G
 replace hz3:=Option.some.inj hz3
 refine qg qd H (.v 4 (vP ((u1 0).n 0) 2) <|
 .cons [5] (qf (vI a0.Least) 5 47 2 1 ((u1 0).n 0) [vI a0.Order,vI a0.First,vI a0.Least,vI a0.Most,vI a0.Wide] 27) <|
 .v 6 (.bool (decide (1≤a0.Least))) <|
 .v 7 (.bool (decide (1≤a0.Least))) <|
 .cons [8] (qQ (fun u2=>vP ((u1 0).n 0) 2) (fun u2=>((decide (1≤a0.Least)) == true)) [true] 8) <|
 .cons [9] (YS (fun u2=>vI a0.Least) (fun u2=>((decide (1≤a0.Least)) == true)) [false] 9 47 2 1 (fun u2=>((u1 0).n 0)) (fun u2=>[vI a0.Order,vI a0.First,vI a0.Least,vI a0.Most,vI a0.Wide]) 27) <|
 .cons [10] (qQ (fun u2=>vP ((u1 0).n 0) 1) (fun u2=>((decide (1≤a0.Least)) == true)) [true] 10) <|
 .cons [11] (YS (fun u2=>vI a0.First) (fun u2=>((decide (1≤a0.Least)) == true)) [false] 11 47 1 1 (fun u2=>((u1 0).n 0)) (fun u2=>[vI a0.Order,vI a0.First,vI a0.Least,vI a0.Most,vI a0.Wide]) 27) <|
 .cons [12] (qQ (fun u2=>.bool (decide (a0.Least≤a0.First))) (fun u2=>((decide (1≤a0.Least)) == true)) [false,false] 12) <|
 .cons [13] (YY 7 12 (fun u2=>true) (fun u2=>true) (fun u2=>decide (1≤a0.Least)) (fun u2=>decide (a0.Least≤a0.First)) 13) <|
 .v 14 (.bool ((decide (1≤a0.Least)) && (decide (a0.Least≤a0.First)))) <|
 .cons [15] (qQ (fun u2=>vP ((u1 0).n 0) 1) (fun u2=>(((decide (1≤a0.Least)) && (decide (a0.Least≤a0.First))) == true)) [true] 15) <|
 .cons [16] (YS (fun u2=>vI a0.First) (fun u2=>(((decide (1≤a0.Least)) && (decide (a0.Least≤a0.First))) == true)) [false] 16 47 1 1 (fun u2=>((u1 0).n 0)) (fun u2=>[vI a0.Order,vI a0.First,vI a0.Least,vI a0.Most,vI a0.Wide]) 27) <|
 .cons [17] (qQ (fun u2=>vP ((u1 0).n 0) 3) (fun u2=>(((decide (1≤a0.Least)) && (decide (a0.Least≤a0.First))) == true)) [true] 17) <|
 .cons [18] (YS (fun u2=>vI a0.Most) (fun u2=>(((decide (1≤a0.Least)) && (decide (a0.Least≤a0.First))) == true)) [false] 18 47 3 1 (fun u2=>((u1 0).n 0)) (fun u2=>[vI a0.Order,vI a0.First,vI a0.Least,vI a0.Most,vI a0.Wide]) 27) <|
 .cons [19] (qQ (fun u2=>.bool (decide (a0.First≤a0.Most))) (fun u2=>(((decide (1≤a0.Least)) && (decide (a0.Least≤a0.First))) == true)) [false,false] 19) <|
 .cons [20] (YY 14 19 (fun u2=>true) (fun u2=>true) (fun u2=>((decide (1≤a0.Least)) && (decide (a0.Least≤a0.First)))) (fun u2=>decide (a0.First≤a0.Most)) 20) <|
 .cons [21] (QL (u':=fun u2=>[(21,sB z3)]) (qn (fun u2=>.bool (((decide (1≤a0.Least)) && (decide (a0.Least≤a0.First))) && (decide (a0.First≤a0.Most)))) 21) (fun _=>by rw [← hz3])) <|
 .cons [22] (qQ (fun u2=>vP ((u1 0).n 0) 3) (fun u2=>(z3 == true)) [true] 22) <|
 .cons [23] (YS (fun u2=>vI a0.Most) (fun u2=>(z3 == true)) [false] 23 47 3 1 (fun u2=>((u1 0).n 0)) (fun u2=>[vI a0.Order,vI a0.First,vI a0.Least,vI a0.Most,vI a0.Wide]) 27) <|
 .cons [24] (qQ (fun u2=>.bool (decide (a0.Most<2147483648))) (fun u2=>(z3 == true)) [false,true] 24) <|
 .cons [25] (YY 21 24 (fun u2=>true) (fun u2=>true) (fun u2=>z3) (fun u2=>decide (a0.Most<2147483648)) 25) <|
 .v 3 (.bool (z3 && (decide (a0.Most<2147483648))))<|.nil) [1,3,47] fun u2 a w' H=>?_
 obtain ⟨z5,hz5,G⟩:=qP G
 replace hz5:=Option.some.inj hz5
 refine qg qd H (.v 26 (vP ((u1 0).n 0) 0) <|
 .cons [27] (qf (vI a0.Order) 27 47 0 1 ((u1 0).n 0) [vI a0.Order,vI a0.First,vI a0.Least,vI a0.Most,vI a0.Wide] 27) <|
 .v 28 (.bool (decide (a0.Order ≥ 1))) <|
 .v 29 (.bool (decide (a0.Order ≥ 1))) <|
 .cons [30] (qQ (fun u4=>vP ((u1 0).n 0) 0) (fun u4=>((decide (a0.Order ≥ 1)) == true)) [true] 30) <|
 .cons [31] (YS (fun u4=>vI a0.Order) (fun u4=>((decide (a0.Order ≥ 1)) == true)) [false] 31 47 0 1 (fun u4=>((u1 0).n 0)) (fun u4=>[vI a0.Order,vI a0.First,vI a0.Least,vI a0.Most,vI a0.Wide]) 27) <|
 .cons [32] (qQ (fun u4=>.bool (decide (a0.Order<8))) (fun u4=>((decide (a0.Order ≥ 1)) == true)) [false,true] 32) <|
 .cons [33] (YY 29 32 (fun u4=>true) (fun u4=>true) (fun u4=>decide (a0.Order ≥ 1)) (fun u4=>decide (a0.Order<8)) 33) <|
 .v 34 (.bool ((decide (a0.Order ≥ 1)) && (decide (a0.Order<8)))) <|
 .cons [35] (qQ (fun u4=>.bool (z3 && (decide (a0.Most<2147483648)))) (fun u4=>(((decide (a0.Order ≥ 1)) && (decide (a0.Order<8))) == true)) [true] 35) <|
 .cons [36] (YY 34 35 (fun u4=>true) (fun u4=>true) (fun u4=>((decide (a0.Order ≥ 1)) && (decide (a0.Order<8)))) (fun u4=>(z3 && (decide (a0.Most<2147483648)))) 36) <|
 .cons [37] (QL (u':=fun u4=>[(37,sB z5)]) (qn (fun u4=>.bool (((decide (a0.Order ≥ 1)) && (decide (a0.Order<8))) && (z3 && (decide (a0.Most<2147483648))))) 37) (fun _=>by rw [← hz5])) <|
 .cons [38] (qQ (fun u4=>vP ((u1 0).n 0) 4) (fun u4=>(z5 == true)) [true] 38) <|
 .cons [39] (YS (fun u4=>vI a0.Wide) (fun u4=>(z5 == true)) [false] 39 47 4 1 (fun u4=>((u1 0).n 0)) (fun u4=>[vI a0.Order,vI a0.First,vI a0.Least,vI a0.Most,vI a0.Wide]) 27) <|
 .cons [40] (qQ (fun u4=>.bool (decide (a0.Wide ≥ 1))) (fun u4=>(z5 == true)) [false,true] 40) <|
 .cons [41] (YY 37 40 (fun u4=>true) (fun u4=>true) (fun u4=>z5) (fun u4=>decide (a0.Wide ≥ 1)) 41) <|
 .v 42 (.bool (z5 && (decide (a0.Wide ≥ 1)))) <|
 .cons [43] (qQ (fun u4=>vP ((u1 0).n 0) 4) (fun u4=>((z5 && (decide (a0.Wide ≥ 1))) == true)) [true] 43) <|
 .cons [44] (YS (fun u4=>vI a0.Wide) (fun u4=>((z5 && (decide (a0.Wide ≥ 1))) == true)) [false] 44 47 4 1 (fun u4=>((u1 0).n 0)) (fun u4=>[vI a0.Order,vI a0.First,vI a0.Least,vI a0.Most,vI a0.Wide]) 27) <|
 .cons [45] (qQ (fun u4=>.bool (decide (a0.Wide<2147483648))) (fun u4=>((z5 && (decide (a0.Wide ≥ 1))) == true)) [false,true] 45) <|
 .cons [46] (YY 42 45 (fun u4=>true) (fun u4=>true) (fun u4=>(z5 && (decide (a0.Wide ≥ 1)))) (fun u4=>decide (a0.Wide<2147483648)) 46) <|
 .v 2 (.bool ((z5 && (decide (a0.Wide ≥ 1))) && (decide (a0.Wide<2147483648))))<|.nil) [2] fun u4 a w' H=>?_
 refine qF ?_
 obtain rfl:=sj G
 exact Qr H _ (by kernel_rfl) (by kernel_rfl)
theorem YM.calls (a0:Int) (r:Bool) (w:World) (G:YM a0=some r) :
  Calls Tryz.prog 31 #[vI a0] w fun e w'=>e = .returned (.bool r)∧Below w.heap.size w w':=by
 refine QD (args:=[vI a0]) 9 Tryz.func31 rfl (by kernel_rfl) (by kernel_rfl) fun a H=>?_
 unfold YM at G
 refine qg qd H (.v 2 (.bool false)<|.nil) [0] fun u1 a w' H=>?_
 refine qg qd H (.v 3 (vI a0) <|
 .v 4 (.bool (decide ((-2147483648)<a0))) <|
 .v 5 (.bool (decide ((-2147483648)<a0))) <|
 .cons [6] (qQ (fun u2=>vI a0) (fun u2=>((decide ((-2147483648)<a0)) == true)) [true] 6) <|
 .cons [7] (qQ (fun u2=>.bool (decide (a0<2147483648))) (fun u2=>((decide ((-2147483648)<a0)) == true)) [false,true] 7) <|
 .cons [8] (YY 5 7 (fun u2=>true) (fun u2=>true) (fun u2=>decide ((-2147483648)<a0)) (fun u2=>decide (a0<2147483648)) 8) <|
 .v 2 (.bool ((decide ((-2147483648)<a0)) && (decide (a0<2147483648))))<|.nil) [2] fun u2 a w' H=>?_
 refine qF ?_
 obtain rfl:=sj G
 exact Qr H _ (by kernel_rfl) (by kernel_rfl)
theorem Y9.calls (a0:qH) (a1:Int) (r:Int) (w:World) (G:Y9 a0 a1=some r) :
  Calls Tryz.prog 32 #[.agg #[vI a0.Order,vI a0.First,vI a0.Least,vI a0.Most,vI a0.Wide],vI a1] w fun e w'=>e = .returned (vI r)∧Below w.heap.size w w':=by
 refine QD (args:=[.agg #[vI a0.Order,vI a0.First,vI a0.Least,vI a0.Most,vI a0.Wide],vI a1]) 9 Tryz.func32 rfl (by kernel_rfl) (by kernel_rfl) fun a H=>?_
 unfold Y9 at G
 refine qg qd H (.cons [2,9] (qs (fun b=>vP b 0) (fun u1=>[vI a0.Order,vI a0.First,vI a0.Least,vI a0.Most,vI a0.Wide]) 27 2 9) <|
 .v 4 (vI 0)<|.nil) [1,2,9] fun u1 a w' H=>?_
 refine qg qd H (.v 5 (vP ((u1 0).n 0) 1) <|
 .cons [6] (qf (vI a0.First) 6 9 1 1 ((u1 0).n 0) [vI a0.Order,vI a0.First,vI a0.Least,vI a0.Most,vI a0.Wide] 27) <|
 .v 7 (vI a1) <|
 .v 8 (vI (mn a0.First a1)) <|
 .v 4 (vI (mn a0.First a1))<|.nil) [4] fun u2 a w' H=>?_
 refine qF ?_
 obtain rfl:=sj G
 exact Qr H _ (by kernel_rfl) (by kernel_rfl)
theorem YP.calls (a0:qH) (a1:Int) (r:Int × Int) (w:World) (G:YP a0 a1=some r) :
  Calls Tryz.prog 77 #[.agg #[vI a0.Order,vI a0.First,vI a0.Least,vI a0.Most,vI a0.Wide],vI a1] w fun e w'=>e = .returned (.tuple #[vI r.1,vI r.2])∧Below w.heap.size w w':=by
 refine QD (args:=[.agg #[vI a0.Order,vI a0.First,vI a0.Least,vI a0.Most,vI a0.Wide],vI a1]) 13 Tryz.func77 rfl (by kernel_rfl) (by kernel_rfl) fun a H=>?_
 unfold YP at G
 refine qg qd H (.cons [2,13] (qs (fun b=>vP b 0) (fun u1=>[vI a0.Order,vI a0.First,vI a0.Least,vI a0.Most,vI a0.Wide]) 27 2 13) <|
 .v 4 (vI 0) <|
 .v 5 (vI 0)<|.nil) [1,2,13] fun u1 a w' H=>?_
 refine qv ?_
 refine qg qd H (.v 6 (vI a1) <|
 .v 7 (vI (qc (Int.tdiv a1 2))) <|
 .v 8 (vP ((u1 0).n 0) 2) <|
 .cons [9] (qf (vI a0.Least) 9 13 2 1 ((u1 0).n 0) [vI a0.Order,vI a0.First,vI a0.Least,vI a0.Most,vI a0.Wide] 27) <|
 .v 10 (.bool (decide ((qc (Int.tdiv a1 2))<a0.Least)))<|.nil) [1,10] fun u2 a w' H=>?_
 refine Qx H (decide ((qc (Int.tdiv a1 2))<a0.Least)) (fun c5=>?_) fun c5=>?_
 ·rw [if_pos c5] at G
  refine qg qd H (.v 4 (vI 0) <|
 .v 5 (vI 130)<|.nil) [4,5] fun u3 a w' H=>?_
  refine qF ?_
  obtain rfl:=sj G
  exact Qr H _ (by kernel_rfl) (by kernel_rfl)
 ·rw [if_neg (nt c5)] at G
  refine Qf ?_
  refine qg qd H (.v 11 (vI a1) <|
 .v 12 (vI (qc (Int.tdiv a1 2))) <|
 .v 4 (vI (qc (Int.tdiv a1 2))) <|
 .v 5 (vI 0)<|.nil) [4,5] fun u4 a w' H=>?_
  refine qF ?_
  obtain rfl:=sj G
  exact Qr H _ (by kernel_rfl) (by kernel_rfl)
theorem QT.calls (r:qb) (w:World) (G:QT=some r) :
  Calls Tryz.prog 48 #[] w fun e w'=>e = .returned (.agg #[vI r.Lo,vI r.Hi])∧Below w.heap.size w w':=by
 refine QD (args:=[]) 2 Tryz.func48 rfl (by kernel_rfl) (by kernel_rfl) fun a H=>?_
 unfold QT at G
 refine qg qd H (.cons [0,2] (qs (fun b=>vP b 0) (fun u1=>[vI 0,vI 0]) 46 0 2)<|.nil) [0,2] fun u1 a w' H=>?_
 refine qg qd H (.v 1 (.agg #[vI (-2147483648),vI 2147483648]) <|
 .cons [2] (Qa 2 0 ((u1 0).n 0) [vI 0,vI 0] [vI (-2147483648),vI 2147483648] 46 [vI (-2147483648),vI 2147483648])<|.nil) [0,2] fun u2 a w' H=>?_
 refine qF ?_
 obtain rfl:=sj G
 exact Qj H _ 2 ((u1 0).n 0) [vI (-2147483648),vI 2147483648] 46 0 2 (by kernel_rfl) (by kernel_rfl) (by kernel_rfl) (by kernel_rfl)
theorem qI.calls (a0:Int) (a1:Int) (r:qb) (w:World) (G:qI a0 a1=some r) :
  Calls Tryz.prog 68 #[vI a0,vI a1] w fun e w'=>e = .returned (.agg #[vI r.Lo,vI r.Hi])∧Below w.heap.size w w':=by
 refine QD (args:=[vI a0,vI a1]) 23 Tryz.func68 rfl (by kernel_rfl) (by kernel_rfl) fun a H=>?_
 unfold qI at G
 refine qg qd H (.cons [4,23] (qs (fun b=>vP b 0) (fun u1=>[vI 0,vI 0]) 46 4 23)<|.nil) [0,1,4,23] fun u1 a w' H=>?_
 refine qv ?_
 obtain ⟨z3,hz3,G⟩:=qP G
 replace hz3:=Option.some.inj hz3
 refine qg qd H (.v 5 (vI a0) <|
 .v 6 (.bool (decide (a0≤(-2147483648)))) <|
 .v 7 (.bool (decide (a0≤(-2147483648)))) <|
 .cons [8] (qQ (fun u2=>vI a1) (fun u2=>((decide (a0≤(-2147483648))) == false)) [true] 8) <|
 .cons [9] (qQ (fun u2=>.bool (decide (a1 ≥ 2147483648))) (fun u2=>((decide (a0≤(-2147483648))) == false)) [false,true] 9) <|
 .cons [10] (ZM 7 9 (fun u2=>true) (fun u2=>true) (fun u2=>decide (a0≤(-2147483648))) (fun u2=>decide (a1 ≥ 2147483648)) 10) <|
 .v 11 (.bool ((decide (a0≤(-2147483648))) || (decide (a1 ≥ 2147483648)))) <|
 .cons [12] (qQ (fun u2=>vI a0) (fun u2=>(((decide (a0≤(-2147483648))) || (decide (a1 ≥ 2147483648))) == false)) [true] 12) <|
 .cons [13] (qQ (fun u2=>.bool (decide (a0 ≥ 2147483648))) (fun u2=>(((decide (a0≤(-2147483648))) || (decide (a1 ≥ 2147483648))) == false)) [false,true] 13) <|
 .cons [14] (ZM 11 13 (fun u2=>true) (fun u2=>true) (fun u2=>((decide (a0≤(-2147483648))) || (decide (a1 ≥ 2147483648)))) (fun u2=>decide (a0 ≥ 2147483648)) 14) <|
 .cons [15] (QL (u':=fun u2=>[(15,sB z3)]) (qn (fun u2=>.bool (((decide (a0≤(-2147483648))) || (decide (a1 ≥ 2147483648))) || (decide (a0 ≥ 2147483648)))) 15) (fun _=>by rw [← hz3])) <|
 .cons [16] (qQ (fun u2=>vI a1) (fun u2=>(z3 == false)) [true] 16) <|
 .cons [17] (qQ (fun u2=>.bool (decide (a1≤(-2147483648)))) (fun u2=>(z3 == false)) [false,true] 17) <|
 .cons [18] (ZM 15 17 (fun u2=>true) (fun u2=>true) (fun u2=>z3) (fun u2=>decide (a1≤(-2147483648))) 18)<|.nil) [0,1,4,18,23] fun u2 a w' H=>?_
 refine Qx H (z3 || (decide (a1≤(-2147483648)))) (fun c7=>?_) fun c7=>?_
 ·rw [if_pos c7] at G
  obtain ⟨t5,ht5,G⟩:=qP G
  refine qg qd H (.cons [19] (qq 48 _ _ 19 [] (fun u4 w _=>QT.calls   t5 w  ht5)) <|
 .cons [23] (Qa 23 0 ((u1 0).n 0) [vI 0,vI 0] [vI t5.Lo,vI t5.Hi] 46 [vI t5.Lo,vI t5.Hi])<|.nil) [4,23] fun u4 a w' H=>?_
  refine qF ?_
  obtain rfl:=sj G
  exact Qj H _ 23 ((u1 0).n 0) [vI t5.Lo,vI t5.Hi] 46 0 2 (by kernel_rfl) (by kernel_rfl) (by kernel_rfl) (by kernel_rfl)
 ·rw [if_neg (nt c7)] at G
  refine Qf ?_
  refine qg qd H (.v 20 (vI a0) <|
 .v 21 (vI a1) <|
 .v 22 (.agg #[vI a0,vI a1]) <|
 .cons [23] (Qa 23 0 ((u1 0).n 0) [vI 0,vI 0] [vI a0,vI a1] 46 [vI a0,vI a1])<|.nil) [4,23] fun u6 a w' H=>?_
  refine qF ?_
  obtain rfl:=sj G
  exact Qj H _ 23 ((u1 0).n 0) [vI a0,vI a1] 46 0 2 (by kernel_rfl) (by kernel_rfl) (by kernel_rfl) (by kernel_rfl)
theorem qV.calls (a0:qb) (r:Bool) (w:World) (G:qV a0=some r) :
  Calls Tryz.prog 21 #[.agg #[vI a0.Lo,vI a0.Hi]] w fun e w'=>e = .returned (.bool r)∧Below w.heap.size w w':=by
 refine QD (args:=[.agg #[vI a0.Lo,vI a0.Hi]]) 6 Tryz.func21 rfl (by kernel_rfl) (by kernel_rfl) fun a H=>?_
 unfold qV at G
 refine qg qd H (.cons [1,6] (qs (fun b=>vP b 0) (fun u1=>[vI a0.Lo,vI a0.Hi]) 46 1 6) <|
 .v 2 (.bool false)<|.nil) [1,6] fun u1 a w' H=>?_
 obtain ⟨t3,ht3,G⟩:=qP G
 refine qg qd H (.cons [3] (qf (.agg #[vI a0.Lo,vI a0.Hi]) 3 6 0 2 ((u1 0).n 0) [vI a0.Lo,vI a0.Hi] 46) <|
 .cons [4] (qq 48 _ _ 4 [] (fun u2 w _=>QT.calls   t3 w  ht3)) <|
 .cons [5] (qn (fun u2=>.bool ((a0.Lo == t3.Lo) && ((a0.Hi == t3.Hi) && true))) 5 (hv:=fun _ _=>Zz (by kernel_rfl) (Vr (t:=46) (x:=(.tmp 3)) (y:=(.tmp 4)) (xs:=#[vI a0.Lo,vI a0.Hi]) (ys:=#[vI t3.Lo,vI t3.Hi]) (b:=((a0.Lo == t3.Lo) && ((a0.Hi == t3.Hi) && true))) (by kernel_rfl) (by kernel_rfl)))) <|
 .v 2 (.bool ((a0.Lo == t3.Lo) && ((a0.Hi == t3.Hi) && true)))<|.nil) [2] fun u2 a w' H=>?_
 refine qF ?_
 obtain rfl:=sj G
 exact Qr H _ (by kernel_rfl) (by kernel_rfl)
theorem QU.calls (a0:qb) (a1:qb) (r:qb) (w:World) (G:QU a0 a1=some r) :
  Calls Tryz.prog 90 #[.agg #[vI a0.Lo,vI a0.Hi],.agg #[vI a1.Lo,vI a1.Hi]] w fun e w'=>e = .returned (.agg #[vI r.Lo,vI r.Hi])∧Below w.heap.size w w':=by
 refine QD (args:=[.agg #[vI a0.Lo,vI a0.Hi],.agg #[vI a1.Lo,vI a1.Hi]]) 23 Tryz.func90 rfl (by kernel_rfl) (by kernel_rfl) fun a H=>?_
 unfold QU at G
 refine qg qd H (.cons [2,23] (qs (fun b=>vP b 0) (fun u1=>[vI a0.Lo,vI a0.Hi]) 46 2 23) <|
 .cons [3,24] (qs (fun b=>vP b 0) (fun u1=>[vI a1.Lo,vI a1.Hi]) 46 3 24) <|
 .cons [4,25] (qs (fun b=>vP b 0) (fun u1=>[vI 0,vI 0]) 46 4 25)<|.nil) [2,3,4,23,24,25] fun u1 a w' H=>?_
 refine qv ?_
 obtain ⟨t3,ht3,G⟩:=qP G
 obtain ⟨t4,ht4,G⟩:=qP G
 refine qg qd H (.cons [5] (qf (.agg #[vI a0.Lo,vI a0.Hi]) 5 23 0 2 ((u1 0).n 0) [vI a0.Lo,vI a0.Hi] 46) <|
 .cons [6] (qq 21 _ _ 6 [] (fun u2 w _=>qV.calls a0  t3 w  ht3)) <|
 .v 7 (.bool t3) <|
 .cons [8] (YS (fun u2=>.agg #[vI a1.Lo,vI a1.Hi]) (fun u2=>(t3 == false)) [true] 8 24 0 2 (fun u2=>((u1 1).n 0)) (fun u2=>[vI a1.Lo,vI a1.Hi]) 46) <|
 .cons [9] (ZR 21 (fun u2=>#[.agg #[vI a1.Lo,vI a1.Hi]]) (.bool t4) (fun u2=>(t3 == false)) [true,false] 9 [] (fun u2 w hg _=>qV.calls a1  t4 w  (ifp ht4 hg))) <|
 .cons [10] (ZM 7 9 (fun u2=>true) (fun u2=>true) (fun u2=>t3) (fun u2=>t4) 10)<|.nil) [2,3,4,10,23,24,25] fun u2 a w' H=>?_
 refine Qx H (t3 || t4) (fun c9=>?_) fun c9=>?_
 ·rw [if_pos c9] at G
  obtain ⟨t6,ht6,G⟩:=qP G
  refine qg qd H (.cons [11] (qq 48 _ _ 11 [] (fun u5 w _=>QT.calls   t6 w  ht6)) <|
 .cons [25] (Qa 25 0 ((u1 2).n 0) [vI 0,vI 0] [vI t6.Lo,vI t6.Hi] 46 [vI t6.Lo,vI t6.Hi])<|.nil) [4,25] fun u5 a w' H=>?_
  refine qF ?_
  obtain rfl:=sj G
  exact Qj H _ 25 ((u1 2).n 0) [vI t6.Lo,vI t6.Hi] 46 0 2 (by kernel_rfl) (by kernel_rfl) (by kernel_rfl) (by kernel_rfl)
 ·rw [if_neg (nt c9)] at G
  refine Qf ?_
  obtain ⟨t8,ht8,G⟩:=qP G
  refine qg qd H (.v 12 (vP ((u1 0).n 0) 0) <|
 .cons [13] (qf (vI a0.Lo) 13 23 0 1 ((u1 0).n 0) [vI a0.Lo,vI a0.Hi] 46) <|
 .v 14 (vP ((u1 1).n 0) 0) <|
 .cons [15] (qf (vI a1.Lo) 15 24 0 1 ((u1 1).n 0) [vI a1.Lo,vI a1.Hi] 46) <|
 .v 16 (vI (qc (a0.Lo+a1.Lo))) <|
 .v 17 (vP ((u1 0).n 0) 1) <|
 .cons [18] (qf (vI a0.Hi) 18 23 1 1 ((u1 0).n 0) [vI a0.Lo,vI a0.Hi] 46) <|
 .v 19 (vP ((u1 1).n 0) 1) <|
 .cons [20] (qf (vI a1.Hi) 20 24 1 1 ((u1 1).n 0) [vI a1.Lo,vI a1.Hi] 46) <|
 .v 21 (vI (qc (a0.Hi+a1.Hi))) <|
 .cons [22] (qq 68 _ _ 22 [] (fun u7 w _=>qI.calls (qc (a0.Lo+a1.Lo)) (qc (a0.Hi+a1.Hi))  t8 w  ht8)) <|
 .cons [25] (Qa 25 0 ((u1 2).n 0) [vI 0,vI 0] [vI t8.Lo,vI t8.Hi] 46 [vI t8.Lo,vI t8.Hi])<|.nil) [4,25] fun u7 a w' H=>?_
  refine qF ?_
  obtain rfl:=sj G
  exact Qj H _ 25 ((u1 2).n 0) [vI t8.Lo,vI t8.Hi] 46 0 2 (by kernel_rfl) (by kernel_rfl) (by kernel_rfl) (by kernel_rfl)
theorem Zl.calls (a0:Int) (r:Int) (w:World) (G:Zl a0=some r) :
  Calls Tryz.prog 94 #[vI a0] w fun e w'=>e = .returned (vI r)∧Below w.heap.size w w':=by
 refine QD (args:=[vI a0]) 5 Tryz.func94 rfl (by kernel_rfl) (by kernel_rfl) fun a H=>?_
 unfold Zl at G
 refine qg qd H (.v 2 (vI 0)<|.nil) [0] fun u1 a w' H=>?_
 refine qg qd H (.v 3 (vI a0) <|
 .v 4 (vI (mn a0 1)) <|
 .v 2 (vI (mn a0 1))<|.nil) [2] fun u2 a w' H=>?_
 refine qF ?_
 obtain rfl:=sj G
 exact Qr H _ (by kernel_rfl) (by kernel_rfl)
theorem Xy.calls (a0:Int) (a1:Int) (r:Int × Int) (w:World) (G:Xy a0 a1=some r) :
  Calls Tryz.prog 93 #[vI a0,vI a1,.func (.func 94) #[] #[]] w fun e w'=>e = .returned (.tuple #[vI r.1,vI r.2])∧Below w.heap.size w w':=by
 refine QD (args:=[vI a0,vI a1,.func (.func 94) #[] #[]]) 29 Tryz.func93 rfl (by kernel_rfl) (by kernel_rfl) fun a H=>?_
 unfold Xy at G
 refine qg qd H (.v 6 (vI 0) <|
 .v 7 (vI 0)<|.nil) [0,1,2] fun u1 a w' H=>?_
 refine qv ?_
 replace G:=gd G; obtain ⟨n3,G⟩:=G
 replace G:=gd G; obtain ⟨n4,G⟩:=G
 refine Qt qd H (.v 10 (vI a0) <|
 .v 11 (vI a1) <|
 .cons [12] (qn (fun u2=>vI (qc (Int.tdiv a0 a1))) 12 (hv:=fun _ _=>Zz (by kernel_rfl) (qcJ (k:=.i64) (x:=a0) (y:=a1) n3))) <|
 .v 13 (vI a0) <|
 .v 14 (vI a1) <|
 .cons [15] (qn (fun u2=>vI (Int.tmod a0 a1)) 15 (hv:=fun _ _=>Zz (by kernel_rfl) (WP (k:=.i64) (x:=a0) (y:=a1) n4))) <|
 .v 8 (vI (qc (Int.tdiv a0 a1))) <|
 .v 9 (vI (Int.tmod a0 a1))<|.nil) [1,2,8,9] fun u2 a w' H=>?_
 refine qv ?_
 obtain ⟨j7,hj7,G⟩:=qP G
 refine Xq (fun a w'=>RL w 29 [(2,.slot true (.func (.func 94) #[] #[])),(8,sI j7.1),(9,sI j7.2)] a w') ?_ ?_
 ·clear H; intro a w' H
  obtain ⟨t9,ht9,G⟩:=qP G
  refine qg qd H (.v 23 (vI j7.1) <|
 .v 24 (vI j7.1) <|
 .v 25 (.func (.func 94) #[] #[]) <|
 .v 26 (vI j7.2) <|
 .cons [27] (qq 94 _ _ 27 [] (fun u8 w _=>Zl.calls j7.2  t9 w  ht9)) <|
 .v 28 (vI (qc (j7.1+t9))) <|
 .v 6 (vI j7.1) <|
 .v 7 (vI (qc (j7.1+t9)))<|.nil) [6,7] fun u8 a w' H=>?_
  refine qF ?_
  obtain rfl:=sj G
  exact Qr H _ (by kernel_rfl) (by kernel_rfl)
 ·clear G; replace G:=hj7; clear hj7
  refine qg qd H (.v 16 (vI (Int.tmod a0 a1)) <|
 .v 17 (.bool (decide ((Int.tmod a0 a1)<0)))<|.nil) [1,2,8,9,17] fun u10 a w' H=>?_
  refine Qx H (decide ((Int.tmod a0 a1)<0)) (fun c12=>?_) fun c12=>?_
  ·rw [if_pos c12] at G
   refine Qt qd H (.v 18 (vI (qc (Int.tdiv a0 a1))) <|
 .v 19 (vI (qc ((qc (Int.tdiv a0 a1)) - 1))) <|
 .v 20 (vI (Int.tmod a0 a1)) <|
 .v 21 (vI a1) <|
 .v 22 (vI (qc ((Int.tmod a0 a1)+a1))) <|
 .v 8 (vI (qc ((qc (Int.tdiv a0 a1)) - 1))) <|
 .v 9 (vI (qc ((Int.tmod a0 a1)+a1)))<|.nil) [2,8,9] fun u11 a w' H=>?_
   obtain rfl:=sj G
   exact H.toM _
  ·rw [if_neg (nt c12)] at G
   refine Qf ?_
   obtain rfl:=sj G
   exact H.toM _
theorem Ya.calls (a0:Int) (a1:Int) (r:Int × Int) (w:World) (G:Ya a0 a1=some r) :
  Calls Tryz.prog 75 #[vI a0,vI a1] w fun e w'=>e = .returned (.tuple #[vI r.1,vI r.2])∧Below w.heap.size w w':=by
 refine QD (args:=[vI a0,vI a1]) 17 Tryz.func75 rfl (by kernel_rfl) (by kernel_rfl) fun a H=>?_
 unfold Ya at G
 refine qg qd H (.v 4 (vI 0) <|
 .v 5 (vI 0)<|.nil) [0,1] fun u1 a w' H=>?_
 refine qv ?_
 obtain ⟨j4,hj4,G⟩:=qP G
 refine Xq (fun a w'=>RL w 17 [(0,sI j4.1),(1,sI j4.2)] a w') ?_ ?_
 ·clear H; intro a w' H
  obtain ⟨t6,ht6,G⟩:=qP G
  refine qg qd H (.v 12 (vI j4.1) <|
 .v 13 (vI j4.2) <|
 .cons [14] (qq 93 _ _ 14 [] (fun u5 w _=>Xy.calls j4.1 j4.2  t6 w  ht6)) <|
 .v 15 (vI t6.1) <|
 .v 16 (vI t6.2) <|
 .v 4 (vI t6.1) <|
 .v 5 (vI t6.2)<|.nil) [4,5] fun u5 a w' H=>?_
  refine qF ?_
  obtain rfl:=sj G
  exact Qr H _ (by kernel_rfl) (by kernel_rfl)
 ·clear G; replace G:=hj4; clear hj4
  refine qg qd H (.v 6 (vI a1) <|
 .v 7 (.bool (decide (a1<0)))<|.nil) [0,1,7] fun u7 a w' H=>?_
  refine Qx H (decide (a1<0)) (fun c9=>?_) fun c9=>?_
  ·rw [if_pos c9] at G
   refine Qt qd H (.v 8 (vI a0) <|
 .v 9 (vI (qc (0 - a0))) <|
 .v 10 (vI a1) <|
 .v 11 (vI (qc (0 - a1))) <|
 .v 0 (vI (qc (0 - a0))) <|
 .v 1 (vI (qc (0 - a1)))<|.nil) [0,1] fun u8 a w' H=>?_
   obtain rfl:=sj G
   exact H.toM _
  ·rw [if_neg (nt c9)] at G
   refine Qf ?_
   obtain rfl:=sj G
   exact H.toM _
theorem Qq.calls (a0:Int) (a1:Int) (r:Int × Int) (w:World) (G:Qq a0 a1=some r) :
  Calls Tryz.prog 54 #[vI a0,vI a1] w fun e w'=>e = .returned (.tuple #[vI r.1,vI r.2])∧Below w.heap.size w w':=by
 refine QD (args:=[vI a0,vI a1]) 12 Tryz.func54 rfl (by kernel_rfl) (by kernel_rfl) fun a H=>?_
 unfold Qq at G
 refine qg qd H (.v 4 (vI 0) <|
 .v 5 (vI 0)<|.nil) [0,1] fun u1 a w' H=>?_
 obtain ⟨t3,ht3,G⟩:=qP G
 refine qg qd H (.v 6 (vI a0) <|
 .v 7 (vI a1) <|
 .v 8 (vI (qc (a0 * a1))) <|
 .cons [9] (qq 75 _ _ 9 [] (fun u2 w _=>Ya.calls (qc (a0 * a1)) 65536  t3 w  ht3)) <|
 .v 10 (vI t3.1) <|
 .v 11 (vI t3.2) <|
 .v 4 (vI t3.1) <|
 .v 5 (vI t3.2)<|.nil) [4,5] fun u2 a w' H=>?_
 refine qF ?_
 obtain rfl:=sj G
 exact Qr H _ (by kernel_rfl) (by kernel_rfl)
theorem Zp.calls (a0:qb) (r:Int) (w:World) (G:Zp a0=some r) :
  Calls Tryz.prog 109 #[.agg #[vI a0.Lo,vI a0.Hi]] w fun e w'=>e = .returned (vI r)∧Below w.heap.size w w':=by
 refine QD (args:=[.agg #[vI a0.Lo,vI a0.Hi]]) 9 Tryz.func109 rfl (by kernel_rfl) (by kernel_rfl) fun a H=>?_
 unfold Zp at G
 refine qg qd H (.cons [1,9] (qs (fun b=>vP b 0) (fun u1=>[vI a0.Lo,vI a0.Hi]) 46 1 9) <|
 .v 2 (vI 0)<|.nil) [1,9] fun u1 a w' H=>?_
 refine qg qd H (.v 3 (vP ((u1 0).n 0) 1) <|
 .cons [4] (qf (vI a0.Hi) 4 9 1 1 ((u1 0).n 0) [vI a0.Lo,vI a0.Hi] 46) <|
 .v 5 (vP ((u1 0).n 0) 0) <|
 .cons [6] (qf (vI a0.Lo) 6 9 0 1 ((u1 0).n 0) [vI a0.Lo,vI a0.Hi] 46) <|
 .v 7 (vI (qc (0 - a0.Lo))) <|
 .v 8 (vI (mx a0.Hi (qc (0 - a0.Lo)))) <|
 .v 2 (vI (mx a0.Hi (qc (0 - a0.Lo))))<|.nil) [2] fun u2 a w' H=>?_
 refine qF ?_
 obtain rfl:=sj G
 exact Qr H _ (by kernel_rfl) (by kernel_rfl)
theorem Xz.calls (a0:qb) (r:qb) (w:World) (G:Xz a0=some r) :
  Calls Tryz.prog 91 #[.agg #[vI a0.Lo,vI a0.Hi]] w fun e w'=>e = .returned (.agg #[vI r.Lo,vI r.Hi])∧Below w.heap.size w w':=by
 refine QD (args:=[.agg #[vI a0.Lo,vI a0.Hi]]) 35 Tryz.func91 rfl (by kernel_rfl) (by kernel_rfl) fun a H=>?_
 unfold Xz at G
 refine qg qd H (.cons [1,35] (qs (fun b=>vP b 0) (fun u1=>[vI a0.Lo,vI a0.Hi]) 46 1 35) <|
 .cons [2,36] (qs (fun b=>vP b 0) (fun u1=>[vI 0,vI 0]) 46 2 36)<|.nil) [1,2,35,36] fun u1 a w' H=>?_
 refine qv ?_
 obtain ⟨t3,ht3,G⟩:=qP G
 refine qg qd H (.cons [9] (qf (.agg #[vI a0.Lo,vI a0.Hi]) 9 35 0 2 ((u1 0).n 0) [vI a0.Lo,vI a0.Hi] 46) <|
 .cons [10] (qq 21 _ _ 10 [] (fun u2 w _=>qV.calls a0  t3 w  ht3))<|.nil) [1,2,10,35,36] fun u2 a w' H=>?_
 refine Qx H t3 (fun c13=>?_) fun c13=>?_
 ·rw [if_pos c13] at G
  refine qg qd H (.cons [11] (qf (.agg #[vI a0.Lo,vI a0.Hi]) 11 35 0 2 ((u1 0).n 0) [vI a0.Lo,vI a0.Hi] 46) <|
 .cons [36] (Qa 36 0 ((u1 1).n 0) [vI 0,vI 0] [vI a0.Lo,vI a0.Hi] 46 [vI a0.Lo,vI a0.Hi])<|.nil) [2,36] fun u4 a w' H=>?_
  refine qF ?_
  obtain rfl:=sj G
  exact Qj H _ 36 ((u1 1).n 0) [vI a0.Lo,vI a0.Hi] 46 0 2 (by kernel_rfl) (by kernel_rfl) (by kernel_rfl) (by kernel_rfl)
 ·rw [if_neg (nt c13)] at G
  refine Qf ?_
  obtain ⟨t6,ht6,G⟩:=qP G
  refine qg qd H (.v 12 (vP ((u1 0).n 0) 0) <|
 .cons [13] (qf (vI a0.Lo) 13 35 0 1 ((u1 0).n 0) [vI a0.Lo,vI a0.Hi] 46) <|
 .v 14 (vP ((u1 0).n 0) 1) <|
 .cons [15] (qf (vI a0.Hi) 15 35 1 1 ((u1 0).n 0) [vI a0.Lo,vI a0.Hi] 46) <|
 .v 16 (vI (qc (0 - a0.Hi))) <|
 .v 17 (vI (mx (mx a0.Lo (qc (0 - a0.Hi))) 0)) <|
 .cons [18] (qf (.agg #[vI a0.Lo,vI a0.Hi]) 18 35 0 2 ((u1 0).n 0) [vI a0.Lo,vI a0.Hi] 46) <|
 .cons [19] (qq 109 _ _ 19 [] (fun u5 w _=>Zp.calls a0  t6 w  ht6)) <|
 .v 3 (vI (mx (mx a0.Lo (qc (0 - a0.Hi))) 0)) <|
 .v 4 (vI t6)<|.nil) [2,3,4,36] fun u5 a w' H=>?_
  obtain ⟨t8,ht8,G⟩:=qP G
  refine qg qd H (.v 21 (vI (mx (mx a0.Lo (qc (0 - a0.Hi))) 0)) <|
 .v 22 (vI (mx (mx a0.Lo (qc (0 - a0.Hi))) 0)) <|
 .cons [23] (qq 54 _ _ 23 [] (fun u7 w _=>Qq.calls (mx (mx a0.Lo (qc (0 - a0.Hi))) 0) (mx (mx a0.Lo (qc (0 - a0.Hi))) 0)  t8 w  ht8)) <|
 .v 20 (.tuple #[vI t8.1,vI t8.2]) <|
 .v 24 (vI t8.1) <|
 .v 25 (vI t8.2) <|
 .v 5 (vI t8.1) <|
 .v 6 (vI t8.2)<|.nil) [2,4,5,36] fun u7 a w' H=>?_
  obtain ⟨t10,ht10,G⟩:=qP G
  refine qg qd H (.v 27 (vI t6) <|
 .v 28 (vI t6) <|
 .cons [29] (qq 54 _ _ 29 [] (fun u9 w _=>Qq.calls t6 t6  t10 w  ht10)) <|
 .v 26 (.tuple #[vI t10.1,vI t10.2]) <|
 .v 30 (vI t10.1) <|
 .v 31 (vI t10.2) <|
 .v 7 (vI t10.1) <|
 .v 8 (vI t10.2)<|.nil) [2,5,8,36] fun u9 a w' H=>?_
  obtain ⟨t12,ht12,G⟩:=qP G
  refine qg qd H (.v 32 (vI t8.1) <|
 .v 33 (vI t10.2) <|
 .cons [34] (qq 68 _ _ 34 [] (fun u11 w _=>qI.calls t8.1 t10.2  t12 w  ht12)) <|
 .cons [36] (Qa 36 0 ((u1 1).n 0) [vI 0,vI 0] [vI t12.Lo,vI t12.Hi] 46 [vI t12.Lo,vI t12.Hi])<|.nil) [2,36] fun u11 a w' H=>?_
  refine qF ?_
  obtain rfl:=sj G
  exact Qj H _ 36 ((u1 1).n 0) [vI t12.Lo,vI t12.Hi] 46 0 2 (by kernel_rfl) (by kernel_rfl) (by kernel_rfl) (by kernel_rfl)
theorem XQ.calls (a0:qb) (r:qb) (w:World) (G:XQ a0=some r) :
  Calls Tryz.prog 110 #[.agg #[vI a0.Lo,vI a0.Hi]] w fun e w'=>e = .returned (.agg #[vI r.Lo,vI r.Hi])∧Below w.heap.size w w':=by
 refine QD (args:=[.agg #[vI a0.Lo,vI a0.Hi]]) 10 Tryz.func110 rfl (by kernel_rfl) (by kernel_rfl) fun a H=>?_
 unfold XQ at G
 refine qg qd H (.cons [1,10] (qs (fun b=>vP b 0) (fun u1=>[vI a0.Lo,vI a0.Hi]) 46 1 10) <|
 .cons [2,11] (qs (fun b=>vP b 0) (fun u1=>[vI 0,vI 0]) 46 2 11)<|.nil) [1,2,10,11] fun u1 a w' H=>?_
 refine qg qd H (.v 3 (vP ((u1 0).n 0) 1) <|
 .cons [4] (qf (vI a0.Hi) 4 10 1 1 ((u1 0).n 0) [vI a0.Lo,vI a0.Hi] 46) <|
 .v 5 (vI (qc (0 - a0.Hi))) <|
 .v 6 (vP ((u1 0).n 0) 0) <|
 .cons [7] (qf (vI a0.Lo) 7 10 0 1 ((u1 0).n 0) [vI a0.Lo,vI a0.Hi] 46) <|
 .v 8 (vI (qc (0 - a0.Lo))) <|
 .v 9 (.agg #[vI (qc (0 - a0.Hi)),vI (qc (0 - a0.Lo))]) <|
 .cons [11] (Qa 11 0 ((u1 1).n 0) [vI 0,vI 0] [vI (qc (0 - a0.Hi)),vI (qc (0 - a0.Lo))] 46 [vI (qc (0 - a0.Hi)),vI (qc (0 - a0.Lo))])<|.nil) [2,11] fun u2 a w' H=>?_
 refine qF ?_
 obtain rfl:=sj G
 exact Qj H _ 11 ((u1 1).n 0) [vI (qc (0 - a0.Hi)),vI (qc (0 - a0.Lo))] 46 0 2 (by kernel_rfl) (by kernel_rfl) (by kernel_rfl) (by kernel_rfl)
theorem Xj.calls (a0:qb) (a1:qb) (r:qb) (w:World) (G:Xj a0 a1=some r) :
  Calls Tryz.prog 92 #[.agg #[vI a0.Lo,vI a0.Hi],.agg #[vI a1.Lo,vI a1.Hi]] w fun e w'=>e = .returned (.agg #[vI r.Lo,vI r.Hi])∧Below w.heap.size w w':=by
 refine QD (args:=[.agg #[vI a0.Lo,vI a0.Hi],.agg #[vI a1.Lo,vI a1.Hi]]) 9 Tryz.func92 rfl (by kernel_rfl) (by kernel_rfl) fun a H=>?_
 unfold Xj at G
 refine qg qd H (.cons [2,9] (qs (fun b=>vP b 0) (fun u1=>[vI a0.Lo,vI a0.Hi]) 46 2 9) <|
 .cons [3,10] (qs (fun b=>vP b 0) (fun u1=>[vI a1.Lo,vI a1.Hi]) 46 3 10) <|
 .cons [4,11] (qs (fun b=>vP b 0) (fun u1=>[vI 0,vI 0]) 46 4 11)<|.nil) [2,3,4,9,10,11] fun u1 a w' H=>?_
 obtain ⟨t3,ht3,G⟩:=qP G
 obtain ⟨t4,ht4,G⟩:=qP G
 refine qg qd H (.cons [5] (qf (.agg #[vI a0.Lo,vI a0.Hi]) 5 9 0 2 ((u1 0).n 0) [vI a0.Lo,vI a0.Hi] 46) <|
 .cons [6] (qf (.agg #[vI a1.Lo,vI a1.Hi]) 6 10 0 2 ((u1 1).n 0) [vI a1.Lo,vI a1.Hi] 46) <|
 .cons [7] (qq 110 _ _ 7 [] (fun u2 w _=>XQ.calls a1  t3 w  ht3)) <|
 .cons [8] (qq 90 _ _ 8 [] (fun u2 w _=>QU.calls a0 t3  t4 w  ht4)) <|
 .cons [11] (Qa 11 0 ((u1 2).n 0) [vI 0,vI 0] [vI t4.Lo,vI t4.Hi] 46 [vI t4.Lo,vI t4.Hi])<|.nil) [4,11] fun u2 a w' H=>?_
 refine qF ?_
 obtain rfl:=sj G
 exact Qj H _ 11 ((u1 2).n 0) [vI t4.Lo,vI t4.Hi] 46 0 2 (by kernel_rfl) (by kernel_rfl) (by kernel_rfl) (by kernel_rfl)
theorem Xw.calls (a0:qb) (r:Int) (w:World) (G:Xw a0=some r) :
  Calls Tryz.prog 136 #[.agg #[vI a0.Lo,vI a0.Hi]] w fun e w'=>e = .returned (vI r)∧Below w.heap.size w w':=by
 refine QD (args:=[.agg #[vI a0.Lo,vI a0.Hi]]) 11 Tryz.func136 rfl (by kernel_rfl) (by kernel_rfl) fun a H=>?_
 unfold Xw at G
 refine qg qd H (.cons [1,11] (qs (fun b=>vP b 0) (fun u1=>[vI a0.Lo,vI a0.Hi]) 46 1 11) <|
 .v 2 (vI 0)<|.nil) [1,11] fun u1 a w' H=>?_
 refine qv ?_
 refine q6 ?_
 refine qg qd H (.v 4 (vP ((u1 0).n 0) 1) <|
 .cons [5] (qf (vI a0.Hi) 5 11 1 1 ((u1 0).n 0) [vI a0.Lo,vI a0.Hi] 46) <|
 .v 6 (.bool (decide (a0.Hi≤0))) <|
 .v 3 (.bool (decide (a0.Hi≤0)))<|.nil) [1,3,11] fun u2 a w' H=>?_
 refine Qx H (decide (a0.Hi≤0)) (fun c8=>?_) fun c8=>?_
 ·rw [if_pos c8] at G
  refine qg qd H (.v 2 (vI 0)<|.nil) [2] fun u3 a w' H=>?_
  refine qF ?_
  obtain rfl:=sj G
  exact Qr H _ (by kernel_rfl) (by kernel_rfl)
 ·rw [if_neg (nt c8)] at G
  refine qg qd H (.v 8 (vP ((u1 0).n 0) 0) <|
 .cons [9] (qf (vI a0.Lo) 9 11 0 1 ((u1 0).n 0) [vI a0.Lo,vI a0.Hi] 46) <|
 .v 10 (.bool (decide (a0.Lo ≥ 0))) <|
 .v 7 (.bool (decide (a0.Lo ≥ 0)))<|.nil) [7] fun u4 a w' H=>?_
  refine Qx H (decide (a0.Lo ≥ 0)) (fun c7=>?_) fun c7=>?_
  ·rw [if_pos c7] at G
   refine qg qd H (.v 2 (vI 2)<|.nil) [2] fun u5 a w' H=>?_
   refine qF ?_
   obtain rfl:=sj G
   exact Qr H _ (by kernel_rfl) (by kernel_rfl)
  ·rw [if_neg (nt c7)] at G
   refine Qf ?_
   refine qg qd H (.v 2 (vI 1)<|.nil) [2] fun u6 a w' H=>?_
   refine qF ?_
   obtain rfl:=sj G
   exact Qr H _ (by kernel_rfl) (by kernel_rfl)
theorem Xr.calls (a0:qb) (a1:qb) (r:Int × Int) (w:World) (G:Xr a0 a1=some r) :
  Calls Tryz.prog 178 #[.agg #[vI a0.Lo,vI a0.Hi],.agg #[vI a1.Lo,vI a1.Hi]] w fun e w'=>e = .returned (.tuple #[vI r.1,vI r.2])∧Below w.heap.size w w':=by
 refine QD (args:=[.agg #[vI a0.Lo,vI a0.Hi],.agg #[vI a1.Lo,vI a1.Hi]]) 10 Tryz.func178 rfl (by kernel_rfl) (by kernel_rfl) fun a H=>?_
 unfold Xr at G
 refine qg qd H (.cons [2,10] (qs (fun b=>vP b 0) (fun u1=>[vI a0.Lo,vI a0.Hi]) 46 2 10) <|
 .cons [3,11] (qs (fun b=>vP b 0) (fun u1=>[vI a1.Lo,vI a1.Hi]) 46 3 11) <|
 .v 4 (vI 0) <|
 .v 5 (vI 0)<|.nil) [2,3,10,11] fun u1 a w' H=>?_
 refine qg qd H (.v 6 (vP ((u1 0).n 0) 1) <|
 .cons [7] (qf (vI a0.Hi) 7 10 1 1 ((u1 0).n 0) [vI a0.Lo,vI a0.Hi] 46) <|
 .v 8 (vP ((u1 1).n 0) 1) <|
 .cons [9] (qf (vI a1.Hi) 9 11 1 1 ((u1 1).n 0) [vI a1.Lo,vI a1.Hi] 46) <|
 .v 4 (vI a0.Hi) <|
 .v 5 (vI a1.Hi)<|.nil) [4,5] fun u2 a w' H=>?_
 refine qF ?_
 obtain rfl:=sj G
 exact Qr H _ (by kernel_rfl) (by kernel_rfl)
theorem Xt.calls (a0:qb) (a1:qb) (r:Int × Int) (w:World) (G:Xt a0 a1=some r) :
  Calls Tryz.prog 179 #[.agg #[vI a0.Lo,vI a0.Hi],.agg #[vI a1.Lo,vI a1.Hi]] w fun e w'=>e = .returned (.tuple #[vI r.1,vI r.2])∧Below w.heap.size w w':=by
 refine QD (args:=[.agg #[vI a0.Lo,vI a0.Hi],.agg #[vI a1.Lo,vI a1.Hi]]) 10 Tryz.func179 rfl (by kernel_rfl) (by kernel_rfl) fun a H=>?_
 unfold Xt at G
 refine qg qd H (.cons [2,10] (qs (fun b=>vP b 0) (fun u1=>[vI a0.Lo,vI a0.Hi]) 46 2 10) <|
 .cons [3,11] (qs (fun b=>vP b 0) (fun u1=>[vI a1.Lo,vI a1.Hi]) 46 3 11) <|
 .v 4 (vI 0) <|
 .v 5 (vI 0)<|.nil) [2,3,10,11] fun u1 a w' H=>?_
 refine qg qd H (.v 6 (vP ((u1 0).n 0) 0) <|
 .cons [7] (qf (vI a0.Lo) 7 10 0 1 ((u1 0).n 0) [vI a0.Lo,vI a0.Hi] 46) <|
 .v 8 (vP ((u1 1).n 0) 0) <|
 .cons [9] (qf (vI a1.Lo) 9 11 0 1 ((u1 1).n 0) [vI a1.Lo,vI a1.Hi] 46) <|
 .v 4 (vI a0.Lo) <|
 .v 5 (vI a1.Lo)<|.nil) [4,5] fun u2 a w' H=>?_
 refine qF ?_
 obtain rfl:=sj G
 exact Qr H _ (by kernel_rfl) (by kernel_rfl)
theorem Xs.calls (a0:qb) (a1:qb) (r:Int × Int) (w:World) (G:Xs a0 a1=some r) :
  Calls Tryz.prog 180 #[.agg #[vI a0.Lo,vI a0.Hi],.agg #[vI a1.Lo,vI a1.Hi]] w fun e w'=>e = .returned (.tuple #[vI r.1,vI r.2])∧Below w.heap.size w w':=by
 refine QD (args:=[.agg #[vI a0.Lo,vI a0.Hi],.agg #[vI a1.Lo,vI a1.Hi]]) 10 Tryz.func180 rfl (by kernel_rfl) (by kernel_rfl) fun a H=>?_
 unfold Xs at G
 refine qg qd H (.cons [2,10] (qs (fun b=>vP b 0) (fun u1=>[vI a0.Lo,vI a0.Hi]) 46 2 10) <|
 .cons [3,11] (qs (fun b=>vP b 0) (fun u1=>[vI a1.Lo,vI a1.Hi]) 46 3 11) <|
 .v 4 (vI 0) <|
 .v 5 (vI 0)<|.nil) [2,3,10,11] fun u1 a w' H=>?_
 refine qg qd H (.v 6 (vP ((u1 0).n 0) 0) <|
 .cons [7] (qf (vI a0.Lo) 7 10 0 1 ((u1 0).n 0) [vI a0.Lo,vI a0.Hi] 46) <|
 .v 8 (vP ((u1 1).n 0) 1) <|
 .cons [9] (qf (vI a1.Hi) 9 11 1 1 ((u1 1).n 0) [vI a1.Lo,vI a1.Hi] 46) <|
 .v 4 (vI a0.Lo) <|
 .v 5 (vI a1.Hi)<|.nil) [4,5] fun u2 a w' H=>?_
 refine qF ?_
 obtain rfl:=sj G
 exact Qr H _ (by kernel_rfl) (by kernel_rfl)
theorem Xu.calls (a0:qb) (a1:qb) (r:Int × Int) (w:World) (G:Xu a0 a1=some r) :
  Calls Tryz.prog 181 #[.agg #[vI a0.Lo,vI a0.Hi],.agg #[vI a1.Lo,vI a1.Hi]] w fun e w'=>e = .returned (.tuple #[vI r.1,vI r.2])∧Below w.heap.size w w':=by
 refine QD (args:=[.agg #[vI a0.Lo,vI a0.Hi],.agg #[vI a1.Lo,vI a1.Hi]]) 10 Tryz.func181 rfl (by kernel_rfl) (by kernel_rfl) fun a H=>?_
 unfold Xu at G
 refine qg qd H (.cons [2,10] (qs (fun b=>vP b 0) (fun u1=>[vI a0.Lo,vI a0.Hi]) 46 2 10) <|
 .cons [3,11] (qs (fun b=>vP b 0) (fun u1=>[vI a1.Lo,vI a1.Hi]) 46 3 11) <|
 .v 4 (vI 0) <|
 .v 5 (vI 0)<|.nil) [2,3,10,11] fun u1 a w' H=>?_
 refine qg qd H (.v 6 (vP ((u1 0).n 0) 1) <|
 .cons [7] (qf (vI a0.Hi) 7 10 1 1 ((u1 0).n 0) [vI a0.Lo,vI a0.Hi] 46) <|
 .v 8 (vP ((u1 1).n 0) 0) <|
 .cons [9] (qf (vI a1.Lo) 9 11 0 1 ((u1 1).n 0) [vI a1.Lo,vI a1.Hi] 46) <|
 .v 4 (vI a0.Hi) <|
 .v 5 (vI a1.Lo)<|.nil) [4,5] fun u2 a w' H=>?_
 refine qF ?_
 obtain rfl:=sj G
 exact Qr H _ (by kernel_rfl) (by kernel_rfl)
theorem Q9.calls (a0:qb) (a1:qb) (r:qb) (w:World) (hg:Ww w) (G:Q9 a0 a1=some r) :
  Calls Tryz.prog 127 #[.agg #[vI a0.Lo,vI a0.Hi],.agg #[vI a1.Lo,vI a1.Hi]] w fun e w'=>e = .returned (.agg #[vI r.Lo,vI r.Hi])∧Below w.heap.size w w':=by
 refine qae (args:=[.agg #[vI a0.Lo,vI a0.Hi],.agg #[vI a1.Lo,vI a1.Hi]]) 106 999999 Wg Ww (J2 hg) (Yl hg) Tryz.func127 rfl (by kernel_rfl) (by kernel_rfl) fun a H=>?_
 unfold Q9 at G
 refine qg qd H (.cons [2,106] (qs (fun b=>vP b 0) (fun u1=>[vI a0.Lo,vI a0.Hi]) 46 2 106) <|
 .cons [3,107] (qs (fun b=>vP b 0) (fun u1=>[vI a1.Lo,vI a1.Hi]) 46 3 107) <|
 .cons [4,108] (qs (fun b=>vP b 0) (fun u1=>[vI 0,vI 0]) 46 4 108)<|.nil) [2,3,4,106,107,108,999999] fun u1 a w' H=>?_
 refine qv ?_
 replace G:=qP G; obtain ⟨t3,ht3,G⟩:=G
 replace G:=qP G; obtain ⟨t4,ht4,G⟩:=G
 refine qg qd H (.cons [20] (qf (.agg #[vI a0.Lo,vI a0.Hi]) 20 106 0 2 ((u1 0).n 0) [vI a0.Lo,vI a0.Hi] 46) <|
 .cons [21] (qq 21 _ _ 21 [] (fun u2 w _=>qV.calls a0  t3 w  ht3)) <|
 .v 22 (.bool t3) <|
 .cons [23] (YS (fun u2=>.agg #[vI a1.Lo,vI a1.Hi]) (fun u2=>(t3 == false)) [true] 23 107 0 2 (fun u2=>((u1 1).n 0)) (fun u2=>[vI a1.Lo,vI a1.Hi]) 46) <|
 .cons [24] (ZR 21 (fun u2=>#[.agg #[vI a1.Lo,vI a1.Hi]]) (.bool t4) (fun u2=>(t3 == false)) [true,false] 24 [] (fun u2 w hg _=>qV.calls a1  t4 w  (ifp ht4 hg))) <|
 .cons [25] (ZM 22 24 (fun u2=>true) (fun u2=>true) (fun u2=>t3) (fun u2=>t4) 25)<|.nil) [2,3,4,25,106,107,108,999999] fun u2 a w' H=>?_
 refine Qx H (t3 || t4) (fun c107=>?_) fun c107=>?_
 ·rw [if_pos c107] at G
  replace G:=qP G; obtain ⟨t6,ht6,G⟩:=G
  refine qg qd H (.cons [26] (qq 48 _ _ 26 [] (fun u5 w _=>QT.calls   t6 w  ht6)) <|
 .cons [108] (Qa 108 0 ((u1 2).n 0) [vI 0,vI 0] [vI t6.Lo,vI t6.Hi] 46 [vI t6.Lo,vI t6.Hi])<|.nil) [4,108,999999] fun u5 a w' H=>?_
  refine qF ?_
  obtain rfl:=sj G
  exact Qj H _ 108 ((u1 2).n 0) [vI t6.Lo,vI t6.Hi] 46 0 2 (by kernel_rfl) (by kernel_rfl) (by kernel_rfl) (by kernel_rfl)
 ·rw [if_neg (nt c107)] at G
  refine Qf ?_
  replace G:=qP G; obtain ⟨t8,ht8,G⟩:=G
  replace G:=qP G; obtain ⟨t9,ht9,G⟩:=G
  refine qg qd H (.cons [27] (qf (.agg #[vI a0.Lo,vI a0.Hi]) 27 106 0 2 ((u1 0).n 0) [vI a0.Lo,vI a0.Hi] 46) <|
 .cons [28] (qq 136 _ _ 28 [] (fun u7 w _=>Xw.calls a0  t8 w  ht8)) <|
 .cons [29] (qf (.agg #[vI a1.Lo,vI a1.Hi]) 29 107 0 2 ((u1 1).n 0) [vI a1.Lo,vI a1.Hi] 46) <|
 .cons [30] (qq 136 _ _ 30 [] (fun u7 w _=>Xw.calls a1  t9 w  ht9)) <|
 .v 5 (vI t8) <|
 .v 6 (vI t9)<|.nil) [2,3,4,5,6,106,107,108,999999] fun u7 a w' H=>?_
  refine qv ?_
  refine qg qd H (.v 31 (vI t8) <|
 .v 32 (.bool (t8 == 1)) <|
 .v 33 (.bool (t8 == 1)) <|
 .cons [34] (qQ (fun u10=>vI t9) (fun u10=>((t8 == 1) == true)) [true] 34) <|
 .cons [35] (qQ (fun u10=>.bool (t9 == 1)) (fun u10=>((t8 == 1) == true)) [false,true] 35) <|
 .cons [36] (YY 33 35 (fun u10=>true) (fun u10=>true) (fun u10=>(t8 == 1)) (fun u10=>(t9 == 1)) 36)<|.nil) [2,3,4,5,6,36,106,107,108,999999] fun u10 a w' H=>?_
  refine Qx H ((t8 == 1) && (t9 == 1)) (fun c106=>?_) fun c106=>?_
  ·rw [if_pos c106] at G
   replace G:=qP G; obtain ⟨t12,ht12,G⟩:=G
   refine qg qd H (.v 38 (vP ((u1 0).n 0) 0) <|
 .cons [39] (qf (vI a0.Lo) 39 106 0 1 ((u1 0).n 0) [vI a0.Lo,vI a0.Hi] 46) <|
 .v 40 (vP ((u1 1).n 0) 1) <|
 .cons [41] (qf (vI a1.Hi) 41 107 1 1 ((u1 1).n 0) [vI a1.Lo,vI a1.Hi] 46) <|
 .cons [42] (qq 54 _ _ 42 [] (fun u11 w _=>Qq.calls a0.Lo a1.Hi  t12 w  ht12)) <|
 .v 37 (.tuple #[vI t12.1,vI t12.2]) <|
 .v 43 (vI t12.1) <|
 .v 44 (vI t12.2) <|
 .v 7 (vI t12.1) <|
 .v 8 (vI t12.2)<|.nil) [2,3,4,7,106,107,108,999999] fun u11 a w' H=>?_
   replace G:=qP G; obtain ⟨t14,ht14,G⟩:=G
   refine qg qd H (.v 46 (vP ((u1 0).n 0) 1) <|
 .cons [47] (qf (vI a0.Hi) 47 106 1 1 ((u1 0).n 0) [vI a0.Lo,vI a0.Hi] 46) <|
 .v 48 (vP ((u1 1).n 0) 0) <|
 .cons [49] (qf (vI a1.Lo) 49 107 0 1 ((u1 1).n 0) [vI a1.Lo,vI a1.Hi] 46) <|
 .cons [50] (qq 54 _ _ 50 [] (fun u13 w _=>Qq.calls a0.Hi a1.Lo  t14 w  ht14)) <|
 .v 45 (.tuple #[vI t14.1,vI t14.2]) <|
 .v 51 (vI t14.1) <|
 .v 52 (vI t14.2) <|
 .v 9 (vI t14.1) <|
 .v 10 (vI t14.2)<|.nil) [2,3,4,7,9,106,107,108,999999] fun u13 a w' H=>?_
   replace G:=qP G; obtain ⟨t16,ht16,G⟩:=G
   refine qg qd H (.v 54 (vP ((u1 0).n 0) 0) <|
 .cons [55] (qf (vI a0.Lo) 55 106 0 1 ((u1 0).n 0) [vI a0.Lo,vI a0.Hi] 46) <|
 .v 56 (vP ((u1 1).n 0) 0) <|
 .cons [57] (qf (vI a1.Lo) 57 107 0 1 ((u1 1).n 0) [vI a1.Lo,vI a1.Hi] 46) <|
 .cons [58] (qq 54 _ _ 58 [] (fun u15 w _=>Qq.calls a0.Lo a1.Lo  t16 w  ht16)) <|
 .v 53 (.tuple #[vI t16.1,vI t16.2]) <|
 .v 59 (vI t16.1) <|
 .v 60 (vI t16.2) <|
 .v 11 (vI t16.1) <|
 .v 12 (vI t16.2)<|.nil) [2,3,4,7,9,12,106,107,108,999999] fun u15 a w' H=>?_
   replace G:=qP G; obtain ⟨t18,ht18,G⟩:=G
   refine qg qd H (.v 62 (vP ((u1 0).n 0) 1) <|
 .cons [63] (qf (vI a0.Hi) 63 106 1 1 ((u1 0).n 0) [vI a0.Lo,vI a0.Hi] 46) <|
 .v 64 (vP ((u1 1).n 0) 1) <|
 .cons [65] (qf (vI a1.Hi) 65 107 1 1 ((u1 1).n 0) [vI a1.Lo,vI a1.Hi] 46) <|
 .cons [66] (qq 54 _ _ 66 [] (fun u17 w _=>Qq.calls a0.Hi a1.Hi  t18 w  ht18)) <|
 .v 61 (.tuple #[vI t18.1,vI t18.2]) <|
 .v 67 (vI t18.1) <|
 .v 68 (vI t18.2) <|
 .v 13 (vI t18.1) <|
 .v 14 (vI t18.2)<|.nil) [4,7,9,12,14,108,999999] fun u17 a w' H=>?_
   replace G:=qP G; obtain ⟨t20,ht20,G⟩:=G
   refine qg qd H (.v 69 (vI t12.1) <|
 .v 70 (vI t14.1) <|
 .v 71 (vI (mn t12.1 t14.1)) <|
 .v 72 (vI t16.2) <|
 .v 73 (vI t18.2) <|
 .v 74 (vI (mx t16.2 t18.2)) <|
 .cons [75] (qq 68 _ _ 75 [] (fun u19 w _=>qI.calls (mn t12.1 t14.1) (mx t16.2 t18.2)  t20 w  ht20)) <|
 .cons [108] (Qa 108 0 ((u1 2).n 0) [vI 0,vI 0] [vI t20.Lo,vI t20.Hi] 46 [vI t20.Lo,vI t20.Hi])<|.nil) [4,108,999999] fun u19 a w' H=>?_
   refine qF ?_
   obtain rfl:=sj G
   exact Qj H _ 108 ((u1 2).n 0) [vI t20.Lo,vI t20.Hi] 46 0 2 (by kernel_rfl) (by kernel_rfl) (by kernel_rfl) (by kernel_rfl)
  ·rw [if_neg (nt c106)] at G
   refine Qf ?_
   refine qv ?_
   by_cases c103:t8=0
   ·rw [if_pos c103] at G; subst c103
    by_cases c48:t9=0
    ·rw [if_pos c48] at G; subst c48
     refine Qt qd H (.v 76 (vI 0) <|
 .v 77 (vI 0) <|
 .v 78 (vP 0 0) <|
 .v 79 (vP 0 0) <|
 .cons [80] (Q8 (fun u21=>.agg #[.func (.func 178) #[] #[],.func (.func 179) #[] #[]]) 80 999999 gk 0 0 2 Vs (fun w h=>(QM h).tab0)) <|
 .cons [15,109] (qs (fun b=>vP b 0) (fun u21=>[.nilFunc,.nilFunc]) 226 15 109) <|
 .cons [109] (QL (u':=fun u21=>[(109,.blk ((u21 5).n 0) [.func (.func 178) #[] #[],.func (.func 179) #[] #[]] 226)]) (qW 109 0 (fun u21=>((u21 5).n 0)) (fun u21=>[.nilFunc,.nilFunc]) (fun u21=>[.func (.func 178) #[] #[],.func (.func 179) #[] #[]]) 226) (fun _=>by kernel_rfl))<|.nil) [2,3,4,15,106,107,108,109,999999] fun u21 a w' H=>?_
     replace G:=qP G; obtain ⟨t23,ht23,G⟩:=G
     replace G:=qP G; obtain ⟨t24,ht24,G⟩:=G
     refine qg qd H (.v 82 (vP ((u21 5).n 0) 0) <|
 .cons [83] (qf (.func (.func 178) #[] #[]) 83 109 0 1 ((u21 5).n 0) [.func (.func 178) #[] #[],.func (.func 179) #[] #[]] 226) <|
 .cons [84] (qf (.agg #[vI a0.Lo,vI a0.Hi]) 84 106 0 2 ((u1 0).n 0) [vI a0.Lo,vI a0.Hi] 46) <|
 .cons [85] (qf (.agg #[vI a1.Lo,vI a1.Hi]) 85 107 0 2 ((u1 1).n 0) [vI a1.Lo,vI a1.Hi] 46) <|
 .cons [86] (qq 178 _ _ 86 [] (fun u22 w _=>Xr.calls a0 a1  t23 w  ht23)) <|
 .v 87 (vI t23.1) <|
 .v 88 (vI t23.2) <|
 .cons [89] (qq 54 _ _ 89 [] (fun u22 w _=>Qq.calls t23.1 t23.2  t24 w  ht24)) <|
 .v 81 (.tuple #[vI t24.1,vI t24.2]) <|
 .v 90 (vI t24.1) <|
 .v 91 (vI t24.2) <|
 .v 16 (vI t24.1) <|
 .v 17 (vI t24.2)<|.nil) [2,3,4,15,16,106,107,108,109,999999] fun u22 a w' H=>?_
     replace G:=qP G; obtain ⟨t26,ht26,G⟩:=G
     replace G:=qP G; obtain ⟨t27,ht27,G⟩:=G
     refine qg qd H (.v 93 (vP ((u21 5).n 0) 1) <|
 .cons [94] (qf (.func (.func 179) #[] #[]) 94 109 1 1 ((u21 5).n 0) [.func (.func 178) #[] #[],.func (.func 179) #[] #[]] 226) <|
 .cons [95] (qf (.agg #[vI a0.Lo,vI a0.Hi]) 95 106 0 2 ((u1 0).n 0) [vI a0.Lo,vI a0.Hi] 46) <|
 .cons [96] (qf (.agg #[vI a1.Lo,vI a1.Hi]) 96 107 0 2 ((u1 1).n 0) [vI a1.Lo,vI a1.Hi] 46) <|
 .cons [97] (qq 179 _ _ 97 [] (fun u25 w _=>Xt.calls a0 a1  t26 w  ht26)) <|
 .v 98 (vI t26.1) <|
 .v 99 (vI t26.2) <|
 .cons [100] (qq 54 _ _ 100 [] (fun u25 w _=>Qq.calls t26.1 t26.2  t27 w  ht27)) <|
 .v 92 (.tuple #[vI t27.1,vI t27.2]) <|
 .v 101 (vI t27.1) <|
 .v 102 (vI t27.2) <|
 .v 18 (vI t27.1) <|
 .v 19 (vI t27.2)<|.nil) [4,16,19,108,999999] fun u25 a w' H=>?_
     replace G:=qP G; obtain ⟨t29,ht29,G⟩:=G
     refine qg qd H (.v 103 (vI t24.1) <|
 .v 104 (vI t27.2) <|
 .cons [105] (qq 68 _ _ 105 [] (fun u28 w _=>qI.calls t24.1 t27.2  t29 w  ht29)) <|
 .cons [108] (Qa 108 0 ((u1 2).n 0) [vI 0,vI 0] [vI t29.Lo,vI t29.Hi] 46 [vI t29.Lo,vI t29.Hi])<|.nil) [4,108,999999] fun u28 a w' H=>?_
     refine qF ?_
     obtain rfl:=sj G
     exact Qj H _ 108 ((u1 2).n 0) [vI t29.Lo,vI t29.Hi] 46 0 2 (by kernel_rfl) (by kernel_rfl) (by kernel_rfl) (by kernel_rfl)
    rw [if_neg c48] at G
    by_cases c49:t9=1
    ·rw [if_pos c49] at G; subst c49
     refine Qt qd H (.v 76 (vI 0) <|
 .v 77 (vI 1) <|
 .v 78 (vP 0 0) <|
 .v 79 (vP 0 2) <|
 .cons [80] (Q8 (fun u30=>.agg #[.func (.func 180) #[] #[],.func (.func 179) #[] #[]]) 80 999999 gk 0 2 2 Vs (fun w h=>(QM h).tab0)) <|
 .cons [15,110] (qs (fun b=>vP b 0) (fun u30=>[.nilFunc,.nilFunc]) 226 15 110) <|
 .cons [110] (QL (u':=fun u30=>[(110,.blk ((u30 5).n 0) [.func (.func 180) #[] #[],.func (.func 179) #[] #[]] 226)]) (qW 110 0 (fun u30=>((u30 5).n 0)) (fun u30=>[.nilFunc,.nilFunc]) (fun u30=>[.func (.func 180) #[] #[],.func (.func 179) #[] #[]]) 226) (fun _=>by kernel_rfl))<|.nil) [2,3,4,15,106,107,108,110,999999] fun u30 a w' H=>?_
     replace G:=qP G; obtain ⟨t32,ht32,G⟩:=G
     replace G:=qP G; obtain ⟨t33,ht33,G⟩:=G
     refine qg qd H (.v 82 (vP ((u30 5).n 0) 0) <|
 .cons [83] (qf (.func (.func 180) #[] #[]) 83 110 0 1 ((u30 5).n 0) [.func (.func 180) #[] #[],.func (.func 179) #[] #[]] 226) <|
 .cons [84] (qf (.agg #[vI a0.Lo,vI a0.Hi]) 84 106 0 2 ((u1 0).n 0) [vI a0.Lo,vI a0.Hi] 46) <|
 .cons [85] (qf (.agg #[vI a1.Lo,vI a1.Hi]) 85 107 0 2 ((u1 1).n 0) [vI a1.Lo,vI a1.Hi] 46) <|
 .cons [86] (qq 180 _ _ 86 [] (fun u31 w _=>Xs.calls a0 a1  t32 w  ht32)) <|
 .v 87 (vI t32.1) <|
 .v 88 (vI t32.2) <|
 .cons [89] (qq 54 _ _ 89 [] (fun u31 w _=>Qq.calls t32.1 t32.2  t33 w  ht33)) <|
 .v 81 (.tuple #[vI t33.1,vI t33.2]) <|
 .v 90 (vI t33.1) <|
 .v 91 (vI t33.2) <|
 .v 16 (vI t33.1) <|
 .v 17 (vI t33.2)<|.nil) [2,3,4,15,16,106,107,108,110,999999] fun u31 a w' H=>?_
     replace G:=qP G; obtain ⟨t35,ht35,G⟩:=G
     replace G:=qP G; obtain ⟨t36,ht36,G⟩:=G
     refine qg qd H (.v 93 (vP ((u30 5).n 0) 1) <|
 .cons [94] (qf (.func (.func 179) #[] #[]) 94 110 1 1 ((u30 5).n 0) [.func (.func 180) #[] #[],.func (.func 179) #[] #[]] 226) <|
 .cons [95] (qf (.agg #[vI a0.Lo,vI a0.Hi]) 95 106 0 2 ((u1 0).n 0) [vI a0.Lo,vI a0.Hi] 46) <|
 .cons [96] (qf (.agg #[vI a1.Lo,vI a1.Hi]) 96 107 0 2 ((u1 1).n 0) [vI a1.Lo,vI a1.Hi] 46) <|
 .cons [97] (qq 179 _ _ 97 [] (fun u34 w _=>Xt.calls a0 a1  t35 w  ht35)) <|
 .v 98 (vI t35.1) <|
 .v 99 (vI t35.2) <|
 .cons [100] (qq 54 _ _ 100 [] (fun u34 w _=>Qq.calls t35.1 t35.2  t36 w  ht36)) <|
 .v 92 (.tuple #[vI t36.1,vI t36.2]) <|
 .v 101 (vI t36.1) <|
 .v 102 (vI t36.2) <|
 .v 18 (vI t36.1) <|
 .v 19 (vI t36.2)<|.nil) [4,16,19,108,999999] fun u34 a w' H=>?_
     replace G:=qP G; obtain ⟨t38,ht38,G⟩:=G
     refine qg qd H (.v 103 (vI t33.1) <|
 .v 104 (vI t36.2) <|
 .cons [105] (qq 68 _ _ 105 [] (fun u37 w _=>qI.calls t33.1 t36.2  t38 w  ht38)) <|
 .cons [108] (Qa 108 0 ((u1 2).n 0) [vI 0,vI 0] [vI t38.Lo,vI t38.Hi] 46 [vI t38.Lo,vI t38.Hi])<|.nil) [4,108,999999] fun u37 a w' H=>?_
     refine qF ?_
     obtain rfl:=sj G
     exact Qj H _ 108 ((u1 2).n 0) [vI t38.Lo,vI t38.Hi] 46 0 2 (by kernel_rfl) (by kernel_rfl) (by kernel_rfl) (by kernel_rfl)
    rw [if_neg c49] at G
    by_cases c50:t9=2
    ·rw [if_pos c50] at G; subst c50
     refine Qt qd H (.v 76 (vI 0) <|
 .v 77 (vI 2) <|
 .v 78 (vP 0 0) <|
 .v 79 (vP 0 4) <|
 .cons [80] (Q8 (fun u39=>.agg #[.func (.func 180) #[] #[],.func (.func 181) #[] #[]]) 80 999999 gk 0 4 2 Vs (fun w h=>(QM h).tab0)) <|
 .cons [15,111] (qs (fun b=>vP b 0) (fun u39=>[.nilFunc,.nilFunc]) 226 15 111) <|
 .cons [111] (QL (u':=fun u39=>[(111,.blk ((u39 5).n 0) [.func (.func 180) #[] #[],.func (.func 181) #[] #[]] 226)]) (qW 111 0 (fun u39=>((u39 5).n 0)) (fun u39=>[.nilFunc,.nilFunc]) (fun u39=>[.func (.func 180) #[] #[],.func (.func 181) #[] #[]]) 226) (fun _=>by kernel_rfl))<|.nil) [2,3,4,15,106,107,108,111,999999] fun u39 a w' H=>?_
     replace G:=qP G; obtain ⟨t41,ht41,G⟩:=G
     replace G:=qP G; obtain ⟨t42,ht42,G⟩:=G
     refine qg qd H (.v 82 (vP ((u39 5).n 0) 0) <|
 .cons [83] (qf (.func (.func 180) #[] #[]) 83 111 0 1 ((u39 5).n 0) [.func (.func 180) #[] #[],.func (.func 181) #[] #[]] 226) <|
 .cons [84] (qf (.agg #[vI a0.Lo,vI a0.Hi]) 84 106 0 2 ((u1 0).n 0) [vI a0.Lo,vI a0.Hi] 46) <|
 .cons [85] (qf (.agg #[vI a1.Lo,vI a1.Hi]) 85 107 0 2 ((u1 1).n 0) [vI a1.Lo,vI a1.Hi] 46) <|
 .cons [86] (qq 180 _ _ 86 [] (fun u40 w _=>Xs.calls a0 a1  t41 w  ht41)) <|
 .v 87 (vI t41.1) <|
 .v 88 (vI t41.2) <|
 .cons [89] (qq 54 _ _ 89 [] (fun u40 w _=>Qq.calls t41.1 t41.2  t42 w  ht42)) <|
 .v 81 (.tuple #[vI t42.1,vI t42.2]) <|
 .v 90 (vI t42.1) <|
 .v 91 (vI t42.2) <|
 .v 16 (vI t42.1) <|
 .v 17 (vI t42.2)<|.nil) [2,3,4,15,16,106,107,108,111,999999] fun u40 a w' H=>?_
     replace G:=qP G; obtain ⟨t44,ht44,G⟩:=G
     replace G:=qP G; obtain ⟨t45,ht45,G⟩:=G
     refine qg qd H (.v 93 (vP ((u39 5).n 0) 1) <|
 .cons [94] (qf (.func (.func 181) #[] #[]) 94 111 1 1 ((u39 5).n 0) [.func (.func 180) #[] #[],.func (.func 181) #[] #[]] 226) <|
 .cons [95] (qf (.agg #[vI a0.Lo,vI a0.Hi]) 95 106 0 2 ((u1 0).n 0) [vI a0.Lo,vI a0.Hi] 46) <|
 .cons [96] (qf (.agg #[vI a1.Lo,vI a1.Hi]) 96 107 0 2 ((u1 1).n 0) [vI a1.Lo,vI a1.Hi] 46) <|
 .cons [97] (qq 181 _ _ 97 [] (fun u43 w _=>Xu.calls a0 a1  t44 w  ht44)) <|
 .v 98 (vI t44.1) <|
 .v 99 (vI t44.2) <|
 .cons [100] (qq 54 _ _ 100 [] (fun u43 w _=>Qq.calls t44.1 t44.2  t45 w  ht45)) <|
 .v 92 (.tuple #[vI t45.1,vI t45.2]) <|
 .v 101 (vI t45.1) <|
 .v 102 (vI t45.2) <|
 .v 18 (vI t45.1) <|
 .v 19 (vI t45.2)<|.nil) [4,16,19,108,999999] fun u43 a w' H=>?_
     replace G:=qP G; obtain ⟨t47,ht47,G⟩:=G
     refine qg qd H (.v 103 (vI t42.1) <|
 .v 104 (vI t45.2) <|
 .cons [105] (qq 68 _ _ 105 [] (fun u46 w _=>qI.calls t42.1 t45.2  t47 w  ht47)) <|
 .cons [108] (Qa 108 0 ((u1 2).n 0) [vI 0,vI 0] [vI t47.Lo,vI t47.Hi] 46 [vI t47.Lo,vI t47.Hi])<|.nil) [4,108,999999] fun u46 a w' H=>?_
     refine qF ?_
     obtain rfl:=sj G
     exact Qj H _ 108 ((u1 2).n 0) [vI t47.Lo,vI t47.Hi] 46 0 2 (by kernel_rfl) (by kernel_rfl) (by kernel_rfl) (by kernel_rfl)
    rw [if_neg c50] at G
    cases G
   rw [if_neg c103] at G
   by_cases c104:t8=1
   ·rw [if_pos c104] at G; subst c104
    by_cases c70:t9=0
    ·rw [if_pos c70] at G; subst c70
     refine Qt qd H (.v 76 (vI 1) <|
 .v 77 (vI 0) <|
 .v 78 (vP 0 6) <|
 .v 79 (vP 0 6) <|
 .cons [80] (Q8 (fun u51=>.agg #[.func (.func 181) #[] #[],.func (.func 179) #[] #[]]) 80 999999 gk 0 6 2 Vs (fun w h=>(QM h).tab0)) <|
 .cons [15,112] (qs (fun b=>vP b 0) (fun u51=>[.nilFunc,.nilFunc]) 226 15 112) <|
 .cons [112] (QL (u':=fun u51=>[(112,.blk ((u51 5).n 0) [.func (.func 181) #[] #[],.func (.func 179) #[] #[]] 226)]) (qW 112 0 (fun u51=>((u51 5).n 0)) (fun u51=>[.nilFunc,.nilFunc]) (fun u51=>[.func (.func 181) #[] #[],.func (.func 179) #[] #[]]) 226) (fun _=>by kernel_rfl))<|.nil) [2,3,4,15,106,107,108,112,999999] fun u51 a w' H=>?_
     replace G:=qP G; obtain ⟨t53,ht53,G⟩:=G
     replace G:=qP G; obtain ⟨t54,ht54,G⟩:=G
     refine qg qd H (.v 82 (vP ((u51 5).n 0) 0) <|
 .cons [83] (qf (.func (.func 181) #[] #[]) 83 112 0 1 ((u51 5).n 0) [.func (.func 181) #[] #[],.func (.func 179) #[] #[]] 226) <|
 .cons [84] (qf (.agg #[vI a0.Lo,vI a0.Hi]) 84 106 0 2 ((u1 0).n 0) [vI a0.Lo,vI a0.Hi] 46) <|
 .cons [85] (qf (.agg #[vI a1.Lo,vI a1.Hi]) 85 107 0 2 ((u1 1).n 0) [vI a1.Lo,vI a1.Hi] 46) <|
 .cons [86] (qq 181 _ _ 86 [] (fun u52 w _=>Xu.calls a0 a1  t53 w  ht53)) <|
 .v 87 (vI t53.1) <|
 .v 88 (vI t53.2) <|
 .cons [89] (qq 54 _ _ 89 [] (fun u52 w _=>Qq.calls t53.1 t53.2  t54 w  ht54)) <|
 .v 81 (.tuple #[vI t54.1,vI t54.2]) <|
 .v 90 (vI t54.1) <|
 .v 91 (vI t54.2) <|
 .v 16 (vI t54.1) <|
 .v 17 (vI t54.2)<|.nil) [2,3,4,15,16,106,107,108,112,999999] fun u52 a w' H=>?_
     replace G:=qP G; obtain ⟨t56,ht56,G⟩:=G
     replace G:=qP G; obtain ⟨t57,ht57,G⟩:=G
     refine qg qd H (.v 93 (vP ((u51 5).n 0) 1) <|
 .cons [94] (qf (.func (.func 179) #[] #[]) 94 112 1 1 ((u51 5).n 0) [.func (.func 181) #[] #[],.func (.func 179) #[] #[]] 226) <|
 .cons [95] (qf (.agg #[vI a0.Lo,vI a0.Hi]) 95 106 0 2 ((u1 0).n 0) [vI a0.Lo,vI a0.Hi] 46) <|
 .cons [96] (qf (.agg #[vI a1.Lo,vI a1.Hi]) 96 107 0 2 ((u1 1).n 0) [vI a1.Lo,vI a1.Hi] 46) <|
 .cons [97] (qq 179 _ _ 97 [] (fun u55 w _=>Xt.calls a0 a1  t56 w  ht56)) <|
 .v 98 (vI t56.1) <|
 .v 99 (vI t56.2) <|
 .cons [100] (qq 54 _ _ 100 [] (fun u55 w _=>Qq.calls t56.1 t56.2  t57 w  ht57)) <|
 .v 92 (.tuple #[vI t57.1,vI t57.2]) <|
 .v 101 (vI t57.1) <|
 .v 102 (vI t57.2) <|
 .v 18 (vI t57.1) <|
 .v 19 (vI t57.2)<|.nil) [4,16,19,108,999999] fun u55 a w' H=>?_
     replace G:=qP G; obtain ⟨t59,ht59,G⟩:=G
     refine qg qd H (.v 103 (vI t54.1) <|
 .v 104 (vI t57.2) <|
 .cons [105] (qq 68 _ _ 105 [] (fun u58 w _=>qI.calls t54.1 t57.2  t59 w  ht59)) <|
 .cons [108] (Qa 108 0 ((u1 2).n 0) [vI 0,vI 0] [vI t59.Lo,vI t59.Hi] 46 [vI t59.Lo,vI t59.Hi])<|.nil) [4,108,999999] fun u58 a w' H=>?_
     refine qF ?_
     obtain rfl:=sj G
     exact Qj H _ 108 ((u1 2).n 0) [vI t59.Lo,vI t59.Hi] 46 0 2 (by kernel_rfl) (by kernel_rfl) (by kernel_rfl) (by kernel_rfl)
    rw [if_neg c70] at G
    by_cases c71:t9=1
    ·rw [if_pos c71] at G; subst c71
     refine Qt qd H (.v 76 (vI 1) <|
 .v 77 (vI 1) <|
 .v 78 (vP 0 6) <|
 .v 79 (vP 0 8) <|
 .cons [80] (Q8 (fun u60=>.agg #[.nilFunc,.nilFunc]) 80 999999 gk 0 8 2 Vs (fun w h=>(QM h).tab0)) <|
 .cons [15,113] (qs (fun b=>vP b 0) (fun u60=>[.nilFunc,.nilFunc]) 226 15 113) <|
 .cons [113] (QL (u':=fun u60=>[(113,.blk ((u60 5).n 0) [.nilFunc,.nilFunc] 226)]) (qW 113 0 (fun u60=>((u60 5).n 0)) (fun u60=>[.nilFunc,.nilFunc]) (fun u60=>[.nilFunc,.nilFunc]) 226) (fun _=>by kernel_rfl))<|.nil) [2,3,4,15,106,107,108,113,999999] fun u60 a w' H=>?_
     refine qv ?_
     cases G
    rw [if_neg c71] at G
    by_cases c72:t9=2
    ·rw [if_pos c72] at G; subst c72
     refine Qt qd H (.v 76 (vI 1) <|
 .v 77 (vI 2) <|
 .v 78 (vP 0 6) <|
 .v 79 (vP 0 10) <|
 .cons [80] (Q8 (fun u61=>.agg #[.func (.func 180) #[] #[],.func (.func 178) #[] #[]]) 80 999999 gk 0 10 2 Vs (fun w h=>(QM h).tab0)) <|
 .cons [15,114] (qs (fun b=>vP b 0) (fun u61=>[.nilFunc,.nilFunc]) 226 15 114) <|
 .cons [114] (QL (u':=fun u61=>[(114,.blk ((u61 5).n 0) [.func (.func 180) #[] #[],.func (.func 178) #[] #[]] 226)]) (qW 114 0 (fun u61=>((u61 5).n 0)) (fun u61=>[.nilFunc,.nilFunc]) (fun u61=>[.func (.func 180) #[] #[],.func (.func 178) #[] #[]]) 226) (fun _=>by kernel_rfl))<|.nil) [2,3,4,15,106,107,108,114,999999] fun u61 a w' H=>?_
     replace G:=qP G; obtain ⟨t63,ht63,G⟩:=G
     replace G:=qP G; obtain ⟨t64,ht64,G⟩:=G
     refine qg qd H (.v 82 (vP ((u61 5).n 0) 0) <|
 .cons [83] (qf (.func (.func 180) #[] #[]) 83 114 0 1 ((u61 5).n 0) [.func (.func 180) #[] #[],.func (.func 178) #[] #[]] 226) <|
 .cons [84] (qf (.agg #[vI a0.Lo,vI a0.Hi]) 84 106 0 2 ((u1 0).n 0) [vI a0.Lo,vI a0.Hi] 46) <|
 .cons [85] (qf (.agg #[vI a1.Lo,vI a1.Hi]) 85 107 0 2 ((u1 1).n 0) [vI a1.Lo,vI a1.Hi] 46) <|
 .cons [86] (qq 180 _ _ 86 [] (fun u62 w _=>Xs.calls a0 a1  t63 w  ht63)) <|
 .v 87 (vI t63.1) <|
 .v 88 (vI t63.2) <|
 .cons [89] (qq 54 _ _ 89 [] (fun u62 w _=>Qq.calls t63.1 t63.2  t64 w  ht64)) <|
 .v 81 (.tuple #[vI t64.1,vI t64.2]) <|
 .v 90 (vI t64.1) <|
 .v 91 (vI t64.2) <|
 .v 16 (vI t64.1) <|
 .v 17 (vI t64.2)<|.nil) [2,3,4,15,16,106,107,108,114,999999] fun u62 a w' H=>?_
     replace G:=qP G; obtain ⟨t66,ht66,G⟩:=G
     replace G:=qP G; obtain ⟨t67,ht67,G⟩:=G
     refine qg qd H (.v 93 (vP ((u61 5).n 0) 1) <|
 .cons [94] (qf (.func (.func 178) #[] #[]) 94 114 1 1 ((u61 5).n 0) [.func (.func 180) #[] #[],.func (.func 178) #[] #[]] 226) <|
 .cons [95] (qf (.agg #[vI a0.Lo,vI a0.Hi]) 95 106 0 2 ((u1 0).n 0) [vI a0.Lo,vI a0.Hi] 46) <|
 .cons [96] (qf (.agg #[vI a1.Lo,vI a1.Hi]) 96 107 0 2 ((u1 1).n 0) [vI a1.Lo,vI a1.Hi] 46) <|
 .cons [97] (qq 178 _ _ 97 [] (fun u65 w _=>Xr.calls a0 a1  t66 w  ht66)) <|
 .v 98 (vI t66.1) <|
 .v 99 (vI t66.2) <|
 .cons [100] (qq 54 _ _ 100 [] (fun u65 w _=>Qq.calls t66.1 t66.2  t67 w  ht67)) <|
 .v 92 (.tuple #[vI t67.1,vI t67.2]) <|
 .v 101 (vI t67.1) <|
 .v 102 (vI t67.2) <|
 .v 18 (vI t67.1) <|
 .v 19 (vI t67.2)<|.nil) [4,16,19,108,999999] fun u65 a w' H=>?_
     replace G:=qP G; obtain ⟨t69,ht69,G⟩:=G
     refine qg qd H (.v 103 (vI t64.1) <|
 .v 104 (vI t67.2) <|
 .cons [105] (qq 68 _ _ 105 [] (fun u68 w _=>qI.calls t64.1 t67.2  t69 w  ht69)) <|
 .cons [108] (Qa 108 0 ((u1 2).n 0) [vI 0,vI 0] [vI t69.Lo,vI t69.Hi] 46 [vI t69.Lo,vI t69.Hi])<|.nil) [4,108,999999] fun u68 a w' H=>?_
     refine qF ?_
     obtain rfl:=sj G
     exact Qj H _ 108 ((u1 2).n 0) [vI t69.Lo,vI t69.Hi] 46 0 2 (by kernel_rfl) (by kernel_rfl) (by kernel_rfl) (by kernel_rfl)
    rw [if_neg c72] at G
    cases G
   rw [if_neg c104] at G
   by_cases c105:t8=2
   ·rw [if_pos c105] at G; subst c105
    by_cases c100:t9=0
    ·rw [if_pos c100] at G; subst c100
     refine Qt qd H (.v 76 (vI 2) <|
 .v 77 (vI 0) <|
 .v 78 (vP 0 12) <|
 .v 79 (vP 0 12) <|
 .cons [80] (Q8 (fun u73=>.agg #[.func (.func 181) #[] #[],.func (.func 180) #[] #[]]) 80 999999 gk 0 12 2 Vs (fun w h=>(QM h).tab0)) <|
 .cons [15,115] (qs (fun b=>vP b 0) (fun u73=>[.nilFunc,.nilFunc]) 226 15 115) <|
 .cons [115] (QL (u':=fun u73=>[(115,.blk ((u73 5).n 0) [.func (.func 181) #[] #[],.func (.func 180) #[] #[]] 226)]) (qW 115 0 (fun u73=>((u73 5).n 0)) (fun u73=>[.nilFunc,.nilFunc]) (fun u73=>[.func (.func 181) #[] #[],.func (.func 180) #[] #[]]) 226) (fun _=>by kernel_rfl))<|.nil) [2,3,4,15,106,107,108,115,999999] fun u73 a w' H=>?_
     replace G:=qP G; obtain ⟨t75,ht75,G⟩:=G
     replace G:=qP G; obtain ⟨t76,ht76,G⟩:=G
     refine qg qd H (.v 82 (vP ((u73 5).n 0) 0) <|
 .cons [83] (qf (.func (.func 181) #[] #[]) 83 115 0 1 ((u73 5).n 0) [.func (.func 181) #[] #[],.func (.func 180) #[] #[]] 226) <|
 .cons [84] (qf (.agg #[vI a0.Lo,vI a0.Hi]) 84 106 0 2 ((u1 0).n 0) [vI a0.Lo,vI a0.Hi] 46) <|
 .cons [85] (qf (.agg #[vI a1.Lo,vI a1.Hi]) 85 107 0 2 ((u1 1).n 0) [vI a1.Lo,vI a1.Hi] 46) <|
 .cons [86] (qq 181 _ _ 86 [] (fun u74 w _=>Xu.calls a0 a1  t75 w  ht75)) <|
 .v 87 (vI t75.1) <|
 .v 88 (vI t75.2) <|
 .cons [89] (qq 54 _ _ 89 [] (fun u74 w _=>Qq.calls t75.1 t75.2  t76 w  ht76)) <|
 .v 81 (.tuple #[vI t76.1,vI t76.2]) <|
 .v 90 (vI t76.1) <|
 .v 91 (vI t76.2) <|
 .v 16 (vI t76.1) <|
 .v 17 (vI t76.2)<|.nil) [2,3,4,15,16,106,107,108,115,999999] fun u74 a w' H=>?_
     replace G:=qP G; obtain ⟨t78,ht78,G⟩:=G
     replace G:=qP G; obtain ⟨t79,ht79,G⟩:=G
     refine qg qd H (.v 93 (vP ((u73 5).n 0) 1) <|
 .cons [94] (qf (.func (.func 180) #[] #[]) 94 115 1 1 ((u73 5).n 0) [.func (.func 181) #[] #[],.func (.func 180) #[] #[]] 226) <|
 .cons [95] (qf (.agg #[vI a0.Lo,vI a0.Hi]) 95 106 0 2 ((u1 0).n 0) [vI a0.Lo,vI a0.Hi] 46) <|
 .cons [96] (qf (.agg #[vI a1.Lo,vI a1.Hi]) 96 107 0 2 ((u1 1).n 0) [vI a1.Lo,vI a1.Hi] 46) <|
 .cons [97] (qq 180 _ _ 97 [] (fun u77 w _=>Xs.calls a0 a1  t78 w  ht78)) <|
 .v 98 (vI t78.1) <|
 .v 99 (vI t78.2) <|
 .cons [100] (qq 54 _ _ 100 [] (fun u77 w _=>Qq.calls t78.1 t78.2  t79 w  ht79)) <|
 .v 92 (.tuple #[vI t79.1,vI t79.2]) <|
 .v 101 (vI t79.1) <|
 .v 102 (vI t79.2) <|
 .v 18 (vI t79.1) <|
 .v 19 (vI t79.2)<|.nil) [4,16,19,108,999999] fun u77 a w' H=>?_
     replace G:=qP G; obtain ⟨t81,ht81,G⟩:=G
     refine qg qd H (.v 103 (vI t76.1) <|
 .v 104 (vI t79.2) <|
 .cons [105] (qq 68 _ _ 105 [] (fun u80 w _=>qI.calls t76.1 t79.2  t81 w  ht81)) <|
 .cons [108] (Qa 108 0 ((u1 2).n 0) [vI 0,vI 0] [vI t81.Lo,vI t81.Hi] 46 [vI t81.Lo,vI t81.Hi])<|.nil) [4,108,999999] fun u80 a w' H=>?_
     refine qF ?_
     obtain rfl:=sj G
     exact Qj H _ 108 ((u1 2).n 0) [vI t81.Lo,vI t81.Hi] 46 0 2 (by kernel_rfl) (by kernel_rfl) (by kernel_rfl) (by kernel_rfl)
    rw [if_neg c100] at G
    by_cases c101:t9=1
    ·rw [if_pos c101] at G; subst c101
     refine Qt qd H (.v 76 (vI 2) <|
 .v 77 (vI 1) <|
 .v 78 (vP 0 12) <|
 .v 79 (vP 0 14) <|
 .cons [80] (Q8 (fun u82=>.agg #[.func (.func 181) #[] #[],.func (.func 178) #[] #[]]) 80 999999 gk 0 14 2 Vs (fun w h=>(QM h).tab0)) <|
 .cons [15,116] (qs (fun b=>vP b 0) (fun u82=>[.nilFunc,.nilFunc]) 226 15 116) <|
 .cons [116] (QL (u':=fun u82=>[(116,.blk ((u82 5).n 0) [.func (.func 181) #[] #[],.func (.func 178) #[] #[]] 226)]) (qW 116 0 (fun u82=>((u82 5).n 0)) (fun u82=>[.nilFunc,.nilFunc]) (fun u82=>[.func (.func 181) #[] #[],.func (.func 178) #[] #[]]) 226) (fun _=>by kernel_rfl))<|.nil) [2,3,4,15,106,107,108,116,999999] fun u82 a w' H=>?_
     replace G:=qP G; obtain ⟨t84,ht84,G⟩:=G
     replace G:=qP G; obtain ⟨t85,ht85,G⟩:=G
     refine qg qd H (.v 82 (vP ((u82 5).n 0) 0) <|
 .cons [83] (qf (.func (.func 181) #[] #[]) 83 116 0 1 ((u82 5).n 0) [.func (.func 181) #[] #[],.func (.func 178) #[] #[]] 226) <|
 .cons [84] (qf (.agg #[vI a0.Lo,vI a0.Hi]) 84 106 0 2 ((u1 0).n 0) [vI a0.Lo,vI a0.Hi] 46) <|
 .cons [85] (qf (.agg #[vI a1.Lo,vI a1.Hi]) 85 107 0 2 ((u1 1).n 0) [vI a1.Lo,vI a1.Hi] 46) <|
 .cons [86] (qq 181 _ _ 86 [] (fun u83 w _=>Xu.calls a0 a1  t84 w  ht84)) <|
 .v 87 (vI t84.1) <|
 .v 88 (vI t84.2) <|
 .cons [89] (qq 54 _ _ 89 [] (fun u83 w _=>Qq.calls t84.1 t84.2  t85 w  ht85)) <|
 .v 81 (.tuple #[vI t85.1,vI t85.2]) <|
 .v 90 (vI t85.1) <|
 .v 91 (vI t85.2) <|
 .v 16 (vI t85.1) <|
 .v 17 (vI t85.2)<|.nil) [2,3,4,15,16,106,107,108,116,999999] fun u83 a w' H=>?_
     replace G:=qP G; obtain ⟨t87,ht87,G⟩:=G
     replace G:=qP G; obtain ⟨t88,ht88,G⟩:=G
     refine qg qd H (.v 93 (vP ((u82 5).n 0) 1) <|
 .cons [94] (qf (.func (.func 178) #[] #[]) 94 116 1 1 ((u82 5).n 0) [.func (.func 181) #[] #[],.func (.func 178) #[] #[]] 226) <|
 .cons [95] (qf (.agg #[vI a0.Lo,vI a0.Hi]) 95 106 0 2 ((u1 0).n 0) [vI a0.Lo,vI a0.Hi] 46) <|
 .cons [96] (qf (.agg #[vI a1.Lo,vI a1.Hi]) 96 107 0 2 ((u1 1).n 0) [vI a1.Lo,vI a1.Hi] 46) <|
 .cons [97] (qq 178 _ _ 97 [] (fun u86 w _=>Xr.calls a0 a1  t87 w  ht87)) <|
 .v 98 (vI t87.1) <|
 .v 99 (vI t87.2) <|
 .cons [100] (qq 54 _ _ 100 [] (fun u86 w _=>Qq.calls t87.1 t87.2  t88 w  ht88)) <|
 .v 92 (.tuple #[vI t88.1,vI t88.2]) <|
 .v 101 (vI t88.1) <|
 .v 102 (vI t88.2) <|
 .v 18 (vI t88.1) <|
 .v 19 (vI t88.2)<|.nil) [4,16,19,108,999999] fun u86 a w' H=>?_
     replace G:=qP G; obtain ⟨t90,ht90,G⟩:=G
     refine qg qd H (.v 103 (vI t85.1) <|
 .v 104 (vI t88.2) <|
 .cons [105] (qq 68 _ _ 105 [] (fun u89 w _=>qI.calls t85.1 t88.2  t90 w  ht90)) <|
 .cons [108] (Qa 108 0 ((u1 2).n 0) [vI 0,vI 0] [vI t90.Lo,vI t90.Hi] 46 [vI t90.Lo,vI t90.Hi])<|.nil) [4,108,999999] fun u89 a w' H=>?_
     refine qF ?_
     obtain rfl:=sj G
     exact Qj H _ 108 ((u1 2).n 0) [vI t90.Lo,vI t90.Hi] 46 0 2 (by kernel_rfl) (by kernel_rfl) (by kernel_rfl) (by kernel_rfl)
    rw [if_neg c101] at G
    by_cases c102:t9=2
    ·rw [if_pos c102] at G; subst c102
     refine Qt qd H (.v 76 (vI 2) <|
 .v 77 (vI 2) <|
 .v 78 (vP 0 12) <|
 .v 79 (vP 0 16) <|
 .cons [80] (Q8 (fun u91=>.agg #[.func (.func 179) #[] #[],.func (.func 178) #[] #[]]) 80 999999 gk 0 16 2 Vs (fun w h=>(QM h).tab0)) <|
 .cons [15,117] (qs (fun b=>vP b 0) (fun u91=>[.nilFunc,.nilFunc]) 226 15 117) <|
 .cons [117] (QL (u':=fun u91=>[(117,.blk ((u91 5).n 0) [.func (.func 179) #[] #[],.func (.func 178) #[] #[]] 226)]) (qW 117 0 (fun u91=>((u91 5).n 0)) (fun u91=>[.nilFunc,.nilFunc]) (fun u91=>[.func (.func 179) #[] #[],.func (.func 178) #[] #[]]) 226) (fun _=>by kernel_rfl))<|.nil) [2,3,4,15,106,107,108,117,999999] fun u91 a w' H=>?_
     replace G:=qP G; obtain ⟨t93,ht93,G⟩:=G
     replace G:=qP G; obtain ⟨t94,ht94,G⟩:=G
     refine qg qd H (.v 82 (vP ((u91 5).n 0) 0) <|
 .cons [83] (qf (.func (.func 179) #[] #[]) 83 117 0 1 ((u91 5).n 0) [.func (.func 179) #[] #[],.func (.func 178) #[] #[]] 226) <|
 .cons [84] (qf (.agg #[vI a0.Lo,vI a0.Hi]) 84 106 0 2 ((u1 0).n 0) [vI a0.Lo,vI a0.Hi] 46) <|
 .cons [85] (qf (.agg #[vI a1.Lo,vI a1.Hi]) 85 107 0 2 ((u1 1).n 0) [vI a1.Lo,vI a1.Hi] 46) <|
 .cons [86] (qq 179 _ _ 86 [] (fun u92 w _=>Xt.calls a0 a1  t93 w  ht93)) <|
 .v 87 (vI t93.1) <|
 .v 88 (vI t93.2) <|
 .cons [89] (qq 54 _ _ 89 [] (fun u92 w _=>Qq.calls t93.1 t93.2  t94 w  ht94)) <|
 .v 81 (.tuple #[vI t94.1,vI t94.2]) <|
 .v 90 (vI t94.1) <|
 .v 91 (vI t94.2) <|
 .v 16 (vI t94.1) <|
 .v 17 (vI t94.2)<|.nil) [2,3,4,15,16,106,107,108,117,999999] fun u92 a w' H=>?_
     replace G:=qP G; obtain ⟨t96,ht96,G⟩:=G
     replace G:=qP G; obtain ⟨t97,ht97,G⟩:=G
     refine qg qd H (.v 93 (vP ((u91 5).n 0) 1) <|
 .cons [94] (qf (.func (.func 178) #[] #[]) 94 117 1 1 ((u91 5).n 0) [.func (.func 179) #[] #[],.func (.func 178) #[] #[]] 226) <|
 .cons [95] (qf (.agg #[vI a0.Lo,vI a0.Hi]) 95 106 0 2 ((u1 0).n 0) [vI a0.Lo,vI a0.Hi] 46) <|
 .cons [96] (qf (.agg #[vI a1.Lo,vI a1.Hi]) 96 107 0 2 ((u1 1).n 0) [vI a1.Lo,vI a1.Hi] 46) <|
 .cons [97] (qq 178 _ _ 97 [] (fun u95 w _=>Xr.calls a0 a1  t96 w  ht96)) <|
 .v 98 (vI t96.1) <|
 .v 99 (vI t96.2) <|
 .cons [100] (qq 54 _ _ 100 [] (fun u95 w _=>Qq.calls t96.1 t96.2  t97 w  ht97)) <|
 .v 92 (.tuple #[vI t97.1,vI t97.2]) <|
 .v 101 (vI t97.1) <|
 .v 102 (vI t97.2) <|
 .v 18 (vI t97.1) <|
 .v 19 (vI t97.2)<|.nil) [4,16,19,108,999999] fun u95 a w' H=>?_
     replace G:=qP G; obtain ⟨t99,ht99,G⟩:=G
     refine qg qd H (.v 103 (vI t94.1) <|
 .v 104 (vI t97.2) <|
 .cons [105] (qq 68 _ _ 105 [] (fun u98 w _=>qI.calls t94.1 t97.2  t99 w  ht99)) <|
 .cons [108] (Qa 108 0 ((u1 2).n 0) [vI 0,vI 0] [vI t99.Lo,vI t99.Hi] 46 [vI t99.Lo,vI t99.Hi])<|.nil) [4,108,999999] fun u98 a w' H=>?_
     refine qF ?_
     obtain rfl:=sj G
     exact Qj H _ 108 ((u1 2).n 0) [vI t99.Lo,vI t99.Hi] 46 0 2 (by kernel_rfl) (by kernel_rfl) (by kernel_rfl) (by kernel_rfl)
    rw [if_neg c102] at G
    cases G
   rw [if_neg c105] at G
   cases G
theorem Yg.calls (a0:qb) (a1:Int) (r:Bool) (w:World) (G:Yg a0 a1=some r) :
  Calls Tryz.prog 143 #[.agg #[vI a0.Lo,vI a0.Hi],vI a1] w fun e w'=>e = .returned (.bool r)∧Below w.heap.size w w':=by
 refine QD (args:=[.agg #[vI a0.Lo,vI a0.Hi],vI a1]) 19 Tryz.func143 rfl (by kernel_rfl) (by kernel_rfl) fun a H=>?_
 unfold Yg at G
 refine qg qd H (.cons [2,19] (qs (fun b=>vP b 0) (fun u1=>[vI a0.Lo,vI a0.Hi]) 46 2 19) <|
 .v 4 (.bool false)<|.nil) [1,2,19] fun u1 a w' H=>?_
 obtain ⟨t3,ht3,G⟩:=qP G
 refine qg qd H (.cons [5] (qf (.agg #[vI a0.Lo,vI a0.Hi]) 5 19 0 2 ((u1 0).n 0) [vI a0.Lo,vI a0.Hi] 46) <|
 .cons [6] (qq 21 _ _ 6 [] (fun u2 w _=>qV.calls a0  t3 w  ht3)) <|
 .v 7 (.bool t3) <|
 .cons [8] (qQ (fun u2=>vP ((u1 0).n 0) 0) (fun u2=>(t3 == false)) [true] 8) <|
 .cons [9] (YS (fun u2=>vI a0.Lo) (fun u2=>(t3 == false)) [false] 9 19 0 1 (fun u2=>((u1 0).n 0)) (fun u2=>[vI a0.Lo,vI a0.Hi]) 46) <|
 .cons [10] (qQ (fun u2=>vI a1) (fun u2=>(t3 == false)) [true] 10) <|
 .cons [11] (qQ (fun u2=>.bool (decide (a0.Lo≤a1))) (fun u2=>(t3 == false)) [false,false] 11) <|
 .cons [12] (qQ (fun u2=>.bool (decide (a0.Lo≤a1))) (fun u2=>(t3 == false)) [false] 12) <|
 .cons [13] (qQ (fun u2=>vI a1) (fun u2=>((t3 == false) && ((decide (a0.Lo≤a1)) == true))) [true] 13) <|
 .cons [14] (qQ (fun u2=>vP ((u1 0).n 0) 1) (fun u2=>((t3 == false) && ((decide (a0.Lo≤a1)) == true))) [true] 14) <|
 .cons [15] (YS (fun u2=>vI a0.Hi) (fun u2=>((t3 == false) && ((decide (a0.Lo≤a1)) == true))) [false] 15 19 1 1 (fun u2=>((u1 0).n 0)) (fun u2=>[vI a0.Lo,vI a0.Hi]) 46) <|
 .cons [16] (qQ (fun u2=>.bool (decide (a1≤a0.Hi))) (fun u2=>((t3 == false) && ((decide (a0.Lo≤a1)) == true))) [false,false] 16) <|
 .cons [17] (YY 12 16 (fun u2=>(t3 == false)) (fun u2=>(t3 == false)) (fun u2=>decide (a0.Lo≤a1)) (fun u2=>decide (a1≤a0.Hi)) 17) <|
 .cons [18] (ZM 7 17 (fun u2=>true) (fun u2=>true) (fun u2=>t3) (fun u2=>((decide (a0.Lo≤a1)) && (decide (a1≤a0.Hi)))) 18) <|
 .v 4 (.bool (t3 || ((decide (a0.Lo≤a1)) && (decide (a1≤a0.Hi)))))<|.nil) [4] fun u2 a w' H=>?_
 refine qF ?_
 obtain rfl:=sj G
 exact Qr H _ (by kernel_rfl) (by kernel_rfl)
theorem Q4.calls (a0:Bool) (a1:Int) (a2:Int) (r:Int) (w:World) (G:Q4 a0 a1 a2=some r) :
  Calls Tryz.prog 144 #[.bool a0,vI a1,vI a2] w fun e w'=>e = .returned (vI r)∧Below w.heap.size w w':=by
 refine QD (args:=[.bool a0,vI a1,vI a2]) 10 Tryz.func144 rfl (by kernel_rfl) (by kernel_rfl) fun a H=>?_
 unfold Q4 at G
 refine qg qd H (.v 6 (vI 0)<|.nil) [0,1,2] fun u1 a w' H=>?_
 refine qv ?_
 refine qg qd H (.v 7 (.bool a0)<|.nil) [1,2,7] fun u2 a w' H=>?_
 refine Qx H a0 (fun c5=>?_) fun c5=>?_
 ·rw [if_pos c5] at G
  refine qg qd H (.v 8 (vI a1) <|
 .v 6 (vI a1)<|.nil) [6] fun u3 a w' H=>?_
  refine qF ?_
  obtain rfl:=sj G
  exact Qr H _ (by kernel_rfl) (by kernel_rfl)
 ·rw [if_neg (nt c5)] at G
  refine Qf ?_
  refine qg qd H (.v 9 (vI a2) <|
 .v 6 (vI a2)<|.nil) [6] fun u4 a w' H=>?_
  refine qF ?_
  obtain rfl:=sj G
  exact Qr H _ (by kernel_rfl) (by kernel_rfl)
theorem Q5.calls (a0:Int) (a1:Int) (r:Int × Int × Int) (w:World) (G:Q5 a0 a1=some r) :
  Calls Tryz.prog 145 #[vI a0,vI a1] w fun e w'=>e = .returned (.tuple #[vI r.1,vI r.2.1,vI r.2.2])∧Below w.heap.size w w':=by
 refine QD (args:=[vI a0,vI a1]) 20 Tryz.func145 rfl (by kernel_rfl) (by kernel_rfl) fun a H=>?_
 unfold Q5 at G
 refine qg qd H (.v 4 (vI 0) <|
 .v 5 (vI 0) <|
 .v 6 (vI 0)<|.nil) [0,1] fun u1 a w' H=>?_
 refine qv ?_
 refine qg qd H (.v 9 (vI a1) <|
 .v 10 (.bool (a1 == 0))<|.nil) [0,1,10] fun u2 a w' H=>?_
 refine Qx H (a1 == 0) (fun c7=>?_) fun c7=>?_
 ·rw [if_pos c7] at G
  refine qg qd H (.v 4 (vI 0) <|
 .v 5 (vI 0) <|
 .v 6 (vI 3)<|.nil) [4,5,6] fun u3 a w' H=>?_
  refine qF ?_
  obtain rfl:=sj G
  exact Qr H _ (by kernel_rfl) (by kernel_rfl)
 ·rw [if_neg (nt c7)] at G
  refine Qf ?_
  obtain ⟨t5,ht5,G⟩:=qP G
  refine qg qd H (.v 12 (vI a0) <|
 .v 13 (vI (qc (a0 * 65536))) <|
 .v 14 (vI a1) <|
 .cons [15] (qq 75 _ _ 15 [] (fun u4 w _=>Ya.calls (qc (a0 * 65536)) a1  t5 w  ht5)) <|
 .v 11 (.tuple #[vI t5.1,vI t5.2]) <|
 .v 16 (vI t5.1) <|
 .v 17 (vI t5.2) <|
 .v 7 (vI t5.1) <|
 .v 8 (vI t5.2)<|.nil) [7,8] fun u4 a w' H=>?_
  refine qg qd H (.v 18 (vI t5.1) <|
 .v 19 (vI t5.2) <|
 .v 4 (vI t5.1) <|
 .v 5 (vI t5.2) <|
 .v 6 (vI 0)<|.nil) [4,5,6] fun u6 a w' H=>?_
  refine qF ?_
  obtain rfl:=sj G
  exact Qr H _ (by kernel_rfl) (by kernel_rfl)
theorem QY.calls (a0:qb) (a1:qb) (r:qb) (w:World) (hg:Ww w) (G:QY a0 a1=some r) :
  Calls Tryz.prog 137 #[.agg #[vI a0.Lo,vI a0.Hi],.agg #[vI a1.Lo,vI a1.Hi]] w fun e w'=>e = .returned (.agg #[vI r.Lo,vI r.Hi])∧Below w.heap.size w w':=by
 refine qae (args:=[.agg #[vI a0.Lo,vI a0.Hi],.agg #[vI a1.Lo,vI a1.Hi]]) 59 999999 Wg Ww (J2 hg) (Yl hg) Tryz.func137 rfl (by kernel_rfl) (by kernel_rfl) fun a H=>?_
 unfold QY at G
 refine qg qd H (.cons [2,59] (qs (fun b=>vP b 0) (fun u1=>[vI a0.Lo,vI a0.Hi]) 46 2 59) <|
 .cons [3,60] (qs (fun b=>vP b 0) (fun u1=>[vI a1.Lo,vI a1.Hi]) 46 3 60) <|
 .cons [4,61] (qs (fun b=>vP b 0) (fun u1=>[vI 0,vI 0]) 46 4 61)<|.nil) [2,3,4,59,60,61,999999] fun u1 a w' H=>?_
 refine qv ?_
 replace G:=qP G; obtain ⟨t3,ht3,G⟩:=G
 replace G:=qP G; obtain ⟨t4,ht4,G⟩:=G
 replace G:=qP G; obtain ⟨t5,ht5,G⟩:=G
 refine qg qd H (.cons [12] (qf (.agg #[vI a0.Lo,vI a0.Hi]) 12 59 0 2 ((u1 0).n 0) [vI a0.Lo,vI a0.Hi] 46) <|
 .cons [13] (qq 21 _ _ 13 [] (fun u2 w _=>qV.calls a0  t3 w  ht3)) <|
 .v 14 (.bool t3) <|
 .cons [15] (YS (fun u2=>.agg #[vI a1.Lo,vI a1.Hi]) (fun u2=>(t3 == false)) [true] 15 60 0 2 (fun u2=>((u1 1).n 0)) (fun u2=>[vI a1.Lo,vI a1.Hi]) 46) <|
 .cons [16] (ZR 21 (fun u2=>#[.agg #[vI a1.Lo,vI a1.Hi]]) (.bool t4) (fun u2=>(t3 == false)) [true,false] 16 [] (fun u2 w hg _=>qV.calls a1  t4 w  (ifp ht4 hg))) <|
 .cons [17] (ZM 14 16 (fun u2=>true) (fun u2=>true) (fun u2=>t3) (fun u2=>t4) 17) <|
 .v 18 (.bool (t3 || t4)) <|
 .cons [19] (YS (fun u2=>.agg #[vI a1.Lo,vI a1.Hi]) (fun u2=>((t3 || t4) == false)) [true] 19 60 0 2 (fun u2=>((u1 1).n 0)) (fun u2=>[vI a1.Lo,vI a1.Hi]) 46) <|
 .cons [20] (ZR 143 (fun u2=>#[.agg #[vI a1.Lo,vI a1.Hi],vI 0]) (.bool t5) (fun u2=>((t3 || t4) == false)) [true,false,true] 20 [] (fun u2 w hg _=>Yg.calls a1 0  t5 w  (ifp ht5 hg))) <|
 .cons [21] (ZM 18 20 (fun u2=>true) (fun u2=>true) (fun u2=>(t3 || t4)) (fun u2=>t5) 21)<|.nil) [2,3,4,21,59,60,61,999999] fun u2 a w' H=>?_
 refine Qx H ((t3 || t4) || t5) (fun c24=>?_) fun c24=>?_
 ·rw [if_pos c24] at G
  replace G:=qP G; obtain ⟨t7,ht7,G⟩:=G
  refine qg qd H (.cons [22] (qq 48 _ _ 22 [] (fun u6 w _=>QT.calls   t7 w  ht7)) <|
 .cons [61] (Qa 61 0 ((u1 2).n 0) [vI 0,vI 0] [vI t7.Lo,vI t7.Hi] 46 [vI t7.Lo,vI t7.Hi])<|.nil) [4,61,999999] fun u6 a w' H=>?_
  refine qF ?_
  obtain rfl:=sj G
  exact Qj H _ 61 ((u1 2).n 0) [vI t7.Lo,vI t7.Hi] 46 0 2 (by kernel_rfl) (by kernel_rfl) (by kernel_rfl) (by kernel_rfl)
 ·rw [if_neg (nt c24)] at G
  refine Qf ?_
  refine qv ?_
  replace G:=qP G; obtain ⟨t9,ht9,G⟩:=G
  by_cases c21:t9=0
  ·rw [if_pos c21] at G; subst c21
   replace G:=qP G; obtain ⟨t10,ht10,G⟩:=G
   by_cases c19:t10=0
   ·rw [if_pos c19] at G; subst c19
    refine Qt qd H (.cons [23] (qf (.agg #[vI a0.Lo,vI a0.Hi]) 23 59 0 2 ((u1 0).n 0) [vI a0.Lo,vI a0.Hi] 46) <|
 .cons [24] (qq 136 _ _ 24 [] (fun u8 w _=>Xw.calls a0  0 w  ht9)) <|
 .v 25 (vP ((u1 1).n 0) 0) <|
 .cons [26] (qf (vI a1.Lo) 26 60 0 1 ((u1 1).n 0) [vI a1.Lo,vI a1.Hi] 46) <|
 .v 27 (.bool (decide (a1.Lo > 0))) <|
 .cons [28] (qq 144 _ _ 28 [] (fun u8 w _=>Q4.calls (decide (a1.Lo > 0)) 1 0  0 w  ht10)) <|
 .v 29 (vP 2 0) <|
 .v 30 (vP 2 0) <|
 .cons [31] (Q8 (fun u8=>.agg #[.func (.func 181) #[] #[],.func (.func 180) #[] #[]]) 31 999999 gk 2 0 2 WG (fun w h=>(QM h).tab2)) <|
 .cons [5,62] (qs (fun b=>vP b 0) (fun u8=>[.nilFunc,.nilFunc]) 226 5 62) <|
 .cons [62] (QL (u':=fun u8=>[(62,.blk ((u8 9).n 0) [.func (.func 181) #[] #[],.func (.func 180) #[] #[]] 226)]) (qW 62 0 (fun u8=>((u8 9).n 0)) (fun u8=>[.nilFunc,.nilFunc]) (fun u8=>[.func (.func 181) #[] #[],.func (.func 180) #[] #[]]) 226) (fun _=>by kernel_rfl))<|.nil) [2,3,4,5,59,60,61,62,999999] fun u8 a w' H=>?_
    replace G:=qP G; obtain ⟨t12,ht12,G⟩:=G
    replace G:=qP G; obtain ⟨t13,ht13,G⟩:=G
    refine qg qd H (.v 33 (vP ((u8 9).n 0) 0) <|
 .cons [34] (qf (.func (.func 181) #[] #[]) 34 62 0 1 ((u8 9).n 0) [.func (.func 181) #[] #[],.func (.func 180) #[] #[]] 226) <|
 .cons [35] (qf (.agg #[vI a0.Lo,vI a0.Hi]) 35 59 0 2 ((u1 0).n 0) [vI a0.Lo,vI a0.Hi] 46) <|
 .cons [36] (qf (.agg #[vI a1.Lo,vI a1.Hi]) 36 60 0 2 ((u1 1).n 0) [vI a1.Lo,vI a1.Hi] 46) <|
 .cons [37] (qq 181 _ _ 37 [] (fun u11 w _=>Xu.calls a0 a1  t12 w  ht12)) <|
 .v 38 (vI t12.1) <|
 .v 39 (vI t12.2) <|
 .cons [40] (qq 145 _ _ 40 [] (fun u11 w _=>Q5.calls t12.1 t12.2  t13 w  ht13)) <|
 .v 32 (.tuple #[vI t13.1,vI t13.2.1,vI t13.2.2]) <|
 .v 41 (vI t13.1) <|
 .v 42 (vI t13.2.1) <|
 .v 43 (vI t13.2.2) <|
 .v 6 (vI t13.1) <|
 .v 7 (vI t13.2.1) <|
 .v 8 (vI t13.2.2)<|.nil) [2,3,4,5,6,59,60,61,62,999999] fun u11 a w' H=>?_
    replace G:=qP G; obtain ⟨t15,ht15,G⟩:=G
    replace G:=qP G; obtain ⟨t16,ht16,G⟩:=G
    refine qg qd H (.v 45 (vP ((u8 9).n 0) 1) <|
 .cons [46] (qf (.func (.func 180) #[] #[]) 46 62 1 1 ((u8 9).n 0) [.func (.func 181) #[] #[],.func (.func 180) #[] #[]] 226) <|
 .cons [47] (qf (.agg #[vI a0.Lo,vI a0.Hi]) 47 59 0 2 ((u1 0).n 0) [vI a0.Lo,vI a0.Hi] 46) <|
 .cons [48] (qf (.agg #[vI a1.Lo,vI a1.Hi]) 48 60 0 2 ((u1 1).n 0) [vI a1.Lo,vI a1.Hi] 46) <|
 .cons [49] (qq 180 _ _ 49 [] (fun u14 w _=>Xs.calls a0 a1  t15 w  ht15)) <|
 .v 50 (vI t15.1) <|
 .v 51 (vI t15.2) <|
 .cons [52] (qq 145 _ _ 52 [] (fun u14 w _=>Q5.calls t15.1 t15.2  t16 w  ht16)) <|
 .v 44 (.tuple #[vI t16.1,vI t16.2.1,vI t16.2.2]) <|
 .v 53 (vI t16.1) <|
 .v 54 (vI t16.2.1) <|
 .v 55 (vI t16.2.2) <|
 .v 9 (vI t16.1) <|
 .v 10 (vI t16.2.1) <|
 .v 11 (vI t16.2.2)<|.nil) [4,6,10,61,999999] fun u14 a w' H=>?_
    replace G:=qP G; obtain ⟨t18,ht18,G⟩:=G
    refine qg qd H (.v 56 (vI t13.1) <|
 .v 57 (vI t16.2.1) <|
 .cons [58] (qq 68 _ _ 58 [] (fun u17 w _=>qI.calls t13.1 t16.2.1  t18 w  ht18)) <|
 .cons [61] (Qa 61 0 ((u1 2).n 0) [vI 0,vI 0] [vI t18.Lo,vI t18.Hi] 46 [vI t18.Lo,vI t18.Hi])<|.nil) [4,61,999999] fun u17 a w' H=>?_
    refine qF ?_
    obtain rfl:=sj G
    exact Qj H _ 61 ((u1 2).n 0) [vI t18.Lo,vI t18.Hi] 46 0 2 (by kernel_rfl) (by kernel_rfl) (by kernel_rfl) (by kernel_rfl)
   rw [if_neg c19] at G
   by_cases c20:t10=1
   ·rw [if_pos c20] at G; subst c20
    refine Qt qd H (.cons [23] (qf (.agg #[vI a0.Lo,vI a0.Hi]) 23 59 0 2 ((u1 0).n 0) [vI a0.Lo,vI a0.Hi] 46) <|
 .cons [24] (qq 136 _ _ 24 [] (fun u8 w _=>Xw.calls a0  0 w  ht9)) <|
 .v 25 (vP ((u1 1).n 0) 0) <|
 .cons [26] (qf (vI a1.Lo) 26 60 0 1 ((u1 1).n 0) [vI a1.Lo,vI a1.Hi] 46) <|
 .v 27 (.bool (decide (a1.Lo > 0))) <|
 .cons [28] (qq 144 _ _ 28 [] (fun u8 w _=>Q4.calls (decide (a1.Lo > 0)) 1 0  1 w  ht10)) <|
 .v 29 (vP 2 0) <|
 .v 30 (vP 2 2) <|
 .cons [31] (Q8 (fun u8=>.agg #[.func (.func 179) #[] #[],.func (.func 178) #[] #[]]) 31 999999 gk 2 2 2 WG (fun w h=>(QM h).tab2)) <|
 .cons [5,62] (qs (fun b=>vP b 0) (fun u8=>[.nilFunc,.nilFunc]) 226 5 62) <|
 .cons [62] (QL (u':=fun u8=>[(62,.blk ((u8 9).n 0) [.func (.func 179) #[] #[],.func (.func 178) #[] #[]] 226)]) (qW 62 0 (fun u8=>((u8 9).n 0)) (fun u8=>[.nilFunc,.nilFunc]) (fun u8=>[.func (.func 179) #[] #[],.func (.func 178) #[] #[]]) 226) (fun _=>by kernel_rfl))<|.nil) [2,3,4,5,59,60,61,62,999999] fun u8 a w' H=>?_
    replace G:=qP G; obtain ⟨t12,ht12,G⟩:=G
    replace G:=qP G; obtain ⟨t13,ht13,G⟩:=G
    refine qg qd H (.v 33 (vP ((u8 9).n 0) 0) <|
 .cons [34] (qf (.func (.func 179) #[] #[]) 34 62 0 1 ((u8 9).n 0) [.func (.func 179) #[] #[],.func (.func 178) #[] #[]] 226) <|
 .cons [35] (qf (.agg #[vI a0.Lo,vI a0.Hi]) 35 59 0 2 ((u1 0).n 0) [vI a0.Lo,vI a0.Hi] 46) <|
 .cons [36] (qf (.agg #[vI a1.Lo,vI a1.Hi]) 36 60 0 2 ((u1 1).n 0) [vI a1.Lo,vI a1.Hi] 46) <|
 .cons [37] (qq 179 _ _ 37 [] (fun u11 w _=>Xt.calls a0 a1  t12 w  ht12)) <|
 .v 38 (vI t12.1) <|
 .v 39 (vI t12.2) <|
 .cons [40] (qq 145 _ _ 40 [] (fun u11 w _=>Q5.calls t12.1 t12.2  t13 w  ht13)) <|
 .v 32 (.tuple #[vI t13.1,vI t13.2.1,vI t13.2.2]) <|
 .v 41 (vI t13.1) <|
 .v 42 (vI t13.2.1) <|
 .v 43 (vI t13.2.2) <|
 .v 6 (vI t13.1) <|
 .v 7 (vI t13.2.1) <|
 .v 8 (vI t13.2.2)<|.nil) [2,3,4,5,6,59,60,61,62,999999] fun u11 a w' H=>?_
    replace G:=qP G; obtain ⟨t15,ht15,G⟩:=G
    replace G:=qP G; obtain ⟨t16,ht16,G⟩:=G
    refine qg qd H (.v 45 (vP ((u8 9).n 0) 1) <|
 .cons [46] (qf (.func (.func 178) #[] #[]) 46 62 1 1 ((u8 9).n 0) [.func (.func 179) #[] #[],.func (.func 178) #[] #[]] 226) <|
 .cons [47] (qf (.agg #[vI a0.Lo,vI a0.Hi]) 47 59 0 2 ((u1 0).n 0) [vI a0.Lo,vI a0.Hi] 46) <|
 .cons [48] (qf (.agg #[vI a1.Lo,vI a1.Hi]) 48 60 0 2 ((u1 1).n 0) [vI a1.Lo,vI a1.Hi] 46) <|
 .cons [49] (qq 178 _ _ 49 [] (fun u14 w _=>Xr.calls a0 a1  t15 w  ht15)) <|
 .v 50 (vI t15.1) <|
 .v 51 (vI t15.2) <|
 .cons [52] (qq 145 _ _ 52 [] (fun u14 w _=>Q5.calls t15.1 t15.2  t16 w  ht16)) <|
 .v 44 (.tuple #[vI t16.1,vI t16.2.1,vI t16.2.2]) <|
 .v 53 (vI t16.1) <|
 .v 54 (vI t16.2.1) <|
 .v 55 (vI t16.2.2) <|
 .v 9 (vI t16.1) <|
 .v 10 (vI t16.2.1) <|
 .v 11 (vI t16.2.2)<|.nil) [4,6,10,61,999999] fun u14 a w' H=>?_
    replace G:=qP G; obtain ⟨t18,ht18,G⟩:=G
    refine qg qd H (.v 56 (vI t13.1) <|
 .v 57 (vI t16.2.1) <|
 .cons [58] (qq 68 _ _ 58 [] (fun u17 w _=>qI.calls t13.1 t16.2.1  t18 w  ht18)) <|
 .cons [61] (Qa 61 0 ((u1 2).n 0) [vI 0,vI 0] [vI t18.Lo,vI t18.Hi] 46 [vI t18.Lo,vI t18.Hi])<|.nil) [4,61,999999] fun u17 a w' H=>?_
    refine qF ?_
    obtain rfl:=sj G
    exact Qj H _ 61 ((u1 2).n 0) [vI t18.Lo,vI t18.Hi] 46 0 2 (by kernel_rfl) (by kernel_rfl) (by kernel_rfl) (by kernel_rfl)
   rw [if_neg c20] at G
   cases G
  rw [if_neg c21] at G
  by_cases c22:t9=1
  ·rw [if_pos c22] at G; subst c22
   replace G:=qP G; obtain ⟨t10,ht10,G⟩:=G
   by_cases c19:t10=0
   ·rw [if_pos c19] at G; subst c19
    refine Qt qd H (.cons [23] (qf (.agg #[vI a0.Lo,vI a0.Hi]) 23 59 0 2 ((u1 0).n 0) [vI a0.Lo,vI a0.Hi] 46) <|
 .cons [24] (qq 136 _ _ 24 [] (fun u8 w _=>Xw.calls a0  1 w  ht9)) <|
 .v 25 (vP ((u1 1).n 0) 0) <|
 .cons [26] (qf (vI a1.Lo) 26 60 0 1 ((u1 1).n 0) [vI a1.Lo,vI a1.Hi] 46) <|
 .v 27 (.bool (decide (a1.Lo > 0))) <|
 .cons [28] (qq 144 _ _ 28 [] (fun u8 w _=>Q4.calls (decide (a1.Lo > 0)) 1 0  0 w  ht10)) <|
 .v 29 (vP 2 4) <|
 .v 30 (vP 2 4) <|
 .cons [31] (Q8 (fun u8=>.agg #[.func (.func 178) #[] #[],.func (.func 180) #[] #[]]) 31 999999 gk 2 4 2 WG (fun w h=>(QM h).tab2)) <|
 .cons [5,62] (qs (fun b=>vP b 0) (fun u8=>[.nilFunc,.nilFunc]) 226 5 62) <|
 .cons [62] (QL (u':=fun u8=>[(62,.blk ((u8 9).n 0) [.func (.func 178) #[] #[],.func (.func 180) #[] #[]] 226)]) (qW 62 0 (fun u8=>((u8 9).n 0)) (fun u8=>[.nilFunc,.nilFunc]) (fun u8=>[.func (.func 178) #[] #[],.func (.func 180) #[] #[]]) 226) (fun _=>by kernel_rfl))<|.nil) [2,3,4,5,59,60,61,62,999999] fun u8 a w' H=>?_
    replace G:=qP G; obtain ⟨t12,ht12,G⟩:=G
    replace G:=qP G; obtain ⟨t13,ht13,G⟩:=G
    refine qg qd H (.v 33 (vP ((u8 9).n 0) 0) <|
 .cons [34] (qf (.func (.func 178) #[] #[]) 34 62 0 1 ((u8 9).n 0) [.func (.func 178) #[] #[],.func (.func 180) #[] #[]] 226) <|
 .cons [35] (qf (.agg #[vI a0.Lo,vI a0.Hi]) 35 59 0 2 ((u1 0).n 0) [vI a0.Lo,vI a0.Hi] 46) <|
 .cons [36] (qf (.agg #[vI a1.Lo,vI a1.Hi]) 36 60 0 2 ((u1 1).n 0) [vI a1.Lo,vI a1.Hi] 46) <|
 .cons [37] (qq 178 _ _ 37 [] (fun u11 w _=>Xr.calls a0 a1  t12 w  ht12)) <|
 .v 38 (vI t12.1) <|
 .v 39 (vI t12.2) <|
 .cons [40] (qq 145 _ _ 40 [] (fun u11 w _=>Q5.calls t12.1 t12.2  t13 w  ht13)) <|
 .v 32 (.tuple #[vI t13.1,vI t13.2.1,vI t13.2.2]) <|
 .v 41 (vI t13.1) <|
 .v 42 (vI t13.2.1) <|
 .v 43 (vI t13.2.2) <|
 .v 6 (vI t13.1) <|
 .v 7 (vI t13.2.1) <|
 .v 8 (vI t13.2.2)<|.nil) [2,3,4,5,6,59,60,61,62,999999] fun u11 a w' H=>?_
    replace G:=qP G; obtain ⟨t15,ht15,G⟩:=G
    replace G:=qP G; obtain ⟨t16,ht16,G⟩:=G
    refine qg qd H (.v 45 (vP ((u8 9).n 0) 1) <|
 .cons [46] (qf (.func (.func 180) #[] #[]) 46 62 1 1 ((u8 9).n 0) [.func (.func 178) #[] #[],.func (.func 180) #[] #[]] 226) <|
 .cons [47] (qf (.agg #[vI a0.Lo,vI a0.Hi]) 47 59 0 2 ((u1 0).n 0) [vI a0.Lo,vI a0.Hi] 46) <|
 .cons [48] (qf (.agg #[vI a1.Lo,vI a1.Hi]) 48 60 0 2 ((u1 1).n 0) [vI a1.Lo,vI a1.Hi] 46) <|
 .cons [49] (qq 180 _ _ 49 [] (fun u14 w _=>Xs.calls a0 a1  t15 w  ht15)) <|
 .v 50 (vI t15.1) <|
 .v 51 (vI t15.2) <|
 .cons [52] (qq 145 _ _ 52 [] (fun u14 w _=>Q5.calls t15.1 t15.2  t16 w  ht16)) <|
 .v 44 (.tuple #[vI t16.1,vI t16.2.1,vI t16.2.2]) <|
 .v 53 (vI t16.1) <|
 .v 54 (vI t16.2.1) <|
 .v 55 (vI t16.2.2) <|
 .v 9 (vI t16.1) <|
 .v 10 (vI t16.2.1) <|
 .v 11 (vI t16.2.2)<|.nil) [4,6,10,61,999999] fun u14 a w' H=>?_
    replace G:=qP G; obtain ⟨t18,ht18,G⟩:=G
    refine qg qd H (.v 56 (vI t13.1) <|
 .v 57 (vI t16.2.1) <|
 .cons [58] (qq 68 _ _ 58 [] (fun u17 w _=>qI.calls t13.1 t16.2.1  t18 w  ht18)) <|
 .cons [61] (Qa 61 0 ((u1 2).n 0) [vI 0,vI 0] [vI t18.Lo,vI t18.Hi] 46 [vI t18.Lo,vI t18.Hi])<|.nil) [4,61,999999] fun u17 a w' H=>?_
    refine qF ?_
    obtain rfl:=sj G
    exact Qj H _ 61 ((u1 2).n 0) [vI t18.Lo,vI t18.Hi] 46 0 2 (by kernel_rfl) (by kernel_rfl) (by kernel_rfl) (by kernel_rfl)
   rw [if_neg c19] at G
   by_cases c20:t10=1
   ·rw [if_pos c20] at G; subst c20
    refine Qt qd H (.cons [23] (qf (.agg #[vI a0.Lo,vI a0.Hi]) 23 59 0 2 ((u1 0).n 0) [vI a0.Lo,vI a0.Hi] 46) <|
 .cons [24] (qq 136 _ _ 24 [] (fun u8 w _=>Xw.calls a0  1 w  ht9)) <|
 .v 25 (vP ((u1 1).n 0) 0) <|
 .cons [26] (qf (vI a1.Lo) 26 60 0 1 ((u1 1).n 0) [vI a1.Lo,vI a1.Hi] 46) <|
 .v 27 (.bool (decide (a1.Lo > 0))) <|
 .cons [28] (qq 144 _ _ 28 [] (fun u8 w _=>Q4.calls (decide (a1.Lo > 0)) 1 0  1 w  ht10)) <|
 .v 29 (vP 2 4) <|
 .v 30 (vP 2 6) <|
 .cons [31] (Q8 (fun u8=>.agg #[.func (.func 179) #[] #[],.func (.func 181) #[] #[]]) 31 999999 gk 2 6 2 WG (fun w h=>(QM h).tab2)) <|
 .cons [5,62] (qs (fun b=>vP b 0) (fun u8=>[.nilFunc,.nilFunc]) 226 5 62) <|
 .cons [62] (QL (u':=fun u8=>[(62,.blk ((u8 9).n 0) [.func (.func 179) #[] #[],.func (.func 181) #[] #[]] 226)]) (qW 62 0 (fun u8=>((u8 9).n 0)) (fun u8=>[.nilFunc,.nilFunc]) (fun u8=>[.func (.func 179) #[] #[],.func (.func 181) #[] #[]]) 226) (fun _=>by kernel_rfl))<|.nil) [2,3,4,5,59,60,61,62,999999] fun u8 a w' H=>?_
    replace G:=qP G; obtain ⟨t12,ht12,G⟩:=G
    replace G:=qP G; obtain ⟨t13,ht13,G⟩:=G
    refine qg qd H (.v 33 (vP ((u8 9).n 0) 0) <|
 .cons [34] (qf (.func (.func 179) #[] #[]) 34 62 0 1 ((u8 9).n 0) [.func (.func 179) #[] #[],.func (.func 181) #[] #[]] 226) <|
 .cons [35] (qf (.agg #[vI a0.Lo,vI a0.Hi]) 35 59 0 2 ((u1 0).n 0) [vI a0.Lo,vI a0.Hi] 46) <|
 .cons [36] (qf (.agg #[vI a1.Lo,vI a1.Hi]) 36 60 0 2 ((u1 1).n 0) [vI a1.Lo,vI a1.Hi] 46) <|
 .cons [37] (qq 179 _ _ 37 [] (fun u11 w _=>Xt.calls a0 a1  t12 w  ht12)) <|
 .v 38 (vI t12.1) <|
 .v 39 (vI t12.2) <|
 .cons [40] (qq 145 _ _ 40 [] (fun u11 w _=>Q5.calls t12.1 t12.2  t13 w  ht13)) <|
 .v 32 (.tuple #[vI t13.1,vI t13.2.1,vI t13.2.2]) <|
 .v 41 (vI t13.1) <|
 .v 42 (vI t13.2.1) <|
 .v 43 (vI t13.2.2) <|
 .v 6 (vI t13.1) <|
 .v 7 (vI t13.2.1) <|
 .v 8 (vI t13.2.2)<|.nil) [2,3,4,5,6,59,60,61,62,999999] fun u11 a w' H=>?_
    replace G:=qP G; obtain ⟨t15,ht15,G⟩:=G
    replace G:=qP G; obtain ⟨t16,ht16,G⟩:=G
    refine qg qd H (.v 45 (vP ((u8 9).n 0) 1) <|
 .cons [46] (qf (.func (.func 181) #[] #[]) 46 62 1 1 ((u8 9).n 0) [.func (.func 179) #[] #[],.func (.func 181) #[] #[]] 226) <|
 .cons [47] (qf (.agg #[vI a0.Lo,vI a0.Hi]) 47 59 0 2 ((u1 0).n 0) [vI a0.Lo,vI a0.Hi] 46) <|
 .cons [48] (qf (.agg #[vI a1.Lo,vI a1.Hi]) 48 60 0 2 ((u1 1).n 0) [vI a1.Lo,vI a1.Hi] 46) <|
 .cons [49] (qq 181 _ _ 49 [] (fun u14 w _=>Xu.calls a0 a1  t15 w  ht15)) <|
 .v 50 (vI t15.1) <|
 .v 51 (vI t15.2) <|
 .cons [52] (qq 145 _ _ 52 [] (fun u14 w _=>Q5.calls t15.1 t15.2  t16 w  ht16)) <|
 .v 44 (.tuple #[vI t16.1,vI t16.2.1,vI t16.2.2]) <|
 .v 53 (vI t16.1) <|
 .v 54 (vI t16.2.1) <|
 .v 55 (vI t16.2.2) <|
 .v 9 (vI t16.1) <|
 .v 10 (vI t16.2.1) <|
 .v 11 (vI t16.2.2)<|.nil) [4,6,10,61,999999] fun u14 a w' H=>?_
    replace G:=qP G; obtain ⟨t18,ht18,G⟩:=G
    refine qg qd H (.v 56 (vI t13.1) <|
 .v 57 (vI t16.2.1) <|
 .cons [58] (qq 68 _ _ 58 [] (fun u17 w _=>qI.calls t13.1 t16.2.1  t18 w  ht18)) <|
 .cons [61] (Qa 61 0 ((u1 2).n 0) [vI 0,vI 0] [vI t18.Lo,vI t18.Hi] 46 [vI t18.Lo,vI t18.Hi])<|.nil) [4,61,999999] fun u17 a w' H=>?_
    refine qF ?_
    obtain rfl:=sj G
    exact Qj H _ 61 ((u1 2).n 0) [vI t18.Lo,vI t18.Hi] 46 0 2 (by kernel_rfl) (by kernel_rfl) (by kernel_rfl) (by kernel_rfl)
   rw [if_neg c20] at G
   cases G
  rw [if_neg c22] at G
  by_cases c23:t9=2
  ·rw [if_pos c23] at G; subst c23
   replace G:=qP G; obtain ⟨t10,ht10,G⟩:=G
   by_cases c19:t10=0
   ·rw [if_pos c19] at G; subst c19
    refine Qt qd H (.cons [23] (qf (.agg #[vI a0.Lo,vI a0.Hi]) 23 59 0 2 ((u1 0).n 0) [vI a0.Lo,vI a0.Hi] 46) <|
 .cons [24] (qq 136 _ _ 24 [] (fun u8 w _=>Xw.calls a0  2 w  ht9)) <|
 .v 25 (vP ((u1 1).n 0) 0) <|
 .cons [26] (qf (vI a1.Lo) 26 60 0 1 ((u1 1).n 0) [vI a1.Lo,vI a1.Hi] 46) <|
 .v 27 (.bool (decide (a1.Lo > 0))) <|
 .cons [28] (qq 144 _ _ 28 [] (fun u8 w _=>Q4.calls (decide (a1.Lo > 0)) 1 0  0 w  ht10)) <|
 .v 29 (vP 2 8) <|
 .v 30 (vP 2 8) <|
 .cons [31] (Q8 (fun u8=>.agg #[.func (.func 178) #[] #[],.func (.func 179) #[] #[]]) 31 999999 gk 2 8 2 WG (fun w h=>(QM h).tab2)) <|
 .cons [5,62] (qs (fun b=>vP b 0) (fun u8=>[.nilFunc,.nilFunc]) 226 5 62) <|
 .cons [62] (QL (u':=fun u8=>[(62,.blk ((u8 9).n 0) [.func (.func 178) #[] #[],.func (.func 179) #[] #[]] 226)]) (qW 62 0 (fun u8=>((u8 9).n 0)) (fun u8=>[.nilFunc,.nilFunc]) (fun u8=>[.func (.func 178) #[] #[],.func (.func 179) #[] #[]]) 226) (fun _=>by kernel_rfl))<|.nil) [2,3,4,5,59,60,61,62,999999] fun u8 a w' H=>?_
    replace G:=qP G; obtain ⟨t12,ht12,G⟩:=G
    replace G:=qP G; obtain ⟨t13,ht13,G⟩:=G
    refine qg qd H (.v 33 (vP ((u8 9).n 0) 0) <|
 .cons [34] (qf (.func (.func 178) #[] #[]) 34 62 0 1 ((u8 9).n 0) [.func (.func 178) #[] #[],.func (.func 179) #[] #[]] 226) <|
 .cons [35] (qf (.agg #[vI a0.Lo,vI a0.Hi]) 35 59 0 2 ((u1 0).n 0) [vI a0.Lo,vI a0.Hi] 46) <|
 .cons [36] (qf (.agg #[vI a1.Lo,vI a1.Hi]) 36 60 0 2 ((u1 1).n 0) [vI a1.Lo,vI a1.Hi] 46) <|
 .cons [37] (qq 178 _ _ 37 [] (fun u11 w _=>Xr.calls a0 a1  t12 w  ht12)) <|
 .v 38 (vI t12.1) <|
 .v 39 (vI t12.2) <|
 .cons [40] (qq 145 _ _ 40 [] (fun u11 w _=>Q5.calls t12.1 t12.2  t13 w  ht13)) <|
 .v 32 (.tuple #[vI t13.1,vI t13.2.1,vI t13.2.2]) <|
 .v 41 (vI t13.1) <|
 .v 42 (vI t13.2.1) <|
 .v 43 (vI t13.2.2) <|
 .v 6 (vI t13.1) <|
 .v 7 (vI t13.2.1) <|
 .v 8 (vI t13.2.2)<|.nil) [2,3,4,5,6,59,60,61,62,999999] fun u11 a w' H=>?_
    replace G:=qP G; obtain ⟨t15,ht15,G⟩:=G
    replace G:=qP G; obtain ⟨t16,ht16,G⟩:=G
    refine qg qd H (.v 45 (vP ((u8 9).n 0) 1) <|
 .cons [46] (qf (.func (.func 179) #[] #[]) 46 62 1 1 ((u8 9).n 0) [.func (.func 178) #[] #[],.func (.func 179) #[] #[]] 226) <|
 .cons [47] (qf (.agg #[vI a0.Lo,vI a0.Hi]) 47 59 0 2 ((u1 0).n 0) [vI a0.Lo,vI a0.Hi] 46) <|
 .cons [48] (qf (.agg #[vI a1.Lo,vI a1.Hi]) 48 60 0 2 ((u1 1).n 0) [vI a1.Lo,vI a1.Hi] 46) <|
 .cons [49] (qq 179 _ _ 49 [] (fun u14 w _=>Xt.calls a0 a1  t15 w  ht15)) <|
 .v 50 (vI t15.1) <|
 .v 51 (vI t15.2) <|
 .cons [52] (qq 145 _ _ 52 [] (fun u14 w _=>Q5.calls t15.1 t15.2  t16 w  ht16)) <|
 .v 44 (.tuple #[vI t16.1,vI t16.2.1,vI t16.2.2]) <|
 .v 53 (vI t16.1) <|
 .v 54 (vI t16.2.1) <|
 .v 55 (vI t16.2.2) <|
 .v 9 (vI t16.1) <|
 .v 10 (vI t16.2.1) <|
 .v 11 (vI t16.2.2)<|.nil) [4,6,10,61,999999] fun u14 a w' H=>?_
    replace G:=qP G; obtain ⟨t18,ht18,G⟩:=G
    refine qg qd H (.v 56 (vI t13.1) <|
 .v 57 (vI t16.2.1) <|
 .cons [58] (qq 68 _ _ 58 [] (fun u17 w _=>qI.calls t13.1 t16.2.1  t18 w  ht18)) <|
 .cons [61] (Qa 61 0 ((u1 2).n 0) [vI 0,vI 0] [vI t18.Lo,vI t18.Hi] 46 [vI t18.Lo,vI t18.Hi])<|.nil) [4,61,999999] fun u17 a w' H=>?_
    refine qF ?_
    obtain rfl:=sj G
    exact Qj H _ 61 ((u1 2).n 0) [vI t18.Lo,vI t18.Hi] 46 0 2 (by kernel_rfl) (by kernel_rfl) (by kernel_rfl) (by kernel_rfl)
   rw [if_neg c19] at G
   by_cases c20:t10=1
   ·rw [if_pos c20] at G; subst c20
    refine Qt qd H (.cons [23] (qf (.agg #[vI a0.Lo,vI a0.Hi]) 23 59 0 2 ((u1 0).n 0) [vI a0.Lo,vI a0.Hi] 46) <|
 .cons [24] (qq 136 _ _ 24 [] (fun u8 w _=>Xw.calls a0  2 w  ht9)) <|
 .v 25 (vP ((u1 1).n 0) 0) <|
 .cons [26] (qf (vI a1.Lo) 26 60 0 1 ((u1 1).n 0) [vI a1.Lo,vI a1.Hi] 46) <|
 .v 27 (.bool (decide (a1.Lo > 0))) <|
 .cons [28] (qq 144 _ _ 28 [] (fun u8 w _=>Q4.calls (decide (a1.Lo > 0)) 1 0  1 w  ht10)) <|
 .v 29 (vP 2 8) <|
 .v 30 (vP 2 10) <|
 .cons [31] (Q8 (fun u8=>.agg #[.func (.func 180) #[] #[],.func (.func 181) #[] #[]]) 31 999999 gk 2 10 2 WG (fun w h=>(QM h).tab2)) <|
 .cons [5,62] (qs (fun b=>vP b 0) (fun u8=>[.nilFunc,.nilFunc]) 226 5 62) <|
 .cons [62] (QL (u':=fun u8=>[(62,.blk ((u8 9).n 0) [.func (.func 180) #[] #[],.func (.func 181) #[] #[]] 226)]) (qW 62 0 (fun u8=>((u8 9).n 0)) (fun u8=>[.nilFunc,.nilFunc]) (fun u8=>[.func (.func 180) #[] #[],.func (.func 181) #[] #[]]) 226) (fun _=>by kernel_rfl))<|.nil) [2,3,4,5,59,60,61,62,999999] fun u8 a w' H=>?_
    replace G:=qP G; obtain ⟨t12,ht12,G⟩:=G
    replace G:=qP G; obtain ⟨t13,ht13,G⟩:=G
    refine qg qd H (.v 33 (vP ((u8 9).n 0) 0) <|
 .cons [34] (qf (.func (.func 180) #[] #[]) 34 62 0 1 ((u8 9).n 0) [.func (.func 180) #[] #[],.func (.func 181) #[] #[]] 226) <|
 .cons [35] (qf (.agg #[vI a0.Lo,vI a0.Hi]) 35 59 0 2 ((u1 0).n 0) [vI a0.Lo,vI a0.Hi] 46) <|
 .cons [36] (qf (.agg #[vI a1.Lo,vI a1.Hi]) 36 60 0 2 ((u1 1).n 0) [vI a1.Lo,vI a1.Hi] 46) <|
 .cons [37] (qq 180 _ _ 37 [] (fun u11 w _=>Xs.calls a0 a1  t12 w  ht12)) <|
 .v 38 (vI t12.1) <|
 .v 39 (vI t12.2) <|
 .cons [40] (qq 145 _ _ 40 [] (fun u11 w _=>Q5.calls t12.1 t12.2  t13 w  ht13)) <|
 .v 32 (.tuple #[vI t13.1,vI t13.2.1,vI t13.2.2]) <|
 .v 41 (vI t13.1) <|
 .v 42 (vI t13.2.1) <|
 .v 43 (vI t13.2.2) <|
 .v 6 (vI t13.1) <|
 .v 7 (vI t13.2.1) <|
 .v 8 (vI t13.2.2)<|.nil) [2,3,4,5,6,59,60,61,62,999999] fun u11 a w' H=>?_
    replace G:=qP G; obtain ⟨t15,ht15,G⟩:=G
    replace G:=qP G; obtain ⟨t16,ht16,G⟩:=G
    refine qg qd H (.v 45 (vP ((u8 9).n 0) 1) <|
 .cons [46] (qf (.func (.func 181) #[] #[]) 46 62 1 1 ((u8 9).n 0) [.func (.func 180) #[] #[],.func (.func 181) #[] #[]] 226) <|
 .cons [47] (qf (.agg #[vI a0.Lo,vI a0.Hi]) 47 59 0 2 ((u1 0).n 0) [vI a0.Lo,vI a0.Hi] 46) <|
 .cons [48] (qf (.agg #[vI a1.Lo,vI a1.Hi]) 48 60 0 2 ((u1 1).n 0) [vI a1.Lo,vI a1.Hi] 46) <|
 .cons [49] (qq 181 _ _ 49 [] (fun u14 w _=>Xu.calls a0 a1  t15 w  ht15)) <|
 .v 50 (vI t15.1) <|
 .v 51 (vI t15.2) <|
 .cons [52] (qq 145 _ _ 52 [] (fun u14 w _=>Q5.calls t15.1 t15.2  t16 w  ht16)) <|
 .v 44 (.tuple #[vI t16.1,vI t16.2.1,vI t16.2.2]) <|
 .v 53 (vI t16.1) <|
 .v 54 (vI t16.2.1) <|
 .v 55 (vI t16.2.2) <|
 .v 9 (vI t16.1) <|
 .v 10 (vI t16.2.1) <|
 .v 11 (vI t16.2.2)<|.nil) [4,6,10,61,999999] fun u14 a w' H=>?_
    replace G:=qP G; obtain ⟨t18,ht18,G⟩:=G
    refine qg qd H (.v 56 (vI t13.1) <|
 .v 57 (vI t16.2.1) <|
 .cons [58] (qq 68 _ _ 58 [] (fun u17 w _=>qI.calls t13.1 t16.2.1  t18 w  ht18)) <|
 .cons [61] (Qa 61 0 ((u1 2).n 0) [vI 0,vI 0] [vI t18.Lo,vI t18.Hi] 46 [vI t18.Lo,vI t18.Hi])<|.nil) [4,61,999999] fun u17 a w' H=>?_
    refine qF ?_
    obtain rfl:=sj G
    exact Qj H _ 61 ((u1 2).n 0) [vI t18.Lo,vI t18.Hi] 46 0 2 (by kernel_rfl) (by kernel_rfl) (by kernel_rfl) (by kernel_rfl)
   rw [if_neg c20] at G
   cases G
  rw [if_neg c23] at G
  cases G
theorem ZU.calls (a0:Int) (r:Int) (w:World) (G:ZU a0=some r) :
  Calls Tryz.prog 147 #[.int .u64 a0] w fun e w'=>e = .returned (vI r)∧Below w.heap.size w w':=by
 refine QD (args:=[.int .u64 a0]) 25 Tryz.func147 rfl (by kernel_rfl) (by kernel_rfl) fun a H=>?_
 unfold ZU at G
 refine qg qd H (.v 2 (vI 0)<|.nil) [0,2] fun u1 a w' H=>?_
 refine qv ?_
 obtain ⟨j4,hj4,G⟩:=qP G
 refine Xq (fun a w'=>RL w 25 [(0,.slot true (.int .u64 j4.1)),(2,sI j4.2)] a w') ?_ ?_
 ·clear H; intro a w' H
  refine qv ?_
  obtain ⟨j7,hj7,G⟩:=qP G
  refine Xq (fun a w'=>RL w 25 [(0,.slot true (.int .u64 j7.1)),(2,sI j7.2)] a w') ?_ ?_
  ·clear H; intro a w' H
   refine qv ?_
   obtain ⟨j10,hj10,G⟩:=qP G
   refine Xq (fun a w'=>RL w 25 [(0,.slot true (.int .u64 j10.1)),(2,sI j10.2)] a w') ?_ ?_
   ·clear H; intro a w' H
    obtain ⟨t12,ht12,G⟩:=qP G
    refine qg qd H (.v 19 (vI j10.2) <|
 .v 20 (.int .u64 j10.1) <|
 .v 21 (.int .u8 (Wq j10.1)) <|
 .cons [22] (qn (fun u11=>.int .u8 t12) 22 (hv:=fun _ _=>Zz (by kernel_rfl) (qaC (t:=9) (s:=(⟨#[0,1,2,2,3,3,3,3,4,4,4,4,4,4,4,4,5,5,5,5,5,5,5,5,5,5,5,5,5,5,5,5,6,6,6,6,6,6,6,6,6,6,6,6,6,6,6,6,6,6,6,6,6,6,6,6,6,6,6,6,6,6,6,6,7,7,7,7,7,7,7,7,7,7,7,7,7,7,7,7,7,7,7,7,7,7,7,7,7,7,7,7,7,7,7,7,7,7,7,7,7,7,7,7,7,7,7,7,7,7,7,7,7,7,7,7,7,7,7,7,7,7,7,7,7,7,7,7,8,8,8,8,8,8,8,8,8,8,8,8,8,8,8,8,8,8,8,8,8,8,8,8,8,8,8,8,8,8,8,8,8,8,8,8,8,8,8,8,8,8,8,8,8,8,8,8,8,8,8,8,8,8,8,8,8,8,8,8,8,8,8,8,8,8,8,8,8,8,8,8,8,8,8,8,8,8,8,8,8,8,8,8,8,8,8,8,8,8,8,8,8,8,8,8,8,8,8,8,8,8,8,8,8,8,8,8,8,8,8,8,8,8,8,8,8,8,8,8,8,8,8,8,8,8,8,8]⟩:ByteArray)) (k:=.u8) (i:=Wq j10.1) (by kernel_rfl) ht12))) <|
 .v 23 (vI (qc t12)) <|
 .v 24 (vI (qc (j10.2+(qc t12)))) <|
 .v 2 (vI (qc (j10.2+(qc t12))))<|.nil) [2] fun u11 a w' H=>?_
    refine qF ?_
    obtain rfl:=sj G
    exact Qr H _ (by kernel_rfl) (by kernel_rfl)
   ·clear G; replace G:=hj10; clear hj10
    refine qg qd H (.v 13 (.int .u64 j7.1) <|
 .v 14 (.bool (decide (j7.1 ≥ 256)))<|.nil) [0,2,14] fun u13 a w' H=>?_
    refine Qx H (decide (j7.1 ≥ 256)) (fun c16=>?_) fun c16=>?_
    ·rw [if_pos c16] at G
     refine qg qd H (.v 15 (.int .u64 j7.1) <|
 .v 16 (.int .u64 (Int.fdiv j7.1 256)) <|
 .v 0 (.int .u64 (Int.fdiv j7.1 256))<|.nil) [0,2] fun u14 a w' H=>?_
     refine Qt qd H (.v 17 (vI j7.2) <|
 .v 18 (vI (qc (j7.2+8))) <|
 .v 2 (vI (qc (j7.2+8)))<|.nil) [0,2] fun u15 a w' H=>?_
     obtain rfl:=sj G
     exact H.toM _
    ·rw [if_neg (nt c16)] at G
     refine Qf ?_
     obtain rfl:=sj G
     exact H.toM _
  ·clear G; replace G:=hj7; clear hj7
   refine qg qd H (.v 7 (.int .u64 j4.1) <|
 .v 8 (.bool (decide (j4.1 ≥ 65536)))<|.nil) [0,2,8] fun u17 a w' H=>?_
   refine Qx H (decide (j4.1 ≥ 65536)) (fun c20=>?_) fun c20=>?_
   ·rw [if_pos c20] at G
    refine qg qd H (.v 9 (.int .u64 j4.1) <|
 .v 10 (.int .u64 (Int.fdiv j4.1 65536)) <|
 .v 0 (.int .u64 (Int.fdiv j4.1 65536))<|.nil) [0,2] fun u18 a w' H=>?_
    refine Qt qd H (.v 11 (vI j4.2) <|
 .v 12 (vI (qc (j4.2+16))) <|
 .v 2 (vI (qc (j4.2+16)))<|.nil) [0,2] fun u19 a w' H=>?_
    obtain rfl:=sj G
    exact H.toM _
   ·rw [if_neg (nt c20)] at G
    refine Qf ?_
    obtain rfl:=sj G
    exact H.toM _
 ·clear G; replace G:=hj4; clear hj4
  refine qg qd H (.v 3 (.int .u64 a0) <|
 .v 4 (.bool (decide (a0 ≥ 4294967296)))<|.nil) [0,2,4] fun u21 a w' H=>?_
  refine Qx H (decide (a0 ≥ 4294967296)) (fun c24=>?_) fun c24=>?_
  ·rw [if_pos c24] at G
   refine qg qd H (.v 5 (.int .u64 a0) <|
 .v 6 (.int .u64 (Int.fdiv a0 4294967296)) <|
 .v 0 (.int .u64 (Int.fdiv a0 4294967296))<|.nil) [0] fun u22 a w' H=>?_
   refine Qt qd H (.v 2 (vI 32)<|.nil) [0,2] fun u23 a w' H=>?_
   obtain rfl:=sj G
   exact H.toM _
  ·rw [if_neg (nt c24)] at G
   refine Qf ?_
   obtain rfl:=sj G
   exact H.toM _
theorem X3.calls (k0:Nat) (a0:Int) (r:Int × Int × Int) (w:World) (G:X3 k0 a0=some r) :
  Calls Tryz.prog 146 #[vI a0] w fun e w'=>e = .returned (.tuple #[vI r.1,vI r.2.1,vI r.2.2])∧Below w.heap.size w w':=by
 refine QD (args:=[vI a0]) 40 Tryz.func146 rfl (by kernel_rfl) (by kernel_rfl) fun a H=>?_
 unfold X3 at G
 refine qg qd H (.v 2 (vI 0) <|
 .v 3 (vI 0) <|
 .v 4 (vI 0)<|.nil) [0] fun u1 a w' H=>?_
 refine qcK ?_
 refine qv ?_
 refine qg qd H (.v 8 (vI a0) <|
 .v 9 (.bool (decide (a0<0)))<|.nil) [0,9] fun u2 a w' H=>?_
 refine Qx H (decide (a0<0)) (fun c25=>?_) fun c25=>?_
 ·rw [if_pos c25] at G
  refine qg qd H (.v 2 (vI 0) <|
 .v 3 (vI 0) <|
 .v 4 (vI 4)<|.nil) [2,3,4] fun u3 a w' H=>?_
  refine qF ?_
  obtain rfl:=sj G
  exact Qr H _ (by kernel_rfl) (by kernel_rfl)
 ·rw [if_neg (nt c25)] at G
  refine Qf ?_
  refine qg qd H (.v 10 (vI a0) <|
 .v 11 (vI (qc (a0 * 65536))) <|
 .v 5 (vI (qc (a0 * 65536)))<|.nil) [5] fun u4 a w' H=>?_
  refine qv ?_
  refine qg qd H (.v 12 (vI (qc (a0 * 65536))) <|
 .v 13 (.bool ((qc (a0 * 65536)) == 0))<|.nil) [5,13] fun u5 a w' H=>?_
  refine Qx H ((qc (a0 * 65536)) == 0) (fun c24=>?_) fun c24=>?_
  ·rw [if_pos c24] at G
   refine qg qd H (.v 2 (vI 0) <|
 .v 3 (vI 0) <|
 .v 4 (vI 0)<|.nil) [2,3,4] fun u6 a w' H=>?_
   refine qF ?_
   obtain rfl:=sj G
   exact Qr H _ (by kernel_rfl) (by kernel_rfl)
  ·rw [if_neg (nt c24)] at G
   refine Qf ?_
   refine qv ?_
   obtain ⟨t8,ht8,G⟩:=qP G
   replace G:=gd G; obtain ⟨n9,G⟩:=G
   refine Qt qd H (.v 14 (vI (qc (a0 * 65536))) <|
 .v 15 (.int .u64 (Ja (qc (a0 * 65536)))) <|
 .cons [16] (qq 147 _ _ 16 [] (fun u7 w _=>ZU.calls (Ja (qc (a0 * 65536)))  t8 w  ht8)) <|
 .v 17 (vI (qc (t8+1))) <|
 .v 18 (vI (qc (Int.tdiv (qc (t8+1)) 2))) <|
 .cons [19] (qn (fun u7=>vI (qc (1 * 2 ^ (min (qc (Int.tdiv (qc (t8+1)) 2)).toNat 64)))) 19 (hv:=fun _ _=>Zz (by kernel_rfl) (qfn (k:=.i64) (yk:=.i64) (x:=1) (y:=qc (Int.tdiv (qc (t8+1)) 2)) n9))) <|
 .v 6 (vI (qc (1 * 2 ^ (min (qc (Int.tdiv (qc (t8+1)) 2)).toNat 64))))<|.nil) [5,6] fun u7 a w' H=>?_
   refine qv ?_
   refine qc1 ?_
   refine qv ?_
   obtain ⟨j11,hj11,G⟩:=qP G
   refine Xq (fun a w'=>RL w 40 [(5,(sI (qc (a0 * 65536)))),(6,sI j11)] a w') ?_ ?_
   ·clear H; intro a w' H
    refine qv ?_
    refine qg qd H (.v 30 (vI j11) <|
 .v 31 (vI j11) <|
 .v 32 (vI (qc (j11 * j11))) <|
 .v 33 (vI (qc (a0 * 65536))) <|
 .v 34 (.bool (decide ((qc (j11 * j11))<(qc (a0 * 65536)))))<|.nil) [6,34] fun u12 a w' H=>?_
    refine Qx H (decide ((qc (j11 * j11))<(qc (a0 * 65536)))) (fun c15=>?_) fun c15=>?_
    ·rw [if_pos c15] at G
     refine qg qd H (.v 35 (vI j11) <|
 .v 36 (vI j11) <|
 .v 37 (vI (qc (j11+1))) <|
 .v 2 (vI j11) <|
 .v 3 (vI (qc (j11+1))) <|
 .v 4 (vI 0)<|.nil) [2,3,4] fun u13 a w' H=>?_
     refine qF ?_
     obtain rfl:=sj G
     exact Qr H _ (by kernel_rfl) (by kernel_rfl)
    ·rw [if_neg (nt c15)] at G
     refine Qf ?_
     refine qg qd H (.v 38 (vI j11) <|
 .v 39 (vI j11) <|
 .v 2 (vI j11) <|
 .v 3 (vI j11) <|
 .v 4 (vI 0)<|.nil) [2,3,4] fun u14 a w' H=>?_
     refine qF ?_
     obtain rfl:=sj G
     exact Qr H _ (by kernel_rfl) (by kernel_rfl)
   ·clear G; replace G:=hj11; clear hj11
    refine q6 ?_
    refine XP (fun m a w'=>∃ x16:Int,X3.l17 k0 a0 t8 m x16=some j11∧RL w 40 [(5,(sI (qc (a0 * 65536)))),(6,sI x16)] a w') k0 ⟨_,G,H.toM _⟩ ?_
    clear G H
    rintro (_ | k) a w' ⟨x16,G,H⟩
    ·exact absurd G (by unfold X3.l17; exact fun h=>by cases h)
    ·unfold X3.l17 at G
     refine q6 ?_
     refine qv ?_
     replace G:=gd G; obtain ⟨n19,G⟩:=G
     refine Qt qd H (.v 20 (vI x16) <|
 .v 21 (vI (qc (a0 * 65536))) <|
 .v 22 (vI x16) <|
 .cons [23] (qn (fun u18=>vI (qc (Int.tdiv (qc (a0 * 65536)) x16))) 23 (hv:=fun _ _=>Zz (by kernel_rfl) (qcJ (k:=.i64) (x:=qc (a0 * 65536)) (y:=x16) n19))) <|
 .v 24 (vI (qc (x16+(qc (Int.tdiv (qc (a0 * 65536)) x16))))) <|
 .v 25 (vI (qc (Int.tdiv (qc (x16+(qc (Int.tdiv (qc (a0 * 65536)) x16)))) 2))) <|
 .v 7 (vI (qc (Int.tdiv (qc (x16+(qc (Int.tdiv (qc (a0 * 65536)) x16)))) 2)))<|.nil) [5,6,7] fun u18 a w' H=>?_
     refine qv ?_
     obtain ⟨z21,hz21,G⟩:=qP G
     replace hz21:=Option.some.inj hz21
     refine qg qd H (.v 26 (vI (qc (Int.tdiv (qc (x16+(qc (Int.tdiv (qc (a0 * 65536)) x16)))) 2))) <|
 .v 27 (vI x16) <|
 .cons [28] (QL (u':=fun u20=>[(28,sB z21)]) (qn (fun u20=>.bool (decide ((qc (Int.tdiv (qc (x16+(qc (Int.tdiv (qc (a0 * 65536)) x16)))) 2)) ≥ x16))) 28) (fun _=>by rw [← hz21]))<|.nil) [5,6,7,28] fun u20 a w' H=>?_
     refine Qx H z21 (fun c23=>?_) fun c23=>?_
     ·rw [if_pos c23] at G
      refine Yk rfl ?_
      obtain rfl:=sj G
      exact H.toM _
     ·rw [if_neg (nt c23)] at G
      refine Qf ?_
      refine Qt qd H (.v 29 (vI (qc (Int.tdiv (qc (x16+(qc (Int.tdiv (qc (a0 * 65536)) x16)))) 2))) <|
 .v 6 (vI (qc (Int.tdiv (qc (x16+(qc (Int.tdiv (qc (a0 * 65536)) x16)))) 2)))<|.nil) [5,6] fun u22 a w' H=>?_
      exact ⟨k,Nat.lt_succ_self k,_,G,H.toM _⟩
theorem Xe.calls (k0:Nat) (a0:qb) (r:qb × Bool) (w:World) (G:Xe k0 a0=some r) :
  Calls Tryz.prog 138 #[.agg #[vI a0.Lo,vI a0.Hi]] w fun e w'=>e = .returned (.tuple #[.agg #[vI r.1.Lo,vI r.1.Hi],.bool r.2])∧Below w.heap.size w w':=by
 refine QD (args:=[.agg #[vI a0.Lo,vI a0.Hi]]) 37 Tryz.func138 rfl (by kernel_rfl) (by kernel_rfl) fun a H=>?_
 unfold Xe at G
 refine qg qd H (.cons [1,37] (qs (fun b=>vP b 0) (fun u1=>[vI a0.Lo,vI a0.Hi]) 46 1 37) <|
 .cons [2,38] (qs (fun b=>vP b 0) (fun u1=>[vI 0,vI 0]) 46 2 38) <|
 .v 3 (.bool false)<|.nil) [1,2,37,38] fun u1 a w' H=>?_
 refine qv ?_
 refine q6 ?_
 obtain ⟨t3,ht3,G⟩:=qP G
 refine qg qd H (.cons [11] (qf (.agg #[vI a0.Lo,vI a0.Hi]) 11 37 0 2 ((u1 0).n 0) [vI a0.Lo,vI a0.Hi] 46) <|
 .cons [12] (qq 21 _ _ 12 [] (fun u2 w _=>qV.calls a0  t3 w  ht3)) <|
 .v 10 (.bool t3)<|.nil) [1,2,10,37,38] fun u2 a w' H=>?_
 refine Qx H t3 (fun c14=>?_) fun c14=>?_
 ·rw [if_pos c14] at G
  refine qg qd H (.cons [13] (qf (.agg #[vI a0.Lo,vI a0.Hi]) 13 37 0 2 ((u1 0).n 0) [vI a0.Lo,vI a0.Hi] 46) <|
 .cons [38] (Qa 38 0 ((u1 1).n 0) [vI 0,vI 0] [vI a0.Lo,vI a0.Hi] 46 [vI a0.Lo,vI a0.Hi]) <|
 .v 3 (.bool true)<|.nil) [2,3,38] fun u4 a w' H=>?_
  refine qF ?_
  obtain rfl:=sj G
  exact Qj H _ 38 ((u1 1).n 0) [vI a0.Lo,vI a0.Hi] 46 0 2 (by kernel_rfl) (by kernel_rfl) (by kernel_rfl) (by kernel_rfl)
 ·rw [if_neg (nt c14)] at G
  refine qg qd H (.v 15 (vP ((u1 0).n 0) 1) <|
 .cons [16] (qf (vI a0.Hi) 16 37 1 1 ((u1 0).n 0) [vI a0.Lo,vI a0.Hi] 46) <|
 .v 17 (.bool (decide (a0.Hi<0))) <|
 .v 14 (.bool (decide (a0.Hi<0)))<|.nil) [1,2,14,37,38] fun u5 a w' H=>?_
  refine Qx H (decide (a0.Hi<0)) (fun c13=>?_) fun c13=>?_
  ·rw [if_pos c13] at G
   refine qg qd H (.v 18 (.agg #[vI 0,vI 0]) <|
 .cons [38] (Qa 38 0 ((u1 1).n 0) [vI 0,vI 0] [vI 0,vI 0] 46 [vI 0,vI 0]) <|
 .v 3 (.bool false)<|.nil) [2,3,38] fun u6 a w' H=>?_
   refine qF ?_
   obtain rfl:=sj G
   exact Qj H _ 38 ((u1 1).n 0) [vI 0,vI 0] 46 0 2 (by kernel_rfl) (by kernel_rfl) (by kernel_rfl) (by kernel_rfl)
  ·rw [if_neg (nt c13)] at G
   refine Qf ?_
   obtain ⟨t8,ht8,G⟩:=qP G
   refine qg qd H (.v 20 (vP ((u1 0).n 0) 0) <|
 .cons [21] (qf (vI a0.Lo) 21 37 0 1 ((u1 0).n 0) [vI a0.Lo,vI a0.Hi] 46) <|
 .v 22 (vI (mx a0.Lo 0)) <|
 .cons [23] (qq 146 _ _ 23 [] (fun u7 w _=>X3.calls k0 (mx a0.Lo 0)  t8 w  ht8)) <|
 .v 19 (.tuple #[vI t8.1,vI t8.2.1,vI t8.2.2]) <|
 .v 24 (vI t8.1) <|
 .v 25 (vI t8.2.1) <|
 .v 26 (vI t8.2.2) <|
 .v 4 (vI t8.1) <|
 .v 5 (vI t8.2.1) <|
 .v 6 (vI t8.2.2)<|.nil) [1,2,4,37,38] fun u7 a w' H=>?_
   obtain ⟨t10,ht10,G⟩:=qP G
   refine qg qd H (.v 28 (vP ((u1 0).n 0) 1) <|
 .cons [29] (qf (vI a0.Hi) 29 37 1 1 ((u1 0).n 0) [vI a0.Lo,vI a0.Hi] 46) <|
 .cons [30] (qq 146 _ _ 30 [] (fun u9 w _=>X3.calls k0 a0.Hi  t10 w  ht10)) <|
 .v 27 (.tuple #[vI t10.1,vI t10.2.1,vI t10.2.2]) <|
 .v 31 (vI t10.1) <|
 .v 32 (vI t10.2.1) <|
 .v 33 (vI t10.2.2) <|
 .v 7 (vI t10.1) <|
 .v 8 (vI t10.2.1) <|
 .v 9 (vI t10.2.2)<|.nil) [2,4,8,38] fun u9 a w' H=>?_
   obtain ⟨t12,ht12,G⟩:=qP G
   refine qg qd H (.v 34 (vI t8.1) <|
 .v 35 (vI t10.2.1) <|
 .cons [36] (qq 68 _ _ 36 [] (fun u11 w _=>qI.calls t8.1 t10.2.1  t12 w  ht12)) <|
 .cons [38] (Qa 38 0 ((u1 1).n 0) [vI 0,vI 0] [vI t12.Lo,vI t12.Hi] 46 [vI t12.Lo,vI t12.Hi]) <|
 .v 3 (.bool true)<|.nil) [2,3,38] fun u11 a w' H=>?_
   refine qF ?_
   obtain rfl:=sj G
   exact Qj H _ 38 ((u1 1).n 0) [vI t12.Lo,vI t12.Hi] 46 0 2 (by kernel_rfl) (by kernel_rfl) (by kernel_rfl) (by kernel_rfl)
theorem Jc.calls (k0:Nat) (a0:qb) (r:qb) (w:World) (G:Jc k0 a0=some r) :
  Calls Tryz.prog 182 #[.agg #[vI a0.Lo,vI a0.Hi]] w fun e w'=>e = .returned (.agg #[vI r.Lo,vI r.Hi])∧Below w.heap.size w w':=by
 refine QD (args:=[.agg #[vI a0.Lo,vI a0.Hi]]) 15 Tryz.func182 rfl (by kernel_rfl) (by kernel_rfl) fun a H=>?_
 unfold Jc at G
 refine qg qd H (.cons [1,15] (qs (fun b=>vP b 0) (fun u1=>[vI a0.Lo,vI a0.Hi]) 46 1 15) <|
 .cons [2,16] (qs (fun b=>vP b 0) (fun u1=>[vI 0,vI 0]) 46 2 16)<|.nil) [1,2,15,16] fun u1 a w' H=>?_
 refine qv ?_
 refine qg qd H (.v 5 (vP ((u1 0).n 0) 0) <|
 .cons [6] (qf (vI a0.Lo) 6 15 0 1 ((u1 0).n 0) [vI a0.Lo,vI a0.Hi] 46) <|
 .v 7 (.bool (decide (a0.Lo<0)))<|.nil) [1,2,7,15,16] fun u2 a w' H=>?_
 refine Qx H (decide (a0.Lo<0)) (fun c8=>?_) fun c8=>?_
 ·rw [if_pos c8] at G
  obtain ⟨t4,ht4,G⟩:=qP G
  refine qg qd H (.cons [8] (qq 48 _ _ 8 [] (fun u3 w _=>QT.calls   t4 w  ht4)) <|
 .cons [16] (Qa 16 0 ((u1 1).n 0) [vI 0,vI 0] [vI t4.Lo,vI t4.Hi] 46 [vI t4.Lo,vI t4.Hi])<|.nil) [2,16] fun u3 a w' H=>?_
  refine qF ?_
  obtain rfl:=sj G
  exact Qj H _ 16 ((u1 1).n 0) [vI t4.Lo,vI t4.Hi] 46 0 2 (by kernel_rfl) (by kernel_rfl) (by kernel_rfl) (by kernel_rfl)
 ·rw [if_neg (nt c8)] at G
  refine Qf ?_
  obtain ⟨t6,ht6,G⟩:=qP G
  refine qg qd H (.cons [10] (qf (.agg #[vI a0.Lo,vI a0.Hi]) 10 15 0 2 ((u1 0).n 0) [vI a0.Lo,vI a0.Hi] 46) <|
 .cons [11] (qq 138 _ _ 11 [] (fun u5 w _=>Xe.calls k0 a0  t6 w  ht6)) <|
 .v 9 (.tuple #[.agg #[vI t6.1.Lo,vI t6.1.Hi],.bool t6.2]) <|
 .v 12 (.agg #[vI t6.1.Lo,vI t6.1.Hi]) <|
 .v 13 (.bool t6.2) <|
 .cons [3,17] (qs (fun b=>vP b 0) (fun u5=>[vI 0,vI 0]) 46 3 17) <|
 .cons [17] (QL (u':=fun u5=>[(17,.blk ((u5 5).n 0) [vI t6.1.Lo,vI t6.1.Hi] 46)]) (qW 17 0 (fun u5=>((u5 5).n 0)) (fun u5=>[vI 0,vI 0]) (fun u5=>[vI t6.1.Lo,vI t6.1.Hi]) 46) (fun _=>by kernel_rfl)) <|
 .v 4 (.bool t6.2)<|.nil) [2,3,16,17] fun u5 a w' H=>?_
  refine qg qd H (.cons [14] (qf (.agg #[vI t6.1.Lo,vI t6.1.Hi]) 14 17 0 2 ((u5 5).n 0) [vI t6.1.Lo,vI t6.1.Hi] 46) <|
 .cons [16] (Qa 16 0 ((u1 1).n 0) [vI 0,vI 0] [vI t6.1.Lo,vI t6.1.Hi] 46 [vI t6.1.Lo,vI t6.1.Hi])<|.nil) [2,16] fun u7 a w' H=>?_
  refine qF ?_
  obtain rfl:=sj G
  exact Qj H _ 16 ((u1 1).n 0) [vI t6.1.Lo,vI t6.1.Hi] 46 0 2 (by kernel_rfl) (by kernel_rfl) (by kernel_rfl) (by kernel_rfl)
theorem QP.calls (k0:Nat) (a0:QE) (a1:List qb) (a2:qb) (p_a0_L:Option Addr) (c_a0_L:Nat) (p_a0_Out:Option Addr) (c_a0_Out:Nat) (p_a1:Option Addr) (c_a1:Nat) (r:List qb) (w:World) (hB:Xx [qB qk 5 p_a0_L c_a0_L a0.L qi,qB qk 1 p_a0_Out c_a0_Out a0.Out Qn,qB qk 2 p_a1 c_a1 a1 qa,gk] w) (G:QP k0 a0 a1 a2=some r) :
  Calls Tryz.prog 128 #[.agg #[vI a0.N,.slice p_a0_L a0.L.length c_a0_L,.slice p_a0_Out a0.Out.length c_a0_Out],.slice p_a1 a1.length c_a1,.agg #[vI a2.Lo,vI a2.Hi]] w fun e w'=>∃ g:Gh,e = .returned (.slice (g.o 0) r.length (g.n 0))∧Zg (Y4 []) w w'∧Ys w.heap.size (Y4 []) (JH w.heap.size []) [fun _=>Qm 46 2 (g.o 0) (g.n 0) r qa] w':=by
 obtain ⟨fr,hfr,hBf⟩:=VE w []
 refine QO (args:=[.agg #[vI a0.N,.slice p_a0_L a0.L.length c_a0_L,.slice p_a0_Out a0.Out.length c_a0_Out],.slice p_a1 a1.length c_a1,.agg #[vI a2.Lo,vI a2.Hi]]) 112 [(112,qB qk 5 p_a0_L c_a0_L a0.L qi),(113,qB qk 1 p_a0_Out c_a0_Out a0.Out Qn),(114,qB qk 2 p_a1 c_a1 a1 qa),(999999,gk)] (by
  intro x hx
  simp only [List.mem_cons,List.not_mem_nil,or_false] at hx
  rcases hx with rfl | rfl | rfl | rfl
  ·exact qy (qj hB.1) (fun _ _=>trivial) (by decide) _
  ·exact qy (qj hB.2.1) (fun _ _=>trivial) (by decide) _
  ·exact qy (qj hB.2.2.1) (fun _ _=>trivial) (by decide) _
  ·exact ⟨⟨_,_,rfl⟩,hB.2.2.2.1,Yl (QM hB.2.2.2.1)⟩) Tryz.func128 rfl (by kernel_rfl) (by kernel_rfl) fun a H=>?_
 unfold QP at G
 refine qg qd H (.cons [3,115] (qs (fun b=>vP b 0) (fun u1=>[vI a0.N,.slice p_a0_L a0.L.length c_a0_L,.slice p_a0_Out a0.Out.length c_a0_Out]) 38 3 115) <|
 .cons [5,116] (qs (fun b=>vP b 0) (fun u1=>[vI a2.Lo,vI a2.Hi]) 46 5 116) <|
 .v 6 (.slice none 0 0)<|.nil) [1,3,5,112,113,114,115,116,999999] fun u1 a w' H=>?_
 refine qv ?_
 replace G:=gd G; obtain ⟨b3,G⟩:=G
 refine Qt qd H (.v 14 (vP ((u1 0).n 0) 1) <|
 .cons [15] (qf (.slice p_a0_L a0.L.length c_a0_L) 15 115 1 1 ((u1 0).n 0) [vI a0.N,.slice p_a0_L a0.L.length c_a0_L,.slice p_a0_Out a0.Out.length c_a0_Out] 38) <|
 .v 16 (vI (a0.L.length:Int)) <|
 .cons [17,117] (Z7 [] (fun u2=>[]) 46 2 (List.replicate (a0.L.length:Int).toNat (⟨0,0⟩:qb)).length ((List.replicate (a0.L.length:Int).toNat (⟨0,0⟩:qb)).flatMap qa) 17 117 (fun _=>.none) (fun u2 w hF=>Yw (t:=48) (k:=.i64) (m:=(a0.L.length:Int)) (en:=qa) (z:=(⟨0,0⟩:qb)) qe JT rfl b3 (by kernel_rfl)) (fun _=>.inl rfl)) <|
 .cons [7] (qn (fun u2=>.slice ((u2 3).o 0) ((List.replicate (a0.L.length:Int).toNat (⟨0,0⟩:qb)).length) ((u2 3).n 0)) 7)<|.nil) [1,3,5,7,112,113,114,115,116,117,999999] fun u2 a w' H=>?_
 refine qv ?_
 replace G:=qP G; obtain ⟨j5,hj5,G⟩:=G
 refine Xq (fun a w'=>∃ (p_j4:Option Addr) (c_j4 np_j4:Nat),np_j4=j5.length∧RL w 112 [(3,(sP ((u1 0).n 0) 0)),(7,sS p_j4 np_j4 c_j4),(112,qB qk 5 p_a0_L c_a0_L a0.L qi),(113,qB qk 1 p_a0_Out c_a0_Out a0.Out Qn),(115,.blk ((u1 0).n 0) [vI a0.N,.slice p_a0_L a0.L.length c_a0_L,.slice p_a0_Out a0.Out.length c_a0_Out] 38),(900001,X6 46 2 p_j4 np_j4 c_j4 (j5.flatMap qa)),(999999,gk)] a w') ?_ ?_
 ·clear H; rintro a w' ⟨p_j4,c_j4,_,rfl,H⟩
  refine qv ?_
  replace G:=gd G; obtain ⟨b7,G⟩:=G
  refine Qt qd H (.v 91 (vP ((u1 0).n 0) 2) <|
 .cons [92] (qf (.slice p_a0_Out a0.Out.length c_a0_Out) 92 115 2 1 ((u1 0).n 0) [vI a0.N,.slice p_a0_L a0.L.length c_a0_L,.slice p_a0_Out a0.Out.length c_a0_Out] 38) <|
 .v 93 (vI (a0.Out.length:Int)) <|
 .cons [94,118] (Z7 [] (fun u6=>[]) 46 2 (List.replicate (a0.Out.length:Int).toNat (⟨0,0⟩:qb)).length ((List.replicate (a0.Out.length:Int).toNat (⟨0,0⟩:qb)).flatMap qa) 94 118 (fun _=>.none) (fun u6 w hF=>Yw (t:=48) (k:=.i64) (m:=(a0.Out.length:Int)) (en:=qa) (z:=(⟨0,0⟩:qb)) qe JT rfl b7 (by kernel_rfl)) (fun _=>.inl rfl)) <|
 .cons [11] (qn (fun u6=>.slice ((u6 3).o 0) ((List.replicate (a0.Out.length:Int).toNat (⟨0,0⟩:qb)).length) ((u6 3).n 0)) 11)<|.nil) [3,7,11,112,113,115,118,900001,999999] fun u6 a w' H=>?_
  refine qv ?_
  replace G:=qP G; obtain ⟨j9,hj9,G⟩:=G
  refine Xq (fun a w'=>∃ (p_j8:Option Addr) (c_j8 np_j8:Nat),np_j8=j9.length∧RL w 112 [(11,sS p_j8 np_j8 c_j8),(900002,X6 46 2 p_j8 np_j8 c_j8 (j9.flatMap qa)),(999999,gk)] a w') ?_ ?_
  ·clear H; rintro a w' ⟨p_j8,c_j8,_,rfl,H⟩
   refine qg qd H (.v 111 (.slice p_j8 j9.length c_j8) <|
 .v 6 (.slice p_j8 j9.length c_j8)<|.nil) [6,900002,999999] fun u10 a w' H=>?_
   refine qF ?_
   obtain rfl:=sj G
   obtain ⟨g,o0,n0⟩:=ZX p_j8 c_j8
   refine QR H _ g _ _ _ fr [900002] [] (.slice p_j8 j9.length c_j8) [fun _=>Qm 46 2 p_j8 c_j8 j9 qa] (by simp only [Qm,o0,n0]) (by simp only [Qm,o0,n0]) hfr (.inl ⟨rfl,rfl⟩) (ql Qw qC) (by simp)
  ·clear G; replace G:=hj9; clear hj9
   refine qg qd H (.v 95 (vP ((u1 0).n 0) 2) <|
 .cons [96] (qf (.slice p_a0_Out a0.Out.length c_a0_Out) 96 115 2 1 ((u1 0).n 0) [vI a0.N,.slice p_a0_L a0.L.length c_a0_L,.slice p_a0_Out a0.Out.length c_a0_Out] 38) <|
 .v 97 (vI (a0.Out.length:Int)) <|
 .v 98 (vI 0)<|.nil) [7,11,96,97,98,113,118,900001,999999] fun u11 a w' H=>?_
   refine q6 ?_
   replace H:=H.move (K:=Qm 46 2 ((u6 3).o 0) ((u6 3).n 0) (List.replicate (a0.Out.length:Int).toNat (⟨0,0⟩:qb)) qa) 118 900003 (by kernel_rfl) (by intro _ _ h; cases h)
   refine XP (fun m a w'=>∃ x12:List qb,∃ x13:Int,QP.l14 k0 a0 a1 a2 j5 m x12 x13=some j9 ∧ ∃ (p_x12:Option Addr) (c_x12 np_x12:Nat),np_x12=x12.length∧RL w 112 [(7,sS p_j4 j5.length c_j4),(11,sS p_x12 np_x12 c_x12),(96,sS p_a0_Out a0.Out.length c_a0_Out),(97,(sI (a0.Out.length:Int))),(98,sI x13),(113,qB qk 1 p_a0_Out c_a0_Out a0.Out Qn),(900001,Qm 46 2 p_j4 c_j4 j5 qa),(900003,X6 46 2 p_x12 np_x12 c_x12 (x12.flatMap qa)),(999999,gk)] a w') k0 ⟨_,_,G,((u6 3).o 0),((u6 3).n 0),(List.replicate (a0.Out.length:Int).toNat (⟨0,0⟩:qb)).length,rfl,H.toM _⟩ ?_
   clear G H
   rintro (_ | k) a w' ⟨x12,x13,G,p_x12,c_x12,_,rfl,H⟩
   ·exact absurd G (by unfold QP.l14; exact fun h=>by cases h)
   ·unfold QP.l14 at G
    refine qg qd H (.v 99 (.bool (decide (x13<(a0.Out.length:Int))))<|.nil) [7,11,96,97,98,99,113,900001,900003,999999] fun u15 a w' H=>?_
    refine qv ?_
    refine Qx H (decide (x13<(a0.Out.length:Int))) (fun c25=>?_) fun c25=>?_
    ·rw [if_pos c25] at G
     refine Qf ?_
     refine qv ?_
     refine q6 ?_
     refine qv ?_
     replace G:=gd G; obtain ⟨b17,G⟩:=G
     replace G:=qP G; obtain ⟨t18,ht18,G⟩:=G
     refine Qt qd H (.v 100 (vI x13) <|
 .cons [101] (qG 113 (qB qk 1 p_a0_Out c_a0_Out a0.Out Qn) (.pointer (some ⟨Xf p_a0_Out,Xg p_a0_Out+x13.toNat * 1,none⟩)) 101 fun _ w h=>Jo 36 .i64 x13 p_a0_Out a0.Out.length c_a0_Out a0.Out Qn (qj h).2 Jz rfl b17) <|
 .cons [102] (qG 113 (qB qk 1 p_a0_Out c_a0_Out a0.Out Qn) (vI t18) 102 fun _ w h=>Ym Qn (qj h).2 Jz ht18 0 1 [vI t18]) <|
 .v 12 (vI x13) <|
 .v 13 (vI t18)<|.nil) [7,11,12,13,96,97,98,113,900001,900003,999999] fun u16 a w' H=>?_
     replace G:=gd G; obtain ⟨b20,G⟩:=G
     replace G:=qP G; obtain ⟨t21,ht21,G⟩:=G
     replace G:=gd G; obtain ⟨b22,G⟩:=G
     replace G:=qP G; obtain ⟨t23,ht23,G⟩:=G
     refine Qt qd H (.v 103 (.slice p_x12 x12.length c_x12) <|
 .v 104 (vI x13) <|
 .v 105 (.slice p_j4 j5.length c_j4) <|
 .v 106 (vI t18) <|
 .cons [107] (qG 900001 (Qm 46 2 p_j4 c_j4 j5 qa) (.pointer (some ⟨Xf p_j4,Xg p_j4+t18.toNat * 2,none⟩)) 107 fun _ w h=>Jo 48 .i64 t18 p_j4 j5.length c_j4 j5 qa (qw (Qe h)).2 qe rfl b20) <|
 .cons [108] (qG 900001 (Qm 46 2 p_j4 c_j4 j5 qa) (.agg #[vI t21.Lo,vI t21.Hi]) 108 fun _ w h=>Ym qa (qw (Qe h)).2 qe ht21 0 2 [vI t21.Lo,vI t21.Hi]) <|
 .cons [109] (qG 900003 (Qm 46 2 p_x12 c_x12 x12 qa) (.pointer (some ⟨Xf p_x12,Xg p_x12+x13.toNat * 2,none⟩)) 109 fun _ w h=>Jo 48 .i64 x13 p_x12 x12.length c_x12 x12 qa (qw (Qe h)).2 qe rfl b22) <|
 .cons [900003,900003] (XC [] [] (fun u19=>[]) 900003 (fun u19=>Qm 46 2 p_x12 c_x12 x12 qa) none (fun u19 g=>.nilFunc) (fun u19 g=>X6 46 2 p_x12 x12.length c_x12 ((x12.set x13.toNat t21).flatMap qa)) (fun u19 w hF hK=>ZA (XK (Qe hK) qe (y:=t21) (vs:=[vI t21.Lo,vI t21.Hi]) ht23 0 (by simp) (by simp) rfl (by kernel_rfl))))<|.nil) [7,11,96,97,98,113,900001,900003,999999] fun u19 a w' H=>?_
     refine Qt qd H (.v 110 (vI (qc (x13+1))) <|
 .v 98 (vI (qc (x13+1)))<|.nil) [7,11,96,97,98,113,900001,900003,999999] fun u24 a w' H=>?_
     exact ⟨k,Nat.lt_succ_self k,_,_,G,p_x12,c_x12,x12.length,by simp,H.toM _⟩
    ·rw [if_neg (nt c25)] at G
     refine Yk rfl ?_
     obtain rfl:=sj G
     replace H:=H.move (K:=Qm 46 2 p_x12 c_x12 x12 qa) 900003 900002 (by kernel_rfl) (by intro _ _ h; cases h)
     exact ⟨p_x12,c_x12,x12.length,rfl,H.toM _⟩
 ·clear G; replace G:=hj5; clear hj5
  refine qg qd H (.v 18 (vP ((u1 0).n 0) 1) <|
 .cons [19] (qf (.slice p_a0_L a0.L.length c_a0_L) 19 115 1 1 ((u1 0).n 0) [vI a0.N,.slice p_a0_L a0.L.length c_a0_L,.slice p_a0_Out a0.Out.length c_a0_Out] 38) <|
 .v 20 (vI (a0.L.length:Int)) <|
 .v 21 (vI 0)<|.nil) [1,3,5,7,19,20,21,112,113,114,115,116,117,999999] fun u26 a w' H=>?_
  refine q6 ?_
  replace H:=H.move (K:=Qm 46 2 ((u2 3).o 0) ((u2 3).n 0) (List.replicate (a0.L.length:Int).toNat (⟨0,0⟩:qb)) qa) 117 900004 (by kernel_rfl) (by intro _ _ h; cases h)
  refine XP (fun m a w'=>∃ x27:List qb,∃ x28:Int,QP.l29 k0 a0 a1 a2 m x27 x28=some j5 ∧ ∃ (p_x27:Option Addr) (c_x27 np_x27:Nat),np_x27=x27.length∧RL w 112 [(1,sS p_a1 a1.length c_a1),(3,(sP ((u1 0).n 0) 0)),(5,(sP ((u1 1).n 0) 0)),(7,sS p_x27 np_x27 c_x27),(19,sS p_a0_L a0.L.length c_a0_L),(20,(sI (a0.L.length:Int))),(21,sI x28),(112,qB qk 5 p_a0_L c_a0_L a0.L qi),(113,qB qk 1 p_a0_Out c_a0_Out a0.Out Qn),(114,qB qk 2 p_a1 c_a1 a1 qa),(115,.blk ((u1 0).n 0) [vI a0.N,.slice p_a0_L a0.L.length c_a0_L,.slice p_a0_Out a0.Out.length c_a0_Out] 38),(116,.blk ((u1 1).n 0) [vI a2.Lo,vI a2.Hi] 46),(900004,X6 46 2 p_x27 np_x27 c_x27 (x27.flatMap qa)),(999999,gk)] a w') k0 ⟨_,_,G,((u2 3).o 0),((u2 3).n 0),(List.replicate (a0.L.length:Int).toNat (⟨0,0⟩:qb)).length,rfl,H.toM _⟩ ?_
  clear G H
  rintro (_ | k) a w' ⟨x27,x28,G,p_x27,c_x27,_,rfl,H⟩
  ·exact absurd G (by unfold QP.l29; exact fun h=>by cases h)
  ·unfold QP.l29 at G
   refine qg qd H (.v 22 (.bool (decide (x28<(a0.L.length:Int))))<|.nil) [1,3,5,7,19,20,21,22,112,113,114,115,116,900004,999999] fun u30 a w' H=>?_
   refine qv ?_
   refine Qx H (decide (x28<(a0.L.length:Int))) (fun c166=>?_) fun c166=>?_
   ·rw [if_pos c166] at G
    refine Qf ?_
    refine qv ?_
    replace G:=qP G; obtain ⟨j32,hj32,G⟩:=G
    refine Xq (fun a w'=>∃ (p_j31:Option Addr) (c_j31 np_j31:Nat),np_j31=j32.length∧RL w 112 [(1,sS p_a1 a1.length c_a1),(3,(sP ((u1 0).n 0) 0)),(5,(sP ((u1 1).n 0) 0)),(7,sS p_j31 np_j31 c_j31),(19,sS p_a0_L a0.L.length c_a0_L),(20,(sI (a0.L.length:Int))),(21,sI x28),(112,qB qk 5 p_a0_L c_a0_L a0.L qi),(113,qB qk 1 p_a0_Out c_a0_Out a0.Out Qn),(114,qB qk 2 p_a1 c_a1 a1 qa),(115,.blk ((u1 0).n 0) [vI a0.N,.slice p_a0_L a0.L.length c_a0_L,.slice p_a0_Out a0.Out.length c_a0_Out] 38),(116,.blk ((u1 1).n 0) [vI a2.Lo,vI a2.Hi] 46),(900005,X6 46 2 p_j31 np_j31 c_j31 (j32.flatMap qa)),(999999,gk)] a w') ?_ ?_
    ·clear H; rintro a w' ⟨p_j31,c_j31,_,rfl,H⟩
     refine Qt qd H (.v 90 (vI (qc (x28+1))) <|
 .v 21 (vI (qc (x28+1)))<|.nil) [1,3,5,7,19,20,21,112,113,114,115,116,900005,999999] fun u33 a w' H=>?_
     replace H:=H.move (K:=Qm 46 2 p_j31 c_j31 j32 qa) 900005 900004 (by kernel_rfl) (by intro _ _ h; cases h)
     exact ⟨k,Nat.lt_succ_self k,_,_,G,p_j31,c_j31,j32.length,rfl,H.toM _⟩
    ·clear G; replace G:=hj32; clear hj32
     refine q6 ?_
     refine qv ?_
     replace G:=gd G; obtain ⟨b35,G⟩:=G
     replace G:=qP G; obtain ⟨t36,ht36,G⟩:=G
     refine Qt qd H (.v 23 (vI x28) <|
 .cons [24] (qG 112 (qB qk 5 p_a0_L c_a0_L a0.L qi) (.pointer (some ⟨Xf p_a0_L,Xg p_a0_L+x28.toNat * 5,none⟩)) 24 fun _ w h=>Jo 35 .i64 x28 p_a0_L a0.L.length c_a0_L a0.L qi (qj h).2 Y0 rfl b35) <|
 .cons [25] (qG 112 (qB qk 5 p_a0_L c_a0_L a0.L qi) (.agg #[vI t36.Op,vI t36.A,vI t36.B,vI t36.C.Lo,vI t36.C.Hi]) 25 fun _ w h=>Ym qi (qj h).2 Y0 ht36 0 5 [vI t36.Op,vI t36.A,vI t36.B,vI t36.C.Lo,vI t36.C.Hi]) <|
 .cons [9,123] (qs (fun b=>vP b 0) (fun u34=>[vI 0,vI 0,vI 0,vI 0,vI 0]) 110 9 123) <|
 .v 8 (vI x28) <|
 .cons [123] (QL (u':=fun u34=>[(123,.blk ((u34 3).n 0) [vI t36.Op,vI t36.A,vI t36.B,vI t36.C.Lo,vI t36.C.Hi] 110)]) (qW 123 0 (fun u34=>((u34 3).n 0)) (fun u34=>[vI 0,vI 0,vI 0,vI 0,vI 0]) (fun u34=>[vI t36.Op,vI t36.A,vI t36.B,vI t36.C.Lo,vI t36.C.Hi]) 110) (fun _=>by kernel_rfl))<|.nil) [1,3,5,7,8,9,19,20,21,112,113,114,115,116,123,900004,999999] fun u34 a w' H=>?_
     refine qv ?_
     replace G:=qP G; obtain ⟨z37,hz37,G⟩:=G
     replace hz37:=Option.some.inj hz37
     by_cases c155:z37=0
     ·rw [if_pos c155] at G; subst c155
      try rw [hz37] at H
      refine Qt qd H (.v 26 (vP ((u34 3).n 0) 0) <|
 .cons [27] (qf (vI 0) 27 123 0 1 ((u34 3).n 0) [vI 0,vI t36.A,vI t36.B,vI t36.C.Lo,vI t36.C.Hi] 110) <|
 .v 28 (vP 1 0) <|
 .cons [29] (Q8 (fun u38=>.agg #[.nilFunc,.nilFunc]) 29 999999 gk 1 0 2 JS (fun w h=>(QM h).tab1)) <|
 .cons [10,124] (qs (fun b=>vP b 0) (fun u38=>[.nilFunc,.nilFunc]) 230 10 124) <|
 .cons [124] (QL (u':=fun u38=>[(124,.blk ((u38 4).n 0) [.nilFunc,.nilFunc] 230)]) (qW 124 0 (fun u38=>((u38 4).n 0)) (fun u38=>[.nilFunc,.nilFunc]) (fun u38=>[.nilFunc,.nilFunc]) 230) (fun _=>by kernel_rfl))<|.nil) [1,3,5,7,8,9,10,19,20,21,112,113,114,115,116,123,124,900004,999999] fun u38 a w' H=>?_
      refine q6 ?_
      refine qg qd H (.v 47 (vP ((u34 3).n 0) 0) <|
 .cons [48] (qf (vI 0) 48 123 0 1 ((u34 3).n 0) [vI 0,vI t36.A,vI t36.B,vI t36.C.Lo,vI t36.C.Hi] 110) <|
 .v 49 (.bool false) <|
 .v 46 (.bool false)<|.nil) [1,3,5,7,8,9,10,19,20,21,46,112,113,114,115,116,123,124,900004,999999] fun u39 a w' H=>?_
      refine Qu H (by kernel_rfl) (by kernel_rfl) ?_
      refine qg qd H (.v 56 (vP ((u34 3).n 0) 0) <|
 .cons [57] (qf (vI 0) 57 123 0 1 ((u34 3).n 0) [vI 0,vI t36.A,vI t36.B,vI t36.C.Lo,vI t36.C.Hi] 110) <|
 .v 58 (.bool false) <|
 .v 55 (.bool false)<|.nil) [1,3,5,7,8,9,10,19,20,21,55,112,113,114,115,116,123,124,900004,999999] fun u40 a w' H=>?_
      refine Qu H (by kernel_rfl) (by kernel_rfl) ?_
      refine qg qd H (.v 68 (vP ((u34 3).n 0) 0) <|
 .cons [69] (qf (vI 0) 69 123 0 1 ((u34 3).n 0) [vI 0,vI t36.A,vI t36.B,vI t36.C.Lo,vI t36.C.Hi] 110) <|
 .v 70 (.bool false) <|
 .v 67 (.bool false)<|.nil) [1,3,5,7,8,9,10,19,20,21,67,112,113,114,115,116,123,124,900004,999999] fun u41 a w' H=>?_
      refine Qu H (by kernel_rfl) (by kernel_rfl) ?_
      refine qg qd H (.v 76 (vP ((u38 4).n 0) 0) <|
 .cons [77] (qf .nilFunc 77 124 0 1 ((u38 4).n 0) [.nilFunc,.nilFunc] 230) <|
 .v 78 (.bool false) <|
 .v 75 (.bool false)<|.nil) [1,3,5,7,8,9,10,19,20,21,75,112,113,114,115,116,123,124,900004,999999] fun u42 a w' H=>?_
      refine Qu H (by kernel_rfl) (by kernel_rfl) ?_
      cases G
     rw [if_neg c155] at G
     by_cases c156:z37=1
     ·rw [if_pos c156] at G; subst c156
      try rw [hz37] at H
      refine Qt qd H (.v 26 (vP ((u34 3).n 0) 0) <|
 .cons [27] (qf (vI 1) 27 123 0 1 ((u34 3).n 0) [vI 1,vI t36.A,vI t36.B,vI t36.C.Lo,vI t36.C.Hi] 110) <|
 .v 28 (vP 1 2) <|
 .cons [29] (Q8 (fun u43=>.agg #[.nilFunc,.nilFunc]) 29 999999 gk 1 2 2 JS (fun w h=>(QM h).tab1)) <|
 .cons [10,125] (qs (fun b=>vP b 0) (fun u43=>[.nilFunc,.nilFunc]) 230 10 125) <|
 .cons [125] (QL (u':=fun u43=>[(125,.blk ((u43 4).n 0) [.nilFunc,.nilFunc] 230)]) (qW 125 0 (fun u43=>((u43 4).n 0)) (fun u43=>[.nilFunc,.nilFunc]) (fun u43=>[.nilFunc,.nilFunc]) 230) (fun _=>by kernel_rfl))<|.nil) [1,3,5,7,8,9,10,19,20,21,112,113,114,115,116,123,125,900004,999999] fun u43 a w' H=>?_
      refine q6 ?_
      refine qg qd H (.v 47 (vP ((u34 3).n 0) 0) <|
 .cons [48] (qf (vI 1) 48 123 0 1 ((u34 3).n 0) [vI 1,vI t36.A,vI t36.B,vI t36.C.Lo,vI t36.C.Hi] 110) <|
 .v 49 (.bool true) <|
 .v 46 (.bool true)<|.nil) [1,3,5,7,8,9,10,19,20,21,46,112,113,114,115,116,123,125,900004,999999] fun u44 a w' H=>?_
      refine YO H (by kernel_rfl) (by kernel_rfl) ?_
      replace G:=gd G; obtain ⟨b46,G⟩:=G
      replace G:=qP G; obtain ⟨t47,ht47,G⟩:=G
      refine Qt qd H (.v 50 (.slice p_x27 x27.length c_x27) <|
 .v 51 (vI x28) <|
 .v 52 (vP ((u34 3).n 0) 3) <|
 .cons [53] (qf (.agg #[vI t36.C.Lo,vI t36.C.Hi]) 53 123 3 2 ((u34 3).n 0) [vI 1,vI t36.A,vI t36.B,vI t36.C.Lo,vI t36.C.Hi] 110) <|
 .cons [54] (qG 900004 (Qm 46 2 p_x27 c_x27 x27 qa) (.pointer (some ⟨Xf p_x27,Xg p_x27+x28.toNat * 2,none⟩)) 54 fun _ w h=>Jo 48 .i64 x28 p_x27 x27.length c_x27 x27 qa (qw (Qe h)).2 qe rfl b46) <|
 .cons [900004,900004] (XC [] [] (fun u45=>[]) 900004 (fun u45=>Qm 46 2 p_x27 c_x27 x27 qa) none (fun u45 g=>.nilFunc) (fun u45 g=>X6 46 2 p_x27 x27.length c_x27 ((x27.set x28.toNat (⟨t36.C.Lo,t36.C.Hi⟩:qb)).flatMap qa)) (fun u45 w hF hK=>ZA (XK (Qe hK) qe (y:=(⟨t36.C.Lo,t36.C.Hi⟩:qb)) (vs:=[vI t36.C.Lo,vI t36.C.Hi]) ht47 0 (by simp) (by simp) rfl (by kernel_rfl))))<|.nil) [1,3,5,7,19,20,21,112,113,114,115,116,900004,999999] fun u45 a w' H=>?_
      obtain rfl:=sj G
      replace H:=H.move (K:=X6 46 2 p_x27 x27.length c_x27 ((x27.set x28.toNat (⟨t36.C.Lo,t36.C.Hi⟩:qb)).flatMap qa)) 900004 900005 (by kernel_rfl) (by intro _ _ h; cases h)
      exact ⟨p_x27,c_x27,x27.length,by simp,H.toM _⟩
     rw [if_neg c156] at G
     by_cases c157:z37=2
     ·rw [if_pos c157] at G; subst c157
      try rw [hz37] at H
      refine Qt qd H (.v 26 (vP ((u34 3).n 0) 0) <|
 .cons [27] (qf (vI 2) 27 123 0 1 ((u34 3).n 0) [vI 2,vI t36.A,vI t36.B,vI t36.C.Lo,vI t36.C.Hi] 110) <|
 .v 28 (vP 1 4) <|
 .cons [29] (Q8 (fun u48=>.agg #[.nilFunc,.nilFunc]) 29 999999 gk 1 4 2 JS (fun w h=>(QM h).tab1)) <|
 .cons [10,127] (qs (fun b=>vP b 0) (fun u48=>[.nilFunc,.nilFunc]) 230 10 127) <|
 .cons [127] (QL (u':=fun u48=>[(127,.blk ((u48 4).n 0) [.nilFunc,.nilFunc] 230)]) (qW 127 0 (fun u48=>((u48 4).n 0)) (fun u48=>[.nilFunc,.nilFunc]) (fun u48=>[.nilFunc,.nilFunc]) 230) (fun _=>by kernel_rfl))<|.nil) [1,3,5,7,8,9,10,19,20,21,112,113,114,115,116,123,127,900004,999999] fun u48 a w' H=>?_
      refine q6 ?_
      refine qg qd H (.v 47 (vP ((u34 3).n 0) 0) <|
 .cons [48] (qf (vI 2) 48 123 0 1 ((u34 3).n 0) [vI 2,vI t36.A,vI t36.B,vI t36.C.Lo,vI t36.C.Hi] 110) <|
 .v 49 (.bool false) <|
 .v 46 (.bool false)<|.nil) [1,3,5,7,8,9,10,19,20,21,46,112,113,114,115,116,123,127,900004,999999] fun u49 a w' H=>?_
      refine Qu H (by kernel_rfl) (by kernel_rfl) ?_
      refine qg qd H (.v 56 (vP ((u34 3).n 0) 0) <|
 .cons [57] (qf (vI 2) 57 123 0 1 ((u34 3).n 0) [vI 2,vI t36.A,vI t36.B,vI t36.C.Lo,vI t36.C.Hi] 110) <|
 .v 58 (.bool true) <|
 .v 55 (.bool true)<|.nil) [1,3,5,7,8,9,10,19,20,21,55,112,113,114,115,116,123,127,900004,999999] fun u50 a w' H=>?_
      refine YO H (by kernel_rfl) (by kernel_rfl) ?_
      replace G:=gd G; obtain ⟨b52,G⟩:=G
      replace G:=qP G; obtain ⟨t53,ht53,G⟩:=G
      replace G:=gd G; obtain ⟨b54,G⟩:=G
      replace G:=qP G; obtain ⟨t55,ht55,G⟩:=G
      refine Qt qd H (.v 59 (.slice p_x27 x27.length c_x27) <|
 .v 60 (vI x28) <|
 .v 61 (.slice p_a1 a1.length c_a1) <|
 .v 62 (vP ((u34 3).n 0) 1) <|
 .cons [63] (qf (vI t36.A) 63 123 1 1 ((u34 3).n 0) [vI 2,vI t36.A,vI t36.B,vI t36.C.Lo,vI t36.C.Hi] 110) <|
 .cons [64] (qG 114 (qB qk 2 p_a1 c_a1 a1 qa) (.pointer (some ⟨Xf p_a1,Xg p_a1+t36.A.toNat * 2,none⟩)) 64 fun _ w h=>Jo 48 .i64 t36.A p_a1 a1.length c_a1 a1 qa (qj h).2 qe rfl b52) <|
 .cons [65] (qG 114 (qB qk 2 p_a1 c_a1 a1 qa) (.agg #[vI t53.Lo,vI t53.Hi]) 65 fun _ w h=>Ym qa (qj h).2 qe ht53 0 2 [vI t53.Lo,vI t53.Hi]) <|
 .cons [66] (qG 900004 (Qm 46 2 p_x27 c_x27 x27 qa) (.pointer (some ⟨Xf p_x27,Xg p_x27+x28.toNat * 2,none⟩)) 66 fun _ w h=>Jo 48 .i64 x28 p_x27 x27.length c_x27 x27 qa (qw (Qe h)).2 qe rfl b54) <|
 .cons [900004,900004] (XC [] [] (fun u51=>[]) 900004 (fun u51=>Qm 46 2 p_x27 c_x27 x27 qa) none (fun u51 g=>.nilFunc) (fun u51 g=>X6 46 2 p_x27 x27.length c_x27 ((x27.set x28.toNat t53).flatMap qa)) (fun u51 w hF hK=>ZA (XK (Qe hK) qe (y:=t53) (vs:=[vI t53.Lo,vI t53.Hi]) ht55 0 (by simp) (by simp) rfl (by kernel_rfl))))<|.nil) [1,3,5,7,19,20,21,112,113,114,115,116,900004,999999] fun u51 a w' H=>?_
      obtain rfl:=sj G
      replace H:=H.move (K:=X6 46 2 p_x27 x27.length c_x27 ((x27.set x28.toNat t53).flatMap qa)) 900004 900005 (by kernel_rfl) (by intro _ _ h; cases h)
      exact ⟨p_x27,c_x27,x27.length,by simp,H.toM _⟩
     rw [if_neg c157] at G
     by_cases c158:z37=3
     ·rw [if_pos c158] at G; subst c158
      try rw [hz37] at H
      refine Qt qd H (.v 26 (vP ((u34 3).n 0) 0) <|
 .cons [27] (qf (vI 3) 27 123 0 1 ((u34 3).n 0) [vI 3,vI t36.A,vI t36.B,vI t36.C.Lo,vI t36.C.Hi] 110) <|
 .v 28 (vP 1 6) <|
 .cons [29] (Q8 (fun u56=>.agg #[.nilFunc,.nilFunc]) 29 999999 gk 1 6 2 JS (fun w h=>(QM h).tab1)) <|
 .cons [10,129] (qs (fun b=>vP b 0) (fun u56=>[.nilFunc,.nilFunc]) 230 10 129) <|
 .cons [129] (QL (u':=fun u56=>[(129,.blk ((u56 4).n 0) [.nilFunc,.nilFunc] 230)]) (qW 129 0 (fun u56=>((u56 4).n 0)) (fun u56=>[.nilFunc,.nilFunc]) (fun u56=>[.nilFunc,.nilFunc]) 230) (fun _=>by kernel_rfl))<|.nil) [1,3,5,7,8,9,10,19,20,21,112,113,114,115,116,123,129,900004,999999] fun u56 a w' H=>?_
      refine q6 ?_
      refine qg qd H (.v 47 (vP ((u34 3).n 0) 0) <|
 .cons [48] (qf (vI 3) 48 123 0 1 ((u34 3).n 0) [vI 3,vI t36.A,vI t36.B,vI t36.C.Lo,vI t36.C.Hi] 110) <|
 .v 49 (.bool false) <|
 .v 46 (.bool false)<|.nil) [1,3,5,7,8,9,10,19,20,21,46,112,113,114,115,116,123,129,900004,999999] fun u57 a w' H=>?_
      refine Qu H (by kernel_rfl) (by kernel_rfl) ?_
      refine qg qd H (.v 56 (vP ((u34 3).n 0) 0) <|
 .cons [57] (qf (vI 3) 57 123 0 1 ((u34 3).n 0) [vI 3,vI t36.A,vI t36.B,vI t36.C.Lo,vI t36.C.Hi] 110) <|
 .v 58 (.bool false) <|
 .v 55 (.bool false)<|.nil) [1,3,5,7,8,9,10,19,20,21,55,112,113,114,115,116,123,129,900004,999999] fun u58 a w' H=>?_
      refine Qu H (by kernel_rfl) (by kernel_rfl) ?_
      refine qg qd H (.v 68 (vP ((u34 3).n 0) 0) <|
 .cons [69] (qf (vI 3) 69 123 0 1 ((u34 3).n 0) [vI 3,vI t36.A,vI t36.B,vI t36.C.Lo,vI t36.C.Hi] 110) <|
 .v 70 (.bool true) <|
 .v 67 (.bool true)<|.nil) [1,3,5,7,8,9,10,19,20,21,67,112,113,114,115,116,123,129,900004,999999] fun u59 a w' H=>?_
      refine YO H (by kernel_rfl) (by kernel_rfl) ?_
      replace G:=gd G; obtain ⟨b61,G⟩:=G
      replace G:=qP G; obtain ⟨t62,ht62,G⟩:=G
      refine Qt qd H (.v 71 (.slice p_x27 x27.length c_x27) <|
 .v 72 (vI x28) <|
 .cons [73] (qf (.agg #[vI a2.Lo,vI a2.Hi]) 73 116 0 2 ((u1 1).n 0) [vI a2.Lo,vI a2.Hi] 46) <|
 .cons [74] (qG 900004 (Qm 46 2 p_x27 c_x27 x27 qa) (.pointer (some ⟨Xf p_x27,Xg p_x27+x28.toNat * 2,none⟩)) 74 fun _ w h=>Jo 48 .i64 x28 p_x27 x27.length c_x27 x27 qa (qw (Qe h)).2 qe rfl b61) <|
 .cons [900004,900004] (XC [] [] (fun u60=>[]) 900004 (fun u60=>Qm 46 2 p_x27 c_x27 x27 qa) none (fun u60 g=>.nilFunc) (fun u60 g=>X6 46 2 p_x27 x27.length c_x27 ((x27.set x28.toNat a2).flatMap qa)) (fun u60 w hF hK=>ZA (XK (Qe hK) qe (y:=a2) (vs:=[vI a2.Lo,vI a2.Hi]) ht62 0 (by simp) (by simp) rfl (by kernel_rfl))))<|.nil) [1,3,5,7,19,20,21,112,113,114,115,116,900004,999999] fun u60 a w' H=>?_
      obtain rfl:=sj G
      replace H:=H.move (K:=X6 46 2 p_x27 x27.length c_x27 ((x27.set x28.toNat a2).flatMap qa)) 900004 900005 (by kernel_rfl) (by intro _ _ h; cases h)
      exact ⟨p_x27,c_x27,x27.length,by simp,H.toM _⟩
     rw [if_neg c158] at G
     by_cases c159:z37=4
     ·rw [if_pos c159] at G; subst c159
      try rw [hz37] at H
      refine Qt qd H (.v 26 (vP ((u34 3).n 0) 0) <|
 .cons [27] (qf (vI 4) 27 123 0 1 ((u34 3).n 0) [vI 4,vI t36.A,vI t36.B,vI t36.C.Lo,vI t36.C.Hi] 110) <|
 .v 28 (vP 1 8) <|
 .cons [29] (Q8 (fun u63=>.agg #[.func (.func 110) #[] #[],.nilFunc]) 29 999999 gk 1 8 2 JS (fun w h=>(QM h).tab1)) <|
 .cons [10,131] (qs (fun b=>vP b 0) (fun u63=>[.nilFunc,.nilFunc]) 230 10 131) <|
 .cons [131] (QL (u':=fun u63=>[(131,.blk ((u63 4).n 0) [.func (.func 110) #[] #[],.nilFunc] 230)]) (qW 131 0 (fun u63=>((u63 4).n 0)) (fun u63=>[.nilFunc,.nilFunc]) (fun u63=>[.func (.func 110) #[] #[],.nilFunc]) 230) (fun _=>by kernel_rfl))<|.nil) [1,3,5,7,8,9,10,19,20,21,112,113,114,115,116,123,131,900004,999999] fun u63 a w' H=>?_
      refine q6 ?_
      refine qg qd H (.v 47 (vP ((u34 3).n 0) 0) <|
 .cons [48] (qf (vI 4) 48 123 0 1 ((u34 3).n 0) [vI 4,vI t36.A,vI t36.B,vI t36.C.Lo,vI t36.C.Hi] 110) <|
 .v 49 (.bool false) <|
 .v 46 (.bool false)<|.nil) [1,3,5,7,8,9,10,19,20,21,46,112,113,114,115,116,123,131,900004,999999] fun u64 a w' H=>?_
      refine Qu H (by kernel_rfl) (by kernel_rfl) ?_
      refine qg qd H (.v 56 (vP ((u34 3).n 0) 0) <|
 .cons [57] (qf (vI 4) 57 123 0 1 ((u34 3).n 0) [vI 4,vI t36.A,vI t36.B,vI t36.C.Lo,vI t36.C.Hi] 110) <|
 .v 58 (.bool false) <|
 .v 55 (.bool false)<|.nil) [1,3,5,7,8,9,10,19,20,21,55,112,113,114,115,116,123,131,900004,999999] fun u65 a w' H=>?_
      refine Qu H (by kernel_rfl) (by kernel_rfl) ?_
      refine qg qd H (.v 68 (vP ((u34 3).n 0) 0) <|
 .cons [69] (qf (vI 4) 69 123 0 1 ((u34 3).n 0) [vI 4,vI t36.A,vI t36.B,vI t36.C.Lo,vI t36.C.Hi] 110) <|
 .v 70 (.bool false) <|
 .v 67 (.bool false)<|.nil) [1,3,5,7,8,9,10,19,20,21,67,112,113,114,115,116,123,131,900004,999999] fun u66 a w' H=>?_
      refine Qu H (by kernel_rfl) (by kernel_rfl) ?_
      refine qg qd H (.v 76 (vP ((u63 4).n 0) 0) <|
 .cons [77] (qf (.func (.func 110) #[] #[]) 77 131 0 1 ((u63 4).n 0) [.func (.func 110) #[] #[],.nilFunc] 230) <|
 .v 78 (.bool true) <|
 .v 75 (.bool true)<|.nil) [1,3,5,7,8,9,10,19,20,21,75,112,113,114,115,116,123,131,900004,999999] fun u67 a w' H=>?_
      refine YO H (by kernel_rfl) (by kernel_rfl) ?_
      replace G:=gd G; obtain ⟨b69,G⟩:=G
      replace G:=qP G; obtain ⟨t70,ht70,G⟩:=G
      have P71:=Xh (en:=qa) (l:=x27) (qw (Qe (H.at (K:=Qm 46 2 p_x27 c_x27 x27 qa) 900004 (by kernel_rfl)))).2 qe
      replace G:=qP G; obtain ⟨t72,ht72,G⟩:=G
      replace G:=gd G; obtain ⟨b73,G⟩:=G
      replace G:=qP G; obtain ⟨t74,ht74,G⟩:=G
      refine Qt qd H (.v 79 (.slice p_x27 x27.length c_x27) <|
 .v 80 (vI x28) <|
 .v 81 (vP ((u63 4).n 0) 0) <|
 .cons [82] (qf (.func (.func 110) #[] #[]) 82 131 0 1 ((u63 4).n 0) [.func (.func 110) #[] #[],.nilFunc] 230) <|
 .v 83 (.slice p_x27 x27.length c_x27) <|
 .v 84 (vP ((u34 3).n 0) 1) <|
 .cons [85] (qf (vI t36.A) 85 123 1 1 ((u34 3).n 0) [vI 4,vI t36.A,vI t36.B,vI t36.C.Lo,vI t36.C.Hi] 110) <|
 .cons [86] (qn (fun u68=>.pointer (some ⟨Xf p_x27,Xg p_x27+t36.A.toNat * 2,none⟩)) 86 (hv:=fun _ _=>qM (t:=48) (k:=.i64) (i:=t36.A) (p:=p_x27) (n:=x27.length) (cap:=c_x27) (x:=x27) P71 rfl b69 (by kernel_rfl))) <|
 .cons [87] (qG 900004 (Qm 46 2 p_x27 c_x27 x27 qa) (.agg #[vI t70.Lo,vI t70.Hi]) 87 fun _ w h=>Ym qa (qw (Qe h)).2 qe ht70 0 2 [vI t70.Lo,vI t70.Hi]) <|
 .cons [88] (qq 110 _ _ 88 [] (fun u68 w _=>XQ.calls t70  t72 w  ht72)) <|
 .cons [89] (qn (fun u68=>.pointer (some ⟨Xf p_x27,Xg p_x27+x28.toNat * 2,none⟩)) 89 (hv:=fun _ _=>qM (t:=48) (k:=.i64) (i:=x28) (p:=p_x27) (n:=x27.length) (cap:=c_x27) (x:=x27) P71 rfl b73 (by kernel_rfl))) <|
 .cons [900004,900004] (XC [] [] (fun u68=>[]) 900004 (fun u68=>Qm 46 2 p_x27 c_x27 x27 qa) none (fun u68 g=>.nilFunc) (fun u68 g=>X6 46 2 p_x27 x27.length c_x27 ((x27.set x28.toNat t72).flatMap qa)) (fun u68 w hF hK=>ZA (XK (Qe hK) qe (y:=t72) (vs:=[vI t72.Lo,vI t72.Hi]) ht74 0 (by simp) (by simp) rfl (by kernel_rfl))))<|.nil) [1,3,5,7,19,20,21,112,113,114,115,116,900004,999999] fun u68 a w' H=>?_
      obtain rfl:=sj G
      replace H:=H.move (K:=X6 46 2 p_x27 x27.length c_x27 ((x27.set x28.toNat t72).flatMap qa)) 900004 900005 (by kernel_rfl) (by intro _ _ h; cases h)
      exact ⟨p_x27,c_x27,x27.length,by simp,H.toM _⟩
     rw [if_neg c159] at G
     by_cases c160:z37=5
     ·rw [if_pos c160] at G; subst c160
      try rw [hz37] at H
      refine Qt qd H (.v 26 (vP ((u34 3).n 0) 0) <|
 .cons [27] (qf (vI 5) 27 123 0 1 ((u34 3).n 0) [vI 5,vI t36.A,vI t36.B,vI t36.C.Lo,vI t36.C.Hi] 110) <|
 .v 28 (vP 1 10) <|
 .cons [29] (Q8 (fun u75=>.agg #[.func (.func 91) #[] #[],.nilFunc]) 29 999999 gk 1 10 2 JS (fun w h=>(QM h).tab1)) <|
 .cons [10,133] (qs (fun b=>vP b 0) (fun u75=>[.nilFunc,.nilFunc]) 230 10 133) <|
 .cons [133] (QL (u':=fun u75=>[(133,.blk ((u75 4).n 0) [.func (.func 91) #[] #[],.nilFunc] 230)]) (qW 133 0 (fun u75=>((u75 4).n 0)) (fun u75=>[.nilFunc,.nilFunc]) (fun u75=>[.func (.func 91) #[] #[],.nilFunc]) 230) (fun _=>by kernel_rfl))<|.nil) [1,3,5,7,8,9,10,19,20,21,112,113,114,115,116,123,133,900004,999999] fun u75 a w' H=>?_
      refine q6 ?_
      refine qg qd H (.v 47 (vP ((u34 3).n 0) 0) <|
 .cons [48] (qf (vI 5) 48 123 0 1 ((u34 3).n 0) [vI 5,vI t36.A,vI t36.B,vI t36.C.Lo,vI t36.C.Hi] 110) <|
 .v 49 (.bool false) <|
 .v 46 (.bool false)<|.nil) [1,3,5,7,8,9,10,19,20,21,46,112,113,114,115,116,123,133,900004,999999] fun u76 a w' H=>?_
      refine Qu H (by kernel_rfl) (by kernel_rfl) ?_
      refine qg qd H (.v 56 (vP ((u34 3).n 0) 0) <|
 .cons [57] (qf (vI 5) 57 123 0 1 ((u34 3).n 0) [vI 5,vI t36.A,vI t36.B,vI t36.C.Lo,vI t36.C.Hi] 110) <|
 .v 58 (.bool false) <|
 .v 55 (.bool false)<|.nil) [1,3,5,7,8,9,10,19,20,21,55,112,113,114,115,116,123,133,900004,999999] fun u77 a w' H=>?_
      refine Qu H (by kernel_rfl) (by kernel_rfl) ?_
      refine qg qd H (.v 68 (vP ((u34 3).n 0) 0) <|
 .cons [69] (qf (vI 5) 69 123 0 1 ((u34 3).n 0) [vI 5,vI t36.A,vI t36.B,vI t36.C.Lo,vI t36.C.Hi] 110) <|
 .v 70 (.bool false) <|
 .v 67 (.bool false)<|.nil) [1,3,5,7,8,9,10,19,20,21,67,112,113,114,115,116,123,133,900004,999999] fun u78 a w' H=>?_
      refine Qu H (by kernel_rfl) (by kernel_rfl) ?_
      refine qg qd H (.v 76 (vP ((u75 4).n 0) 0) <|
 .cons [77] (qf (.func (.func 91) #[] #[]) 77 133 0 1 ((u75 4).n 0) [.func (.func 91) #[] #[],.nilFunc] 230) <|
 .v 78 (.bool true) <|
 .v 75 (.bool true)<|.nil) [1,3,5,7,8,9,10,19,20,21,75,112,113,114,115,116,123,133,900004,999999] fun u79 a w' H=>?_
      refine YO H (by kernel_rfl) (by kernel_rfl) ?_
      replace G:=gd G; obtain ⟨b81,G⟩:=G
      replace G:=qP G; obtain ⟨t82,ht82,G⟩:=G
      have P83:=Xh (en:=qa) (l:=x27) (qw (Qe (H.at (K:=Qm 46 2 p_x27 c_x27 x27 qa) 900004 (by kernel_rfl)))).2 qe
      replace G:=qP G; obtain ⟨t84,ht84,G⟩:=G
      replace G:=gd G; obtain ⟨b85,G⟩:=G
      replace G:=qP G; obtain ⟨t86,ht86,G⟩:=G
      refine Qt qd H (.v 79 (.slice p_x27 x27.length c_x27) <|
 .v 80 (vI x28) <|
 .v 81 (vP ((u75 4).n 0) 0) <|
 .cons [82] (qf (.func (.func 91) #[] #[]) 82 133 0 1 ((u75 4).n 0) [.func (.func 91) #[] #[],.nilFunc] 230) <|
 .v 83 (.slice p_x27 x27.length c_x27) <|
 .v 84 (vP ((u34 3).n 0) 1) <|
 .cons [85] (qf (vI t36.A) 85 123 1 1 ((u34 3).n 0) [vI 5,vI t36.A,vI t36.B,vI t36.C.Lo,vI t36.C.Hi] 110) <|
 .cons [86] (qn (fun u80=>.pointer (some ⟨Xf p_x27,Xg p_x27+t36.A.toNat * 2,none⟩)) 86 (hv:=fun _ _=>qM (t:=48) (k:=.i64) (i:=t36.A) (p:=p_x27) (n:=x27.length) (cap:=c_x27) (x:=x27) P83 rfl b81 (by kernel_rfl))) <|
 .cons [87] (qG 900004 (Qm 46 2 p_x27 c_x27 x27 qa) (.agg #[vI t82.Lo,vI t82.Hi]) 87 fun _ w h=>Ym qa (qw (Qe h)).2 qe ht82 0 2 [vI t82.Lo,vI t82.Hi]) <|
 .cons [88] (qq 91 _ _ 88 [] (fun u80 w _=>Xz.calls t82  t84 w  ht84)) <|
 .cons [89] (qn (fun u80=>.pointer (some ⟨Xf p_x27,Xg p_x27+x28.toNat * 2,none⟩)) 89 (hv:=fun _ _=>qM (t:=48) (k:=.i64) (i:=x28) (p:=p_x27) (n:=x27.length) (cap:=c_x27) (x:=x27) P83 rfl b85 (by kernel_rfl))) <|
 .cons [900004,900004] (XC [] [] (fun u80=>[]) 900004 (fun u80=>Qm 46 2 p_x27 c_x27 x27 qa) none (fun u80 g=>.nilFunc) (fun u80 g=>X6 46 2 p_x27 x27.length c_x27 ((x27.set x28.toNat t84).flatMap qa)) (fun u80 w hF hK=>ZA (XK (Qe hK) qe (y:=t84) (vs:=[vI t84.Lo,vI t84.Hi]) ht86 0 (by simp) (by simp) rfl (by kernel_rfl))))<|.nil) [1,3,5,7,19,20,21,112,113,114,115,116,900004,999999] fun u80 a w' H=>?_
      obtain rfl:=sj G
      replace H:=H.move (K:=X6 46 2 p_x27 x27.length c_x27 ((x27.set x28.toNat t84).flatMap qa)) 900004 900005 (by kernel_rfl) (by intro _ _ h; cases h)
      exact ⟨p_x27,c_x27,x27.length,by simp,H.toM _⟩
     rw [if_neg c160] at G
     by_cases c161:z37=6
     ·rw [if_pos c161] at G; subst c161
      try rw [hz37] at H
      refine Qt qd H (.v 26 (vP ((u34 3).n 0) 0) <|
 .cons [27] (qf (vI 6) 27 123 0 1 ((u34 3).n 0) [vI 6,vI t36.A,vI t36.B,vI t36.C.Lo,vI t36.C.Hi] 110) <|
 .v 28 (vP 1 12) <|
 .cons [29] (Q8 (fun u87=>.agg #[.func (.func 182) #[] #[],.nilFunc]) 29 999999 gk 1 12 2 JS (fun w h=>(QM h).tab1)) <|
 .cons [10,135] (qs (fun b=>vP b 0) (fun u87=>[.nilFunc,.nilFunc]) 230 10 135) <|
 .cons [135] (QL (u':=fun u87=>[(135,.blk ((u87 4).n 0) [.func (.func 182) #[] #[],.nilFunc] 230)]) (qW 135 0 (fun u87=>((u87 4).n 0)) (fun u87=>[.nilFunc,.nilFunc]) (fun u87=>[.func (.func 182) #[] #[],.nilFunc]) 230) (fun _=>by kernel_rfl))<|.nil) [1,3,5,7,8,9,10,19,20,21,112,113,114,115,116,123,135,900004,999999] fun u87 a w' H=>?_
      refine q6 ?_
      refine qg qd H (.v 47 (vP ((u34 3).n 0) 0) <|
 .cons [48] (qf (vI 6) 48 123 0 1 ((u34 3).n 0) [vI 6,vI t36.A,vI t36.B,vI t36.C.Lo,vI t36.C.Hi] 110) <|
 .v 49 (.bool false) <|
 .v 46 (.bool false)<|.nil) [1,3,5,7,8,9,10,19,20,21,46,112,113,114,115,116,123,135,900004,999999] fun u88 a w' H=>?_
      refine Qu H (by kernel_rfl) (by kernel_rfl) ?_
      refine qg qd H (.v 56 (vP ((u34 3).n 0) 0) <|
 .cons [57] (qf (vI 6) 57 123 0 1 ((u34 3).n 0) [vI 6,vI t36.A,vI t36.B,vI t36.C.Lo,vI t36.C.Hi] 110) <|
 .v 58 (.bool false) <|
 .v 55 (.bool false)<|.nil) [1,3,5,7,8,9,10,19,20,21,55,112,113,114,115,116,123,135,900004,999999] fun u89 a w' H=>?_
      refine Qu H (by kernel_rfl) (by kernel_rfl) ?_
      refine qg qd H (.v 68 (vP ((u34 3).n 0) 0) <|
 .cons [69] (qf (vI 6) 69 123 0 1 ((u34 3).n 0) [vI 6,vI t36.A,vI t36.B,vI t36.C.Lo,vI t36.C.Hi] 110) <|
 .v 70 (.bool false) <|
 .v 67 (.bool false)<|.nil) [1,3,5,7,8,9,10,19,20,21,67,112,113,114,115,116,123,135,900004,999999] fun u90 a w' H=>?_
      refine Qu H (by kernel_rfl) (by kernel_rfl) ?_
      refine qg qd H (.v 76 (vP ((u87 4).n 0) 0) <|
 .cons [77] (qf (.func (.func 182) #[] #[]) 77 135 0 1 ((u87 4).n 0) [.func (.func 182) #[] #[],.nilFunc] 230) <|
 .v 78 (.bool true) <|
 .v 75 (.bool true)<|.nil) [1,3,5,7,8,9,10,19,20,21,75,112,113,114,115,116,123,135,900004,999999] fun u91 a w' H=>?_
      refine YO H (by kernel_rfl) (by kernel_rfl) ?_
      replace G:=gd G; obtain ⟨b93,G⟩:=G
      replace G:=qP G; obtain ⟨t94,ht94,G⟩:=G
      have P95:=Xh (en:=qa) (l:=x27) (qw (Qe (H.at (K:=Qm 46 2 p_x27 c_x27 x27 qa) 900004 (by kernel_rfl)))).2 qe
      replace G:=qP G; obtain ⟨t96,ht96,G⟩:=G
      replace G:=gd G; obtain ⟨b97,G⟩:=G
      replace G:=qP G; obtain ⟨t98,ht98,G⟩:=G
      refine Qt qd H (.v 79 (.slice p_x27 x27.length c_x27) <|
 .v 80 (vI x28) <|
 .v 81 (vP ((u87 4).n 0) 0) <|
 .cons [82] (qf (.func (.func 182) #[] #[]) 82 135 0 1 ((u87 4).n 0) [.func (.func 182) #[] #[],.nilFunc] 230) <|
 .v 83 (.slice p_x27 x27.length c_x27) <|
 .v 84 (vP ((u34 3).n 0) 1) <|
 .cons [85] (qf (vI t36.A) 85 123 1 1 ((u34 3).n 0) [vI 6,vI t36.A,vI t36.B,vI t36.C.Lo,vI t36.C.Hi] 110) <|
 .cons [86] (qn (fun u92=>.pointer (some ⟨Xf p_x27,Xg p_x27+t36.A.toNat * 2,none⟩)) 86 (hv:=fun _ _=>qM (t:=48) (k:=.i64) (i:=t36.A) (p:=p_x27) (n:=x27.length) (cap:=c_x27) (x:=x27) P95 rfl b93 (by kernel_rfl))) <|
 .cons [87] (qG 900004 (Qm 46 2 p_x27 c_x27 x27 qa) (.agg #[vI t94.Lo,vI t94.Hi]) 87 fun _ w h=>Ym qa (qw (Qe h)).2 qe ht94 0 2 [vI t94.Lo,vI t94.Hi]) <|
 .cons [88] (qq 182 _ _ 88 [] (fun u92 w _=>Jc.calls k0 t94  t96 w  ht96)) <|
 .cons [89] (qn (fun u92=>.pointer (some ⟨Xf p_x27,Xg p_x27+x28.toNat * 2,none⟩)) 89 (hv:=fun _ _=>qM (t:=48) (k:=.i64) (i:=x28) (p:=p_x27) (n:=x27.length) (cap:=c_x27) (x:=x27) P95 rfl b97 (by kernel_rfl))) <|
 .cons [900004,900004] (XC [] [] (fun u92=>[]) 900004 (fun u92=>Qm 46 2 p_x27 c_x27 x27 qa) none (fun u92 g=>.nilFunc) (fun u92 g=>X6 46 2 p_x27 x27.length c_x27 ((x27.set x28.toNat t96).flatMap qa)) (fun u92 w hF hK=>ZA (XK (Qe hK) qe (y:=t96) (vs:=[vI t96.Lo,vI t96.Hi]) ht98 0 (by simp) (by simp) rfl (by kernel_rfl))))<|.nil) [1,3,5,7,19,20,21,112,113,114,115,116,900004,999999] fun u92 a w' H=>?_
      obtain rfl:=sj G
      replace H:=H.move (K:=X6 46 2 p_x27 x27.length c_x27 ((x27.set x28.toNat t96).flatMap qa)) 900004 900005 (by kernel_rfl) (by intro _ _ h; cases h)
      exact ⟨p_x27,c_x27,x27.length,by simp,H.toM _⟩
     rw [if_neg c161] at G
     by_cases c162:z37=7
     ·rw [if_pos c162] at G; subst c162
      try rw [hz37] at H
      refine Qt qd H (.v 26 (vP ((u34 3).n 0) 0) <|
 .cons [27] (qf (vI 7) 27 123 0 1 ((u34 3).n 0) [vI 7,vI t36.A,vI t36.B,vI t36.C.Lo,vI t36.C.Hi] 110) <|
 .v 28 (vP 1 14) <|
 .cons [29] (Q8 (fun u99=>.agg #[.nilFunc,.func (.func 90) #[] #[]]) 29 999999 gk 1 14 2 JS (fun w h=>(QM h).tab1)) <|
 .cons [10,137] (qs (fun b=>vP b 0) (fun u99=>[.nilFunc,.nilFunc]) 230 10 137) <|
 .cons [137] (QL (u':=fun u99=>[(137,.blk ((u99 4).n 0) [.nilFunc,.func (.func 90) #[] #[]] 230)]) (qW 137 0 (fun u99=>((u99 4).n 0)) (fun u99=>[.nilFunc,.nilFunc]) (fun u99=>[.nilFunc,.func (.func 90) #[] #[]]) 230) (fun _=>by kernel_rfl))<|.nil) [1,3,5,7,8,9,10,19,20,21,112,113,114,115,116,123,137,900004,999999] fun u99 a w' H=>?_
      refine q6 ?_
      refine qg qd H (.v 47 (vP ((u34 3).n 0) 0) <|
 .cons [48] (qf (vI 7) 48 123 0 1 ((u34 3).n 0) [vI 7,vI t36.A,vI t36.B,vI t36.C.Lo,vI t36.C.Hi] 110) <|
 .v 49 (.bool false) <|
 .v 46 (.bool false)<|.nil) [1,3,5,7,8,9,10,19,20,21,46,112,113,114,115,116,123,137,900004,999999] fun u100 a w' H=>?_
      refine Qu H (by kernel_rfl) (by kernel_rfl) ?_
      refine qg qd H (.v 56 (vP ((u34 3).n 0) 0) <|
 .cons [57] (qf (vI 7) 57 123 0 1 ((u34 3).n 0) [vI 7,vI t36.A,vI t36.B,vI t36.C.Lo,vI t36.C.Hi] 110) <|
 .v 58 (.bool false) <|
 .v 55 (.bool false)<|.nil) [1,3,5,7,8,9,10,19,20,21,55,112,113,114,115,116,123,137,900004,999999] fun u101 a w' H=>?_
      refine Qu H (by kernel_rfl) (by kernel_rfl) ?_
      refine qg qd H (.v 68 (vP ((u34 3).n 0) 0) <|
 .cons [69] (qf (vI 7) 69 123 0 1 ((u34 3).n 0) [vI 7,vI t36.A,vI t36.B,vI t36.C.Lo,vI t36.C.Hi] 110) <|
 .v 70 (.bool false) <|
 .v 67 (.bool false)<|.nil) [1,3,5,7,8,9,10,19,20,21,67,112,113,114,115,116,123,137,900004,999999] fun u102 a w' H=>?_
      refine Qu H (by kernel_rfl) (by kernel_rfl) ?_
      refine qg qd H (.v 76 (vP ((u99 4).n 0) 0) <|
 .cons [77] (qf .nilFunc 77 137 0 1 ((u99 4).n 0) [.nilFunc,.func (.func 90) #[] #[]] 230) <|
 .v 78 (.bool false) <|
 .v 75 (.bool false)<|.nil) [1,3,5,7,8,9,10,19,20,21,75,112,113,114,115,116,123,137,900004,999999] fun u103 a w' H=>?_
      refine Qu H (by kernel_rfl) (by kernel_rfl) ?_
      replace G:=gd G; obtain ⟨b105,G⟩:=G
      replace G:=qP G; obtain ⟨t106,ht106,G⟩:=G
      have P107:=Xh (en:=qa) (l:=x27) (qw (Qe (H.at (K:=Qm 46 2 p_x27 c_x27 x27 qa) 900004 (by kernel_rfl)))).2 qe
      replace G:=gd G; obtain ⟨b108,G⟩:=G
      replace G:=qP G; obtain ⟨t109,ht109,G⟩:=G
      replace G:=qP G; obtain ⟨t110,ht110,G⟩:=G
      replace G:=gd G; obtain ⟨b111,G⟩:=G
      replace G:=qP G; obtain ⟨t112,ht112,G⟩:=G
      refine Qt qd H (.v 30 (.slice p_x27 x27.length c_x27) <|
 .v 31 (vI x28) <|
 .v 32 (vP ((u99 4).n 0) 1) <|
 .cons [33] (qf (.func (.func 90) #[] #[]) 33 137 1 1 ((u99 4).n 0) [.nilFunc,.func (.func 90) #[] #[]] 230) <|
 .v 34 (.slice p_x27 x27.length c_x27) <|
 .v 35 (vP ((u34 3).n 0) 1) <|
 .cons [36] (qf (vI t36.A) 36 123 1 1 ((u34 3).n 0) [vI 7,vI t36.A,vI t36.B,vI t36.C.Lo,vI t36.C.Hi] 110) <|
 .cons [37] (qn (fun u104=>.pointer (some ⟨Xf p_x27,Xg p_x27+t36.A.toNat * 2,none⟩)) 37 (hv:=fun _ _=>qM (t:=48) (k:=.i64) (i:=t36.A) (p:=p_x27) (n:=x27.length) (cap:=c_x27) (x:=x27) P107 rfl b105 (by kernel_rfl))) <|
 .cons [38] (qG 900004 (Qm 46 2 p_x27 c_x27 x27 qa) (.agg #[vI t106.Lo,vI t106.Hi]) 38 fun _ w h=>Ym qa (qw (Qe h)).2 qe ht106 0 2 [vI t106.Lo,vI t106.Hi]) <|
 .v 39 (.slice p_x27 x27.length c_x27) <|
 .v 40 (vP ((u34 3).n 0) 2) <|
 .cons [41] (qf (vI t36.B) 41 123 2 1 ((u34 3).n 0) [vI 7,vI t36.A,vI t36.B,vI t36.C.Lo,vI t36.C.Hi] 110) <|
 .cons [42] (qn (fun u104=>.pointer (some ⟨Xf p_x27,Xg p_x27+t36.B.toNat * 2,none⟩)) 42 (hv:=fun _ _=>qM (t:=48) (k:=.i64) (i:=t36.B) (p:=p_x27) (n:=x27.length) (cap:=c_x27) (x:=x27) P107 rfl b108 (by kernel_rfl))) <|
 .cons [43] (qG 900004 (Qm 46 2 p_x27 c_x27 x27 qa) (.agg #[vI t109.Lo,vI t109.Hi]) 43 fun _ w h=>Ym qa (qw (Qe h)).2 qe ht109 0 2 [vI t109.Lo,vI t109.Hi]) <|
 .cons [44] (qq 90 _ _ 44 [] (fun u104 w _=>QU.calls t106 t109  t110 w  ht110)) <|
 .cons [45] (qn (fun u104=>.pointer (some ⟨Xf p_x27,Xg p_x27+x28.toNat * 2,none⟩)) 45 (hv:=fun _ _=>qM (t:=48) (k:=.i64) (i:=x28) (p:=p_x27) (n:=x27.length) (cap:=c_x27) (x:=x27) P107 rfl b111 (by kernel_rfl))) <|
 .cons [900004,900004] (XC [] [] (fun u104=>[]) 900004 (fun u104=>Qm 46 2 p_x27 c_x27 x27 qa) none (fun u104 g=>.nilFunc) (fun u104 g=>X6 46 2 p_x27 x27.length c_x27 ((x27.set x28.toNat t110).flatMap qa)) (fun u104 w hF hK=>ZA (XK (Qe hK) qe (y:=t110) (vs:=[vI t110.Lo,vI t110.Hi]) ht112 0 (by simp) (by simp) rfl (by kernel_rfl))))<|.nil) [1,3,5,7,19,20,21,112,113,114,115,116,900004,999999] fun u104 a w' H=>?_
      obtain rfl:=sj G
      replace H:=H.move (K:=X6 46 2 p_x27 x27.length c_x27 ((x27.set x28.toNat t110).flatMap qa)) 900004 900005 (by kernel_rfl) (by intro _ _ h; cases h)
      exact ⟨p_x27,c_x27,x27.length,by simp,H.toM _⟩
     rw [if_neg c162] at G
     by_cases c163:z37=8
     ·rw [if_pos c163] at G; subst c163
      try rw [hz37] at H
      refine Qt qd H (.v 26 (vP ((u34 3).n 0) 0) <|
 .cons [27] (qf (vI 8) 27 123 0 1 ((u34 3).n 0) [vI 8,vI t36.A,vI t36.B,vI t36.C.Lo,vI t36.C.Hi] 110) <|
 .v 28 (vP 1 16) <|
 .cons [29] (Q8 (fun u113=>.agg #[.nilFunc,.func (.func 92) #[] #[]]) 29 999999 gk 1 16 2 JS (fun w h=>(QM h).tab1)) <|
 .cons [10,139] (qs (fun b=>vP b 0) (fun u113=>[.nilFunc,.nilFunc]) 230 10 139) <|
 .cons [139] (QL (u':=fun u113=>[(139,.blk ((u113 4).n 0) [.nilFunc,.func (.func 92) #[] #[]] 230)]) (qW 139 0 (fun u113=>((u113 4).n 0)) (fun u113=>[.nilFunc,.nilFunc]) (fun u113=>[.nilFunc,.func (.func 92) #[] #[]]) 230) (fun _=>by kernel_rfl))<|.nil) [1,3,5,7,8,9,10,19,20,21,112,113,114,115,116,123,139,900004,999999] fun u113 a w' H=>?_
      refine q6 ?_
      refine qg qd H (.v 47 (vP ((u34 3).n 0) 0) <|
 .cons [48] (qf (vI 8) 48 123 0 1 ((u34 3).n 0) [vI 8,vI t36.A,vI t36.B,vI t36.C.Lo,vI t36.C.Hi] 110) <|
 .v 49 (.bool false) <|
 .v 46 (.bool false)<|.nil) [1,3,5,7,8,9,10,19,20,21,46,112,113,114,115,116,123,139,900004,999999] fun u114 a w' H=>?_
      refine Qu H (by kernel_rfl) (by kernel_rfl) ?_
      refine qg qd H (.v 56 (vP ((u34 3).n 0) 0) <|
 .cons [57] (qf (vI 8) 57 123 0 1 ((u34 3).n 0) [vI 8,vI t36.A,vI t36.B,vI t36.C.Lo,vI t36.C.Hi] 110) <|
 .v 58 (.bool false) <|
 .v 55 (.bool false)<|.nil) [1,3,5,7,8,9,10,19,20,21,55,112,113,114,115,116,123,139,900004,999999] fun u115 a w' H=>?_
      refine Qu H (by kernel_rfl) (by kernel_rfl) ?_
      refine qg qd H (.v 68 (vP ((u34 3).n 0) 0) <|
 .cons [69] (qf (vI 8) 69 123 0 1 ((u34 3).n 0) [vI 8,vI t36.A,vI t36.B,vI t36.C.Lo,vI t36.C.Hi] 110) <|
 .v 70 (.bool false) <|
 .v 67 (.bool false)<|.nil) [1,3,5,7,8,9,10,19,20,21,67,112,113,114,115,116,123,139,900004,999999] fun u116 a w' H=>?_
      refine Qu H (by kernel_rfl) (by kernel_rfl) ?_
      refine qg qd H (.v 76 (vP ((u113 4).n 0) 0) <|
 .cons [77] (qf .nilFunc 77 139 0 1 ((u113 4).n 0) [.nilFunc,.func (.func 92) #[] #[]] 230) <|
 .v 78 (.bool false) <|
 .v 75 (.bool false)<|.nil) [1,3,5,7,8,9,10,19,20,21,75,112,113,114,115,116,123,139,900004,999999] fun u117 a w' H=>?_
      refine Qu H (by kernel_rfl) (by kernel_rfl) ?_
      replace G:=gd G; obtain ⟨b119,G⟩:=G
      replace G:=qP G; obtain ⟨t120,ht120,G⟩:=G
      have P121:=Xh (en:=qa) (l:=x27) (qw (Qe (H.at (K:=Qm 46 2 p_x27 c_x27 x27 qa) 900004 (by kernel_rfl)))).2 qe
      replace G:=gd G; obtain ⟨b122,G⟩:=G
      replace G:=qP G; obtain ⟨t123,ht123,G⟩:=G
      replace G:=qP G; obtain ⟨t124,ht124,G⟩:=G
      replace G:=gd G; obtain ⟨b125,G⟩:=G
      replace G:=qP G; obtain ⟨t126,ht126,G⟩:=G
      refine Qt qd H (.v 30 (.slice p_x27 x27.length c_x27) <|
 .v 31 (vI x28) <|
 .v 32 (vP ((u113 4).n 0) 1) <|
 .cons [33] (qf (.func (.func 92) #[] #[]) 33 139 1 1 ((u113 4).n 0) [.nilFunc,.func (.func 92) #[] #[]] 230) <|
 .v 34 (.slice p_x27 x27.length c_x27) <|
 .v 35 (vP ((u34 3).n 0) 1) <|
 .cons [36] (qf (vI t36.A) 36 123 1 1 ((u34 3).n 0) [vI 8,vI t36.A,vI t36.B,vI t36.C.Lo,vI t36.C.Hi] 110) <|
 .cons [37] (qn (fun u118=>.pointer (some ⟨Xf p_x27,Xg p_x27+t36.A.toNat * 2,none⟩)) 37 (hv:=fun _ _=>qM (t:=48) (k:=.i64) (i:=t36.A) (p:=p_x27) (n:=x27.length) (cap:=c_x27) (x:=x27) P121 rfl b119 (by kernel_rfl))) <|
 .cons [38] (qG 900004 (Qm 46 2 p_x27 c_x27 x27 qa) (.agg #[vI t120.Lo,vI t120.Hi]) 38 fun _ w h=>Ym qa (qw (Qe h)).2 qe ht120 0 2 [vI t120.Lo,vI t120.Hi]) <|
 .v 39 (.slice p_x27 x27.length c_x27) <|
 .v 40 (vP ((u34 3).n 0) 2) <|
 .cons [41] (qf (vI t36.B) 41 123 2 1 ((u34 3).n 0) [vI 8,vI t36.A,vI t36.B,vI t36.C.Lo,vI t36.C.Hi] 110) <|
 .cons [42] (qn (fun u118=>.pointer (some ⟨Xf p_x27,Xg p_x27+t36.B.toNat * 2,none⟩)) 42 (hv:=fun _ _=>qM (t:=48) (k:=.i64) (i:=t36.B) (p:=p_x27) (n:=x27.length) (cap:=c_x27) (x:=x27) P121 rfl b122 (by kernel_rfl))) <|
 .cons [43] (qG 900004 (Qm 46 2 p_x27 c_x27 x27 qa) (.agg #[vI t123.Lo,vI t123.Hi]) 43 fun _ w h=>Ym qa (qw (Qe h)).2 qe ht123 0 2 [vI t123.Lo,vI t123.Hi]) <|
 .cons [44] (qq 92 _ _ 44 [] (fun u118 w _=>Xj.calls t120 t123  t124 w  ht124)) <|
 .cons [45] (qn (fun u118=>.pointer (some ⟨Xf p_x27,Xg p_x27+x28.toNat * 2,none⟩)) 45 (hv:=fun _ _=>qM (t:=48) (k:=.i64) (i:=x28) (p:=p_x27) (n:=x27.length) (cap:=c_x27) (x:=x27) P121 rfl b125 (by kernel_rfl))) <|
 .cons [900004,900004] (XC [] [] (fun u118=>[]) 900004 (fun u118=>Qm 46 2 p_x27 c_x27 x27 qa) none (fun u118 g=>.nilFunc) (fun u118 g=>X6 46 2 p_x27 x27.length c_x27 ((x27.set x28.toNat t124).flatMap qa)) (fun u118 w hF hK=>ZA (XK (Qe hK) qe (y:=t124) (vs:=[vI t124.Lo,vI t124.Hi]) ht126 0 (by simp) (by simp) rfl (by kernel_rfl))))<|.nil) [1,3,5,7,19,20,21,112,113,114,115,116,900004,999999] fun u118 a w' H=>?_
      obtain rfl:=sj G
      replace H:=H.move (K:=X6 46 2 p_x27 x27.length c_x27 ((x27.set x28.toNat t124).flatMap qa)) 900004 900005 (by kernel_rfl) (by intro _ _ h; cases h)
      exact ⟨p_x27,c_x27,x27.length,by simp,H.toM _⟩
     rw [if_neg c163] at G
     by_cases c164:z37=9
     ·rw [if_pos c164] at G; subst c164
      try rw [hz37] at H
      refine Qt qd H (.v 26 (vP ((u34 3).n 0) 0) <|
 .cons [27] (qf (vI 9) 27 123 0 1 ((u34 3).n 0) [vI 9,vI t36.A,vI t36.B,vI t36.C.Lo,vI t36.C.Hi] 110) <|
 .v 28 (vP 1 18) <|
 .cons [29] (Q8 (fun u127=>.agg #[.nilFunc,.func (.func 127) #[] #[]]) 29 999999 gk 1 18 2 JS (fun w h=>(QM h).tab1)) <|
 .cons [10,141] (qs (fun b=>vP b 0) (fun u127=>[.nilFunc,.nilFunc]) 230 10 141) <|
 .cons [141] (QL (u':=fun u127=>[(141,.blk ((u127 4).n 0) [.nilFunc,.func (.func 127) #[] #[]] 230)]) (qW 141 0 (fun u127=>((u127 4).n 0)) (fun u127=>[.nilFunc,.nilFunc]) (fun u127=>[.nilFunc,.func (.func 127) #[] #[]]) 230) (fun _=>by kernel_rfl))<|.nil) [1,3,5,7,8,9,10,19,20,21,112,113,114,115,116,123,141,900004,999999] fun u127 a w' H=>?_
      refine q6 ?_
      refine qg qd H (.v 47 (vP ((u34 3).n 0) 0) <|
 .cons [48] (qf (vI 9) 48 123 0 1 ((u34 3).n 0) [vI 9,vI t36.A,vI t36.B,vI t36.C.Lo,vI t36.C.Hi] 110) <|
 .v 49 (.bool false) <|
 .v 46 (.bool false)<|.nil) [1,3,5,7,8,9,10,19,20,21,46,112,113,114,115,116,123,141,900004,999999] fun u128 a w' H=>?_
      refine Qu H (by kernel_rfl) (by kernel_rfl) ?_
      refine qg qd H (.v 56 (vP ((u34 3).n 0) 0) <|
 .cons [57] (qf (vI 9) 57 123 0 1 ((u34 3).n 0) [vI 9,vI t36.A,vI t36.B,vI t36.C.Lo,vI t36.C.Hi] 110) <|
 .v 58 (.bool false) <|
 .v 55 (.bool false)<|.nil) [1,3,5,7,8,9,10,19,20,21,55,112,113,114,115,116,123,141,900004,999999] fun u129 a w' H=>?_
      refine Qu H (by kernel_rfl) (by kernel_rfl) ?_
      refine qg qd H (.v 68 (vP ((u34 3).n 0) 0) <|
 .cons [69] (qf (vI 9) 69 123 0 1 ((u34 3).n 0) [vI 9,vI t36.A,vI t36.B,vI t36.C.Lo,vI t36.C.Hi] 110) <|
 .v 70 (.bool false) <|
 .v 67 (.bool false)<|.nil) [1,3,5,7,8,9,10,19,20,21,67,112,113,114,115,116,123,141,900004,999999] fun u130 a w' H=>?_
      refine Qu H (by kernel_rfl) (by kernel_rfl) ?_
      refine qg qd H (.v 76 (vP ((u127 4).n 0) 0) <|
 .cons [77] (qf .nilFunc 77 141 0 1 ((u127 4).n 0) [.nilFunc,.func (.func 127) #[] #[]] 230) <|
 .v 78 (.bool false) <|
 .v 75 (.bool false)<|.nil) [1,3,5,7,8,9,10,19,20,21,75,112,113,114,115,116,123,141,900004,999999] fun u131 a w' H=>?_
      refine Qu H (by kernel_rfl) (by kernel_rfl) ?_
      replace G:=gd G; obtain ⟨b133,G⟩:=G
      replace G:=qP G; obtain ⟨t134,ht134,G⟩:=G
      have P135:=Xh (en:=qa) (l:=x27) (qw (Qe (H.at (K:=Qm 46 2 p_x27 c_x27 x27 qa) 900004 (by kernel_rfl)))).2 qe
      replace G:=gd G; obtain ⟨b136,G⟩:=G
      replace G:=qP G; obtain ⟨t137,ht137,G⟩:=G
      replace G:=qP G; obtain ⟨t138,ht138,G⟩:=G
      replace G:=gd G; obtain ⟨b139,G⟩:=G
      replace G:=qP G; obtain ⟨t140,ht140,G⟩:=G
      refine Qt qd H (.v 30 (.slice p_x27 x27.length c_x27) <|
 .v 31 (vI x28) <|
 .v 32 (vP ((u127 4).n 0) 1) <|
 .cons [33] (qf (.func (.func 127) #[] #[]) 33 141 1 1 ((u127 4).n 0) [.nilFunc,.func (.func 127) #[] #[]] 230) <|
 .v 34 (.slice p_x27 x27.length c_x27) <|
 .v 35 (vP ((u34 3).n 0) 1) <|
 .cons [36] (qf (vI t36.A) 36 123 1 1 ((u34 3).n 0) [vI 9,vI t36.A,vI t36.B,vI t36.C.Lo,vI t36.C.Hi] 110) <|
 .cons [37] (qn (fun u132=>.pointer (some ⟨Xf p_x27,Xg p_x27+t36.A.toNat * 2,none⟩)) 37 (hv:=fun _ _=>qM (t:=48) (k:=.i64) (i:=t36.A) (p:=p_x27) (n:=x27.length) (cap:=c_x27) (x:=x27) P135 rfl b133 (by kernel_rfl))) <|
 .cons [38] (qG 900004 (Qm 46 2 p_x27 c_x27 x27 qa) (.agg #[vI t134.Lo,vI t134.Hi]) 38 fun _ w h=>Ym qa (qw (Qe h)).2 qe ht134 0 2 [vI t134.Lo,vI t134.Hi]) <|
 .v 39 (.slice p_x27 x27.length c_x27) <|
 .v 40 (vP ((u34 3).n 0) 2) <|
 .cons [41] (qf (vI t36.B) 41 123 2 1 ((u34 3).n 0) [vI 9,vI t36.A,vI t36.B,vI t36.C.Lo,vI t36.C.Hi] 110) <|
 .cons [42] (qn (fun u132=>.pointer (some ⟨Xf p_x27,Xg p_x27+t36.B.toNat * 2,none⟩)) 42 (hv:=fun _ _=>qM (t:=48) (k:=.i64) (i:=t36.B) (p:=p_x27) (n:=x27.length) (cap:=c_x27) (x:=x27) P135 rfl b136 (by kernel_rfl))) <|
 .cons [43] (qG 900004 (Qm 46 2 p_x27 c_x27 x27 qa) (.agg #[vI t137.Lo,vI t137.Hi]) 43 fun _ w h=>Ym qa (qw (Qe h)).2 qe ht137 0 2 [vI t137.Lo,vI t137.Hi]) <|
 .cons [44] (QX [999999] (fun u132=>[gk]) 127 _ _ 44 (fun u132 w hF=>Q9.calls t134 t137  t138 w  (QM hF.1) ht138)) <|
 .cons [45] (qn (fun u132=>.pointer (some ⟨Xf p_x27,Xg p_x27+x28.toNat * 2,none⟩)) 45 (hv:=fun _ _=>qM (t:=48) (k:=.i64) (i:=x28) (p:=p_x27) (n:=x27.length) (cap:=c_x27) (x:=x27) P135 rfl b139 (by kernel_rfl))) <|
 .cons [900004,900004] (XC [] [] (fun u132=>[]) 900004 (fun u132=>Qm 46 2 p_x27 c_x27 x27 qa) none (fun u132 g=>.nilFunc) (fun u132 g=>X6 46 2 p_x27 x27.length c_x27 ((x27.set x28.toNat t138).flatMap qa)) (fun u132 w hF hK=>ZA (XK (Qe hK) qe (y:=t138) (vs:=[vI t138.Lo,vI t138.Hi]) ht140 0 (by simp) (by simp) rfl (by kernel_rfl))))<|.nil) [1,3,5,7,19,20,21,112,113,114,115,116,900004,999999] fun u132 a w' H=>?_
      obtain rfl:=sj G
      replace H:=H.move (K:=X6 46 2 p_x27 x27.length c_x27 ((x27.set x28.toNat t138).flatMap qa)) 900004 900005 (by kernel_rfl) (by intro _ _ h; cases h)
      exact ⟨p_x27,c_x27,x27.length,by simp,H.toM _⟩
     rw [if_neg c164] at G
     by_cases c165:z37=10
     ·rw [if_pos c165] at G; subst c165
      try rw [hz37] at H
      refine Qt qd H (.v 26 (vP ((u34 3).n 0) 0) <|
 .cons [27] (qf (vI 10) 27 123 0 1 ((u34 3).n 0) [vI 10,vI t36.A,vI t36.B,vI t36.C.Lo,vI t36.C.Hi] 110) <|
 .v 28 (vP 1 20) <|
 .cons [29] (Q8 (fun u141=>.agg #[.nilFunc,.func (.func 137) #[] #[]]) 29 999999 gk 1 20 2 JS (fun w h=>(QM h).tab1)) <|
 .cons [10,143] (qs (fun b=>vP b 0) (fun u141=>[.nilFunc,.nilFunc]) 230 10 143) <|
 .cons [143] (QL (u':=fun u141=>[(143,.blk ((u141 4).n 0) [.nilFunc,.func (.func 137) #[] #[]] 230)]) (qW 143 0 (fun u141=>((u141 4).n 0)) (fun u141=>[.nilFunc,.nilFunc]) (fun u141=>[.nilFunc,.func (.func 137) #[] #[]]) 230) (fun _=>by kernel_rfl))<|.nil) [1,3,5,7,8,9,10,19,20,21,112,113,114,115,116,123,143,900004,999999] fun u141 a w' H=>?_
      refine q6 ?_
      refine qg qd H (.v 47 (vP ((u34 3).n 0) 0) <|
 .cons [48] (qf (vI 10) 48 123 0 1 ((u34 3).n 0) [vI 10,vI t36.A,vI t36.B,vI t36.C.Lo,vI t36.C.Hi] 110) <|
 .v 49 (.bool false) <|
 .v 46 (.bool false)<|.nil) [1,3,5,7,8,9,10,19,20,21,46,112,113,114,115,116,123,143,900004,999999] fun u142 a w' H=>?_
      refine Qu H (by kernel_rfl) (by kernel_rfl) ?_
      refine qg qd H (.v 56 (vP ((u34 3).n 0) 0) <|
 .cons [57] (qf (vI 10) 57 123 0 1 ((u34 3).n 0) [vI 10,vI t36.A,vI t36.B,vI t36.C.Lo,vI t36.C.Hi] 110) <|
 .v 58 (.bool false) <|
 .v 55 (.bool false)<|.nil) [1,3,5,7,8,9,10,19,20,21,55,112,113,114,115,116,123,143,900004,999999] fun u143 a w' H=>?_
      refine Qu H (by kernel_rfl) (by kernel_rfl) ?_
      refine qg qd H (.v 68 (vP ((u34 3).n 0) 0) <|
 .cons [69] (qf (vI 10) 69 123 0 1 ((u34 3).n 0) [vI 10,vI t36.A,vI t36.B,vI t36.C.Lo,vI t36.C.Hi] 110) <|
 .v 70 (.bool false) <|
 .v 67 (.bool false)<|.nil) [1,3,5,7,8,9,10,19,20,21,67,112,113,114,115,116,123,143,900004,999999] fun u144 a w' H=>?_
      refine Qu H (by kernel_rfl) (by kernel_rfl) ?_
      refine qg qd H (.v 76 (vP ((u141 4).n 0) 0) <|
 .cons [77] (qf .nilFunc 77 143 0 1 ((u141 4).n 0) [.nilFunc,.func (.func 137) #[] #[]] 230) <|
 .v 78 (.bool false) <|
 .v 75 (.bool false)<|.nil) [1,3,5,7,8,9,10,19,20,21,75,112,113,114,115,116,123,143,900004,999999] fun u145 a w' H=>?_
      refine Qu H (by kernel_rfl) (by kernel_rfl) ?_
      replace G:=gd G; obtain ⟨b147,G⟩:=G
      replace G:=qP G; obtain ⟨t148,ht148,G⟩:=G
      have P149:=Xh (en:=qa) (l:=x27) (qw (Qe (H.at (K:=Qm 46 2 p_x27 c_x27 x27 qa) 900004 (by kernel_rfl)))).2 qe
      replace G:=gd G; obtain ⟨b150,G⟩:=G
      replace G:=qP G; obtain ⟨t151,ht151,G⟩:=G
      replace G:=qP G; obtain ⟨t152,ht152,G⟩:=G
      replace G:=gd G; obtain ⟨b153,G⟩:=G
      replace G:=qP G; obtain ⟨t154,ht154,G⟩:=G
      refine Qt qd H (.v 30 (.slice p_x27 x27.length c_x27) <|
 .v 31 (vI x28) <|
 .v 32 (vP ((u141 4).n 0) 1) <|
 .cons [33] (qf (.func (.func 137) #[] #[]) 33 143 1 1 ((u141 4).n 0) [.nilFunc,.func (.func 137) #[] #[]] 230) <|
 .v 34 (.slice p_x27 x27.length c_x27) <|
 .v 35 (vP ((u34 3).n 0) 1) <|
 .cons [36] (qf (vI t36.A) 36 123 1 1 ((u34 3).n 0) [vI 10,vI t36.A,vI t36.B,vI t36.C.Lo,vI t36.C.Hi] 110) <|
 .cons [37] (qn (fun u146=>.pointer (some ⟨Xf p_x27,Xg p_x27+t36.A.toNat * 2,none⟩)) 37 (hv:=fun _ _=>qM (t:=48) (k:=.i64) (i:=t36.A) (p:=p_x27) (n:=x27.length) (cap:=c_x27) (x:=x27) P149 rfl b147 (by kernel_rfl))) <|
 .cons [38] (qG 900004 (Qm 46 2 p_x27 c_x27 x27 qa) (.agg #[vI t148.Lo,vI t148.Hi]) 38 fun _ w h=>Ym qa (qw (Qe h)).2 qe ht148 0 2 [vI t148.Lo,vI t148.Hi]) <|
 .v 39 (.slice p_x27 x27.length c_x27) <|
 .v 40 (vP ((u34 3).n 0) 2) <|
 .cons [41] (qf (vI t36.B) 41 123 2 1 ((u34 3).n 0) [vI 10,vI t36.A,vI t36.B,vI t36.C.Lo,vI t36.C.Hi] 110) <|
 .cons [42] (qn (fun u146=>.pointer (some ⟨Xf p_x27,Xg p_x27+t36.B.toNat * 2,none⟩)) 42 (hv:=fun _ _=>qM (t:=48) (k:=.i64) (i:=t36.B) (p:=p_x27) (n:=x27.length) (cap:=c_x27) (x:=x27) P149 rfl b150 (by kernel_rfl))) <|
 .cons [43] (qG 900004 (Qm 46 2 p_x27 c_x27 x27 qa) (.agg #[vI t151.Lo,vI t151.Hi]) 43 fun _ w h=>Ym qa (qw (Qe h)).2 qe ht151 0 2 [vI t151.Lo,vI t151.Hi]) <|
 .cons [44] (QX [999999] (fun u146=>[gk]) 137 _ _ 44 (fun u146 w hF=>QY.calls t148 t151  t152 w  (QM hF.1) ht152)) <|
 .cons [45] (qn (fun u146=>.pointer (some ⟨Xf p_x27,Xg p_x27+x28.toNat * 2,none⟩)) 45 (hv:=fun _ _=>qM (t:=48) (k:=.i64) (i:=x28) (p:=p_x27) (n:=x27.length) (cap:=c_x27) (x:=x27) P149 rfl b153 (by kernel_rfl))) <|
 .cons [900004,900004] (XC [] [] (fun u146=>[]) 900004 (fun u146=>Qm 46 2 p_x27 c_x27 x27 qa) none (fun u146 g=>.nilFunc) (fun u146 g=>X6 46 2 p_x27 x27.length c_x27 ((x27.set x28.toNat t152).flatMap qa)) (fun u146 w hF hK=>ZA (XK (Qe hK) qe (y:=t152) (vs:=[vI t152.Lo,vI t152.Hi]) ht154 0 (by simp) (by simp) rfl (by kernel_rfl))))<|.nil) [1,3,5,7,19,20,21,112,113,114,115,116,900004,999999] fun u146 a w' H=>?_
      obtain rfl:=sj G
      replace H:=H.move (K:=X6 46 2 p_x27 x27.length c_x27 ((x27.set x28.toNat t152).flatMap qa)) 900004 900005 (by kernel_rfl) (by intro _ _ h; cases h)
      exact ⟨p_x27,c_x27,x27.length,by simp,H.toM _⟩
     rw [if_neg c165] at G
     cases G
   ·rw [if_neg (nt c166)] at G
    refine Yk rfl ?_
    obtain rfl:=sj G
    replace H:=H.move (K:=Qm 46 2 p_x27 c_x27 x27 qa) 900004 900001 (by kernel_rfl) (by intro _ _ h; cases h)
    exact ⟨p_x27,c_x27,x27.length,rfl,H.toM _⟩
theorem YI.calls (a0:qb) (a1:qb) (q0:qb) (b_q0:Nat) (r:qb) (w:World) (hB:Xx [Xp b_q0 [vI q0.Lo,vI q0.Hi] 46,gk] w) (G:YI a0 a1 q0=some r) :
  Calls Tryz.prog 129 #[.agg #[vI a0.Lo,vI a0.Hi],.agg #[vI a1.Lo,vI a1.Hi],vP b_q0 0] w fun e w'=>e = .returned (.agg #[vI r.Lo,vI r.Hi])∧Below w.heap.size w w':=by
 obtain ⟨fr,hfr⟩:∃ fr:Nat→Prop,∀ j,fr j:=⟨fun _=>True,fun _=>trivial⟩
 have hBf:∀ j,w.heap.size≤j→fr j:=fun j _=>hfr j
 refine QO (args:=[.agg #[vI a0.Lo,vI a0.Hi],.agg #[vI a1.Lo,vI a1.Hi],vP b_q0 0]) 11 [(11,Xp b_q0 [vI q0.Lo,vI q0.Hi] 46),(999999,gk)] (by
  intro x hx
  simp only [List.mem_cons,List.not_mem_nil,or_false] at hx
  rcases hx with rfl | rfl
  ·exact QV (hB.1 w (agree.refl _ _)) _
  ·exact ⟨⟨_,_,rfl⟩,hB.2.1,Yl (QM hB.2.1)⟩) Tryz.func129 rfl (by kernel_rfl) (by kernel_rfl) fun a H=>?_
 unfold YI at G
 refine qg qd H (.cons [3,12] (qs (fun b=>vP b 0) (fun u1=>[vI a0.Lo,vI a0.Hi]) 46 3 12) <|
 .cons [4,13] (qs (fun b=>vP b 0) (fun u1=>[vI a1.Lo,vI a1.Hi]) 46 4 13) <|
 .cons [5,14] (qs (fun b=>vP b 0) (fun u1=>[vI 0,vI 0]) 46 5 14)<|.nil) [2,3,4,5,12,13,14,11,999999] fun u1 a w' H=>?_
 obtain ⟨t3,ht3,G⟩:=qP G
 obtain ⟨t4,ht4,G⟩:=qP G
 refine qg qd H (.cons [6] (qf (.agg #[vI a0.Lo,vI a0.Hi]) 6 12 0 2 ((u1 0).n 0) [vI a0.Lo,vI a0.Hi] 46) <|
 .cons [7] (Q8 (fun u2=>.agg #[vI q0.Lo,vI q0.Hi]) 7 11 (Xp b_q0 [vI q0.Lo,vI q0.Hi] 46) b_q0 0 2 [vI q0.Lo,vI q0.Hi] (fun w h=>Zf h)) <|
 .cons [8] (qf (.agg #[vI a1.Lo,vI a1.Hi]) 8 13 0 2 ((u1 1).n 0) [vI a1.Lo,vI a1.Hi] 46) <|
 .cons [9] (QX [999999] (fun u2=>[gk]) 127 _ _ 9 (fun u2 w hF=>Q9.calls q0 a1  t3 w  (QM hF.1) ht3)) <|
 .cons [10] (qq 90 _ _ 10 [] (fun u2 w _=>QU.calls a0 t3  t4 w  ht4)) <|
 .cons [14] (Qa 14 0 ((u1 2).n 0) [vI 0,vI 0] [vI t4.Lo,vI t4.Hi] 46 [vI t4.Lo,vI t4.Hi])<|.nil) [5,14,11,999999] fun u2 a w' H=>?_
 refine qF ?_
 obtain rfl:=sj G
 exact Qj H _ 14 ((u1 2).n 0) [vI t4.Lo,vI t4.Hi] 46 0 2 (by kernel_rfl) (by kernel_rfl) (by kernel_rfl) (by kernel_rfl)
end Go.Proofs.YtpmgpcklieincaaGreatDoor
