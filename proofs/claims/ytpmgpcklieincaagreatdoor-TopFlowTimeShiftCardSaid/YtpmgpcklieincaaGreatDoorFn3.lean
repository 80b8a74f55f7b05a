/- Each function of the program answers as the plain Lean function of its name (part 3). Printed by a program of this session. -/
import Derived.Test.YtpmgpcklieincaaGreatDoorFn2
set_option linter.unusedVariables false
set_option linter.unusedSimpArgs false
set_option maxRecDepth 100000
set_option maxHeartbeats 4000000
namespace Go.Proofs.YtpmgpcklieincaaGreatDoor
open Go Go.RowKit Go.Sx Go.Proofs
theorem QK.calls (k0:Nat) (a0:QE) (a1:List qb) (a2:Z5) (p_a0_L:Option Addr) (c_a0_L:Nat) (p_a0_Out:Option Addr) (c_a0_Out:Nat) (p_a1:Option Addr) (c_a1:Nat) (r:Qc × Int × Int) (w:World) (hB:Xx [qB qk 5 p_a0_L c_a0_L a0.L qi,qB qk 1 p_a0_Out c_a0_Out a0.Out Qn,gk] w) (hF:Xx [qB qk 2 p_a1 c_a1 a1 qa] w) (G:QK k0 a0 a1 a2=some r) :
  Calls Tryz.prog 33 #[.agg #[vI a0.N,.slice p_a0_L a0.L.length c_a0_L,.slice p_a0_Out a0.Out.length c_a0_Out],.slice p_a1 a1.length c_a1,.agg #[vI a2.Ctrl.Order,vI a2.Ctrl.First,vI a2.Ctrl.Least,vI a2.Ctrl.Most,vI a2.Ctrl.Wide,vI a2.T,vI a2.Last,vI a2.H]] w fun e w'=>∃ g:Gh,e = .returned (.tuple #[.agg #[vI r.1.T,vI r.1.H,.slice (g.o 0) r.1.From.length (g.n 0),.slice (g.o 1) r.1.Pre.length (g.n 1),.slice (g.o 2) r.1.Tube.length (g.n 2),.slice (g.o 3) r.1.To.length (g.n 3)],vI r.2.1,vI r.2.2])∧Zg (Y4 []) w w'∧Ys w.heap.size (Y4 []) (JH w.heap.size [qB qk 2 p_a1 c_a1 a1 qa]) [fun fr=>YZ fr 2 (g.o 0) r.1.From.length (g.n 0) (r.1.From.flatMap qa),fun fr=>YZ fr 2 (g.o 1) r.1.Pre.length (g.n 1) (r.1.Pre.flatMap qa),fun fr=>YZ fr 2 (g.o 2) r.1.Tube.length (g.n 2) (r.1.Tube.flatMap qa),fun fr=>YZ fr 2 (g.o 3) r.1.To.length (g.n 3) (r.1.To.flatMap qa)] w':=by
 obtain ⟨fr,hfr,hBf⟩:=VE w [qB qk 2 p_a1 c_a1 a1 qa]
 refine qax (args:=[.agg #[vI a0.N,.slice p_a0_L a0.L.length c_a0_L,.slice p_a0_Out a0.Out.length c_a0_Out],.slice p_a1 a1.length c_a1,.agg #[vI a2.Ctrl.Order,vI a2.Ctrl.First,vI a2.Ctrl.Least,vI a2.Ctrl.Most,vI a2.Ctrl.Wide,vI a2.T,vI a2.Last,vI a2.H]]) 59 [(59,qB qk 5 p_a0_L c_a0_L a0.L qi),(60,qB qk 1 p_a0_Out c_a0_Out a0.Out Qn),(999999,gk),(61,qB fr 2 p_a1 c_a1 a1 qa)] (by
  intro x hx
  simp only [List.mem_cons,List.not_mem_nil,or_false] at hx
  rcases hx with rfl | rfl | rfl | rfl
  ·exact qy (qj hB.1) (fun _ _=>trivial) (by decide) _
  ·exact qy (qj hB.2.1) (fun _ _=>trivial) (by decide) _
  ·exact ⟨⟨_,_,rfl⟩,hB.2.2.1,Yl (QM hB.2.2.1)⟩
  ·exact qy (qj hF.1) (fun j h=>by rw [hfr]; exact .inr ⟨_,(.head _),h⟩) (by decide) _) Tryz.func33 rfl (by kernel_rfl) (by kernel_rfl) fun a H=>?_
 unfold QK at G
 refine qg qd H (.cons [3,62] (qs (fun b=>vP b 0) (fun u1=>[vI a0.N,.slice p_a0_L a0.L.length c_a0_L,.slice p_a0_Out a0.Out.length c_a0_Out]) 38 3 62) <|
 .cons [4,63] (qs (fun b=>vP b 0) (fun u1=>[.slice p_a1 a1.length c_a1]) 48 4 63) <|
 .cons [5,64] (qs (fun b=>vP b 0) (fun u1=>[vI a2.Ctrl.Order,vI a2.Ctrl.First,vI a2.Ctrl.Least,vI a2.Ctrl.Most,vI a2.Ctrl.Wide,vI a2.T,vI a2.Last,vI a2.H]) 100 5 64) <|
 .cons [6,65] (qs (fun b=>vP b 0) (fun u1=>[vI 0,vI 0,.slice none 0 0,.slice none 0 0,.slice none 0 0,.slice none 0 0]) 63 6 65) <|
 .cons [7,66] (qs (fun b=>vP b 0) (fun u1=>[vI 0]) 2 7 66) <|
 .cons [8,67] (qs (fun b=>vP b 0) (fun u1=>[vI 0]) 32 8 67)<|.nil) [3,4,5,6,7,8,59,60,61,62,63,64,65,66,67,999999] fun u1 a w' H=>?_
 refine qg qd H (.v 13 (vP ((u1 2).n 0) 7) <|
 .cons [14] (qf (vI a2.H) 14 64 7 1 ((u1 2).n 0) [vI a2.Ctrl.Order,vI a2.Ctrl.First,vI a2.Ctrl.Least,vI a2.Ctrl.Most,vI a2.Ctrl.Wide,vI a2.T,vI a2.Last,vI a2.H] 100) <|
 .v 15 (vP ((u1 2).n 0) 6) <|
 .cons [16] (qf (vI a2.Last) 16 64 6 1 ((u1 2).n 0) [vI a2.Ctrl.Order,vI a2.Ctrl.First,vI a2.Ctrl.Least,vI a2.Ctrl.Most,vI a2.Ctrl.Wide,vI a2.T,vI a2.Last,vI a2.H] 100) <|
 .v 17 (vP ((u1 2).n 0) 5) <|
 .cons [18] (qf (vI a2.T) 18 64 5 1 ((u1 2).n 0) [vI a2.Ctrl.Order,vI a2.Ctrl.First,vI a2.Ctrl.Least,vI a2.Ctrl.Most,vI a2.Ctrl.Wide,vI a2.T,vI a2.Last,vI a2.H] 100) <|
 .v 19 (vI (qc (a2.Last - a2.T))) <|
 .v 20 (vI (mn a2.H (qc (a2.Last - a2.T)))) <|
 .cons [9,68] (qs (fun b=>vP b 0) (fun u2=>[vI 0]) 2 9 68) <|
 .cons [68] (QL (u':=fun u2=>[(68,.blk ((u2 8).n 0) [vI (mn a2.H (qc (a2.Last - a2.T)))] 2)]) (qW 68 0 (fun u2=>((u2 8).n 0)) (fun u2=>[vI 0]) (fun u2=>[vI (mn a2.H (qc (a2.Last - a2.T)))]) 2) (fun _=>by kernel_rfl))<|.nil) [3,4,5,6,7,8,9,59,60,61,62,63,64,65,66,67,68,999999] fun u2 a w' H=>?_
 refine qv ?_
 refine qg qd H (.v 21 (vP ((u1 2).n 0) 0) <|
 .cons [22] (qf (.agg #[vI a2.Ctrl.Order,vI a2.Ctrl.First,vI a2.Ctrl.Least,vI a2.Ctrl.Most,vI a2.Ctrl.Wide]) 22 64 0 5 ((u1 2).n 0) [vI a2.Ctrl.Order,vI a2.Ctrl.First,vI a2.Ctrl.Least,vI a2.Ctrl.Most,vI a2.Ctrl.Wide,vI a2.T,vI a2.Last,vI a2.H] 100) <|
 .cons [23] (qf (vI (mn a2.H (qc (a2.Last - a2.T)))) 23 68 0 1 ((u2 8).n 0) [vI (mn a2.H (qc (a2.Last - a2.T)))] 2) <|
 .cons [24,69,70] (qaS 55 (fun u3=>#[.agg #[vI a2.Ctrl.Order,vI a2.Ctrl.First,vI a2.Ctrl.Least,vI a2.Ctrl.Most,vI a2.Ctrl.Wide],vI (mn a2.H (qc (a2.Last - a2.T)))]) (fun b1 b2=>.func (.func 76) #[] #[vP b2 0,vP b1 0]) [vI a2.Ctrl.Order,vI a2.Ctrl.First,vI a2.Ctrl.Least,vI a2.Ctrl.Most,vI a2.Ctrl.Wide] [vI (mn a2.H (qc (a2.Last - a2.T)))] 27 2 24 69 70 (fun _ w=>control_candidates.calls (⟨a2.Ctrl.Order,a2.Ctrl.First,a2.Ctrl.Least,a2.Ctrl.Most,a2.Ctrl.Wide⟩:qH) (mn a2.H (qc (a2.Last - a2.T))) w))<|.nil) [3,4,5,6,7,8,9,24,59,60,61,62,63,64,65,66,67,68,69,70,999999] fun u3 a w' H=>?_
 refine q6 ?_
 obtain ⟨t5,ht5,G⟩:=qP G
 refine qbQ ?_
 refine qai (γ:=Unit) (fun x _=>#[vI x]) (fun _ _=>[]) (fun x z=>[(25,sI x)]) t5 (· = ((u3 3).n 1)) [70] (fun w=>Xx [Xp ((u3 3).n 0) [vI a2.Ctrl.Order,vI a2.Ctrl.First,vI a2.Ctrl.Least,vI a2.Ctrl.Most,vI a2.Ctrl.Wide] 27] w) (fun W=>W.heap[((u3 3).n 1)]? = some (.cells [vI (mn a2.H (qc (a2.Last - a2.T)))].toArray 2 (0,0))) 71 72 73 0 _ (fun zs L=>QK.l6 k0 a0 a1 a2 zs=some r∧L=[(59,qB qk 5 p_a0_L c_a0_L a0.L qi),(60,qB qk 1 p_a0_Out c_a0_Out a0.Out Qn),(61,qB fr 2 p_a1 c_a1 a1 qa),(62,.blk ((u1 0).n 0) [vI a0.N,.slice p_a0_L a0.L.length c_a0_L,.slice p_a0_Out a0.Out.length c_a0_Out] 38),(63,.blk ((u1 1).n 0) [.slice p_a1 a1.length c_a1] 48),(64,.blk ((u1 2).n 0) [vI a2.Ctrl.Order,vI a2.Ctrl.First,vI a2.Ctrl.Least,vI a2.Ctrl.Most,vI a2.Ctrl.Wide,vI a2.T,vI a2.Last,vI a2.H] 100),(65,.blk ((u1 3).n 0) [vI 0,vI 0,.slice none 0 0,.slice none 0 0,.slice none 0 0,.slice none 0 0] 63),(66,.blk ((u1 4).n 0) [vI 0] 2),(67,.blk ((u1 5).n 0) [vI 0] 32),(68,.blk ((u2 8).n 0) [vI (mn a2.H (qc (a2.Last - a2.T)))] 2),(69,.blk ((u3 3).n 0) [vI a2.Ctrl.Order,vI a2.Ctrl.First,vI a2.Ctrl.Least,vI a2.Ctrl.Most,vI a2.Ctrl.Wide] 27),(999999,gk)]) (fun L=>∃ (p_r_1_From:Option Addr) (c_r_1_From np_r_1_From:Nat),np_r_1_From=r.1.From.length ∧ ∃ (p_r_1_Pre:Option Addr) (c_r_1_Pre np_r_1_Pre:Nat),np_r_1_Pre=r.1.Pre.length ∧ ∃ (p_r_1_Tube:Option Addr) (c_r_1_Tube np_r_1_Tube:Nat),np_r_1_Tube=r.1.Tube.length ∧ ∃ (p_r_1_To:Option Addr) (c_r_1_To np_r_1_To:Nat),np_r_1_To=r.1.To.length∧L=[(65,.blk ((u1 3).n 0) [vI r.1.T,vI r.1.H,.slice p_r_1_From np_r_1_From c_r_1_From,.slice p_r_1_Pre np_r_1_Pre c_r_1_Pre,.slice p_r_1_Tube np_r_1_Tube c_r_1_Tube,.slice p_r_1_To np_r_1_To c_r_1_To] 63),(66,.blk ((u1 4).n 0) [vI r.2.1] 2),(67,.blk ((u1 5).n 0) [vI r.2.2] 32),(76,YZ fr 2 p_r_1_From np_r_1_From c_r_1_From (r.1.From.flatMap qa)),(77,YZ fr 2 p_r_1_Pre np_r_1_Pre c_r_1_Pre (r.1.Pre.flatMap qa)),(78,YZ fr 2 p_r_1_Tube np_r_1_Tube c_r_1_Tube (r.1.Tube.flatMap qa)),(79,YZ fr 2 p_r_1_To np_r_1_To c_r_1_To (r.1.To.flatMap qa)),(999999,gk)]) (fun _=>False) [(59,qB qk 5 p_a0_L c_a0_L a0.L qi),(60,qB qk 1 p_a0_Out c_a0_Out a0.Out Qn),(61,qB fr 2 p_a1 c_a1 a1 qa),(62,.blk ((u1 0).n 0) [vI a0.N,.slice p_a0_L a0.L.length c_a0_L,.slice p_a0_Out a0.Out.length c_a0_Out] 38),(63,.blk ((u1 1).n 0) [.slice p_a1 a1.length c_a1] 48),(64,.blk ((u1 2).n 0) [vI a2.Ctrl.Order,vI a2.Ctrl.First,vI a2.Ctrl.Least,vI a2.Ctrl.Most,vI a2.Ctrl.Wide,vI a2.T,vI a2.Last,vI a2.H] 100),(65,.blk ((u1 3).n 0) [vI 0,vI 0,.slice none 0 0,.slice none 0 0,.slice none 0 0,.slice none 0 0] 63),(66,.blk ((u1 4).n 0) [vI 0] 2),(67,.blk ((u1 5).n 0) [vI 0] 32),(68,.blk ((u2 8).n 0) [vI (mn a2.H (qc (a2.Last - a2.T)))] 2),(69,.blk ((u3 3).n 0) [vI a2.Ctrl.Order,vI a2.Ctrl.First,vI a2.Ctrl.Least,vI a2.Ctrl.Most,vI a2.Ctrl.Wide] 27),(999999,gk)] H (by kernel_rfl) (by kernel_rfl) (Wn Tryz.func76 (by kernel_rfl) rfl) (qZ.ok k0 (mn a2.H (qc (a2.Last - a2.T))) (⟨a2.Ctrl.Order,a2.Ctrl.First,a2.Ctrl.Least,a2.Ctrl.Most,a2.Ctrl.Wide⟩:qH) ((u3 3).n 1) ((u3 3).n 0) _ (fun e=>H.disj 69 70 _ (by decide) trivial rfl e) t5  ht5) (fun x=>qgr 25 (fun z:Unit=>vI x) (by rfl)) rfl (fun i hi=>⟨70,by simp,trivial,hi⟩) (fun W h=>h.holds 70) ⟨G,rfl⟩ (by kernel_rfl) (by kernel_rfl) (by kernel_rfl) (by kernel_rfl) (by kernel_rfl) (by kernel_rfl) (by rintro zs L ⟨G,rfl⟩ x hx; simp only [List.mem_cons,List.not_mem_nil,or_false] at hx; rcases hx with rfl | rfl | rfl | rfl | rfl | rfl | rfl | rfl | rfl | rfl | rfl | rfl; all_goals exact ⟨by simp,fun i hi=>hi⟩) (by rintro zs L a w ⟨G,rfl⟩ h; have hF:Xx [.blk ((u3 3).n 0) [vI a2.Ctrl.Order,vI a2.Ctrl.First,vI a2.Ctrl.Least,vI a2.Ctrl.Most,vI a2.Ctrl.Wide] 27] w:=⟨h.at (K:=.blk ((u3 3).n 0) [vI a2.Ctrl.Order,vI a2.Ctrl.First,vI a2.Ctrl.Least,vI a2.Ctrl.Most,vI a2.Ctrl.Wide] 27) 69 (by kernel_rfl),trivial⟩; exact ⟨(QV hF.1 0).2.1,trivial⟩) ?_ ?_ ?_ ?_
 ·clear H G; rintro li Di bi oR oD Wi x z zs L a w' hbi ⟨G,rfl⟩ H
  unfold QK.l6 at G
  replace H:=H.kp [3,4,5,6,7,8,9,25,59,60,61,62,63,64,65,66,67,68,69,999999,71,72,73]
  refine YQ qd H (.v 10 (vI x)<|.nil) (by kernel_rfl) (by kernel_rfl) fun u7 a w' H=>?_
  replace H:=H.kp [3,4,5,6,7,8,9,10,59,60,61,62,63,64,65,66,67,68,69,999999,71,72,73]
  refine ⟨_,H,by kernel_rfl,fun oB w' H=>?_⟩
  replace H:=H.kp [3,4,5,6,7,8,9,10,59,60,61,62,63,64,65,66,67,68,69,999999,71,72,73]
  refine Jr ?_
  refine YA ?_
  obtain ⟨t9,ht9,G⟩:=qP G
  refine YQ qd H (.cons [27] (qf (.agg #[vI a0.N,.slice p_a0_L a0.L.length c_a0_L,.slice p_a0_Out a0.Out.length c_a0_Out]) 27 62 0 3 ((u1 0).n 0) [vI a0.N,.slice p_a0_L a0.L.length c_a0_L,.slice p_a0_Out a0.Out.length c_a0_Out] 38) <|
 .cons [28] (qf (.slice p_a1 a1.length c_a1) 28 63 0 1 ((u1 1).n 0) [.slice p_a1 a1.length c_a1] 48) <|
 .v 29 (vP ((u1 2).n 0) 5) <|
 .cons [30] (qf (vI a2.T) 30 64 5 1 ((u1 2).n 0) [vI a2.Ctrl.Order,vI a2.Ctrl.First,vI a2.Ctrl.Least,vI a2.Ctrl.Most,vI a2.Ctrl.Wide,vI a2.T,vI a2.Last,vI a2.H] 100) <|
 .v 31 (vI x) <|
 .v 32 (.agg #[vI a2.T,vI x]) <|
 .v 33 (vP ((u1 2).n 0) 0) <|
 .v 34 (vP ((u1 2).n 0) 0) <|
 .cons [35] (qf (vI a2.Ctrl.Order) 35 64 0 1 ((u1 2).n 0) [vI a2.Ctrl.Order,vI a2.Ctrl.First,vI a2.Ctrl.Least,vI a2.Ctrl.Most,vI a2.Ctrl.Wide,vI a2.T,vI a2.Last,vI a2.H] 100) <|
 .cons [36,80,81,82,83] (QI true fr [] [59,60,61,999999] (fun u8=>[qB qk 5 p_a0_L c_a0_L a0.L qi,qB qk 1 p_a0_Out c_a0_Out a0.Out Qn,qB fr 2 p_a1 c_a1 a1 qa,gk]) [] (fun u8=>[]) 56 _ _ _ _ _ [80,81,82,83] 36 (fun u8 w hB hF hM=>XB.calls k0 (⟨a0.N,a0.L,a0.Out⟩:QE) a1 (⟨a2.T,x⟩:Q6) a2.Ctrl.Order p_a0_L c_a0_L p_a0_Out c_a0_Out p_a1 c_a1 t9 w  hB hF ht9) (fun u8 w hF=>⟨⟨q9 (qj hF.1) (fun j h=>⟨_,(.head _),h⟩),q9 (qj hF.2.1) (fun j h=>⟨_,(.tail _ (.head _)),h⟩),Z6 hF.2.2.2.1 (.tail _ (.tail _ (.tail _ (.head _)))),trivial⟩,⟨Zx (qj hF.2.2.1) (fun j h=>ZN (.tail _ (.tail _ (.head _))) (fun h=>h) h (Y7 hF.2.2.1 _ h)),trivial⟩⟩) (fun u8 g=>(ql (QZ (by decide)) (ql (QZ (by decide)) (ql (QZ (by decide)) (ql (QZ (by decide)) qC))))) (.inl rfl) (fun _=>hBf)) <|
 .cons [26] (qn (fun u8=>.tuple #[.agg #[vI t9.1.T,vI t9.1.H,.slice ((u8 9).o 0) t9.1.From.length ((u8 9).n 0),.slice ((u8 9).o 1) t9.1.Pre.length ((u8 9).n 1),.slice ((u8 9).o 2) t9.1.Tube.length ((u8 9).n 2),.slice ((u8 9).o 3) t9.1.To.length ((u8 9).n 3)],.bool t9.2]) 26) <|
 .cons [37] (qn (fun u8=>.agg #[vI t9.1.T,vI t9.1.H,.slice ((u8 9).o 0) t9.1.From.length ((u8 9).n 0),.slice ((u8 9).o 1) t9.1.Pre.length ((u8 9).n 1),.slice ((u8 9).o 2) t9.1.Tube.length ((u8 9).n 2),.slice ((u8 9).o 3) t9.1.To.length ((u8 9).n 3)]) 37) <|
 .v 38 (.bool t9.2) <|
 .cons [11,84] (qs (fun b=>vP b 0) (fun u8=>[vI 0,vI 0,.slice none 0 0,.slice none 0 0,.slice none 0 0,.slice none 0 0]) 63 11 84) <|
 .cons [84] (QL (u':=fun u8=>[(84,.blk ((u8 13).n 0) [vI t9.1.T,vI t9.1.H,.slice ((u8 9).o 0) t9.1.From.length ((u8 9).n 0),.slice ((u8 9).o 1) t9.1.Pre.length ((u8 9).n 1),.slice ((u8 9).o 2) t9.1.Tube.length ((u8 9).n 2),.slice ((u8 9).o 3) t9.1.To.length ((u8 9).n 3)] 63)]) (qW 84 0 (fun u8=>((u8 13).n 0)) (fun u8=>[vI 0,vI 0,.slice none 0 0,.slice none 0 0,.slice none 0 0,.slice none 0 0]) (fun u8=>[vI t9.1.T,vI t9.1.H,.slice ((u8 9).o 0) t9.1.From.length ((u8 9).n 0),.slice ((u8 9).o 1) t9.1.Pre.length ((u8 9).n 1),.slice ((u8 9).o 2) t9.1.Tube.length ((u8 9).n 2),.slice ((u8 9).o 3) t9.1.To.length ((u8 9).n 3)]) 63) (fun _=>by kernel_rfl)) <|
 .v 12 (.bool t9.2)<|.nil) (by kernel_rfl) (by kernel_rfl) fun u8 a w' H=>?_
  replace H:=H.kp [3,4,5,6,7,8,9,10,11,12,59,60,61,62,63,64,65,66,67,68,69,80,81,82,83,84,999999,71,72,73]
  refine YA ?_
  refine YA ?_
  obtain ⟨t11,ht11,G⟩:=qP G
  refine YQ qd H (.v 39 (.bool t9.2) <|
 .v 40 (.bool (!t9.2)) <|
 .v 41 (.bool (!t9.2)) <|
 .cons [42] (qQ (fun u10=>vP ((u1 2).n 0) 0) (fun u10=>((!t9.2) == false)) [true] 42) <|
 .cons [43] (YS (fun u10=>.agg #[vI a2.Ctrl.Order,vI a2.Ctrl.First,vI a2.Ctrl.Least,vI a2.Ctrl.Most,vI a2.Ctrl.Wide]) (fun u10=>((!t9.2) == false)) [false] 43 64 0 5 (fun u10=>((u1 2).n 0)) (fun u10=>[vI a2.Ctrl.Order,vI a2.Ctrl.First,vI a2.Ctrl.Least,vI a2.Ctrl.Most,vI a2.Ctrl.Wide,vI a2.T,vI a2.Last,vI a2.H]) 100) <|
 .cons [44] (YS (fun u10=>.agg #[vI t9.1.T,vI t9.1.H,.slice ((u8 9).o 0) t9.1.From.length ((u8 9).n 0),.slice ((u8 9).o 1) t9.1.Pre.length ((u8 9).n 1),.slice ((u8 9).o 2) t9.1.Tube.length ((u8 9).n 2),.slice ((u8 9).o 3) t9.1.To.length ((u8 9).n 3)]) (fun u10=>((!t9.2) == false)) [true] 44 84 0 6 (fun u10=>((u8 13).n 0)) (fun u10=>[vI t9.1.T,vI t9.1.H,.slice ((u8 9).o 0) t9.1.From.length ((u8 9).n 0),.slice ((u8 9).o 1) t9.1.Pre.length ((u8 9).n 1),.slice ((u8 9).o 2) t9.1.Tube.length ((u8 9).n 2),.slice ((u8 9).o 3) t9.1.To.length ((u8 9).n 3)]) 63) <|
 .cons [45] (Wp [80,81,82,83] (fun u10=>[YZ fr 2 ((u8 9).o 0) t9.1.From.length ((u8 9).n 0) (t9.1.From.flatMap qa),YZ fr 2 ((u8 9).o 1) t9.1.Pre.length ((u8 9).n 1) (t9.1.Pre.flatMap qa),YZ fr 2 ((u8 9).o 2) t9.1.Tube.length ((u8 9).n 2) (t9.1.Tube.flatMap qa),YZ fr 2 ((u8 9).o 3) t9.1.To.length ((u8 9).n 3) (t9.1.To.flatMap qa)]) 57 (fun u10=>#[.agg #[vI a2.Ctrl.Order,vI a2.Ctrl.First,vI a2.Ctrl.Least,vI a2.Ctrl.Most,vI a2.Ctrl.Wide],.agg #[vI t9.1.T,vI t9.1.H,.slice ((u8 9).o 0) t9.1.From.length ((u8 9).n 0),.slice ((u8 9).o 1) t9.1.Pre.length ((u8 9).n 1),.slice ((u8 9).o 2) t9.1.Tube.length ((u8 9).n 2),.slice ((u8 9).o 3) t9.1.To.length ((u8 9).n 3)]]) (.bool t11) (fun u10=>((!t9.2) == false)) [true,false,false] 45 (fun u10 w hg hF=>Yx.calls k0 (⟨a2.Ctrl.Order,a2.Ctrl.First,a2.Ctrl.Least,a2.Ctrl.Most,a2.Ctrl.Wide⟩:qH) (⟨t9.1.T,t9.1.H,t9.1.From,t9.1.Pre,t9.1.Tube,t9.1.To⟩:Qc) ((u8 9).o 0) ((u8 9).n 0) ((u8 9).o 1) ((u8 9).n 1) ((u8 9).o 2) ((u8 9).n 2) ((u8 9).o 3) ((u8 9).n 3) t11 w  ⟨(Z9 (qj hF.1)),(Z9 (qj hF.2.1)),(Z9 (qj hF.2.2.1)),(Z9 (qj hF.2.2.2.1)),trivial⟩ (ifp ht11 hg))) <|
 .cons [46] (qQ (fun u10=>.bool (!t11)) (fun u10=>((!t9.2) == false)) [false] 46) <|
 .cons [47] (ZM 41 46 (fun u10=>true) (fun u10=>true) (fun u10=>(!t9.2)) (fun u10=>(!t11)) 47)<|.nil) (by kernel_rfl) (by kernel_rfl) fun u10 a w' H=>?_
  replace H:=H.kp [3,4,5,6,7,8,9,10,11,47,59,60,61,62,63,64,65,66,67,68,69,80,81,82,83,84,999999,71,72,73]
  refine Ve H (by kernel_rfl) (t:=((!t9.2) || (!t11))) (by kernel_rfl) (fun c19=>?_) (fun c19=>?_)
  ·rw [if_pos c19] at G
   refine Wr rfl ?_
   exact ⟨_,⟨G,rfl⟩,by kernel_rfl,H.toM _⟩
  ·rw [if_neg (nt c19)] at G
   refine JB ?_
   refine YA ?_
   obtain ⟨j13,hj13,G⟩:=qP G
   refine qfU (fun a w'=>RL w 59 [(3,(sP ((u1 0).n 0) 0)),(4,(sP ((u1 1).n 0) 0)),(5,(sP ((u1 2).n 0) 0)),(6,(sP ((u1 3).n 0) 0)),(7,(sP ((u1 4).n 0) 0)),(8,(sP ((u1 5).n 0) 0)),(9,(sP ((u2 8).n 0) 0)),(10,sI j13),(11,(sP ((u8 13).n 0) 0)),(59,qB qk 5 p_a0_L c_a0_L a0.L qi),(60,qB qk 1 p_a0_Out c_a0_Out a0.Out Qn),(61,qB fr 2 p_a1 c_a1 a1 qa),(62,.blk ((u1 0).n 0) [vI a0.N,.slice p_a0_L a0.L.length c_a0_L,.slice p_a0_Out a0.Out.length c_a0_Out] 38),(63,.blk ((u1 1).n 0) [.slice p_a1 a1.length c_a1] 48),(64,.blk ((u1 2).n 0) [vI a2.Ctrl.Order,vI a2.Ctrl.First,vI a2.Ctrl.Least,vI a2.Ctrl.Most,vI a2.Ctrl.Wide,vI a2.T,vI a2.Last,vI a2.H] 100),(65,.blk ((u1 3).n 0) [vI 0,vI 0,.slice none 0 0,.slice none 0 0,.slice none 0 0,.slice none 0 0] 63),(66,.blk ((u1 4).n 0) [vI 0] 2),(67,.blk ((u1 5).n 0) [vI 0] 32),(68,.blk ((u2 8).n 0) [vI (mn a2.H (qc (a2.Last - a2.T)))] 2),(69,.blk ((u3 3).n 0) [vI a2.Ctrl.Order,vI a2.Ctrl.First,vI a2.Ctrl.Least,vI a2.Ctrl.Most,vI a2.Ctrl.Wide] 27),(80,YZ fr 2 ((u8 9).o 0) t9.1.From.length ((u8 9).n 0) (t9.1.From.flatMap qa)),(81,YZ fr 2 ((u8 9).o 1) t9.1.Pre.length ((u8 9).n 1) (t9.1.Pre.flatMap qa)),(82,YZ fr 2 ((u8 9).o 2) t9.1.Tube.length ((u8 9).n 2) (t9.1.Tube.flatMap qa)),(83,YZ fr 2 ((u8 9).o 3) t9.1.To.length ((u8 9).n 3) (t9.1.To.flatMap qa)),(84,.blk ((u8 13).n 0) [vI t9.1.T,vI t9.1.H,.slice ((u8 9).o 0) t9.1.From.length ((u8 9).n 0),.slice ((u8 9).o 1) t9.1.Pre.length ((u8 9).n 1),.slice ((u8 9).o 2) t9.1.Tube.length ((u8 9).n 2),.slice ((u8 9).o 3) t9.1.To.length ((u8 9).n 3)] 63),(999999,gk),(71,JR li oB),(72,JR Di oD),(73,keO (· = ((u3 3).n 1)) bi Wi)] a w') ?_ ?_
   ·clear H; intro a w' H
    refine YA ?_
    obtain ⟨t15,ht15,G⟩:=qP G
    refine YQ qd H (.cons [53] (qf (.agg #[vI t9.1.T,vI t9.1.H,.slice ((u8 9).o 0) t9.1.From.length ((u8 9).n 0),.slice ((u8 9).o 1) t9.1.Pre.length ((u8 9).n 1),.slice ((u8 9).o 2) t9.1.Tube.length ((u8 9).n 2),.slice ((u8 9).o 3) t9.1.To.length ((u8 9).n 3)]) 53 84 0 6 ((u8 13).n 0) [vI t9.1.T,vI t9.1.H,.slice ((u8 9).o 0) t9.1.From.length ((u8 9).n 0),.slice ((u8 9).o 1) t9.1.Pre.length ((u8 9).n 1),.slice ((u8 9).o 2) t9.1.Tube.length ((u8 9).n 2),.slice ((u8 9).o 3) t9.1.To.length ((u8 9).n 3)] 63) <|
 .v 54 (vP ((u1 2).n 0) 0) <|
 .cons [55] (qf (.agg #[vI a2.Ctrl.Order,vI a2.Ctrl.First,vI a2.Ctrl.Least,vI a2.Ctrl.Most,vI a2.Ctrl.Wide]) 55 64 0 5 ((u1 2).n 0) [vI a2.Ctrl.Order,vI a2.Ctrl.First,vI a2.Ctrl.Least,vI a2.Ctrl.Most,vI a2.Ctrl.Wide,vI a2.T,vI a2.Last,vI a2.H] 100) <|
 .v 56 (vI j13) <|
 .cons [57] (qq 58 _ _ 57 [] (fun u14 w _=>ZY.calls (⟨a2.Ctrl.Order,a2.Ctrl.First,a2.Ctrl.Least,a2.Ctrl.Most,a2.Ctrl.Wide⟩:qH) j13  t15 w  ht15)) <|
 .cons [65] (Qa 65 0 ((u1 3).n 0) [vI 0,vI 0,.slice none 0 0,.slice none 0 0,.slice none 0 0,.slice none 0 0] [vI t9.1.T,vI t9.1.H,.slice ((u8 9).o 0) t9.1.From.length ((u8 9).n 0),.slice ((u8 9).o 1) t9.1.Pre.length ((u8 9).n 1),.slice ((u8 9).o 2) t9.1.Tube.length ((u8 9).n 2),.slice ((u8 9).o 3) t9.1.To.length ((u8 9).n 3)] 63 [vI t9.1.T,vI t9.1.H,.slice ((u8 9).o 0) t9.1.From.length ((u8 9).n 0),.slice ((u8 9).o 1) t9.1.Pre.length ((u8 9).n 1),.slice ((u8 9).o 2) t9.1.Tube.length ((u8 9).n 2),.slice ((u8 9).o 3) t9.1.To.length ((u8 9).n 3)]) <|
 .cons [66] (Qa 66 0 ((u1 4).n 0) [vI 0] [vI t15] 2 [vI t15]) <|
 .cons [67] (Qa 67 0 ((u1 5).n 0) [vI 0] [vI 0] 32 [vI 0])<|.nil) (by kernel_rfl) (by kernel_rfl) fun u14 a w' H=>?_
    replace H:=H.kp [3,4,5,6,7,8,9,59,60,61,62,63,64,65,66,67,68,69,80,81,82,83,999999,71,72,73]
    refine Vn ?_
    obtain rfl:=sj G
    replace H:=H.dup (K:=YZ fr 2 ((u8 9).o 0) t9.1.From.length ((u8 9).n 0) (t9.1.From.flatMap qa)) 80 76 (by kernel_rfl) (fun h=>h) (by intro _ _ h; cases h)
    replace H:=H.dup (K:=YZ fr 2 ((u8 9).o 1) t9.1.Pre.length ((u8 9).n 1) (t9.1.Pre.flatMap qa)) 81 77 (by kernel_rfl) (fun h=>h) (by intro _ _ h; cases h)
    replace H:=H.dup (K:=YZ fr 2 ((u8 9).o 2) t9.1.Tube.length ((u8 9).n 2) (t9.1.Tube.flatMap qa)) 82 78 (by kernel_rfl) (fun h=>h) (by intro _ _ h; cases h)
    replace H:=H.dup (K:=YZ fr 2 ((u8 9).o 3) t9.1.To.length ((u8 9).n 3) (t9.1.To.flatMap qa)) 83 79 (by kernel_rfl) (fun h=>h) (by intro _ _ h; cases h)
    exact ⟨_,⟨((u8 9).o 0),((u8 9).n 0),t9.1.From.length,rfl,((u8 9).o 1),((u8 9).n 1),t9.1.Pre.length,rfl,((u8 9).o 2),((u8 9).n 2),t9.1.Tube.length,rfl,((u8 9).o 3),((u8 9).n 3),t9.1.To.length,rfl,rfl⟩,by kernel_rfl,H.toM _⟩
   ·clear G; replace G:=hj13; clear hj13
    refine YA ?_
    refine YQ qd H (.v 48 (vI x) <|
 .cons [49] (qf (vI (mn a2.H (qc (a2.Last - a2.T)))) 49 68 0 1 ((u2 8).n 0) [vI (mn a2.H (qc (a2.Last - a2.T)))] 2) <|
 .v 50 (.bool (x == (mn a2.H (qc (a2.Last - a2.T)))))<|.nil) (by kernel_rfl) (by kernel_rfl) fun u16 a w' H=>?_
    replace H:=H.kp [3,4,5,6,7,8,9,10,11,50,59,60,61,62,63,64,65,66,67,68,69,80,81,82,83,84,999999,71,72,73]
    refine Ve H (by kernel_rfl) (t:=(x == (mn a2.H (qc (a2.Last - a2.T))))) (by kernel_rfl) (fun c18=>?_) (fun c18=>?_)
    ·rw [if_pos c18] at G
     refine YQ qd H (.v 51 (vP ((u1 2).n 0) 7) <|
 .cons [52] (qf (vI a2.H) 52 64 7 1 ((u1 2).n 0) [vI a2.Ctrl.Order,vI a2.Ctrl.First,vI a2.Ctrl.Least,vI a2.Ctrl.Most,vI a2.Ctrl.Wide,vI a2.T,vI a2.Last,vI a2.H] 100) <|
 .v 10 (vI a2.H)<|.nil) (by kernel_rfl) (by kernel_rfl) fun u17 a w' H=>?_
     replace H:=H.kp [3,4,5,6,7,8,9,10,11,59,60,61,62,63,64,65,66,67,68,69,80,81,82,83,84,999999,71,72,73]
     obtain rfl:=sj G
     exact H.toM _
    ·rw [if_neg (nt c18)] at G
     refine JB ?_
     obtain rfl:=sj G
     exact H.toM _
 ·clear H G; rintro Di L W ⟨G,rfl⟩ H
  unfold QK.l6 at G
  replace H:=H.kp [3,4,5,6,7,8,9,59,60,61,62,63,64,65,66,67,68,69,999999,72]
  refine WR ?_
  refine YA ?_
  refine YQ qd H (.v 58 (.agg #[vI 0,vI 0,.slice none 0 0,.slice none 0 0,.slice none 0 0,.slice none 0 0]) <|
 .cons [65] (Qa 65 0 ((u1 3).n 0) [vI 0,vI 0,.slice none 0 0,.slice none 0 0,.slice none 0 0,.slice none 0 0] [vI 0,vI 0,.slice none 0 0,.slice none 0 0,.slice none 0 0,.slice none 0 0] 63 [vI 0,vI 0,.slice none 0 0,.slice none 0 0,.slice none 0 0,.slice none 0 0]) <|
 .cons [66] (Qa 66 0 ((u1 4).n 0) [vI 0] [vI 0] 2 [vI 0]) <|
 .cons [67] (Qa 67 0 ((u1 5).n 0) [vI 0] [vI 130] 32 [vI 130])<|.nil) (by kernel_rfl) (by kernel_rfl) fun u20 a w' H=>?_
  replace H:=H.kp [6,7,8,65,66,67,999999,72]
  refine Vn ?_
  obtain rfl:=sj G
  replace H:=H.nil_row 89 46 2
  replace H:=H.demote fr 89 46 2 none 0 0 (([]:List qb).flatMap qa) (by kernel_rfl) (by decide) hBf
  replace H:=H.nil_row 90 46 2
  replace H:=H.demote fr 90 46 2 none 0 0 (([]:List qb).flatMap qa) (by kernel_rfl) (by decide) hBf
  replace H:=H.nil_row 91 46 2
  replace H:=H.demote fr 91 46 2 none 0 0 (([]:List qb).flatMap qa) (by kernel_rfl) (by decide) hBf
  replace H:=H.nil_row 92 46 2
  replace H:=H.demote fr 92 46 2 none 0 0 (([]:List qb).flatMap qa) (by kernel_rfl) (by decide) hBf
  obtain ⟨g,o0,n0,o1,n1,o2,n2,o3,n3⟩:∃ g:Gh,g.o 0=none∧g.n 0=0∧g.o 1=none∧g.n 1=0∧g.o 2=none∧g.n 2=0∧g.o 3=none∧g.n 3=0:=⟨⟨fun i=>[0,0,0,0].getD i 0,fun i=>[none,none,none,none].getD i none,fun i=>([⟨Unit,()⟩,⟨Unit,()⟩,⟨Unit,()⟩,⟨Unit,()⟩]:List ((T:Type) × T)).getD i ⟨Unit,()⟩⟩,rfl,rfl,rfl,rfl,rfl,rfl,rfl,rfl⟩
  refine Wo 72 H (by kernel_rfl) fun w' H=>?_
  refine QR H _ g _ _ _ fr [89,90,91,92] [(65,⟨((u1 3).n 0),[vI 0,vI 0,.slice none 0 0,.slice none 0 0,.slice none 0 0,.slice none 0 0],0,6⟩),(66,⟨((u1 4).n 0),[vI 0],0,1⟩),(67,⟨((u1 5).n 0),[vI 130],0,1⟩)] (.tuple #[.agg #[vI 0,vI 0,.slice none 0 0,.slice none 0 0,.slice none 0 0,.slice none 0 0],vI 0,vI 130]) [fun fr=>YZ fr 2 none 0 0 (([]:List qb).flatMap qa),fun fr=>YZ fr 2 none 0 0 (([]:List qb).flatMap qa),fun fr=>YZ fr 2 none 0 0 (([]:List qb).flatMap qa),fun fr=>YZ fr 2 none 0 0 (([]:List qb).flatMap qa)] (by simp only [Qm,o0,n0,o1,n1,o2,n2,o3,n3,List.length_set,List.length_cons,List.length_nil,Nat.zero_add,Nat.reduceAdd]) (by simp only [Qm,o0,n0,o1,n1,o2,n2,o3,n3,List.length_set,List.length_cons,List.length_nil,Nat.zero_add,Nat.reduceAdd]) hfr (.inl ⟨rfl,rfl⟩) (ql (QZ (by decide)) (ql (QZ (by decide)) (ql (QZ (by decide)) (ql (QZ (by decide)) qC)))) (by intro p hp; simp only [List.mem_cons,List.not_mem_nil,or_false] at hp; rcases hp with rfl | rfl | rfl; exact ⟨⟨63,by kernel_rfl⟩,by kernel_rfl⟩; exact ⟨⟨2,by kernel_rfl⟩,by kernel_rfl⟩; exact ⟨⟨32,by kernel_rfl⟩,by kernel_rfl⟩)
 ·clear H G; rintro Di L W ⟨p_r_1_From,c_r_1_From,_,rfl,p_r_1_Pre,c_r_1_Pre,_,rfl,p_r_1_Tube,c_r_1_Tube,_,rfl,p_r_1_To,c_r_1_To,_,rfl,rfl⟩ H
  replace H:=H.kp [6,7,8,65,66,67,76,77,78,79,999999,72]
  obtain ⟨g,o0,n0,o1,n1,o2,n2,o3,n3⟩:∃ g:Gh,g.o 0=p_r_1_From∧g.n 0=c_r_1_From∧g.o 1=p_r_1_Pre∧g.n 1=c_r_1_Pre∧g.o 2=p_r_1_Tube∧g.n 2=c_r_1_Tube∧g.o 3=p_r_1_To∧g.n 3=c_r_1_To:=⟨⟨fun i=>[c_r_1_From,c_r_1_Pre,c_r_1_Tube,c_r_1_To].getD i 0,fun i=>[p_r_1_From,p_r_1_Pre,p_r_1_Tube,p_r_1_To].getD i none,fun i=>([⟨Unit,()⟩,⟨Unit,()⟩,⟨Unit,()⟩,⟨Unit,()⟩]:List ((T:Type) × T)).getD i ⟨Unit,()⟩⟩,rfl,rfl,rfl,rfl,rfl,rfl,rfl,rfl⟩
  refine Wo 72 H (by kernel_rfl) fun w' H=>?_
  refine QR H _ g _ _ _ fr [76,77,78,79] [(65,⟨((u1 3).n 0),[vI r.1.T,vI r.1.H,.slice p_r_1_From r.1.From.length c_r_1_From,.slice p_r_1_Pre r.1.Pre.length c_r_1_Pre,.slice p_r_1_Tube r.1.Tube.length c_r_1_Tube,.slice p_r_1_To r.1.To.length c_r_1_To],0,6⟩),(66,⟨((u1 4).n 0),[vI r.2.1],0,1⟩),(67,⟨((u1 5).n 0),[vI r.2.2],0,1⟩)] (.tuple #[.agg #[vI r.1.T,vI r.1.H,.slice p_r_1_From r.1.From.length c_r_1_From,.slice p_r_1_Pre r.1.Pre.length c_r_1_Pre,.slice p_r_1_Tube r.1.Tube.length c_r_1_Tube,.slice p_r_1_To r.1.To.length c_r_1_To],vI r.2.1,vI r.2.2]) [fun fr=>qB fr 2 p_r_1_From c_r_1_From r.1.From qa,fun fr=>qB fr 2 p_r_1_Pre c_r_1_Pre r.1.Pre qa,fun fr=>qB fr 2 p_r_1_Tube c_r_1_Tube r.1.Tube qa,fun fr=>qB fr 2 p_r_1_To c_r_1_To r.1.To qa] (by simp only [Qm,o0,n0,o1,n1,o2,n2,o3,n3]) (by simp only [Qm,o0,n0,o1,n1,o2,n2,o3,n3]) hfr (.inl ⟨rfl,rfl⟩) (ql (QZ (by decide)) (ql (QZ (by decide)) (ql (QZ (by decide)) (ql (QZ (by decide)) qC)))) (by intro p hp; simp only [List.mem_cons,List.not_mem_nil,or_false] at hp; rcases hp with rfl | rfl | rfl; exact ⟨⟨63,by kernel_rfl⟩,by kernel_rfl⟩; exact ⟨⟨2,by kernel_rfl⟩,by kernel_rfl⟩; exact ⟨⟨32,by kernel_rfl⟩,by kernel_rfl⟩)
 ·clear H G; rintro Di L W h H; exact h.elim
theorem qY.calls (k0:Nat) (a0:QE) (a1:List qb) (a2:Zu) (p_a0_L:Option Addr) (c_a0_L:Nat) (p_a0_Out:Option Addr) (c_a0_Out:Nat) (p_a1:Option Addr) (c_a1:Nat) (r:List Qc × Int) (w:World) (hB:Xx [qB qk 5 p_a0_L c_a0_L a0.L qi,qB qk 1 p_a0_Out c_a0_Out a0.Out Qn,gk] w) (hF:Xx [qB qk 2 p_a1 c_a1 a1 qa] w) (G:qY k0 a0 a1 a2=some r) :
  Calls Tryz.prog 11 #[.agg #[vI a0.N,.slice p_a0_L a0.L.length c_a0_L,.slice p_a0_Out a0.Out.length c_a0_Out],.slice p_a1 a1.length c_a1,.agg #[vI a2.Ctrl.Order,vI a2.Ctrl.First,vI a2.Ctrl.Least,vI a2.Ctrl.Most,vI a2.Ctrl.Wide,vI a2.T,vI a2.Last]] w fun e w'=>∃ g:Gh,e = .returned (.tuple #[slgd_TSegment g 0 r.1,vI r.2])∧Zg (Y4 []) w w'∧Ys w.heap.size (Y4 []) (JH w.heap.size [qB qk 2 p_a1 c_a1 a1 qa]) [fun _=>Qm 63 6 (g.o 0) (g.n 0) (dlgd_TSegment g 0 r.1) qo,fun fr=>X7 fr qX.toPart (dlgd_TSegment g 0 r.1)] w':=by
 obtain ⟨fr,hfr,hBf⟩:=VE w [qB qk 2 p_a1 c_a1 a1 qa]
 refine QO (args:=[.agg #[vI a0.N,.slice p_a0_L a0.L.length c_a0_L,.slice p_a0_Out a0.Out.length c_a0_Out],.slice p_a1 a1.length c_a1,.agg #[vI a2.Ctrl.Order,vI a2.Ctrl.First,vI a2.Ctrl.Least,vI a2.Ctrl.Most,vI a2.Ctrl.Wide,vI a2.T,vI a2.Last]]) 90 [(90,qB qk 5 p_a0_L c_a0_L a0.L qi),(91,qB qk 1 p_a0_Out c_a0_Out a0.Out Qn),(999999,gk),(92,qB fr 2 p_a1 c_a1 a1 qa)] (by
  intro x hx
  simp only [List.mem_cons,List.not_mem_nil,or_false] at hx
  rcases hx with rfl | rfl | rfl | rfl
  ·exact qy (qj hB.1) (fun _ _=>trivial) (by decide) _
  ·exact qy (qj hB.2.1) (fun _ _=>trivial) (by decide) _
  ·exact ⟨⟨_,_,rfl⟩,hB.2.2.1,Yl (QM hB.2.2.1)⟩
  ·exact qy (qj hF.1) (fun j h=>by rw [hfr]; exact .inr ⟨_,(.head _),h⟩) (by decide) _) Tryz.func11 rfl (by kernel_rfl) (by kernel_rfl) fun a H=>?_
 unfold qY at G
 refine qg qd H (.cons [3,93] (qs (fun b=>vP b 0) (fun u1=>[vI a0.N,.slice p_a0_L a0.L.length c_a0_L,.slice p_a0_Out a0.Out.length c_a0_Out]) 38 3 93) <|
 .cons [5,94] (qs (fun b=>vP b 0) (fun u1=>[vI a2.Ctrl.Order,vI a2.Ctrl.First,vI a2.Ctrl.Least,vI a2.Ctrl.Most,vI a2.Ctrl.Wide,vI a2.T,vI a2.Last]) 29 5 94) <|
 .v 6 (.slice none 0 0) <|
 .v 7 (vI 0)<|.nil) [1,3,5,90,91,92,93,94,999999] fun u1 a w' H=>?_
 refine qv ?_
 obtain ⟨t3,ht3,G⟩:=qP G
 obtain ⟨t4,ht4,G⟩:=qP G
 obtain ⟨t5,ht5,G⟩:=qP G
 refine qg qd H (.v 13 (vP ((u1 1).n 0) 0) <|
 .cons [14] (qf (.agg #[vI a2.Ctrl.Order,vI a2.Ctrl.First,vI a2.Ctrl.Least,vI a2.Ctrl.Most,vI a2.Ctrl.Wide]) 14 94 0 5 ((u1 1).n 0) [vI a2.Ctrl.Order,vI a2.Ctrl.First,vI a2.Ctrl.Least,vI a2.Ctrl.Most,vI a2.Ctrl.Wide,vI a2.T,vI a2.Last] 29) <|
 .cons [15] (qq 30 _ _ 15 [] (fun u2 w _=>Zd.calls (⟨a2.Ctrl.Order,a2.Ctrl.First,a2.Ctrl.Least,a2.Ctrl.Most,a2.Ctrl.Wide⟩:qH)  t3 w  ht3)) <|
 .v 16 (.bool (!t3)) <|
 .v 17 (.bool (!t3)) <|
 .cons [18] (qQ (fun u2=>vP ((u1 1).n 0) 5) (fun u2=>((!t3) == false)) [true] 18) <|
 .cons [19] (YS (fun u2=>vI a2.T) (fun u2=>((!t3) == false)) [false] 19 94 5 1 (fun u2=>((u1 1).n 0)) (fun u2=>[vI a2.Ctrl.Order,vI a2.Ctrl.First,vI a2.Ctrl.Least,vI a2.Ctrl.Most,vI a2.Ctrl.Wide,vI a2.T,vI a2.Last]) 29) <|
 .cons [20] (ZR 31 (fun u2=>#[vI a2.T]) (.bool t4) (fun u2=>((!t3) == false)) [true,false] 20 [] (fun u2 w hg _=>YM.calls a2.T  t4 w  (ifp ht4 hg))) <|
 .cons [21] (qQ (fun u2=>.bool (!t4)) (fun u2=>((!t3) == false)) [false] 21) <|
 .cons [22] (ZM 17 21 (fun u2=>true) (fun u2=>true) (fun u2=>(!t3)) (fun u2=>(!t4)) 22) <|
 .v 23 (.bool ((!t3) || (!t4))) <|
 .cons [24] (qQ (fun u2=>vP ((u1 1).n 0) 6) (fun u2=>(((!t3) || (!t4)) == false)) [true] 24) <|
 .cons [25] (YS (fun u2=>vI a2.Last) (fun u2=>(((!t3) || (!t4)) == false)) [false] 25 94 6 1 (fun u2=>((u1 1).n 0)) (fun u2=>[vI a2.Ctrl.Order,vI a2.Ctrl.First,vI a2.Ctrl.Least,vI a2.Ctrl.Most,vI a2.Ctrl.Wide,vI a2.T,vI a2.Last]) 29) <|
 .cons [26] (ZR 31 (fun u2=>#[vI a2.Last]) (.bool t5) (fun u2=>(((!t3) || (!t4)) == false)) [true,false] 26 [] (fun u2 w hg _=>YM.calls a2.Last  t5 w  (ifp ht5 hg))) <|
 .cons [27] (qQ (fun u2=>.bool (!t5)) (fun u2=>(((!t3) || (!t4)) == false)) [false] 27) <|
 .cons [28] (ZM 23 27 (fun u2=>true) (fun u2=>true) (fun u2=>((!t3) || (!t4))) (fun u2=>(!t5)) 28) <|
 .v 29 (.bool (((!t3) || (!t4)) || (!t5))) <|
 .cons [30] (qQ (fun u2=>vP ((u1 1).n 0) 5) (fun u2=>((((!t3) || (!t4)) || (!t5)) == false)) [true] 30) <|
 .cons [31] (YS (fun u2=>vI a2.T) (fun u2=>((((!t3) || (!t4)) || (!t5)) == false)) [false] 31 94 5 1 (fun u2=>((u1 1).n 0)) (fun u2=>[vI a2.Ctrl.Order,vI a2.Ctrl.First,vI a2.Ctrl.Least,vI a2.Ctrl.Most,vI a2.Ctrl.Wide,vI a2.T,vI a2.Last]) 29) <|
 .cons [32] (qQ (fun u2=>vP ((u1 1).n 0) 6) (fun u2=>((((!t3) || (!t4)) || (!t5)) == false)) [true] 32) <|
 .cons [33] (YS (fun u2=>vI a2.Last) (fun u2=>((((!t3) || (!t4)) || (!t5)) == false)) [false] 33 94 6 1 (fun u2=>((u1 1).n 0)) (fun u2=>[vI a2.Ctrl.Order,vI a2.Ctrl.First,vI a2.Ctrl.Least,vI a2.Ctrl.Most,vI a2.Ctrl.Wide,vI a2.T,vI a2.Last]) 29) <|
 .cons [34] (qQ (fun u2=>.bool (decide (a2.T ≥ a2.Last))) (fun u2=>((((!t3) || (!t4)) || (!t5)) == false)) [false,false] 34) <|
 .cons [35] (ZM 29 34 (fun u2=>true) (fun u2=>true) (fun u2=>(((!t3) || (!t4)) || (!t5))) (fun u2=>decide (a2.T ≥ a2.Last)) 35)<|.nil) [1,3,5,35,90,91,92,93,94,999999] fun u2 a w' H=>?_
 refine Qx H ((((!t3) || (!t4)) || (!t5)) || (decide (a2.T ≥ a2.Last))) (fun c31=>?_) fun c31=>?_
 ·rw [if_pos c31] at G
  refine qg qd H (.v 6 (.slice none 0 0) <|
 .v 7 (vI 1)<|.nil) [6,7,999999] fun u6 a w' H=>?_
  refine qF ?_
  obtain rfl:=sj G
  replace H:=H.nil_row 95 63 6
  replace H:=H.add0 96 (X7 fr qX.toPart ([]:List q7)) (by intro _ _ h; cases h) (Z3 Wd (fun j h=>by obtain ⟨_,hy,_⟩:=h; cases hy)) (fun j h=>by obtain ⟨_,hy,_⟩:=h; cases hy)
  obtain ⟨g,o0,n0,d0⟩:=qb6 ZV none 0 (show ([]:List Qc)=List.map YB ([]:List q7) from rfl)
  refine QR H _ g _ _ _ fr [95,96] [] (.tuple #[.slice none 0 0,vI 1]) [fun _=>X6 63 6 none 0 0 (([]:List q7).flatMap qo),fun fr=>X7 fr qX.toPart ([]:List q7)] (by simp only [slgd_TSegment,dlgd_TSegment,Qm,o0,n0,d0,List.length_set,List.length_cons,List.length_nil,Nat.zero_add,Nat.reduceAdd]) (by simp only [slgd_TSegment,dlgd_TSegment,Qm,o0,n0,d0,List.length_set,List.length_cons,List.length_nil,Nat.zero_add,Nat.reduceAdd]) hfr (.inl ⟨rfl,rfl⟩) (ql Qw (ql J4 qC)) (by simp)
 ·rw [if_neg (nt c31)] at G
  refine Qf ?_
  refine qg qd H (.v 8 (.slice none 0 0)<|.nil) [1,3,5,8,90,91,92,93,94,999999] fun u7 a w' H=>?_
  obtain ⟨t9,ht9,G⟩:=qP G
  refine qg qd H (.v 36 (vP ((u1 1).n 0) 0) <|
 .cons [37] (qf (.agg #[vI a2.Ctrl.Order,vI a2.Ctrl.First,vI a2.Ctrl.Least,vI a2.Ctrl.Most,vI a2.Ctrl.Wide]) 37 94 0 5 ((u1 1).n 0) [vI a2.Ctrl.Order,vI a2.Ctrl.First,vI a2.Ctrl.Least,vI a2.Ctrl.Most,vI a2.Ctrl.Wide,vI a2.T,vI a2.Last] 29) <|
 .v 38 (vP ((u1 1).n 0) 5) <|
 .cons [39] (qf (vI a2.T) 39 94 5 1 ((u1 1).n 0) [vI a2.Ctrl.Order,vI a2.Ctrl.First,vI a2.Ctrl.Least,vI a2.Ctrl.Most,vI a2.Ctrl.Wide,vI a2.T,vI a2.Last] 29) <|
 .v 40 (vP ((u1 1).n 0) 6) <|
 .cons [41] (qf (vI a2.Last) 41 94 6 1 ((u1 1).n 0) [vI a2.Ctrl.Order,vI a2.Ctrl.First,vI a2.Ctrl.Least,vI a2.Ctrl.Most,vI a2.Ctrl.Wide,vI a2.T,vI a2.Last] 29) <|
 .v 42 (vP ((u1 1).n 0) 0) <|
 .cons [43] (qf (.agg #[vI a2.Ctrl.Order,vI a2.Ctrl.First,vI a2.Ctrl.Least,vI a2.Ctrl.Most,vI a2.Ctrl.Wide]) 43 94 0 5 ((u1 1).n 0) [vI a2.Ctrl.Order,vI a2.Ctrl.First,vI a2.Ctrl.Least,vI a2.Ctrl.Most,vI a2.Ctrl.Wide,vI a2.T,vI a2.Last] 29) <|
 .v 44 (vP ((u1 1).n 0) 6) <|
 .cons [45] (qf (vI a2.Last) 45 94 6 1 ((u1 1).n 0) [vI a2.Ctrl.Order,vI a2.Ctrl.First,vI a2.Ctrl.Least,vI a2.Ctrl.Most,vI a2.Ctrl.Wide,vI a2.T,vI a2.Last] 29) <|
 .v 46 (vP ((u1 1).n 0) 5) <|
 .cons [47] (qf (vI a2.T) 47 94 5 1 ((u1 1).n 0) [vI a2.Ctrl.Order,vI a2.Ctrl.First,vI a2.Ctrl.Least,vI a2.Ctrl.Most,vI a2.Ctrl.Wide,vI a2.T,vI a2.Last] 29) <|
 .v 48 (vI (qc (a2.Last - a2.T))) <|
 .cons [49] (qq 32 _ _ 49 [] (fun u8 w _=>Y9.calls (⟨a2.Ctrl.Order,a2.Ctrl.First,a2.Ctrl.Least,a2.Ctrl.Most,a2.Ctrl.Wide⟩:qH) (qc (a2.Last - a2.T))  t9 w  ht9)) <|
 .v 50 (.agg #[vI a2.Ctrl.Order,vI a2.Ctrl.First,vI a2.Ctrl.Least,vI a2.Ctrl.Most,vI a2.Ctrl.Wide,vI a2.T,vI a2.Last,vI t9]) <|
 .cons [9,97] (qs (fun b=>vP b 0) (fun u8=>[vI 0,vI 0,vI 0,vI 0,vI 0,vI 0,vI 0,vI 0]) 100 9 97) <|
 .cons [97] (QL (u':=fun u8=>[(97,.blk ((u8 15).n 0) [vI a2.Ctrl.Order,vI a2.Ctrl.First,vI a2.Ctrl.Least,vI a2.Ctrl.Most,vI a2.Ctrl.Wide,vI a2.T,vI a2.Last,vI t9] 100)]) (qW 97 0 (fun u8=>((u8 15).n 0)) (fun u8=>[vI 0,vI 0,vI 0,vI 0,vI 0,vI 0,vI 0,vI 0]) (fun u8=>[vI a2.Ctrl.Order,vI a2.Ctrl.First,vI a2.Ctrl.Least,vI a2.Ctrl.Most,vI a2.Ctrl.Wide,vI a2.T,vI a2.Last,vI t9]) 100) (fun _=>by kernel_rfl))<|.nil) [1,3,5,8,9,90,91,92,93,94,97,999999] fun u8 a w' H=>?_
  refine qv ?_
  obtain ⟨j11,hj11,Gj11⟩:=qP G
  refine Xq (fun a w'=>∃ j11v,j11=Sum.inr j11v ∧ ∃ (p_j10:Option Addr) (c_j10 np_j10:Nat) (L_j10:List q7),np_j10=L_j10.length∧j11v=L_j10.map YB∧RL w 90 [(8,sS p_j10 np_j10 c_j10),(900052,X6 63 6 p_j10 np_j10 c_j10 (L_j10.flatMap qo)),(900053,X7 fr qX.toPart L_j10),(999999,gk)] a w') ?_ ?_
  ·clear H; rintro a w' ⟨j11v,rfl,p_j10,c_j10,_,L_j10,rfl,h_j10,H⟩; have G:=Gj11; clear Gj11; dsimp only at G
   refine qg qd H (.v 89 (.slice p_j10 L_j10.length c_j10) <|
 .v 6 (.slice p_j10 L_j10.length c_j10) <|
 .v 7 (vI 0)<|.nil) [6,7,900052,900053,999999] fun u12 a w' H=>?_
   refine qF ?_
   obtain rfl:=sj G
   obtain ⟨g,o0,n0,d0⟩:=qb6 ZV p_j10 c_j10 h_j10
   refine QR H _ g _ _ _ fr [900052,900053] [] (.tuple #[.slice p_j10 L_j10.length c_j10,vI 0]) [fun _=>Qm 63 6 p_j10 c_j10 L_j10 qo,fun fr=>X7 fr qX.toPart L_j10] (by simp only [slgd_TSegment,dlgd_TSegment,Qm,o0,n0,d0]) (by simp only [slgd_TSegment,dlgd_TSegment,Qm,o0,n0,d0]) hfr (.inl ⟨rfl,rfl⟩) (ql Qw (ql J4 qC)) (by simp)
  ·have G:=hj11; clear hj11
   refine q6 ?_
   replace H:=H.nil_row 115 63 6
   replace H:=H.add0 116 (X7 fr qX.toPart ([]:List q7)) (by intro _ _ h; cases h) (Z3 Wd (fun j h=>by obtain ⟨_,hy,_⟩:=h; cases hy)) (fun j h=>by obtain ⟨_,hy,_⟩:=h; cases hy)
   replace H:=H.dup (K:=qB fr 2 p_a1 c_a1 a1 qa) 92 900054 (by kernel_rfl) (fun h=>h) (by intro _ _ h; cases h)
   replace H:=H.move (K:=X6 63 6 none 0 0 (([]:List q7).flatMap qo)) 115 900055 (by kernel_rfl) (by intro _ _ h; cases h)
   replace H:=H.dup (K:=X7 fr qX.toPart ([]:List q7)) 116 900056 (by kernel_rfl) (fun h=>h) (by intro _ _ h; cases h)
   refine XP (fun m a w'=>∃ x13:Int,∃ x14:Int,∃ x15:List qb,∃ x16:List Qc,qY.l17 k0 a0 a1 a2 t3 t4 t5 t9 m x13 x14 x15 x16=some j11 ∧ ∃ (p_x15:Option Addr) (c_x15 np_x15:Nat),np_x15=x15.length ∧ ∃ (p_x16:Option Addr) (c_x16 np_x16:Nat) (L_x16:List q7),np_x16=L_x16.length∧x16=L_x16.map YB∧RL w 90 [(1,sS p_x15 np_x15 c_x15),(3,(sP ((u1 0).n 0) 0)),(5,(sP ((u1 1).n 0) 0)),(8,sS p_x16 np_x16 c_x16),(9,(sP ((u8 15).n 0) 0)),(90,qB qk 5 p_a0_L c_a0_L a0.L qi),(91,qB qk 1 p_a0_Out c_a0_Out a0.Out Qn),(93,.blk ((u1 0).n 0) [vI a0.N,.slice p_a0_L a0.L.length c_a0_L,.slice p_a0_Out a0.Out.length c_a0_Out] 38),(94,.blk ((u1 1).n 0) [vI a2.Ctrl.Order,vI a2.Ctrl.First,vI a2.Ctrl.Least,vI a2.Ctrl.Most,vI a2.Ctrl.Wide,vI a2.T,vI a2.Last] 29),(97,.blk ((u8 15).n 0) [vI a2.Ctrl.Order,vI a2.Ctrl.First,vI a2.Ctrl.Least,vI a2.Ctrl.Most,vI a2.Ctrl.Wide,vI x13,vI a2.Last,vI x14] 100),(900054,YZ fr 2 p_x15 np_x15 c_x15 (x15.flatMap qa)),(900055,X6 63 6 p_x16 np_x16 c_x16 (L_x16.flatMap qo)),(900056,X7 fr qX.toPart L_x16),(999999,gk)] a w') k0 ⟨_,_,_,_,G,p_a1,c_a1,a1.length,rfl,none,0,0,([]:List q7),rfl,rfl,H.toM _⟩ ?_
   clear G H
   rintro (_ | k) a w' ⟨x13,x14,x15,x16,G,p_x15,c_x15,_,rfl,p_x16,c_x16,_,L_x16,rfl,h_x16,H⟩
   ·exact absurd G (by unfold qY.l17; exact fun h=>by cases h)
   ·unfold qY.l17 at G
    refine qv ?_
    refine qg qd H (.v 51 (vP ((u8 15).n 0) 5) <|
 .cons [52] (qf (vI x13) 52 97 5 1 ((u8 15).n 0) [vI a2.Ctrl.Order,vI a2.Ctrl.First,vI a2.Ctrl.Least,vI a2.Ctrl.Most,vI a2.Ctrl.Wide,vI x13,vI a2.Last,vI x14] 100) <|
 .v 53 (vP ((u1 1).n 0) 6) <|
 .cons [54] (qf (vI a2.Last) 54 94 6 1 ((u1 1).n 0) [vI a2.Ctrl.Order,vI a2.Ctrl.First,vI a2.Ctrl.Least,vI a2.Ctrl.Most,vI a2.Ctrl.Wide,vI a2.T,vI a2.Last] 29) <|
 .v 55 (.bool (decide (x13<a2.Last)))<|.nil) [1,3,5,8,9,55,90,91,93,94,97,900054,900055,900056,999999] fun u18 a w' H=>?_
    refine Qx H (decide (x13<a2.Last)) (fun c30=>?_) fun c30=>?_
    ·rw [if_pos c30] at G
     refine Qf ?_
     refine q6 ?_
     obtain ⟨t20,ht20,G⟩:=qP G
     refine qg qd H (.cons [57] (qf (.agg #[vI a0.N,.slice p_a0_L a0.L.length c_a0_L,.slice p_a0_Out a0.Out.length c_a0_Out]) 57 93 0 3 ((u1 0).n 0) [vI a0.N,.slice p_a0_L a0.L.length c_a0_L,.slice p_a0_Out a0.Out.length c_a0_Out] 38) <|
 .v 58 (.slice p_x15 x15.length c_x15) <|
 .cons [59] (qf (.agg #[vI a2.Ctrl.Order,vI a2.Ctrl.First,vI a2.Ctrl.Least,vI a2.Ctrl.Most,vI a2.Ctrl.Wide,vI x13,vI a2.Last,vI x14]) 59 97 0 8 ((u8 15).n 0) [vI a2.Ctrl.Order,vI a2.Ctrl.First,vI a2.Ctrl.Least,vI a2.Ctrl.Most,vI a2.Ctrl.Wide,vI x13,vI a2.Last,vI x14] 100) <|
 .cons [60,98,99,100,101] (QI true fr [] [90,91,900054,999999] (fun u19=>[qB qk 5 p_a0_L c_a0_L a0.L qi,qB qk 1 p_a0_Out c_a0_Out a0.Out Qn,qB fr 2 p_x15 c_x15 x15 qa,gk]) [] (fun u19=>[]) 33 _ _ _ _ _ [98,99,100,101] 60 (fun u19 w hB hF hM=>QK.calls k0 (⟨a0.N,a0.L,a0.Out⟩:QE) x15 (⟨(⟨a2.Ctrl.Order,a2.Ctrl.First,a2.Ctrl.Least,a2.Ctrl.Most,a2.Ctrl.Wide⟩:qH),x13,a2.Last,x14⟩:Z5) p_a0_L c_a0_L p_a0_Out c_a0_Out p_x15 c_x15 t20 w  hB hF ht20) (fun u19 w hF=>⟨⟨q9 (qj hF.1) (fun j h=>⟨_,(.head _),h⟩),q9 (qj hF.2.1) (fun j h=>⟨_,(.tail _ (.head _)),h⟩),Z6 hF.2.2.2.1 (.tail _ (.tail _ (.tail _ (.head _)))),trivial⟩,⟨Zx (qj hF.2.2.1) (fun j h=>ZN (.tail _ (.tail _ (.head _))) (fun h=>h) h (Y7 hF.2.2.1 _ h)),trivial⟩⟩) (fun u19 g=>(ql (QZ (by decide)) (ql (QZ (by decide)) (ql (QZ (by decide)) (ql (QZ (by decide)) qC))))) (.inl rfl) (fun _=>hBf)) <|
 .cons [56] (qn (fun u19=>.tuple #[.agg #[vI t20.1.T,vI t20.1.H,.slice ((u19 3).o 0) t20.1.From.length ((u19 3).n 0),.slice ((u19 3).o 1) t20.1.Pre.length ((u19 3).n 1),.slice ((u19 3).o 2) t20.1.Tube.length ((u19 3).n 2),.slice ((u19 3).o 3) t20.1.To.length ((u19 3).n 3)],vI t20.2.1,vI t20.2.2]) 56) <|
 .cons [61] (qn (fun u19=>.agg #[vI t20.1.T,vI t20.1.H,.slice ((u19 3).o 0) t20.1.From.length ((u19 3).n 0),.slice ((u19 3).o 1) t20.1.Pre.length ((u19 3).n 1),.slice ((u19 3).o 2) t20.1.Tube.length ((u19 3).n 2),.slice ((u19 3).o 3) t20.1.To.length ((u19 3).n 3)]) 61) <|
 .v 62 (vI t20.2.1) <|
 .v 63 (vI t20.2.2) <|
 .cons [10,102] (qs (fun b=>vP b 0) (fun u19=>[vI 0,vI 0,.slice none 0 0,.slice none 0 0,.slice none 0 0,.slice none 0 0]) 63 10 102) <|
 .cons [102] (QL (u':=fun u19=>[(102,.blk ((u19 8).n 0) [vI t20.1.T,vI t20.1.H,.slice ((u19 3).o 0) t20.1.From.length ((u19 3).n 0),.slice ((u19 3).o 1) t20.1.Pre.length ((u19 3).n 1),.slice ((u19 3).o 2) t20.1.Tube.length ((u19 3).n 2),.slice ((u19 3).o 3) t20.1.To.length ((u19 3).n 3)] 63)]) (qW 102 0 (fun u19=>((u19 8).n 0)) (fun u19=>[vI 0,vI 0,.slice none 0 0,.slice none 0 0,.slice none 0 0,.slice none 0 0]) (fun u19=>[vI t20.1.T,vI t20.1.H,.slice ((u19 3).o 0) t20.1.From.length ((u19 3).n 0),.slice ((u19 3).o 1) t20.1.Pre.length ((u19 3).n 1),.slice ((u19 3).o 2) t20.1.Tube.length ((u19 3).n 2),.slice ((u19 3).o 3) t20.1.To.length ((u19 3).n 3)]) 63) (fun _=>by kernel_rfl)) <|
 .v 11 (vI t20.2.1) <|
 .v 12 (vI t20.2.2)<|.nil) [3,5,8,9,10,11,12,90,91,93,94,97,98,99,100,101,102,900055,900056,999999] fun u19 a w' H=>?_
     refine qv ?_
     refine q6 ?_
     refine qg qd H (.v 65 (vI t20.2.2) <|
 .v 66 (.iface 32 (vI t20.2.2)) <|
 .v 67 (.iface 32 (vI 0)) <|
 .cons [68] (qq 34 _ _ 68 [] (fun u21 w _=>qfX t20.2.2 w)) <|
 .v 69 (.bool (!(t20.2.2 == 0))) <|
 .v 64 (.bool (!(t20.2.2 == 0)))<|.nil) [3,5,8,9,10,11,12,64,90,91,93,94,97,98,99,100,101,102,900055,900056,999999] fun u21 a w' H=>?_
     refine Qx H (!(t20.2.2 == 0)) (fun c29=>?_) fun c29=>?_
     ·rw [if_pos c29] at G
      refine qg qd H (.v 70 (vI t20.2.2) <|
 .v 6 (.slice none 0 0) <|
 .v 7 (vI t20.2.2)<|.nil) [6,7,999999] fun u22 a w' H=>?_
      refine qF ?_
      obtain rfl:=sj G
      replace G:=Gj11
      obtain rfl:=sj G
      replace H:=H.nil_row 103 63 6
      replace H:=H.add0 104 (X7 fr qX.toPart ([]:List q7)) (by intro _ _ h; cases h) (Z3 Wd (fun j h=>by obtain ⟨_,hy,_⟩:=h; cases hy)) (fun j h=>by obtain ⟨_,hy,_⟩:=h; cases hy)
      obtain ⟨g,o0,n0,d0⟩:=qb6 ZV none 0 (show ([]:List Qc)=List.map YB ([]:List q7) from rfl)
      refine QR H _ g _ _ _ fr [103,104] [] (.tuple #[.slice none 0 0,vI t20.2.2]) [fun _=>X6 63 6 none 0 0 (([]:List q7).flatMap qo),fun fr=>X7 fr qX.toPart ([]:List q7)] (by simp only [slgd_TSegment,dlgd_TSegment,Qm,o0,n0,d0,List.length_set,List.length_cons,List.length_nil,Nat.zero_add,Nat.reduceAdd]) (by simp only [slgd_TSegment,dlgd_TSegment,Qm,o0,n0,d0,List.length_set,List.length_cons,List.length_nil,Nat.zero_add,Nat.reduceAdd]) hfr (.inl ⟨rfl,rfl⟩) (ql Qw (ql J4 qC)) (by simp)
     ·rw [if_neg (nt c29)] at G
      refine qg qd H (.v 72 (.slice p_x16 L_x16.length c_x16) <|
 .cons [73] (qG 900055 (Qm 63 6 p_x16 c_x16 L_x16 qo) (vI (x16.length:Int)) 73 fun _ w h=>Yt (((qw (Qe h)).2.len qx (by decide)).trans (qT h_x16).symm) (by kernel_rfl)) <|
 .v 74 (.bool ((x16.length:Int) == 256)) <|
 .v 71 (.bool ((x16.length:Int) == 256))<|.nil) [3,5,8,9,10,11,71,90,91,93,94,97,98,99,100,101,102,900055,900056,999999] fun u23 a w' H=>?_
      refine Qx H ((x16.length:Int) == 256) (fun c28=>?_) fun c28=>?_
      ·rw [if_pos c28] at G
       refine qg qd H (.v 6 (.slice none 0 0) <|
 .v 7 (vI 140)<|.nil) [6,7,999999] fun u24 a w' H=>?_
       refine qF ?_
       obtain rfl:=sj G
       replace G:=Gj11
       obtain rfl:=sj G
       replace H:=H.nil_row 105 63 6
       replace H:=H.add0 106 (X7 fr qX.toPart ([]:List q7)) (by intro _ _ h; cases h) (Z3 Wd (fun j h=>by obtain ⟨_,hy,_⟩:=h; cases hy)) (fun j h=>by obtain ⟨_,hy,_⟩:=h; cases hy)
       obtain ⟨g,o0,n0,d0⟩:=qb6 ZV none 0 (show ([]:List Qc)=List.map YB ([]:List q7) from rfl)
       refine QR H _ g _ _ _ fr [105,106] [] (.tuple #[.slice none 0 0,vI 140]) [fun _=>X6 63 6 none 0 0 (([]:List q7).flatMap qo),fun fr=>X7 fr qX.toPart ([]:List q7)] (by simp only [slgd_TSegment,dlgd_TSegment,Qm,o0,n0,d0,List.length_set,List.length_cons,List.length_nil,Nat.zero_add,Nat.reduceAdd]) (by simp only [slgd_TSegment,dlgd_TSegment,Qm,o0,n0,d0,List.length_set,List.length_cons,List.length_nil,Nat.zero_add,Nat.reduceAdd]) hfr (.inl ⟨rfl,rfl⟩) (ql Qw (ql J4 qC)) (by simp)
      ·rw [if_neg (nt c28)] at G
       refine Qf ?_
       refine qv ?_
       replace G:=gd G; obtain ⟨b26,G⟩:=G
       refine Qt qd H (.v 75 (.slice p_x16 L_x16.length c_x16) <|
 .cons [76] (qf (.agg #[vI t20.1.T,vI t20.1.H,.slice ((u19 3).o 0) t20.1.From.length ((u19 3).n 0),.slice ((u19 3).o 1) t20.1.Pre.length ((u19 3).n 1),.slice ((u19 3).o 2) t20.1.Tube.length ((u19 3).n 2),.slice ((u19 3).o 3) t20.1.To.length ((u19 3).n 3)]) 76 102 0 6 ((u19 8).n 0) [vI t20.1.T,vI t20.1.H,.slice ((u19 3).o 0) t20.1.From.length ((u19 3).n 0),.slice ((u19 3).o 1) t20.1.Pre.length ((u19 3).n 1),.slice ((u19 3).o 2) t20.1.Tube.length ((u19 3).n 2),.slice ((u19 3).o 3) t20.1.To.length ((u19 3).n 3)] 63) <|
 .cons [77,107] (qs (fun b=>.slice (some ⟨b,0,none⟩) 1 1) (fun u25=>[vI t20.1.T,vI t20.1.H,.slice ((u19 3).o 0) t20.1.From.length ((u19 3).n 0),.slice ((u19 3).o 1) t20.1.Pre.length ((u19 3).n 1),.slice ((u19 3).o 2) t20.1.Tube.length ((u19 3).n 2),.slice ((u19 3).o 3) t20.1.To.length ((u19 3).n 3)]) 63 77 107) <|
 .cons [78,900055,900055,108] (qcG [2] [900056,107,98,99,100,101] (fun u25=>[X7 fr qX.toPart L_x16,.blk ((u25 2).n 0) [vI t20.1.T,vI t20.1.H,.slice ((u19 3).o 0) t20.1.From.length ((u19 3).n 0),.slice ((u19 3).o 1) t20.1.Pre.length ((u19 3).n 1),.slice ((u19 3).o 2) t20.1.Tube.length ((u19 3).n 2),.slice ((u19 3).o 3) t20.1.To.length ((u19 3).n 3)] 63,YZ fr 2 ((u19 3).o 0) t20.1.From.length ((u19 3).n 0) (t20.1.From.flatMap qa),YZ fr 2 ((u19 3).o 1) t20.1.Pre.length ((u19 3).n 1) (t20.1.Pre.flatMap qa),YZ fr 2 ((u19 3).o 2) t20.1.Tube.length ((u19 3).n 2) (t20.1.Tube.flatMap qa),YZ fr 2 ((u19 3).o 3) t20.1.To.length ((u19 3).n 3) (t20.1.To.flatMap qa)]) 900055 108 (fun u25=>Qm 63 6 p_x16 c_x16 L_x16 qo) (some 78) (fun u25 g=>.slice (g.o 0) (L_x16++[((⟨t20.1.T,t20.1.H,⟨((u19 3).o 0),((u19 3).n 0),t20.1.From⟩,⟨((u19 3).o 1),((u19 3).n 1),t20.1.Pre⟩,⟨((u19 3).o 2),((u19 3).n 2),t20.1.Tube⟩,⟨((u19 3).o 3),((u19 3).n 3),t20.1.To⟩⟩:q7):q7)]).length (g.n 0)) (fun u25 g=>Qm 63 6 (g.o 0) (g.n 0) (L_x16++[((⟨t20.1.T,t20.1.H,⟨((u19 3).o 0),((u19 3).n 0),t20.1.From⟩,⟨((u19 3).o 1),((u19 3).n 1),t20.1.Pre⟩,⟨((u19 3).o 2),((u19 3).n 2),t20.1.Tube⟩,⟨((u19 3).o 3),((u19 3).n 3),t20.1.To⟩⟩:q7):q7)]) qo) (fun u25 g=>X7 fr qX.toPart (L_x16++[((⟨t20.1.T,t20.1.H,⟨((u19 3).o 0),((u19 3).n 0),t20.1.From⟩,⟨((u19 3).o 1),((u19 3).n 1),t20.1.Pre⟩,⟨((u19 3).o 2),((u19 3).n 2),t20.1.Tube⟩,⟨((u19 3).o 3),((u19 3).n 3),t20.1.To⟩⟩:q7):q7)])) (fun u25 w hF hK=>qcS (Yy (t:=31) (ty:=31) (en:=qo) qx qgf (Qe hK) hF.2.1 (news:=[((⟨t20.1.T,t20.1.H,⟨((u19 3).o 0),((u19 3).n 0),t20.1.From⟩,⟨((u19 3).o 1),((u19 3).n 1),t20.1.Pre⟩,⟨((u19 3).o 2),((u19 3).n 2),t20.1.Tube⟩,⟨((u19 3).o 3),((u19 3).n 3),t20.1.To⟩⟩:q7):q7)]) rfl (by simp) (by kernel_rfl) (by rw [← qT h_x16]; exact b26)) (qeJ hF.1 (.head _) ⟨⟨(qj hF.2.2.1),fun _ _=>trivial⟩,⟨⟨(qj hF.2.2.2.1),fun _ _=>trivial⟩,⟨⟨(qj hF.2.2.2.2.1),fun _ _=>trivial⟩,⟨(qj hF.2.2.2.2.2.1),fun _ _=>trivial⟩⟩⟩⟩ (fun j h=>(h.elim (fun h=>(h.elim (fun h=>ZN (.tail _ (.tail _ (.head _))) (fun h=>h) h (Y7 hF.2.2.1 _ h)) (fun ⟨_,_,hz⟩=>hz.elim))) (fun h=>(h.elim (fun h=>(h.elim (fun h=>ZN (.tail _ (.tail _ (.tail _ (.head _)))) (fun h=>h) h (Y7 hF.2.2.2.1 _ h)) (fun ⟨_,_,hz⟩=>hz.elim))) (fun h=>(h.elim (fun h=>(h.elim (fun h=>ZN (.tail _ (.tail _ (.tail _ (.tail _ (.head _))))) (fun h=>h) h (Y7 hF.2.2.2.2.1 _ h)) (fun ⟨_,_,hz⟩=>hz.elim))) (fun h=>(h.elim (fun h=>ZN (.tail _ (.tail _ (.tail _ (.tail _ (.tail _ (.head _)))))) (fun h=>h) h (Y7 hF.2.2.2.2.2.1 _ h)) (fun ⟨_,_,hz⟩=>hz.elim))))))))))) (hloc:=fun u u' h=>⟨by first | rfl | simp only [h 2 (by decide)],by first | rfl | simp only [h 2 (by decide)],by first | rfl | simp only [h 2 (by decide)],by first | rfl | simp only [h 2 (by decide)],by first | rfl | simp only [h 2 (by decide)]⟩)) <|
 .cons [8] (qn (fun u25=>.slice ((u25 3).o 0) ((L_x16++[((⟨t20.1.T,t20.1.H,⟨((u19 3).o 0),((u19 3).n 0),t20.1.From⟩,⟨((u19 3).o 1),((u19 3).n 1),t20.1.Pre⟩,⟨((u19 3).o 2),((u19 3).n 2),t20.1.Tube⟩,⟨((u19 3).o 3),((u19 3).n 3),t20.1.To⟩⟩:q7):q7)]).length) ((u25 3).n 0)) 8)<|.nil) [3,5,8,9,10,11,90,91,93,94,97,98,99,100,101,102,108,900055,999999] fun u25 a w' H=>?_
       refine Qt qd H (.v 79 (vP ((u19 8).n 0) 0) <|
 .cons [80] (qf (vI t20.1.T) 80 102 0 1 ((u19 8).n 0) [vI t20.1.T,vI t20.1.H,.slice ((u19 3).o 0) t20.1.From.length ((u19 3).n 0),.slice ((u19 3).o 1) t20.1.Pre.length ((u19 3).n 1),.slice ((u19 3).o 2) t20.1.Tube.length ((u19 3).n 2),.slice ((u19 3).o 3) t20.1.To.length ((u19 3).n 3)] 63) <|
 .v 81 (vP ((u19 8).n 0) 1) <|
 .cons [82] (qf (vI t20.1.H) 82 102 1 1 ((u19 8).n 0) [vI t20.1.T,vI t20.1.H,.slice ((u19 3).o 0) t20.1.From.length ((u19 3).n 0),.slice ((u19 3).o 1) t20.1.Pre.length ((u19 3).n 1),.slice ((u19 3).o 2) t20.1.Tube.length ((u19 3).n 2),.slice ((u19 3).o 3) t20.1.To.length ((u19 3).n 3)] 63) <|
 .v 83 (vI (qc (t20.1.T+t20.1.H))) <|
 .v 84 (vI t20.2.1) <|
 .v 85 (vP ((u19 8).n 0) 5) <|
 .cons [86] (qf (.slice ((u19 3).o 3) t20.1.To.length ((u19 3).n 3)) 86 102 5 1 ((u19 8).n 0) [vI t20.1.T,vI t20.1.H,.slice ((u19 3).o 0) t20.1.From.length ((u19 3).n 0),.slice ((u19 3).o 1) t20.1.Pre.length ((u19 3).n 1),.slice ((u19 3).o 2) t20.1.Tube.length ((u19 3).n 2),.slice ((u19 3).o 3) t20.1.To.length ((u19 3).n 3)] 63) <|
 .v 87 (vP ((u8 15).n 0) 5) <|
 .cons [97] (Qa 97 5 ((u8 15).n 0) [vI a2.Ctrl.Order,vI a2.Ctrl.First,vI a2.Ctrl.Least,vI a2.Ctrl.Most,vI a2.Ctrl.Wide,vI x13,vI a2.Last,vI x14] [vI (qc (t20.1.T+t20.1.H))] 100 [vI a2.Ctrl.Order,vI a2.Ctrl.First,vI a2.Ctrl.Least,vI a2.Ctrl.Most,vI a2.Ctrl.Wide,vI (qc (t20.1.T+t20.1.H)),vI a2.Last,vI x14]) <|
 .v 88 (vP ((u8 15).n 0) 7) <|
 .cons [97] (Qa 97 7 ((u8 15).n 0) [vI a2.Ctrl.Order,vI a2.Ctrl.First,vI a2.Ctrl.Least,vI a2.Ctrl.Most,vI a2.Ctrl.Wide,vI (qc (t20.1.T+t20.1.H)),vI a2.Last,vI x14] [vI t20.2.1] 100 [vI a2.Ctrl.Order,vI a2.Ctrl.First,vI a2.Ctrl.Least,vI a2.Ctrl.Most,vI a2.Ctrl.Wide,vI (qc (t20.1.T+t20.1.H)),vI a2.Last,vI t20.2.1]) <|
 .v 1 (.slice ((u19 3).o 3) t20.1.To.length ((u19 3).n 3))<|.nil) [1,3,5,8,9,90,91,93,94,97,101,108,900055,999999] fun u27 a w' H=>?_
       replace H:=H.dup (K:=YZ fr 2 ((u19 3).o 3) t20.1.To.length ((u19 3).n 3) (t20.1.To.flatMap qa)) 101 900054 (by kernel_rfl) (fun h=>h) (by intro _ _ h; cases h)
       replace H:=H.dup (K:=X7 fr qX.toPart (L_x16++[((⟨t20.1.T,t20.1.H,⟨((u19 3).o 0),((u19 3).n 0),t20.1.From⟩,⟨((u19 3).o 1),((u19 3).n 1),t20.1.Pre⟩,⟨((u19 3).o 2),((u19 3).n 2),t20.1.Tube⟩,⟨((u19 3).o 3),((u19 3).n 3),t20.1.To⟩⟩:q7):q7)])) 108 900056 (by kernel_rfl) (fun h=>h) (by intro _ _ h; cases h)
       exact ⟨k,Nat.lt_succ_self k,_,_,_,_,G,((u19 3).o 3),((u19 3).n 3),t20.1.To.length,rfl,((u25 3).o 0),((u25 3).n 0),(L_x16++[((⟨t20.1.T,t20.1.H,⟨((u19 3).o 0),((u19 3).n 0),t20.1.From⟩,⟨((u19 3).o 1),((u19 3).n 1),t20.1.Pre⟩,⟨((u19 3).o 2),((u19 3).n 2),t20.1.Tube⟩,⟨((u19 3).o 3),((u19 3).n 3),t20.1.To⟩⟩:q7):q7)]).length,(L_x16++[((⟨t20.1.T,t20.1.H,⟨((u19 3).o 0),((u19 3).n 0),t20.1.From⟩,⟨((u19 3).o 1),((u19 3).n 1),t20.1.Pre⟩,⟨((u19 3).o 2),((u19 3).n 2),t20.1.Tube⟩,⟨((u19 3).o 3),((u19 3).n 3),t20.1.To⟩⟩:q7):q7)]),rfl,(qa8 h_x16 ((⟨t20.1.T,t20.1.H,⟨((u19 3).o 0),((u19 3).n 0),t20.1.From⟩,⟨((u19 3).o 1),((u19 3).n 1),t20.1.Pre⟩,⟨((u19 3).o 2),((u19 3).n 2),t20.1.Tube⟩,⟨((u19 3).o 3),((u19 3).n 3),t20.1.To⟩⟩:q7):q7)),H.toM _⟩
    ·rw [if_neg (nt c30)] at G
     refine Yk rfl ?_
     obtain rfl:=sj G
     replace H:=H.move (K:=Qm 63 6 p_x16 c_x16 L_x16 qo) 900055 900052 (by kernel_rfl) (by intro _ _ h; cases h)
     replace H:=H.dup (K:=X7 fr qX.toPart L_x16) 900056 900053 (by kernel_rfl) (fun h=>h) (by intro _ _ h; cases h)
     exact ⟨_,rfl,p_x16,c_x16,L_x16.length,L_x16,rfl,h_x16,H.toM _⟩
theorem ZK.calls (a0:Int) (r:Int) (w:World) (G:ZK a0=some r) :
  Calls Tryz.prog 61 #[vI a0] w fun e w'=>e = .returned (vI r)∧Below w.heap.size w w':=by
 refine QD (args:=[vI a0]) 24 Tryz.func61 rfl (by kernel_rfl) (by kernel_rfl) fun a H=>?_
 unfold ZK at G
 refine qg qd H (.v 2 (vI 0)<|.nil) [0] fun u1 a w' H=>?_
 refine qv ?_
 refine q6 ?_
 refine qg qd H (.v 4 (vI a0) <|
 .v 5 (.bool (decide (a0 ≥ 1))) <|
 .v 6 (.bool (decide (a0 ≥ 1))) <|
 .cons [7] (qQ (fun u2=>vI a0) (fun u2=>((decide (a0 ≥ 1)) == true)) [true] 7) <|
 .cons [8] (qQ (fun u2=>.bool (decide (a0≤3))) (fun u2=>((decide (a0 ≥ 1)) == true)) [false,true] 8) <|
 .cons [9] (YY 6 8 (fun u2=>true) (fun u2=>true) (fun u2=>decide (a0 ≥ 1)) (fun u2=>decide (a0≤3)) 9) <|
 .v 3 (.bool ((decide (a0 ≥ 1)) && (decide (a0≤3))))<|.nil) [0,3] fun u2 a w' H=>?_
 refine Qx H ((decide (a0 ≥ 1)) && (decide (a0≤3))) (fun c11=>?_) fun c11=>?_
 ·rw [if_pos c11] at G
  refine qg qd H (.v 2 (vI 0)<|.nil) [2] fun u3 a w' H=>?_
  refine qF ?_
  obtain rfl:=sj G
  exact Qr H _ (by kernel_rfl) (by kernel_rfl)
 ·rw [if_neg (nt c11)] at G
  refine qg qd H (.v 11 (vI a0) <|
 .v 12 (.bool (decide (a0 ≥ 4))) <|
 .v 13 (.bool (decide (a0 ≥ 4))) <|
 .cons [14] (qQ (fun u4=>vI a0) (fun u4=>((decide (a0 ≥ 4)) == true)) [true] 14) <|
 .cons [15] (qQ (fun u4=>.bool (decide (a0≤6))) (fun u4=>((decide (a0 ≥ 4)) == true)) [false,true] 15) <|
 .cons [16] (YY 13 15 (fun u4=>true) (fun u4=>true) (fun u4=>decide (a0 ≥ 4)) (fun u4=>decide (a0≤6)) 16) <|
 .v 10 (.bool ((decide (a0 ≥ 4)) && (decide (a0≤6))))<|.nil) [0,10] fun u4 a w' H=>?_
  refine Qx H ((decide (a0 ≥ 4)) && (decide (a0≤6))) (fun c10=>?_) fun c10=>?_
  ·rw [if_pos c10] at G
   refine qg qd H (.v 2 (vI 1)<|.nil) [2] fun u5 a w' H=>?_
   refine qF ?_
   obtain rfl:=sj G
   exact Qr H _ (by kernel_rfl) (by kernel_rfl)
  ·rw [if_neg (nt c10)] at G
   refine qg qd H (.v 18 (vI a0) <|
 .v 19 (.bool (decide (a0 ≥ 7))) <|
 .v 20 (.bool (decide (a0 ≥ 7))) <|
 .cons [21] (qQ (fun u6=>vI a0) (fun u6=>((decide (a0 ≥ 7)) == true)) [true] 21) <|
 .cons [22] (qQ (fun u6=>.bool (decide (a0≤10))) (fun u6=>((decide (a0 ≥ 7)) == true)) [false,true] 22) <|
 .cons [23] (YY 20 22 (fun u6=>true) (fun u6=>true) (fun u6=>decide (a0 ≥ 7)) (fun u6=>decide (a0≤10)) 23) <|
 .v 17 (.bool ((decide (a0 ≥ 7)) && (decide (a0≤10))))<|.nil) [17] fun u6 a w' H=>?_
   refine Qx H ((decide (a0 ≥ 7)) && (decide (a0≤10))) (fun c9=>?_) fun c9=>?_
   ·rw [if_pos c9] at G
    refine qg qd H (.v 2 (vI 2)<|.nil) [2] fun u7 a w' H=>?_
    refine qF ?_
    obtain rfl:=sj G
    exact Qr H _ (by kernel_rfl) (by kernel_rfl)
   ·rw [if_neg (nt c9)] at G
    refine Qf ?_
    refine qg qd H (.v 2 (vI (-1))<|.nil) [2] fun u8 a w' H=>?_
    refine qF ?_
    obtain rfl:=sj G
    exact Qr H _ (by kernel_rfl) (by kernel_rfl)
theorem XM.calls (k0:Nat) (a0:List qu) (p_a0:Option Addr) (c_a0:Nat) (r:Int) (w:World) (hB:Xx [qB qk 4 p_a0 c_a0 a0 qr] w) (G:XM k0 a0=some r) :
  Calls Tryz.prog 62 #[.slice p_a0 a0.length c_a0] w fun e w'=>e = .returned (vI r)∧Below w.heap.size w w':=by
 obtain ⟨fr,hfr⟩:∃ fr:Nat→Prop,∀ j,fr j:=⟨fun _=>True,fun _=>trivial⟩
 have hBf:∀ j,w.heap.size≤j→fr j:=fun j _=>hfr j
 refine QO (args:=[.slice p_a0 a0.length c_a0]) 27 [(27,qB qk 4 p_a0 c_a0 a0 qr)] (by
  intro x hx
  simp only [List.mem_cons,List.not_mem_nil,or_false] at hx
  rcases hx with rfl
  exact qy (qj hB.1) (fun _ _=>trivial) (by decide) _) Tryz.func62 rfl (by kernel_rfl) (by kernel_rfl) fun a H=>?_
 unfold XM at G
 refine qg qd H (.v 2 (vI 0)<|.nil) [0,27] fun u1 a w' H=>?_
 refine qg qd H (.v 3 (vI 1)<|.nil) [0,3,27] fun u2 a w' H=>?_
 refine qv ?_
 obtain ⟨j3,hj3,Gj3⟩:=qP G
 refine Xq (fun a w'=>∃ j3v,j3=Sum.inr j3v∧RL w 27 [(0,sS p_a0 a0.length c_a0),(27,qB qk 4 p_a0 c_a0 a0 qr)] a w') ?_ ?_
 ·clear H; rintro a w' ⟨j3v,rfl,H⟩; have G:=Gj3; clear Gj3; dsimp only at G
  refine qg qd H (.v 24 (.slice p_a0 a0.length c_a0) <|
 .v 25 (vI (a0.length:Int)) <|
 .v 26 (vI (qc ((a0.length:Int)+1))) <|
 .v 2 (vI (qc ((a0.length:Int)+1)))<|.nil) [2] fun u4 a w' H=>?_
  refine qF ?_
  obtain rfl:=sj G
  exact Qr H _ (by kernel_rfl) (by kernel_rfl)
 ·have G:=hj3; clear hj3
  refine qg qd H (.v 6 (.slice p_a0 a0.length c_a0) <|
 .v 7 (vI (a0.length:Int)) <|
 .v 8 (vI 0)<|.nil) [0,3,6,7,8,27] fun u5 a w' H=>?_
  refine q6 ?_
  refine XP (fun m a w'=>∃ x6:Int,∃ x7:Int,XM.l8 k0 a0 m x6 x7=some j3∧RL w 27 [(0,sS p_a0 a0.length c_a0),(3,sI x6),(6,sS p_a0 a0.length c_a0),(7,(sI (a0.length:Int))),(8,sI x7),(27,qB qk 4 p_a0 c_a0 a0 qr)] a w') k0 ⟨_,_,G,H.toM _⟩ ?_
  clear G H
  rintro (_ | k) a w' ⟨x6,x7,G,H⟩
  ·exact absurd G (by unfold XM.l8; exact fun h=>by cases h)
  ·unfold XM.l8 at G
   refine qg qd H (.v 9 (.bool (decide (x7<(a0.length:Int))))<|.nil) [0,3,6,7,8,9,27] fun u9 a w' H=>?_
   refine qv ?_
   refine Qx H (decide (x7<(a0.length:Int))) (fun c19=>?_) fun c19=>?_
   ·rw [if_pos c19] at G
    refine Qf ?_
    refine qv ?_
    refine q6 ?_
    refine qv ?_
    replace G:=gd G; obtain ⟨b11,G⟩:=G
    obtain ⟨t12,ht12,G⟩:=qP G
    refine Qt qd H (.v 10 (vI x7) <|
 .cons [11] (qG 27 (qB qk 4 p_a0 c_a0 a0 qr) (.pointer (some ⟨Xf p_a0,Xg p_a0+x7.toNat * 4,none⟩)) 11 fun _ w h=>Jo 59 .i64 x7 p_a0 a0.length c_a0 a0 qr (qj h).2 QJ rfl b11) <|
 .cons [12] (qG 27 (qB qk 4 p_a0 c_a0 a0 qr) (.agg #[vI t12.Op,vI t12.N,vI t12.C.Lo,vI t12.C.Hi]) 12 fun _ w h=>Ym qr (qj h).2 QJ ht12 0 4 [vI t12.Op,vI t12.N,vI t12.C.Lo,vI t12.C.Hi]) <|
 .cons [5,28] (qs (fun b=>vP b 0) (fun u10=>[vI 0,vI 0,vI 0,vI 0]) 61 5 28) <|
 .v 4 (vI x7) <|
 .cons [28] (QL (u':=fun u10=>[(28,.blk ((u10 3).n 0) [vI t12.Op,vI t12.N,vI t12.C.Lo,vI t12.C.Hi] 61)]) (qW 28 0 (fun u10=>((u10 3).n 0)) (fun u10=>[vI 0,vI 0,vI 0,vI 0]) (fun u10=>[vI t12.Op,vI t12.N,vI t12.C.Lo,vI t12.C.Hi]) 61) (fun _=>by kernel_rfl))<|.nil) [0,3,4,5,6,7,8,27,28] fun u10 a w' H=>?_
    obtain ⟨t14,ht14,G⟩:=qP G
    refine qg qd H (.v 13 (vI x6) <|
 .v 14 (vP ((u10 3).n 0) 0) <|
 .cons [15] (qf (vI t12.Op) 15 28 0 1 ((u10 3).n 0) [vI t12.Op,vI t12.N,vI t12.C.Lo,vI t12.C.Hi] 61) <|
 .cons [16] (qq 61 _ _ 16 [] (fun u13 w _=>ZK.calls t12.Op  t14 w  ht14)) <|
 .v 17 (vI (qc (t14 - 1))) <|
 .v 18 (vI (qc (x6+(qc (t14 - 1))))) <|
 .v 3 (vI (qc (x6+(qc (t14 - 1)))))<|.nil) [0,3,4,6,7,8,27] fun u13 a w' H=>?_
    refine qg qd H (.v 19 (vI (qc (x6+(qc (t14 - 1))))) <|
 .v 20 (.bool ((qc (x6+(qc (t14 - 1)))) == 0))<|.nil) [0,3,4,6,7,8,20,27] fun u15 a w' H=>?_
    refine Qx H ((qc (x6+(qc (t14 - 1)))) == 0) (fun c18=>?_) fun c18=>?_
    ·rw [if_pos c18] at G
     refine qg qd H (.v 21 (vI x7) <|
 .v 22 (vI (qc (x7+1))) <|
 .v 2 (vI (qc (x7+1)))<|.nil) [2] fun u16 a w' H=>?_
     refine qF ?_
     obtain rfl:=sj G
     replace G:=Gj3
     obtain rfl:=sj G
     exact Qr H _ (by kernel_rfl) (by kernel_rfl)
    ·rw [if_neg (nt c18)] at G
     refine Qf ?_
     refine Qt qd H (.v 23 (vI (qc (x7+1))) <|
 .v 8 (vI (qc (x7+1)))<|.nil) [0,3,6,7,8,27] fun u17 a w' H=>?_
     exact ⟨k,Nat.lt_succ_self k,_,_,G,H.toM _⟩
   ·rw [if_neg (nt c19)] at G
    refine Yk rfl ?_
    obtain rfl:=sj G
    exact ⟨_,rfl,H.toM _⟩
theorem XE.calls (k0:Nat) (a0:List qu) (p_a0:Option Addr) (c_a0:Nat) (r:List (List qu)) (w:World) (hF:Xx [qB qk 4 p_a0 c_a0 a0 qr] w) (G:XE k0 a0=some r) :
  Calls Tryz.prog 36 #[.slice p_a0 a0.length c_a0] w fun e w'=>∃ g:Gh,e = .returned (slgd_S_TNode g 0 r)∧Zg (Y4 []) w w'∧Ys w.heap.size (Y4 []) (JH w.heap.size [qB qk 4 p_a0 c_a0 a0 qr]) [fun _=>Qm 59 1 (g.o 0) (g.n 0) (dlgd_S_TNode g 0 r) Qs,fun fr=>X7 fr QQ.toPart (dlgd_S_TNode g 0 r)] w':=by
 obtain ⟨fr,hfr,hBf⟩:=VE w [qB qk 4 p_a0 c_a0 a0 qr]
 refine QO (args:=[.slice p_a0 a0.length c_a0]) 30 [(30,qB fr 4 p_a0 c_a0 a0 qr)] (by
  intro x hx
  simp only [List.mem_cons,List.not_mem_nil,or_false] at hx
  rcases hx with rfl
  exact qy (qj hF.1) (fun j h=>by rw [hfr]; exact .inr ⟨_,(.head _),h⟩) (by decide) _) Tryz.func36 rfl (by kernel_rfl) (by kernel_rfl) fun a H=>?_
 unfold XE at G
 refine qg qd H (.v 2 (.slice none 0 0)<|.nil) [0,30] fun u1 a w' H=>?_
 refine qg qd H (.v 3 (.slice none 0 0)<|.nil) [0,3,30] fun u2 a w' H=>?_
 refine qg qd H (.v 4 (vI 1)<|.nil) [0,3,4,30] fun u3 a w' H=>?_
 refine qv ?_
 obtain ⟨j5,hj5,G⟩:=qP G
 refine Xq (fun a w'=>∃ (p_j4:Option Addr) (c_j4 np_j4:Nat) (L_j4:List (Sl qu)),np_j4=L_j4.length∧j5=L_j4.map Sl.l∧RL w 30 [(3,sS p_j4 np_j4 c_j4),(900059,X6 59 1 p_j4 np_j4 c_j4 (L_j4.flatMap Qs)),(900060,X7 fr QQ.toPart L_j4)] a w') ?_ ?_
 ·clear H; rintro a w' ⟨p_j4,c_j4,_,L_j4,rfl,h_j4,H⟩
  refine qg qd H (.v 29 (.slice p_j4 L_j4.length c_j4) <|
 .v 2 (.slice p_j4 L_j4.length c_j4)<|.nil) [2,900059,900060] fun u6 a w' H=>?_
  refine qF ?_
  obtain rfl:=sj G
  obtain ⟨g,o0,n0,d0⟩:=qb6 Qo p_j4 c_j4 h_j4
  refine QR H _ g _ _ _ fr [900059,900060] [] (.slice p_j4 L_j4.length c_j4) [fun _=>Qm 59 1 p_j4 c_j4 L_j4 Qs,fun fr=>X7 fr QQ.toPart L_j4] (by simp only [slgd_S_TNode,dlgd_S_TNode,ns_en_TNodeg,Xd,Zc,Qm,o0,n0,d0]) (by simp only [slgd_S_TNode,dlgd_S_TNode,ns_en_TNodeg,Xd,Zc,Qm,o0,n0,d0]) hfr (.inl ⟨rfl,rfl⟩) (ql Qw (ql J4 qC)) (by simp)
 ·clear G; replace G:=hj5; clear hj5
  refine qv ?_
  replace G:=gd G; obtain ⟨b8,G⟩:=G
  obtain ⟨t9,ht9,G⟩:=qP G
  obtain ⟨t10,ht10,G⟩:=qP G
  refine Qt qd H (.v 6 (.slice p_a0 a0.length c_a0) <|
 .cons [7] (qG 30 (qB fr 4 p_a0 c_a0 a0 qr) (.pointer (some ⟨Xf p_a0,Xg p_a0+((0:Int).toNat) * 4,none⟩)) 7 fun _ w h=>Jo 59 .i64 (0:Int) p_a0 a0.length c_a0 a0 qr (qj h).2 QJ rfl b8) <|
 .v 8 (.pointer (some ⟨Xf p_a0,Xg p_a0+((0:Int).toNat) * 4+0,none⟩)) <|
 .cons [9] (qG 30 (qB fr 4 p_a0 c_a0 a0 qr) (vI t9.Op) 9 fun _ w h=>Ym qr (qj h).2 QJ ht9 0 1 [vI t9.Op]) <|
 .cons [10] (qq 61 _ _ 10 [] (fun u7 w _=>ZK.calls t9.Op  t10 w  ht10)) <|
 .v 11 (vI 0)<|.nil) [0,3,4,10,11,30] fun u7 a w' H=>?_
  refine q6 ?_
  replace H:=H.nil_row 37 59 1
  replace H:=H.add0 38 (X7 fr QQ.toPart ([]:List (Sl qu))) (by intro _ _ h; cases h) (Z3 Wd (fun j h=>by obtain ⟨_,hy,_⟩:=h; cases hy)) (fun j h=>by obtain ⟨_,hy,_⟩:=h; cases hy)
  replace H:=H.move (K:=X6 59 1 none 0 0 (([]:List (Sl qu)).flatMap Qs)) 37 900061 (by kernel_rfl) (by intro _ _ h; cases h)
  replace H:=H.dup (K:=X7 fr QQ.toPart ([]:List (Sl qu))) 38 900062 (by kernel_rfl) (fun h=>h) (by intro _ _ h; cases h)
  refine XP (fun m a w'=>∃ x11:List (List qu),∃ x12:Int,∃ x13:Int,XE.l14 k0 a0 t9 t10 m x11 x12 x13=some j5 ∧ ∃ (p_x11:Option Addr) (c_x11 np_x11:Nat) (L_x11:List (Sl qu)),np_x11=L_x11.length∧x11=L_x11.map Sl.l∧RL w 30 [(0,sS p_a0 a0.length c_a0),(3,sS p_x11 np_x11 c_x11),(4,sI x12),(10,sI t10),(11,sI x13),(30,qB fr 4 p_a0 c_a0 a0 qr),(900061,X6 59 1 p_x11 np_x11 c_x11 (L_x11.flatMap Qs)),(900062,X7 fr QQ.toPart L_x11)] a w') k0 ⟨_,_,_,G,none,0,0,([]:List (Sl qu)),rfl,rfl,H.toM _⟩ ?_
  clear G H
  rintro (_ | k) a w' ⟨x11,x12,x13,G,p_x11,c_x11,_,L_x11,rfl,h_x11,H⟩
  ·exact absurd G (by unfold XE.l14; exact fun h=>by cases h)
  ·unfold XE.l14 at G
   refine qg qd H (.v 12 (.bool (decide (x13<t10)))<|.nil) [0,3,4,10,11,12,30,900061,900062] fun u15 a w' H=>?_
   refine qv ?_
   refine Qx H (decide (x13<t10)) (fun c24=>?_) fun c24=>?_
   ·rw [if_pos c24] at G
    refine Qf ?_
    refine qv ?_
    refine q6 ?_
    refine qv ?_
    replace G:=gd G; obtain ⟨b17,G⟩:=G
    obtain ⟨t18,ht18,G⟩:=qP G
    refine Qt qd H (.v 13 (vI x12) <|
 .v 14 (.slice p_a0 a0.length c_a0) <|
 .v 15 (vI x12) <|
 .cons [16] (Zq [30] (fun u16=>[qB fr 4 p_a0 c_a0 a0 qr]) (fun u16=>.slice (X8 p_a0 x12.toNat 4 c_a0) ((a0.drop x12.toNat).length) (c_a0 - x12.toNat)) (fun u16=>true) [true,true] 16 (fun u16 w _ hF=>Zz (by kernel_rfl) (qc5 (t:=59) (sz:=4) (l:=a0) (k:=.i64) rfl b17))) <|
 .cons [17] (QX [30] (fun u16=>[qB fr 4 p_a0 c_a0 a0 qr]) 62 _ _ 17 (fun u16 w hF=>XM.calls k0 (a0.drop x12.toNat) (X8 p_a0 x12.toNat 4 c_a0) (c_a0 - x12.toNat) t18 w  ⟨(Z9 (XO.low (en:=qr) (qj hF.1) QJ b17)),trivial⟩ ht18)) <|
 .v 18 (vI (qc (x12+t18))) <|
 .v 5 (vI (qc (x12+t18)))<|.nil) [0,3,4,5,10,11,30,900061,900062] fun u16 a w' H=>?_
    refine qv ?_
    replace G:=gd G; obtain ⟨b20,G⟩:=G
    replace G:=gd G; obtain ⟨b21,G⟩:=G
    refine Qt qd H (.v 19 (.slice p_x11 L_x11.length c_x11) <|
 .v 20 (.slice p_a0 a0.length c_a0) <|
 .v 21 (vI x12) <|
 .v 22 (vI (qc (x12+t18))) <|
 .v 23 (vI (qc (x12+t18))) <|
 .cons [24] (Zq [30] (fun u19=>[qB fr 4 p_a0 c_a0 a0 qr]) (fun u19=>.slice (X8 p_a0 x12.toNat 4 ((qc (x12+t18)).toNat)) (((a0.take (qc (x12+t18)).toNat).drop x12.toNat).length) ((qc (x12+t18)).toNat - x12.toNat)) (fun u19=>true) [true,true,true,true] 24 (fun u19 w _ hF=>Zz (by kernel_rfl) (qdb (t:=59) (sz:=4) (l:=a0) (k:=.i64) (k':=.i64) (k2:=.i64) rfl b20 (qj hF.1).1))) <|
 .cons [25,31] (qs (fun b=>.slice (some ⟨b,0,none⟩) 1 1) (fun u19=>[.slice (X8 p_a0 x12.toNat 4 ((qc (x12+t18)).toNat)) (((a0.take (qc (x12+t18)).toNat).drop x12.toNat).length) ((qc (x12+t18)).toNat - x12.toNat)]) 59 25 31) <|
 .cons [26,900061,900061,32] (qcG [6] [900062,31,30] (fun u19=>[X7 fr QQ.toPart L_x11,.blk ((u19 6).n 0) [.slice (X8 p_a0 x12.toNat 4 ((qc (x12+t18)).toNat)) (((a0.take (qc (x12+t18)).toNat).drop x12.toNat).length) ((qc (x12+t18)).toNat - x12.toNat)] 59,qB fr 4 p_a0 c_a0 a0 qr]) 900061 32 (fun u19=>Qm 59 1 p_x11 c_x11 L_x11 Qs) (some 26) (fun u19 g=>.slice (g.o 0) (L_x11++[(⟨(X8 p_a0 x12.toNat 4 ((qc (x12+t18)).toNat)),((qc (x12+t18)).toNat - x12.toNat),((a0.take (qc (x12+t18)).toNat).drop x12.toNat)⟩:Sl qu)]).length (g.n 0)) (fun u19 g=>Qm 59 1 (g.o 0) (g.n 0) (L_x11++[(⟨(X8 p_a0 x12.toNat 4 ((qc (x12+t18)).toNat)),((qc (x12+t18)).toNat - x12.toNat),((a0.take (qc (x12+t18)).toNat).drop x12.toNat)⟩:Sl qu)]) Qs) (fun u19 g=>X7 fr QQ.toPart (L_x11++[(⟨(X8 p_a0 x12.toNat 4 ((qc (x12+t18)).toNat)),((qc (x12+t18)).toNat - x12.toNat),((a0.take (qc (x12+t18)).toNat).drop x12.toNat)⟩:Sl qu)])) (fun u19 w hF hK=>qcS (Yy (t:=41) (ty:=41) (en:=Qs) qR qfp (Qe hK) hF.2.1 (news:=[(⟨(X8 p_a0 x12.toNat 4 ((qc (x12+t18)).toNat)),((qc (x12+t18)).toNat - x12.toNat),((a0.take (qc (x12+t18)).toNat).drop x12.toNat)⟩:Sl qu)]) rfl (by simp) (by kernel_rfl) (by rw [← qT h_x11]; exact b21)) (qeJ hF.1 (.head _) ⟨(XO.lohim (en:=qr) (qj hF.2.2.1) QJ b20),fun _ _=>trivial⟩ (fun j h=>(h.elim (fun h=>ZN (.tail _ (.tail _ (.head _))) (fun h=>h) (Zb (by simp only [List.length_drop,List.length_take]; omega) h) (Y7 hF.2.2.1 _ (Zb (by simp only [List.length_drop,List.length_take]; omega) h))) (fun ⟨_,_,hz⟩=>hz.elim))))) (hloc:=fun u u' h=>⟨by first | rfl | simp only [h 6 (by decide)],by first | rfl | simp only [h 6 (by decide)],by first | rfl | simp only [h 6 (by decide)],by first | rfl | simp only [h 6 (by decide)],by first | rfl | simp only [h 6 (by decide)]⟩)) <|
 .cons [3] (qn (fun u19=>.slice ((u19 7).o 0) ((L_x11++[(⟨(X8 p_a0 x12.toNat 4 ((qc (x12+t18)).toNat)),((qc (x12+t18)).toNat - x12.toNat),((a0.take (qc (x12+t18)).toNat).drop x12.toNat)⟩:Sl qu)]).length) ((u19 7).n 0)) 3)<|.nil) [0,3,5,10,11,30,32,900061] fun u19 a w' H=>?_
    refine Qt qd H (.v 27 (vI (qc (x12+t18))) <|
 .v 4 (vI (qc (x12+t18)))<|.nil) [0,3,4,10,11,30,32,900061] fun u22 a w' H=>?_
    refine Qt qd H (.v 28 (vI (qc (x13+1))) <|
 .v 11 (vI (qc (x13+1)))<|.nil) [0,3,4,10,11,30,32,900061] fun u23 a w' H=>?_
    replace H:=H.dup (K:=X7 fr QQ.toPart (L_x11++[(⟨(X8 p_a0 x12.toNat 4 ((qc (x12+t18)).toNat)),((qc (x12+t18)).toNat - x12.toNat),((a0.take (qc (x12+t18)).toNat).drop x12.toNat)⟩:Sl qu)])) 32 900062 (by kernel_rfl) (fun h=>h) (by intro _ _ h; cases h)
    exact ⟨k,Nat.lt_succ_self k,_,_,_,G,((u19 7).o 0),((u19 7).n 0),(L_x11++[(⟨(X8 p_a0 x12.toNat 4 ((qc (x12+t18)).toNat)),((qc (x12+t18)).toNat - x12.toNat),((a0.take (qc (x12+t18)).toNat).drop x12.toNat)⟩:Sl qu)]).length,(L_x11++[(⟨(X8 p_a0 x12.toNat 4 ((qc (x12+t18)).toNat)),((qc (x12+t18)).toNat - x12.toNat),((a0.take (qc (x12+t18)).toNat).drop x12.toNat)⟩:Sl qu)]),rfl,(qa8 h_x11 (⟨(X8 p_a0 x12.toNat 4 ((qc (x12+t18)).toNat)),((qc (x12+t18)).toNat - x12.toNat),((a0.take (qc (x12+t18)).toNat).drop x12.toNat)⟩:Sl qu)),H.toM _⟩
   ·rw [if_neg (nt c24)] at G
    refine Yk rfl ?_
    obtain rfl:=sj G
    replace H:=H.move (K:=Qm 59 1 p_x11 c_x11 L_x11 Qs) 900061 900059 (by kernel_rfl) (by intro _ _ h; cases h)
    replace H:=H.dup (K:=X7 fr QQ.toPart L_x11) 900062 900060 (by kernel_rfl) (fun h=>h) (by intro _ _ h; cases h)
    exact ⟨p_x11,c_x11,L_x11.length,L_x11,rfl,h_x11,H.toM _⟩
theorem Xi.calls (a0_0:List qh) (a0_1:List (qh × Int)) (a1:qh) (b_a0:Nat) (p_a0_0:Option Addr) (c_a0_0:Nat) (b_a0_1:Nat) (r:Int × List qh × (List (qh × Int))) (w:World) (hM:VS [Qm 110 5 p_a0_0 c_a0_0 a0_0 qi,VJ b_a0_1 qU .i64 a0_1,.blk b_a0 [.slice p_a0_0 a0_0.length c_a0_0,.map (some b_a0_1)] 107] ([]++[]) w) (G:Xi a0_0 a0_1 a1=some r) :
  Calls Tryz.prog 37 #[vP b_a0 0,.agg #[vI a1.Op,vI a1.A,vI a1.B,vI a1.C.Lo,vI a1.C.Hi]] w fun e w'=>∃ g:Gh,e = .returned (vI r.1)∧Zg (Y4 [Qm 110 5 p_a0_0 c_a0_0 a0_0 qi,VJ b_a0_1 qU .i64 a0_1,.blk b_a0 [.slice p_a0_0 a0_0.length c_a0_0,.map (some b_a0_1)] 107]) w w'∧Ys w.heap.size (Y4 [Qm 110 5 p_a0_0 c_a0_0 a0_0 qi,VJ b_a0_1 qU .i64 a0_1,.blk b_a0 [.slice p_a0_0 a0_0.length c_a0_0,.map (some b_a0_1)] 107]) (JH w.heap.size []) [fun _=>Qm 110 5 (g.o 0) (g.n 0) r.2.1 qi,fun _=>.blk b_a0 [.slice (g.o 0) r.2.1.length (g.n 0),.map (some b_a0_1)] 107,fun _=>VJ b_a0_1 qU .i64 r.2.2] w':=by
 obtain ⟨fr,hfr,hBf⟩:=VE w []
 refine Vl (args:=[vP b_a0 0,.agg #[vI a1.Op,vI a1.A,vI a1.B,vI a1.C.Lo,vI a1.C.Hi]]) 43 [] [(44,Qm 110 5 p_a0_0 c_a0_0 a0_0 qi),(45,VJ b_a0_1 qU .i64 a0_1),(43,.blk b_a0 [.slice p_a0_0 a0_0.length c_a0_0,.map (some b_a0_1)] 107)] (Vp hM (by rfl)) (fun x hx=>by cases hx) (by rfl) Tryz.func37 rfl (by kernel_rfl) (by kernel_rfl) fun a H=>?_
 unfold Xi at G
 refine qg qd H (.cons [3,46] (qs (fun b=>vP b 0) (fun u1=>[vI a1.Op,vI a1.A,vI a1.B,vI a1.C.Lo,vI a1.C.Hi]) 110 3 46) <|
 .v 4 (vI 0)<|.nil) [0,3,43,44,45,46,999998] fun u1 a w' H=>?_
 refine qv ?_
 obtain ⟨z3,hz3,G⟩:=qP G
 replace hz3:=Option.some.inj hz3
 refine qg qd H (.v 9 (vP b_a0 0) <|
 .v 10 (vP b_a0 0) <|
 .v 11 (vP b_a0 1) <|
 .cons [12] (qf (.map (some b_a0_1)) 12 43 1 1 b_a0 [.slice p_a0_0 a0_0.length c_a0_0,.map (some b_a0_1)] 107) <|
 .cons [13] (qf (.agg #[vI a1.Op,vI a1.A,vI a1.B,vI a1.C.Lo,vI a1.C.Hi]) 13 46 0 5 ((u1 0).n 0) [vI a1.Op,vI a1.A,vI a1.B,vI a1.C.Lo,vI a1.C.Hi] 110) <|
 .cons [14] (qG 45 (VJ b_a0_1 qU .i64 a0_1) (.tuple #[vI ((Z8 a0_1 (⟨a1.Op,a1.A,a1.B,(⟨a1.C.Lo,a1.C.Hi⟩:qb)⟩:qh)).getD 0),.bool ((Z8 a0_1 (⟨a1.Op,a1.A,a1.B,(⟨a1.C.Lo,a1.C.Hi⟩:qb)⟩:qh)).isSome)]) 14 fun _ w h=>qfk (t:=105) (e:=3) (x:=(⟨a1.Op,a1.A,a1.B,(⟨a1.C.Lo,a1.C.Hi⟩:qb)⟩:qh)) JU (J1 h)) <|
 .v 8 (.tuple #[vI ((Z8 a0_1 (⟨a1.Op,a1.A,a1.B,(⟨a1.C.Lo,a1.C.Hi⟩:qb)⟩:qh)).getD 0),.bool ((Z8 a0_1 (⟨a1.Op,a1.A,a1.B,(⟨a1.C.Lo,a1.C.Hi⟩:qb)⟩:qh)).isSome)]) <|
 .cons [15] (QL (u':=fun u2=>[(15,sI z3)]) (qn (fun u2=>vI ((Z8 a0_1 (⟨a1.Op,a1.A,a1.B,(⟨a1.C.Lo,a1.C.Hi⟩:qb)⟩:qh)).getD 0)) 15) (fun _=>by rw [← hz3])) <|
 .v 16 (.bool ((Z8 a0_1 (⟨a1.Op,a1.A,a1.B,(⟨a1.C.Lo,a1.C.Hi⟩:qb)⟩:qh)).isSome)) <|
 .v 5 (vI z3) <|
 .v 6 (.bool ((Z8 a0_1 (⟨a1.Op,a1.A,a1.B,(⟨a1.C.Lo,a1.C.Hi⟩:qb)⟩:qh)).isSome))<|.nil) [0,3,5,6,43,44,45,46,999998] fun u2 a w' H=>?_
 refine qg qd H (.v 17 (.bool ((Z8 a0_1 (⟨a1.Op,a1.A,a1.B,(⟨a1.C.Lo,a1.C.Hi⟩:qb)⟩:qh)).isSome))<|.nil) [0,3,5,17,43,44,45,46,999998] fun u4 a w' H=>?_
 refine Qx H (Z8 a0_1 (⟨a1.Op,a1.A,a1.B,(⟨a1.C.Lo,a1.C.Hi⟩:qb)⟩:qh)).isSome (fun c11=>?_) fun c11=>?_
 ·rw [if_pos c11] at G
  refine qg qd H (.v 18 (vI z3) <|
 .v 4 (vI z3)<|.nil) [4,43,44,45,999998] fun u5 a w' H=>?_
  refine qF ?_
  obtain rfl:=sj G
  obtain ⟨g,o0,n0⟩:=ZX p_a0_0 c_a0_0
  refine QR H _ g _ _ _ fr [44,43,45] [] (vI z3) [fun _=>Qm 110 5 p_a0_0 c_a0_0 a0_0 qi,fun _=>.blk b_a0 [.slice p_a0_0 a0_0.length c_a0_0,.map (some b_a0_1)] 107,fun _=>VJ b_a0_1 qU .i64 a0_1] (by simp only [Qm,o0,n0]) (by simp only [Qm,o0,n0]) hfr (.inr (by kernel_rfl)) (ql Qw (ql Zh (ql Ws qC))) (by simp)
 ·rw [if_neg (nt c11)] at G
  refine Qf ?_
  refine qg qd H (.v 19 (vP b_a0 0) <|
 .v 20 (vP b_a0 0) <|
 .v 21 (vP b_a0 0) <|
 .cons [22] (qf (.slice p_a0_0 a0_0.length c_a0_0) 22 43 0 1 b_a0 [.slice p_a0_0 a0_0.length c_a0_0,.map (some b_a0_1)] 107) <|
 .v 23 (vI (a0_0.length:Int)) <|
 .v 7 (vI (a0_0.length:Int))<|.nil) [0,3,7,43,44,45,46,999998] fun u6 a w' H=>?_
  refine qv ?_
  replace G:=gd G; obtain ⟨b8,G⟩:=G
  replace G:=gd G; obtain ⟨b9,G⟩:=G
  refine Qt qd H (.v 24 (vP b_a0 0) <|
 .v 25 (vP b_a0 0) <|
 .v 26 (vP b_a0 0) <|
 .v 27 (vP b_a0 1) <|
 .cons [28] (qf (.map (some b_a0_1)) 28 43 1 1 b_a0 [.slice p_a0_0 a0_0.length c_a0_0,.map (some b_a0_1)] 107) <|
 .cons [29] (qf (.agg #[vI a1.Op,vI a1.A,vI a1.B,vI a1.C.Lo,vI a1.C.Hi]) 29 46 0 5 ((u1 0).n 0) [vI a1.Op,vI a1.A,vI a1.B,vI a1.C.Lo,vI a1.C.Hi] 110) <|
 .v 30 (vP b_a0 0) <|
 .v 31 (vP b_a0 0) <|
 .v 32 (vP b_a0 0) <|
 .cons [33] (qf (.slice p_a0_0 a0_0.length c_a0_0) 33 43 0 1 b_a0 [.slice p_a0_0 a0_0.length c_a0_0,.map (some b_a0_1)] 107) <|
 .cons [34] (qf (.agg #[vI a1.Op,vI a1.A,vI a1.B,vI a1.C.Lo,vI a1.C.Hi]) 34 46 0 5 ((u1 0).n 0) [vI a1.Op,vI a1.A,vI a1.B,vI a1.C.Lo,vI a1.C.Hi] 110) <|
 .cons [35,47] (qs (fun b=>.slice (some ⟨b,0,none⟩) 1 1) (fun u7=>[vI a1.Op,vI a1.A,vI a1.B,vI a1.C.Lo,vI a1.C.Hi]) 110 35 47) <|
 .cons [36,44,44] (XC [11] [47] (fun u7=>[.blk ((u7 11).n 0) [vI a1.Op,vI a1.A,vI a1.B,vI a1.C.Lo,vI a1.C.Hi] 110]) 44 (fun u7=>Qm 110 5 p_a0_0 c_a0_0 a0_0 qi) (some 36) (fun u7 g=>.slice (g.o 0) (a0_0++[(⟨a1.Op,a1.A,a1.B,(⟨a1.C.Lo,a1.C.Hi⟩:qb)⟩:qh)]).length (g.n 0)) (fun u7 g=>Qm 110 5 (g.o 0) (g.n 0) (a0_0++[(⟨a1.Op,a1.A,a1.B,(⟨a1.C.Lo,a1.C.Hi⟩:qb)⟩:qh)]) qi) (fun u7 w hF hK=>J9 (Yy (t:=35) (ty:=35) (en:=qi) Y0 qf1 (Qe hK) hF.1 (news:=[(⟨a1.Op,a1.A,a1.B,(⟨a1.C.Lo,a1.C.Hi⟩:qb)⟩:qh)]) rfl (by simp) (by kernel_rfl) b8)) (hloc:=fun u u' h=>⟨by first | rfl | simp only [h 11 (by decide)],by first | rfl | simp only [h 11 (by decide)],by first | rfl | simp only [h 11 (by decide)],by first | rfl | simp only [h 11 (by decide)]⟩)) <|
 .v 37 (vI (a0_0.length:Int)) <|
 .v 38 (vP b_a0 0) <|
 .v 39 (vP b_a0 0) <|
 .cons [43] (QL (u':=fun u7=>[(43,.blk b_a0 [.slice ((u7 12).o 0) ((a0_0++[(⟨a1.Op,a1.A,a1.B,(⟨a1.C.Lo,a1.C.Hi⟩:qb)⟩:qh)]).length) ((u7 12).n 0),.map (some b_a0_1)] 107)]) (qW 43 0 (fun u7=>b_a0) (fun u7=>[.slice p_a0_0 a0_0.length c_a0_0,.map (some b_a0_1)]) (fun u7=>[.slice ((u7 12).o 0) ((a0_0++[(⟨a1.Op,a1.A,a1.B,(⟨a1.C.Lo,a1.C.Hi⟩:qb)⟩:qh)]).length) ((u7 12).n 0)]) 107) (fun _=>by kernel_rfl)) <|
 .cons [40,45,45] (XC [] [] (fun u7=>[]) 45 (fun u7=>VJ b_a0_1 qU .i64 a0_1) (some 40) (fun u7 g=>.tuple #[vI 0,vI (a0_1.length:Int)]) (fun u7 g=>VJ b_a0_1 qU .i64 (a0_1++[((⟨a1.Op,a1.A,a1.B,(⟨a1.C.Lo,a1.C.Hi⟩:qb)⟩:qh),0)])) (fun u7 w hF hK=>qft hK (qfH (t:=105) (e:=3) (x:=(⟨a1.Op,a1.A,a1.B,(⟨a1.C.Lo,a1.C.Hi⟩:qb)⟩:qh)) JU (J1 hK) b9))) <|
 .v 41 (vI (a0_1.length:Int)) <|
 .cons [45,45] (XC [] [] (fun u7=>[]) 45 (fun u7=>VJ b_a0_1 qU .i64 (a0_1++[((⟨a1.Op,a1.A,a1.B,(⟨a1.C.Lo,a1.C.Hi⟩:qb)⟩:qh),0)])) none (fun u7 g=>.nilFunc) (fun u7 g=>VJ b_a0_1 qU .i64 (a0_1++[((⟨a1.Op,a1.A,a1.B,(⟨a1.C.Lo,a1.C.Hi⟩:qb)⟩:qh),(a0_0.length:Int))])) (fun u7 w hF hK=>qft hK (qfN (t:=105) (l:=a0_1) (x:=(⟨a1.Op,a1.A,a1.B,(⟨a1.C.Lo,a1.C.Hi⟩:qb)⟩:qh)) (J1 hK))))<|.nil) [7,43,44,45,999998] fun u7 a w' H=>?_
  refine qg qd H (.v 42 (vI (a0_0.length:Int)) <|
 .v 4 (vI (a0_0.length:Int))<|.nil) [4,43,44,45,999998] fun u10 a w' H=>?_
  refine qF ?_
  obtain rfl:=sj G
  obtain ⟨g,o0,n0⟩:=ZX ((u7 12).o 0) ((u7 12).n 0)
  refine QR H _ g _ _ _ fr [44,43,45] [] (vI (a0_0.length:Int)) [fun _=>Qm 110 5 ((u7 12).o 0) ((u7 12).n 0) (a0_0++[(⟨a1.Op,a1.A,a1.B,(⟨a1.C.Lo,a1.C.Hi⟩:qb)⟩:qh)]) qi,fun _=>.blk b_a0 [.slice ((u7 12).o 0) ((a0_0++[(⟨a1.Op,a1.A,a1.B,(⟨a1.C.Lo,a1.C.Hi⟩:qb)⟩:qh)]).length) ((u7 12).n 0),.map (some b_a0_1)] 107,fun _=>VJ b_a0_1 qU .i64 (a0_1++[((⟨a1.Op,a1.A,a1.B,(⟨a1.C.Lo,a1.C.Hi⟩:qb)⟩:qh),(a0_0.length:Int))])] (by simp only [Qm,o0,n0]) (by simp only [Qm,o0,n0]) hfr (.inr (by kernel_rfl)) (ql Qw (ql Zh (ql Ws qC))) (by simp)
theorem qz.calls:∀ (k0:Nat) (a0:List qu) (q1_0_0:List qh) (q1_0_1:List (qh × Int)) (p_a0:Option Addr) (c_a0:Nat) (b_q0:Nat) (b_q1:Nat) (b_q1_0:Nat) (p_q1_0_0:Option Addr) (c_q1_0_0:Nat) (b_q1_0_1:Nat) (r:Int × List qh × (List (qh × Int))) (w:World) (hB:Xx [Xp b_q0 [.func (.func 35) #[] #[vP b_q0 0,vP b_q1 0]] 108,Xp b_q1 [vP b_q1_0 0] 104] w) (hF:Xx [qB qk 4 p_a0 c_a0 a0 qr] w) (hM:VS [Qm 110 5 p_q1_0_0 c_q1_0_0 q1_0_0 qi,VJ b_q1_0_1 qU .i64 q1_0_1,.blk b_q1_0 [.slice p_q1_0_0 q1_0_0.length c_q1_0_0,.map (some b_q1_0_1)] 107] ([Xp b_q0 [.func (.func 35) #[] #[vP b_q0 0,vP b_q1 0]] 108,Xp b_q1 [vP b_q1_0 0] 104]++[qB qk 4 p_a0 c_a0 a0 qr]) w) (G:qz k0 a0 q1_0_0 q1_0_1=some r),
  Calls Tryz.prog 35 #[.slice p_a0 a0.length c_a0,vP b_q0 0,vP b_q1 0] w fun e w'=>∃ g:Gh,e = .returned (vI r.1)∧Zg (Y4 [Qm 110 5 p_q1_0_0 c_q1_0_0 q1_0_0 qi,VJ b_q1_0_1 qU .i64 q1_0_1,.blk b_q1_0 [.slice p_q1_0_0 q1_0_0.length c_q1_0_0,.map (some b_q1_0_1)] 107]) w w'∧Ys w.heap.size (Y4 [Qm 110 5 p_q1_0_0 c_q1_0_0 q1_0_0 qi,VJ b_q1_0_1 qU .i64 q1_0_1,.blk b_q1_0 [.slice p_q1_0_0 q1_0_0.length c_q1_0_0,.map (some b_q1_0_1)] 107]) (JH w.heap.size [qB qk 4 p_a0 c_a0 a0 qr]) [fun _=>Qm 110 5 (g.o 0) (g.n 0) r.2.1 qi,fun _=>.blk b_q1_0 [.slice (g.o 0) r.2.1.length (g.n 0),.map (some b_q1_0_1)] 107,fun _=>VJ b_q1_0_1 qU .i64 r.2.2] w':=by
 intro k0
 induction k0 with
 | zero=>intros; rename_i G; exact absurd G (by unfold qz; exact fun h=>by cases h)
 | succ k0 IH=>?_
 intro a0 q1_0_0 q1_0_1 p_a0 c_a0 b_q0 b_q1 b_q1_0 p_q1_0_0 c_q1_0_0 b_q1_0_1 r w hB hF hM G
 obtain ⟨fr,hfr,hBf⟩:=VE w [qB qk 4 p_a0 c_a0 a0 qr]
 refine Vl (args:=[.slice p_a0 a0.length c_a0,vP b_q0 0,vP b_q1 0]) 47 [(48,Xp b_q0 [.func (.func 35) #[] #[vP b_q0 0,vP b_q1 0]] 108),(49,Xp b_q1 [vP b_q1_0 0] 104),(47,qB fr 4 p_a0 c_a0 a0 qr)] [(51,Qm 110 5 p_q1_0_0 c_q1_0_0 q1_0_0 qi),(52,VJ b_q1_0_1 qU .i64 q1_0_1),(50,.blk b_q1_0 [.slice p_q1_0_0 q1_0_0.length c_q1_0_0,.map (some b_q1_0_1)] 107)] (Vp hM (by rfl)) (by
  intro x hx
  simp only [List.mem_cons,List.not_mem_nil,or_false] at hx
  rcases hx with rfl | rfl | rfl
  ·exact QV (hB.1 w (agree.refl _ _)) _
  ·exact QV (hB.2.1 w (agree.refl _ _)) _
  ·exact qy (qj hF.1) (fun j h=>by rw [hfr]; exact .inr ⟨_,(.head _),h⟩) (by decide) _) (by rfl) Tryz.func35 rfl (by kernel_rfl) (by kernel_rfl) fun a H=>?_
 unfold qz at G
 generalize qz k0=rec at G IH
 unfold qz.body at G
 refine qg qd H (.v 4 (vI 0)<|.nil) [0,1,2,47,50,51,52,48,49,999998] fun u1 a w' H=>?_
 refine qv ?_
 replace G:=gd G; obtain ⟨b3,G⟩:=G
 obtain ⟨t4,ht4,G⟩:=qP G
 have P5:=Xh (en:=qr) (l:=a0) (qj (H.at (K:=qB fr 4 p_a0 c_a0 a0 qr) 47 (by kernel_rfl))).2 QJ
 replace G:=gd G; obtain ⟨b6,G⟩:=G
 obtain ⟨t7,ht7,G⟩:=qP G
 refine Qt qd H (.v 9 (.slice p_a0 a0.length c_a0) <|
 .cons [10] (qn (fun u2=>.pointer (some ⟨Xf p_a0,Xg p_a0+((0:Int).toNat) * 4,none⟩)) 10 (hv:=fun _ _=>qM (t:=59) (k:=.i64) (i:=(0:Int)) (p:=p_a0) (n:=a0.length) (cap:=c_a0) (x:=a0) P5 rfl b3 (by kernel_rfl))) <|
 .v 11 (.pointer (some ⟨Xf p_a0,Xg p_a0+((0:Int).toNat) * 4+0,none⟩)) <|
 .cons [12] (qG 47 (qB fr 4 p_a0 c_a0 a0 qr) (vI t4.Op) 12 fun _ w h=>Ym qr (qj h).2 QJ ht4 0 1 [vI t4.Op]) <|
 .v 13 (.slice p_a0 a0.length c_a0) <|
 .cons [14] (qn (fun u2=>.pointer (some ⟨Xf p_a0,Xg p_a0+((0:Int).toNat) * 4,none⟩)) 14 (hv:=fun _ _=>qM (t:=59) (k:=.i64) (i:=(0:Int)) (p:=p_a0) (n:=a0.length) (cap:=c_a0) (x:=a0) P5 rfl b6 (by kernel_rfl))) <|
 .v 15 (.pointer (some ⟨Xf p_a0,Xg p_a0+((0:Int).toNat) * 4+2,none⟩)) <|
 .cons [16] (qG 47 (qB fr 4 p_a0 c_a0 a0 qr) (.agg #[vI t7.C.Lo,vI t7.C.Hi]) 16 fun _ w h=>Ym qr (qj h).2 QJ ht7 2 2 [vI t7.C.Lo,vI t7.C.Hi]) <|
 .v 17 (.agg #[vI t4.Op,vI 0,vI 0,vI t7.C.Lo,vI t7.C.Hi]) <|
 .cons [5,53] (qs (fun b=>vP b 0) (fun u2=>[vI 0,vI 0,vI 0,vI 0,vI 0]) 110 5 53) <|
 .cons [53] (QL (u':=fun u2=>[(53,.blk ((u2 9).n 0) [vI t4.Op,vI 0,vI 0,vI t7.C.Lo,vI t7.C.Hi] 110)]) (qW 53 0 (fun u2=>((u2 9).n 0)) (fun u2=>[vI 0,vI 0,vI 0,vI 0,vI 0]) (fun u2=>[vI t4.Op,vI 0,vI 0,vI t7.C.Lo,vI t7.C.Hi]) 110) (fun _=>by kernel_rfl))<|.nil) [0,1,2,5,47,50,51,52,53,48,49,999998] fun u2 a w' H=>?_
 refine qv ?_
 obtain ⟨j9,hj9,G⟩:=qP G
 refine Xq (fun a w'=>QS 0 w 47 (Jl [(0,sS p_a0 a0.length c_a0),(1,sP b_q0 0),(2,sP b_q1 0),(5,(sP ((u2 9).n 0) 0)),(47,qB fr 4 p_a0 c_a0 a0 qr),(50,.blk b_q1_0 [.slice p_q1_0_0 q1_0_0.length c_q1_0_0,.map (some b_q1_0_1)] 107),(51,Qm 110 5 p_q1_0_0 c_q1_0_0 q1_0_0 qi),(52,VJ b_q1_0_1 qU .i64 q1_0_1),(53,.blk ((u2 9).n 0) [vI t4.Op,vI j9,vI 0,vI t7.C.Lo,vI t7.C.Hi] 110),(48,Xp b_q0 [.func (.func 35) #[] #[vP b_q0 0,vP b_q1 0]] 108),(49,Xp b_q1 [vP b_q1_0 0] 104),(999998,frM [Qm 110 5 p_q1_0_0 c_q1_0_0 q1_0_0 qi,VJ b_q1_0_1 qU .i64 q1_0_1,.blk b_q1_0 [.slice p_q1_0_0 q1_0_0.length c_q1_0_0,.map (some b_q1_0_1)] 107] w)]) a w') ?_ ?_
 ·clear H; intro a w' H
  refine qv ?_
  obtain ⟨j14,hj14,G⟩:=qP G
  refine Xq (fun a w'=>∃ (p_j10:Option Addr) (c_j10 np_j10:Nat),np_j10=j14.1.length∧QS 0 w 47 (Jl [(2,sP b_q1 0),(5,(sP ((u2 9).n 0) 0)),(50,.blk b_q1_0 [.slice p_j10 np_j10 c_j10,.map (some b_q1_0_1)] 107),(52,VJ b_q1_0_1 qU .i64 j14.2.2.2),(53,.blk ((u2 9).n 0) [vI t4.Op,vI j14.2.1,vI j14.2.2.1,vI t7.C.Lo,vI t7.C.Hi] 110),(900064,X6 110 5 p_j10 np_j10 c_j10 (j14.1.flatMap qi)),(48,Xp b_q0 [.func (.func 35) #[] #[vP b_q0 0,vP b_q1 0]] 108),(49,Xp b_q1 [vP b_q1_0 0] 104),(999998,frM [Qm 110 5 p_q1_0_0 c_q1_0_0 q1_0_0 qi,VJ b_q1_0_1 qU .i64 q1_0_1,.blk b_q1_0 [.slice p_q1_0_0 q1_0_0.length c_q1_0_0,.map (some b_q1_0_1)] 107] w)]) a w') ?_ ?_
  ·clear H; rintro a w' ⟨p_j10,c_j10,_,rfl,H⟩
   obtain ⟨t16,ht16,G⟩:=qP G
   refine qg qd H (.cons [44] (Q8 (fun u15=>vP b_q1_0 0) 44 49 (Xp b_q1 [vP b_q1_0 0] 104) b_q1 0 1 [vP b_q1_0 0] (fun w h=>Zf h)) <|
 .cons [45] (qf (.agg #[vI t4.Op,vI j14.2.1,vI j14.2.2.1,vI t7.C.Lo,vI t7.C.Hi]) 45 53 0 5 ((u2 9).n 0) [vI t4.Op,vI j14.2.1,vI j14.2.2.1,vI t7.C.Lo,vI t7.C.Hi] 110) <|
 .cons [46,900064,52,50,54,50,52] (QI false fr [] [] (fun u15=>[]) [900064,52,50] (fun u15=>[Qm 110 5 p_j10 c_j10 j14.1 qi,VJ b_q1_0_1 qU .i64 j14.2.2.2,.blk b_q1_0 [.slice p_j10 j14.1.length c_j10,.map (some b_q1_0_1)] 107]) 37 _ (fun u15=>[]) _ _ _ [54,50,52] 46 (fun u15 w hB hF hM=>Xi.calls j14.1 j14.2.2.2 (⟨t4.Op,j14.2.1,j14.2.2.1,(⟨t7.C.Lo,t7.C.Hi⟩:qb)⟩:qh) b_q1_0 p_j10 c_j10 b_q1_0_1 t16 w  hM ht16) (fun u15 w hF=>⟨trivial,trivial⟩) (fun u15 g=>(ql Qw (ql Zh (ql Ws qC)))) (.inr (fun u15 g=>(Qv trivial (Qv trivial (Qv trivial (fun K h=>by cases h)))))) (fun h=>by cases h)) <|
 .v 4 (vI t16.1)<|.nil) [4,50,52,54,48,49,999998] fun u15 a w' H=>?_
   refine qF ?_
   obtain rfl:=sj G
   obtain ⟨g,o0,n0⟩:=ZX ((u15 2).o 0) ((u15 2).n 0)
   refine QR H _ g _ _ _ fr [54,50,52] [] (vI t16.1) [fun _=>Qm 110 5 ((u15 2).o 0) ((u15 2).n 0) t16.2.1 qi,fun _=>.blk b_q1_0 [.slice ((u15 2).o 0) t16.2.1.length ((u15 2).n 0),.map (some b_q1_0_1)] 107,fun _=>VJ b_q1_0_1 qU .i64 t16.2.2] (by simp only [Qm,o0,n0]) (by simp only [Qm,o0,n0]) hfr (.inr (by kernel_rfl)) (ql Qw (ql Zh (ql Ws qC))) (by simp)
  ·clear G; replace G:=hj14; clear hj14
   obtain ⟨t18,ht18,G⟩:=qP G
   refine qg qd H (.v 26 (.slice p_a0 a0.length c_a0) <|
 .cons [27,55,56] (QI true fr [] [47] (fun u17=>[qB fr 4 p_a0 c_a0 a0 qr]) [] (fun u17=>[]) 36 _ (fun u17=>[]) _ _ _ [55,56] 27 (fun u17 w hB hF hM=>XE.calls k0 a0 p_a0 c_a0 t18 w  hF ht18) (fun u17 w hF=>⟨trivial,⟨Zx (qj hF.1) (fun j h=>ZN (.head _) (fun h=>h) h (Y7 hF.1 _ h)),trivial⟩⟩) (fun u17 g=>(ql Qw (ql J4 qC))) (.inl rfl) (fun _=>hBf)) <|
 .cons [28] (Zq [55] (fun u17=>[Qm 59 1 ((u17 1).o 0) ((u17 1).n 0) (dlgd_S_TNode (u17 1) 0 t18) Qs]) (fun u17=>vI (t18.length:Int)) (fun u17=>true) [true] 28 (fun u17 w hg hF=>Yt (((qw (Qe hF.1)).2.len qR (by decide)).trans (qT (XL ZJ (u17 1) 0 t18)).symm) (by kernel_rfl))) <|
 .v 29 (vI 0)<|.nil) [1,2,5,27,28,29,50,51,52,53,55,56,48,49,999998] fun u17 a w' H=>?_
   refine q6 ?_
   replace H:=H.move (K:=Qm 110 5 p_q1_0_0 c_q1_0_0 q1_0_0 qi) 51 900065 (by kernel_rfl) (by intro _ _ h; cases h)
   refine XP (fun m a w'=>∃ x19:List qh,∃ x20:Int,∃ x21:Int,∃ x22:List (qh × Int),∃ x23:Int,qz.l24 k0 rec a0 q1_0_0 q1_0_1 t4 t7 j9 t18 m x19 x20 x21 x22 x23=some j14 ∧ ∃ (p_x19:Option Addr) (c_x19 np_x19:Nat),np_x19=x19.length∧QS 0 w 47 (Jl [(1,sP b_q0 0),(2,sP b_q1 0),(5,(sP ((u2 9).n 0) 0)),(27,(sS ((u17 1).o 0) ((dlgd_S_TNode (u17 1) 0 t18).length) ((u17 1).n 0))),(28,(sI (t18.length:Int))),(29,sI x23),(50,.blk b_q1_0 [.slice p_x19 np_x19 c_x19,.map (some b_q1_0_1)] 107),(52,VJ b_q1_0_1 qU .i64 x22),(53,.blk ((u2 9).n 0) [vI t4.Op,vI x20,vI x21,vI t7.C.Lo,vI t7.C.Hi] 110),(55,Qm 59 1 ((u17 1).o 0) ((u17 1).n 0) (dlgd_S_TNode (u17 1) 0 t18) Qs),(56,X7 fr QQ.toPart (dlgd_S_TNode (u17 1) 0 t18)),(900065,X6 110 5 p_x19 np_x19 c_x19 (x19.flatMap qi)),(48,Xp b_q0 [.func (.func 35) #[] #[vP b_q0 0,vP b_q1 0]] 108),(49,Xp b_q1 [vP b_q1_0 0] 104),(999998,frM [Qm 110 5 p_q1_0_0 c_q1_0_0 q1_0_0 qi,VJ b_q1_0_1 qU .i64 q1_0_1,.blk b_q1_0 [.slice p_q1_0_0 q1_0_0.length c_q1_0_0,.map (some b_q1_0_1)] 107] w)]) a w') k0 ⟨_,_,_,_,_,G,p_q1_0_0,c_q1_0_0,q1_0_0.length,rfl,H.toM _⟩ ?_
   clear G H
   rintro (_ | k) a w' ⟨x19,x20,x21,x22,x23,G,p_x19,c_x19,_,rfl,H⟩
   ·exact absurd G (by unfold qz.l24; exact fun h=>by cases h)
   ·unfold qz.l24 at G
    refine qg qd H (.v 30 (.bool (decide (x23<(t18.length:Int))))<|.nil) [1,2,5,27,28,29,30,50,52,53,55,56,900065,48,49,999998] fun u25 a w' H=>?_
    refine qv ?_
    refine Qx H (decide (x23<(t18.length:Int))) (fun c41=>?_) fun c41=>?_
    ·rw [if_pos c41] at G
     refine Qf ?_
     refine qv ?_
     obtain ⟨j30,hj30,G⟩:=qP G
     refine Xq (fun a w'=>∃ (p_j26:Option Addr) (c_j26 np_j26:Nat),np_j26=j30.1.length∧QS 0 w 47 (Jl [(1,sP b_q0 0),(2,sP b_q1 0),(5,(sP ((u2 9).n 0) 0)),(27,(sS ((u17 1).o 0) ((dlgd_S_TNode (u17 1) 0 t18).length) ((u17 1).n 0))),(28,(sI (t18.length:Int))),(29,sI x23),(50,.blk b_q1_0 [.slice p_j26 np_j26 c_j26,.map (some b_q1_0_1)] 107),(52,VJ b_q1_0_1 qU .i64 j30.2.2.2),(53,.blk ((u2 9).n 0) [vI t4.Op,vI j30.2.1,vI j30.2.2.1,vI t7.C.Lo,vI t7.C.Hi] 110),(55,Qm 59 1 ((u17 1).o 0) ((u17 1).n 0) (dlgd_S_TNode (u17 1) 0 t18) Qs),(56,X7 fr QQ.toPart (dlgd_S_TNode (u17 1) 0 t18)),(900066,X6 110 5 p_j26 np_j26 c_j26 (j30.1.flatMap qi)),(48,Xp b_q0 [.func (.func 35) #[] #[vP b_q0 0,vP b_q1 0]] 108),(49,Xp b_q1 [vP b_q1_0 0] 104),(999998,frM [Qm 110 5 p_q1_0_0 c_q1_0_0 q1_0_0 qi,VJ b_q1_0_1 qU .i64 q1_0_1,.blk b_q1_0 [.slice p_q1_0_0 q1_0_0.length c_q1_0_0,.map (some b_q1_0_1)] 107] w)]) a w') ?_ ?_
     ·clear H; rintro a w' ⟨p_j26,c_j26,_,rfl,H⟩
      refine Qt qd H (.v 43 (vI (qc (x23+1))) <|
 .v 29 (vI (qc (x23+1)))<|.nil) [1,2,5,27,28,29,50,52,53,55,56,900066,48,49,999998] fun u31 a w' H=>?_
      replace H:=H.move (K:=Qm 110 5 p_j26 c_j26 j30.1 qi) 900066 900065 (by kernel_rfl) (by intro _ _ h; cases h)
      exact ⟨k,Nat.lt_succ_self k,_,_,_,_,_,G,p_j26,c_j26,j30.1.length,rfl,H.toM _⟩
     ·clear G; replace G:=hj30; clear hj30
      refine q6 ?_
      refine qv ?_
      replace G:=gd G; obtain ⟨b33,G⟩:=G
      obtain ⟨t34,ht34,G⟩:=qP G
      obtain ⟨p_t34,c_t34,y_t34⟩:=Yf (XL ZJ (u17 1) 0 t18) ht34
      refine Qt qd H (.v 31 (vI x23) <|
 .cons [32] (qG 55 (Qm 59 1 ((u17 1).o 0) ((u17 1).n 0) (dlgd_S_TNode (u17 1) 0 t18) Qs) (.pointer (some ⟨Xf ((u17 1).o 0),Xg ((u17 1).o 0)+x23.toNat * 1,none⟩)) 32 fun _ w h=>qbb (t:=41) (k:=.i64) (i:=x23) (p:=((u17 1).o 0)) (n:=(dlgd_S_TNode (u17 1) 0 t18).length) (cap:=((u17 1).n 0)) (x:=t18) (en:=Qs) (qw (Qe h)).2 qR (qT (XL ZJ (u17 1) 0 t18)) b33 (by kernel_rfl)) <|
 .cons [33] (qG 55 (Qm 59 1 ((u17 1).o 0) ((u17 1).n 0) (dlgd_S_TNode (u17 1) 0 t18) Qs) (.slice p_t34 t34.length c_t34) 33 fun _ w h=>Ym Qs (qw (Qe h)).2 qR y_t34 0 1 [.slice p_t34 t34.length c_t34]) <|
 .v 6 (vI x23) <|
 .v 7 (.slice p_t34 t34.length c_t34)<|.nil) [1,2,5,6,7,27,28,29,50,52,53,55,56,900065,48,49,999998] fun u32 a w' H=>?_
      obtain ⟨t36,ht36,G⟩:=qP G
      refine qg qd H (.cons [34] (Q8 (fun u35=>.func (.func 35) #[] #[vP b_q0 0,vP b_q1 0]) 34 48 (Xp b_q0 [.func (.func 35) #[] #[vP b_q0 0,vP b_q1 0]] 108) b_q0 0 1 [.func (.func 35) #[] #[vP b_q0 0,vP b_q1 0]] (fun w h=>Zf h)) <|
 .v 35 (.slice p_t34 t34.length c_t34) <|
 .cons [36,900065,52,50,58,50,52] (QI false fr [] [56,48,49] (fun u35=>[X7 fr QQ.toPart (dlgd_S_TNode (u17 1) 0 t18),Xp b_q0 [.func (.func 35) #[] #[vP b_q0 0,vP b_q1 0]] 108,Xp b_q1 [vP b_q1_0 0] 104]) [900065,52,50] (fun u35=>[Qm 110 5 p_x19 c_x19 x19 qi,VJ b_q1_0_1 qU .i64 x22,.blk b_q1_0 [.slice p_x19 x19.length c_x19,.map (some b_q1_0_1)] 107]) 35 _ _ _ _ _ [58,50,52] 36 (fun u35 w hB hF hM=>IH t34 x19 x22 p_t34 c_t34 b_q0 b_q1 b_q1_0 p_x19 c_x19 b_q1_0_1 t36 w  hB hF hM ht36) (fun u35 w hF=>⟨⟨Ze (hF.2.1 w (agree.refl _ _)) (.tail _ (.head _)) rfl,Ze (hF.2.2.1 w (agree.refl _ _)) (.tail _ (.tail _ (.head _))) rfl,trivial⟩,⟨q9 (show XO _ 4 p_t34 t34.length c_t34 (t34.flatMap qr) from ((Xl hF.1) _ (List.mem_of_getElem? y_t34)).1) (fun j h=>⟨_,(.head _),⟨_,(List.mem_of_getElem? y_t34),(.inl h)⟩⟩),trivial⟩⟩) (fun u35 g=>(ql Qw (ql Zh (ql Ws qC)))) (.inr (fun u35 g=>(Qv trivial (Qv trivial (Qv trivial (fun K h=>by cases h)))))) (fun h=>by cases h)) <|
 .v 8 (vI t36.1)<|.nil) [1,2,5,6,8,27,28,29,50,52,53,55,56,58,48,49,999998] fun u35 a w' H=>?_
      refine qg qd H (.v 37 (vI x23) <|
 .v 38 (.bool (x23 == 0))<|.nil) [1,2,5,8,27,28,29,38,50,52,53,55,56,58,48,49,999998] fun u37 a w' H=>?_
      refine Qx H (x23 == 0) (fun c40=>?_) fun c40=>?_
      ·rw [if_pos c40] at G
       refine Qt qd H (.v 39 (vI t36.1) <|
 .v 40 (vP ((u2 9).n 0) 1) <|
 .cons [53] (Qa 53 1 ((u2 9).n 0) [vI t4.Op,vI x20,vI x21,vI t7.C.Lo,vI t7.C.Hi] [vI t36.1] 110 [vI t4.Op,vI t36.1,vI x21,vI t7.C.Lo,vI t7.C.Hi])<|.nil) [1,2,5,27,28,29,50,52,53,55,56,58,48,49,999998] fun u38 a w' H=>?_
       obtain rfl:=sj G
       replace H:=H.move (K:=Qm 110 5 ((u35 2).o 0) ((u35 2).n 0) t36.2.1 qi) 58 900066 (by kernel_rfl) (by intro _ _ h; cases h)
       exact ⟨((u35 2).o 0),((u35 2).n 0),t36.2.1.length,rfl,H.toM _⟩
      ·rw [if_neg (nt c40)] at G
       refine Qt qd H (.v 41 (vI t36.1) <|
 .v 42 (vP ((u2 9).n 0) 2) <|
 .cons [53] (Qa 53 2 ((u2 9).n 0) [vI t4.Op,vI x20,vI x21,vI t7.C.Lo,vI t7.C.Hi] [vI t36.1] 110 [vI t4.Op,vI x20,vI t36.1,vI t7.C.Lo,vI t7.C.Hi])<|.nil) [1,2,5,27,28,29,50,52,53,55,56,58,48,49,999998] fun u39 a w' H=>?_
       obtain rfl:=sj G
       replace H:=H.move (K:=Qm 110 5 ((u35 2).o 0) ((u35 2).n 0) t36.2.1 qi) 58 900066 (by kernel_rfl) (by intro _ _ h; cases h)
       exact ⟨((u35 2).o 0),((u35 2).n 0),t36.2.1.length,rfl,H.toM _⟩
    ·rw [if_neg (nt c41)] at G
     refine Yk rfl ?_
     obtain rfl:=sj G
     replace H:=H.move (K:=Qm 110 5 p_x19 c_x19 x19 qi) 900065 900064 (by kernel_rfl) (by intro _ _ h; cases h)
     exact ⟨p_x19,c_x19,x19.length,rfl,H.toM _⟩
 ·clear G; replace G:=hj9; clear hj9
  refine qg qd H (.v 18 (vP ((u2 9).n 0) 0) <|
 .cons [19] (qf (vI t4.Op) 19 53 0 1 ((u2 9).n 0) [vI t4.Op,vI 0,vI 0,vI t7.C.Lo,vI t7.C.Hi] 110) <|
 .v 20 (.bool (t4.Op == 2))<|.nil) [0,1,2,5,20,47,50,51,52,53,48,49,999998] fun u42 a w' H=>?_
  refine Qx H (t4.Op == 2) (fun c46=>?_) fun c46=>?_
  ·rw [if_pos c46] at G
   replace G:=gd G; obtain ⟨b44,G⟩:=G
   obtain ⟨t45,ht45,G⟩:=qP G
   refine Qt qd H (.v 21 (.slice p_a0 a0.length c_a0) <|
 .cons [22] (qG 47 (qB fr 4 p_a0 c_a0 a0 qr) (.pointer (some ⟨Xf p_a0,Xg p_a0+((0:Int).toNat) * 4,none⟩)) 22 fun _ w h=>Jo 59 .i64 (0:Int) p_a0 a0.length c_a0 a0 qr (qj h).2 QJ rfl b44) <|
 .v 23 (.pointer (some ⟨Xf p_a0,Xg p_a0+((0:Int).toNat) * 4+1,none⟩)) <|
 .cons [24] (qG 47 (qB fr 4 p_a0 c_a0 a0 qr) (vI t45.N) 24 fun _ w h=>Ym qr (qj h).2 QJ ht45 1 1 [vI t45.N]) <|
 .v 25 (vP ((u2 9).n 0) 1) <|
 .cons [53] (Qa 53 1 ((u2 9).n 0) [vI t4.Op,vI 0,vI 0,vI t7.C.Lo,vI t7.C.Hi] [vI t45.N] 110 [vI t4.Op,vI t45.N,vI 0,vI t7.C.Lo,vI t7.C.Hi])<|.nil) [0,1,2,5,47,50,51,52,53,48,49,999998] fun u43 a w' H=>?_
   obtain rfl:=sj G
   exact H.toM _
  ·rw [if_neg (nt c46)] at G
   refine Qf ?_
   obtain rfl:=sj G
   exact H.toM _
theorem Xk.calls (k0:Nat) (a0:YF) (p_a0_Names:Option Addr) (c_a0_Names:Nat) (p_a0_F:Option Addr) (c_a0_F:Nat) (L_a0_F:List (Sl qu)) (r:QE) (w:World) (h_a0_F:a0.F=L_a0_F.map Sl.l) (hB:Xx [qB qk 1 p_a0_Names c_a0_Names a0.Names YE,qB qk 1 p_a0_F c_a0_F L_a0_F Qs,X7 qk QQ.toPart L_a0_F] w) (G:Xk k0 a0=some r) :
  Calls Tryz.prog 12 #[.agg #[.slice p_a0_Names a0.Names.length c_a0_Names,.slice p_a0_F L_a0_F.length c_a0_F]] w fun e w'=>∃ g:Gh,e = .returned (.agg #[vI r.N,.slice (g.o 0) r.L.length (g.n 0),.slice (g.o 1) r.Out.length (g.n 1)])∧Zg (Y4 []) w w'∧Ys w.heap.size (Y4 []) (JH w.heap.size []) [fun _=>Qm 110 5 (g.o 0) (g.n 0) r.L qi,fun _=>Qm 3 1 (g.o 1) (g.n 1) r.Out Qn] w':=by
 obtain ⟨fr,hfr,hBf⟩:=VE w []
 refine QO (args:=[.agg #[.slice p_a0_Names a0.Names.length c_a0_Names,.slice p_a0_F L_a0_F.length c_a0_F]]) 45 [(45,qB qk 1 p_a0_Names c_a0_Names a0.Names YE),(46,qB qk 1 p_a0_F c_a0_F L_a0_F Qs),(47,X7 qk QQ.toPart L_a0_F)] (by
  intro x hx
  simp only [List.mem_cons,List.not_mem_nil,or_false] at hx
  rcases hx with rfl | rfl | rfl
  ·exact qy (qj hB.1) (fun _ _=>trivial) (by decide) _
  ·exact qy (qj hB.2.1) (fun _ _=>trivial) (by decide) _
  ·exact ZQ (Xl hB.2.2.1) (fun _ _=>trivial) _) Tryz.func12 rfl (by kernel_rfl) (by kernel_rfl) fun a H=>?_
 unfold Xk at G
 refine qg qd H (.cons [1,48] (qs (fun b=>vP b 0) (fun u1=>[.slice p_a0_Names a0.Names.length c_a0_Names,.slice p_a0_F L_a0_F.length c_a0_F]) 43 1 48) <|
 .cons [2,49] (qs (fun b=>vP b 0) (fun u1=>[vI 0,.slice none 0 0,.slice none 0 0]) 38 2 49)<|.nil) [1,2,45,46,47,48,49] fun u1 a w' H=>?_
 refine qg qd H (.cons [8,50] (qdT 8 50) <|
 .cons [9] (qn (fun u2=>.agg #[.slice none 0 0,.map (some ((u2 0).n 0))]) 9) <|
 .cons [10,51] (qs (fun b=>vP b 0) (fun u2=>[.slice none 0 0,.map (some ((u2 0).n 0))]) 107 10 51) <|
 .cons [3,52] (qs (fun b=>vP b 0) (fun u2=>[.pointer none]) 104 3 52) <|
 .cons [52] (QL (u':=fun u2=>[(52,.blk ((u2 3).n 0) [vP ((u2 2).n 0) 0] 104)]) (qW 52 0 (fun u2=>((u2 3).n 0)) (fun u2=>[.pointer none]) (fun u2=>[vP ((u2 2).n 0) 0]) 104) (fun _=>by kernel_rfl))<|.nil) [1,2,3,45,46,47,48,49,50,51,52] fun u2 a w' H=>?_
 refine qg qd H (.v 11 (vP ((u1 0).n 0) 1) <|
 .cons [12] (qf (.slice p_a0_F L_a0_F.length c_a0_F) 12 48 1 1 ((u1 0).n 0) [.slice p_a0_Names a0.Names.length c_a0_Names,.slice p_a0_F L_a0_F.length c_a0_F] 43) <|
 .cons [13] (qG 46 (qB qk 1 p_a0_F c_a0_F L_a0_F Qs) (vI (a0.F.length:Int)) 13 fun _ w h=>Yt (((qj h).2.len qR (by decide)).trans (qT h_a0_F).symm) (by kernel_rfl)) <|
 .v 14 (.agg #[vI (a0.F.length:Int),.slice none 0 0,.slice none 0 0]) <|
 .cons [4,53] (qs (fun b=>vP b 0) (fun u3=>[vI 0,.slice none 0 0,.slice none 0 0]) 38 4 53) <|
 .cons [53] (QL (u':=fun u3=>[(53,.blk ((u3 4).n 0) [vI (a0.F.length:Int),.slice none 0 0,.slice none 0 0] 38)]) (qW 53 0 (fun u3=>((u3 4).n 0)) (fun u3=>[vI 0,.slice none 0 0,.slice none 0 0]) (fun u3=>[vI (a0.F.length:Int),.slice none 0 0,.slice none 0 0]) 38) (fun _=>by kernel_rfl))<|.nil) [1,2,3,4,45,46,47,48,49,50,51,52,53] fun u3 a w' H=>?_
 refine qg qd H (.cons [5,54] (qs (fun b=>vP b 0) (fun u4=>[.nilFunc]) 108 5 54)<|.nil) [1,2,3,4,5,45,46,47,48,49,50,51,52,53,54] fun u4 a w' H=>?_
 refine qg qd H (.v 15 (.func (.func 35) #[] #[vP ((u4 0).n 0) 0,vP ((u2 3).n 0) 0]) <|
 .cons [54] (Qa 54 0 ((u4 0).n 0) [.nilFunc] [.func (.func 35) #[] #[vP ((u4 0).n 0) 0,vP ((u2 3).n 0) 0]] 108 [.func (.func 35) #[] #[vP ((u4 0).n 0) 0,vP ((u2 3).n 0) 0]])<|.nil) [1,2,3,4,5,45,46,47,48,49,50,51,52,53,54] fun u5 a w' H=>?_
 refine qv ?_
 obtain ⟨j9,hj9,G⟩:=qP G
 refine Xq (fun a w'=>∃ (p_j6:Option Addr) (c_j6 np_j6:Nat),np_j6=j9.1.length ∧ ∃ (p_j7:Option Addr) (c_j7 np_j7:Nat),np_j7=j9.2.1.length∧RL w 45 [(2,(sP ((u1 1).n 0) 0)),(3,(sP ((u2 3).n 0) 0)),(4,(sP ((u3 4).n 0) 0)),(49,.blk ((u1 1).n 0) [vI 0,.slice none 0 0,.slice none 0 0] 38),(50,VJ ((u2 0).n 0) qU .i64 j9.2.2),(51,.blk ((u2 2).n 0) [.slice p_j6 np_j6 c_j6,.map (some ((u2 0).n 0))] 107),(52,.blk ((u2 3).n 0) [vP ((u2 2).n 0) 0] 104),(53,.blk ((u3 4).n 0) [vI (a0.F.length:Int),.slice none 0 0,.slice p_j7 np_j7 c_j7] 38),(900067,X6 110 5 p_j6 np_j6 c_j6 (j9.1.flatMap qi)),(900068,X6 3 1 p_j7 np_j7 c_j7 (j9.2.1.flatMap Qn))] a w') ?_ ?_
 ·clear H; rintro a w' ⟨p_j6,c_j6,_,rfl,p_j7,c_j7,_,rfl,H⟩
  refine qv ?_
  refine qg qd H (.cons [32] (qf (vP ((u2 2).n 0) 0) 32 52 0 1 ((u2 3).n 0) [vP ((u2 2).n 0) 0] 104) <|
 .v 33 (vP ((u2 2).n 0) 0) <|
 .v 34 (vP ((u2 2).n 0) 0) <|
 .cons [35] (qf (.slice p_j6 j9.1.length c_j6) 35 51 0 1 ((u2 2).n 0) [.slice p_j6 j9.1.length c_j6,.map (some ((u2 0).n 0))] 107) <|
 .v 36 (vI (j9.1.length:Int)) <|
 .v 37 (.bool (decide ((j9.1.length:Int) > 400)))<|.nil) [2,3,4,37,49,50,51,52,53,900067,900068] fun u10 a w' H=>?_
  refine Qx H (decide ((j9.1.length:Int) > 400)) (fun c14=>?_) fun c14=>?_
  ·rw [if_pos c14] at G
   refine qg qd H (.v 38 (.agg #[vI 0,.slice none 0 0,.slice none 0 0]) <|
 .cons [49] (Qa 49 0 ((u1 1).n 0) [vI 0,.slice none 0 0,.slice none 0 0] [vI 0,.slice none 0 0,.slice none 0 0] 38 [vI 0,.slice none 0 0,.slice none 0 0])<|.nil) [2,49] fun u11 a w' H=>?_
   refine qF ?_
   obtain rfl:=sj G
   replace H:=H.nil_row 55 110 5
   replace H:=H.nil_row 56 3 1
   obtain ⟨g,o0,n0,o1,n1⟩:∃ g:Gh,g.o 0=none∧g.n 0=0∧g.o 1=none∧g.n 1=0:=⟨⟨fun i=>[0,0].getD i 0,fun i=>[none,none].getD i none,fun i=>([⟨Unit,()⟩,⟨Unit,()⟩]:List ((T:Type) × T)).getD i ⟨Unit,()⟩⟩,rfl,rfl,rfl,rfl⟩
   refine QR H _ g _ _ _ fr [55,56] [(49,⟨((u1 1).n 0),[vI 0,.slice none 0 0,.slice none 0 0],0,3⟩)] (.agg #[vI 0,.slice none 0 0,.slice none 0 0]) [fun _=>X6 110 5 none 0 0 (([]:List qh).flatMap qi),fun _=>X6 3 1 none 0 0 (([]:List Int).flatMap Qn)] (by simp only [Qm,o0,n0,o1,n1,List.length_set,List.length_cons,List.length_nil,Nat.zero_add,Nat.reduceAdd]) (by simp only [Qm,o0,n0,o1,n1,List.length_set,List.length_cons,List.length_nil,Nat.zero_add,Nat.reduceAdd]) hfr (.inl ⟨rfl,rfl⟩) (ql Qw (ql Qw qC)) (by intro p hp; simp only [List.mem_cons,List.not_mem_nil,or_false] at hp; rcases hp with rfl; exact ⟨⟨38,by kernel_rfl⟩,by kernel_rfl⟩)
  ·rw [if_neg (nt c14)] at G
   refine Qf ?_
   refine qg qd H (.cons [39] (qf (vP ((u2 2).n 0) 0) 39 52 0 1 ((u2 3).n 0) [vP ((u2 2).n 0) 0] 104) <|
 .v 40 (vP ((u2 2).n 0) 0) <|
 .v 41 (vP ((u2 2).n 0) 0) <|
 .cons [42] (qf (.slice p_j6 j9.1.length c_j6) 42 51 0 1 ((u2 2).n 0) [.slice p_j6 j9.1.length c_j6,.map (some ((u2 0).n 0))] 107) <|
 .v 43 (vP ((u3 4).n 0) 1) <|
 .cons [53] (Qa 53 1 ((u3 4).n 0) [vI (a0.F.length:Int),.slice none 0 0,.slice p_j7 j9.2.1.length c_j7] [.slice p_j6 j9.1.length c_j6] 38 [vI (a0.F.length:Int),.slice p_j6 j9.1.length c_j6,.slice p_j7 j9.2.1.length c_j7])<|.nil) [2,4,49,53,900067,900068] fun u12 a w' H=>?_
   refine qg qd H (.cons [44] (qf (.agg #[vI (a0.F.length:Int),.slice p_j6 j9.1.length c_j6,.slice p_j7 j9.2.1.length c_j7]) 44 53 0 3 ((u3 4).n 0) [vI (a0.F.length:Int),.slice p_j6 j9.1.length c_j6,.slice p_j7 j9.2.1.length c_j7] 38) <|
 .cons [49] (Qa 49 0 ((u1 1).n 0) [vI 0,.slice none 0 0,.slice none 0 0] [vI (a0.F.length:Int),.slice p_j6 j9.1.length c_j6,.slice p_j7 j9.2.1.length c_j7] 38 [vI (a0.F.length:Int),.slice p_j6 j9.1.length c_j6,.slice p_j7 j9.2.1.length c_j7])<|.nil) [2,49,900067,900068] fun u13 a w' H=>?_
   refine qF ?_
   obtain rfl:=sj G
   obtain ⟨g,o0,n0,o1,n1⟩:∃ g:Gh,g.o 0=p_j6∧g.n 0=c_j6∧g.o 1=p_j7∧g.n 1=c_j7:=⟨⟨fun i=>[c_j6,c_j7].getD i 0,fun i=>[p_j6,p_j7].getD i none,fun i=>([⟨Unit,()⟩,⟨Unit,()⟩]:List ((T:Type) × T)).getD i ⟨Unit,()⟩⟩,rfl,rfl,rfl,rfl⟩
   refine QR H _ g _ _ _ fr [900067,900068] [(49,⟨((u1 1).n 0),[vI (a0.F.length:Int),.slice p_j6 j9.1.length c_j6,.slice p_j7 j9.2.1.length c_j7],0,3⟩)] (.agg #[vI (a0.F.length:Int),.slice p_j6 j9.1.length c_j6,.slice p_j7 j9.2.1.length c_j7]) [fun _=>Qm 110 5 p_j6 c_j6 j9.1 qi,fun _=>Qm 3 1 p_j7 c_j7 j9.2.1 Qn] (by simp only [Qm,o0,n0,o1,n1]) (by simp only [Qm,o0,n0,o1,n1]) hfr (.inl ⟨rfl,rfl⟩) (ql Qw (ql Qw qC)) (by intro p hp; simp only [List.mem_cons,List.not_mem_nil,or_false] at hp; rcases hp with rfl; exact ⟨⟨38,by kernel_rfl⟩,by kernel_rfl⟩)
 ·clear G; replace G:=hj9; clear hj9
  refine qg qd H (.v 16 (vP ((u1 0).n 0) 1) <|
 .cons [17] (qf (.slice p_a0_F L_a0_F.length c_a0_F) 17 48 1 1 ((u1 0).n 0) [.slice p_a0_Names a0.Names.length c_a0_Names,.slice p_a0_F L_a0_F.length c_a0_F] 43) <|
 .cons [18] (qG 46 (qB qk 1 p_a0_F c_a0_F L_a0_F Qs) (vI (a0.F.length:Int)) 18 fun _ w h=>Yt (((qj h).2.len qR (by decide)).trans (qT h_a0_F).symm) (by kernel_rfl)) <|
 .v 19 (vI 0)<|.nil) [2,3,4,5,17,18,19,46,47,49,50,51,52,53,54] fun u15 a w' H=>?_
  refine q6 ?_
  replace H:=H.nil_row 63 110 5
  replace H:=H.nil_row 65 3 1
  replace H:=H.move (K:=X6 110 5 none 0 0 (([]:List qh).flatMap qi)) 63 900069 (by kernel_rfl) (by intro _ _ h; cases h)
  replace H:=H.move (K:=X6 3 1 none 0 0 (([]:List Int).flatMap Qn)) 65 900070 (by kernel_rfl) (by intro _ _ h; cases h)
  refine XP (fun m a w'=>∃ x16:List qh,∃ x17:List Int,∃ x18:List (qh × Int),∃ x19:Int,Xk.l20 k0 a0 m x16 x17 x18 x19=some j9 ∧ ∃ (p_x16:Option Addr) (c_x16 np_x16:Nat),np_x16=x16.length ∧ ∃ (p_x17:Option Addr) (c_x17 np_x17:Nat),np_x17=x17.length∧RL w 45 [(2,(sP ((u1 1).n 0) 0)),(3,(sP ((u2 3).n 0) 0)),(4,(sP ((u3 4).n 0) 0)),(5,(sP ((u4 0).n 0) 0)),(17,sS p_a0_F L_a0_F.length c_a0_F),(18,(sI (a0.F.length:Int))),(19,sI x19),(46,qB qk 1 p_a0_F c_a0_F L_a0_F Qs),(47,X7 qk QQ.toPart L_a0_F),(49,.blk ((u1 1).n 0) [vI 0,.slice none 0 0,.slice none 0 0] 38),(50,VJ ((u2 0).n 0) qU .i64 x18),(51,.blk ((u2 2).n 0) [.slice p_x16 np_x16 c_x16,.map (some ((u2 0).n 0))] 107),(52,.blk ((u2 3).n 0) [vP ((u2 2).n 0) 0] 104),(53,.blk ((u3 4).n 0) [vI (a0.F.length:Int),.slice none 0 0,.slice p_x17 np_x17 c_x17] 38),(54,.blk ((u4 0).n 0) [.func (.func 35) #[] #[vP ((u4 0).n 0) 0,vP ((u2 3).n 0) 0]] 108),(900069,X6 110 5 p_x16 np_x16 c_x16 (x16.flatMap qi)),(900070,X6 3 1 p_x17 np_x17 c_x17 (x17.flatMap Qn))] a w') k0 ⟨_,_,_,_,G,none,0,0,rfl,none,0,0,rfl,H.toM _⟩ ?_
  clear G H
  rintro (_ | k) a w' ⟨x16,x17,x18,x19,G,p_x16,c_x16,_,rfl,p_x17,c_x17,_,rfl,H⟩
  ·exact absurd G (by unfold Xk.l20; exact fun h=>by cases h)
  ·unfold Xk.l20 at G
   refine qg qd H (.v 20 (.bool (decide (x19<(a0.F.length:Int))))<|.nil) [2,3,4,5,17,18,19,20,46,47,49,50,51,52,53,54,900069,900070] fun u21 a w' H=>?_
   refine qv ?_
   refine Qx H (decide (x19<(a0.F.length:Int))) (fun c29=>?_) fun c29=>?_
   ·rw [if_pos c29] at G
    refine Qf ?_
    refine qv ?_
    refine q6 ?_
    refine qv ?_
    replace G:=gd G; obtain ⟨b23,G⟩:=G
    obtain ⟨t24,ht24,G⟩:=qP G
    obtain ⟨p_t24,c_t24,y_t24⟩:=Yf h_a0_F ht24
    refine Qt qd H (.cons [21] (qG 46 (qB qk 1 p_a0_F c_a0_F L_a0_F Qs) (.pointer (some ⟨Xf p_a0_F,Xg p_a0_F+x19.toNat * 1,none⟩)) 21 fun _ w h=>Jo 41 .i64 x19 p_a0_F L_a0_F.length c_a0_F a0.F Qs (qj h).2 qR (qT h_a0_F) b23) <|
 .cons [22] (qG 46 (qB qk 1 p_a0_F c_a0_F L_a0_F Qs) (.slice p_t24 t24.length c_t24) 22 fun _ w h=>Ym Qs (qj h).2 qR y_t24 0 1 [.slice p_t24 t24.length c_t24]) <|
 .v 7 (.slice p_t24 t24.length c_t24)<|.nil) [2,3,4,5,7,17,18,19,46,47,49,50,51,52,53,54,900069,900070] fun u22 a w' H=>?_
    obtain ⟨t26,ht26,G⟩:=qP G
    replace G:=gd G; obtain ⟨b27,G⟩:=G
    refine ZC qd H (.v 23 (vP ((u3 4).n 0) 2) <|
 .cons [24] (qf (.slice p_x17 x17.length c_x17) 24 53 2 1 ((u3 4).n 0) [vI (a0.F.length:Int),.slice none 0 0,.slice p_x17 x17.length c_x17] 38) <|
 .cons [25] (qf (.func (.func 35) #[] #[vP ((u4 0).n 0) 0,vP ((u2 3).n 0) 0]) 25 54 0 1 ((u4 0).n 0) [.func (.func 35) #[] #[vP ((u4 0).n 0) 0,vP ((u2 3).n 0) 0]] 108) <|
 .v 26 (.slice p_t24 t24.length c_t24) <|
 .cons [27,900069,50,51,57,51,50] (QI false fr [] [47,54,52] (fun u25=>[X7 qk QQ.toPart L_a0_F,.blk ((u4 0).n 0) [.func (.func 35) #[] #[vP ((u4 0).n 0) 0,vP ((u2 3).n 0) 0]] 108,.blk ((u2 3).n 0) [vP ((u2 2).n 0) 0] 104]) [900069,50,51] (fun u25=>[Qm 110 5 p_x16 c_x16 x16 qi,VJ ((u2 0).n 0) qU .i64 x18,.blk ((u2 2).n 0) [.slice p_x16 x16.length c_x16,.map (some ((u2 0).n 0))] 107]) 35 _ _ _ _ _ [57,51,50] 27 (fun u25 w hB hF hM=>qz.calls k0 t24 x16 x18 p_t24 c_t24 ((u4 0).n 0) ((u2 3).n 0) ((u2 2).n 0) p_x16 c_x16 ((u2 0).n 0) t26 w  hB hF hM ht26) (fun u25 w hF=>⟨⟨Ze hF.2.1 (.tail _ (.head _)) rfl,Ze hF.2.2.1 (.tail _ (.tail _ (.head _))) rfl,trivial⟩,⟨q9 (show XO _ 4 p_t24 t24.length c_t24 (t24.flatMap qr) from ((Xl hF.1) _ (List.mem_of_getElem? y_t24)).1) (fun j h=>⟨_,(.head _),⟨_,(List.mem_of_getElem? y_t24),(.inl h)⟩⟩),trivial⟩⟩) (fun u25 g=>(ql Qw (ql Zh (ql Ws qC)))) (.inr (fun u25 g=>(Qv trivial (Qv trivial (Qv trivial (fun K h=>by cases h)))))) (fun h=>by cases h)) <|
 .cons [28,58] (qs (fun b=>.slice (some ⟨b,0,none⟩) 1 1) (fun u25=>[vI t26.1]) 3 28 58) <|
 .cons [29,900070,900070] (XC [5] [58] (fun u25=>[.blk ((u25 5).n 0) [vI t26.1] 3]) 900070 (fun u25=>Qm 3 1 p_x17 c_x17 x17 Qn) (some 29) (fun u25 g=>.slice (g.o 0) (x17++[t26.1]).length (g.n 0)) (fun u25 g=>Qm 3 1 (g.o 0) (g.n 0) (x17++[t26.1]) Qn) (fun u25 w hF hK=>J9 (Yy (t:=36) (ty:=36) (en:=Qn) Jz qgF (Qe hK) hF.1 (news:=[t26.1]) rfl (by simp) (by kernel_rfl) b27)) (hloc:=fun u u' h=>⟨by first | rfl | simp only [h 5 (by decide)],by first | rfl | simp only [h 5 (by decide)],by first | rfl | simp only [h 5 (by decide)],by first | rfl | simp only [h 5 (by decide)]⟩)) <|
 .v 30 (vP ((u3 4).n 0) 2) <|
 .cons [53] (QL (u':=fun u25=>[(53,.blk ((u3 4).n 0) [vI (a0.F.length:Int),.slice none 0 0,.slice ((u25 6).o 0) ((x17++[t26.1]).length) ((u25 6).n 0)] 38)]) (qW 53 2 (fun u25=>((u3 4).n 0)) (fun u25=>[vI (a0.F.length:Int),.slice none 0 0,.slice p_x17 x17.length c_x17]) (fun u25=>[.slice ((u25 6).o 0) ((x17++[t26.1]).length) ((u25 6).n 0)]) 38) (fun _=>by kernel_rfl))<|.nil) (by kernel_rfl) fun u25 a w' H=>?_
    replace H:=H.kp [2,3,4,5,17,18,19,46,47,49,50,51,52,53,54,57,900070]
    refine Qt qd H (.v 31 (vI (qc (x19+1))) <|
 .v 19 (vI (qc (x19+1)))<|.nil) [2,3,4,5,17,18,19,46,47,49,50,51,52,53,54,57,900070] fun u28 a w' H=>?_
    replace H:=H.move (K:=Qm 110 5 ((u25 4).o 0) ((u25 4).n 0) t26.2.1 qi) 57 900069 (by kernel_rfl) (by intro _ _ h; cases h)
    exact ⟨k,Nat.lt_succ_self k,_,_,_,_,G,((u25 4).o 0),((u25 4).n 0),t26.2.1.length,rfl,((u25 6).o 0),((u25 6).n 0),(x17++[t26.1]).length,rfl,H.toM _⟩
   ·rw [if_neg (nt c29)] at G
    refine Yk rfl ?_
    obtain rfl:=sj G
    replace H:=H.move (K:=Qm 110 5 p_x16 c_x16 x16 qi) 900069 900067 (by kernel_rfl) (by intro _ _ h; cases h)
    replace H:=H.move (K:=Qm 3 1 p_x17 c_x17 x17 Qn) 900070 900068 (by kernel_rfl) (by intro _ _ h; cases h)
    exact ⟨p_x16,c_x16,x16.length,rfl,p_x17,c_x17,x17.length,rfl,H.toM _⟩
theorem Y6.calls (a0:qb) (r:YF) (w:World) (G:Y6 a0=some r) :
  Calls Tryz.prog 13 #[.agg #[vI a0.Lo,vI a0.Hi]] w fun e w'=>∃ g:Gh,e = .returned (.agg #[.slice (g.o 0) r.Names.length (g.n 0),.slice (g.o 1) ((g.dl Sl.l Qo 1 r.F).length) (g.n 1)])∧Zg (Y4 []) w w'∧Ys w.heap.size (Y4 []) (JH w.heap.size []) [fun _=>X6 9 1 (g.o 0) r.Names.length (g.n 0) (r.Names.flatMap YE),fun _=>Zn 59 61 4 qr (g.o 1) ((g.dl Sl.l Qo 1 r.F).length) (g.n 1) (g.dl Sl.l Qo 1 r.F) (g.dl Sl.l Qo 1 r.F)] w':=by
 obtain ⟨fr,hfr⟩:∃ fr:Nat→Prop,fr=JH w.heap.size []:=⟨_,rfl⟩
 have hBf:∀ j,w.heap.size≤j→fr j:=fun j h=>by rw [hfr]; exact .inl h
 refine QD (args:=[.agg #[vI a0.Lo,vI a0.Hi]]) 9 Tryz.func13 rfl (by kernel_rfl) (by kernel_rfl) fun a H=>?_
 unfold Y6 at G
 refine qv ?_
 refine Ju qd H (.cons [1,9] (qs (fun b=>vP b 0) (fun u1=>[vI a0.Lo,vI a0.Hi]) 46 1 9) <|
   .cons [2,10] (qs (fun b=>vP b 0) (fun u1=>[.slice none 0 0,.slice none 0 0]) 43 2 10)<|.nil) fun u1 a w' H=>?_
 replace H:=H.kp [1,2,9,10]
 refine qv ?_
 refine Ju qd H (.cons [3,11] (qs (fun b=>.slice (some ⟨b,0,none⟩) 1 1) (fun u2=>[.string (⟨#[120]⟩:ByteArray)]) 9 3 11) <|
   .cons [4] (VH (fun u2=>.agg #[vI a0.Lo,vI a0.Hi]) 4 9 0 2 (fun u2=>((u1 0).n 0)) (fun u2=>[vI a0.Lo,vI a0.Hi]) 46) <|
   .v 5 (.agg #[vI 1,vI 0,vI a0.Lo,vI a0.Hi]) <|
   .cons [6,12] (qs (fun b=>.slice (some ⟨b,0,none⟩) 1 1) (fun u2=>[vI 1,vI 0,vI a0.Lo,vI a0.Hi]) 61 6 12) <|
   .cons [7,13] (qs (fun b=>.slice (some ⟨b,0,none⟩) 1 1) (fun u2=>[.slice (some ⟨((u2 3).n 0),0,none⟩) 1 1]) 59 7 13) <|
   .cons [8] (qn (fun u2=>.agg #[.slice (some ⟨((u2 0).n 0),0,none⟩) 1 1,.slice (some ⟨((u2 4).n 0),0,none⟩) 1 1]) 8) <|
   .cons [10] (QL (u':=fun u2=>[(10,.blk ((u1 1).n 0) [.slice (some ⟨((u2 0).n 0),0,none⟩) 1 1,.slice (some ⟨((u2 4).n 0),0,none⟩) 1 1] 43)]) (qW 10 0 (fun u2=>((u1 1).n 0)) (fun u2=>[.slice none 0 0,.slice none 0 0]) (fun u2=>[.slice (some ⟨((u2 0).n 0),0,none⟩) 1 1,.slice (some ⟨((u2 4).n 0),0,none⟩) 1 1]) 43) (fun _=>by kernel_rfl))<|.nil) fun u2 a w' H=>?_
 replace H:=H.kp [2,10,11,12,13]
 refine qF ?_
 obtain rfl:=Option.some.inj G
 replace H:=H.blk_row 11 ((u2 0).n 0) [.string (⟨#[120]⟩:ByteArray)] 9 1 1 (by kernel_rfl) (by kernel_rfl) (by decide)
 replace H:=H.blk_row 12 ((u2 3).n 0) [vI 1,vI 0,vI a0.Lo,vI a0.Hi] 61 4 1 (by kernel_rfl) (by kernel_rfl) (by decide)
 replace H:=H.blk_row 13 ((u2 4).n 0) [.slice (some ⟨((u2 3).n 0),0,none⟩) 1 1] 59 1 1 (by kernel_rfl) (by kernel_rfl) (by decide)
 replace H:=H.nestOpen (e:=59) (m:=1) (cap:=1) (p:=(some ⟨((u2 4).n 0),0,none⟩)) (H:=([⟨(some ⟨((u2 3).n 0),0,none⟩),1,([(⟨1,0,a0⟩:qu)]:List qu)⟩]:List (Sl qu))) 13 61 4 qr (by kernel_rfl)
 replace H:=H.nestTake (e:=59) (e2:=61) (m:=1) (cap:=1) (p:=(some ⟨((u2 4).n 0),0,none⟩)) (H:=([⟨(some ⟨((u2 3).n 0),0,none⟩),1,([(⟨1,0,a0⟩:qu)]:List qu)⟩]:List (Sl qu))) (L:=([]:List (Sl qu))) (n2:=1) (c:=1) (q:=(some ⟨((u2 3).n 0),0,none⟩)) (en:=qr) (l:=([(⟨1,0,a0⟩:qu)]:List qu)) 13 12 (by kernel_rfl) (by kernel_rfl) (by rfl) QJ (by decide)
 obtain ⟨g,o0,n0,o1,n1,d1⟩:∃ g:Gh,g.o 0=(some ⟨((u2 0).n 0),0,none⟩)∧g.n 0=1∧g.o 1=(some ⟨((u2 4).n 0),0,none⟩)∧g.n 1=1∧g.dl Sl.l Qo 1 ([([(⟨1,0,a0⟩:qu)]:List qu)]:List (List qu))=([⟨(some ⟨((u2 3).n 0),0,none⟩),1,([(⟨1,0,a0⟩:qu)]:List qu)⟩]:List (Sl qu)):=⟨⟨fun i=>[1,1].getD i 0,fun i=>[(some ⟨((u2 0).n 0),0,none⟩),(some ⟨((u2 4).n 0),0,none⟩)].getD i none,fun i=>([⟨Unit,()⟩,⟨List (Sl qu),([⟨(some ⟨((u2 3).n 0),0,none⟩),1,([(⟨1,0,a0⟩:qu)]:List qu)⟩]:List (Sl qu))⟩]:List ((T:Type) × T)).getD i ⟨Unit,()⟩⟩,rfl,rfl,rfl,rfl,qcX rfl rfl⟩
 refine QR H (fun g=>.agg #[.slice (g.o 0) (([(⟨#[120]⟩:ByteArray)]:List ByteArray).length) (g.n 0),.slice (g.o 1) ((g.dl Sl.l Qo 1 ([([(⟨1,0,a0⟩:qu)]:List qu)]:List (List qu))).length) (g.n 1)]) g [] [] (fun g=>[fun _=>X6 9 1 (g.o 0) (([(⟨#[120]⟩:ByteArray)]:List ByteArray).length) (g.n 0) (([(⟨#[120]⟩:ByteArray)]:List ByteArray).flatMap YE),fun _=>Zn 59 61 4 qr (g.o 1) ((g.dl Sl.l Qo 1 ([([(⟨1,0,a0⟩:qu)]:List qu)]:List (List qu))).length) (g.n 1) (g.dl Sl.l Qo 1 ([([(⟨1,0,a0⟩:qu)]:List qu)]:List (List qu))) (g.dl Sl.l Qo 1 ([([(⟨1,0,a0⟩:qu)]:List qu)]:List (List qu)))]) fr [11,13] [(10,⟨((u1 1).n 0),[.slice (some ⟨((u2 0).n 0),0,none⟩) 1 1,.slice (some ⟨((u2 4).n 0),0,none⟩) 1 1],0,2⟩)] (.agg #[.slice (some ⟨((u2 0).n 0),0,none⟩) 1 1,.slice (some ⟨((u2 4).n 0),0,none⟩) 1 1]) [fun _=>X6 9 1 (some ⟨((u2 0).n 0),0,none⟩) 1 1 (([(⟨#[120]⟩:ByteArray)]:List ByteArray).flatMap YE),fun _=>Zn 59 61 4 qr (some ⟨((u2 4).n 0),0,none⟩) 1 1 ([⟨(some ⟨((u2 3).n 0),0,none⟩),1,([(⟨1,0,a0⟩:qu)]:List qu)⟩]:List (Sl qu)) ([⟨(some ⟨((u2 3).n 0),0,none⟩),1,([(⟨1,0,a0⟩:qu)]:List qu)⟩]:List (Sl qu))] (by simp only [o0,n0,o1,n1,d1,List.length_set,List.length_cons,List.length_nil,Nat.zero_add,Nat.reduceAdd]) (by simp only [o0,n0,o1,n1,d1,List.length_set,List.length_cons,List.length_nil,Nat.zero_add,Nat.reduceAdd]) hfr (.inl ⟨rfl,rfl⟩) (ql Qw (ql Jb qC)) (by intro p hp; simp only [List.mem_cons,List.not_mem_nil,or_false] at hp; rcases hp with rfl; exact ⟨⟨43,by kernel_rfl⟩,by kernel_rfl⟩)
theorem Jx.calls (a0:List Qc) (p_a0:Option Addr) (c_a0:Nat) (L_a0:List q7) (r:List qb × Int × Bool) (w:World) (h_a0:a0=L_a0.map YB) (hB:Xx [qB qk 6 p_a0 c_a0 L_a0 qo] w) (hF:Xx [X7 qk qX.toPart L_a0] w) (G:Jx a0=some r) :
  Calls Tryz.prog 28 #[.slice p_a0 L_a0.length c_a0] w fun e w'=>∃ g:Gh,e = .returned (.tuple #[.slice (g.o 0) r.1.length (g.n 0),vI r.2.1,.bool r.2.2])∧Zg (Y4 []) w w'∧Ys w.heap.size (Y4 []) (JH w.heap.size [X7 qk qX.toPart L_a0]) [fun fr=>YZ fr 2 (g.o 0) r.1.length (g.n 0) (r.1.flatMap qa)] w':=by
 obtain ⟨fr,hfr,hBf⟩:=VE w [X7 qk qX.toPart L_a0]
 refine QO (args:=[.slice p_a0 L_a0.length c_a0]) 22 [(22,qB qk 6 p_a0 c_a0 L_a0 qo),(23,X7 fr qX.toPart L_a0)] (by
  intro x hx
  simp only [List.mem_cons,List.not_mem_nil,or_false] at hx
  rcases hx with rfl | rfl
  ·exact qy (qj hB.1) (fun _ _=>trivial) (by decide) _
  ·exact ZQ (Xl hF.1) (fun j h=>by rw [hfr]; exact .inr ⟨_,(.head _),h⟩) _) Tryz.func28 rfl (by kernel_rfl) (by kernel_rfl) fun a H=>?_
 unfold Jx at G
 refine qg qd H (.v 2 (.slice none 0 0) <|
 .v 3 (vI 0) <|
 .v 4 (.bool false)<|.nil) [0,22,23] fun u1 a w' H=>?_
 refine qv ?_
 refine qg qd H (.v 6 (.slice p_a0 L_a0.length c_a0) <|
 .cons [7] (qG 22 (qB qk 6 p_a0 c_a0 L_a0 qo) (vI (a0.length:Int)) 7 fun _ w h=>Yt (((qj h).2.len qx (by decide)).trans (qT h_a0).symm) (by kernel_rfl)) <|
 .v 8 (.bool ((a0.length:Int) == 0))<|.nil) [0,8,22,23] fun u2 a w' H=>?_
 refine Qx H ((a0.length:Int) == 0) (fun c8=>?_) fun c8=>?_
 ·rw [if_pos c8] at G
  refine qg qd H (.v 2 (.slice none 0 0) <|
 .v 3 (vI 0) <|
 .v 4 (.bool false)<|.nil) [2,3,4] fun u3 a w' H=>?_
  refine qF ?_
  obtain rfl:=sj G
  replace H:=H.nil_row 24 46 2
  replace H:=H.demote fr 24 46 2 none 0 0 (([]:List qb).flatMap qa) (by kernel_rfl) (by decide) hBf
  obtain ⟨g,o0,n0⟩:=ZX none 0
  refine QR H _ g _ _ _ fr [24] [] (.tuple #[.slice none 0 0,vI 0,.bool false]) [fun fr=>YZ fr 2 none 0 0 (([]:List qb).flatMap qa)] (by simp only [Qm,o0,n0,List.length_set,List.length_cons,List.length_nil,Nat.zero_add,Nat.reduceAdd]) (by simp only [Qm,o0,n0,List.length_set,List.length_cons,List.length_nil,Nat.zero_add,Nat.reduceAdd]) hfr (.inl ⟨rfl,rfl⟩) (ql (QZ (by decide)) qC) (by simp)
 ·rw [if_neg (nt c8)] at G
  refine Qf ?_
  refine qv ?_
  replace G:=gd G; obtain ⟨b5,G⟩:=G
  obtain ⟨t6,ht6,G⟩:=qP G
  obtain ⟨p_t6_From,c_t6_From,p_t6_Pre,c_t6_Pre,p_t6_Tube,c_t6_Tube,p_t6_To,c_t6_To,y_t6⟩:=XD h_a0 ht6
  refine Qt qd H (.v 9 (.slice p_a0 L_a0.length c_a0) <|
 .v 10 (.slice p_a0 L_a0.length c_a0) <|
 .cons [11] (qG 22 (qB qk 6 p_a0 c_a0 L_a0 qo) (vI (a0.length:Int)) 11 fun _ w h=>Yt (((qj h).2.len qx (by decide)).trans (qT h_a0).symm) (by kernel_rfl)) <|
 .v 12 (vI (qc ((a0.length:Int) - 1))) <|
 .cons [13] (qG 22 (qB qk 6 p_a0 c_a0 L_a0 qo) (.pointer (some ⟨Xf p_a0,Xg p_a0+((qc ((a0.length:Int) - 1)).toNat) * 6,none⟩)) 13 fun _ w h=>Jo 31 .i64 (qc ((a0.length:Int) - 1)) p_a0 L_a0.length c_a0 a0 qo (qj h).2 qx (qT h_a0) b5) <|
 .cons [14] (qG 22 (qB qk 6 p_a0 c_a0 L_a0 qo) (.agg #[vI t6.T,vI t6.H,.slice p_t6_From t6.From.length c_t6_From,.slice p_t6_Pre t6.Pre.length c_t6_Pre,.slice p_t6_Tube t6.Tube.length c_t6_Tube,.slice p_t6_To t6.To.length c_t6_To]) 14 fun _ w h=>Ym qo (qj h).2 qx y_t6 0 6 [vI t6.T,vI t6.H,.slice p_t6_From t6.From.length c_t6_From,.slice p_t6_Pre t6.Pre.length c_t6_Pre,.slice p_t6_Tube t6.Tube.length c_t6_Tube,.slice p_t6_To t6.To.length c_t6_To]) <|
 .cons [5,25] (qs (fun b=>vP b 0) (fun u4=>[vI 0,vI 0,.slice none 0 0,.slice none 0 0,.slice none 0 0,.slice none 0 0]) 63 5 25) <|
 .cons [25] (QL (u':=fun u4=>[(25,.blk ((u4 6).n 0) [vI t6.T,vI t6.H,.slice p_t6_From t6.From.length c_t6_From,.slice p_t6_Pre t6.Pre.length c_t6_Pre,.slice p_t6_Tube t6.Tube.length c_t6_Tube,.slice p_t6_To t6.To.length c_t6_To] 63)]) (qW 25 0 (fun u4=>((u4 6).n 0)) (fun u4=>[vI 0,vI 0,.slice none 0 0,.slice none 0 0,.slice none 0 0,.slice none 0 0]) (fun u4=>[vI t6.T,vI t6.H,.slice p_t6_From t6.From.length c_t6_From,.slice p_t6_Pre t6.Pre.length c_t6_Pre,.slice p_t6_Tube t6.Tube.length c_t6_Tube,.slice p_t6_To t6.To.length c_t6_To]) 63) (fun _=>by kernel_rfl))<|.nil) [5,23,25] fun u4 a w' H=>?_
  refine qg qd H (.v 15 (vP ((u4 6).n 0) 5) <|
 .cons [16] (qf (.slice p_t6_To t6.To.length c_t6_To) 16 25 5 1 ((u4 6).n 0) [vI t6.T,vI t6.H,.slice p_t6_From t6.From.length c_t6_From,.slice p_t6_Pre t6.Pre.length c_t6_Pre,.slice p_t6_Tube t6.Tube.length c_t6_Tube,.slice p_t6_To t6.To.length c_t6_To] 63) <|
 .v 17 (vP ((u4 6).n 0) 0) <|
 .cons [18] (qf (vI t6.T) 18 25 0 1 ((u4 6).n 0) [vI t6.T,vI t6.H,.slice p_t6_From t6.From.length c_t6_From,.slice p_t6_Pre t6.Pre.length c_t6_Pre,.slice p_t6_Tube t6.Tube.length c_t6_Tube,.slice p_t6_To t6.To.length c_t6_To] 63) <|
 .v 19 (vP ((u4 6).n 0) 1) <|
 .cons [20] (qf (vI t6.H) 20 25 1 1 ((u4 6).n 0) [vI t6.T,vI t6.H,.slice p_t6_From t6.From.length c_t6_From,.slice p_t6_Pre t6.Pre.length c_t6_Pre,.slice p_t6_Tube t6.Tube.length c_t6_Tube,.slice p_t6_To t6.To.length c_t6_To] 63) <|
 .v 21 (vI (qc (t6.T+t6.H))) <|
 .v 2 (.slice p_t6_To t6.To.length c_t6_To) <|
 .v 3 (vI (qc (t6.T+t6.H))) <|
 .v 4 (.bool true)<|.nil) [2,3,4,23] fun u7 a w' H=>?_
  refine qF ?_
  obtain rfl:=sj G
  replace H:=H.addF 26 (qB fr 2 p_t6_To c_t6_To t6.To qa) [23] [X7 fr qX.toPart L_a0] (by kernel_rfl) (fun h=>h) (by intro _ _ h; cases h) (fun hF=>(qy (show XO _ 2 p_t6_To t6.To.length c_t6_To (t6.To.flatMap qa) from ((Xl hF.1) _ (List.mem_of_getElem? y_t6)).2.2.2.1) (fun j h=>(V1 hF.1 _ ⟨_,(List.mem_of_getElem? y_t6),(.inr (.inr (.inr (.inl h))))⟩)) (by decide) 0).2.1) (fun hF j h=>⟨_,.head _,(fun h=>h),⟨_,(List.mem_of_getElem? y_t6),(.inr (.inr (.inr (.inl h))))⟩⟩)
  obtain ⟨g,o0,n0⟩:=ZX p_t6_To c_t6_To
  refine QR H _ g _ _ _ fr [26] [] (.tuple #[.slice p_t6_To t6.To.length c_t6_To,vI (qc (t6.T+t6.H)),.bool true]) [fun fr=>qB fr 2 p_t6_To c_t6_To t6.To qa] (by simp only [Qm,o0,n0]) (by simp only [Qm,o0,n0]) hfr (.inl ⟨rfl,rfl⟩) (ql (QZ (by decide)) qC) (by simp)
theorem Jj.calls (a0:Int) (q0:List Qc) (q1:Int) (b_q0:Nat) (p_q0:Option Addr) (c_q0:Nat) (L_q0:List q7) (b_q1:Nat) (r:Bool) (w:World) (h_q0:q0=L_q0.map YB) (hB:Xx [qB qk 6 p_q0 c_q0 L_q0 qo,X7 qk qX.toPart L_q0,Xp b_q0 [.slice p_q0 L_q0.length c_q0] 31,Xp b_q1 [vI q1] 2] w) (G:Jj a0 q0 q1=some r) :
  Calls Tryz.prog 40 #[vI a0,vP b_q0 0,vP b_q1 0] w fun e w'=>e = .returned (.bool r)∧Below w.heap.size w w':=by
 obtain ⟨fr,hfr⟩:∃ fr:Nat→Prop,∀ j,fr j:=⟨fun _=>True,fun _=>trivial⟩
 have hBf:∀ j,w.heap.size≤j→fr j:=fun j _=>hfr j
 refine QO (args:=[vI a0,vP b_q0 0,vP b_q1 0]) 12 [(13,qB qk 6 p_q0 c_q0 L_q0 qo),(14,X7 qk qX.toPart L_q0),(12,Xp b_q0 [.slice p_q0 L_q0.length c_q0] 31),(15,Xp b_q1 [vI q1] 2)] (by
  intro x hx
  simp only [List.mem_cons,List.not_mem_nil,or_false] at hx
  rcases hx with rfl | rfl | rfl | rfl
  ·exact qy (qj hB.1) (fun _ _=>trivial) (by decide) _
  ·exact ZQ (Xl hB.2.1) (fun _ _=>trivial) _
  ·exact QV (hB.2.2.1 w (agree.refl _ _)) _
  ·exact QV (hB.2.2.2.1 w (agree.refl _ _)) _) Tryz.func40 rfl (by kernel_rfl) (by kernel_rfl) fun a H=>?_
 unfold Jj at G
 refine qg qd H (.v 4 (.bool false)<|.nil) [0,1,2,13,14,12,15] fun u1 a w' H=>?_
 refine qv ?_
 replace G:=gd G; obtain ⟨b3,G⟩:=G
 obtain ⟨t4,ht4,G⟩:=qP G
 obtain ⟨p_t4_From,c_t4_From,p_t4_Pre,c_t4_Pre,p_t4_Tube,c_t4_Tube,p_t4_To,c_t4_To,y_t4⟩:=XD h_q0 ht4
 have P5:=Xh (en:=qo) (l:=L_q0) (qj (H.at (K:=qB qk 6 p_q0 c_q0 L_q0 qo) 13 (by kernel_rfl))).2 qx
 refine Qt qd H (.cons [5] (Q8 (fun u2=>.slice p_q0 L_q0.length c_q0) 5 12 (Xp b_q0 [.slice p_q0 L_q0.length c_q0] 31) b_q0 0 1 [.slice p_q0 L_q0.length c_q0] (fun w h=>Zf h)) <|
 .v 6 (vI a0) <|
 .cons [7] (qn (fun u2=>.pointer (some ⟨Xf p_q0,Xg p_q0+a0.toNat * 6,none⟩)) 7 (hv:=fun _ _=>qM (t:=31) (k:=.i64) (i:=a0) (p:=p_q0) (n:=L_q0.length) (cap:=c_q0) (x:=q0) P5 (qT h_q0) b3 (by kernel_rfl))) <|
 .v 8 (.pointer (some ⟨Xf p_q0,Xg p_q0+a0.toNat * 6+0,none⟩)) <|
 .cons [9] (qG 13 (qB qk 6 p_q0 c_q0 L_q0 qo) (vI t4.T) 9 fun _ w h=>Ym qo (qj h).2 qx y_t4 0 1 [vI t4.T]) <|
 .cons [10] (Q8 (fun u2=>vI q1) 10 15 (Xp b_q1 [vI q1] 2) b_q1 0 1 [vI q1] (fun w h=>Zf h)) <|
 .v 11 (.bool (decide (t4.T > q1))) <|
 .v 4 (.bool (decide (t4.T > q1)))<|.nil) [4,13,14,12,15] fun u2 a w' H=>?_
 refine qF ?_
 obtain rfl:=sj G
 exact Qr H _ (by kernel_rfl) (by kernel_rfl)
theorem XH.calls (k0:Nat) (a0:Int) (a1_0:List Qc) (a1_1:Int) (b_a1_0:Nat) (p_a1_0:Option Addr) (c_a1_0:Nat) (L_a1_0:List q7) (b_a1_1:Nat) (r:Int) (w:World) (h_a1_0:a1_0=L_a1_0.map YB) (hB:Xx [qB qk 6 p_a1_0 c_a1_0 L_a1_0 qo,X7 qk qX.toPart L_a1_0,Xp b_a1_0 [.slice p_a1_0 L_a1_0.length c_a1_0] 31,Xp b_a1_1 [vI a1_1] 2] w) (G:XH k0 a0 a1_0 a1_1=some r) :
  Calls Tryz.prog 39 #[vI a0,.func (.func 40) #[] #[vP b_a1_0 0,vP b_a1_1 0]] w fun e w'=>e = .returned (vI r)∧Below w.heap.size w w':=by
 obtain ⟨fr,hfr⟩:∃ fr:Nat→Prop,∀ j,fr j:=⟨fun _=>True,fun _=>trivial⟩
 have hBf:∀ j,w.heap.size≤j→fr j:=fun j _=>hfr j
 refine QO (args:=[vI a0,.func (.func 40) #[] #[vP b_a1_0 0,vP b_a1_1 0]]) 26 [(27,qB qk 6 p_a1_0 c_a1_0 L_a1_0 qo),(28,X7 qk qX.toPart L_a1_0),(26,Xp b_a1_0 [.slice p_a1_0 L_a1_0.length c_a1_0] 31),(29,Xp b_a1_1 [vI a1_1] 2)] (by
  intro x hx
  simp only [List.mem_cons,List.not_mem_nil,or_false] at hx
  rcases hx with rfl | rfl | rfl | rfl
  ·exact qy (qj hB.1) (fun _ _=>trivial) (by decide) _
  ·exact ZQ (Xl hB.2.1) (fun _ _=>trivial) _
  ·exact QV (hB.2.2.1 w (agree.refl _ _)) _
  ·exact QV (hB.2.2.2.1 w (agree.refl _ _)) _) Tryz.func39 rfl (by kernel_rfl) (by kernel_rfl) fun a H=>?_
 unfold XH at G
 refine qg qd H (.v 4 (vI 0)<|.nil) [0,1,27,28,26,29] fun u1 a w' H=>?_
 refine qg qd H (.v 8 (vI a0) <|
 .v 5 (vI 0) <|
 .v 6 (vI a0)<|.nil) [1,5,6,27,28,26,29] fun u2 a w' H=>?_
 refine qv ?_
 obtain ⟨j4,hj4,G⟩:=qP G
 refine Xq (fun a w'=>RL w 26 [(5,sI j4),(27,qB qk 6 p_a1_0 c_a1_0 L_a1_0 qo),(28,X7 qk qX.toPart L_a1_0),(26,Xp b_a1_0 [.slice p_a1_0 L_a1_0.length c_a1_0] 31),(29,Xp b_a1_1 [vI a1_1] 2)] a w') ?_ ?_
 ·clear H; intro a w' H
  refine qg qd H (.v 25 (vI j4) <|
 .v 4 (vI j4)<|.nil) [4,27,28,26,29] fun u5 a w' H=>?_
  refine qF ?_
  obtain rfl:=sj G
  exact Qr H _ (by kernel_rfl) (by kernel_rfl)
 ·clear G; replace G:=hj4; clear hj4
  refine q6 ?_
  refine XP (fun m a w'=>∃ x6:Int,∃ x7:Int,XH.l8 k0 a0 a1_0 a1_1 m x6 x7=some j4∧RL w 26 [(1,.slot true (.func (.func 40) #[] #[vP b_a1_0 0,vP b_a1_1 0])),(5,sI x6),(6,sI x7),(27,qB qk 6 p_a1_0 c_a1_0 L_a1_0 qo),(28,X7 qk qX.toPart L_a1_0),(26,Xp b_a1_0 [.slice p_a1_0 L_a1_0.length c_a1_0] 31),(29,Xp b_a1_1 [vI a1_1] 2)] a w') k0 ⟨_,_,G,H.toM _⟩ ?_
  clear G H
  rintro (_ | k) a w' ⟨x6,x7,G,H⟩
  ·exact absurd G (by unfold XH.l8; exact fun h=>by cases h)
  ·unfold XH.l8 at G
   refine qv ?_
   refine qg qd H (.v 9 (vI x6) <|
 .v 10 (vI x7) <|
 .v 11 (.bool (decide (x6<x7)))<|.nil) [1,5,6,11,27,28,26,29] fun u9 a w' H=>?_
   refine Qx H (decide (x6<x7)) (fun c16=>?_) fun c16=>?_
   ·rw [if_pos c16] at G
    refine Qf ?_
    refine q6 ?_
    refine qg qd H (.v 12 (vI x6) <|
 .v 13 (vI x7) <|
 .v 14 (vI (qc (x6+x7))) <|
 .v 15 (.int .u64 (Ja (qc (x6+x7)))) <|
 .v 16 (.int .u64 (Int.fdiv (Ja (qc (x6+x7))) 2)) <|
 .v 17 (vI (qc (Int.fdiv (Ja (qc (x6+x7))) 2))) <|
 .v 7 (vI (qc (Int.fdiv (Ja (qc (x6+x7))) 2)))<|.nil) [1,5,6,7,27,28,26,29] fun u10 a w' H=>?_
    obtain ⟨t12,ht12,G⟩:=qP G
    refine qg qd H (.v 18 (.func (.func 40) #[] #[vP b_a1_0 0,vP b_a1_1 0]) <|
 .v 19 (vI (qc (Int.fdiv (Ja (qc (x6+x7))) 2))) <|
 .cons [20] (QX [27,28,26,29] (fun u11=>[qB qk 6 p_a1_0 c_a1_0 L_a1_0 qo,X7 qk qX.toPart L_a1_0,Xp b_a1_0 [.slice p_a1_0 L_a1_0.length c_a1_0] 31,Xp b_a1_1 [vI a1_1] 2]) 40 _ _ 20 (fun u11 w hF=>Jj.calls (qc (Int.fdiv (Ja (qc (x6+x7))) 2)) a1_0 a1_1 b_a1_0 p_a1_0 c_a1_0 L_a1_0 b_a1_1 t12 w h_a1_0 ⟨(Z9 (qj hF.1)),(dnA (Xl hF.2.1)),(QV (hF.2.2.1 w (agree.refl _ _)) 0).2.1,(QV (hF.2.2.2.1 w (agree.refl _ _)) 0).2.1,trivial⟩ ht12)) <|
 .v 21 (.bool (!t12))<|.nil) [1,5,6,7,21,27,28,26,29] fun u11 a w' H=>?_
    refine Qx H (!t12) (fun c15=>?_) fun c15=>?_
    ·rw [if_pos c15] at G
     refine Qt qd H (.v 22 (vI (qc (Int.fdiv (Ja (qc (x6+x7))) 2))) <|
 .v 23 (vI (qc ((qc (Int.fdiv (Ja (qc (x6+x7))) 2))+1))) <|
 .v 5 (vI (qc ((qc (Int.fdiv (Ja (qc (x6+x7))) 2))+1)))<|.nil) [1,5,6,27,28,26,29] fun u13 a w' H=>?_
     exact ⟨k,Nat.lt_succ_self k,_,_,G,H.toM _⟩
    ·rw [if_neg (nt c15)] at G
     refine Qt qd H (.v 24 (vI (qc (Int.fdiv (Ja (qc (x6+x7))) 2))) <|
 .v 6 (vI (qc (Int.fdiv (Ja (qc (x6+x7))) 2)))<|.nil) [1,5,6,27,28,26,29] fun u14 a w' H=>?_
     exact ⟨k,Nat.lt_succ_self k,_,_,G,H.toM _⟩
   ·rw [if_neg (nt c16)] at G
    refine Yk rfl ?_
    obtain rfl:=sj G
    exact H.toM _
theorem V3.calls (k0:Nat) (a0:List Qc) (a1:Int) (p_a0:Option Addr) (c_a0:Nat) (L_a0:List q7) (r:List qb × Bool) (w:World) (h_a0:a0=L_a0.map YB) (hB:Xx [qB qk 6 p_a0 c_a0 L_a0 qo] w) (hF:Xx [X7 qk qX.toPart L_a0] w) (G:V3 k0 a0 a1=some r) :
  Calls Tryz.prog 15 #[.slice p_a0 L_a0.length c_a0,vI a1] w fun e w'=>∃ g:Gh,e = .returned (.tuple #[.slice (g.o 0) r.1.length (g.n 0),.bool r.2])∧Zg (Y4 []) w w'∧Ys w.heap.size (Y4 []) (JH w.heap.size [X7 qk qX.toPart L_a0]) [fun fr=>YZ fr 2 (g.o 0) r.1.length (g.n 0) (r.1.flatMap qa)] w':=by
 obtain ⟨fr,hfr,hBf⟩:=VE w [X7 qk qX.toPart L_a0]
 refine QO (args:=[.slice p_a0 L_a0.length c_a0,vI a1]) 59 [(59,qB qk 6 p_a0 c_a0 L_a0 qo),(60,X7 fr qX.toPart L_a0)] (by
  intro x hx
  simp only [List.mem_cons,List.not_mem_nil,or_false] at hx
  rcases hx with rfl | rfl
  ·exact qy (qj hB.1) (fun _ _=>trivial) (by decide) _
  ·exact ZQ (Xl hF.1) (fun j h=>by rw [hfr]; exact .inr ⟨_,(.head _),h⟩) _) Tryz.func15 rfl (by kernel_rfl) (by kernel_rfl) fun a H=>?_
 unfold V3 at G
 refine qg qd H (.cons [2,61] (qs (fun b=>vP b 0) (fun u1=>[.slice p_a0 L_a0.length c_a0]) 31 2 61) <|
 .cons [3,62] (qs (fun b=>vP b 0) (fun u1=>[vI a1]) 2 3 62) <|
 .v 4 (.slice none 0 0) <|
 .v 5 (.bool false)<|.nil) [2,3,59,60,61,62] fun u1 a w' H=>?_
 replace G:=qP G; obtain ⟨t3,ht3,G⟩:=G
 refine qg qd H (.cons [11] (qf (.slice p_a0 L_a0.length c_a0) 11 61 0 1 ((u1 0).n 0) [.slice p_a0 L_a0.length c_a0] 31) <|
 .cons [12,63] (QI true fr [] [59,60] (fun u2=>[qB qk 6 p_a0 c_a0 L_a0 qo,X7 fr qX.toPart L_a0]) [] (fun u2=>[]) 28 _ _ _ _ _ [63] 12 (fun u2 w hB hF hM=>Jx.calls a0 p_a0 c_a0 L_a0 t3 w h_a0 hB hF ht3) (fun u2 w hF=>⟨⟨q9 (qj hF.1) (fun j h=>⟨_,(.head _),h⟩),trivial⟩,⟨qbh (Xl hF.2.1) (fun j h=>ZN (.tail _ (.head _)) (fun h=>h) h (V1 hF.2.1 _ h)),trivial⟩⟩) (fun u2 g=>(ql (QZ (by decide)) qC)) (.inl rfl) (fun _=>hBf)) <|
 .cons [10] (qn (fun u2=>.tuple #[.slice ((u2 1).o 0) t3.1.length ((u2 1).n 0),vI t3.2.1,.bool t3.2.2]) 10) <|
 .cons [13] (qn (fun u2=>.slice ((u2 1).o 0) t3.1.length ((u2 1).n 0)) 13) <|
 .v 14 (vI t3.2.1) <|
 .v 15 (.bool t3.2.2) <|
 .cons [6] (qn (fun u2=>.slice ((u2 1).o 0) t3.1.length ((u2 1).n 0)) 6) <|
 .v 7 (vI t3.2.1) <|
 .v 8 (.bool t3.2.2)<|.nil) [2,3,6,7,8,59,60,61,62,63] fun u2 a w' H=>?_
 refine qv ?_
 refine qv ?_
 replace G:=qP G; obtain ⟨z5,hz5,G⟩:=G
 replace hz5:=Option.some.inj hz5
 by_cases c27:z5=true
 ·rw [if_pos c27] at G; subst c27
  refine Qt qd H (.v 16 (.bool t3.2.2) <|
 .v 17 (.bool (!t3.2.2)) <|
 .cons [18] (QL (u':=fun u4=>[(18,sB true)]) (qn (fun u4=>.bool (!t3.2.2)) 18) (fun _=>by rw [hz5])) <|
 .cons [19] (qA 19) <|
 .cons [20] (qA 20) <|
 .cons [21] (qA 21) <|
 .cons [22] (qA 22) <|
 .cons [23] (qA 23) <|
 .cons [24] (qA 24) <|
 .cons [25] (XJ (fun u4=>.bool true) 25) <|
 .v 26 (.bool true) <|
 .cons [27] (qA 27) <|
 .cons [28] (qA 28) <|
 .cons [29] (qA 29) <|
 .cons [30] (XJ (fun u4=>.bool true) 30)<|.nil) [2,3,6,7,30,59,60,61,62,63] fun u4 a w' H=>?_
  refine YO H (by kernel_rfl) (by kernel_rfl) ?_
  refine qg qd H (.v 4 (.slice none 0 0) <|
 .v 5 (.bool false)<|.nil) [4,5] fun u6 a w' H=>?_
  refine qF ?_
  obtain rfl:=sj G
  replace H:=H.nil_row 64 46 2
  replace H:=H.demote fr 64 46 2 none 0 0 (([]:List qb).flatMap qa) (by kernel_rfl) (by decide) hBf
  obtain ⟨g,o0,n0⟩:=ZX none 0
  refine QR H _ g _ _ _ fr [64] [] (.tuple #[.slice none 0 0,.bool false]) [fun fr=>YZ fr 2 none 0 0 (([]:List qb).flatMap qa)] (by simp only [Qm,o0,n0,List.length_set,List.length_cons,List.length_nil,Nat.zero_add,Nat.reduceAdd]) (by simp only [Qm,o0,n0,List.length_set,List.length_cons,List.length_nil,Nat.zero_add,Nat.reduceAdd]) hfr (.inl ⟨rfl,rfl⟩) (ql (QZ (by decide)) qC) (by simp)
 rw [if_neg c27] at G
 by_cases c28:z5=false
 ·rw [if_pos c28] at G; subst c28
  replace G:=gd G; obtain ⟨b6,G⟩:=G
  replace G:=qP G; obtain ⟨t7,ht7,G⟩:=G
  obtain ⟨p_t7_From,c_t7_From,p_t7_Pre,c_t7_Pre,p_t7_Tube,c_t7_Tube,p_t7_To,c_t7_To,y_t7⟩:=XD h_a0 ht7
  have P8:=Xh (en:=qo) (l:=L_a0) (qj (H.at (K:=qB qk 6 p_a0 c_a0 L_a0 qo) 59 (by kernel_rfl))).2 qx
  refine Qt qd H (.v 16 (.bool t3.2.2) <|
 .v 17 (.bool (!t3.2.2)) <|
 .cons [18] (QL (u':=fun u4=>[(18,sB false)]) (qn (fun u4=>.bool (!t3.2.2)) 18) (fun _=>by rw [hz5])) <|
 .cons [19] (Qh (qf (vI a1) 19 62 0 1 ((u1 1).n 0) [vI a1] 2) (by intro _; kernel_rfl)) <|
 .cons [20] (Qh (qf (.slice p_a0 L_a0.length c_a0) 20 61 0 1 ((u1 0).n 0) [.slice p_a0 L_a0.length c_a0] 31) (by intro _; kernel_rfl)) <|
 .cons [21] (Qh (qn (fun u4=>.pointer (some ⟨Xf p_a0,Xg p_a0+((0:Int).toNat) * 6,none⟩)) 21 (hv:=fun _ _=>qM (t:=31) (k:=.i64) (i:=(0:Int)) (p:=p_a0) (n:=L_a0.length) (cap:=c_a0) (x:=a0) P8 (qT h_a0) b6 (by kernel_rfl))) (by intro _; kernel_rfl)) <|
 .cons [22] (Qh (qn (fun u4=>.pointer (some ⟨Xf p_a0,Xg p_a0+((0:Int).toNat) * 6+0,none⟩)) 22) (by intro _; kernel_rfl)) <|
 .cons [23] (Qh (qG 59 (qB qk 6 p_a0 c_a0 L_a0 qo) (vI t7.T) 23 fun _ w h=>Ym qo (qj h).2 qx y_t7 0 1 [vI t7.T]) (by intro _; kernel_rfl)) <|
 .cons [24] (Qh (qn (fun u4=>.bool (decide (a1<t7.T))) 24) (by intro _; kernel_rfl)) <|
 .cons [25] (XJ (fun u4=>.bool (decide (a1<t7.T))) 25) <|
 .v 26 (.bool (decide (a1<t7.T))) <|
 .cons [27] (YS (fun u4=>vI a1) (fun u4=>((decide (a1<t7.T)) == false)) [true] 27 62 0 1 (fun u4=>((u1 1).n 0)) (fun u4=>[vI a1]) 2) <|
 .cons [28] (qQ (fun u4=>vI t3.2.1) (fun u4=>((decide (a1<t7.T)) == false)) [true] 28) <|
 .cons [29] (qQ (fun u4=>.bool (decide (a1 > t3.2.1))) (fun u4=>((decide (a1<t7.T)) == false)) [false,false] 29) <|
 .cons [30] (ZM 26 29 (fun u4=>true) (fun u4=>true) (fun u4=>decide (a1<t7.T)) (fun u4=>decide (a1 > t3.2.1)) 30)<|.nil) [2,3,6,7,30,59,60,61,62,63] fun u4 a w' H=>?_
  refine Qx H ((decide (a1<t7.T)) || (decide (a1 > t3.2.1))) (fun c26=>?_) fun c26=>?_
  ·rw [if_pos c26] at G
   refine qg qd H (.v 4 (.slice none 0 0) <|
 .v 5 (.bool false)<|.nil) [4,5] fun u9 a w' H=>?_
   refine qF ?_
   obtain rfl:=sj G
   replace H:=H.nil_row 64 46 2
   replace H:=H.demote fr 64 46 2 none 0 0 (([]:List qb).flatMap qa) (by kernel_rfl) (by decide) hBf
   obtain ⟨g,o0,n0⟩:=ZX none 0
   refine QR H _ g _ _ _ fr [64] [] (.tuple #[.slice none 0 0,.bool false]) [fun fr=>YZ fr 2 none 0 0 (([]:List qb).flatMap qa)] (by simp only [Qm,o0,n0,List.length_set,List.length_cons,List.length_nil,Nat.zero_add,Nat.reduceAdd]) (by simp only [Qm,o0,n0,List.length_set,List.length_cons,List.length_nil,Nat.zero_add,Nat.reduceAdd]) hfr (.inl ⟨rfl,rfl⟩) (ql (QZ (by decide)) qC) (by simp)
  ·rw [if_neg (nt c26)] at G
   refine Qf ?_
   replace G:=qP G; obtain ⟨t11,ht11,G⟩:=G
   refine qg qd H (.cons [31] (qf (.slice p_a0 L_a0.length c_a0) 31 61 0 1 ((u1 0).n 0) [.slice p_a0 L_a0.length c_a0] 31) <|
 .cons [32] (qG 59 (qB qk 6 p_a0 c_a0 L_a0 qo) (vI (a0.length:Int)) 32 fun _ w h=>Yt (((qj h).2.len qx (by decide)).trans (qT h_a0).symm) (by kernel_rfl)) <|
 .v 33 (.func (.func 40) #[] #[vP ((u1 0).n 0) 0,vP ((u1 1).n 0) 0]) <|
 .cons [34] (QX [59,60,61,62] (fun u10=>[qB qk 6 p_a0 c_a0 L_a0 qo,X7 fr qX.toPart L_a0,.blk ((u1 0).n 0) [.slice p_a0 L_a0.length c_a0] 31,.blk ((u1 1).n 0) [vI a1] 2]) 39 _ _ 34 (fun u10 w hF=>XH.calls k0 (a0.length:Int) a0 a1 ((u1 0).n 0) p_a0 c_a0 L_a0 ((u1 1).n 0) t11 w h_a0 ⟨(Z9 (qj hF.1)),(dnA (Xl hF.2.1)),(QV hF.2.2.1 0).2.1,(QV hF.2.2.2.1 0).2.1,trivial⟩ ht11)) <|
 .v 35 (vI (qc (t11 - 1))) <|
 .v 9 (vI (qc (t11 - 1)))<|.nil) [2,3,6,7,9,59,60,61,62,63] fun u10 a w' H=>?_
   refine qv ?_
   refine q6 ?_
   refine qv ?_
   replace G:=gd G; obtain ⟨b13,G⟩:=G
   replace G:=qP G; obtain ⟨t14,ht14,G⟩:=G
   obtain ⟨p_t14_From,c_t14_From,p_t14_Pre,c_t14_Pre,p_t14_Tube,c_t14_Tube,p_t14_To,c_t14_To,y_t14⟩:=XD h_a0 ht14
   have P15:=Xh (en:=qo) (l:=L_a0) (qj (H.at (K:=qB qk 6 p_a0 c_a0 L_a0 qo) 59 (by kernel_rfl))).2 qx
   refine Qt qd H (.cons [37] (qf (.slice p_a0 L_a0.length c_a0) 37 61 0 1 ((u1 0).n 0) [.slice p_a0 L_a0.length c_a0] 31) <|
 .v 38 (vI (qc (t11 - 1))) <|
 .cons [39] (qn (fun u12=>.pointer (some ⟨Xf p_a0,Xg p_a0+((qc (t11 - 1)).toNat) * 6,none⟩)) 39 (hv:=fun _ _=>qM (t:=31) (k:=.i64) (i:=qc (t11 - 1)) (p:=p_a0) (n:=L_a0.length) (cap:=c_a0) (x:=a0) P15 (qT h_a0) b13 (by kernel_rfl))) <|
 .v 40 (.pointer (some ⟨Xf p_a0,Xg p_a0+((qc (t11 - 1)).toNat) * 6+0,none⟩)) <|
 .cons [41] (qG 59 (qB qk 6 p_a0 c_a0 L_a0 qo) (vI t14.T) 41 fun _ w h=>Ym qo (qj h).2 qx y_t14 0 1 [vI t14.T]) <|
 .cons [42] (qf (vI a1) 42 62 0 1 ((u1 1).n 0) [vI a1] 2) <|
 .v 43 (.bool (t14.T == a1)) <|
 .v 36 (.bool (t14.T == a1))<|.nil) [2,3,6,7,9,36,59,60,61,62,63] fun u12 a w' H=>?_
   refine Qx H (t14.T == a1) (fun c25=>?_) fun c25=>?_
   ·rw [if_pos c25] at G
    refine qv ?_
    replace G:=gd G; obtain ⟨b17,G⟩:=G
    replace G:=qP G; obtain ⟨t18,ht18,G⟩:=G
    obtain ⟨p_t18_From,c_t18_From,p_t18_Pre,c_t18_Pre,p_t18_Tube,c_t18_Tube,p_t18_To,c_t18_To,y_t18⟩:=XD h_a0 ht18
    refine Qt qd H (.cons [44] (qf (.slice p_a0 L_a0.length c_a0) 44 61 0 1 ((u1 0).n 0) [.slice p_a0 L_a0.length c_a0] 31) <|
 .v 45 (vI (qc (t11 - 1))) <|
 .cons [46] (qG 59 (qB qk 6 p_a0 c_a0 L_a0 qo) (.pointer (some ⟨Xf p_a0,Xg p_a0+((qc (t11 - 1)).toNat) * 6,none⟩)) 46 fun _ w h=>Jo 31 .i64 (qc (t11 - 1)) p_a0 L_a0.length c_a0 a0 qo (qj h).2 qx (qT h_a0) b17) <|
 .v 47 (.pointer (some ⟨Xf p_a0,Xg p_a0+((qc (t11 - 1)).toNat) * 6+2,none⟩)) <|
 .cons [48] (qG 59 (qB qk 6 p_a0 c_a0 L_a0 qo) (.slice p_t18_From t18.From.length c_t18_From) 48 fun _ w h=>Ym qo (qj h).2 qx y_t18 2 1 [.slice p_t18_From t18.From.length c_t18_From]) <|
 .v 4 (.slice p_t18_From t18.From.length c_t18_From) <|
 .v 5 (.bool true)<|.nil) [4,5,60] fun u16 a w' H=>?_
    refine qF ?_
    obtain rfl:=sj G
    replace H:=H.addF 65 (qB fr 2 p_t18_From c_t18_From t18.From qa) [60] [X7 fr qX.toPart L_a0] (by kernel_rfl) (fun h=>h) (by intro _ _ h; cases h) (fun hF=>(qy (show XO _ 2 p_t18_From t18.From.length c_t18_From (t18.From.flatMap qa) from ((Xl hF.1) _ (List.mem_of_getElem? y_t18)).1.1) (fun j h=>(V1 hF.1 _ ⟨_,(List.mem_of_getElem? y_t18),(.inl (.inl h))⟩)) (by decide) 0).2.1) (fun hF j h=>⟨_,.head _,(fun h=>h),⟨_,(List.mem_of_getElem? y_t18),(.inl (.inl h))⟩⟩)
    obtain ⟨g,o0,n0⟩:=ZX p_t18_From c_t18_From
    refine QR H _ g _ _ _ fr [65] [] (.tuple #[.slice p_t18_From t18.From.length c_t18_From,.bool true]) [fun fr=>qB fr 2 p_t18_From c_t18_From t18.From qa] (by simp only [Qm,o0,n0]) (by simp only [Qm,o0,n0]) hfr (.inl ⟨rfl,rfl⟩) (ql (QZ (by decide)) qC) (by simp)
   ·rw [if_neg (nt c25)] at G
    refine qg qd H (.cons [50] (qf (vI a1) 50 62 0 1 ((u1 1).n 0) [vI a1] 2) <|
 .v 51 (vI t3.2.1) <|
 .v 52 (.bool (a1 == t3.2.1)) <|
 .v 49 (.bool (a1 == t3.2.1))<|.nil) [2,6,9,49,59,60,61,63] fun u19 a w' H=>?_
    refine Qx H (a1 == t3.2.1) (fun c24=>?_) fun c24=>?_
    ·rw [if_pos c24] at G
     refine qg qd H (.v 53 (.slice ((u2 1).o 0) t3.1.length ((u2 1).n 0)) <|
 .v 4 (.slice ((u2 1).o 0) t3.1.length ((u2 1).n 0)) <|
 .v 5 (.bool true)<|.nil) [4,5,63] fun u20 a w' H=>?_
     refine qF ?_
     obtain rfl:=sj G
     obtain ⟨g,o0,n0⟩:=ZX ((u2 1).o 0) ((u2 1).n 0)
     refine QR H _ g _ _ _ fr [63] [] (.tuple #[.slice ((u2 1).o 0) t3.1.length ((u2 1).n 0),.bool true]) [fun fr=>YZ fr 2 ((u2 1).o 0) t3.1.length ((u2 1).n 0) (t3.1.flatMap qa)] (by simp only [Qm,o0,n0]) (by simp only [Qm,o0,n0]) hfr (.inl ⟨rfl,rfl⟩) (ql (QZ (by decide)) qC) (by simp)
    ·rw [if_neg (nt c24)] at G
     refine Qf ?_
     refine qv ?_
     replace G:=gd G; obtain ⟨b22,G⟩:=G
     replace G:=qP G; obtain ⟨t23,ht23,G⟩:=G
     obtain ⟨p_t23_From,c_t23_From,p_t23_Pre,c_t23_Pre,p_t23_Tube,c_t23_Tube,p_t23_To,c_t23_To,y_t23⟩:=XD h_a0 ht23
     refine Qt qd H (.cons [54] (qf (.slice p_a0 L_a0.length c_a0) 54 61 0 1 ((u1 0).n 0) [.slice p_a0 L_a0.length c_a0] 31) <|
 .v 55 (vI (qc (t11 - 1))) <|
 .cons [56] (qG 59 (qB qk 6 p_a0 c_a0 L_a0 qo) (.pointer (some ⟨Xf p_a0,Xg p_a0+((qc (t11 - 1)).toNat) * 6,none⟩)) 56 fun _ w h=>Jo 31 .i64 (qc (t11 - 1)) p_a0 L_a0.length c_a0 a0 qo (qj h).2 qx (qT h_a0) b22) <|
 .v 57 (.pointer (some ⟨Xf p_a0,Xg p_a0+((qc (t11 - 1)).toNat) * 6+4,none⟩)) <|
 .cons [58] (qG 59 (qB qk 6 p_a0 c_a0 L_a0 qo) (.slice p_t23_Tube t23.Tube.length c_t23_Tube) 58 fun _ w h=>Ym qo (qj h).2 qx y_t23 4 1 [.slice p_t23_Tube t23.Tube.length c_t23_Tube]) <|
 .v 4 (.slice p_t23_Tube t23.Tube.length c_t23_Tube) <|
 .v 5 (.bool true)<|.nil) [4,5,60] fun u21 a w' H=>?_
     refine qF ?_
     obtain rfl:=sj G
     replace H:=H.addF 66 (qB fr 2 p_t23_Tube c_t23_Tube t23.Tube qa) [60] [X7 fr qX.toPart L_a0] (by kernel_rfl) (fun h=>h) (by intro _ _ h; cases h) (fun hF=>(qy (show XO _ 2 p_t23_Tube t23.Tube.length c_t23_Tube (t23.Tube.flatMap qa) from ((Xl hF.1) _ (List.mem_of_getElem? y_t23)).2.2.1.1) (fun j h=>(V1 hF.1 _ ⟨_,(List.mem_of_getElem? y_t23),(.inr (.inr (.inl (.inl h))))⟩)) (by decide) 0).2.1) (fun hF j h=>⟨_,.head _,(fun h=>h),⟨_,(List.mem_of_getElem? y_t23),(.inr (.inr (.inl (.inl h))))⟩⟩)
     obtain ⟨g,o0,n0⟩:=ZX p_t23_Tube c_t23_Tube
     refine QR H _ g _ _ _ fr [66] [] (.tuple #[.slice p_t23_Tube t23.Tube.length c_t23_Tube,.bool true]) [fun fr=>qB fr 2 p_t23_Tube c_t23_Tube t23.Tube qa] (by simp only [Qm,o0,n0]) (by simp only [Qm,o0,n0]) hfr (.inl ⟨rfl,rfl⟩) (ql (QZ (by decide)) qC) (by simp)
 rw [if_neg c28] at G
 cases G
theorem Xb.calls (a0:Int) (r:qb) (w:World) (G:Xb a0=some r) :
  Calls Tryz.prog 27 #[vI a0] w fun e w'=>e = .returned (.agg #[vI r.Lo,vI r.Hi])∧Below w.heap.size w w':=by
 refine QD (args:=[vI a0]) 8 Tryz.func27 rfl (by kernel_rfl) (by kernel_rfl) fun a H=>?_
 unfold Xb at G
 refine qg qd H (.cons [2,8] (qs (fun b=>vP b 0) (fun u1=>[vI 0,vI 0]) 46 2 8)<|.nil) [0,2,8] fun u1 a w' H=>?_
 refine qg qd H (.v 3 (vI a0) <|
 .v 4 (vI (qc (a0 * 65536))) <|
 .v 5 (vI a0) <|
 .v 6 (vI (qc (a0 * 65536))) <|
 .v 7 (.agg #[vI (qc (a0 * 65536)),vI (qc (a0 * 65536))]) <|
 .cons [8] (Qa 8 0 ((u1 0).n 0) [vI 0,vI 0] [vI (qc (a0 * 65536)),vI (qc (a0 * 65536))] 46 [vI (qc (a0 * 65536)),vI (qc (a0 * 65536))])<|.nil) [2,8] fun u2 a w' H=>?_
 refine qF ?_
 obtain rfl:=sj G
 exact Qj H _ 8 ((u1 0).n 0) [vI (qc (a0 * 65536)),vI (qc (a0 * 65536))] 46 0 2 (by kernel_rfl) (by kernel_rfl) (by kernel_rfl) (by kernel_rfl)
theorem XV.calls (k0:Nat)  (r:Bool) (w:World) (hg:Ww w) (G:XV k0=some r) :
  Calls Tryz.prog 9 #[] w fun e w'=>e = .returned (.bool r)∧Below w.heap.size w w':=by
 obtain ⟨fr,hfr⟩:∃ fr:Nat→Prop,∀ j,fr j:=⟨fun _=>True,fun _=>trivial⟩
 have hBf:∀ j,w.heap.size≤j→fr j:=fun j _=>hfr j
 refine qae (args:=[]) 63 999999 Wg Ww (J2 hg) (Yl hg) Tryz.func9 rfl (by kernel_rfl) (by kernel_rfl) fun a H=>?_
 unfold XV at G
 refine qg qd H (.v 0 (.bool false)<|.nil) [999999] fun u1 a w' H=>?_
 obtain ⟨t3,ht3,G⟩:=qP G
 obtain ⟨t4,ht4,G⟩:=qP G
 obtain ⟨t5,ht5,G⟩:=qP G
 obtain ⟨t6,ht6,G⟩:=qP G
 obtain ⟨t7,ht7,G⟩:=qP G
 obtain ⟨t8,ht8,G⟩:=qP G
 refine qg qd H (.cons [9] (qq 27 _ _ 9 [] (fun u2 w _=>Xb.calls 2  t3 w  ht3)) <|
 .cons [10,63,64] (QI false fr [] [] (fun u2=>[]) [] (fun u2=>[]) 13 _ (fun u2=>[]) _ _ _ [63,64] 10 (fun u2 w hB hF hM=>Y6.calls t3  t4 w  ht4) (fun u2 w hF=>⟨trivial,trivial⟩) (fun u2 g=>(ql Qw (ql Jb qC))) (.inr (fun u2 g=>(Qv trivial (Qv trivial (fun K h=>by cases h))))) (fun h=>by cases h)) <|
 .cons [11,65,66] (QI false fr [1] [63,64] (fun u2=>[Qm 9 1 ((u2 1).o 0) ((u2 1).n 0) t4.Names YE,ns_en_TNodeg (u2 1) 1 t4.F]) [] (fun u2=>[]) 12 _ _ _ _ _ [65,66] 11 (fun u2 w hB hF hM=>Xk.calls k0 t4 ((u2 1).o 0) ((u2 1).n 0) ((u2 1).o 1) ((u2 1).n 1) (dlgd_S_TNode (u2 1) 1 t4.F) t5 w (XL ZJ (u2 1) 1 t4.F) hB ht5) (fun u2 w hF=>⟨⟨q9 (qw (Qe hF.1)) (fun j h=>⟨_,(.head _),(YT h)⟩),q9 (XS hF.2.1).row (fun j h=>⟨_,(.tail _ (.head _)),(qbd h)⟩),J7 (XS hF.2.1).all (fun j h=>⟨_,(.tail _ (.head _)),(qba h)⟩),trivial⟩,trivial⟩) (fun u2 g=>(ql Qw (ql Qw qC))) (.inr (fun u2 g=>(Qv trivial (Qv trivial (fun K h=>by cases h))))) (fun h=>by cases h) (hloc:=fun u u' h=>⟨by first | rfl | simp only [h 1 (by decide)],by first | rfl | simp only [h 1 (by decide)],by first | rfl | simp only [h 1 (by decide)],by first | rfl | simp only [h 1 (by decide)],by first | rfl | simp only [h 1 (by decide)],by first | rfl | simp only [h 1 (by decide)]⟩)) <|
 .cons [12] (qq 27 _ _ 12 [] (fun u2 w _=>Xb.calls 1  t6 w  ht6)) <|
 .cons [13,67,67] (qbs (fun u2=>[(67,YZ fr 2 (some ⟨((u2 4).n 0),0,none⟩) 1 1 (([t6]:List qb).flatMap qa))]) (qaG 2 1 (qs (fun b=>.slice (some ⟨b,0,none⟩) 1 1) (fun u2=>[vI t6.Lo,vI t6.Hi]) 46 13 67) (fun _=>rfl) (by decide)) (fun u2 S a w H=>H.demote fr 67 46 2 (some ⟨((u2 4).n 0),0,none⟩) 1 1 (([t6]:List qb).flatMap qa) (by kernel_rfl) (by decide) hBf)) <|
 .cons [14] (qq 10 _ _ 14 [] (fun u2 w _=>Q0.calls 2 0 31  t7 w  ht7)) <|
 .cons [15,68,69] (QI true fr [2,4] [65,66,67,999999] (fun u2=>[Qm 110 5 ((u2 2).o 0) ((u2 2).n 0) t5.L qi,Qm 3 1 ((u2 2).o 1) ((u2 2).n 1) t5.Out Qn,YZ fr 2 (some ⟨((u2 4).n 0),0,none⟩) 1 1 (([t6]:List qb).flatMap qa),gk]) [] (fun u2=>[]) 11 _ _ _ _ _ [68,69] 15 (fun u2 w hB hF hM=>qY.calls k0 t5 ([t6]:List qb) t7 ((u2 2).o 0) ((u2 2).n 0) ((u2 2).o 1) ((u2 2).n 1) (some ⟨((u2 4).n 0),0,none⟩) 1 t8 w  hB hF ht8) (fun u2 w hF=>⟨⟨q9 (qw (Qe hF.1)) (fun j h=>⟨_,(.head _),(YT h)⟩),q9 (qw (Qe hF.2.1)) (fun j h=>⟨_,(.tail _ (.head _)),(YT h)⟩),Z6 hF.2.2.2.1 (.tail _ (.tail _ (.tail _ (.head _)))),trivial⟩,⟨Zx (qj hF.2.2.1) (fun j h=>ZN (.tail _ (.tail _ (.head _))) (fun h=>h) h (Y7 hF.2.2.1 _ h)),trivial⟩⟩) (fun u2 g=>(ql Qw (ql J4 qC))) (.inl rfl) (fun _=>hBf) (hloc:=fun u u' h=>⟨by first | rfl | simp only [h 2 (by decide),h 4 (by decide)],by first | rfl | simp only [h 2 (by decide),h 4 (by decide)],by first | rfl | simp only [h 2 (by decide),h 4 (by decide)],by first | rfl | simp only [h 2 (by decide),h 4 (by decide)],by first | rfl | simp only [h 2 (by decide),h 4 (by decide)],by first | rfl | simp only [h 2 (by decide),h 4 (by decide)]⟩)) <|
 .cons [8] (qn (fun u2=>.tuple #[slgd_TSegment (u2 6) 0 t8.1,vI t8.2]) 8) <|
 .cons [16] (qn (fun u2=>slgd_TSegment (u2 6) 0 t8.1) 16) <|
 .v 17 (vI t8.2) <|
 .cons [1] (qn (fun u2=>slgd_TSegment (u2 6) 0 t8.1) 1) <|
 .v 2 (vI t8.2)<|.nil) [1,2,68,69,999999] fun u2 a w' H=>?_
 obtain ⟨t10,ht10,G⟩:=qP G
 refine qg qd H (.v 19 (slgd_TSegment (u2 6) 0 t8.1) <|
 .cons [20,70] (QI true fr [] [68,69] (fun u9=>[Qm 63 6 ((u2 6).o 0) ((u2 6).n 0) (dlgd_TSegment (u2 6) 0 t8.1) qo,X7 fr qX.toPart (dlgd_TSegment (u2 6) 0 t8.1)]) [] (fun u9=>[]) 28 _ _ _ _ _ [70] 20 (fun u9 w hB hF hM=>Jx.calls t8.1 ((u2 6).o 0) ((u2 6).n 0) (dlgd_TSegment (u2 6) 0 t8.1) t10 w (XL qK (u2 6) 0 t8.1) hB hF ht10) (fun u9 w hF=>⟨⟨q9 (qw (Qe hF.1)) (fun j h=>⟨_,(.head _),(YT h)⟩),trivial⟩,⟨qbh (Xl hF.2.1) (fun j h=>ZN (.tail _ (.head _)) (fun h=>h) h (V1 hF.2.1 _ h)),trivial⟩⟩) (fun u9 g=>(ql (QZ (by decide)) qC)) (.inl rfl) (fun _=>hBf)) <|
 .cons [18] (qn (fun u9=>.tuple #[.slice ((u9 1).o 0) t10.1.length ((u9 1).n 0),vI t10.2.1,.bool t10.2.2]) 18) <|
 .cons [21] (qn (fun u9=>.slice ((u9 1).o 0) t10.1.length ((u9 1).n 0)) 21) <|
 .v 22 (vI t10.2.1) <|
 .v 23 (.bool t10.2.2) <|
 .cons [3] (qn (fun u9=>.slice ((u9 1).o 0) t10.1.length ((u9 1).n 0)) 3) <|
 .v 4 (vI t10.2.1) <|
 .v 5 (.bool t10.2.2)<|.nil) [1,2,3,4,5,68,69,70,999999] fun u9 a w' H=>?_
 obtain ⟨t12,ht12,G⟩:=qP G
 refine qg qd H (.v 25 (slgd_TSegment (u2 6) 0 t8.1) <|
 .cons [26,71] (QI true fr [] [68,69] (fun u11=>[Qm 63 6 ((u2 6).o 0) ((u2 6).n 0) (dlgd_TSegment (u2 6) 0 t8.1) qo,X7 fr qX.toPart (dlgd_TSegment (u2 6) 0 t8.1)]) [] (fun u11=>[]) 15 _ _ _ _ _ [71] 26 (fun u11 w hB hF hM=>V3.calls k0 t8.1 131072 ((u2 6).o 0) ((u2 6).n 0) (dlgd_TSegment (u2 6) 0 t8.1) t12 w (XL qK (u2 6) 0 t8.1) hB hF ht12) (fun u11 w hF=>⟨⟨q9 (qw (Qe hF.1)) (fun j h=>⟨_,(.head _),(YT h)⟩),trivial⟩,⟨qbh (Xl hF.2.1) (fun j h=>ZN (.tail _ (.head _)) (fun h=>h) h (V1 hF.2.1 _ h)),trivial⟩⟩) (fun u11 g=>(ql (QZ (by decide)) qC)) (.inl rfl) (fun _=>hBf)) <|
 .cons [24] (qn (fun u11=>.tuple #[.slice ((u11 1).o 0) t12.1.length ((u11 1).n 0),.bool t12.2]) 24) <|
 .cons [27] (qn (fun u11=>.slice ((u11 1).o 0) t12.1.length ((u11 1).n 0)) 27) <|
 .v 28 (.bool t12.2) <|
 .cons [6] (qn (fun u11=>.slice ((u11 1).o 0) t12.1.length ((u11 1).n 0)) 6) <|
 .v 7 (.bool t12.2)<|.nil) [2,3,4,5,6,7,70,71,999999] fun u11 a w' H=>?_
 refine qv ?_
 refine qg qd H (.v 29 (.slice ((u9 1).o 0) t10.1.length ((u9 1).n 0)) <|
 .v 30 (vI (t10.1.length:Int)) <|
 .v 31 (.bool ((t10.1.length:Int) != 1)) <|
 .v 32 (.bool ((t10.1.length:Int) != 1)) <|
 .cons [33] (qQ (fun u13=>.slice ((u11 1).o 0) t12.1.length ((u11 1).n 0)) (fun u13=>(((t10.1.length:Int) != 1) == false)) [true] 33) <|
 .cons [34] (qQ (fun u13=>vI (t12.1.length:Int)) (fun u13=>(((t10.1.length:Int) != 1) == false)) [false] 34) <|
 .cons [35] (qQ (fun u13=>.bool ((t12.1.length:Int) != 1)) (fun u13=>(((t10.1.length:Int) != 1) == false)) [false,true] 35) <|
 .cons [36] (ZM 32 35 (fun u13=>true) (fun u13=>true) (fun u13=>((t10.1.length:Int) != 1)) (fun u13=>((t12.1.length:Int) != 1)) 36)<|.nil) [2,3,4,5,6,7,36,70,71,999999] fun u13 a w' H=>?_
 refine Qx H (((t10.1.length:Int) != 1) || ((t12.1.length:Int) != 1)) (fun c25=>?_) fun c25=>?_
 ·rw [if_pos c25] at G
  refine qg qd H (.v 0 (.bool false)<|.nil) [0,999999] fun u14 a w' H=>?_
  refine qF ?_
  obtain rfl:=sj G
  exact Qr H _ (by kernel_rfl) (by kernel_rfl)
 ·rw [if_neg (nt c25)] at G
  refine Qf ?_
  refine qv ?_
  replace G:=gd G; obtain ⟨b16,G⟩:=G
  obtain ⟨t17,ht17,G⟩:=qP G
  have P18:=Xh (en:=qa) (l:=t10.1) (qj (H.at (K:=YZ fr 2 ((u9 1).o 0) t10.1.length ((u9 1).n 0) (t10.1.flatMap qa)) 70 (by kernel_rfl))).2 qe
  obtain ⟨t19,ht19,G⟩:=qP G
  obtain ⟨z20,hz20,G⟩:=qP G
  replace hz20:=Option.some.inj hz20
  replace G:=gd G; obtain ⟨b21,G⟩:=G
  obtain ⟨t22,ht22,G⟩:=qP G
  have P23:=Xh (en:=qa) (l:=t12.1) (qj (H.at (K:=YZ fr 2 ((u11 1).o 0) t12.1.length ((u11 1).n 0) (t12.1.flatMap qa)) 71 (by kernel_rfl))).2 qe
  obtain ⟨t24,ht24,G⟩:=qP G
  refine Qt qd H (.v 37 (vI t8.2) <|
 .v 38 (.bool (t8.2 == 0)) <|
 .v 39 (.bool (t8.2 == 0)) <|
 .cons [40] (qQ (fun u15=>.bool t10.2.2) (fun u15=>((t8.2 == 0) == true)) [true] 40) <|
 .cons [41] (YY 39 40 (fun u15=>true) (fun u15=>true) (fun u15=>(t8.2 == 0)) (fun u15=>t10.2.2) 41) <|
 .v 42 (.bool ((t8.2 == 0) && t10.2.2)) <|
 .cons [43] (qQ (fun u15=>vI t10.2.1) (fun u15=>(((t8.2 == 0) && t10.2.2) == true)) [true] 43) <|
 .cons [44] (qQ (fun u15=>.bool (t10.2.1 == 131072)) (fun u15=>(((t8.2 == 0) && t10.2.2) == true)) [false,true] 44) <|
 .cons [45] (YY 42 44 (fun u15=>true) (fun u15=>true) (fun u15=>((t8.2 == 0) && t10.2.2)) (fun u15=>(t10.2.1 == 131072)) 45) <|
 .v 46 (.bool (((t8.2 == 0) && t10.2.2) && (t10.2.1 == 131072))) <|
 .cons [47] (qQ (fun u15=>.slice ((u9 1).o 0) t10.1.length ((u9 1).n 0)) (fun u15=>((((t8.2 == 0) && t10.2.2) && (t10.2.1 == 131072)) == true)) [true] 47) <|
 .cons [48] (qb7 (fun u15=>.pointer (some ⟨Xf ((u9 1).o 0),Xg ((u9 1).o 0)+((0:Int).toNat) * 2,none⟩)) (fun u15=>((((t8.2 == 0) && t10.2.2) && (t10.2.1 == 131072)) == true)) [false,true] 48 (fun _ _ hg=>qM (t:=48) (k:=.i64) (i:=(0:Int)) (p:=((u9 1).o 0)) (n:=t10.1.length) (cap:=((u9 1).n 0)) (x:=t10.1) P18 rfl (b16 hg) (by kernel_rfl))) <|
 .cons [49] (Zq [70] (fun u15=>[YZ fr 2 ((u9 1).o 0) t10.1.length ((u9 1).n 0) (t10.1.flatMap qa)]) (fun u15=>.agg #[vI t17.Lo,vI t17.Hi]) (fun u15=>((((t8.2 == 0) && t10.2.2) && (t10.2.1 == 131072)) == true)) [false] 49 (fun u15 w hg hF=>Ym qa (qj hF.1).2 qe (ifp ht17 hg) 0 2 [vI t17.Lo,vI t17.Hi])) <|
 .cons [50] (ZR 27 (fun u15=>#[vI 5]) (.agg #[vI t19.Lo,vI t19.Hi]) (fun u15=>((((t8.2 == 0) && t10.2.2) && (t10.2.1 == 131072)) == true)) [true,true] 50 [] (fun u15 w hg _=>Xb.calls 5  t19 w  (ifp ht19 hg))) <|
 .cons [51] (qQ (fun u15=>.bool ((t17.Lo == t19.Lo) && ((t17.Hi == t19.Hi) && true))) (fun u15=>((((t8.2 == 0) && t10.2.2) && (t10.2.1 == 131072)) == true)) [false,false] 51 (hv:=fun _ _=>Zz (by kernel_rfl) (Vr (t:=46) (x:=(.tmp 49)) (y:=(.tmp 50)) (xs:=#[vI t17.Lo,vI t17.Hi]) (ys:=#[vI t19.Lo,vI t19.Hi]) (b:=((t17.Lo == t19.Lo) && ((t17.Hi == t19.Hi) && true))) (by kernel_rfl) (by kernel_rfl)))) <|
 .cons [52] (YY 46 51 (fun u15=>true) (fun u15=>true) (fun u15=>(((t8.2 == 0) && t10.2.2) && (t10.2.1 == 131072))) (fun u15=>((t17.Lo == t19.Lo) && ((t17.Hi == t19.Hi) && true))) 52) <|
 .cons [53] (QL (u':=fun u15=>[(53,sB z20)]) (qn (fun u15=>.bool ((((t8.2 == 0) && t10.2.2) && (t10.2.1 == 131072)) && ((t17.Lo == t19.Lo) && ((t17.Hi == t19.Hi) && true)))) 53) (fun _=>by rw [← hz20])) <|
 .cons [54] (qQ (fun u15=>.bool t12.2) (fun u15=>(z20 == true)) [true] 54) <|
 .cons [55] (YY 53 54 (fun u15=>true) (fun u15=>true) (fun u15=>z20) (fun u15=>t12.2) 55) <|
 .v 56 (.bool (z20 && t12.2)) <|
 .cons [57] (qQ (fun u15=>.slice ((u11 1).o 0) t12.1.length ((u11 1).n 0)) (fun u15=>((z20 && t12.2) == true)) [true] 57) <|
 .cons [58] (qb7 (fun u15=>.pointer (some ⟨Xf ((u11 1).o 0),Xg ((u11 1).o 0)+((0:Int).toNat) * 2,none⟩)) (fun u15=>((z20 && t12.2) == true)) [false,true] 58 (fun _ _ hg=>qM (t:=48) (k:=.i64) (i:=(0:Int)) (p:=((u11 1).o 0)) (n:=t12.1.length) (cap:=((u11 1).n 0)) (x:=t12.1) P23 rfl (b21 hg) (by kernel_rfl))) <|
 .cons [59] (Zq [71] (fun u15=>[YZ fr 2 ((u11 1).o 0) t12.1.length ((u11 1).n 0) (t12.1.flatMap qa)]) (fun u15=>.agg #[vI t22.Lo,vI t22.Hi]) (fun u15=>((z20 && t12.2) == true)) [false] 59 (fun u15 w hg hF=>Ym qa (qj hF.1).2 qe (ifp ht22 hg) 0 2 [vI t22.Lo,vI t22.Hi])) <|
 .cons [60] (ZR 27 (fun u15=>#[vI 5]) (.agg #[vI t24.Lo,vI t24.Hi]) (fun u15=>((z20 && t12.2) == true)) [true,true] 60 [] (fun u15 w hg _=>Xb.calls 5  t24 w  (ifp ht24 hg))) <|
 .cons [61] (qQ (fun u15=>.bool ((t22.Lo == t24.Lo) && ((t22.Hi == t24.Hi) && true))) (fun u15=>((z20 && t12.2) == true)) [false,false] 61 (hv:=fun _ _=>Zz (by kernel_rfl) (Vr (t:=46) (x:=(.tmp 59)) (y:=(.tmp 60)) (xs:=#[vI t22.Lo,vI t22.Hi]) (ys:=#[vI t24.Lo,vI t24.Hi]) (b:=((t22.Lo == t24.Lo) && ((t22.Hi == t24.Hi) && true))) (by kernel_rfl) (by kernel_rfl)))) <|
 .cons [62] (YY 56 61 (fun u15=>true) (fun u15=>true) (fun u15=>(z20 && t12.2)) (fun u15=>((t22.Lo == t24.Lo) && ((t22.Hi == t24.Hi) && true))) 62) <|
 .v 0 (.bool ((z20 && t12.2) && ((t22.Lo == t24.Lo) && ((t22.Hi == t24.Hi) && true))))<|.nil) [0,999999] fun u15 a w' H=>?_
  refine qF ?_
  obtain rfl:=sj G
  exact Qr H _ (by kernel_rfl) (by kernel_rfl)
theorem YL.calls (a0:qb) (r:qb) (w:World) (G:YL a0=some r) :
  Calls Tryz.prog 41 #[.agg #[vI a0.Lo,vI a0.Hi]] w fun e w'=>e = .returned (.agg #[vI r.Lo,vI r.Hi])∧Below w.heap.size w w':=by
 refine QD (args:=[.agg #[vI a0.Lo,vI a0.Hi]]) 18 Tryz.func41 rfl (by kernel_rfl) (by kernel_rfl) fun a H=>?_
 unfold YL at G
 refine qg qd H (.cons [1,18] (qs (fun b=>vP b 0) (fun u1=>[vI a0.Lo,vI a0.Hi]) 46 1 18) <|
 .cons [2,19] (qs (fun b=>vP b 0) (fun u1=>[vI 0,vI 0]) 46 2 19)<|.nil) [1,2,18,19] fun u1 a w' H=>?_
 refine qg qd H (.v 5 (vP ((u1 0).n 0) 0) <|
 .cons [6] (qf (vI a0.Lo) 6 18 0 1 ((u1 0).n 0) [vI a0.Lo,vI a0.Hi] 46) <|
 .v 7 (vI (Int.tmod a0.Lo 16777216)) <|
 .v 8 (vP ((u1 0).n 0) 1) <|
 .cons [9] (qf (vI a0.Hi) 9 18 1 1 ((u1 0).n 0) [vI a0.Lo,vI a0.Hi] 46) <|
 .v 10 (vI (Int.tmod a0.Hi 16777216)) <|
 .v 3 (vI (Int.tmod a0.Lo 16777216)) <|
 .v 4 (vI (Int.tmod a0.Hi 16777216))<|.nil) [2,3,4,19] fun u2 a w' H=>?_
 refine qg qd H (.v 11 (vI (Int.tmod a0.Lo 16777216)) <|
 .v 12 (vI (Int.tmod a0.Hi 16777216)) <|
 .v 13 (vI (mn (Int.tmod a0.Lo 16777216) (Int.tmod a0.Hi 16777216))) <|
 .v 14 (vI (Int.tmod a0.Lo 16777216)) <|
 .v 15 (vI (Int.tmod a0.Hi 16777216)) <|
 .v 16 (vI (mx (Int.tmod a0.Lo 16777216) (Int.tmod a0.Hi 16777216))) <|
 .v 17 (.agg #[vI (mn (Int.tmod a0.Lo 16777216) (Int.tmod a0.Hi 16777216)),vI (mx (Int.tmod a0.Lo 16777216) (Int.tmod a0.Hi 16777216))]) <|
 .cons [19] (Qa 19 0 ((u1 1).n 0) [vI 0,vI 0] [vI (mn (Int.tmod a0.Lo 16777216) (Int.tmod a0.Hi 16777216)),vI (mx (Int.tmod a0.Lo 16777216) (Int.tmod a0.Hi 16777216))] 46 [vI (mn (Int.tmod a0.Lo 16777216) (Int.tmod a0.Hi 16777216)),vI (mx (Int.tmod a0.Lo 16777216) (Int.tmod a0.Hi 16777216))])<|.nil) [2,19] fun u3 a w' H=>?_
 refine qF ?_
 obtain rfl:=sj G
 exact Qj H _ 19 ((u1 1).n 0) [vI (mn (Int.tmod a0.Lo 16777216) (Int.tmod a0.Hi 16777216)),vI (mx (Int.tmod a0.Lo 16777216) (Int.tmod a0.Hi 16777216))] 46 0 2 (by kernel_rfl) (by kernel_rfl) (by kernel_rfl) (by kernel_rfl)
theorem XW.calls (a0:Int) (r:Bool) (w:World) (G:XW a0=some r) :
  Calls Tryz.prog 63 #[vI a0] w fun e w'=>e = .returned (.bool r)∧Below w.heap.size w w':=by
 refine QD (args:=[vI a0]) 9 Tryz.func63 rfl (by kernel_rfl) (by kernel_rfl) fun a H=>?_
 unfold XW at G
 refine qg qd H (.v 2 (.bool false)<|.nil) [0] fun u1 a w' H=>?_
 refine qg qd H (.v 3 (vI a0) <|
 .v 4 (.bool (decide (a0 > (-2147483648)))) <|
 .v 5 (.bool (decide (a0 > (-2147483648)))) <|
 .cons [6] (qQ (fun u2=>vI a0) (fun u2=>((decide (a0 > (-2147483648))) == true)) [true] 6) <|
 .cons [7] (qQ (fun u2=>.bool (decide (a0<2147483648))) (fun u2=>((decide (a0 > (-2147483648))) == true)) [false,true] 7) <|
 .cons [8] (YY 5 7 (fun u2=>true) (fun u2=>true) (fun u2=>decide (a0 > (-2147483648))) (fun u2=>decide (a0<2147483648)) 8) <|
 .v 2 (.bool ((decide (a0 > (-2147483648))) && (decide (a0<2147483648))))<|.nil) [2] fun u2 a w' H=>?_
 refine qF ?_
 obtain rfl:=sj G
 exact Qr H _ (by kernel_rfl) (by kernel_rfl)
theorem YH.calls (r:qb) (w:World) (G:YH=some r) :
  Calls Tryz.prog 64 #[] w fun e w'=>e = .returned (.agg #[vI r.Lo,vI r.Hi])∧Below w.heap.size w w':=by
 refine QD (args:=[]) 2 Tryz.func64 rfl (by kernel_rfl) (by kernel_rfl) fun a H=>?_
 unfold YH at G
 refine qg qd H (.cons [0,2] (qs (fun b=>vP b 0) (fun u1=>[vI 0,vI 0]) 46 0 2)<|.nil) [0,2] fun u1 a w' H=>?_
 refine qg qd H (.v 1 (.agg #[vI (-2147483648),vI 2147483648]) <|
 .cons [2] (Qa 2 0 ((u1 0).n 0) [vI 0,vI 0] [vI (-2147483648),vI 2147483648] 46 [vI (-2147483648),vI 2147483648])<|.nil) [0,2] fun u2 a w' H=>?_
 refine qF ?_
 obtain rfl:=sj G
 exact Qj H _ 2 ((u1 0).n 0) [vI (-2147483648),vI 2147483648] 46 0 2 (by kernel_rfl) (by kernel_rfl) (by kernel_rfl) (by kernel_rfl)
theorem Y5.calls (a0:Int) (a1:Int) (r:qb) (w:World) (G:Y5 a0 a1=some r) :
  Calls Tryz.prog 38 #[vI a0,vI a1] w fun e w'=>e = .returned (.agg #[vI r.Lo,vI r.Hi])∧Below w.heap.size w w':=by
 refine QD (args:=[vI a0,vI a1]) 17 Tryz.func38 rfl (by kernel_rfl) (by kernel_rfl) fun a H=>?_
 unfold Y5 at G
 refine qg qd H (.cons [4,17] (qs (fun b=>vP b 0) (fun u1=>[vI 0,vI 0]) 46 4 17)<|.nil) [0,1,4,17] fun u1 a w' H=>?_
 refine qv ?_
 obtain ⟨t3,ht3,G⟩:=qP G
 obtain ⟨t4,ht4,G⟩:=qP G
 refine qg qd H (.v 5 (vI a0) <|
 .cons [6] (qq 63 _ _ 6 [] (fun u2 w _=>XW.calls a0  t3 w  ht3)) <|
 .v 7 (.bool (!t3)) <|
 .v 8 (.bool (!t3)) <|
 .cons [9] (qQ (fun u2=>vI a1) (fun u2=>((!t3) == false)) [true] 9) <|
 .cons [10] (ZR 63 (fun u2=>#[vI a1]) (.bool t4) (fun u2=>((!t3) == false)) [true,false] 10 [] (fun u2 w hg _=>XW.calls a1  t4 w  (ifp ht4 hg))) <|
 .cons [11] (qQ (fun u2=>.bool (!t4)) (fun u2=>((!t3) == false)) [false] 11) <|
 .cons [12] (ZM 8 11 (fun u2=>true) (fun u2=>true) (fun u2=>(!t3)) (fun u2=>(!t4)) 12)<|.nil) [0,1,4,12,17] fun u2 a w' H=>?_
 refine Qx H ((!t3) || (!t4)) (fun c8=>?_) fun c8=>?_
 ·rw [if_pos c8] at G
  obtain ⟨t6,ht6,G⟩:=qP G
  refine qg qd H (.cons [13] (qq 64 _ _ 13 [] (fun u5 w _=>YH.calls   t6 w  ht6)) <|
 .cons [17] (Qa 17 0 ((u1 0).n 0) [vI 0,vI 0] [vI t6.Lo,vI t6.Hi] 46 [vI t6.Lo,vI t6.Hi])<|.nil) [4,17] fun u5 a w' H=>?_
  refine qF ?_
  obtain rfl:=sj G
  exact Qj H _ 17 ((u1 0).n 0) [vI t6.Lo,vI t6.Hi] 46 0 2 (by kernel_rfl) (by kernel_rfl) (by kernel_rfl) (by kernel_rfl)
 ·rw [if_neg (nt c8)] at G
  refine Qf ?_
  refine qg qd H (.v 14 (vI a0) <|
 .v 15 (vI a1) <|
 .v 16 (.agg #[vI a0,vI a1]) <|
 .cons [17] (Qa 17 0 ((u1 0).n 0) [vI 0,vI 0] [vI a0,vI a1] 46 [vI a0,vI a1])<|.nil) [4,17] fun u7 a w' H=>?_
  refine qF ?_
  obtain rfl:=sj G
  exact Qj H _ 17 ((u1 0).n 0) [vI a0,vI a1] 46 0 2 (by kernel_rfl) (by kernel_rfl) (by kernel_rfl) (by kernel_rfl)
theorem YN.calls (a0:Int) (r:qb) (w:World) (G:YN a0=some r) :
  Calls Tryz.prog 14 #[vI a0] w fun e w'=>e = .returned (.agg #[vI r.Lo,vI r.Hi])∧Below w.heap.size w w':=by
 refine QD (args:=[vI a0]) 6 Tryz.func14 rfl (by kernel_rfl) (by kernel_rfl) fun a H=>?_
 unfold YN at G
 refine qg qd H (.cons [2,6] (qs (fun b=>vP b 0) (fun u1=>[vI 0,vI 0]) 46 2 6)<|.nil) [0,2,6] fun u1 a w' H=>?_
 obtain ⟨t3,ht3,G⟩:=qP G
 refine qg qd H (.v 3 (vI a0) <|
 .v 4 (vI a0) <|
 .cons [5] (qq 38 _ _ 5 [] (fun u2 w _=>Y5.calls a0 a0  t3 w  ht3)) <|
 .cons [6] (Qa 6 0 ((u1 0).n 0) [vI 0,vI 0] [vI t3.Lo,vI t3.Hi] 46 [vI t3.Lo,vI t3.Hi])<|.nil) [2,6] fun u2 a w' H=>?_
 refine qF ?_
 obtain rfl:=sj G
 exact Qj H _ 6 ((u1 0).n 0) [vI t3.Lo,vI t3.Hi] 46 0 2 (by kernel_rfl) (by kernel_rfl) (by kernel_rfl) (by kernel_rfl)
theorem X5.calls (a0:qb) (r:List qu) (w:World) (G:X5 a0=some r) :
  Calls Tryz.prog 104 #[.agg #[vI a0.Lo,vI a0.Hi]] w fun e w'=>∃ g:Gh,e = .returned (.slice (g.o 0) r.length (g.n 0))∧Zg (Y4 []) w w'∧Ys w.heap.size (Y4 []) (JH w.heap.size []) [fun _=>Qm 61 4 (g.o 0) (g.n 0) r qr] w':=by
 obtain ⟨fr,hfr,hBf⟩:=VE w []
 refine QD (args:=[.agg #[vI a0.Lo,vI a0.Hi]]) 6 Tryz.func104 rfl (by kernel_rfl) (by kernel_rfl) fun a H=>?_
 unfold X5 at G
 refine qg qd H (.cons [1,6] (qs (fun b=>vP b 0) (fun u1=>[vI a0.Lo,vI a0.Hi]) 46 1 6) <|
 .v 2 (.slice none 0 0)<|.nil) [1,6] fun u1 a w' H=>?_
 refine qg qd H (.cons [3] (qf (.agg #[vI a0.Lo,vI a0.Hi]) 3 6 0 2 ((u1 0).n 0) [vI a0.Lo,vI a0.Hi] 46) <|
 .v 4 (.agg #[vI 1,vI 0,vI a0.Lo,vI a0.Hi]) <|
 .cons [5,7] (qs (fun b=>.slice (some ⟨b,0,none⟩) 1 1) (fun u2=>[vI 1,vI 0,vI a0.Lo,vI a0.Hi]) 61 5 7) <|
 .cons [2] (qn (fun u2=>.slice (some ⟨((u2 2).n 0),0,none⟩) 1 1) 2)<|.nil) [2,7] fun u2 a w' H=>?_
 refine qF ?_
 obtain rfl:=sj G
 replace H:=H.blk_row 7 ((u2 2).n 0) [vI 1,vI 0,vI a0.Lo,vI a0.Hi] 61 4 1 (by kernel_rfl) (by kernel_rfl) (by decide)
 obtain ⟨g,o0,n0⟩:=ZX (some ⟨((u2 2).n 0),0,none⟩) 1
 refine QR H _ g _ _ _ fr [7] [] (.slice (some ⟨((u2 2).n 0),0,none⟩) 1 1) [fun _=>X6 61 4 (some ⟨((u2 2).n 0),0,none⟩) 1 1 (([(⟨1,0,a0⟩:qu)]:List qu).flatMap qr)] (by simp only [Qm,o0,n0,List.length_set,List.length_cons,List.length_nil,Nat.zero_add,Nat.reduceAdd]) (by simp only [Qm,o0,n0,List.length_set,List.length_cons,List.length_nil,Nat.zero_add,Nat.reduceAdd]) hfr (.inl ⟨rfl,rfl⟩) (ql Qw qC) (by simp)
theorem XA.calls (a0:Int) (r:Int) (w:World) (G:XA a0=some r) :
  Calls Tryz.prog 105 #[vI a0] w fun e w'=>e = .returned (vI r)∧Below w.heap.size w w':=by
 refine QD (args:=[vI a0]) 13 Tryz.func105 rfl (by kernel_rfl) (by kernel_rfl) fun a H=>?_
 unfold XA at G
 refine qg qd H (.v 2 (vI 0)<|.nil) [0] fun u1 a w' H=>?_
 refine qv ?_
 refine qg qd H (.v 3 (vI a0) <|
 .v 4 (.bool (decide (a0<1))) <|
 .v 5 (.bool (decide (a0<1))) <|
 .cons [6] (qQ (fun u2=>vI a0) (fun u2=>((decide (a0<1)) == false)) [true] 6) <|
 .cons [7] (qQ (fun u2=>.bool (decide (a0 > 10))) (fun u2=>((decide (a0<1)) == false)) [false,true] 7) <|
 .cons [8] (ZM 5 7 (fun u2=>true) (fun u2=>true) (fun u2=>decide (a0<1)) (fun u2=>decide (a0 > 10)) 8)<|.nil) [0,8] fun u2 a w' H=>?_
 refine Qx H ((decide (a0<1)) || (decide (a0 > 10))) (fun c11=>?_) fun c11=>?_
 ·rw [if_pos c11] at G
  refine qg qd H (.v 2 (vI (-1))<|.nil) [2] fun u3 a w' H=>?_
  refine qF ?_
  obtain rfl:=sj G
  exact Qr H _ (by kernel_rfl) (by kernel_rfl)
 ·rw [if_neg (nt c11)] at G
  refine Qf ?_
  refine qv ?_
  refine qg qd H (.v 9 (vI a0) <|
 .v 10 (.bool (decide (a0≤3)))<|.nil) [0,10] fun u4 a w' H=>?_
  refine Qx H (decide (a0≤3)) (fun c10=>?_) fun c10=>?_
  ·rw [if_pos c10] at G
   refine qg qd H (.v 2 (vI 0)<|.nil) [2] fun u5 a w' H=>?_
   refine qF ?_
   obtain rfl:=sj G
   exact Qr H _ (by kernel_rfl) (by kernel_rfl)
  ·rw [if_neg (nt c10)] at G
   refine Qf ?_
   refine qv ?_
   refine qg qd H (.v 11 (vI a0) <|
 .v 12 (.bool (decide (a0≤6)))<|.nil) [12] fun u6 a w' H=>?_
   refine Qx H (decide (a0≤6)) (fun c9=>?_) fun c9=>?_
   ·rw [if_pos c9] at G
    refine qg qd H (.v 2 (vI 1)<|.nil) [2] fun u7 a w' H=>?_
    refine qF ?_
    obtain rfl:=sj G
    exact Qr H _ (by kernel_rfl) (by kernel_rfl)
   ·rw [if_neg (nt c9)] at G
    refine Qf ?_
    refine qg qd H (.v 2 (vI 2)<|.nil) [2] fun u8 a w' H=>?_
    refine qF ?_
    obtain rfl:=sj G
    exact Qr H _ (by kernel_rfl) (by kernel_rfl)
theorem Yd.calls (a0:qb) (a1:Int) (r:qb) (w:World) (G:Yd a0 a1=some r) :
  Calls Tryz.prog 106 #[.agg #[vI a0.Lo,vI a0.Hi],vI a1] w fun e w'=>e = .returned (.agg #[vI r.Lo,vI r.Hi])∧Below w.heap.size w w':=by
 refine QD (args:=[.agg #[vI a0.Lo,vI a0.Hi],vI a1]) 23 Tryz.func106 rfl (by kernel_rfl) (by kernel_rfl) fun a H=>?_
 unfold Yd at G
 refine qg qd H (.cons [2,23] (qs (fun b=>vP b 0) (fun u1=>[vI a0.Lo,vI a0.Hi]) 46 2 23) <|
 .cons [4,24] (qs (fun b=>vP b 0) (fun u1=>[vI 0,vI 0]) 46 4 24)<|.nil) [1,2,4,23,24] fun u1 a w' H=>?_
 refine qv ?_
 replace G:=gd G; obtain ⟨n3,G⟩:=G
 replace G:=gd G; obtain ⟨n4,G⟩:=G
 refine Qt qd H (.v 7 (vP ((u1 0).n 0) 0) <|
 .cons [8] (qf (vI a0.Lo) 8 23 0 1 ((u1 0).n 0) [vI a0.Lo,vI a0.Hi] 46) <|
 .v 9 (vI (Int.tmod a0.Lo 1048576)) <|
 .v 10 (vP ((u1 0).n 0) 1) <|
 .cons [11] (qf (vI a0.Hi) 11 23 1 1 ((u1 0).n 0) [vI a0.Lo,vI a0.Hi] 46) <|
 .v 12 (vI a1) <|
 .cons [13] (qn (fun u2=>vI (Int.tmod a0.Hi a1)) 13 (hv:=fun _ _=>Zz (by kernel_rfl) (WP (k:=.i64) (x:=a0.Hi) (y:=a1) n3))) <|
 .v 14 (vI a1) <|
 .v 15 (vI (qc ((Int.tmod a0.Hi a1)+a1))) <|
 .v 16 (vI a1) <|
 .cons [17] (qn (fun u2=>vI (Int.tmod (qc ((Int.tmod a0.Hi a1)+a1)) a1)) 17 (hv:=fun _ _=>Zz (by kernel_rfl) (WP (k:=.i64) (x:=qc ((Int.tmod a0.Hi a1)+a1)) (y:=a1) n4))) <|
 .v 5 (vI (Int.tmod a0.Lo 1048576)) <|
 .v 6 (vI (Int.tmod (qc ((Int.tmod a0.Hi a1)+a1)) a1))<|.nil) [4,5,6,24] fun u2 a w' H=>?_
 refine qg qd H (.v 18 (vI (Int.tmod a0.Lo 1048576)) <|
 .v 19 (vI (Int.tmod a0.Lo 1048576)) <|
 .v 20 (vI (Int.tmod (qc ((Int.tmod a0.Hi a1)+a1)) a1)) <|
 .v 21 (vI (qc ((Int.tmod a0.Lo 1048576)+(Int.tmod (qc ((Int.tmod a0.Hi a1)+a1)) a1)))) <|
 .v 22 (.agg #[vI (Int.tmod a0.Lo 1048576),vI (qc ((Int.tmod a0.Lo 1048576)+(Int.tmod (qc ((Int.tmod a0.Hi a1)+a1)) a1)))]) <|
 .cons [24] (Qa 24 0 ((u1 1).n 0) [vI 0,vI 0] [vI (Int.tmod a0.Lo 1048576),vI (qc ((Int.tmod a0.Lo 1048576)+(Int.tmod (qc ((Int.tmod a0.Hi a1)+a1)) a1)))] 46 [vI (Int.tmod a0.Lo 1048576),vI (qc ((Int.tmod a0.Lo 1048576)+(Int.tmod (qc ((Int.tmod a0.Hi a1)+a1)) a1)))])<|.nil) [4,24] fun u5 a w' H=>?_
 refine qF ?_
 obtain rfl:=sj G
 exact Qj H _ 24 ((u1 1).n 0) [vI (Int.tmod a0.Lo 1048576),vI (qc ((Int.tmod a0.Lo 1048576)+(Int.tmod (qc ((Int.tmod a0.Hi a1)+a1)) a1)))] 46 0 2 (by kernel_rfl) (by kernel_rfl) (by kernel_rfl) (by kernel_rfl)
theorem Yr.calls (a0:Int) (a1:List qu) (p_a1:Option Addr) (c_a1:Nat) (r:List qu) (w:World) (hB:Xx [qB qk 4 p_a1 c_a1 a1 qr] w) (G:Yr a0 a1=some r) :
  Calls Tryz.prog 107 #[vI a0,.slice p_a1 a1.length c_a1] w fun e w'=>∃ g:Gh,e = .returned (.slice (g.o 0) r.length (g.n 0))∧Zg (Y4 []) w w'∧Ys w.heap.size (Y4 []) (JH w.heap.size []) [fun _=>Qm 61 4 (g.o 0) (g.n 0) r qr] w':=by
 obtain ⟨fr,hfr,hBf⟩:=VE w []
 refine QO (args:=[vI a0,.slice p_a1 a1.length c_a1]) 13 [(13,qB qk 4 p_a1 c_a1 a1 qr)] (by
  intro x hx
  simp only [List.mem_cons,List.not_mem_nil,or_false] at hx
  rcases hx with rfl
  exact qy (qj hB.1) (fun _ _=>trivial) (by decide) _) Tryz.func107 rfl (by kernel_rfl) (by kernel_rfl) fun a H=>?_
 unfold Yr at G
 refine qg qd H (.v 4 (.slice none 0 0)<|.nil) [0,1,13] fun u1 a w' H=>?_
 refine qg qd H (.v 6 (vI a0) <|
 .v 7 (.agg #[vI a0,vI 0,vI 0,vI 0]) <|
 .cons [8,14] (qs (fun b=>.slice (some ⟨b,0,none⟩) 1 1) (fun u2=>[vI a0,vI 0,vI 0,vI 0]) 61 8 14) <|
 .cons [5] (qn (fun u2=>.slice (some ⟨((u2 2).n 0),0,none⟩) 1 1) 5)<|.nil) [1,5,13,14] fun u2 a w' H=>?_
 refine qv ?_
 replace H:=H.blk_row 14 ((u2 2).n 0) [vI a0,vI 0,vI 0,vI 0] 61 4 1 (by kernel_rfl) (by kernel_rfl) (by decide)
 replace G:=gd G; obtain ⟨b4,G⟩:=G
 refine Qt qd H (.v 9 (.slice (some ⟨((u2 2).n 0),0,none⟩) 1 1) <|
 .v 10 (.slice p_a1 a1.length c_a1) <|
 .cons [11,14,14] (XC [] [13] (fun u3=>[qB qk 4 p_a1 c_a1 a1 qr]) 14 (fun u3=>X6 61 4 (some ⟨((u2 2).n 0),0,none⟩) 1 1 (([(⟨a0,0,(⟨0,0⟩:qb)⟩:qu)]:List qu).flatMap qr)) (some 11) (fun u3 g=>.slice (g.o 0) (([(⟨a0,0,(⟨0,0⟩:qb)⟩:qu)]:List qu)++a1).length (g.n 0)) (fun u3 g=>Qm 61 4 (g.o 0) (g.n 0) (([(⟨a0,0,(⟨0,0⟩:qb)⟩:qu)]:List qu)++a1) qr) (fun u3 w hF hK=>J9 (JN (t:=59) (ty:=59) (en:=qr) (m:=a1) (p2:=p_a1) (n2:=a1.length) (cap2:=c_a1) QJ (fun _=>rfl) qeC (Qe hK) (qj hF.1).2 b4 (by kernel_rfl)))) <|
 .cons [5] (qn (fun u3=>.slice ((u3 2).o 0) ((([(⟨a0,0,(⟨0,0⟩:qb)⟩:qu)]:List qu)++a1).length) ((u3 2).n 0)) 5)<|.nil) [5,14] fun u3 a w' H=>?_
 refine qg qd H (.v 12 (.slice ((u3 2).o 0) ((([(⟨a0,0,(⟨0,0⟩:qb)⟩:qu)]:List qu)++a1).length) ((u3 2).n 0)) <|
 .v 4 (.slice ((u3 2).o 0) ((([(⟨a0,0,(⟨0,0⟩:qb)⟩:qu)]:List qu)++a1).length) ((u3 2).n 0))<|.nil) [4,14] fun u5 a w' H=>?_
 refine qF ?_
 obtain rfl:=sj G
 obtain ⟨g,o0,n0⟩:=ZX ((u3 2).o 0) ((u3 2).n 0)
 refine QR H _ g _ _ _ fr [14] [] (.slice ((u3 2).o 0) ((([(⟨a0,0,(⟨0,0⟩:qb)⟩:qu)]:List qu)++a1).length) ((u3 2).n 0)) [fun _=>Qm 61 4 ((u3 2).o 0) ((u3 2).n 0) (([(⟨a0,0,(⟨0,0⟩:qb)⟩:qu)]:List qu)++a1) qr] (by simp only [Qm,o0,n0]) (by simp only [Qm,o0,n0]) hfr (.inl ⟨rfl,rfl⟩) (ql Qw qC) (by simp)
theorem Yh.calls (a0:Int) (a1:List qu) (a2:List qu) (p_a1:Option Addr) (c_a1:Nat) (p_a2:Option Addr) (c_a2:Nat) (r:List qu) (w:World) (hB:Xx [qB qk 4 p_a1 c_a1 a1 qr,qB qk 4 p_a2 c_a2 a2 qr] w) (G:Yh a0 a1 a2=some r) :
  Calls Tryz.prog 108 #[vI a0,.slice p_a1 a1.length c_a1,.slice p_a2 a2.length c_a2] w fun e w'=>∃ g:Gh,e = .returned (.slice (g.o 0) r.length (g.n 0))∧Zg (Y4 []) w w'∧Ys w.heap.size (Y4 []) (JH w.heap.size []) [fun _=>Qm 61 4 (g.o 0) (g.n 0) r qr] w':=by
 obtain ⟨fr,hfr,hBf⟩:=VE w []
 refine QO (args:=[vI a0,.slice p_a1 a1.length c_a1,.slice p_a2 a2.length c_a2]) 18 [(18,qB qk 4 p_a1 c_a1 a1 qr),(19,qB qk 4 p_a2 c_a2 a2 qr)] (by
  intro x hx
  simp only [List.mem_cons,List.not_mem_nil,or_false] at hx
  rcases hx with rfl | rfl
  ·exact qy (qj hB.1) (fun _ _=>trivial) (by decide) _
  ·exact qy (qj hB.2.1) (fun _ _=>trivial) (by decide) _) Tryz.func108 rfl (by kernel_rfl) (by kernel_rfl) fun a H=>?_
 unfold Yh at G
 refine qg qd H (.v 6 (.slice none 0 0)<|.nil) [0,1,2,18,19] fun u1 a w' H=>?_
 refine qg qd H (.v 8 (vI a0) <|
 .v 9 (.agg #[vI a0,vI 0,vI 0,vI 0]) <|
 .cons [10,20] (qs (fun b=>.slice (some ⟨b,0,none⟩) 1 1) (fun u2=>[vI a0,vI 0,vI 0,vI 0]) 61 10 20) <|
 .cons [7] (qn (fun u2=>.slice (some ⟨((u2 2).n 0),0,none⟩) 1 1) 7)<|.nil) [1,2,7,18,19,20] fun u2 a w' H=>?_
 refine qv ?_
 replace H:=H.blk_row 20 ((u2 2).n 0) [vI a0,vI 0,vI 0,vI 0] 61 4 1 (by kernel_rfl) (by kernel_rfl) (by decide)
 replace G:=gd G; obtain ⟨b4,G⟩:=G
 refine Qt qd H (.v 11 (.slice (some ⟨((u2 2).n 0),0,none⟩) 1 1) <|
 .v 12 (.slice p_a1 a1.length c_a1) <|
 .cons [13,20,20] (XC [] [18] (fun u3=>[qB qk 4 p_a1 c_a1 a1 qr]) 20 (fun u3=>X6 61 4 (some ⟨((u2 2).n 0),0,none⟩) 1 1 (([(⟨a0,0,(⟨0,0⟩:qb)⟩:qu)]:List qu).flatMap qr)) (some 13) (fun u3 g=>.slice (g.o 0) (([(⟨a0,0,(⟨0,0⟩:qb)⟩:qu)]:List qu)++a1).length (g.n 0)) (fun u3 g=>Qm 61 4 (g.o 0) (g.n 0) (([(⟨a0,0,(⟨0,0⟩:qb)⟩:qu)]:List qu)++a1) qr) (fun u3 w hF hK=>J9 (JN (t:=59) (ty:=59) (en:=qr) (m:=a1) (p2:=p_a1) (n2:=a1.length) (cap2:=c_a1) QJ (fun _=>rfl) qeC (Qe hK) (qj hF.1).2 b4 (by kernel_rfl)))) <|
 .cons [7] (qn (fun u3=>.slice ((u3 2).o 0) ((([(⟨a0,0,(⟨0,0⟩:qb)⟩:qu)]:List qu)++a1).length) ((u3 2).n 0)) 7)<|.nil) [2,7,19,20] fun u3 a w' H=>?_
 refine qv ?_
 replace G:=gd G; obtain ⟨b6,G⟩:=G
 refine Qt qd H (.v 14 (.slice ((u3 2).o 0) ((([(⟨a0,0,(⟨0,0⟩:qb)⟩:qu)]:List qu)++a1).length) ((u3 2).n 0)) <|
 .v 15 (.slice p_a2 a2.length c_a2) <|
 .cons [16,20,20] (XC [] [19] (fun u5=>[qB qk 4 p_a2 c_a2 a2 qr]) 20 (fun u5=>Qm 61 4 ((u3 2).o 0) ((u3 2).n 0) (([(⟨a0,0,(⟨0,0⟩:qb)⟩:qu)]:List qu)++a1) qr) (some 16) (fun u5 g=>.slice (g.o 0) ((([(⟨a0,0,(⟨0,0⟩:qb)⟩:qu)]:List qu)++a1)++a2).length (g.n 0)) (fun u5 g=>Qm 61 4 (g.o 0) (g.n 0) ((([(⟨a0,0,(⟨0,0⟩:qb)⟩:qu)]:List qu)++a1)++a2) qr) (fun u5 w hF hK=>J9 (JN (t:=59) (ty:=59) (en:=qr) (m:=a2) (p2:=p_a2) (n2:=a2.length) (cap2:=c_a2) QJ (fun _=>rfl) qeC (Qe hK) (qj hF.1).2 b6 (by kernel_rfl)))) <|
 .cons [7] (qn (fun u5=>.slice ((u5 2).o 0) (((([(⟨a0,0,(⟨0,0⟩:qb)⟩:qu)]:List qu)++a1)++a2).length) ((u5 2).n 0)) 7)<|.nil) [7,20] fun u5 a w' H=>?_
 refine qg qd H (.v 17 (.slice ((u5 2).o 0) (((([(⟨a0,0,(⟨0,0⟩:qb)⟩:qu)]:List qu)++a1)++a2).length) ((u5 2).n 0)) <|
 .v 6 (.slice ((u5 2).o 0) (((([(⟨a0,0,(⟨0,0⟩:qb)⟩:qu)]:List qu)++a1)++a2).length) ((u5 2).n 0))<|.nil) [6,20] fun u7 a w' H=>?_
 refine qF ?_
 obtain rfl:=sj G
 obtain ⟨g,o0,n0⟩:=ZX ((u5 2).o 0) ((u5 2).n 0)
 refine QR H _ g _ _ _ fr [20] [] (.slice ((u5 2).o 0) (((([(⟨a0,0,(⟨0,0⟩:qb)⟩:qu)]:List qu)++a1)++a2).length) ((u5 2).n 0)) [fun _=>Qm 61 4 ((u5 2).o 0) ((u5 2).n 0) ((([(⟨a0,0,(⟨0,0⟩:qb)⟩:qu)]:List qu)++a1)++a2) qr] (by simp only [Qm,o0,n0]) (by simp only [Qm,o0,n0]) hfr (.inl ⟨rfl,rfl⟩) (ql Qw qC) (by simp)
end Go.Proofs.YtpmgpcklieincaaGreatDoor
