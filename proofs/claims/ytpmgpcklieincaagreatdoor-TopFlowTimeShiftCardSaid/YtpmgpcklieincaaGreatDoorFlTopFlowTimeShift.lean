/- The law TopFlowTimeShift answers as the plain Lean function of its name. Printed by a program of this session. -/
import Derived.Test.YtpmgpcklieincaaGreatDoorFn4
set_option linter.unusedVariables false
set_option linter.unusedSimpArgs false
set_option maxRecDepth 100000
set_option maxHeartbeats 4000000
namespace Go.Proofs.YtpmgpcklieincaaGreatDoor
open Go Go.RowKit Go.Sx Go.Proofs
theorem qp.calls (k0:Nat) (a0:X4) (a1:Int) (p_a0_L:Option Addr) (c_a0_L:Nat) (L_a0_L:List (Sl qu)) (p_a0_X:Option Addr) (c_a0_X:Nat) (p_a0_S:Option Addr) (c_a0_S:Nat) (r:Bool) (w:World) (h_a0_L:a0.L=L_a0_L.map Sl.l) (hB:Xx [qB qk 1 p_a0_L c_a0_L L_a0_L Qs,X7 qk QQ.toPart L_a0_L,qB qk 2 p_a0_X c_a0_X a0.X qa,qB qk 1 p_a0_S c_a0_S a0.S JA,gk] w) (G:qp k0 a0 a1=some r) :
  Calls Tryz.prog 4 #[.agg #[.slice p_a0_L L_a0_L.length c_a0_L,.slice p_a0_X a0.X.length c_a0_X,vI a0.T.Lo,vI a0.T.Hi,vI a0.G.T,vI a0.G.H,.int .u8 a0.N,.int .u8 a0.K,.slice p_a0_S a0.S.length c_a0_S],.int .i8 a1] w fun e w'=>e = .returned (.bool r)∧Below w.heap.size w w':=by
 obtain ⟨fr,hfr⟩:∃ fr:Nat→Prop,∀ j,fr j:=⟨fun _=>True,fun _=>trivial⟩
 have hBf:∀ j,w.heap.size≤j→fr j:=fun j _=>hfr j
 refine QO (args:=[.agg #[.slice p_a0_L L_a0_L.length c_a0_L,.slice p_a0_X a0.X.length c_a0_X,vI a0.T.Lo,vI a0.T.Hi,vI a0.G.T,vI a0.G.H,.int .u8 a0.N,.int .u8 a0.K,.slice p_a0_S a0.S.length c_a0_S],.int .i8 a1]) 177 [(177,qB qk 1 p_a0_L c_a0_L L_a0_L Qs),(178,X7 qk QQ.toPart L_a0_L),(179,qB qk 2 p_a0_X c_a0_X a0.X qa),(180,qB qk 1 p_a0_S c_a0_S a0.S JA),(999999,gk)] (by
  intro x hx
  simp only [List.mem_cons,List.not_mem_nil,or_false] at hx
  rcases hx with rfl | rfl | rfl | rfl | rfl
  ·exact qy (qj hB.1) (fun _ _=>trivial) (by decide) _
  ·exact ZQ (Xl hB.2.1) (fun _ _=>trivial) _
  ·exact qy (qj hB.2.2.1) (fun _ _=>trivial) (by decide) _
  ·exact qy (qj hB.2.2.2.1) (fun _ _=>trivial) (by decide) _
  ·exact ⟨⟨_,_,rfl⟩,hB.2.2.2.2.1,Yl (QM hB.2.2.2.2.1)⟩) Tryz.func4 rfl (by kernel_rfl) (by kernel_rfl) fun a H=>?_
 unfold qp at G
 refine qg qd H (.cons [2,181] (qs (fun b=>vP b 0) (fun u1=>[.slice p_a0_L L_a0_L.length c_a0_L,.slice p_a0_X a0.X.length c_a0_X,vI a0.T.Lo,vI a0.T.Hi,vI a0.G.T,vI a0.G.H,.int .u8 a0.N,.int .u8 a0.K,.slice p_a0_S a0.S.length c_a0_S]) 56 2 181) <|
 .v 4 (.bool false)<|.nil) [1,2,177,178,179,180,181,999999] fun u1 a w' H=>?_
 replace G:=qP G; obtain ⟨t3,ht3,G⟩:=G
 refine qg qd H (.cons [18] (QX [999999] (fun u2=>[gk]) 9 _ _ 18 (fun u2 w hF=>XV.calls k0  t3 w  (QM hF.1) ht3)) <|
 .v 5 (.bool t3)<|.nil) [1,2,5,177,178,179,180,181,999999] fun u2 a w' H=>?_
 replace G:=qP G; obtain ⟨t5,ht5,G⟩:=G
 refine qg qd H (.cons [20] (qf (.agg #[.slice p_a0_L L_a0_L.length c_a0_L,.slice p_a0_X a0.X.length c_a0_X,vI a0.T.Lo,vI a0.T.Hi,vI a0.G.T,vI a0.G.H,.int .u8 a0.N,.int .u8 a0.K,.slice p_a0_S a0.S.length c_a0_S]) 20 181 0 9 ((u1 0).n 0) [.slice p_a0_L L_a0_L.length c_a0_L,.slice p_a0_X a0.X.length c_a0_X,vI a0.T.Lo,vI a0.T.Hi,vI a0.G.T,vI a0.G.H,.int .u8 a0.N,.int .u8 a0.K,.slice p_a0_S a0.S.length c_a0_S] 56) <|
 .cons [21,182,183,184] (QI false fr [] [177,178,179,180] (fun u4=>[qB qk 1 p_a0_L c_a0_L L_a0_L Qs,X7 qk QQ.toPart L_a0_L,qB qk 2 p_a0_X c_a0_X a0.X qa,qB qk 1 p_a0_S c_a0_S a0.S JA]) [] (fun u4=>[]) 16 _ _ _ _ _ [182,183,184] 21 (fun u4 w hB hF hM=>Qk.calls k0 (⟨a0.L,a0.X,(⟨a0.T.Lo,a0.T.Hi⟩:qb),(⟨a0.G.T,a0.G.H⟩:Q6),a0.N,a0.K,a0.S⟩:X4) p_a0_L c_a0_L L_a0_L p_a0_X c_a0_X p_a0_S c_a0_S t5 w h_a0_L hB ht5) (fun u4 w hF=>⟨⟨q9 (qj hF.1) (fun j h=>⟨_,(.head _),h⟩),J7 (Xl hF.2.1) (fun j h=>⟨_,(.tail _ (.head _)),h⟩),q9 (qj hF.2.2.1) (fun j h=>⟨_,(.tail _ (.tail _ (.head _))),h⟩),q9 (qj hF.2.2.2.1) (fun j h=>⟨_,(.tail _ (.tail _ (.tail _ (.head _)))),h⟩),trivial⟩,trivial⟩) (fun u4 g=>(ql Qw (ql Jb (ql Qw qC)))) (.inr (fun u4 g=>(Qv trivial (Qv trivial (Qv trivial (fun K h=>by cases h)))))) (fun h=>by cases h)) <|
 .cons [19] (qn (fun u4=>.tuple #[.agg #[.slice ((u4 1).o 0) t5.1.Names.length ((u4 1).n 0),slgd_S_TNode (u4 1) 1 t5.1.F],.slice ((u4 1).o 2) t5.2.length ((u4 1).n 2)]) 19) <|
 .cons [22] (qn (fun u4=>.agg #[.slice ((u4 1).o 0) t5.1.Names.length ((u4 1).n 0),slgd_S_TNode (u4 1) 1 t5.1.F]) 22) <|
 .cons [23] (qn (fun u4=>.slice ((u4 1).o 2) t5.2.length ((u4 1).n 2)) 23) <|
 .cons [6,185] (qs (fun b=>vP b 0) (fun u4=>[.slice none 0 0,.slice none 0 0]) 43 6 185) <|
 .cons [185] (QL (u':=fun u4=>[(185,.blk ((u4 5).n 0) [.slice ((u4 1).o 0) t5.1.Names.length ((u4 1).n 0),slgd_S_TNode (u4 1) 1 t5.1.F] 43)]) (qW 185 0 (fun u4=>((u4 5).n 0)) (fun u4=>[.slice none 0 0,.slice none 0 0]) (fun u4=>[.slice ((u4 1).o 0) t5.1.Names.length ((u4 1).n 0),slgd_S_TNode (u4 1) 1 t5.1.F]) 43) (fun _=>by kernel_rfl)) <|
 .cons [7] (qn (fun u4=>.slice ((u4 1).o 2) t5.2.length ((u4 1).n 2)) 7)<|.nil) [1,2,5,6,7,177,178,179,180,181,182,183,184,185,999999] fun u4 a w' H=>?_
 refine qv ?_
 replace G:=qP G; obtain ⟨j7,hj7,G⟩:=G
 refine Xq (fun a w'=>∃ (p_j6:Option Addr) (c_j6 np_j6:Nat) (L_j6:List (Sl qu)),np_j6=L_j6.length∧j7=L_j6.map Sl.l∧RL w 177 [(1,.slot true (.int .i8 a1)),(2,(sP ((u1 0).n 0) 0)),(5,sB t3),(6,(sP ((u4 5).n 0) 0)),(7,(sS ((u4 1).o 2) t5.2.length ((u4 1).n 2))),(177,qB qk 1 p_a0_L c_a0_L L_a0_L Qs),(178,X7 qk QQ.toPart L_a0_L),(179,qB qk 2 p_a0_X c_a0_X a0.X qa),(180,qB qk 1 p_a0_S c_a0_S a0.S JA),(181,.blk ((u1 0).n 0) [.slice p_a0_L L_a0_L.length c_a0_L,.slice p_a0_X a0.X.length c_a0_X,vI a0.T.Lo,vI a0.T.Hi,vI a0.G.T,vI a0.G.H,.int .u8 a0.N,.int .u8 a0.K,.slice p_a0_S a0.S.length c_a0_S] 56),(182,Qm 9 1 ((u4 1).o 0) ((u4 1).n 0) t5.1.Names YE),(184,Qm 46 2 ((u4 1).o 2) ((u4 1).n 2) t5.2 qa),(185,.blk ((u4 5).n 0) [.slice ((u4 1).o 0) t5.1.Names.length ((u4 1).n 0),.slice p_j6 np_j6 c_j6] 43),(900081,Zc p_j6 np_j6 c_j6 L_j6),(999999,gk)] a w') ?_ ?_
 ·clear H; rintro a w' ⟨p_j6,c_j6,_,L_j6,rfl,h_j6,H⟩
  replace G:=qP G; obtain ⟨t9,ht9,G⟩:=G
  refine qg qd H (.cons [59] (qf (.agg #[.slice ((u4 1).o 0) t5.1.Names.length ((u4 1).n 0),.slice p_j6 L_j6.length c_j6]) 59 185 0 2 ((u4 5).n 0) [.slice ((u4 1).o 0) t5.1.Names.length ((u4 1).n 0),.slice p_j6 L_j6.length c_j6] 43) <|
 .cons [60,186,187] (QI false fr [] [182,900081] (fun u8=>[Qm 9 1 ((u4 1).o 0) ((u4 1).n 0) t5.1.Names YE,Xd p_j6 c_j6 L_j6]) [] (fun u8=>[]) 12 _ _ _ _ _ [186,187] 60 (fun u8 w hB hF hM=>Xk.calls k0 (⟨t5.1.Names,j7⟩:YF) ((u4 1).o 0) ((u4 1).n 0) p_j6 c_j6 L_j6 t9 w h_j6 hB ht9) (fun u8 w hF=>⟨⟨q9 (qw (Qe hF.1)) (fun j h=>⟨_,(.head _),(YT h)⟩),q9 (XS hF.2.1).row (fun j h=>⟨_,(.tail _ (.head _)),(qbd h)⟩),J7 (XS hF.2.1).all (fun j h=>⟨_,(.tail _ (.head _)),(qba h)⟩),trivial⟩,trivial⟩) (fun u8 g=>(ql Qw (ql Qw qC))) (.inr (fun u8 g=>(Qv trivial (Qv trivial (fun K h=>by cases h))))) (fun h=>by cases h)) <|
 .cons [10,188] (qs (fun b=>vP b 0) (fun u8=>[vI 0,.slice none 0 0,.slice none 0 0]) 38 10 188) <|
 .cons [188] (QL (u':=fun u8=>[(188,.blk ((u8 2).n 0) [vI t9.N,.slice ((u8 1).o 0) t9.L.length ((u8 1).n 0),.slice ((u8 1).o 1) t9.Out.length ((u8 1).n 1)] 38)]) (qW 188 0 (fun u8=>((u8 2).n 0)) (fun u8=>[vI 0,.slice none 0 0,.slice none 0 0]) (fun u8=>[vI t9.N,.slice ((u8 1).o 0) t9.L.length ((u8 1).n 0),.slice ((u8 1).o 1) t9.Out.length ((u8 1).n 1)]) 38) (fun _=>by kernel_rfl))<|.nil) [1,2,5,7,10,177,178,179,180,181,184,186,187,188,999999] fun u8 a w' H=>?_
  replace G:=qP G; obtain ⟨t11,ht11,G⟩:=G
  refine qg qd H (.v 61 (vP ((u1 0).n 0) 7) <|
 .cons [62] (qf (.int .u8 a0.K) 62 181 7 1 ((u1 0).n 0) [.slice p_a0_L L_a0_L.length c_a0_L,.slice p_a0_X a0.X.length c_a0_X,vI a0.T.Lo,vI a0.T.Hi,vI a0.G.T,vI a0.G.H,.int .u8 a0.N,.int .u8 a0.K,.slice p_a0_S a0.S.length c_a0_S] 56) <|
 .v 63 (.slice ((u4 1).o 2) t5.2.length ((u4 1).n 2)) <|
 .v 64 (vI (t5.2.length:Int)) <|
 .v 65 (vI (qc ((t5.2.length:Int) * 7))) <|
 .v 66 (.int .u8 (Wq (qc ((t5.2.length:Int) * 7)))) <|
 .cons [67] (qq 10 _ _ 67 [] (fun u10 w _=>Q0.calls a0.K 0 (Wq (qc ((t5.2.length:Int) * 7)))  t11 w  ht11)) <|
 .cons [11,189] (qs (fun b=>vP b 0) (fun u10=>[vI 0,vI 0,vI 0,vI 0,vI 0,vI 0,vI 0]) 29 11 189) <|
 .cons [189] (QL (u':=fun u10=>[(189,.blk ((u10 7).n 0) [vI t11.Ctrl.Order,vI t11.Ctrl.First,vI t11.Ctrl.Least,vI t11.Ctrl.Most,vI t11.Ctrl.Wide,vI t11.T,vI t11.Last] 29)]) (qW 189 0 (fun u10=>((u10 7).n 0)) (fun u10=>[vI 0,vI 0,vI 0,vI 0,vI 0,vI 0,vI 0]) (fun u10=>[vI t11.Ctrl.Order,vI t11.Ctrl.First,vI t11.Ctrl.Least,vI t11.Ctrl.Most,vI t11.Ctrl.Wide,vI t11.T,vI t11.Last]) 29) (fun _=>by kernel_rfl))<|.nil) [1,2,5,7,10,11,177,178,179,180,181,184,186,187,188,189,999999] fun u10 a w' H=>?_
  replace G:=qP G; obtain ⟨t13,ht13,G⟩:=G
  refine qg qd H (.v 68 (vP ((u1 0).n 0) 7) <|
 .cons [69] (qf (.int .u8 a0.K) 69 181 7 1 ((u1 0).n 0) [.slice p_a0_L L_a0_L.length c_a0_L,.slice p_a0_X a0.X.length c_a0_X,vI a0.T.Lo,vI a0.T.Hi,vI a0.G.T,vI a0.G.H,.int .u8 a0.N,.int .u8 a0.K,.slice p_a0_S a0.S.length c_a0_S] 56) <|
 .v 70 (.int .i8 a1) <|
 .v 71 (.slice ((u4 1).o 2) t5.2.length ((u4 1).n 2)) <|
 .v 72 (vI (t5.2.length:Int)) <|
 .v 73 (vI (qc ((t5.2.length:Int) * 7))) <|
 .v 74 (.int .u8 (Wq (qc ((t5.2.length:Int) * 7)))) <|
 .cons [75] (qq 10 _ _ 75 [] (fun u12 w _=>Q0.calls a0.K a1 (Wq (qc ((t5.2.length:Int) * 7)))  t13 w  ht13)) <|
 .cons [12,190] (qs (fun b=>vP b 0) (fun u12=>[vI 0,vI 0,vI 0,vI 0,vI 0,vI 0,vI 0]) 29 12 190) <|
 .cons [190] (QL (u':=fun u12=>[(190,.blk ((u12 8).n 0) [vI t13.Ctrl.Order,vI t13.Ctrl.First,vI t13.Ctrl.Least,vI t13.Ctrl.Most,vI t13.Ctrl.Wide,vI t13.T,vI t13.Last] 29)]) (qW 190 0 (fun u12=>((u12 8).n 0)) (fun u12=>[vI 0,vI 0,vI 0,vI 0,vI 0,vI 0,vI 0]) (fun u12=>[vI t13.Ctrl.Order,vI t13.Ctrl.First,vI t13.Ctrl.Least,vI t13.Ctrl.Most,vI t13.Ctrl.Wide,vI t13.T,vI t13.Last]) 29) (fun _=>by kernel_rfl))<|.nil) [1,5,7,10,11,12,184,186,187,188,189,190,999999] fun u12 a w' H=>?_
  refine qv ?_
  replace H:=H.demote fr 184 46 2 ((u4 1).o 2) t5.2.length ((u4 1).n 2) (t5.2.flatMap qa) (by kernel_rfl) (by decide) hBf
  replace G:=qP G; obtain ⟨t15,ht15,G⟩:=G
  refine Qt qd H (.cons [77] (qf (.agg #[vI t9.N,.slice ((u8 1).o 0) t9.L.length ((u8 1).n 0),.slice ((u8 1).o 1) t9.Out.length ((u8 1).n 1)]) 77 188 0 3 ((u8 2).n 0) [vI t9.N,.slice ((u8 1).o 0) t9.L.length ((u8 1).n 0),.slice ((u8 1).o 1) t9.Out.length ((u8 1).n 1)] 38) <|
 .v 78 (.slice ((u4 1).o 2) t5.2.length ((u4 1).n 2)) <|
 .cons [79] (qf (.agg #[vI t11.Ctrl.Order,vI t11.Ctrl.First,vI t11.Ctrl.Least,vI t11.Ctrl.Most,vI t11.Ctrl.Wide,vI t11.T,vI t11.Last]) 79 189 0 7 ((u10 7).n 0) [vI t11.Ctrl.Order,vI t11.Ctrl.First,vI t11.Ctrl.Least,vI t11.Ctrl.Most,vI t11.Ctrl.Wide,vI t11.T,vI t11.Last] 29) <|
 .cons [80,191,192] (QI true fr [] [186,187,184,999999] (fun u14=>[Qm 110 5 ((u8 1).o 0) ((u8 1).n 0) t9.L qi,Qm 3 1 ((u8 1).o 1) ((u8 1).n 1) t9.Out Qn,YZ fr 2 ((u4 1).o 2) t5.2.length ((u4 1).n 2) (t5.2.flatMap qa),gk]) [] (fun u14=>[]) 11 _ _ _ _ _ [191,192] 80 (fun u14 w hB hF hM=>qY.calls k0 (⟨t9.N,t9.L,t9.Out⟩:QE) t5.2 (⟨(⟨t11.Ctrl.Order,t11.Ctrl.First,t11.Ctrl.Least,t11.Ctrl.Most,t11.Ctrl.Wide⟩:qH),t11.T,t11.Last⟩:Zu) ((u8 1).o 0) ((u8 1).n 0) ((u8 1).o 1) ((u8 1).n 1) ((u4 1).o 2) ((u4 1).n 2) t15 w  hB hF ht15) (fun u14 w hF=>⟨⟨q9 (qw (Qe hF.1)) (fun j h=>⟨_,(.head _),(YT h)⟩),q9 (qw (Qe hF.2.1)) (fun j h=>⟨_,(.tail _ (.head _)),(YT h)⟩),Z6 hF.2.2.2.1 (.tail _ (.tail _ (.tail _ (.head _)))),trivial⟩,⟨Zx (qj hF.2.2.1) (fun j h=>ZN (.tail _ (.tail _ (.head _))) (fun h=>h) h (Y7 hF.2.2.1 _ h)),trivial⟩⟩) (fun u14 g=>(ql Qw (ql J4 qC))) (.inl rfl) (fun _=>hBf)) <|
 .cons [76] (qn (fun u14=>.tuple #[slgd_TSegment (u14 3) 0 t15.1,vI t15.2]) 76) <|
 .cons [81] (qn (fun u14=>slgd_TSegment (u14 3) 0 t15.1) 81) <|
 .v 82 (vI t15.2) <|
 .cons [13] (qn (fun u14=>slgd_TSegment (u14 3) 0 t15.1) 13) <|
 .v 14 (vI t15.2)<|.nil) [1,5,7,10,12,13,14,184,186,187,188,190,191,192,999999] fun u14 a w' H=>?_
  replace G:=qP G; obtain ⟨t17,ht17,G⟩:=G
  refine qg qd H (.cons [84] (qf (.agg #[vI t9.N,.slice ((u8 1).o 0) t9.L.length ((u8 1).n 0),.slice ((u8 1).o 1) t9.Out.length ((u8 1).n 1)]) 84 188 0 3 ((u8 2).n 0) [vI t9.N,.slice ((u8 1).o 0) t9.L.length ((u8 1).n 0),.slice ((u8 1).o 1) t9.Out.length ((u8 1).n 1)] 38) <|
 .v 85 (.slice ((u4 1).o 2) t5.2.length ((u4 1).n 2)) <|
 .cons [86] (qf (.agg #[vI t13.Ctrl.Order,vI t13.Ctrl.First,vI t13.Ctrl.Least,vI t13.Ctrl.Most,vI t13.Ctrl.Wide,vI t13.T,vI t13.Last]) 86 190 0 7 ((u12 8).n 0) [vI t13.Ctrl.Order,vI t13.Ctrl.First,vI t13.Ctrl.Least,vI t13.Ctrl.Most,vI t13.Ctrl.Wide,vI t13.T,vI t13.Last] 29) <|
 .cons [87,193,194] (QI true fr [] [186,187,184,999999] (fun u16=>[Qm 110 5 ((u8 1).o 0) ((u8 1).n 0) t9.L qi,Qm 3 1 ((u8 1).o 1) ((u8 1).n 1) t9.Out Qn,YZ fr 2 ((u4 1).o 2) t5.2.length ((u4 1).n 2) (t5.2.flatMap qa),gk]) [] (fun u16=>[]) 11 _ _ _ _ _ [193,194] 87 (fun u16 w hB hF hM=>qY.calls k0 (⟨t9.N,t9.L,t9.Out⟩:QE) t5.2 (⟨(⟨t13.Ctrl.Order,t13.Ctrl.First,t13.Ctrl.Least,t13.Ctrl.Most,t13.Ctrl.Wide⟩:qH),t13.T,t13.Last⟩:Zu) ((u8 1).o 0) ((u8 1).n 0) ((u8 1).o 1) ((u8 1).n 1) ((u4 1).o 2) ((u4 1).n 2) t17 w  hB hF ht17) (fun u16 w hF=>⟨⟨q9 (qw (Qe hF.1)) (fun j h=>⟨_,(.head _),(YT h)⟩),q9 (qw (Qe hF.2.1)) (fun j h=>⟨_,(.tail _ (.head _)),(YT h)⟩),Z6 hF.2.2.2.1 (.tail _ (.tail _ (.tail _ (.head _)))),trivial⟩,⟨Zx (qj hF.2.2.1) (fun j h=>ZN (.tail _ (.tail _ (.head _))) (fun h=>h) h (Y7 hF.2.2.1 _ h)),trivial⟩⟩) (fun u16 g=>(ql Qw (ql J4 qC))) (.inl rfl) (fun _=>hBf)) <|
 .cons [83] (qn (fun u16=>.tuple #[slgd_TSegment (u16 3) 0 t17.1,vI t17.2]) 83) <|
 .cons [88] (qn (fun u16=>slgd_TSegment (u16 3) 0 t17.1) 88) <|
 .v 89 (vI t17.2) <|
 .cons [15] (qn (fun u16=>slgd_TSegment (u16 3) 0 t17.1) 15) <|
 .v 16 (vI t17.2)<|.nil) [1,5,13,14,15,16,191,192,193,194,999999] fun u16 a w' H=>?_
  refine qv ?_
  refine qg qd H (.v 90 (vI t15.2) <|
 .v 91 (vI t17.2) <|
 .v 92 (.bool (t15.2 != t17.2)) <|
 .v 93 (.bool (t15.2 != t17.2)) <|
 .cons [94] (qQ (fun u18=>slgd_TSegment (u14 3) 0 t15.1) (fun u18=>((t15.2 != t17.2) == false)) [true] 94) <|
 .cons [95] (Zq [191] (fun u18=>[Qm 63 6 ((u14 3).o 0) ((u14 3).n 0) (dlgd_TSegment (u14 3) 0 t15.1) qo]) (fun u18=>vI (t15.1.length:Int)) (fun u18=>((t15.2 != t17.2) == false)) [false] 95 (fun u18 w hg hF=>Yt (((qw (Qe hF.1)).2.len qx (by decide)).trans (qT (XL qK (u14 3) 0 t15.1)).symm) (by kernel_rfl))) <|
 .cons [96] (qQ (fun u18=>slgd_TSegment (u16 3) 0 t17.1) (fun u18=>((t15.2 != t17.2) == false)) [true] 96) <|
 .cons [97] (Zq [193] (fun u18=>[Qm 63 6 ((u16 3).o 0) ((u16 3).n 0) (dlgd_TSegment (u16 3) 0 t17.1) qo]) (fun u18=>vI (t17.1.length:Int)) (fun u18=>((t15.2 != t17.2) == false)) [false] 97 (fun u18 w hg hF=>Yt (((qw (Qe hF.1)).2.len qx (by decide)).trans (qT (XL qK (u16 3) 0 t17.1)).symm) (by kernel_rfl))) <|
 .cons [98] (qQ (fun u18=>.bool ((t15.1.length:Int) != (t17.1.length:Int))) (fun u18=>((t15.2 != t17.2) == false)) [false,false] 98) <|
 .cons [99] (ZM 93 98 (fun u18=>true) (fun u18=>true) (fun u18=>(t15.2 != t17.2)) (fun u18=>((t15.1.length:Int) != (t17.1.length:Int))) 99)<|.nil) [1,5,13,15,99,191,192,193,194,999999] fun u18 a w' H=>?_
  refine Qx H ((t15.2 != t17.2) || ((t15.1.length:Int) != (t17.1.length:Int))) (fun c68=>?_) fun c68=>?_
  ·rw [if_pos c68] at G
   refine qg qd H (.v 4 (.bool false)<|.nil) [4,999999] fun u19 a w' H=>?_
   refine qF ?_
   obtain rfl:=sj G
   exact Qr H _ (by kernel_rfl) (by kernel_rfl)
  ·rw [if_neg (nt c68)] at G
   refine Qf ?_
   refine qv ?_
   replace G:=qP G; obtain ⟨j20,hj20,Gj20⟩:=G
   refine Xq (fun a w'=>∃ j20v,j20=Sum.inr j20v∧RL w 177 [(5,sB t3),(999999,gk)] a w') ?_ ?_
   ·clear H; rintro a w' ⟨j20v,rfl,H⟩; have G:=Gj20; clear Gj20; dsimp only at G
    refine qg qd H (.v 176 (.bool t3) <|
 .v 4 (.bool t3)<|.nil) [4,999999] fun u21 a w' H=>?_
    refine qF ?_
    obtain rfl:=sj G
    exact Qr H _ (by kernel_rfl) (by kernel_rfl)
   ·have G:=hj20; clear hj20
    refine qg qd H (.v 17 (vI 0)<|.nil) [1,5,13,15,17,191,192,193,194,999999] fun u22 a w' H=>?_
    refine q6 ?_
    refine XP (fun m a w'=>∃ x23:Int,qp.l24 k0 a0 a1 t3 t5 j7 t9 t11 t13 t15 t17 m x23=some j20∧RL w 177 [(1,.slot true (.int .i8 a1)),(5,sB t3),(13,(sS ((u14 3).o 0) ((dlgd_TSegment (u14 3) 0 t15.1).length) ((u14 3).n 0))),(15,(sS ((u16 3).o 0) ((dlgd_TSegment (u16 3) 0 t17.1).length) ((u16 3).n 0))),(17,sI x23),(191,Qm 63 6 ((u14 3).o 0) ((u14 3).n 0) (dlgd_TSegment (u14 3) 0 t15.1) qo),(192,X7 fr qX.toPart (dlgd_TSegment (u14 3) 0 t15.1)),(193,Qm 63 6 ((u16 3).o 0) ((u16 3).n 0) (dlgd_TSegment (u16 3) 0 t17.1) qo),(194,X7 fr qX.toPart (dlgd_TSegment (u16 3) 0 t17.1)),(999999,gk)] a w') k0 ⟨_,G,H.toM _⟩ ?_
    clear G H
    rintro (_ | k) a w' ⟨x23,G,H⟩
    ·exact absurd G (by unfold qp.l24; exact fun h=>by cases h)
    ·unfold qp.l24 at G
     refine qv ?_
     refine qg qd H (.v 100 (vI x23) <|
 .v 101 (slgd_TSegment (u14 3) 0 t15.1) <|
 .cons [102] (qG 191 (Qm 63 6 ((u14 3).o 0) ((u14 3).n 0) (dlgd_TSegment (u14 3) 0 t15.1) qo) (vI (t15.1.length:Int)) 102 fun _ w h=>Yt (((qw (Qe h)).2.len qx (by decide)).trans (qT (XL qK (u14 3) 0 t15.1)).symm) (by kernel_rfl)) <|
 .v 103 (.bool (decide (x23<(t15.1.length:Int))))<|.nil) [1,5,13,15,17,103,191,192,193,194,999999] fun u25 a w' H=>?_
     refine Qx H (decide (x23<(t15.1.length:Int))) (fun c67=>?_) fun c67=>?_
     ·rw [if_pos c67] at G
      refine Qf ?_
      refine qv ?_
      refine q6 ?_
      refine qv ?_
      replace G:=gd G; obtain ⟨b27,G⟩:=G
      replace G:=qP G; obtain ⟨t28,ht28,G⟩:=G
      obtain ⟨p_t28_From,c_t28_From,p_t28_Pre,c_t28_Pre,p_t28_Tube,c_t28_Tube,p_t28_To,c_t28_To,y_t28⟩:=XD (XL qK (u16 3) 0 t17.1) ht28
      have P29:=Xh (en:=qo) (l:=(dlgd_TSegment (u16 3) 0 t17.1)) (qw (Qe (H.at (K:=Qm 63 6 ((u16 3).o 0) ((u16 3).n 0) (dlgd_TSegment (u16 3) 0 t17.1) qo) 193 (by kernel_rfl)))).2 qx
      replace G:=gd G; obtain ⟨b30,G⟩:=G
      replace G:=qP G; obtain ⟨t31,ht31,G⟩:=G
      obtain ⟨p_t31_From,c_t31_From,p_t31_Pre,c_t31_Pre,p_t31_Tube,c_t31_Tube,p_t31_To,c_t31_To,y_t31⟩:=XD (XL qK (u14 3) 0 t15.1) ht31
      have P32:=Xh (en:=qo) (l:=(dlgd_TSegment (u14 3) 0 t15.1)) (qw (Qe (H.at (K:=Qm 63 6 ((u14 3).o 0) ((u14 3).n 0) (dlgd_TSegment (u14 3) 0 t15.1) qo) 191 (by kernel_rfl)))).2 qx
      replace G:=qP G; obtain ⟨z33,hz33,G⟩:=G
      replace hz33:=Option.some.inj hz33
      by_cases c65:z33=true
      ·rw [if_pos c65] at G; subst c65
       refine ZC qd H (.v 106 (slgd_TSegment (u16 3) 0 t17.1) <|
 .v 107 (vI x23) <|
 .cons [108] (qn (fun u26=>.pointer (some ⟨Xf ((u16 3).o 0),Xg ((u16 3).o 0)+x23.toNat * 6,none⟩)) 108 (hv:=fun _ _=>qM (t:=31) (k:=.i64) (i:=x23) (p:=((u16 3).o 0)) (n:=(dlgd_TSegment (u16 3) 0 t17.1).length) (cap:=((u16 3).n 0)) (x:=t17.1) P29 (qT (XL qK (u16 3) 0 t17.1)) b27 (by kernel_rfl))) <|
 .v 109 (.pointer (some ⟨Xf ((u16 3).o 0),Xg ((u16 3).o 0)+x23.toNat * 6+0,none⟩)) <|
 .cons [110] (qG 193 (Qm 63 6 ((u16 3).o 0) ((u16 3).n 0) (dlgd_TSegment (u16 3) 0 t17.1) qo) (vI t28.T) 110 fun _ w h=>Ym qo (qw (Qe h)).2 qx y_t28 0 1 [vI t28.T]) <|
 .v 111 (slgd_TSegment (u14 3) 0 t15.1) <|
 .v 112 (vI x23) <|
 .cons [113] (qn (fun u26=>.pointer (some ⟨Xf ((u14 3).o 0),Xg ((u14 3).o 0)+x23.toNat * 6,none⟩)) 113 (hv:=fun _ _=>qM (t:=31) (k:=.i64) (i:=x23) (p:=((u14 3).o 0)) (n:=(dlgd_TSegment (u14 3) 0 t15.1).length) (cap:=((u14 3).n 0)) (x:=t15.1) P32 (qT (XL qK (u14 3) 0 t15.1)) b30 (by kernel_rfl))) <|
 .v 114 (.pointer (some ⟨Xf ((u14 3).o 0),Xg ((u14 3).o 0)+x23.toNat * 6+0,none⟩)) <|
 .cons [115] (qG 191 (Qm 63 6 ((u14 3).o 0) ((u14 3).n 0) (dlgd_TSegment (u14 3) 0 t15.1) qo) (vI t31.T) 115 fun _ w h=>Ym qo (qw (Qe h)).2 qx y_t31 0 1 [vI t31.T]) <|
 .v 116 (vI (qc (t28.T - t31.T))) <|
 .v 117 (.int .i8 a1) <|
 .v 118 (vI (qc a1)) <|
 .v 119 (vI (qc ((qc a1) * 65536))) <|
 .v 120 (.bool ((qc (t28.T - t31.T)) != (qc ((qc a1) * 65536)))) <|
 .cons [121] (QL (u':=fun u26=>[(121,sB true)]) (qn (fun u26=>.bool ((qc (t28.T - t31.T)) != (qc ((qc a1) * 65536)))) 121) (fun _=>by rw [hz33])) <|
 .cons [122] (qA 122) <|
 .cons [123] (qA 123) <|
 .cons [124] (qA 124) <|
 .cons [125] (qA 125) <|
 .cons [126] (qA 126) <|
 .cons [127] (qA 127) <|
 .cons [128] (qA 128) <|
 .cons [129] (qA 129) <|
 .cons [130] (qA 130) <|
 .cons [131] (qA 131) <|
 .cons [132] (qA 132) <|
 .cons [133] (XJ (fun u26=>.bool true) 133) <|
 .v 134 (.bool true) <|
 .cons [135] (qA 135) <|
 .cons [136] (qA 136) <|
 .cons [137] (qA 137) <|
 .cons [138] (qA 138) <|
 .cons [139] (qA 139) <|
 .cons [140] (qA 140) <|
 .cons [141] (qA 141) <|
 .cons [142] (qA 142) <|
 .cons [143] (qA 143) <|
 .cons [144] (qA 144) <|
 .cons [145] (qA 145) <|
 .cons [146] (qA 146) <|
 .cons [147] (XJ (fun u26=>.bool true) 147) <|
 .v 148 (.bool true) <|
 .cons [149] (qA 149) <|
 .cons [150] (qA 150) <|
 .cons [151] (qA 151) <|
 .cons [152] (qA 152) <|
 .cons [153] (qA 153) <|
 .cons [154] (qA 154) <|
 .cons [155] (qA 155) <|
 .cons [156] (qA 156) <|
 .cons [157] (qA 157) <|
 .cons [158] (qA 158) <|
 .cons [159] (qA 159) <|
 .cons [160] (qA 160) <|
 .cons [161] (XJ (fun u26=>.bool true) 161) <|
 .v 162 (.bool true) <|
 .cons [163] (qA 163) <|
 .cons [164] (qA 164) <|
 .cons [165] (qA 165) <|
 .cons [166] (qA 166) <|
 .cons [167] (qA 167) <|
 .cons [168] (qA 168) <|
 .cons [169] (qA 169) <|
 .cons [170] (qA 170) <|
 .cons [171] (qA 171) <|
 .cons [172] (qA 172) <|
 .cons [173] (qA 173) <|
 .cons [174] (qA 174) <|
 .cons [175] (XJ (fun u26=>.bool true) 175)<|.nil) (by kernel_rfl) fun u26 a w' H=>?_
       replace H:=H.kp [1,5,13,15,17,122,123,124,125,126,127,128,129,130,131,132,135,136,137,138,139,140,141,142,143,144,145,146,149,150,151,152,153,154,155,156,157,158,159,160,163,164,165,166,167,168,169,170,171,172,173,174,175,191,192,193,194,999999]
       refine YO H (by kernel_rfl) (by kernel_rfl) ?_
       refine qg qd H (.v 4 (.bool false)<|.nil) [4,999999] fun u34 a w' H=>?_
       refine qF ?_
       obtain rfl:=sj G
       replace G:=Gj20
       obtain rfl:=sj G
       exact Qr H _ (by kernel_rfl) (by kernel_rfl)
      rw [if_neg c65] at G
      by_cases c66:z33=false
      ·rw [if_pos c66] at G; subst c66
       replace G:=gd G; obtain ⟨b34,G⟩:=G
       replace G:=qP G; obtain ⟨t35,ht35,G⟩:=G
       obtain ⟨p_t35_From,c_t35_From,p_t35_Pre,c_t35_Pre,p_t35_Tube,c_t35_Tube,p_t35_To,c_t35_To,y_t35⟩:=XD (XL qK (u16 3) 0 t17.1) ht35
       replace G:=gd G; obtain ⟨b36,G⟩:=G
       replace G:=qP G; obtain ⟨t37,ht37,G⟩:=G
       obtain ⟨p_t37_From,c_t37_From,p_t37_Pre,c_t37_Pre,p_t37_Tube,c_t37_Tube,p_t37_To,c_t37_To,y_t37⟩:=XD (XL qK (u14 3) 0 t15.1) ht37
       replace G:=qP G; obtain ⟨z38,hz38,G⟩:=G
       replace hz38:=Option.some.inj hz38
       by_cases c63:z38=true
       ·rw [if_pos c63] at G; subst c63
        refine ZC qd H (.v 106 (slgd_TSegment (u16 3) 0 t17.1) <|
 .v 107 (vI x23) <|
 .cons [108] (qn (fun u26=>.pointer (some ⟨Xf ((u16 3).o 0),Xg ((u16 3).o 0)+x23.toNat * 6,none⟩)) 108 (hv:=fun _ _=>qM (t:=31) (k:=.i64) (i:=x23) (p:=((u16 3).o 0)) (n:=(dlgd_TSegment (u16 3) 0 t17.1).length) (cap:=((u16 3).n 0)) (x:=t17.1) P29 (qT (XL qK (u16 3) 0 t17.1)) b27 (by kernel_rfl))) <|
 .v 109 (.pointer (some ⟨Xf ((u16 3).o 0),Xg ((u16 3).o 0)+x23.toNat * 6+0,none⟩)) <|
 .cons [110] (qG 193 (Qm 63 6 ((u16 3).o 0) ((u16 3).n 0) (dlgd_TSegment (u16 3) 0 t17.1) qo) (vI t28.T) 110 fun _ w h=>Ym qo (qw (Qe h)).2 qx y_t28 0 1 [vI t28.T]) <|
 .v 111 (slgd_TSegment (u14 3) 0 t15.1) <|
 .v 112 (vI x23) <|
 .cons [113] (qn (fun u26=>.pointer (some ⟨Xf ((u14 3).o 0),Xg ((u14 3).o 0)+x23.toNat * 6,none⟩)) 113 (hv:=fun _ _=>qM (t:=31) (k:=.i64) (i:=x23) (p:=((u14 3).o 0)) (n:=(dlgd_TSegment (u14 3) 0 t15.1).length) (cap:=((u14 3).n 0)) (x:=t15.1) P32 (qT (XL qK (u14 3) 0 t15.1)) b30 (by kernel_rfl))) <|
 .v 114 (.pointer (some ⟨Xf ((u14 3).o 0),Xg ((u14 3).o 0)+x23.toNat * 6+0,none⟩)) <|
 .cons [115] (qG 191 (Qm 63 6 ((u14 3).o 0) ((u14 3).n 0) (dlgd_TSegment (u14 3) 0 t15.1) qo) (vI t31.T) 115 fun _ w h=>Ym qo (qw (Qe h)).2 qx y_t31 0 1 [vI t31.T]) <|
 .v 116 (vI (qc (t28.T - t31.T))) <|
 .v 117 (.int .i8 a1) <|
 .v 118 (vI (qc a1)) <|
 .v 119 (vI (qc ((qc a1) * 65536))) <|
 .v 120 (.bool ((qc (t28.T - t31.T)) != (qc ((qc a1) * 65536)))) <|
 .cons [121] (QL (u':=fun u26=>[(121,sB false)]) (qn (fun u26=>.bool ((qc (t28.T - t31.T)) != (qc ((qc a1) * 65536)))) 121) (fun _=>by rw [hz33])) <|
 .cons [122] (Qh (qn (fun u26=>slgd_TSegment (u16 3) 0 t17.1) 122) (by intro _; kernel_rfl)) <|
 .cons [123] (Qh (qn (fun u26=>vI x23) 123) (by intro _; kernel_rfl)) <|
 .cons [124] (Qh (qn (fun u26=>.pointer (some ⟨Xf ((u16 3).o 0),Xg ((u16 3).o 0)+x23.toNat * 6,none⟩)) 124 (hv:=fun _ _=>qM (t:=31) (k:=.i64) (i:=x23) (p:=((u16 3).o 0)) (n:=(dlgd_TSegment (u16 3) 0 t17.1).length) (cap:=((u16 3).n 0)) (x:=t17.1) P29 (qT (XL qK (u16 3) 0 t17.1)) b34 (by kernel_rfl))) (by intro _; kernel_rfl)) <|
 .cons [125] (Qh (qn (fun u26=>.pointer (some ⟨Xf ((u16 3).o 0),Xg ((u16 3).o 0)+x23.toNat * 6+1,none⟩)) 125) (by intro _; kernel_rfl)) <|
 .cons [126] (Qh (qG 193 (Qm 63 6 ((u16 3).o 0) ((u16 3).n 0) (dlgd_TSegment (u16 3) 0 t17.1) qo) (vI t35.H) 126 fun _ w h=>Ym qo (qw (Qe h)).2 qx y_t35 1 1 [vI t35.H]) (by intro _; kernel_rfl)) <|
 .cons [127] (Qh (qn (fun u26=>slgd_TSegment (u14 3) 0 t15.1) 127) (by intro _; kernel_rfl)) <|
 .cons [128] (Qh (qn (fun u26=>vI x23) 128) (by intro _; kernel_rfl)) <|
 .cons [129] (Qh (qn (fun u26=>.pointer (some ⟨Xf ((u14 3).o 0),Xg ((u14 3).o 0)+x23.toNat * 6,none⟩)) 129 (hv:=fun _ _=>qM (t:=31) (k:=.i64) (i:=x23) (p:=((u14 3).o 0)) (n:=(dlgd_TSegment (u14 3) 0 t15.1).length) (cap:=((u14 3).n 0)) (x:=t15.1) P32 (qT (XL qK (u14 3) 0 t15.1)) b36 (by kernel_rfl))) (by intro _; kernel_rfl)) <|
 .cons [130] (Qh (qn (fun u26=>.pointer (some ⟨Xf ((u14 3).o 0),Xg ((u14 3).o 0)+x23.toNat * 6+1,none⟩)) 130) (by intro _; kernel_rfl)) <|
 .cons [131] (Qh (qG 191 (Qm 63 6 ((u14 3).o 0) ((u14 3).n 0) (dlgd_TSegment (u14 3) 0 t15.1) qo) (vI t37.H) 131 fun _ w h=>Ym qo (qw (Qe h)).2 qx y_t37 1 1 [vI t37.H]) (by intro _; kernel_rfl)) <|
 .cons [132] (Qh (qn (fun u26=>.bool (t35.H != t37.H)) 132) (by intro _; kernel_rfl)) <|
 .cons [133] (XJ (fun u26=>.bool (t35.H != t37.H)) 133) <|
 .cons [134] (QL (u':=fun u26=>[(134,sB true)]) (qn (fun u26=>.bool (t35.H != t37.H)) 134) (fun _=>by rw [hz38])) <|
 .cons [135] (qA 135) <|
 .cons [136] (qA 136) <|
 .cons [137] (qA 137) <|
 .cons [138] (qA 138) <|
 .cons [139] (qA 139) <|
 .cons [140] (qA 140) <|
 .cons [141] (qA 141) <|
 .cons [142] (qA 142) <|
 .cons [143] (qA 143) <|
 .cons [144] (qA 144) <|
 .cons [145] (qA 145) <|
 .cons [146] (qA 146) <|
 .cons [147] (XJ (fun u26=>.bool true) 147) <|
 .v 148 (.bool true) <|
 .cons [149] (qA 149) <|
 .cons [150] (qA 150) <|
 .cons [151] (qA 151) <|
 .cons [152] (qA 152) <|
 .cons [153] (qA 153) <|
 .cons [154] (qA 154) <|
 .cons [155] (qA 155) <|
 .cons [156] (qA 156) <|
 .cons [157] (qA 157) <|
 .cons [158] (qA 158) <|
 .cons [159] (qA 159) <|
 .cons [160] (qA 160) <|
 .cons [161] (XJ (fun u26=>.bool true) 161) <|
 .v 162 (.bool true) <|
 .cons [163] (qA 163) <|
 .cons [164] (qA 164) <|
 .cons [165] (qA 165) <|
 .cons [166] (qA 166) <|
 .cons [167] (qA 167) <|
 .cons [168] (qA 168) <|
 .cons [169] (qA 169) <|
 .cons [170] (qA 170) <|
 .cons [171] (qA 171) <|
 .cons [172] (qA 172) <|
 .cons [173] (qA 173) <|
 .cons [174] (qA 174) <|
 .cons [175] (XJ (fun u26=>.bool true) 175)<|.nil) (by kernel_rfl) fun u26 a w' H=>?_
        replace H:=H.kp [1,5,13,15,17,122,123,124,125,126,127,128,129,130,131,132,135,136,137,138,139,140,141,142,143,144,145,146,149,150,151,152,153,154,155,156,157,158,159,160,163,164,165,166,167,168,169,170,171,172,173,174,175,191,192,193,194,999999]
        refine YO H (by kernel_rfl) (by kernel_rfl) ?_
        refine qg qd H (.v 4 (.bool false)<|.nil) [4,999999] fun u39 a w' H=>?_
        refine qF ?_
        obtain rfl:=sj G
        replace G:=Gj20
        obtain rfl:=sj G
        exact Qr H _ (by kernel_rfl) (by kernel_rfl)
       rw [if_neg c63] at G
       by_cases c64:z38=false
       ·rw [if_pos c64] at G; subst c64
        replace G:=gd G; obtain ⟨b39,G⟩:=G
        replace G:=qP G; obtain ⟨t40,ht40,G⟩:=G
        obtain ⟨p_t40_From,c_t40_From,p_t40_Pre,c_t40_Pre,p_t40_Tube,c_t40_Tube,p_t40_To,c_t40_To,y_t40⟩:=XD (XL qK (u16 3) 0 t17.1) ht40
        replace G:=gd G; obtain ⟨b41,G⟩:=G
        replace G:=qP G; obtain ⟨t42,ht42,G⟩:=G
        obtain ⟨p_t42_From,c_t42_From,p_t42_Pre,c_t42_Pre,p_t42_Tube,c_t42_Tube,p_t42_To,c_t42_To,y_t42⟩:=XD (XL qK (u14 3) 0 t15.1) ht42
        replace G:=qP G; obtain ⟨t43,ht43,G⟩:=G
        replace G:=qP G; obtain ⟨z44,hz44,G⟩:=G
        replace hz44:=Option.some.inj hz44
        by_cases c61:z44=true
        ·rw [if_pos c61] at G; subst c61
         refine ZC qd H (.v 106 (slgd_TSegment (u16 3) 0 t17.1) <|
 .v 107 (vI x23) <|
 .cons [108] (qn (fun u26=>.pointer (some ⟨Xf ((u16 3).o 0),Xg ((u16 3).o 0)+x23.toNat * 6,none⟩)) 108 (hv:=fun _ _=>qM (t:=31) (k:=.i64) (i:=x23) (p:=((u16 3).o 0)) (n:=(dlgd_TSegment (u16 3) 0 t17.1).length) (cap:=((u16 3).n 0)) (x:=t17.1) P29 (qT (XL qK (u16 3) 0 t17.1)) b27 (by kernel_rfl))) <|
 .v 109 (.pointer (some ⟨Xf ((u16 3).o 0),Xg ((u16 3).o 0)+x23.toNat * 6+0,none⟩)) <|
 .cons [110] (qG 193 (Qm 63 6 ((u16 3).o 0) ((u16 3).n 0) (dlgd_TSegment (u16 3) 0 t17.1) qo) (vI t28.T) 110 fun _ w h=>Ym qo (qw (Qe h)).2 qx y_t28 0 1 [vI t28.T]) <|
 .v 111 (slgd_TSegment (u14 3) 0 t15.1) <|
 .v 112 (vI x23) <|
 .cons [113] (qn (fun u26=>.pointer (some ⟨Xf ((u14 3).o 0),Xg ((u14 3).o 0)+x23.toNat * 6,none⟩)) 113 (hv:=fun _ _=>qM (t:=31) (k:=.i64) (i:=x23) (p:=((u14 3).o 0)) (n:=(dlgd_TSegment (u14 3) 0 t15.1).length) (cap:=((u14 3).n 0)) (x:=t15.1) P32 (qT (XL qK (u14 3) 0 t15.1)) b30 (by kernel_rfl))) <|
 .v 114 (.pointer (some ⟨Xf ((u14 3).o 0),Xg ((u14 3).o 0)+x23.toNat * 6+0,none⟩)) <|
 .cons [115] (qG 191 (Qm 63 6 ((u14 3).o 0) ((u14 3).n 0) (dlgd_TSegment (u14 3) 0 t15.1) qo) (vI t31.T) 115 fun _ w h=>Ym qo (qw (Qe h)).2 qx y_t31 0 1 [vI t31.T]) <|
 .v 116 (vI (qc (t28.T - t31.T))) <|
 .v 117 (.int .i8 a1) <|
 .v 118 (vI (qc a1)) <|
 .v 119 (vI (qc ((qc a1) * 65536))) <|
 .v 120 (.bool ((qc (t28.T - t31.T)) != (qc ((qc a1) * 65536)))) <|
 .cons [121] (QL (u':=fun u26=>[(121,sB false)]) (qn (fun u26=>.bool ((qc (t28.T - t31.T)) != (qc ((qc a1) * 65536)))) 121) (fun _=>by rw [hz33])) <|
 .cons [122] (Qh (qn (fun u26=>slgd_TSegment (u16 3) 0 t17.1) 122) (by intro _; kernel_rfl)) <|
 .cons [123] (Qh (qn (fun u26=>vI x23) 123) (by intro _; kernel_rfl)) <|
 .cons [124] (Qh (qn (fun u26=>.pointer (some ⟨Xf ((u16 3).o 0),Xg ((u16 3).o 0)+x23.toNat * 6,none⟩)) 124 (hv:=fun _ _=>qM (t:=31) (k:=.i64) (i:=x23) (p:=((u16 3).o 0)) (n:=(dlgd_TSegment (u16 3) 0 t17.1).length) (cap:=((u16 3).n 0)) (x:=t17.1) P29 (qT (XL qK (u16 3) 0 t17.1)) b34 (by kernel_rfl))) (by intro _; kernel_rfl)) <|
 .cons [125] (Qh (qn (fun u26=>.pointer (some ⟨Xf ((u16 3).o 0),Xg ((u16 3).o 0)+x23.toNat * 6+1,none⟩)) 125) (by intro _; kernel_rfl)) <|
 .cons [126] (Qh (qG 193 (Qm 63 6 ((u16 3).o 0) ((u16 3).n 0) (dlgd_TSegment (u16 3) 0 t17.1) qo) (vI t35.H) 126 fun _ w h=>Ym qo (qw (Qe h)).2 qx y_t35 1 1 [vI t35.H]) (by intro _; kernel_rfl)) <|
 .cons [127] (Qh (qn (fun u26=>slgd_TSegment (u14 3) 0 t15.1) 127) (by intro _; kernel_rfl)) <|
 .cons [128] (Qh (qn (fun u26=>vI x23) 128) (by intro _; kernel_rfl)) <|
 .cons [129] (Qh (qn (fun u26=>.pointer (some ⟨Xf ((u14 3).o 0),Xg ((u14 3).o 0)+x23.toNat * 6,none⟩)) 129 (hv:=fun _ _=>qM (t:=31) (k:=.i64) (i:=x23) (p:=((u14 3).o 0)) (n:=(dlgd_TSegment (u14 3) 0 t15.1).length) (cap:=((u14 3).n 0)) (x:=t15.1) P32 (qT (XL qK (u14 3) 0 t15.1)) b36 (by kernel_rfl))) (by intro _; kernel_rfl)) <|
 .cons [130] (Qh (qn (fun u26=>.pointer (some ⟨Xf ((u14 3).o 0),Xg ((u14 3).o 0)+x23.toNat * 6+1,none⟩)) 130) (by intro _; kernel_rfl)) <|
 .cons [131] (Qh (qG 191 (Qm 63 6 ((u14 3).o 0) ((u14 3).n 0) (dlgd_TSegment (u14 3) 0 t15.1) qo) (vI t37.H) 131 fun _ w h=>Ym qo (qw (Qe h)).2 qx y_t37 1 1 [vI t37.H]) (by intro _; kernel_rfl)) <|
 .cons [132] (Qh (qn (fun u26=>.bool (t35.H != t37.H)) 132) (by intro _; kernel_rfl)) <|
 .cons [133] (XJ (fun u26=>.bool (t35.H != t37.H)) 133) <|
 .cons [134] (QL (u':=fun u26=>[(134,sB false)]) (qn (fun u26=>.bool (t35.H != t37.H)) 134) (fun _=>by rw [hz38])) <|
 .cons [135] (Qh (qn (fun u26=>slgd_TSegment (u16 3) 0 t17.1) 135) (by intro _; kernel_rfl)) <|
 .cons [136] (Qh (qn (fun u26=>vI x23) 136) (by intro _; kernel_rfl)) <|
 .cons [137] (Qh (qn (fun u26=>.pointer (some ⟨Xf ((u16 3).o 0),Xg ((u16 3).o 0)+x23.toNat * 6,none⟩)) 137 (hv:=fun _ _=>qM (t:=31) (k:=.i64) (i:=x23) (p:=((u16 3).o 0)) (n:=(dlgd_TSegment (u16 3) 0 t17.1).length) (cap:=((u16 3).n 0)) (x:=t17.1) P29 (qT (XL qK (u16 3) 0 t17.1)) b39 (by kernel_rfl))) (by intro _; kernel_rfl)) <|
 .cons [138] (Qh (qn (fun u26=>.pointer (some ⟨Xf ((u16 3).o 0),Xg ((u16 3).o 0)+x23.toNat * 6+5,none⟩)) 138) (by intro _; kernel_rfl)) <|
 .cons [139] (Qh (qG 193 (Qm 63 6 ((u16 3).o 0) ((u16 3).n 0) (dlgd_TSegment (u16 3) 0 t17.1) qo) (.slice p_t40_To t40.To.length c_t40_To) 139 fun _ w h=>Ym qo (qw (Qe h)).2 qx y_t40 5 1 [.slice p_t40_To t40.To.length c_t40_To]) (by intro _; kernel_rfl)) <|
 .cons [140] (Qh (qn (fun u26=>slgd_TSegment (u14 3) 0 t15.1) 140) (by intro _; kernel_rfl)) <|
 .cons [141] (Qh (qn (fun u26=>vI x23) 141) (by intro _; kernel_rfl)) <|
 .cons [142] (Qh (qn (fun u26=>.pointer (some ⟨Xf ((u14 3).o 0),Xg ((u14 3).o 0)+x23.toNat * 6,none⟩)) 142 (hv:=fun _ _=>qM (t:=31) (k:=.i64) (i:=x23) (p:=((u14 3).o 0)) (n:=(dlgd_TSegment (u14 3) 0 t15.1).length) (cap:=((u14 3).n 0)) (x:=t15.1) P32 (qT (XL qK (u14 3) 0 t15.1)) b41 (by kernel_rfl))) (by intro _; kernel_rfl)) <|
 .cons [143] (Qh (qn (fun u26=>.pointer (some ⟨Xf ((u14 3).o 0),Xg ((u14 3).o 0)+x23.toNat * 6+5,none⟩)) 143) (by intro _; kernel_rfl)) <|
 .cons [144] (Qh (qG 191 (Qm 63 6 ((u14 3).o 0) ((u14 3).n 0) (dlgd_TSegment (u14 3) 0 t15.1) qo) (.slice p_t42_To t42.To.length c_t42_To) 144 fun _ w h=>Ym qo (qw (Qe h)).2 qx y_t42 5 1 [.slice p_t42_To t42.To.length c_t42_To]) (by intro _; kernel_rfl)) <|
 .cons [145] (Qh (QX [194,192] (fun u26=>[X7 fr qX.toPart (dlgd_TSegment (u16 3) 0 t17.1),X7 fr qX.toPart (dlgd_TSegment (u14 3) 0 t15.1)]) 17 _ _ 145 (fun u26 w hF=>qN.calls k0 t40.To t42.To p_t40_To c_t40_To p_t42_To c_t42_To t43 w  ⟨(Z9 (show XO _ 2 p_t40_To t40.To.length c_t40_To (t40.To.flatMap qa) from ((Xl hF.1) _ (List.mem_of_getElem? y_t40)).2.2.2.1)),(Z9 (show XO _ 2 p_t42_To t42.To.length c_t42_To (t42.To.flatMap qa) from ((Xl hF.2.1) _ (List.mem_of_getElem? y_t42)).2.2.2.1)),trivial⟩ ht43)) (by intro _; kernel_rfl)) <|
 .cons [146] (Qh (qn (fun u26=>.bool (!t43)) 146) (by intro _; kernel_rfl)) <|
 .cons [147] (XJ (fun u26=>.bool (!t43)) 147) <|
 .cons [148] (QL (u':=fun u26=>[(148,sB true)]) (qn (fun u26=>.bool (!t43)) 148) (fun _=>by rw [hz44])) <|
 .cons [149] (qA 149) <|
 .cons [150] (qA 150) <|
 .cons [151] (qA 151) <|
 .cons [152] (qA 152) <|
 .cons [153] (qA 153) <|
 .cons [154] (qA 154) <|
 .cons [155] (qA 155) <|
 .cons [156] (qA 156) <|
 .cons [157] (qA 157) <|
 .cons [158] (qA 158) <|
 .cons [159] (qA 159) <|
 .cons [160] (qA 160) <|
 .cons [161] (XJ (fun u26=>.bool true) 161) <|
 .v 162 (.bool true) <|
 .cons [163] (qA 163) <|
 .cons [164] (qA 164) <|
 .cons [165] (qA 165) <|
 .cons [166] (qA 166) <|
 .cons [167] (qA 167) <|
 .cons [168] (qA 168) <|
 .cons [169] (qA 169) <|
 .cons [170] (qA 170) <|
 .cons [171] (qA 171) <|
 .cons [172] (qA 172) <|
 .cons [173] (qA 173) <|
 .cons [174] (qA 174) <|
 .cons [175] (XJ (fun u26=>.bool true) 175)<|.nil) (by kernel_rfl) fun u26 a w' H=>?_
         replace H:=H.kp [1,5,13,15,17,122,123,124,125,126,127,128,129,130,131,132,135,136,137,138,139,140,141,142,143,144,145,146,149,150,151,152,153,154,155,156,157,158,159,160,163,164,165,166,167,168,169,170,171,172,173,174,175,191,192,193,194,999999]
         refine YO H (by kernel_rfl) (by kernel_rfl) ?_
         refine qg qd H (.v 4 (.bool false)<|.nil) [4,999999] fun u45 a w' H=>?_
         refine qF ?_
         obtain rfl:=sj G
         replace G:=Gj20
         obtain rfl:=sj G
         exact Qr H _ (by kernel_rfl) (by kernel_rfl)
        rw [if_neg c61] at G
        by_cases c62:z44=false
        ·rw [if_pos c62] at G; subst c62
         replace G:=gd G; obtain ⟨b45,G⟩:=G
         replace G:=qP G; obtain ⟨t46,ht46,G⟩:=G
         obtain ⟨p_t46_From,c_t46_From,p_t46_Pre,c_t46_Pre,p_t46_Tube,c_t46_Tube,p_t46_To,c_t46_To,y_t46⟩:=XD (XL qK (u16 3) 0 t17.1) ht46
         replace G:=gd G; obtain ⟨b47,G⟩:=G
         replace G:=qP G; obtain ⟨t48,ht48,G⟩:=G
         obtain ⟨p_t48_From,c_t48_From,p_t48_Pre,c_t48_Pre,p_t48_Tube,c_t48_Tube,p_t48_To,c_t48_To,y_t48⟩:=XD (XL qK (u14 3) 0 t15.1) ht48
         replace G:=qP G; obtain ⟨t49,ht49,G⟩:=G
         replace G:=qP G; obtain ⟨z50,hz50,G⟩:=G
         replace hz50:=Option.some.inj hz50
         by_cases c59:z50=true
         ·rw [if_pos c59] at G; subst c59
          refine ZC qd H (.v 106 (slgd_TSegment (u16 3) 0 t17.1) <|
 .v 107 (vI x23) <|
 .cons [108] (qn (fun u26=>.pointer (some ⟨Xf ((u16 3).o 0),Xg ((u16 3).o 0)+x23.toNat * 6,none⟩)) 108 (hv:=fun _ _=>qM (t:=31) (k:=.i64) (i:=x23) (p:=((u16 3).o 0)) (n:=(dlgd_TSegment (u16 3) 0 t17.1).length) (cap:=((u16 3).n 0)) (x:=t17.1) P29 (qT (XL qK (u16 3) 0 t17.1)) b27 (by kernel_rfl))) <|
 .v 109 (.pointer (some ⟨Xf ((u16 3).o 0),Xg ((u16 3).o 0)+x23.toNat * 6+0,none⟩)) <|
 .cons [110] (qG 193 (Qm 63 6 ((u16 3).o 0) ((u16 3).n 0) (dlgd_TSegment (u16 3) 0 t17.1) qo) (vI t28.T) 110 fun _ w h=>Ym qo (qw (Qe h)).2 qx y_t28 0 1 [vI t28.T]) <|
 .v 111 (slgd_TSegment (u14 3) 0 t15.1) <|
 .v 112 (vI x23) <|
 .cons [113] (qn (fun u26=>.pointer (some ⟨Xf ((u14 3).o 0),Xg ((u14 3).o 0)+x23.toNat * 6,none⟩)) 113 (hv:=fun _ _=>qM (t:=31) (k:=.i64) (i:=x23) (p:=((u14 3).o 0)) (n:=(dlgd_TSegment (u14 3) 0 t15.1).length) (cap:=((u14 3).n 0)) (x:=t15.1) P32 (qT (XL qK (u14 3) 0 t15.1)) b30 (by kernel_rfl))) <|
 .v 114 (.pointer (some ⟨Xf ((u14 3).o 0),Xg ((u14 3).o 0)+x23.toNat * 6+0,none⟩)) <|
 .cons [115] (qG 191 (Qm 63 6 ((u14 3).o 0) ((u14 3).n 0) (dlgd_TSegment (u14 3) 0 t15.1) qo) (vI t31.T) 115 fun _ w h=>Ym qo (qw (Qe h)).2 qx y_t31 0 1 [vI t31.T]) <|
 .v 116 (vI (qc (t28.T - t31.T))) <|
 .v 117 (.int .i8 a1) <|
 .v 118 (vI (qc a1)) <|
 .v 119 (vI (qc ((qc a1) * 65536))) <|
 .v 120 (.bool ((qc (t28.T - t31.T)) != (qc ((qc a1) * 65536)))) <|
 .cons [121] (QL (u':=fun u26=>[(121,sB false)]) (qn (fun u26=>.bool ((qc (t28.T - t31.T)) != (qc ((qc a1) * 65536)))) 121) (fun _=>by rw [hz33])) <|
 .cons [122] (Qh (qn (fun u26=>slgd_TSegment (u16 3) 0 t17.1) 122) (by intro _; kernel_rfl)) <|
 .cons [123] (Qh (qn (fun u26=>vI x23) 123) (by intro _; kernel_rfl)) <|
 .cons [124] (Qh (qn (fun u26=>.pointer (some ⟨Xf ((u16 3).o 0),Xg ((u16 3).o 0)+x23.toNat * 6,none⟩)) 124 (hv:=fun _ _=>qM (t:=31) (k:=.i64) (i:=x23) (p:=((u16 3).o 0)) (n:=(dlgd_TSegment (u16 3) 0 t17.1).length) (cap:=((u16 3).n 0)) (x:=t17.1) P29 (qT (XL qK (u16 3) 0 t17.1)) b34 (by kernel_rfl))) (by intro _; kernel_rfl)) <|
 .cons [125] (Qh (qn (fun u26=>.pointer (some ⟨Xf ((u16 3).o 0),Xg ((u16 3).o 0)+x23.toNat * 6+1,none⟩)) 125) (by intro _; kernel_rfl)) <|
 .cons [126] (Qh (qG 193 (Qm 63 6 ((u16 3).o 0) ((u16 3).n 0) (dlgd_TSegment (u16 3) 0 t17.1) qo) (vI t35.H) 126 fun _ w h=>Ym qo (qw (Qe h)).2 qx y_t35 1 1 [vI t35.H]) (by intro _; kernel_rfl)) <|
 .cons [127] (Qh (qn (fun u26=>slgd_TSegment (u14 3) 0 t15.1) 127) (by intro _; kernel_rfl)) <|
 .cons [128] (Qh (qn (fun u26=>vI x23) 128) (by intro _; kernel_rfl)) <|
 .cons [129] (Qh (qn (fun u26=>.pointer (some ⟨Xf ((u14 3).o 0),Xg ((u14 3).o 0)+x23.toNat * 6,none⟩)) 129 (hv:=fun _ _=>qM (t:=31) (k:=.i64) (i:=x23) (p:=((u14 3).o 0)) (n:=(dlgd_TSegment (u14 3) 0 t15.1).length) (cap:=((u14 3).n 0)) (x:=t15.1) P32 (qT (XL qK (u14 3) 0 t15.1)) b36 (by kernel_rfl))) (by intro _; kernel_rfl)) <|
 .cons [130] (Qh (qn (fun u26=>.pointer (some ⟨Xf ((u14 3).o 0),Xg ((u14 3).o 0)+x23.toNat * 6+1,none⟩)) 130) (by intro _; kernel_rfl)) <|
 .cons [131] (Qh (qG 191 (Qm 63 6 ((u14 3).o 0) ((u14 3).n 0) (dlgd_TSegment (u14 3) 0 t15.1) qo) (vI t37.H) 131 fun _ w h=>Ym qo (qw (Qe h)).2 qx y_t37 1 1 [vI t37.H]) (by intro _; kernel_rfl)) <|
 .cons [132] (Qh (qn (fun u26=>.bool (t35.H != t37.H)) 132) (by intro _; kernel_rfl)) <|
 .cons [133] (XJ (fun u26=>.bool (t35.H != t37.H)) 133) <|
 .cons [134] (QL (u':=fun u26=>[(134,sB false)]) (qn (fun u26=>.bool (t35.H != t37.H)) 134) (fun _=>by rw [hz38])) <|
 .cons [135] (Qh (qn (fun u26=>slgd_TSegment (u16 3) 0 t17.1) 135) (by intro _; kernel_rfl)) <|
 .cons [136] (Qh (qn (fun u26=>vI x23) 136) (by intro _; kernel_rfl)) <|
 .cons [137] (Qh (qn (fun u26=>.pointer (some ⟨Xf ((u16 3).o 0),Xg ((u16 3).o 0)+x23.toNat * 6,none⟩)) 137 (hv:=fun _ _=>qM (t:=31) (k:=.i64) (i:=x23) (p:=((u16 3).o 0)) (n:=(dlgd_TSegment (u16 3) 0 t17.1).length) (cap:=((u16 3).n 0)) (x:=t17.1) P29 (qT (XL qK (u16 3) 0 t17.1)) b39 (by kernel_rfl))) (by intro _; kernel_rfl)) <|
 .cons [138] (Qh (qn (fun u26=>.pointer (some ⟨Xf ((u16 3).o 0),Xg ((u16 3).o 0)+x23.toNat * 6+5,none⟩)) 138) (by intro _; kernel_rfl)) <|
 .cons [139] (Qh (qG 193 (Qm 63 6 ((u16 3).o 0) ((u16 3).n 0) (dlgd_TSegment (u16 3) 0 t17.1) qo) (.slice p_t40_To t40.To.length c_t40_To) 139 fun _ w h=>Ym qo (qw (Qe h)).2 qx y_t40 5 1 [.slice p_t40_To t40.To.length c_t40_To]) (by intro _; kernel_rfl)) <|
 .cons [140] (Qh (qn (fun u26=>slgd_TSegment (u14 3) 0 t15.1) 140) (by intro _; kernel_rfl)) <|
 .cons [141] (Qh (qn (fun u26=>vI x23) 141) (by intro _; kernel_rfl)) <|
 .cons [142] (Qh (qn (fun u26=>.pointer (some ⟨Xf ((u14 3).o 0),Xg ((u14 3).o 0)+x23.toNat * 6,none⟩)) 142 (hv:=fun _ _=>qM (t:=31) (k:=.i64) (i:=x23) (p:=((u14 3).o 0)) (n:=(dlgd_TSegment (u14 3) 0 t15.1).length) (cap:=((u14 3).n 0)) (x:=t15.1) P32 (qT (XL qK (u14 3) 0 t15.1)) b41 (by kernel_rfl))) (by intro _; kernel_rfl)) <|
 .cons [143] (Qh (qn (fun u26=>.pointer (some ⟨Xf ((u14 3).o 0),Xg ((u14 3).o 0)+x23.toNat * 6+5,none⟩)) 143) (by intro _; kernel_rfl)) <|
 .cons [144] (Qh (qG 191 (Qm 63 6 ((u14 3).o 0) ((u14 3).n 0) (dlgd_TSegment (u14 3) 0 t15.1) qo) (.slice p_t42_To t42.To.length c_t42_To) 144 fun _ w h=>Ym qo (qw (Qe h)).2 qx y_t42 5 1 [.slice p_t42_To t42.To.length c_t42_To]) (by intro _; kernel_rfl)) <|
 .cons [145] (Qh (QX [194,192] (fun u26=>[X7 fr qX.toPart (dlgd_TSegment (u16 3) 0 t17.1),X7 fr qX.toPart (dlgd_TSegment (u14 3) 0 t15.1)]) 17 _ _ 145 (fun u26 w hF=>qN.calls k0 t40.To t42.To p_t40_To c_t40_To p_t42_To c_t42_To t43 w  ⟨(Z9 (show XO _ 2 p_t40_To t40.To.length c_t40_To (t40.To.flatMap qa) from ((Xl hF.1) _ (List.mem_of_getElem? y_t40)).2.2.2.1)),(Z9 (show XO _ 2 p_t42_To t42.To.length c_t42_To (t42.To.flatMap qa) from ((Xl hF.2.1) _ (List.mem_of_getElem? y_t42)).2.2.2.1)),trivial⟩ ht43)) (by intro _; kernel_rfl)) <|
 .cons [146] (Qh (qn (fun u26=>.bool (!t43)) 146) (by intro _; kernel_rfl)) <|
 .cons [147] (XJ (fun u26=>.bool (!t43)) 147) <|
 .cons [148] (QL (u':=fun u26=>[(148,sB false)]) (qn (fun u26=>.bool (!t43)) 148) (fun _=>by rw [hz44])) <|
 .cons [149] (Qh (qn (fun u26=>slgd_TSegment (u16 3) 0 t17.1) 149) (by intro _; kernel_rfl)) <|
 .cons [150] (Qh (qn (fun u26=>vI x23) 150) (by intro _; kernel_rfl)) <|
 .cons [151] (Qh (qn (fun u26=>.pointer (some ⟨Xf ((u16 3).o 0),Xg ((u16 3).o 0)+x23.toNat * 6,none⟩)) 151 (hv:=fun _ _=>qM (t:=31) (k:=.i64) (i:=x23) (p:=((u16 3).o 0)) (n:=(dlgd_TSegment (u16 3) 0 t17.1).length) (cap:=((u16 3).n 0)) (x:=t17.1) P29 (qT (XL qK (u16 3) 0 t17.1)) b45 (by kernel_rfl))) (by intro _; kernel_rfl)) <|
 .cons [152] (Qh (qn (fun u26=>.pointer (some ⟨Xf ((u16 3).o 0),Xg ((u16 3).o 0)+x23.toNat * 6+4,none⟩)) 152) (by intro _; kernel_rfl)) <|
 .cons [153] (Qh (qG 193 (Qm 63 6 ((u16 3).o 0) ((u16 3).n 0) (dlgd_TSegment (u16 3) 0 t17.1) qo) (.slice p_t46_Tube t46.Tube.length c_t46_Tube) 153 fun _ w h=>Ym qo (qw (Qe h)).2 qx y_t46 4 1 [.slice p_t46_Tube t46.Tube.length c_t46_Tube]) (by intro _; kernel_rfl)) <|
 .cons [154] (Qh (qn (fun u26=>slgd_TSegment (u14 3) 0 t15.1) 154) (by intro _; kernel_rfl)) <|
 .cons [155] (Qh (qn (fun u26=>vI x23) 155) (by intro _; kernel_rfl)) <|
 .cons [156] (Qh (qn (fun u26=>.pointer (some ⟨Xf ((u14 3).o 0),Xg ((u14 3).o 0)+x23.toNat * 6,none⟩)) 156 (hv:=fun _ _=>qM (t:=31) (k:=.i64) (i:=x23) (p:=((u14 3).o 0)) (n:=(dlgd_TSegment (u14 3) 0 t15.1).length) (cap:=((u14 3).n 0)) (x:=t15.1) P32 (qT (XL qK (u14 3) 0 t15.1)) b47 (by kernel_rfl))) (by intro _; kernel_rfl)) <|
 .cons [157] (Qh (qn (fun u26=>.pointer (some ⟨Xf ((u14 3).o 0),Xg ((u14 3).o 0)+x23.toNat * 6+4,none⟩)) 157) (by intro _; kernel_rfl)) <|
 .cons [158] (Qh (qG 191 (Qm 63 6 ((u14 3).o 0) ((u14 3).n 0) (dlgd_TSegment (u14 3) 0 t15.1) qo) (.slice p_t48_Tube t48.Tube.length c_t48_Tube) 158 fun _ w h=>Ym qo (qw (Qe h)).2 qx y_t48 4 1 [.slice p_t48_Tube t48.Tube.length c_t48_Tube]) (by intro _; kernel_rfl)) <|
 .cons [159] (Qh (QX [194,192] (fun u26=>[X7 fr qX.toPart (dlgd_TSegment (u16 3) 0 t17.1),X7 fr qX.toPart (dlgd_TSegment (u14 3) 0 t15.1)]) 17 _ _ 159 (fun u26 w hF=>qN.calls k0 t46.Tube t48.Tube p_t46_Tube c_t46_Tube p_t48_Tube c_t48_Tube t49 w  ⟨(Z9 (show XO _ 2 p_t46_Tube t46.Tube.length c_t46_Tube (t46.Tube.flatMap qa) from ((Xl hF.1) _ (List.mem_of_getElem? y_t46)).2.2.1.1)),(Z9 (show XO _ 2 p_t48_Tube t48.Tube.length c_t48_Tube (t48.Tube.flatMap qa) from ((Xl hF.2.1) _ (List.mem_of_getElem? y_t48)).2.2.1.1)),trivial⟩ ht49)) (by intro _; kernel_rfl)) <|
 .cons [160] (Qh (qn (fun u26=>.bool (!t49)) 160) (by intro _; kernel_rfl)) <|
 .cons [161] (XJ (fun u26=>.bool (!t49)) 161) <|
 .cons [162] (QL (u':=fun u26=>[(162,sB true)]) (qn (fun u26=>.bool (!t49)) 162) (fun _=>by rw [hz50])) <|
 .cons [163] (qA 163) <|
 .cons [164] (qA 164) <|
 .cons [165] (qA 165) <|
 .cons [166] (qA 166) <|
 .cons [167] (qA 167) <|
 .cons [168] (qA 168) <|
 .cons [169] (qA 169) <|
 .cons [170] (qA 170) <|
 .cons [171] (qA 171) <|
 .cons [172] (qA 172) <|
 .cons [173] (qA 173) <|
 .cons [174] (qA 174) <|
 .cons [175] (XJ (fun u26=>.bool true) 175)<|.nil) (by kernel_rfl) fun u26 a w' H=>?_
          replace H:=H.kp [1,5,13,15,17,122,123,124,125,126,127,128,129,130,131,132,135,136,137,138,139,140,141,142,143,144,145,146,149,150,151,152,153,154,155,156,157,158,159,160,163,164,165,166,167,168,169,170,171,172,173,174,175,191,192,193,194,999999]
          refine YO H (by kernel_rfl) (by kernel_rfl) ?_
          refine qg qd H (.v 4 (.bool false)<|.nil) [4,999999] fun u51 a w' H=>?_
          refine qF ?_
          obtain rfl:=sj G
          replace G:=Gj20
          obtain rfl:=sj G
          exact Qr H _ (by kernel_rfl) (by kernel_rfl)
         rw [if_neg c59] at G
         by_cases c60:z50=false
         ·rw [if_pos c60] at G; subst c60
          replace G:=gd G; obtain ⟨b51,G⟩:=G
          replace G:=qP G; obtain ⟨t52,ht52,G⟩:=G
          obtain ⟨p_t52_From,c_t52_From,p_t52_Pre,c_t52_Pre,p_t52_Tube,c_t52_Tube,p_t52_To,c_t52_To,y_t52⟩:=XD (XL qK (u16 3) 0 t17.1) ht52
          replace G:=gd G; obtain ⟨b53,G⟩:=G
          replace G:=qP G; obtain ⟨t54,ht54,G⟩:=G
          obtain ⟨p_t54_From,c_t54_From,p_t54_Pre,c_t54_Pre,p_t54_Tube,c_t54_Tube,p_t54_To,c_t54_To,y_t54⟩:=XD (XL qK (u14 3) 0 t15.1) ht54
          replace G:=qP G; obtain ⟨t55,ht55,G⟩:=G
          refine ZC qd H (.v 106 (slgd_TSegment (u16 3) 0 t17.1) <|
 .v 107 (vI x23) <|
 .cons [108] (qn (fun u26=>.pointer (some ⟨Xf ((u16 3).o 0),Xg ((u16 3).o 0)+x23.toNat * 6,none⟩)) 108 (hv:=fun _ _=>qM (t:=31) (k:=.i64) (i:=x23) (p:=((u16 3).o 0)) (n:=(dlgd_TSegment (u16 3) 0 t17.1).length) (cap:=((u16 3).n 0)) (x:=t17.1) P29 (qT (XL qK (u16 3) 0 t17.1)) b27 (by kernel_rfl))) <|
 .v 109 (.pointer (some ⟨Xf ((u16 3).o 0),Xg ((u16 3).o 0)+x23.toNat * 6+0,none⟩)) <|
 .cons [110] (qG 193 (Qm 63 6 ((u16 3).o 0) ((u16 3).n 0) (dlgd_TSegment (u16 3) 0 t17.1) qo) (vI t28.T) 110 fun _ w h=>Ym qo (qw (Qe h)).2 qx y_t28 0 1 [vI t28.T]) <|
 .v 111 (slgd_TSegment (u14 3) 0 t15.1) <|
 .v 112 (vI x23) <|
 .cons [113] (qn (fun u26=>.pointer (some ⟨Xf ((u14 3).o 0),Xg ((u14 3).o 0)+x23.toNat * 6,none⟩)) 113 (hv:=fun _ _=>qM (t:=31) (k:=.i64) (i:=x23) (p:=((u14 3).o 0)) (n:=(dlgd_TSegment (u14 3) 0 t15.1).length) (cap:=((u14 3).n 0)) (x:=t15.1) P32 (qT (XL qK (u14 3) 0 t15.1)) b30 (by kernel_rfl))) <|
 .v 114 (.pointer (some ⟨Xf ((u14 3).o 0),Xg ((u14 3).o 0)+x23.toNat * 6+0,none⟩)) <|
 .cons [115] (qG 191 (Qm 63 6 ((u14 3).o 0) ((u14 3).n 0) (dlgd_TSegment (u14 3) 0 t15.1) qo) (vI t31.T) 115 fun _ w h=>Ym qo (qw (Qe h)).2 qx y_t31 0 1 [vI t31.T]) <|
 .v 116 (vI (qc (t28.T - t31.T))) <|
 .v 117 (.int .i8 a1) <|
 .v 118 (vI (qc a1)) <|
 .v 119 (vI (qc ((qc a1) * 65536))) <|
 .v 120 (.bool ((qc (t28.T - t31.T)) != (qc ((qc a1) * 65536)))) <|
 .cons [121] (QL (u':=fun u26=>[(121,sB false)]) (qn (fun u26=>.bool ((qc (t28.T - t31.T)) != (qc ((qc a1) * 65536)))) 121) (fun _=>by rw [hz33])) <|
 .cons [122] (Qh (qn (fun u26=>slgd_TSegment (u16 3) 0 t17.1) 122) (by intro _; kernel_rfl)) <|
 .cons [123] (Qh (qn (fun u26=>vI x23) 123) (by intro _; kernel_rfl)) <|
 .cons [124] (Qh (qn (fun u26=>.pointer (some ⟨Xf ((u16 3).o 0),Xg ((u16 3).o 0)+x23.toNat * 6,none⟩)) 124 (hv:=fun _ _=>qM (t:=31) (k:=.i64) (i:=x23) (p:=((u16 3).o 0)) (n:=(dlgd_TSegment (u16 3) 0 t17.1).length) (cap:=((u16 3).n 0)) (x:=t17.1) P29 (qT (XL qK (u16 3) 0 t17.1)) b34 (by kernel_rfl))) (by intro _; kernel_rfl)) <|
 .cons [125] (Qh (qn (fun u26=>.pointer (some ⟨Xf ((u16 3).o 0),Xg ((u16 3).o 0)+x23.toNat * 6+1,none⟩)) 125) (by intro _; kernel_rfl)) <|
 .cons [126] (Qh (qG 193 (Qm 63 6 ((u16 3).o 0) ((u16 3).n 0) (dlgd_TSegment (u16 3) 0 t17.1) qo) (vI t35.H) 126 fun _ w h=>Ym qo (qw (Qe h)).2 qx y_t35 1 1 [vI t35.H]) (by intro _; kernel_rfl)) <|
 .cons [127] (Qh (qn (fun u26=>slgd_TSegment (u14 3) 0 t15.1) 127) (by intro _; kernel_rfl)) <|
 .cons [128] (Qh (qn (fun u26=>vI x23) 128) (by intro _; kernel_rfl)) <|
 .cons [129] (Qh (qn (fun u26=>.pointer (some ⟨Xf ((u14 3).o 0),Xg ((u14 3).o 0)+x23.toNat * 6,none⟩)) 129 (hv:=fun _ _=>qM (t:=31) (k:=.i64) (i:=x23) (p:=((u14 3).o 0)) (n:=(dlgd_TSegment (u14 3) 0 t15.1).length) (cap:=((u14 3).n 0)) (x:=t15.1) P32 (qT (XL qK (u14 3) 0 t15.1)) b36 (by kernel_rfl))) (by intro _; kernel_rfl)) <|
 .cons [130] (Qh (qn (fun u26=>.pointer (some ⟨Xf ((u14 3).o 0),Xg ((u14 3).o 0)+x23.toNat * 6+1,none⟩)) 130) (by intro _; kernel_rfl)) <|
 .cons [131] (Qh (qG 191 (Qm 63 6 ((u14 3).o 0) ((u14 3).n 0) (dlgd_TSegment (u14 3) 0 t15.1) qo) (vI t37.H) 131 fun _ w h=>Ym qo (qw (Qe h)).2 qx y_t37 1 1 [vI t37.H]) (by intro _; kernel_rfl)) <|
 .cons [132] (Qh (qn (fun u26=>.bool (t35.H != t37.H)) 132) (by intro _; kernel_rfl)) <|
 .cons [133] (XJ (fun u26=>.bool (t35.H != t37.H)) 133) <|
 .cons [134] (QL (u':=fun u26=>[(134,sB false)]) (qn (fun u26=>.bool (t35.H != t37.H)) 134) (fun _=>by rw [hz38])) <|
 .cons [135] (Qh (qn (fun u26=>slgd_TSegment (u16 3) 0 t17.1) 135) (by intro _; kernel_rfl)) <|
 .cons [136] (Qh (qn (fun u26=>vI x23) 136) (by intro _; kernel_rfl)) <|
 .cons [137] (Qh (qn (fun u26=>.pointer (some ⟨Xf ((u16 3).o 0),Xg ((u16 3).o 0)+x23.toNat * 6,none⟩)) 137 (hv:=fun _ _=>qM (t:=31) (k:=.i64) (i:=x23) (p:=((u16 3).o 0)) (n:=(dlgd_TSegment (u16 3) 0 t17.1).length) (cap:=((u16 3).n 0)) (x:=t17.1) P29 (qT (XL qK (u16 3) 0 t17.1)) b39 (by kernel_rfl))) (by intro _; kernel_rfl)) <|
 .cons [138] (Qh (qn (fun u26=>.pointer (some ⟨Xf ((u16 3).o 0),Xg ((u16 3).o 0)+x23.toNat * 6+5,none⟩)) 138) (by intro _; kernel_rfl)) <|
 .cons [139] (Qh (qG 193 (Qm 63 6 ((u16 3).o 0) ((u16 3).n 0) (dlgd_TSegment (u16 3) 0 t17.1) qo) (.slice p_t40_To t40.To.length c_t40_To) 139 fun _ w h=>Ym qo (qw (Qe h)).2 qx y_t40 5 1 [.slice p_t40_To t40.To.length c_t40_To]) (by intro _; kernel_rfl)) <|
 .cons [140] (Qh (qn (fun u26=>slgd_TSegment (u14 3) 0 t15.1) 140) (by intro _; kernel_rfl)) <|
 .cons [141] (Qh (qn (fun u26=>vI x23) 141) (by intro _; kernel_rfl)) <|
 .cons [142] (Qh (qn (fun u26=>.pointer (some ⟨Xf ((u14 3).o 0),Xg ((u14 3).o 0)+x23.toNat * 6,none⟩)) 142 (hv:=fun _ _=>qM (t:=31) (k:=.i64) (i:=x23) (p:=((u14 3).o 0)) (n:=(dlgd_TSegment (u14 3) 0 t15.1).length) (cap:=((u14 3).n 0)) (x:=t15.1) P32 (qT (XL qK (u14 3) 0 t15.1)) b41 (by kernel_rfl))) (by intro _; kernel_rfl)) <|
 .cons [143] (Qh (qn (fun u26=>.pointer (some ⟨Xf ((u14 3).o 0),Xg ((u14 3).o 0)+x23.toNat * 6+5,none⟩)) 143) (by intro _; kernel_rfl)) <|
 .cons [144] (Qh (qG 191 (Qm 63 6 ((u14 3).o 0) ((u14 3).n 0) (dlgd_TSegment (u14 3) 0 t15.1) qo) (.slice p_t42_To t42.To.length c_t42_To) 144 fun _ w h=>Ym qo (qw (Qe h)).2 qx y_t42 5 1 [.slice p_t42_To t42.To.length c_t42_To]) (by intro _; kernel_rfl)) <|
 .cons [145] (Qh (QX [194,192] (fun u26=>[X7 fr qX.toPart (dlgd_TSegment (u16 3) 0 t17.1),X7 fr qX.toPart (dlgd_TSegment (u14 3) 0 t15.1)]) 17 _ _ 145 (fun u26 w hF=>qN.calls k0 t40.To t42.To p_t40_To c_t40_To p_t42_To c_t42_To t43 w  ⟨(Z9 (show XO _ 2 p_t40_To t40.To.length c_t40_To (t40.To.flatMap qa) from ((Xl hF.1) _ (List.mem_of_getElem? y_t40)).2.2.2.1)),(Z9 (show XO _ 2 p_t42_To t42.To.length c_t42_To (t42.To.flatMap qa) from ((Xl hF.2.1) _ (List.mem_of_getElem? y_t42)).2.2.2.1)),trivial⟩ ht43)) (by intro _; kernel_rfl)) <|
 .cons [146] (Qh (qn (fun u26=>.bool (!t43)) 146) (by intro _; kernel_rfl)) <|
 .cons [147] (XJ (fun u26=>.bool (!t43)) 147) <|
 .cons [148] (QL (u':=fun u26=>[(148,sB false)]) (qn (fun u26=>.bool (!t43)) 148) (fun _=>by rw [hz44])) <|
 .cons [149] (Qh (qn (fun u26=>slgd_TSegment (u16 3) 0 t17.1) 149) (by intro _; kernel_rfl)) <|
 .cons [150] (Qh (qn (fun u26=>vI x23) 150) (by intro _; kernel_rfl)) <|
 .cons [151] (Qh (qn (fun u26=>.pointer (some ⟨Xf ((u16 3).o 0),Xg ((u16 3).o 0)+x23.toNat * 6,none⟩)) 151 (hv:=fun _ _=>qM (t:=31) (k:=.i64) (i:=x23) (p:=((u16 3).o 0)) (n:=(dlgd_TSegment (u16 3) 0 t17.1).length) (cap:=((u16 3).n 0)) (x:=t17.1) P29 (qT (XL qK (u16 3) 0 t17.1)) b45 (by kernel_rfl))) (by intro _; kernel_rfl)) <|
 .cons [152] (Qh (qn (fun u26=>.pointer (some ⟨Xf ((u16 3).o 0),Xg ((u16 3).o 0)+x23.toNat * 6+4,none⟩)) 152) (by intro _; kernel_rfl)) <|
 .cons [153] (Qh (qG 193 (Qm 63 6 ((u16 3).o 0) ((u16 3).n 0) (dlgd_TSegment (u16 3) 0 t17.1) qo) (.slice p_t46_Tube t46.Tube.length c_t46_Tube) 153 fun _ w h=>Ym qo (qw (Qe h)).2 qx y_t46 4 1 [.slice p_t46_Tube t46.Tube.length c_t46_Tube]) (by intro _; kernel_rfl)) <|
 .cons [154] (Qh (qn (fun u26=>slgd_TSegment (u14 3) 0 t15.1) 154) (by intro _; kernel_rfl)) <|
 .cons [155] (Qh (qn (fun u26=>vI x23) 155) (by intro _; kernel_rfl)) <|
 .cons [156] (Qh (qn (fun u26=>.pointer (some ⟨Xf ((u14 3).o 0),Xg ((u14 3).o 0)+x23.toNat * 6,none⟩)) 156 (hv:=fun _ _=>qM (t:=31) (k:=.i64) (i:=x23) (p:=((u14 3).o 0)) (n:=(dlgd_TSegment (u14 3) 0 t15.1).length) (cap:=((u14 3).n 0)) (x:=t15.1) P32 (qT (XL qK (u14 3) 0 t15.1)) b47 (by kernel_rfl))) (by intro _; kernel_rfl)) <|
 .cons [157] (Qh (qn (fun u26=>.pointer (some ⟨Xf ((u14 3).o 0),Xg ((u14 3).o 0)+x23.toNat * 6+4,none⟩)) 157) (by intro _; kernel_rfl)) <|
 .cons [158] (Qh (qG 191 (Qm 63 6 ((u14 3).o 0) ((u14 3).n 0) (dlgd_TSegment (u14 3) 0 t15.1) qo) (.slice p_t48_Tube t48.Tube.length c_t48_Tube) 158 fun _ w h=>Ym qo (qw (Qe h)).2 qx y_t48 4 1 [.slice p_t48_Tube t48.Tube.length c_t48_Tube]) (by intro _; kernel_rfl)) <|
 .cons [159] (Qh (QX [194,192] (fun u26=>[X7 fr qX.toPart (dlgd_TSegment (u16 3) 0 t17.1),X7 fr qX.toPart (dlgd_TSegment (u14 3) 0 t15.1)]) 17 _ _ 159 (fun u26 w hF=>qN.calls k0 t46.Tube t48.Tube p_t46_Tube c_t46_Tube p_t48_Tube c_t48_Tube t49 w  ⟨(Z9 (show XO _ 2 p_t46_Tube t46.Tube.length c_t46_Tube (t46.Tube.flatMap qa) from ((Xl hF.1) _ (List.mem_of_getElem? y_t46)).2.2.1.1)),(Z9 (show XO _ 2 p_t48_Tube t48.Tube.length c_t48_Tube (t48.Tube.flatMap qa) from ((Xl hF.2.1) _ (List.mem_of_getElem? y_t48)).2.2.1.1)),trivial⟩ ht49)) (by intro _; kernel_rfl)) <|
 .cons [160] (Qh (qn (fun u26=>.bool (!t49)) 160) (by intro _; kernel_rfl)) <|
 .cons [161] (XJ (fun u26=>.bool (!t49)) 161) <|
 .cons [162] (QL (u':=fun u26=>[(162,sB false)]) (qn (fun u26=>.bool (!t49)) 162) (fun _=>by rw [hz50])) <|
 .cons [163] (Qh (qn (fun u26=>slgd_TSegment (u16 3) 0 t17.1) 163) (by intro _; kernel_rfl)) <|
 .cons [164] (Qh (qn (fun u26=>vI x23) 164) (by intro _; kernel_rfl)) <|
 .cons [165] (Qh (qn (fun u26=>.pointer (some ⟨Xf ((u16 3).o 0),Xg ((u16 3).o 0)+x23.toNat * 6,none⟩)) 165 (hv:=fun _ _=>qM (t:=31) (k:=.i64) (i:=x23) (p:=((u16 3).o 0)) (n:=(dlgd_TSegment (u16 3) 0 t17.1).length) (cap:=((u16 3).n 0)) (x:=t17.1) P29 (qT (XL qK (u16 3) 0 t17.1)) b51 (by kernel_rfl))) (by intro _; kernel_rfl)) <|
 .cons [166] (Qh (qn (fun u26=>.pointer (some ⟨Xf ((u16 3).o 0),Xg ((u16 3).o 0)+x23.toNat * 6+3,none⟩)) 166) (by intro _; kernel_rfl)) <|
 .cons [167] (Qh (qG 193 (Qm 63 6 ((u16 3).o 0) ((u16 3).n 0) (dlgd_TSegment (u16 3) 0 t17.1) qo) (.slice p_t52_Pre t52.Pre.length c_t52_Pre) 167 fun _ w h=>Ym qo (qw (Qe h)).2 qx y_t52 3 1 [.slice p_t52_Pre t52.Pre.length c_t52_Pre]) (by intro _; kernel_rfl)) <|
 .cons [168] (Qh (qn (fun u26=>slgd_TSegment (u14 3) 0 t15.1) 168) (by intro _; kernel_rfl)) <|
 .cons [169] (Qh (qn (fun u26=>vI x23) 169) (by intro _; kernel_rfl)) <|
 .cons [170] (Qh (qn (fun u26=>.pointer (some ⟨Xf ((u14 3).o 0),Xg ((u14 3).o 0)+x23.toNat * 6,none⟩)) 170 (hv:=fun _ _=>qM (t:=31) (k:=.i64) (i:=x23) (p:=((u14 3).o 0)) (n:=(dlgd_TSegment (u14 3) 0 t15.1).length) (cap:=((u14 3).n 0)) (x:=t15.1) P32 (qT (XL qK (u14 3) 0 t15.1)) b53 (by kernel_rfl))) (by intro _; kernel_rfl)) <|
 .cons [171] (Qh (qn (fun u26=>.pointer (some ⟨Xf ((u14 3).o 0),Xg ((u14 3).o 0)+x23.toNat * 6+3,none⟩)) 171) (by intro _; kernel_rfl)) <|
 .cons [172] (Qh (qG 191 (Qm 63 6 ((u14 3).o 0) ((u14 3).n 0) (dlgd_TSegment (u14 3) 0 t15.1) qo) (.slice p_t54_Pre t54.Pre.length c_t54_Pre) 172 fun _ w h=>Ym qo (qw (Qe h)).2 qx y_t54 3 1 [.slice p_t54_Pre t54.Pre.length c_t54_Pre]) (by intro _; kernel_rfl)) <|
 .cons [173] (Qh (QX [194,192] (fun u26=>[X7 fr qX.toPart (dlgd_TSegment (u16 3) 0 t17.1),X7 fr qX.toPart (dlgd_TSegment (u14 3) 0 t15.1)]) 17 _ _ 173 (fun u26 w hF=>qN.calls k0 t52.Pre t54.Pre p_t52_Pre c_t52_Pre p_t54_Pre c_t54_Pre t55 w  ⟨(Z9 (show XO _ 2 p_t52_Pre t52.Pre.length c_t52_Pre (t52.Pre.flatMap qa) from ((Xl hF.1) _ (List.mem_of_getElem? y_t52)).2.1.1)),(Z9 (show XO _ 2 p_t54_Pre t54.Pre.length c_t54_Pre (t54.Pre.flatMap qa) from ((Xl hF.2.1) _ (List.mem_of_getElem? y_t54)).2.1.1)),trivial⟩ ht55)) (by intro _; kernel_rfl)) <|
 .cons [174] (Qh (qn (fun u26=>.bool (!t55)) 174) (by intro _; kernel_rfl)) <|
 .cons [175] (XJ (fun u26=>.bool (!t55)) 175)<|.nil) (by kernel_rfl) fun u26 a w' H=>?_
          replace H:=H.kp [1,5,13,15,17,122,123,124,125,126,127,128,129,130,131,132,135,136,137,138,139,140,141,142,143,144,145,146,149,150,151,152,153,154,155,156,157,158,159,160,163,164,165,166,167,168,169,170,171,172,173,174,175,191,192,193,194,999999]
          refine Qx H (!t55) (fun c58=>?_) fun c58=>?_
          ·rw [if_pos c58] at G
           refine qg qd H (.v 4 (.bool false)<|.nil) [4,999999] fun u56 a w' H=>?_
           refine qF ?_
           obtain rfl:=sj G
           replace G:=Gj20
           obtain rfl:=sj G
           exact Qr H _ (by kernel_rfl) (by kernel_rfl)
          ·rw [if_neg (nt c58)] at G
           refine Qf ?_
           refine Qt qd H (.v 104 (vI x23) <|
 .v 105 (vI (qc (x23+1))) <|
 .v 17 (vI (qc (x23+1)))<|.nil) [1,5,13,15,17,122,123,124,125,126,127,128,129,130,131,132,135,136,137,138,139,140,141,142,143,144,145,146,149,150,151,152,153,154,155,156,157,158,159,160,163,164,165,166,167,168,169,170,171,172,173,174,191,192,193,194,999999] fun u57 a w' H=>?_
           exact ⟨k,Nat.lt_succ_self k,_,G,H.toM _⟩
         rw [if_neg c60] at G
         cases G
        rw [if_neg c62] at G
        cases G
       rw [if_neg c64] at G
       cases G
      rw [if_neg c66] at G
      cases G
     ·rw [if_neg (nt c67)] at G
      refine Yk rfl ?_
      obtain rfl:=sj G
      exact ⟨_,rfl,H.toM _⟩
 ·clear G; replace G:=hj7; clear hj7
  refine qg qd H (.v 8 (vI 0)<|.nil) [1,2,5,6,7,8,177,178,179,180,181,182,183,184,185,999999] fun u69 a w' H=>?_
  refine q6 ?_
  replace H:=H.move (K:=ns_en_TNodeg (u4 1) 1 t5.1.F) 183 900083 (by kernel_rfl) (by intro _ _ h; cases h)
  refine XP (fun m a w'=>∃ x70:List (List qu),∃ x71:Int,qp.l72 k0 a0 a1 t3 t5 m x70 x71=some j7 ∧ ∃ (p_x70:Option Addr) (c_x70 np_x70:Nat) (L_x70:List (Sl qu)),np_x70=L_x70.length∧x70=L_x70.map Sl.l∧RL w 177 [(1,.slot true (.int .i8 a1)),(2,(sP ((u1 0).n 0) 0)),(5,sB t3),(6,(sP ((u4 5).n 0) 0)),(7,(sS ((u4 1).o 2) t5.2.length ((u4 1).n 2))),(8,sI x71),(177,qB qk 1 p_a0_L c_a0_L L_a0_L Qs),(178,X7 qk QQ.toPart L_a0_L),(179,qB qk 2 p_a0_X c_a0_X a0.X qa),(180,qB qk 1 p_a0_S c_a0_S a0.S JA),(181,.blk ((u1 0).n 0) [.slice p_a0_L L_a0_L.length c_a0_L,.slice p_a0_X a0.X.length c_a0_X,vI a0.T.Lo,vI a0.T.Hi,vI a0.G.T,vI a0.G.H,.int .u8 a0.N,.int .u8 a0.K,.slice p_a0_S a0.S.length c_a0_S] 56),(182,Qm 9 1 ((u4 1).o 0) ((u4 1).n 0) t5.1.Names YE),(184,Qm 46 2 ((u4 1).o 2) ((u4 1).n 2) t5.2 qa),(185,.blk ((u4 5).n 0) [.slice ((u4 1).o 0) t5.1.Names.length ((u4 1).n 0),.slice p_x70 np_x70 c_x70] 43),(900083,Zc p_x70 np_x70 c_x70 L_x70),(999999,gk)] a w') k0 ⟨_,_,G,((u4 1).o 1),((u4 1).n 1),(dlgd_S_TNode (u4 1) 1 t5.1.F).length,(dlgd_S_TNode (u4 1) 1 t5.1.F),rfl,(XL ZJ (u4 1) 1 t5.1.F),H.toM _⟩ ?_
  clear G H
  rintro (_ | k) a w' ⟨x70,x71,G,p_x70,c_x70,_,L_x70,rfl,h_x70,H⟩
  ·exact absurd G (by unfold qp.l72; exact fun h=>by cases h)
  ·unfold qp.l72 at G
   refine qv ?_
   refine qg qd H (.v 24 (vI x71) <|
 .v 25 (vP ((u4 5).n 0) 1) <|
 .cons [26] (qf (.slice p_x70 L_x70.length c_x70) 26 185 1 1 ((u4 5).n 0) [.slice ((u4 1).o 0) t5.1.Names.length ((u4 1).n 0),.slice p_x70 L_x70.length c_x70] 43) <|
 .cons [27] (qG 900083 (Xd p_x70 c_x70 L_x70) (vI (x70.length:Int)) 27 fun _ w h=>Yt (((XS h).row.2.len qR (by decide)).trans (qT h_x70).symm) (by kernel_rfl)) <|
 .v 28 (.bool (decide (x71<(x70.length:Int))))<|.nil) [1,2,5,6,7,8,28,177,178,179,180,181,182,184,185,900083,999999] fun u73 a w' H=>?_
   refine Qx H (decide (x71<(x70.length:Int))) (fun c99=>?_) fun c99=>?_
   ·rw [if_pos c99] at G
    refine Qf ?_
    refine qv ?_
    replace G:=qP G; obtain ⟨j75,hj75,G⟩:=G
    refine Xq (fun a w'=>∃ (p_j74:Option Addr) (c_j74 np_j74:Nat) (L_j74:List (Sl qu)),np_j74=L_j74.length∧j75=L_j74.map Sl.l∧RL w 177 [(1,.slot true (.int .i8 a1)),(2,(sP ((u1 0).n 0) 0)),(5,sB t3),(6,(sP ((u4 5).n 0) 0)),(7,(sS ((u4 1).o 2) t5.2.length ((u4 1).n 2))),(8,sI x71),(177,qB qk 1 p_a0_L c_a0_L L_a0_L Qs),(178,X7 qk QQ.toPart L_a0_L),(179,qB qk 2 p_a0_X c_a0_X a0.X qa),(180,qB qk 1 p_a0_S c_a0_S a0.S JA),(181,.blk ((u1 0).n 0) [.slice p_a0_L L_a0_L.length c_a0_L,.slice p_a0_X a0.X.length c_a0_X,vI a0.T.Lo,vI a0.T.Hi,vI a0.G.T,vI a0.G.H,.int .u8 a0.N,.int .u8 a0.K,.slice p_a0_S a0.S.length c_a0_S] 56),(182,Qm 9 1 ((u4 1).o 0) ((u4 1).n 0) t5.1.Names YE),(184,Qm 46 2 ((u4 1).o 2) ((u4 1).n 2) t5.2 qa),(185,.blk ((u4 5).n 0) [.slice ((u4 1).o 0) t5.1.Names.length ((u4 1).n 0),.slice p_j74 np_j74 c_j74] 43),(900085,Zc p_j74 np_j74 c_j74 L_j74),(999999,gk)] a w') ?_ ?_
    ·clear H; rintro a w' ⟨p_j74,c_j74,_,L_j74,rfl,h_j74,H⟩
     refine Qt qd H (.v 29 (vI x71) <|
 .v 30 (vI (qc (x71+1))) <|
 .v 8 (vI (qc (x71+1)))<|.nil) [1,2,5,6,7,8,177,178,179,180,181,182,184,185,900085,999999] fun u76 a w' H=>?_
     replace H:=H.move (K:=Xd p_j74 c_j74 L_j74) 900085 900083 (by kernel_rfl) (by intro _ _ h; cases h)
     exact ⟨k,Nat.lt_succ_self k,_,_,G,p_j74,c_j74,L_j74.length,L_j74,rfl,h_j74,H.toM _⟩
    ·clear G; replace G:=hj75; clear hj75
     refine q6 ?_
     refine qg qd H (.v 9 (vI 0)<|.nil) [1,2,5,6,7,8,9,177,178,179,180,181,182,184,185,900083,999999] fun u77 a w' H=>?_
     refine q6 ?_
     replace H:=H.move (K:=Xd p_x70 c_x70 L_x70) 900083 900087 (by kernel_rfl) (by intro _ _ h; cases h)
     refine XP (fun m a w'=>∃ x78:List (List qu),∃ x79:Int,qp.l80 k0 a0 a1 t3 t5 x70 x71 m x78 x79=some j75 ∧ ∃ (p_x78:Option Addr) (c_x78 np_x78:Nat) (L_x78:List (Sl qu)),np_x78=L_x78.length∧x78=L_x78.map Sl.l∧RL w 177 [(1,.slot true (.int .i8 a1)),(2,(sP ((u1 0).n 0) 0)),(5,sB t3),(6,(sP ((u4 5).n 0) 0)),(7,(sS ((u4 1).o 2) t5.2.length ((u4 1).n 2))),(8,sI x71),(9,sI x79),(177,qB qk 1 p_a0_L c_a0_L L_a0_L Qs),(178,X7 qk QQ.toPart L_a0_L),(179,qB qk 2 p_a0_X c_a0_X a0.X qa),(180,qB qk 1 p_a0_S c_a0_S a0.S JA),(181,.blk ((u1 0).n 0) [.slice p_a0_L L_a0_L.length c_a0_L,.slice p_a0_X a0.X.length c_a0_X,vI a0.T.Lo,vI a0.T.Hi,vI a0.G.T,vI a0.G.H,.int .u8 a0.N,.int .u8 a0.K,.slice p_a0_S a0.S.length c_a0_S] 56),(182,Qm 9 1 ((u4 1).o 0) ((u4 1).n 0) t5.1.Names YE),(184,Qm 46 2 ((u4 1).o 2) ((u4 1).n 2) t5.2 qa),(185,.blk ((u4 5).n 0) [.slice ((u4 1).o 0) t5.1.Names.length ((u4 1).n 0),.slice p_x78 np_x78 c_x78] 43),(900087,Zc p_x78 np_x78 c_x78 L_x78),(999999,gk)] a w') k0 ⟨_,_,G,p_x70,c_x70,L_x70.length,L_x70,rfl,h_x70,H.toM _⟩ ?_
     clear G H
     rintro (_ | k) a w' ⟨x78,x79,G,p_x78,c_x78,_,L_x78,rfl,h_x78,H⟩
     ·exact absurd G (by unfold qp.l80; exact fun h=>by cases h)
     ·unfold qp.l80 at G
      refine qv ?_
      refine qv ?_
      replace G:=gd G; obtain ⟨b82,G⟩:=G
      replace G:=qP G; obtain ⟨t83,ht83,G⟩:=G
      obtain ⟨p_t83,c_t83,y_t83⟩:=Yf h_x78 ht83
      refine Qt qd H (.v 31 (vI x79) <|
 .v 32 (vP ((u4 5).n 0) 1) <|
 .cons [33] (qf (.slice p_x78 L_x78.length c_x78) 33 185 1 1 ((u4 5).n 0) [.slice ((u4 1).o 0) t5.1.Names.length ((u4 1).n 0),.slice p_x78 L_x78.length c_x78] 43) <|
 .v 34 (vI x71) <|
 .cons [35] (qG 900087 (Xd p_x78 c_x78 L_x78) (.pointer (some ⟨Xf p_x78,Xg p_x78+x71.toNat * 1,none⟩)) 35 fun _ w h=>Jo 41 .i64 x71 p_x78 L_x78.length c_x78 x78 Qs (XS h).row.2 qR (qT h_x78) b82) <|
 .cons [36] (qG 900087 (Xd p_x78 c_x78 L_x78) (.slice p_t83 t83.length c_t83) 36 fun _ w h=>Ym Qs (XS h).row.2 qR y_t83 0 1 [.slice p_t83 t83.length c_t83]) <|
 .v 37 (vI (t83.length:Int)) <|
 .v 38 (.bool (decide (x79<(t83.length:Int))))<|.nil) [1,2,5,6,7,8,9,38,177,178,179,180,181,182,184,185,900087,999999] fun u81 a w' H=>?_
      refine Qx H (decide (x79<(t83.length:Int))) (fun c98=>?_) fun c98=>?_
      ·rw [if_pos c98] at G
       refine Qf ?_
       refine qv ?_
       replace G:=qP G; obtain ⟨j85,hj85,G⟩:=G
       refine Xq (fun a w'=>∃ (p_j84:Option Addr) (c_j84 np_j84:Nat) (L_j84:List (Sl qu)),np_j84=L_j84.length∧j85=L_j84.map Sl.l∧RL w 177 [(1,.slot true (.int .i8 a1)),(2,(sP ((u1 0).n 0) 0)),(5,sB t3),(6,(sP ((u4 5).n 0) 0)),(7,(sS ((u4 1).o 2) t5.2.length ((u4 1).n 2))),(8,sI x71),(9,sI x79),(177,qB qk 1 p_a0_L c_a0_L L_a0_L Qs),(178,X7 qk QQ.toPart L_a0_L),(179,qB qk 2 p_a0_X c_a0_X a0.X qa),(180,qB qk 1 p_a0_S c_a0_S a0.S JA),(181,.blk ((u1 0).n 0) [.slice p_a0_L L_a0_L.length c_a0_L,.slice p_a0_X a0.X.length c_a0_X,vI a0.T.Lo,vI a0.T.Hi,vI a0.G.T,vI a0.G.H,.int .u8 a0.N,.int .u8 a0.K,.slice p_a0_S a0.S.length c_a0_S] 56),(182,Qm 9 1 ((u4 1).o 0) ((u4 1).n 0) t5.1.Names YE),(184,Qm 46 2 ((u4 1).o 2) ((u4 1).n 2) t5.2 qa),(185,.blk ((u4 5).n 0) [.slice ((u4 1).o 0) t5.1.Names.length ((u4 1).n 0),.slice p_j84 np_j84 c_j84] 43),(900089,Zc p_j84 np_j84 c_j84 L_j84),(999999,gk)] a w') ?_ ?_
       ·clear H; rintro a w' ⟨p_j84,c_j84,_,L_j84,rfl,h_j84,H⟩
        refine Qt qd H (.v 39 (vI x79) <|
 .v 40 (vI (qc (x79+1))) <|
 .v 9 (vI (qc (x79+1)))<|.nil) [1,2,5,6,7,8,9,177,178,179,180,181,182,184,185,900089,999999] fun u86 a w' H=>?_
        replace H:=H.move (K:=Xd p_j84 c_j84 L_j84) 900089 900087 (by kernel_rfl) (by intro _ _ h; cases h)
        exact ⟨k,Nat.lt_succ_self k,_,_,G,p_j84,c_j84,L_j84.length,L_j84,rfl,h_j84,H.toM _⟩
       ·clear G; replace G:=hj85; clear hj85
        refine q6 ?_
        refine qv ?_
        replace G:=gd G; obtain ⟨b88,G⟩:=G
        replace G:=qP G; obtain ⟨t89,ht89,G⟩:=G
        obtain ⟨p_t89,c_t89,y_t89⟩:=Yf h_x78 ht89
        replace G:=gd G; obtain ⟨b90,G⟩:=G
        replace G:=qP G; obtain ⟨t91,ht91,G⟩:=G
        refine Qt qd H (.v 41 (vP ((u4 5).n 0) 1) <|
 .cons [42] (qf (.slice p_x78 L_x78.length c_x78) 42 185 1 1 ((u4 5).n 0) [.slice ((u4 1).o 0) t5.1.Names.length ((u4 1).n 0),.slice p_x78 L_x78.length c_x78] 43) <|
 .v 43 (vI x71) <|
 .cons [44] (qG 900087 (Xd p_x78 c_x78 L_x78) (.pointer (some ⟨Xf p_x78,Xg p_x78+x71.toNat * 1,none⟩)) 44 fun _ w h=>Jo 41 .i64 x71 p_x78 L_x78.length c_x78 x78 Qs (XS h).row.2 qR (qT h_x78) b88) <|
 .cons [45] (qG 900087 (Xd p_x78 c_x78 L_x78) (.slice p_t89 t89.length c_t89) 45 fun _ w h=>Ym Qs (XS h).row.2 qR y_t89 0 1 [.slice p_t89 t89.length c_t89]) <|
 .v 46 (vI x79) <|
 .cons [47] (qG 900087 (Xd p_x78 c_x78 L_x78) (.pointer (some ⟨Xf p_t89,Xg p_t89+x79.toNat * 4,none⟩)) 47 fun _ w h=>Jo 59 .i64 x79 p_t89 t89.length c_t89 t89 qr ((XS h).one y_t89).2 QJ rfl b90) <|
 .v 48 (.pointer (some ⟨Xf p_t89,Xg p_t89+x79.toNat * 4+0,none⟩)) <|
 .cons [49] (qG 900087 (Xd p_x78 c_x78 L_x78) (vI t91.Op) 49 fun _ w h=>Ym qr ((XS h).one y_t89).2 QJ ht91 0 1 [vI t91.Op]) <|
 .v 50 (.bool (t91.Op == 3))<|.nil) [1,2,5,6,7,8,9,50,177,178,179,180,181,182,184,185,900087,999999] fun u87 a w' H=>?_
        refine Qx H (t91.Op == 3) (fun c97=>?_) fun c97=>?_
        ·rw [if_pos c97] at G
         replace G:=gd G; obtain ⟨b93,G⟩:=G
         replace G:=qP G; obtain ⟨t94,ht94,G⟩:=G
         obtain ⟨p_t94,c_t94,y_t94⟩:=Yf h_x78 ht94
         replace G:=gd G; obtain ⟨b95,G⟩:=G
         replace G:=qP G; obtain ⟨t96,ht96,G⟩:=G
         refine Qt qd H (.v 51 (vP ((u4 5).n 0) 1) <|
 .cons [52] (qf (.slice p_x78 L_x78.length c_x78) 52 185 1 1 ((u4 5).n 0) [.slice ((u4 1).o 0) t5.1.Names.length ((u4 1).n 0),.slice p_x78 L_x78.length c_x78] 43) <|
 .v 53 (vI x71) <|
 .cons [54] (qG 900087 (Xd p_x78 c_x78 L_x78) (.pointer (some ⟨Xf p_x78,Xg p_x78+x71.toNat * 1,none⟩)) 54 fun _ w h=>Jo 41 .i64 x71 p_x78 L_x78.length c_x78 x78 Qs (XS h).row.2 qR (qT h_x78) b93) <|
 .cons [55] (qG 900087 (Xd p_x78 c_x78 L_x78) (.slice p_t94 t94.length c_t94) 55 fun _ w h=>Ym Qs (XS h).row.2 qR y_t94 0 1 [.slice p_t94 t94.length c_t94]) <|
 .v 56 (vI x79) <|
 .v 57 (.agg #[vI 2,vI 0,vI 0,vI 0]) <|
 .cons [58] (qG 900087 (Xd p_x78 c_x78 L_x78) (.pointer (some ⟨Xf p_t94,Xg p_t94+x79.toNat * 4,none⟩)) 58 fun _ w h=>Jo 59 .i64 x79 p_t94 t94.length c_t94 t94 qr ((XS h).one y_t94).2 QJ rfl b95) <|
 .cons [900087,900087] (XC [] [] (fun u92=>[]) 900087 (fun u92=>Xd p_x78 c_x78 L_x78) none (fun u92 g=>.nilFunc) (fun u92 g=>Zc p_x78 L_x78.length c_x78 (L_x78.set x71.toNat ⟨p_t94,c_t94,(t94.set x79.toNat (⟨2,0,(⟨0,0⟩:qb)⟩:qu))⟩)) (fun u92 w hF hK=>qgc hK y_t94 (j:=x79.toNat) (y:=(⟨2,0,(⟨0,0⟩:qb)⟩:qu)) (fun h=>XK h QJ (vs:=[vI 2,vI 0,vI 0,vI 0]) ht96 0 (by simp) (by simp) rfl (by kernel_rfl))))<|.nil) [1,2,5,6,7,8,9,177,178,179,180,181,182,184,185,900087,999999] fun u92 a w' H=>?_
         obtain rfl:=sj G
         replace H:=H.move (K:=Zc p_x78 L_x78.length c_x78 (L_x78.set x71.toNat ⟨p_t94,c_t94,(t94.set x79.toNat (⟨2,0,(⟨0,0⟩:qb)⟩:qu))⟩)) 900087 900089 (by kernel_rfl) (by intro _ _ h; cases h)
         exact ⟨p_x78,c_x78,L_x78.length,(L_x78.set x71.toNat ⟨p_t94,c_t94,(t94.set x79.toNat (⟨2,0,(⟨0,0⟩:qb)⟩:qu))⟩),by simp,(map_set h_x78 x71.toNat (⟨p_t94,c_t94,(t94.set x79.toNat (⟨2,0,(⟨0,0⟩:qb)⟩:qu))⟩:Sl qu)),H.toM _⟩
        ·rw [if_neg (nt c97)] at G
         refine Qf ?_
         obtain rfl:=sj G
         replace H:=H.move (K:=Xd p_x78 c_x78 L_x78) 900087 900089 (by kernel_rfl) (by intro _ _ h; cases h)
         exact ⟨p_x78,c_x78,L_x78.length,L_x78,rfl,h_x78,H.toM _⟩
      ·rw [if_neg (nt c98)] at G
       refine Yk rfl ?_
       obtain rfl:=sj G
       replace H:=H.move (K:=Xd p_x78 c_x78 L_x78) 900087 900085 (by kernel_rfl) (by intro _ _ h; cases h)
       exact ⟨p_x78,c_x78,L_x78.length,L_x78,rfl,h_x78,H.toM _⟩
   ·rw [if_neg (nt c99)] at G
    refine Yk rfl ?_
    obtain rfl:=sj G
    replace H:=H.move (K:=Xd p_x70 c_x70 L_x70) 900083 900081 (by kernel_rfl) (by intro _ _ h; cases h)
    exact ⟨p_x70,c_x70,L_x70.length,L_x70,rfl,h_x70,H.toM _⟩
end Go.Proofs.YtpmgpcklieincaaGreatDoor
