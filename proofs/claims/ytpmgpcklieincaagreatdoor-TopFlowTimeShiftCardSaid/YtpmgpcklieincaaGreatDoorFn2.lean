/- Each function of the program answers as the plain Lean function of its name (part 2). Printed by a program of this session. -/
import Derived.Test.YtpmgpcklieincaaGreatDoorFn1
set_option linter.unusedVariables false
set_option linter.unusedSimpArgs false
set_option maxRecDepth 100000
set_option maxHeartbeats 4000000
namespace Go.Proofs.YtpmgpcklieincaaGreatDoor
open Go Go.RowKit Go.Sx Go.Proofs
theorem qm.calls (k0:Nat) (a1:QE) (a2:List qb) (a3:qb) (a4:Int) (p_a1_L:Option Addr) (c_a1_L:Nat) (p_a1_Out:Option Addr) (c_a1_Out:Nat) (p_a2:Option Addr) (c_a2:Nat) (r:List (List qb)) (w:World) (hB:Xx [qB qk 5 p_a1_L c_a1_L a1.L qi,qB qk 1 p_a1_Out c_a1_Out a1.Out Qn,qB qk 2 p_a2 c_a2 a2 qa,gk] w) (G:qm k0 a1 a2 a3 a4=some r) :
  Calls Tryz.prog 121 #[.agg #[.func (.func 130) #[] #[],.func (.func 110) #[] #[],.func (.func 90) #[] #[],.func (.func 92) #[] #[],.func (.func 127) #[] #[],.func (.func 91) #[] #[],.func (.func 131) #[] #[],.func (.func 132) #[] #[],.func (.func 133) #[] #[]],.agg #[vI a1.N,.slice p_a1_L a1.L.length c_a1_L,.slice p_a1_Out a1.Out.length c_a1_Out],.slice p_a2 a2.length c_a2,.agg #[vI a3.Lo,vI a3.Hi],vI a4] w fun e w'=>∃ g:Gh,e = .returned (slgd_S_TInterval g 0 r)∧Zg (Y4 []) w w'∧Ys w.heap.size (Y4 []) (JH w.heap.size []) [fun _=>ns_en_TIntervalg g 0 r] w':=by
 obtain ⟨fr,hfr,hBf⟩:=VE w []
 refine QO (args:=[.agg #[.func (.func 130) #[] #[],.func (.func 110) #[] #[],.func (.func 90) #[] #[],.func (.func 92) #[] #[],.func (.func 127) #[] #[],.func (.func 91) #[] #[],.func (.func 131) #[] #[],.func (.func 132) #[] #[],.func (.func 133) #[] #[]],.agg #[vI a1.N,.slice p_a1_L a1.L.length c_a1_L,.slice p_a1_Out a1.Out.length c_a1_Out],.slice p_a2 a2.length c_a2,.agg #[vI a3.Lo,vI a3.Hi],vI a4]) 123 [(123,qB qk 5 p_a1_L c_a1_L a1.L qi),(124,qB qk 1 p_a1_Out c_a1_Out a1.Out Qn),(125,qB qk 2 p_a2 c_a2 a2 qa),(999999,gk)] (by
  intro x hx
  simp only [List.mem_cons,List.not_mem_nil,or_false] at hx
  rcases hx with rfl | rfl | rfl | rfl
  ·exact qy (qj hB.1) (fun _ _=>trivial) (by decide) _
  ·exact qy (qj hB.2.1) (fun _ _=>trivial) (by decide) _
  ·exact qy (qj hB.2.2.1) (fun _ _=>trivial) (by decide) _
  ·exact ⟨⟨_,_,rfl⟩,hB.2.2.2.1,Yl (QM hB.2.2.2.1)⟩) Tryz.func121 rfl (by kernel_rfl) (by kernel_rfl) fun a H=>?_
 unfold qm at G
 refine qg qd H (.cons [5,126] (qs (fun b=>vP b 0) (fun u1=>[.func (.func 130) #[] #[],.func (.func 110) #[] #[],.func (.func 90) #[] #[],.func (.func 92) #[] #[],.func (.func 127) #[] #[],.func (.func 91) #[] #[],.func (.func 131) #[] #[],.func (.func 132) #[] #[],.func (.func 133) #[] #[]]) 215 5 126) <|
 .cons [6,127] (qs (fun b=>vP b 0) (fun u1=>[vI a1.N,.slice p_a1_L a1.L.length c_a1_L,.slice p_a1_Out a1.Out.length c_a1_Out]) 38 6 127) <|
 .cons [8,128] (qs (fun b=>vP b 0) (fun u1=>[vI a3.Lo,vI a3.Hi]) 46 8 128) <|
 .v 10 (.slice none 0 0)<|.nil) [2,4,5,6,8,123,124,125,126,127,128,999999] fun u1 a w' H=>?_
 refine qv ?_
 replace G:=gd G; obtain ⟨b3,G⟩:=G
 replace G:=gd G; obtain ⟨b4,G⟩:=G
 refine Qt qd H (.v 19 (vP ((u1 1).n 0) 0) <|
 .cons [20] (qf (vI a1.N) 20 127 0 1 ((u1 1).n 0) [vI a1.N,.slice p_a1_L a1.L.length c_a1_L,.slice p_a1_Out a1.Out.length c_a1_Out] 38) <|
 .cons [21,129] (qaf 46 2 qa (Z7 [] (fun u2=>[]) 48 1 (List.replicate a1.N.toNat (⟨none,0,[]⟩:Sl qb)).length ((List.replicate a1.N.toNat (⟨none,0,[]⟩:Sl qb)).flatMap Qs) 21 129 (fun _=>.none) (fun u2 w hF=>Yw (t:=195) (k:=.i64) (m:=a1.N) (en:=Qs) (z:=(⟨none,0,[]⟩:Sl qb)) qR qed rfl b3 (by kernel_rfl)) (fun _=>.inl rfl)) qab) <|
 .v 22 (vP ((u1 1).n 0) 1) <|
 .cons [23] (qf (.slice p_a1_L a1.L.length c_a1_L) 23 127 1 1 ((u1 1).n 0) [vI a1.N,.slice p_a1_L a1.L.length c_a1_L,.slice p_a1_Out a1.Out.length c_a1_Out] 38) <|
 .v 24 (vI (a1.L.length:Int)) <|
 .cons [25,130] (qaf 46 2 qa (Z7 [] (fun u2=>[]) 48 1 (List.replicate (a1.L.length:Int).toNat (⟨none,0,[]⟩:Sl qb)).length ((List.replicate (a1.L.length:Int).toNat (⟨none,0,[]⟩:Sl qb)).flatMap Qs) 25 130 (fun _=>.none) (fun u2 w hF=>Yw (t:=195) (k:=.i64) (m:=(a1.L.length:Int)) (en:=Qs) (z:=(⟨none,0,[]⟩:Sl qb)) qR qed rfl b4 (by kernel_rfl)) (fun _=>.inl rfl)) qab) <|
 .cons [11] (qn (fun u2=>.slice ((u2 2).o 0) ((List.replicate a1.N.toNat (⟨none,0,[]⟩:Sl qb)).length) ((u2 2).n 0)) 11) <|
 .cons [12] (qn (fun u2=>.slice ((u2 6).o 0) ((List.replicate (a1.L.length:Int).toNat (⟨none,0,[]⟩:Sl qb)).length) ((u2 6).n 0)) 12)<|.nil) [2,4,5,6,8,11,12,123,124,125,126,127,128,129,130,999999] fun u2 a w' H=>?_
 refine qv ?_
 obtain ⟨j6,hj6,G⟩:=qP G
 refine Xq (fun a w'=>∃ (p_j5:Option Addr) (c_j5 np_j5:Nat) (L_j5:List (Sl qb)),np_j5=L_j5.length∧j6=L_j5.map Sl.l∧RL w 123 [(4,sI a4),(5,(sP ((u1 0).n 0) 0)),(6,(sP ((u1 1).n 0) 0)),(8,(sP ((u1 2).n 0) 0)),(11,sS p_j5 np_j5 c_j5),(12,(sS ((u2 6).o 0) ((List.replicate (a1.L.length:Int).toNat (⟨none,0,[]⟩:Sl qb)).length) ((u2 6).n 0))),(123,qB qk 5 p_a1_L c_a1_L a1.L qi),(124,qB qk 1 p_a1_Out c_a1_Out a1.Out Qn),(126,.blk ((u1 0).n 0) [.func (.func 130) #[] #[],.func (.func 110) #[] #[],.func (.func 90) #[] #[],.func (.func 92) #[] #[],.func (.func 127) #[] #[],.func (.func 91) #[] #[],.func (.func 131) #[] #[],.func (.func 132) #[] #[],.func (.func 133) #[] #[]] 215),(127,.blk ((u1 1).n 0) [vI a1.N,.slice p_a1_L a1.L.length c_a1_L,.slice p_a1_Out a1.Out.length c_a1_Out] 38),(128,.blk ((u1 2).n 0) [vI a3.Lo,vI a3.Hi] 46),(130,qt ((u2 6).o 0) ((u2 6).n 0) (List.replicate (a1.L.length:Int).toNat (⟨none,0,[]⟩:Sl qb))),(900016,Qp p_j5 np_j5 c_j5 L_j5),(999999,gk)] a w') ?_ ?_
 ·clear H; rintro a w' ⟨p_j5,c_j5,_,L_j5,rfl,h_j5,H⟩
  refine qv ?_
  obtain ⟨j8,hj8,G⟩:=qP G
  refine Xq (fun a w'=>∃ (p_j7:Option Addr) (c_j7 np_j7:Nat) (L_j7:List (Sl qb)),np_j7=L_j7.length∧j8=L_j7.map Sl.l∧RL w 123 [(11,sS p_j7 np_j7 c_j7),(900018,Qp p_j7 np_j7 c_j7 L_j7),(999999,gk)] a w') ?_ ?_
  ·clear H; rintro a w' ⟨p_j7,c_j7,_,L_j7,rfl,h_j7,H⟩
   refine qg qd H (.v 122 (.slice p_j7 L_j7.length c_j7) <|
 .v 10 (.slice p_j7 L_j7.length c_j7)<|.nil) [10,900018,999999] fun u9 a w' H=>?_
   refine qF ?_
   obtain rfl:=sj G
   obtain ⟨g,o0,n0,d0⟩:=qb6 ZE p_j7 c_j7 h_j7
   refine QR H _ g _ _ _ fr [900018] [] (.slice p_j7 L_j7.length c_j7) [fun _=>qt p_j7 c_j7 L_j7] (by simp only [slgd_S_TInterval,dlgd_S_TInterval,ns_en_TIntervalg,qt,Qp,Qm,o0,n0,d0]) (by simp only [slgd_S_TInterval,dlgd_S_TInterval,ns_en_TIntervalg,qt,Qp,Qm,o0,n0,d0]) hfr (.inl ⟨rfl,rfl⟩) (ql Jb qC) (by simp)
  ·clear G; replace G:=hj8; clear hj8
   refine qg qd H (.v 40 (vI a4) <|
 .v 41 (vI 0)<|.nil) [5,6,8,11,12,40,41,123,124,126,127,128,130,900016,999999] fun u10 a w' H=>?_
   refine q6 ?_
   replace H:=H.move (K:=qt p_j5 c_j5 L_j5) 900016 900020 (by kernel_rfl) (by intro _ _ h; cases h)
   replace H:=H.move (K:=qt ((u2 6).o 0) ((u2 6).n 0) (List.replicate (a1.L.length:Int).toNat (⟨none,0,[]⟩:Sl qb))) 130 900022 (by kernel_rfl) (by intro _ _ h; cases h)
   refine XP (fun m a w'=>∃ x11:List (List qb),∃ x12:List (List qb),∃ x13:Int,qm.l14 k0 a1 a2 a3 a4 j6 m x11 x12 x13=some j8 ∧ ∃ (p_x11:Option Addr) (c_x11 np_x11:Nat) (L_x11:List (Sl qb)),np_x11=L_x11.length∧x11=L_x11.map Sl.l ∧ ∃ (p_x12:Option Addr) (c_x12 np_x12:Nat) (L_x12:List (Sl qb)),np_x12=L_x12.length∧x12=L_x12.map Sl.l∧RL w 123 [(5,(sP ((u1 0).n 0) 0)),(6,(sP ((u1 1).n 0) 0)),(8,(sP ((u1 2).n 0) 0)),(11,sS p_x11 np_x11 c_x11),(12,sS p_x12 np_x12 c_x12),(40,sI a4),(41,sI x13),(123,qB qk 5 p_a1_L c_a1_L a1.L qi),(124,qB qk 1 p_a1_Out c_a1_Out a1.Out Qn),(126,.blk ((u1 0).n 0) [.func (.func 130) #[] #[],.func (.func 110) #[] #[],.func (.func 90) #[] #[],.func (.func 92) #[] #[],.func (.func 127) #[] #[],.func (.func 91) #[] #[],.func (.func 131) #[] #[],.func (.func 132) #[] #[],.func (.func 133) #[] #[]] 215),(127,.blk ((u1 1).n 0) [vI a1.N,.slice p_a1_L a1.L.length c_a1_L,.slice p_a1_Out a1.Out.length c_a1_Out] 38),(128,.blk ((u1 2).n 0) [vI a3.Lo,vI a3.Hi] 46),(900020,Qp p_x11 np_x11 c_x11 L_x11),(900022,Qp p_x12 np_x12 c_x12 L_x12),(999999,gk)] a w') k0 ⟨_,_,_,G,p_j5,c_j5,L_j5.length,L_j5,rfl,h_j5,((u2 6).o 0),((u2 6).n 0),(List.replicate (a1.L.length:Int).toNat (⟨none,0,[]⟩:Sl qb)).length,(List.replicate (a1.L.length:Int).toNat (⟨none,0,[]⟩:Sl qb)),rfl,(V4 (er:=Sl.l) (a1.L.length:Int).toNat (⟨none,0,[]⟩:Sl qb)),H.toM _⟩ ?_
   clear G H
   rintro (_ | k) a w' ⟨x11,x12,x13,G,p_x11,c_x11,_,L_x11,rfl,h_x11,p_x12,c_x12,_,L_x12,rfl,h_x12,H⟩
   ·exact absurd G (by unfold qm.l14; exact fun h=>by cases h)
   ·unfold qm.l14 at G
    refine qg qd H (.v 42 (.bool (decide (x13<a4)))<|.nil) [5,6,8,11,12,40,41,42,123,124,126,127,128,900020,900022,999999] fun u15 a w' H=>?_
    refine qv ?_
    refine Qx H (decide (x13<a4)) (fun c84=>?_) fun c84=>?_
    ·rw [if_pos c84] at G
     refine Qf ?_
     refine qv ?_
     obtain ⟨j18,hj18,G⟩:=qP G
     refine Xq (fun a w'=>∃ (p_j16:Option Addr) (c_j16 np_j16:Nat) (L_j16:List (Sl qb)),np_j16=L_j16.length∧j18.1=L_j16.map Sl.l ∧ ∃ (p_j17:Option Addr) (c_j17 np_j17:Nat) (L_j17:List (Sl qb)),np_j17=L_j17.length∧j18.2=L_j17.map Sl.l∧RL w 123 [(5,(sP ((u1 0).n 0) 0)),(6,(sP ((u1 1).n 0) 0)),(8,(sP ((u1 2).n 0) 0)),(11,sS p_j16 np_j16 c_j16),(12,sS p_j17 np_j17 c_j17),(40,sI a4),(41,sI x13),(123,qB qk 5 p_a1_L c_a1_L a1.L qi),(124,qB qk 1 p_a1_Out c_a1_Out a1.Out Qn),(126,.blk ((u1 0).n 0) [.func (.func 130) #[] #[],.func (.func 110) #[] #[],.func (.func 90) #[] #[],.func (.func 92) #[] #[],.func (.func 127) #[] #[],.func (.func 91) #[] #[],.func (.func 131) #[] #[],.func (.func 132) #[] #[],.func (.func 133) #[] #[]] 215),(127,.blk ((u1 1).n 0) [vI a1.N,.slice p_a1_L a1.L.length c_a1_L,.slice p_a1_Out a1.Out.length c_a1_Out] 38),(128,.blk ((u1 2).n 0) [vI a3.Lo,vI a3.Hi] 46),(900024,Qp p_j16 np_j16 c_j16 L_j16),(900026,Qp p_j17 np_j17 c_j17 L_j17),(999999,gk)] a w') ?_ ?_
     ·clear H; rintro a w' ⟨p_j16,c_j16,_,L_j16,rfl,h_j16,p_j17,c_j17,_,L_j17,rfl,h_j17,H⟩
      refine Qt qd H (.v 121 (vI (qc (x13+1))) <|
 .v 41 (vI (qc (x13+1)))<|.nil) [5,6,8,11,12,40,41,123,124,126,127,128,900024,900026,999999] fun u19 a w' H=>?_
      replace H:=H.move (K:=qt p_j16 c_j16 L_j16) 900024 900020 (by kernel_rfl) (by intro _ _ h; cases h)
      replace H:=H.move (K:=qt p_j17 c_j17 L_j17) 900026 900022 (by kernel_rfl) (by intro _ _ h; cases h)
      exact ⟨k,Nat.lt_succ_self k,_,_,_,G,p_j16,c_j16,L_j16.length,L_j16,rfl,h_j16,p_j17,c_j17,L_j17.length,L_j17,rfl,h_j17,H.toM _⟩
     ·clear G; replace G:=hj18; clear hj18
      refine q6 ?_
      refine qg qd H (.v 43 (vI x13) <|
 .v 14 (vI x13)<|.nil) [5,6,8,11,12,14,40,41,123,124,126,127,128,900020,900022,999999] fun u20 a w' H=>?_
      refine qv ?_
      obtain ⟨j22,hj22,G⟩:=qP G
      refine Xq (fun a w'=>∃ (p_j21:Option Addr) (c_j21 np_j21:Nat) (L_j21:List (Sl qb)),np_j21=L_j21.length∧j22=L_j21.map Sl.l∧RL w 123 [(5,(sP ((u1 0).n 0) 0)),(6,(sP ((u1 1).n 0) 0)),(8,(sP ((u1 2).n 0) 0)),(11,sS p_x11 L_x11.length c_x11),(12,sS p_j21 np_j21 c_j21),(14,sI x13),(40,sI a4),(41,sI x13),(123,qB qk 5 p_a1_L c_a1_L a1.L qi),(124,qB qk 1 p_a1_Out c_a1_Out a1.Out Qn),(126,.blk ((u1 0).n 0) [.func (.func 130) #[] #[],.func (.func 110) #[] #[],.func (.func 90) #[] #[],.func (.func 92) #[] #[],.func (.func 127) #[] #[],.func (.func 91) #[] #[],.func (.func 131) #[] #[],.func (.func 132) #[] #[],.func (.func 133) #[] #[]] 215),(127,.blk ((u1 1).n 0) [vI a1.N,.slice p_a1_L a1.L.length c_a1_L,.slice p_a1_Out a1.Out.length c_a1_Out] 38),(128,.blk ((u1 2).n 0) [vI a3.Lo,vI a3.Hi] 46),(900020,qt p_x11 c_x11 L_x11),(900028,Qp p_j21 np_j21 c_j21 L_j21),(999999,gk)] a w') ?_ ?_
      ·clear H; rintro a w' ⟨p_j21,c_j21,_,L_j21,rfl,h_j21,H⟩
       refine qg qd H (.v 91 (vP ((u1 1).n 0) 2) <|
 .cons [92] (qf (.slice p_a1_Out a1.Out.length c_a1_Out) 92 127 2 1 ((u1 1).n 0) [vI a1.N,.slice p_a1_L a1.L.length c_a1_L,.slice p_a1_Out a1.Out.length c_a1_Out] 38) <|
 .v 93 (vI (a1.Out.length:Int)) <|
 .v 94 (vI 0)<|.nil) [5,6,8,11,12,14,40,41,92,93,94,123,124,126,127,128,900020,900028,999999] fun u23 a w' H=>?_
       refine q6 ?_
       replace H:=H.move (K:=qt p_x11 c_x11 L_x11) 900020 900030 (by kernel_rfl) (by intro _ _ h; cases h)
       refine XP (fun m a w'=>∃ x24:List (List qb),∃ x25:Int,qm.l26 k0 a1 a2 a3 a4 j6 x11 x12 x13 j22 m x24 x25=some j18 ∧ ∃ (p_x24:Option Addr) (c_x24 np_x24:Nat) (L_x24:List (Sl qb)),np_x24=L_x24.length∧x24=L_x24.map Sl.l∧RL w 123 [(5,(sP ((u1 0).n 0) 0)),(6,(sP ((u1 1).n 0) 0)),(8,(sP ((u1 2).n 0) 0)),(11,sS p_x24 np_x24 c_x24),(12,sS p_j21 L_j21.length c_j21),(14,sI x13),(40,sI a4),(41,sI x13),(92,sS p_a1_Out a1.Out.length c_a1_Out),(93,(sI (a1.Out.length:Int))),(94,sI x25),(123,qB qk 5 p_a1_L c_a1_L a1.L qi),(124,qB qk 1 p_a1_Out c_a1_Out a1.Out Qn),(126,.blk ((u1 0).n 0) [.func (.func 130) #[] #[],.func (.func 110) #[] #[],.func (.func 90) #[] #[],.func (.func 92) #[] #[],.func (.func 127) #[] #[],.func (.func 91) #[] #[],.func (.func 131) #[] #[],.func (.func 132) #[] #[],.func (.func 133) #[] #[]] 215),(127,.blk ((u1 1).n 0) [vI a1.N,.slice p_a1_L a1.L.length c_a1_L,.slice p_a1_Out a1.Out.length c_a1_Out] 38),(128,.blk ((u1 2).n 0) [vI a3.Lo,vI a3.Hi] 46),(900028,qt p_j21 c_j21 L_j21),(900030,Qp p_x24 np_x24 c_x24 L_x24),(999999,gk)] a w') k0 ⟨_,_,G,p_x11,c_x11,L_x11.length,L_x11,rfl,h_x11,H.toM _⟩ ?_
       clear G H
       rintro (_ | k) a w' ⟨x24,x25,G,p_x24,c_x24,_,L_x24,rfl,h_x24,H⟩
       ·exact absurd G (by unfold qm.l26; exact fun h=>by cases h)
       ·unfold qm.l26 at G
        refine qg qd H (.v 95 (.bool (decide (x25<(a1.Out.length:Int))))<|.nil) [5,6,8,11,12,14,40,41,92,93,94,95,123,124,126,127,128,900028,900030,999999] fun u27 a w' H=>?_
        refine qv ?_
        refine Qx H (decide (x25<(a1.Out.length:Int))) (fun c46=>?_) fun c46=>?_
        ·rw [if_pos c46] at G
         refine Qf ?_
         refine qv ?_
         refine q6 ?_
         refine qv ?_
         replace G:=gd G; obtain ⟨b29,G⟩:=G
         obtain ⟨t30,ht30,G⟩:=qP G
         refine Qt qd H (.v 96 (vI x25) <|
 .cons [97] (qG 124 (qB qk 1 p_a1_Out c_a1_Out a1.Out Qn) (.pointer (some ⟨Xf p_a1_Out,Xg p_a1_Out+x25.toNat * 1,none⟩)) 97 fun _ w h=>Jo 36 .i64 x25 p_a1_Out a1.Out.length c_a1_Out a1.Out Qn (qj h).2 Jz rfl b29) <|
 .cons [98] (qG 124 (qB qk 1 p_a1_Out c_a1_Out a1.Out Qn) (vI t30) 98 fun _ w h=>Ym Qn (qj h).2 Jz ht30 0 1 [vI t30]) <|
 .v 17 (vI x25) <|
 .v 18 (vI t30)<|.nil) [5,6,8,11,12,14,17,18,40,41,92,93,94,123,124,126,127,128,900028,900030,999999] fun u28 a w' H=>?_
         replace G:=gd G; obtain ⟨b32,G⟩:=G
         obtain ⟨t33,ht33,G⟩:=qP G
         obtain ⟨p_t33,c_t33,y_t33⟩:=Yf h_x24 ht33
         have P34:=Xh (en:=Qs) (l:=L_x24) (XS (H.at (K:=qt p_x24 c_x24 L_x24) 900030 (by kernel_rfl))).row.2 qR
         replace G:=gd G; obtain ⟨b35,G⟩:=G
         obtain ⟨t36,ht36,G⟩:=qP G
         obtain ⟨p_t36,c_t36,y_t36⟩:=Yf h_j21 ht36
         have P37:=Xh (en:=Qs) (l:=L_j21) (XS (H.at (K:=qt p_j21 c_j21 L_j21) 900028 (by kernel_rfl))).row.2 qR
         replace G:=gd G; obtain ⟨b38,G⟩:=G
         obtain ⟨t39,ht39,G⟩:=qP G
         have P40:=Xh (en:=qa) (l:=t36) ((XS (H.at (K:=qt p_j21 c_j21 L_j21) 900028 (by kernel_rfl))).one y_t36).2 qe
         obtain ⟨t41,ht41,G⟩:=qP G
         replace G:=gd G; obtain ⟨b42,G⟩:=G
         replace G:=gd G; obtain ⟨b43,G⟩:=G
         obtain ⟨t44,ht44,G⟩:=qP G
         obtain ⟨p_t44,c_t44,y_t44⟩:=Yf h_x24 ht44
         refine Qt qd H (.v 99 (.slice p_x24 L_x24.length c_x24) <|
 .v 100 (vI x25) <|
 .v 101 (.slice p_x24 L_x24.length c_x24) <|
 .v 102 (vI x25) <|
 .cons [103] (qn (fun u31=>.pointer (some ⟨Xf p_x24,Xg p_x24+x25.toNat * 1,none⟩)) 103 (hv:=fun _ _=>qM (t:=195) (k:=.i64) (i:=x25) (p:=p_x24) (n:=L_x24.length) (cap:=c_x24) (x:=x24) P34 (qT h_x24) b32 (by kernel_rfl))) <|
 .cons [104] (qG 900030 (qt p_x24 c_x24 L_x24) (.slice p_t33 t33.length c_t33) 104 fun _ w h=>Ym Qs (XS h).row.2 qR y_t33 0 1 [.slice p_t33 t33.length c_t33]) <|
 .v 105 (vP ((u1 0).n 0) 8) <|
 .cons [106] (qf (.func (.func 133) #[] #[]) 106 126 8 1 ((u1 0).n 0) [.func (.func 130) #[] #[],.func (.func 110) #[] #[],.func (.func 90) #[] #[],.func (.func 92) #[] #[],.func (.func 127) #[] #[],.func (.func 91) #[] #[],.func (.func 131) #[] #[],.func (.func 132) #[] #[],.func (.func 133) #[] #[]] 215) <|
 .v 107 (.slice p_j21 L_j21.length c_j21) <|
 .v 108 (vI t30) <|
 .cons [109] (qn (fun u31=>.pointer (some ⟨Xf p_j21,Xg p_j21+t30.toNat * 1,none⟩)) 109 (hv:=fun _ _=>qM (t:=195) (k:=.i64) (i:=t30) (p:=p_j21) (n:=L_j21.length) (cap:=c_j21) (x:=j22) P37 (qT h_j21) b35 (by kernel_rfl))) <|
 .cons [110] (qG 900028 (qt p_j21 c_j21 L_j21) (.slice p_t36 t36.length c_t36) 110 fun _ w h=>Ym Qs (XS h).row.2 qR y_t36 0 1 [.slice p_t36 t36.length c_t36]) <|
 .v 111 (vI x13) <|
 .cons [112] (qn (fun u31=>.pointer (some ⟨Xf p_t36,Xg p_t36+x13.toNat * 2,none⟩)) 112 (hv:=fun _ _=>qM (t:=48) (k:=.i64) (i:=x13) (p:=p_t36) (n:=t36.length) (cap:=c_t36) (x:=t36) P40 rfl b38 (by kernel_rfl))) <|
 .cons [113] (qG 900028 (qt p_j21 c_j21 L_j21) (.agg #[vI t39.Lo,vI t39.Hi]) 113 fun _ w h=>Ym qa ((XS h).one y_t36).2 qe ht39 0 2 [vI t39.Lo,vI t39.Hi]) <|
 .v 114 (vI x13) <|
 .v 115 (vI (qc (x13+1))) <|
 .cons [116] (qq 133 _ _ 116 [] (fun u31 w _=>Yp.calls t39 (qc (x13+1))  t41 w  ht41)) <|
 .cons [117,135] (qs (fun b=>.slice (some ⟨b,0,none⟩) 1 1) (fun u31=>[vI t41.Lo,vI t41.Hi]) 46 117 135) <|
 .cons [118,900030,900030] (XC [18] [135] (fun u31=>[.blk ((u31 18).n 0) [vI t41.Lo,vI t41.Hi] 46]) 900030 (fun u31=>qt p_x24 c_x24 L_x24) (some 118) (fun u31 g=>.slice (g.o 0) (t33++[t41]).length (g.n 0)) (fun u31 g=>Zn 48 46 2 qa p_x24 L_x24.length c_x24 L_x24 (L_x24.set x25.toNat (⟨(g.o 0),(g.n 0),(t33++[t41])⟩:Sl qb))) (fun u31 w hF hK=>qcu hK y_t33 (l':=(t33++[t41])) (fun h=>Yy (t:=48) (ty:=48) (en:=qa) qe JT h hF.1 (news:=[t41]) rfl (by simp) (by kernel_rfl) b42)) (hloc:=fun u u' h=>⟨by first | rfl | simp only [h 18 (by decide)],by first | rfl | simp only [h 18 (by decide)],by first | rfl | simp only [h 18 (by decide)],by first | rfl | simp only [h 18 (by decide)]⟩)) <|
 .cons [119] (qn (fun u31=>.pointer (some ⟨Xf p_x24,Xg p_x24+x25.toNat * 1,none⟩)) 119 (hv:=fun _ _=>qM (t:=195) (k:=.i64) (i:=x25) (p:=p_x24) (n:=L_x24.length) (cap:=c_x24) (x:=x24) P34 (qT h_x24) b43 (by kernel_rfl))) <|
 .cons [900030,900030] (XC [19] [] (fun u31=>[]) 900030 (fun u31=>Zn 48 46 2 qa p_x24 L_x24.length c_x24 L_x24 (L_x24.set x25.toNat (⟨((u31 19).o 0),((u31 19).n 0),(t33++[t41])⟩:Sl qb))) none (fun u31 g=>.nilFunc) (fun u31 g=>Qp p_x24 L_x24.length c_x24 (L_x24.set x25.toNat (⟨((u31 19).o 0),((u31 19).n 0),(t33++[t41])⟩:Sl qb))) (fun u31 w hF hK=>qd4 hK (fun h=>XK (en:=Qs) h qR (y:=(⟨((u31 19).o 0),((u31 19).n 0),(t33++[t41])⟩:Sl qb)) (vs:=[.slice ((u31 19).o 0) ((t33++[t41]).length) ((u31 19).n 0)]) y_t44 0 (by simp) (by simp) rfl (by kernel_rfl))) (hloc:=fun u u' h=>⟨by first | rfl | simp only [h 19 (by decide)],by first | rfl | simp only [h 19 (by decide)],by first | rfl | simp only [h 19 (by decide)],by first | rfl | simp only [h 19 (by decide)]⟩))<|.nil) [5,6,8,11,12,14,40,41,92,93,94,123,124,126,127,128,900028,900030,999999] fun u31 a w' H=>?_
         refine Qt qd H (.v 120 (vI (qc (x25+1))) <|
 .v 94 (vI (qc (x25+1)))<|.nil) [5,6,8,11,12,14,40,41,92,93,94,123,124,126,127,128,900028,900030,999999] fun u45 a w' H=>?_
         exact ⟨k,Nat.lt_succ_self k,_,_,G,p_x24,c_x24,L_x24.length,(L_x24.set x25.toNat (⟨((u31 19).o 0),((u31 19).n 0),(t33++[t41])⟩:Sl qb)),by simp,(map_set h_x24 x25.toNat (⟨((u31 19).o 0),((u31 19).n 0),(t33++[t41])⟩:Sl qb)),H.toM _⟩
        ·rw [if_neg (nt c46)] at G
         refine Yk rfl ?_
         obtain rfl:=sj G
         replace H:=H.move (K:=qt p_x24 c_x24 L_x24) 900030 900024 (by kernel_rfl) (by intro _ _ h; cases h)
         replace H:=H.move (K:=qt p_j21 c_j21 L_j21) 900028 900026 (by kernel_rfl) (by intro _ _ h; cases h)
         exact ⟨p_x24,c_x24,L_x24.length,L_x24,rfl,h_x24,p_j21,c_j21,L_j21.length,L_j21,rfl,h_j21,H.toM _⟩
      ·clear G; replace G:=hj22; clear hj22
       refine qg qd H (.v 44 (vP ((u1 1).n 0) 1) <|
 .cons [45] (qf (.slice p_a1_L a1.L.length c_a1_L) 45 127 1 1 ((u1 1).n 0) [vI a1.N,.slice p_a1_L a1.L.length c_a1_L,.slice p_a1_Out a1.Out.length c_a1_Out] 38) <|
 .v 46 (vI (a1.L.length:Int)) <|
 .v 47 (vI 0)<|.nil) [5,6,8,11,12,14,40,41,45,46,47,123,124,126,127,128,900020,900022,999999] fun u47 a w' H=>?_
       refine q6 ?_
       replace H:=H.move (K:=qt p_x12 c_x12 L_x12) 900022 900032 (by kernel_rfl) (by intro _ _ h; cases h)
       refine XP (fun m a w'=>∃ x48:List (List qb),∃ x49:Int,qm.l50 k0 a1 a2 a3 a4 j6 x11 x12 x13 m x48 x49=some j22 ∧ ∃ (p_x48:Option Addr) (c_x48 np_x48:Nat) (L_x48:List (Sl qb)),np_x48=L_x48.length∧x48=L_x48.map Sl.l∧RL w 123 [(5,(sP ((u1 0).n 0) 0)),(6,(sP ((u1 1).n 0) 0)),(8,(sP ((u1 2).n 0) 0)),(11,sS p_x11 L_x11.length c_x11),(12,sS p_x48 np_x48 c_x48),(14,sI x13),(40,sI a4),(41,sI x13),(45,sS p_a1_L a1.L.length c_a1_L),(46,(sI (a1.L.length:Int))),(47,sI x49),(123,qB qk 5 p_a1_L c_a1_L a1.L qi),(124,qB qk 1 p_a1_Out c_a1_Out a1.Out Qn),(126,.blk ((u1 0).n 0) [.func (.func 130) #[] #[],.func (.func 110) #[] #[],.func (.func 90) #[] #[],.func (.func 92) #[] #[],.func (.func 127) #[] #[],.func (.func 91) #[] #[],.func (.func 131) #[] #[],.func (.func 132) #[] #[],.func (.func 133) #[] #[]] 215),(127,.blk ((u1 1).n 0) [vI a1.N,.slice p_a1_L a1.L.length c_a1_L,.slice p_a1_Out a1.Out.length c_a1_Out] 38),(128,.blk ((u1 2).n 0) [vI a3.Lo,vI a3.Hi] 46),(900020,qt p_x11 c_x11 L_x11),(900032,Qp p_x48 np_x48 c_x48 L_x48),(999999,gk)] a w') k0 ⟨_,_,G,p_x12,c_x12,L_x12.length,L_x12,rfl,h_x12,H.toM _⟩ ?_
       clear G H
       rintro (_ | k) a w' ⟨x48,x49,G,p_x48,c_x48,_,L_x48,rfl,h_x48,H⟩
       ·exact absurd G (by unfold qm.l50; exact fun h=>by cases h)
       ·unfold qm.l50 at G
        refine qg qd H (.v 48 (.bool (decide (x49<(a1.L.length:Int))))<|.nil) [5,6,8,11,12,14,40,41,45,46,47,48,123,124,126,127,128,900020,900032,999999] fun u51 a w' H=>?_
        refine qv ?_
        refine Qx H (decide (x49<(a1.L.length:Int))) (fun c83=>?_) fun c83=>?_
        ·rw [if_pos c83] at G
         refine Qf ?_
         refine qv ?_
         obtain ⟨j53,hj53,G⟩:=qP G
         refine Xq (fun a w'=>∃ (p_j52:Option Addr) (c_j52 np_j52:Nat) (L_j52:List (Sl qb)),np_j52=L_j52.length∧j53=L_j52.map Sl.l∧RL w 123 [(5,(sP ((u1 0).n 0) 0)),(6,(sP ((u1 1).n 0) 0)),(8,(sP ((u1 2).n 0) 0)),(11,sS p_x11 L_x11.length c_x11),(12,sS p_j52 np_j52 c_j52),(14,sI x13),(40,sI a4),(41,sI x13),(45,sS p_a1_L a1.L.length c_a1_L),(46,(sI (a1.L.length:Int))),(47,sI x49),(123,qB qk 5 p_a1_L c_a1_L a1.L qi),(124,qB qk 1 p_a1_Out c_a1_Out a1.Out Qn),(126,.blk ((u1 0).n 0) [.func (.func 130) #[] #[],.func (.func 110) #[] #[],.func (.func 90) #[] #[],.func (.func 92) #[] #[],.func (.func 127) #[] #[],.func (.func 91) #[] #[],.func (.func 131) #[] #[],.func (.func 132) #[] #[],.func (.func 133) #[] #[]] 215),(127,.blk ((u1 1).n 0) [vI a1.N,.slice p_a1_L a1.L.length c_a1_L,.slice p_a1_Out a1.Out.length c_a1_Out] 38),(128,.blk ((u1 2).n 0) [vI a3.Lo,vI a3.Hi] 46),(900020,qt p_x11 c_x11 L_x11),(900034,Qp p_j52 np_j52 c_j52 L_j52),(999999,gk)] a w') ?_ ?_
         ·clear H; rintro a w' ⟨p_j52,c_j52,_,L_j52,rfl,h_j52,H⟩
          refine Qt qd H (.v 90 (vI (qc (x49+1))) <|
 .v 47 (vI (qc (x49+1)))<|.nil) [5,6,8,11,12,14,40,41,45,46,47,123,124,126,127,128,900020,900034,999999] fun u54 a w' H=>?_
          replace H:=H.move (K:=qt p_j52 c_j52 L_j52) 900034 900032 (by kernel_rfl) (by intro _ _ h; cases h)
          exact ⟨k,Nat.lt_succ_self k,_,_,G,p_j52,c_j52,L_j52.length,L_j52,rfl,h_j52,H.toM _⟩
         ·clear G; replace G:=hj53; clear hj53
          refine q6 ?_
          refine qv ?_
          replace G:=gd G; obtain ⟨b56,G⟩:=G
          obtain ⟨t57,ht57,G⟩:=qP G
          refine Qt qd H (.v 49 (vI x49) <|
 .cons [50] (qG 123 (qB qk 5 p_a1_L c_a1_L a1.L qi) (.pointer (some ⟨Xf p_a1_L,Xg p_a1_L+x49.toNat * 5,none⟩)) 50 fun _ w h=>Jo 35 .i64 x49 p_a1_L a1.L.length c_a1_L a1.L qi (qj h).2 Y0 rfl b56) <|
 .cons [51] (qG 123 (qB qk 5 p_a1_L c_a1_L a1.L qi) (.agg #[vI t57.Op,vI t57.A,vI t57.B,vI t57.C.Lo,vI t57.C.Hi]) 51 fun _ w h=>Ym qi (qj h).2 Y0 ht57 0 5 [vI t57.Op,vI t57.A,vI t57.B,vI t57.C.Lo,vI t57.C.Hi]) <|
 .cons [16,146] (qs (fun b=>vP b 0) (fun u55=>[vI 0,vI 0,vI 0,vI 0,vI 0]) 110 16 146) <|
 .v 15 (vI x49) <|
 .cons [146] (QL (u':=fun u55=>[(146,.blk ((u55 3).n 0) [vI t57.Op,vI t57.A,vI t57.B,vI t57.C.Lo,vI t57.C.Hi] 110)]) (qW 146 0 (fun u55=>((u55 3).n 0)) (fun u55=>[vI 0,vI 0,vI 0,vI 0,vI 0]) (fun u55=>[vI t57.Op,vI t57.A,vI t57.B,vI t57.C.Lo,vI t57.C.Hi]) 110) (fun _=>by kernel_rfl))<|.nil) [5,6,8,11,12,14,15,16,40,41,45,46,47,123,124,126,127,128,146,900020,900032,999999] fun u55 a w' H=>?_
          refine qv ?_
          refine qg qd H (.v 52 (vP ((u55 3).n 0) 0) <|
 .cons [53] (qf (vI t57.Op) 53 146 0 1 ((u55 3).n 0) [vI t57.Op,vI t57.A,vI t57.B,vI t57.C.Lo,vI t57.C.Hi] 110) <|
 .v 54 (.bool (t57.Op == 2))<|.nil) [5,6,8,11,12,14,15,16,40,41,45,46,47,54,123,124,126,127,128,146,900020,900032,999999] fun u58 a w' H=>?_
          refine Qx H (t57.Op == 2) (fun c82=>?_) fun c82=>?_
          ·rw [if_pos c82] at G
           refine qv ?_
           replace G:=gd G; obtain ⟨b60,G⟩:=G
           obtain ⟨t61,ht61,G⟩:=qP G
           obtain ⟨p_t61,c_t61,y_t61⟩:=Yf h_x48 ht61
           have P62:=Xh (en:=Qs) (l:=L_x48) (XS (H.at (K:=qt p_x48 c_x48 L_x48) 900032 (by kernel_rfl))).row.2 qR
           replace G:=gd G; obtain ⟨b63,G⟩:=G
           obtain ⟨t64,ht64,G⟩:=qP G
           obtain ⟨p_t64,c_t64,y_t64⟩:=Yf h_x11 ht64
           have P65:=Xh (en:=Qs) (l:=L_x11) (XS (H.at (K:=qt p_x11 c_x11 L_x11) 900020 (by kernel_rfl))).row.2 qR
           replace G:=gd G; obtain ⟨b66,G⟩:=G
           obtain ⟨t67,ht67,G⟩:=qP G
           have P68:=Xh (en:=qa) (l:=t64) ((XS (H.at (K:=qt p_x11 c_x11 L_x11) 900020 (by kernel_rfl))).one y_t64).2 qe
           replace G:=gd G; obtain ⟨b69,G⟩:=G
           replace G:=gd G; obtain ⟨b70,G⟩:=G
           obtain ⟨t71,ht71,G⟩:=qP G
           obtain ⟨p_t71,c_t71,y_t71⟩:=Yf h_x48 ht71
           refine Qt qd H (.v 55 (.slice p_x48 L_x48.length c_x48) <|
 .v 56 (vI x49) <|
 .v 57 (.slice p_x48 L_x48.length c_x48) <|
 .v 58 (vI x49) <|
 .cons [59] (qn (fun u59=>.pointer (some ⟨Xf p_x48,Xg p_x48+x49.toNat * 1,none⟩)) 59 (hv:=fun _ _=>qM (t:=195) (k:=.i64) (i:=x49) (p:=p_x48) (n:=L_x48.length) (cap:=c_x48) (x:=x48) P62 (qT h_x48) b60 (by kernel_rfl))) <|
 .cons [60] (qG 900032 (qt p_x48 c_x48 L_x48) (.slice p_t61 t61.length c_t61) 60 fun _ w h=>Ym Qs (XS h).row.2 qR y_t61 0 1 [.slice p_t61 t61.length c_t61]) <|
 .v 61 (.slice p_x11 L_x11.length c_x11) <|
 .v 62 (vP ((u55 3).n 0) 1) <|
 .cons [63] (qf (vI t57.A) 63 146 1 1 ((u55 3).n 0) [vI t57.Op,vI t57.A,vI t57.B,vI t57.C.Lo,vI t57.C.Hi] 110) <|
 .cons [64] (qn (fun u59=>.pointer (some ⟨Xf p_x11,Xg p_x11+t57.A.toNat * 1,none⟩)) 64 (hv:=fun _ _=>qM (t:=195) (k:=.i64) (i:=t57.A) (p:=p_x11) (n:=L_x11.length) (cap:=c_x11) (x:=x11) P65 (qT h_x11) b63 (by kernel_rfl))) <|
 .cons [65] (qG 900020 (qt p_x11 c_x11 L_x11) (.slice p_t64 t64.length c_t64) 65 fun _ w h=>Ym Qs (XS h).row.2 qR y_t64 0 1 [.slice p_t64 t64.length c_t64]) <|
 .v 66 (vI x13) <|
 .cons [67] (qn (fun u59=>.pointer (some ⟨Xf p_t64,Xg p_t64+x13.toNat * 2,none⟩)) 67 (hv:=fun _ _=>qM (t:=48) (k:=.i64) (i:=x13) (p:=p_t64) (n:=t64.length) (cap:=c_t64) (x:=t64) P68 rfl b66 (by kernel_rfl))) <|
 .cons [68] (qG 900020 (qt p_x11 c_x11 L_x11) (.agg #[vI t67.Lo,vI t67.Hi]) 68 fun _ w h=>Ym qa ((XS h).one y_t64).2 qe ht67 0 2 [vI t67.Lo,vI t67.Hi]) <|
 .cons [69,147] (qs (fun b=>.slice (some ⟨b,0,none⟩) 1 1) (fun u59=>[vI t67.Lo,vI t67.Hi]) 46 69 147) <|
 .cons [70,900032,900032] (XC [14] [147] (fun u59=>[.blk ((u59 14).n 0) [vI t67.Lo,vI t67.Hi] 46]) 900032 (fun u59=>qt p_x48 c_x48 L_x48) (some 70) (fun u59 g=>.slice (g.o 0) (t61++[t67]).length (g.n 0)) (fun u59 g=>Zn 48 46 2 qa p_x48 L_x48.length c_x48 L_x48 (L_x48.set x49.toNat (⟨(g.o 0),(g.n 0),(t61++[t67])⟩:Sl qb))) (fun u59 w hF hK=>qcu hK y_t61 (l':=(t61++[t67])) (fun h=>Yy (t:=48) (ty:=48) (en:=qa) qe JT h hF.1 (news:=[t67]) rfl (by simp) (by kernel_rfl) b69)) (hloc:=fun u u' h=>⟨by first | rfl | simp only [h 14 (by decide)],by first | rfl | simp only [h 14 (by decide)],by first | rfl | simp only [h 14 (by decide)],by first | rfl | simp only [h 14 (by decide)]⟩)) <|
 .cons [71] (qn (fun u59=>.pointer (some ⟨Xf p_x48,Xg p_x48+x49.toNat * 1,none⟩)) 71 (hv:=fun _ _=>qM (t:=195) (k:=.i64) (i:=x49) (p:=p_x48) (n:=L_x48.length) (cap:=c_x48) (x:=x48) P62 (qT h_x48) b70 (by kernel_rfl))) <|
 .cons [900032,900032] (XC [15] [] (fun u59=>[]) 900032 (fun u59=>Zn 48 46 2 qa p_x48 L_x48.length c_x48 L_x48 (L_x48.set x49.toNat (⟨((u59 15).o 0),((u59 15).n 0),(t61++[t67])⟩:Sl qb))) none (fun u59 g=>.nilFunc) (fun u59 g=>Qp p_x48 L_x48.length c_x48 (L_x48.set x49.toNat (⟨((u59 15).o 0),((u59 15).n 0),(t61++[t67])⟩:Sl qb))) (fun u59 w hF hK=>qd4 hK (fun h=>XK (en:=Qs) h qR (y:=(⟨((u59 15).o 0),((u59 15).n 0),(t61++[t67])⟩:Sl qb)) (vs:=[.slice ((u59 15).o 0) ((t61++[t67]).length) ((u59 15).n 0)]) y_t71 0 (by simp) (by simp) rfl (by kernel_rfl))) (hloc:=fun u u' h=>⟨by first | rfl | simp only [h 15 (by decide)],by first | rfl | simp only [h 15 (by decide)],by first | rfl | simp only [h 15 (by decide)],by first | rfl | simp only [h 15 (by decide)]⟩))<|.nil) [5,6,8,11,12,14,40,41,45,46,47,123,124,126,127,128,900020,900032,999999] fun u59 a w' H=>?_
           refine Yk rfl ?_
           obtain rfl:=sj G
           replace H:=H.move (K:=Qp p_x48 L_x48.length c_x48 (L_x48.set x49.toNat (⟨((u59 15).o 0),((u59 15).n 0),(t61++[t67])⟩:Sl qb))) 900032 900034 (by kernel_rfl) (by intro _ _ h; cases h)
           exact ⟨p_x48,c_x48,L_x48.length,(L_x48.set x49.toNat (⟨((u59 15).o 0),((u59 15).n 0),(t61++[t67])⟩:Sl qb)),by simp,(map_set h_x48 x49.toNat (⟨((u59 15).o 0),((u59 15).n 0),(t61++[t67])⟩:Sl qb)),H.toM _⟩
          ·rw [if_neg (nt c82)] at G
           refine Qf ?_
           replace G:=gd G; obtain ⟨b73,G⟩:=G
           obtain ⟨t74,ht74,G⟩:=qP G
           obtain ⟨p_t74,c_t74,y_t74⟩:=Yf h_x48 ht74
           have P75:=Xh (en:=Qs) (l:=L_x48) (XS (H.at (K:=qt p_x48 c_x48 L_x48) 900032 (by kernel_rfl))).row.2 qR
           replace G:=gd G; obtain ⟨b76,G⟩:=G
           obtain ⟨t77,ht77,G⟩:=qP G
           obtain ⟨p_t77,c_t77,y_t77⟩:=Yf h_x48 ht77
           obtain ⟨t78,ht78,G⟩:=qP G
           replace G:=gd G; obtain ⟨b79,G⟩:=G
           replace G:=gd G; obtain ⟨b80,G⟩:=G
           obtain ⟨t81,ht81,G⟩:=qP G
           obtain ⟨p_t81,c_t81,y_t81⟩:=Yf h_x48 ht81
           refine ZC qd H (.v 72 (.slice p_x48 L_x48.length c_x48) <|
 .v 73 (vI x49) <|
 .v 74 (.slice p_x48 L_x48.length c_x48) <|
 .v 75 (vI x49) <|
 .cons [76] (qn (fun u72=>.pointer (some ⟨Xf p_x48,Xg p_x48+x49.toNat * 1,none⟩)) 76 (hv:=fun _ _=>qM (t:=195) (k:=.i64) (i:=x49) (p:=p_x48) (n:=L_x48.length) (cap:=c_x48) (x:=x48) P75 (qT h_x48) b73 (by kernel_rfl))) <|
 .cons [77] (qG 900032 (qt p_x48 c_x48 L_x48) (.slice p_t74 t74.length c_t74) 77 fun _ w h=>Ym Qs (XS h).row.2 qR y_t74 0 1 [.slice p_t74 t74.length c_t74]) <|
 .cons [78] (qf (.agg #[.func (.func 130) #[] #[],.func (.func 110) #[] #[],.func (.func 90) #[] #[],.func (.func 92) #[] #[],.func (.func 127) #[] #[],.func (.func 91) #[] #[],.func (.func 131) #[] #[],.func (.func 132) #[] #[],.func (.func 133) #[] #[]]) 78 126 0 9 ((u1 0).n 0) [.func (.func 130) #[] #[],.func (.func 110) #[] #[],.func (.func 90) #[] #[],.func (.func 92) #[] #[],.func (.func 127) #[] #[],.func (.func 91) #[] #[],.func (.func 131) #[] #[],.func (.func 132) #[] #[],.func (.func 133) #[] #[]] 215) <|
 .cons [79] (qf (.agg #[vI t57.Op,vI t57.A,vI t57.B,vI t57.C.Lo,vI t57.C.Hi]) 79 146 0 5 ((u55 3).n 0) [vI t57.Op,vI t57.A,vI t57.B,vI t57.C.Lo,vI t57.C.Hi] 110) <|
 .v 80 (.slice p_x48 L_x48.length c_x48) <|
 .v 81 (.slice p_x48 L_x48.length c_x48) <|
 .v 82 (vI x49) <|
 .cons [83] (qn (fun u72=>.pointer (some ⟨Xf p_x48,Xg p_x48+x49.toNat * 1,none⟩)) 83 (hv:=fun _ _=>qM (t:=195) (k:=.i64) (i:=x49) (p:=p_x48) (n:=L_x48.length) (cap:=c_x48) (x:=x48) P75 (qT h_x48) b76 (by kernel_rfl))) <|
 .cons [84] (qG 900032 (qt p_x48 c_x48 L_x48) (.slice p_t77 t77.length c_t77) 84 fun _ w h=>Ym Qs (XS h).row.2 qR y_t77 0 1 [.slice p_t77 t77.length c_t77]) <|
 .cons [85] (qf (.agg #[vI a3.Lo,vI a3.Hi]) 85 128 0 2 ((u1 2).n 0) [vI a3.Lo,vI a3.Hi] 46) <|
 .cons [86] (QX [900032,999999] (fun u72=>[qt p_x48 c_x48 L_x48,gk]) 135 _ _ 86 (fun u72 w hF=>Xv.calls k0 (⟨t57.Op,t57.A,t57.B,(⟨t57.C.Lo,t57.C.Hi⟩:qb)⟩:qh) x48 t77 a3 p_x48 c_x48 L_x48 p_t77 c_t77 t78 w h_x48 ⟨(Z9 (XS hF.1).row),(dnA (XS hF.1).all),(Z9 ((XS hF.1).one y_t77)),hF.2.1,trivial⟩ ht78)) <|
 .cons [87,150] (qs (fun b=>.slice (some ⟨b,0,none⟩) 1 1) (fun u72=>[vI t78.Lo,vI t78.Hi]) 46 87 150) <|
 .cons [88,900032,900032] (XC [15] [150] (fun u72=>[.blk ((u72 15).n 0) [vI t78.Lo,vI t78.Hi] 46]) 900032 (fun u72=>qt p_x48 c_x48 L_x48) (some 88) (fun u72 g=>.slice (g.o 0) (t74++[t78]).length (g.n 0)) (fun u72 g=>Zn 48 46 2 qa p_x48 L_x48.length c_x48 L_x48 (L_x48.set x49.toNat (⟨(g.o 0),(g.n 0),(t74++[t78])⟩:Sl qb))) (fun u72 w hF hK=>qcu hK y_t74 (l':=(t74++[t78])) (fun h=>Yy (t:=48) (ty:=48) (en:=qa) qe JT h hF.1 (news:=[t78]) rfl (by simp) (by kernel_rfl) b79)) (hloc:=fun u u' h=>⟨by first | rfl | simp only [h 15 (by decide)],by first | rfl | simp only [h 15 (by decide)],by first | rfl | simp only [h 15 (by decide)],by first | rfl | simp only [h 15 (by decide)]⟩)) <|
 .cons [89] (qn (fun u72=>.pointer (some ⟨Xf p_x48,Xg p_x48+x49.toNat * 1,none⟩)) 89 (hv:=fun _ _=>qM (t:=195) (k:=.i64) (i:=x49) (p:=p_x48) (n:=L_x48.length) (cap:=c_x48) (x:=x48) P75 (qT h_x48) b80 (by kernel_rfl))) <|
 .cons [900032,900032] (XC [16] [] (fun u72=>[]) 900032 (fun u72=>Zn 48 46 2 qa p_x48 L_x48.length c_x48 L_x48 (L_x48.set x49.toNat (⟨((u72 16).o 0),((u72 16).n 0),(t74++[t78])⟩:Sl qb))) none (fun u72 g=>.nilFunc) (fun u72 g=>Qp p_x48 L_x48.length c_x48 (L_x48.set x49.toNat (⟨((u72 16).o 0),((u72 16).n 0),(t74++[t78])⟩:Sl qb))) (fun u72 w hF hK=>qd4 hK (fun h=>XK (en:=Qs) h qR (y:=(⟨((u72 16).o 0),((u72 16).n 0),(t74++[t78])⟩:Sl qb)) (vs:=[.slice ((u72 16).o 0) ((t74++[t78]).length) ((u72 16).n 0)]) y_t81 0 (by simp) (by simp) rfl (by kernel_rfl))) (hloc:=fun u u' h=>⟨by first | rfl | simp only [h 16 (by decide)],by first | rfl | simp only [h 16 (by decide)],by first | rfl | simp only [h 16 (by decide)],by first | rfl | simp only [h 16 (by decide)]⟩))<|.nil) (by kernel_rfl) fun u72 a w' H=>?_
           replace H:=H.kp [5,6,8,11,12,14,40,41,45,46,47,123,124,126,127,128,900020,900032,999999]
           obtain rfl:=sj G
           replace H:=H.move (K:=Qp p_x48 L_x48.length c_x48 (L_x48.set x49.toNat (⟨((u72 16).o 0),((u72 16).n 0),(t74++[t78])⟩:Sl qb))) 900032 900034 (by kernel_rfl) (by intro _ _ h; cases h)
           exact ⟨p_x48,c_x48,L_x48.length,(L_x48.set x49.toNat (⟨((u72 16).o 0),((u72 16).n 0),(t74++[t78])⟩:Sl qb)),by simp,(map_set h_x48 x49.toNat (⟨((u72 16).o 0),((u72 16).n 0),(t74++[t78])⟩:Sl qb)),H.toM _⟩
        ·rw [if_neg (nt c83)] at G
         refine Yk rfl ?_
         obtain rfl:=sj G
         replace H:=H.move (K:=qt p_x48 c_x48 L_x48) 900032 900028 (by kernel_rfl) (by intro _ _ h; cases h)
         exact ⟨p_x48,c_x48,L_x48.length,L_x48,rfl,h_x48,H.toM _⟩
    ·rw [if_neg (nt c84)] at G
     refine Yk rfl ?_
     obtain rfl:=sj G
     replace H:=H.move (K:=qt p_x11 c_x11 L_x11) 900020 900018 (by kernel_rfl) (by intro _ _ h; cases h)
     exact ⟨p_x11,c_x11,L_x11.length,L_x11,rfl,h_x11,H.toM _⟩
 ·clear G; replace G:=hj6; clear hj6
  refine qg qd H (.v 26 (.slice ((u2 2).o 0) ((List.replicate a1.N.toNat (⟨none,0,[]⟩:Sl qb)).length) ((u2 2).n 0)) <|
 .cons [27] (qG 129 (qt ((u2 2).o 0) ((u2 2).n 0) (List.replicate a1.N.toNat (⟨none,0,[]⟩:Sl qb))) (vI ((List.replicate a1.N.toNat ([]:List qb)).length:Int)) 27 fun _ w h=>Yt (((XS h).row.2.len qR (by decide)).trans (qT (V4 (er:=Sl.l) a1.N.toNat (⟨none,0,[]⟩:Sl qb))).symm) (by kernel_rfl)) <|
 .v 28 (vI 0)<|.nil) [2,4,5,6,8,11,12,27,28,123,124,125,126,127,128,129,130,999999] fun u85 a w' H=>?_
  refine q6 ?_
  replace H:=H.move (K:=qt ((u2 2).o 0) ((u2 2).n 0) (List.replicate a1.N.toNat (⟨none,0,[]⟩:Sl qb))) 129 900036 (by kernel_rfl) (by intro _ _ h; cases h)
  refine XP (fun m a w'=>∃ x86:List (List qb),∃ x87:Int,qm.l88 k0 a1 a2 a3 a4 m x86 x87=some j6 ∧ ∃ (p_x86:Option Addr) (c_x86 np_x86:Nat) (L_x86:List (Sl qb)),np_x86=L_x86.length∧x86=L_x86.map Sl.l∧RL w 123 [(2,sS p_a2 a2.length c_a2),(4,sI a4),(5,(sP ((u1 0).n 0) 0)),(6,(sP ((u1 1).n 0) 0)),(8,(sP ((u1 2).n 0) 0)),(11,sS p_x86 np_x86 c_x86),(12,(sS ((u2 6).o 0) ((List.replicate (a1.L.length:Int).toNat (⟨none,0,[]⟩:Sl qb)).length) ((u2 6).n 0))),(27,(sI ((List.replicate a1.N.toNat ([]:List qb)).length:Int))),(28,sI x87),(123,qB qk 5 p_a1_L c_a1_L a1.L qi),(124,qB qk 1 p_a1_Out c_a1_Out a1.Out Qn),(125,qB qk 2 p_a2 c_a2 a2 qa),(126,.blk ((u1 0).n 0) [.func (.func 130) #[] #[],.func (.func 110) #[] #[],.func (.func 90) #[] #[],.func (.func 92) #[] #[],.func (.func 127) #[] #[],.func (.func 91) #[] #[],.func (.func 131) #[] #[],.func (.func 132) #[] #[],.func (.func 133) #[] #[]] 215),(127,.blk ((u1 1).n 0) [vI a1.N,.slice p_a1_L a1.L.length c_a1_L,.slice p_a1_Out a1.Out.length c_a1_Out] 38),(128,.blk ((u1 2).n 0) [vI a3.Lo,vI a3.Hi] 46),(130,qt ((u2 6).o 0) ((u2 6).n 0) (List.replicate (a1.L.length:Int).toNat (⟨none,0,[]⟩:Sl qb))),(900036,Qp p_x86 np_x86 c_x86 L_x86),(999999,gk)] a w') k0 ⟨_,_,G,((u2 2).o 0),((u2 2).n 0),(List.replicate a1.N.toNat (⟨none,0,[]⟩:Sl qb)).length,(List.replicate a1.N.toNat (⟨none,0,[]⟩:Sl qb)),rfl,(V4 (er:=Sl.l) a1.N.toNat (⟨none,0,[]⟩:Sl qb)),H.toM _⟩ ?_
  clear G H
  rintro (_ | k) a w' ⟨x86,x87,G,p_x86,c_x86,_,L_x86,rfl,h_x86,H⟩
  ·exact absurd G (by unfold qm.l88; exact fun h=>by cases h)
  ·unfold qm.l88 at G
   refine qg qd H (.v 29 (.bool (decide (x87<((List.replicate a1.N.toNat ([]:List qb)).length:Int))))<|.nil) [2,4,5,6,8,11,12,27,28,29,123,124,125,126,127,128,130,900036,999999] fun u89 a w' H=>?_
   refine qv ?_
   refine Qx H (decide (x87<((List.replicate a1.N.toNat ([]:List qb)).length:Int))) (fun c97=>?_) fun c97=>?_
   ·rw [if_pos c97] at G
    refine Qf ?_
    refine qv ?_
    refine q6 ?_
    refine qg qd H (.v 30 (vI x87) <|
 .v 13 (vI x87)<|.nil) [2,4,5,6,8,11,12,13,27,28,123,124,125,126,127,128,130,900036,999999] fun u90 a w' H=>?_
    replace G:=gd G; obtain ⟨b92,G⟩:=G
    obtain ⟨t93,ht93,G⟩:=qP G
    replace G:=gd G; obtain ⟨b94,G⟩:=G
    obtain ⟨t95,ht95,G⟩:=qP G
    obtain ⟨p_t95,c_t95,y_t95⟩:=Yf h_x86 ht95
    refine Qt qd H (.v 31 (.slice p_x86 L_x86.length c_x86) <|
 .v 32 (vI x87) <|
 .v 33 (.slice p_a2 a2.length c_a2) <|
 .v 34 (vI x87) <|
 .cons [35] (qG 125 (qB qk 2 p_a2 c_a2 a2 qa) (.pointer (some ⟨Xf p_a2,Xg p_a2+x87.toNat * 2,none⟩)) 35 fun _ w h=>Jo 48 .i64 x87 p_a2 a2.length c_a2 a2 qa (qj h).2 qe rfl b92) <|
 .cons [36] (qG 125 (qB qk 2 p_a2 c_a2 a2 qa) (.agg #[vI t93.Lo,vI t93.Hi]) 36 fun _ w h=>Ym qa (qj h).2 qe ht93 0 2 [vI t93.Lo,vI t93.Hi]) <|
 .cons [37,163] (qaG 2 1 (qs (fun b=>.slice (some ⟨b,0,none⟩) 1 1) (fun u91=>[vI t93.Lo,vI t93.Hi]) 46 37 163) (fun _=>rfl) (by decide)) <|
 .cons [38] (qG 900036 (qt p_x86 c_x86 L_x86) (.pointer (some ⟨Xf p_x86,Xg p_x86+x87.toNat * 1,none⟩)) 38 fun _ w h=>Jo 195 .i64 x87 p_x86 L_x86.length c_x86 x86 Qs (XS h).row.2 qR (qT h_x86) b94) <|
 .cons [900036,163,900036] (qa7 [6] [] (fun u91=>[]) 900036 163 (fun u91=>qt p_x86 c_x86 L_x86) (fun u91=>X6 46 2 (some ⟨((u91 6).n 0),0,none⟩) 1 1 (([t93]:List qb).flatMap qa)) none (fun u91 g=>.nilFunc) (fun u91 g=>Qp p_x86 L_x86.length c_x86 (L_x86.set x87.toNat (⟨(some ⟨((u91 6).n 0),0,none⟩),1,([t93]:List qb)⟩:Sl qb))) (fun u91 w hF hK hK2 hd=>qcM hK hK2 hd qe (by decide) (fun hn h=>XK (en:=Qs) h qR (y:=(⟨(some ⟨((u91 6).n 0),0,none⟩),1,([t93]:List qb)⟩:Sl qb)) (vs:=[.slice (some ⟨((u91 6).n 0),0,none⟩) 1 1]) y_t95 0 (by simp) (by simp) rfl (by kernel_rfl))) (hloc:=fun u u' h=>⟨by first | rfl | simp only [h 6 (by decide)],by first | rfl | simp only [h 6 (by decide)],by first | rfl | simp only [h 6 (by decide)],by first | rfl | simp only [h 6 (by decide)],by first | rfl | simp only [h 6 (by decide)]⟩))<|.nil) [2,4,5,6,8,11,12,27,28,123,124,125,126,127,128,130,900036,999999] fun u91 a w' H=>?_
    refine Qt qd H (.v 39 (vI (qc (x87+1))) <|
 .v 28 (vI (qc (x87+1)))<|.nil) [2,4,5,6,8,11,12,27,28,123,124,125,126,127,128,130,900036,999999] fun u96 a w' H=>?_
    exact ⟨k,Nat.lt_succ_self k,_,_,G,p_x86,c_x86,L_x86.length,(L_x86.set x87.toNat (⟨(some ⟨((u91 6).n 0),0,none⟩),1,([t93]:List qb)⟩:Sl qb)),by simp,(map_set h_x86 x87.toNat (⟨(some ⟨((u91 6).n 0),0,none⟩),1,([t93]:List qb)⟩:Sl qb)),H.toM _⟩
   ·rw [if_neg (nt c97)] at G
    refine Yk rfl ?_
    obtain rfl:=sj G
    replace H:=H.move (K:=qt p_x86 c_x86 L_x86) 900036 900016 (by kernel_rfl) (by intro _ _ h; cases h)
    exact ⟨p_x86,c_x86,L_x86.length,L_x86,rfl,h_x86,H.toM _⟩
theorem Q7.calls (k0:Nat) (a0:QE) (a1:List qb) (a2:qb) (a3:Int) (p_a0_L:Option Addr) (c_a0_L:Nat) (p_a0_Out:Option Addr) (c_a0_Out:Nat) (p_a1:Option Addr) (c_a1:Nat) (r:List (List qb)) (w:World) (hB:Xx [qB qk 5 p_a0_L c_a0_L a0.L qi,qB qk 1 p_a0_Out c_a0_Out a0.Out Qn,qB qk 2 p_a1 c_a1 a1 qa,gk] w) (G:Q7 k0 a0 a1 a2 a3=some r) :
  Calls Tryz.prog 99 #[.agg #[vI a0.N,.slice p_a0_L a0.L.length c_a0_L,.slice p_a0_Out a0.Out.length c_a0_Out],.slice p_a1 a1.length c_a1,.agg #[vI a2.Lo,vI a2.Hi],vI a3] w fun e w'=>∃ g:Gh,e = .returned (slgd_S_TInterval g 0 r)∧Zg (Y4 []) w w'∧Ys w.heap.size (Y4 []) (JH w.heap.size []) [fun _=>ns_en_TIntervalg g 0 r] w':=by
 obtain ⟨fr,hfr,hBf⟩:=VE w []
 refine QO (args:=[.agg #[vI a0.N,.slice p_a0_L a0.L.length c_a0_L,.slice p_a0_Out a0.Out.length c_a0_Out],.slice p_a1 a1.length c_a1,.agg #[vI a2.Lo,vI a2.Hi],vI a3]) 15 [(15,qB qk 5 p_a0_L c_a0_L a0.L qi),(16,qB qk 1 p_a0_Out c_a0_Out a0.Out Qn),(17,qB qk 2 p_a1 c_a1 a1 qa),(999999,gk)] (by
  intro x hx
  simp only [List.mem_cons,List.not_mem_nil,or_false] at hx
  rcases hx with rfl | rfl | rfl | rfl
  ·exact qy (qj hB.1) (fun _ _=>trivial) (by decide) _
  ·exact qy (qj hB.2.1) (fun _ _=>trivial) (by decide) _
  ·exact qy (qj hB.2.2.1) (fun _ _=>trivial) (by decide) _
  ·exact ⟨⟨_,_,rfl⟩,hB.2.2.2.1,Yl (QM hB.2.2.2.1)⟩) Tryz.func99 rfl (by kernel_rfl) (by kernel_rfl) fun a H=>?_
 unfold Q7 at G
 refine qg qd H (.cons [4,18] (qs (fun b=>vP b 0) (fun u1=>[vI a0.N,.slice p_a0_L a0.L.length c_a0_L,.slice p_a0_Out a0.Out.length c_a0_Out]) 38 4 18) <|
 .cons [6,19] (qs (fun b=>vP b 0) (fun u1=>[vI a2.Lo,vI a2.Hi]) 46 6 19) <|
 .v 8 (.slice none 0 0)<|.nil) [1,3,4,6,15,16,17,18,19,999999] fun u1 a w' H=>?_
 refine qv ?_
 obtain ⟨t3,ht3,G⟩:=qP G
 refine ZC qd H (.cons [9] (qq 120 _ _ 9 [] (fun u2 w _=>series_intervals.calls w)) <|
 .cons [10] (qf (.agg #[vI a0.N,.slice p_a0_L a0.L.length c_a0_L,.slice p_a0_Out a0.Out.length c_a0_Out]) 10 18 0 3 ((u1 0).n 0) [vI a0.N,.slice p_a0_L a0.L.length c_a0_L,.slice p_a0_Out a0.Out.length c_a0_Out] 38) <|
 .v 11 (.slice p_a1 a1.length c_a1) <|
 .cons [12] (qf (.agg #[vI a2.Lo,vI a2.Hi]) 12 19 0 2 ((u1 1).n 0) [vI a2.Lo,vI a2.Hi] 46) <|
 .v 13 (vI a3) <|
 .cons [14,20] (QI false fr [] [15,16,17,999999] (fun u2=>[qB qk 5 p_a0_L c_a0_L a0.L qi,qB qk 1 p_a0_Out c_a0_Out a0.Out Qn,qB qk 2 p_a1 c_a1 a1 qa,gk]) [] (fun u2=>[]) 121 _ _ _ _ _ [20] 14 (fun u2 w hB hF hM=>qm.calls k0 (⟨a0.N,a0.L,a0.Out⟩:QE) a1 a2 a3 p_a0_L c_a0_L p_a0_Out c_a0_Out p_a1 c_a1 t3 w  hB ht3) (fun u2 w hF=>⟨⟨q9 (qj hF.1) (fun j h=>⟨_,(.head _),h⟩),q9 (qj hF.2.1) (fun j h=>⟨_,(.tail _ (.head _)),h⟩),q9 (qj hF.2.2.1) (fun j h=>⟨_,(.tail _ (.tail _ (.head _))),h⟩),Z6 hF.2.2.2.1 (.tail _ (.tail _ (.tail _ (.head _)))),trivial⟩,trivial⟩) (fun u2 g=>(ql Jb qC)) (.inr (fun u2 g=>(Qv trivial (fun K h=>by cases h)))) (fun h=>by cases h)) <|
 .cons [8] (qn (fun u2=>slgd_S_TInterval (u2 5) 0 t3) 8)<|.nil) (by kernel_rfl) fun u2 a w' H=>?_
 replace H:=H.kp [8,20,999999]
 refine qF ?_
 obtain rfl:=sj G
 obtain ⟨g,o0,n0,d0⟩:=qb6 ZE ((u2 5).o 0) ((u2 5).n 0) (XL ZG (u2 5) 0 t3)
 refine QR H _ g _ _ _ fr [20] [] (slgd_S_TInterval (u2 5) 0 t3) [fun _=>ns_en_TIntervalg (u2 5) 0 t3] (by simp only [slgd_S_TInterval,dlgd_S_TInterval,ns_en_TIntervalg,qt,Qp,Qm,o0,n0,d0]) (by simp only [slgd_S_TInterval,dlgd_S_TInterval,ns_en_TIntervalg,qt,Qp,Qm,o0,n0,d0]) hfr (.inl ⟨rfl,rfl⟩) (ql Jb qC) (by simp)
theorem Yo.calls (a0:Int) (a1:List qb) (q0:Int) (p_a1:Option Addr) (c_a1:Nat) (b_q0:Nat) (r:qb) (w:World) (hB:Xx [qB qk 2 p_a1 c_a1 a1 qa,Xp b_q0 [vI q0] 3] w) (G:Yo a0 a1 q0=some r) :
  Calls Tryz.prog 119 #[vI a0,.slice p_a1 a1.length c_a1,vP b_q0 0] w fun e w'=>e = .returned (.agg #[vI r.Lo,vI r.Hi])∧Below w.heap.size w w':=by
 obtain ⟨fr,hfr⟩:∃ fr:Nat→Prop,∀ j,fr j:=⟨fun _=>True,fun _=>trivial⟩
 have hBf:∀ j,w.heap.size≤j→fr j:=fun j _=>hfr j
 refine QO (args:=[vI a0,.slice p_a1 a1.length c_a1,vP b_q0 0]) 11 [(11,qB qk 2 p_a1 c_a1 a1 qa),(12,Xp b_q0 [vI q0] 3)] (by
  intro x hx
  simp only [List.mem_cons,List.not_mem_nil,or_false] at hx
  rcases hx with rfl | rfl
  ·exact qy (qj hB.1) (fun _ _=>trivial) (by decide) _
  ·exact QV (hB.2.1 w (agree.refl _ _)) _) Tryz.func119 rfl (by kernel_rfl) (by kernel_rfl) fun a H=>?_
 unfold Yo at G
 refine qg qd H (.cons [5,13] (qs (fun b=>vP b 0) (fun u1=>[vI 0,vI 0]) 46 5 13)<|.nil) [1,2,5,11,13,12] fun u1 a w' H=>?_
 refine qv ?_
 replace G:=gd G; obtain ⟨b3,G⟩:=G
 obtain ⟨t4,ht4,G⟩:=qP G
 refine Qt qd H (.v 6 (.slice p_a1 a1.length c_a1) <|
 .cons [7] (Q8 (fun u2=>vI q0) 7 12 (Xp b_q0 [vI q0] 3) b_q0 0 1 [vI q0] (fun w h=>Zf h)) <|
 .v 8 (vI (qc (q0+1))) <|
 .cons [9] (qG 11 (qB qk 2 p_a1 c_a1 a1 qa) (.pointer (some ⟨Xf p_a1,Xg p_a1+((qc (q0+1)).toNat) * 2,none⟩)) 9 fun _ w h=>Jo 48 .i64 (qc (q0+1)) p_a1 a1.length c_a1 a1 qa (qj h).2 qe rfl b3) <|
 .cons [10] (qG 11 (qB qk 2 p_a1 c_a1 a1 qa) (.agg #[vI t4.Lo,vI t4.Hi]) 10 fun _ w h=>Ym qa (qj h).2 qe ht4 0 2 [vI t4.Lo,vI t4.Hi]) <|
 .cons [13] (Qa 13 0 ((u1 0).n 0) [vI 0,vI 0] [vI t4.Lo,vI t4.Hi] 46 [vI t4.Lo,vI t4.Hi])<|.nil) [5,13,12] fun u2 a w' H=>?_
 refine qF ?_
 obtain rfl:=sj G
 exact Qj H _ 13 ((u1 0).n 0) [vI t4.Lo,vI t4.Hi] 46 0 2 (by kernel_rfl) (by kernel_rfl) (by kernel_rfl) (by kernel_rfl)
theorem QA.calls (k0:Nat) (a0:List (List qb)) (a1_0:Int) (p_a0:Option Addr) (c_a0:Nat) (L_a0:List (Sl qb)) (b_a1_0:Nat) (r:List qb) (w:World) (h_a0:a0=L_a0.map Sl.l) (hB:Xx [qB qk 1 p_a0 c_a0 L_a0 Qs,X7 qk Qd.toPart L_a0,Xp b_a1_0 [vI a1_0] 3] w) (G:QA k0 a0 a1_0=some r) :
  Calls Tryz.prog 118 #[.slice p_a0 L_a0.length c_a0,.func (.func 119) #[] #[vP b_a1_0 0]] w fun e w'=>∃ g:Gh,e = .returned (.slice (g.o 0) r.length (g.n 0))∧Zg (Y4 []) w w'∧Ys w.heap.size (Y4 []) (JH w.heap.size []) [fun _=>Qm 46 2 (g.o 0) (g.n 0) r qa] w':=by
 obtain ⟨fr,hfr,hBf⟩:=VE w []
 refine QO (args:=[.slice p_a0 L_a0.length c_a0,.func (.func 119) #[] #[vP b_a1_0 0]]) 27 [(27,qB qk 1 p_a0 c_a0 L_a0 Qs),(28,X7 qk Qd.toPart L_a0),(29,Xp b_a1_0 [vI a1_0] 3)] (by
  intro x hx
  simp only [List.mem_cons,List.not_mem_nil,or_false] at hx
  rcases hx with rfl | rfl | rfl
  ·exact qy (qj hB.1) (fun _ _=>trivial) (by decide) _
  ·exact ZQ (Xl hB.2.1) (fun _ _=>trivial) _
  ·exact QV (hB.2.2.1 w (agree.refl _ _)) _) Tryz.func118 rfl (by kernel_rfl) (by kernel_rfl) fun a H=>?_
 unfold QA at G
 refine qg qd H (.v 4 (.slice none 0 0)<|.nil) [0,1,27,28,29] fun u1 a w' H=>?_
 refine qv ?_
 replace G:=gd G; obtain ⟨b3,G⟩:=G
 refine Qt qd H (.v 8 (.slice p_a0 L_a0.length c_a0) <|
 .cons [9] (qG 27 (qB qk 1 p_a0 c_a0 L_a0 Qs) (vI (a0.length:Int)) 9 fun _ w h=>Yt (((qj h).2.len qR (by decide)).trans (qT h_a0).symm) (by kernel_rfl)) <|
 .cons [10,30] (Z7 [] (fun u2=>[]) 46 2 (List.replicate (a0.length:Int).toNat (⟨0,0⟩:qb)).length ((List.replicate (a0.length:Int).toNat (⟨0,0⟩:qb)).flatMap qa) 10 30 (fun _=>.none) (fun u2 w hF=>Yw (t:=48) (k:=.i64) (m:=(a0.length:Int)) (en:=qa) (z:=(⟨0,0⟩:qb)) qe JT rfl b3 (by kernel_rfl)) (fun _=>.inl rfl)) <|
 .cons [5] (qn (fun u2=>.slice ((u2 2).o 0) ((List.replicate (a0.length:Int).toNat (⟨0,0⟩:qb)).length) ((u2 2).n 0)) 5)<|.nil) [0,1,5,27,28,30,29] fun u2 a w' H=>?_
 refine qv ?_
 obtain ⟨j5,hj5,G⟩:=qP G
 refine Xq (fun a w'=>∃ (p_j4:Option Addr) (c_j4 np_j4:Nat),np_j4=j5.length∧RL w 27 [(5,sS p_j4 np_j4 c_j4),(900038,X6 46 2 p_j4 np_j4 c_j4 (j5.flatMap qa)),(29,Xp b_a1_0 [vI a1_0] 3)] a w') ?_ ?_
 ·clear H; rintro a w' ⟨p_j4,c_j4,_,rfl,H⟩
  refine qg qd H (.v 26 (.slice p_j4 j5.length c_j4) <|
 .v 4 (.slice p_j4 j5.length c_j4)<|.nil) [4,900038,29] fun u6 a w' H=>?_
  refine qF ?_
  obtain rfl:=sj G
  obtain ⟨g,o0,n0⟩:=ZX p_j4 c_j4
  refine QR H _ g _ _ _ fr [900038] [] (.slice p_j4 j5.length c_j4) [fun _=>Qm 46 2 p_j4 c_j4 j5 qa] (by simp only [Qm,o0,n0]) (by simp only [Qm,o0,n0]) hfr (.inl ⟨rfl,rfl⟩) (ql Qw qC) (by simp)
 ·clear G; replace G:=hj5; clear hj5
  refine qg qd H (.v 11 (.slice p_a0 L_a0.length c_a0) <|
 .cons [12] (qG 27 (qB qk 1 p_a0 c_a0 L_a0 Qs) (vI (a0.length:Int)) 12 fun _ w h=>Yt (((qj h).2.len qR (by decide)).trans (qT h_a0).symm) (by kernel_rfl)) <|
 .v 13 (vI 0)<|.nil) [1,5,11,12,13,27,28,30,29] fun u7 a w' H=>?_
  refine q6 ?_
  replace H:=H.move (K:=Qm 46 2 ((u2 2).o 0) ((u2 2).n 0) (List.replicate (a0.length:Int).toNat (⟨0,0⟩:qb)) qa) 30 900039 (by kernel_rfl) (by intro _ _ h; cases h)
  refine XP (fun m a w'=>∃ x8:List qb,∃ x9:Int,QA.l10 k0 a0 a1_0 m x8 x9=some j5 ∧ ∃ (p_x8:Option Addr) (c_x8 np_x8:Nat),np_x8=x8.length∧RL w 27 [(1,.slot true (.func (.func 119) #[] #[vP b_a1_0 0])),(5,sS p_x8 np_x8 c_x8),(11,sS p_a0 L_a0.length c_a0),(12,(sI (a0.length:Int))),(13,sI x9),(27,qB qk 1 p_a0 c_a0 L_a0 Qs),(28,X7 qk Qd.toPart L_a0),(900039,X6 46 2 p_x8 np_x8 c_x8 (x8.flatMap qa)),(29,Xp b_a1_0 [vI a1_0] 3)] a w') k0 ⟨_,_,G,((u2 2).o 0),((u2 2).n 0),(List.replicate (a0.length:Int).toNat (⟨0,0⟩:qb)).length,rfl,H.toM _⟩ ?_
  clear G H
  rintro (_ | k) a w' ⟨x8,x9,G,p_x8,c_x8,_,rfl,H⟩
  ·exact absurd G (by unfold QA.l10; exact fun h=>by cases h)
  ·unfold QA.l10 at G
   refine qg qd H (.v 14 (.bool (decide (x9<(a0.length:Int))))<|.nil) [1,5,11,12,13,14,27,28,900039,29] fun u11 a w' H=>?_
   refine qv ?_
   refine Qx H (decide (x9<(a0.length:Int))) (fun c20=>?_) fun c20=>?_
   ·rw [if_pos c20] at G
    refine Qf ?_
    refine qv ?_
    refine q6 ?_
    refine qv ?_
    replace G:=gd G; obtain ⟨b13,G⟩:=G
    obtain ⟨t14,ht14,G⟩:=qP G
    obtain ⟨p_t14,c_t14,y_t14⟩:=Yf h_a0 ht14
    refine Qt qd H (.v 15 (vI x9) <|
 .cons [16] (qG 27 (qB qk 1 p_a0 c_a0 L_a0 Qs) (.pointer (some ⟨Xf p_a0,Xg p_a0+x9.toNat * 1,none⟩)) 16 fun _ w h=>Jo 195 .i64 x9 p_a0 L_a0.length c_a0 a0 Qs (qj h).2 qR (qT h_a0) b13) <|
 .cons [17] (qG 27 (qB qk 1 p_a0 c_a0 L_a0 Qs) (.slice p_t14 t14.length c_t14) 17 fun _ w h=>Ym Qs (qj h).2 qR y_t14 0 1 [.slice p_t14 t14.length c_t14]) <|
 .v 6 (vI x9) <|
 .v 7 (.slice p_t14 t14.length c_t14)<|.nil) [1,5,6,7,11,12,13,27,28,900039,29] fun u12 a w' H=>?_
    obtain ⟨t16,ht16,G⟩:=qP G
    replace G:=gd G; obtain ⟨b17,G⟩:=G
    obtain ⟨t18,ht18,G⟩:=qP G
    refine Qt qd H (.v 18 (.slice p_x8 x8.length c_x8) <|
 .v 19 (vI x9) <|
 .v 20 (.func (.func 119) #[] #[vP b_a1_0 0]) <|
 .v 21 (vI x9) <|
 .v 22 (.slice p_t14 t14.length c_t14) <|
 .cons [23] (QX [28,29] (fun u15=>[X7 qk Qd.toPart L_a0,Xp b_a1_0 [vI a1_0] 3]) 119 _ _ 23 (fun u15 w hF=>Yo.calls x9 t14 a1_0 p_t14 c_t14 b_a1_0 t16 w  ⟨(Z9 (show XO _ 2 p_t14 t14.length c_t14 (t14.flatMap qa) from ((Xl hF.1) _ (List.mem_of_getElem? y_t14)).1)),(QV (hF.2.1 w (agree.refl _ _)) 0).2.1,trivial⟩ ht16)) <|
 .cons [24] (qG 900039 (Qm 46 2 p_x8 c_x8 x8 qa) (.pointer (some ⟨Xf p_x8,Xg p_x8+x9.toNat * 2,none⟩)) 24 fun _ w h=>Jo 48 .i64 x9 p_x8 x8.length c_x8 x8 qa (qw (Qe h)).2 qe rfl b17) <|
 .cons [900039,900039] (XC [] [] (fun u15=>[]) 900039 (fun u15=>Qm 46 2 p_x8 c_x8 x8 qa) none (fun u15 g=>.nilFunc) (fun u15 g=>X6 46 2 p_x8 x8.length c_x8 ((x8.set x9.toNat t16).flatMap qa)) (fun u15 w hF hK=>ZA (XK (Qe hK) qe (y:=t16) (vs:=[vI t16.Lo,vI t16.Hi]) ht18 0 (by simp) (by simp) rfl (by kernel_rfl))))<|.nil) [1,5,11,12,13,27,28,900039,29] fun u15 a w' H=>?_
    refine Qt qd H (.v 25 (vI (qc (x9+1))) <|
 .v 13 (vI (qc (x9+1)))<|.nil) [1,5,11,12,13,27,28,900039,29] fun u19 a w' H=>?_
    exact ⟨k,Nat.lt_succ_self k,_,_,G,p_x8,c_x8,x8.length,by simp,H.toM _⟩
   ·rw [if_neg (nt c20)] at G
    refine Yk rfl ?_
    obtain rfl:=sj G
    replace H:=H.move (K:=Qm 46 2 p_x8 c_x8 x8 qa) 900039 900038 (by kernel_rfl) (by intro _ _ h; cases h)
    exact ⟨p_x8,c_x8,x8.length,rfl,H.toM _⟩
theorem Yj.calls (k0:Nat) (a0:QE) (a1:List qb) (a2:Q6) (a3:Int) (p_a0_L:Option Addr) (c_a0_L:Nat) (p_a0_Out:Option Addr) (c_a0_Out:Nat) (p_a1:Option Addr) (c_a1:Nat) (r:List qb) (w:World) (hB:Xx [qB qk 5 p_a0_L c_a0_L a0.L qi,qB qk 1 p_a0_Out c_a0_Out a0.Out Qn,qB qk 2 p_a1 c_a1 a1 qa,gk] w) (G:Yj k0 a0 a1 a2 a3=some r) :
  Calls Tryz.prog 97 #[.agg #[vI a0.N,.slice p_a0_L a0.L.length c_a0_L,.slice p_a0_Out a0.Out.length c_a0_Out],.slice p_a1 a1.length c_a1,.agg #[vI a2.T,vI a2.H],vI a3] w fun e w'=>∃ g:Gh,e = .returned (.slice (g.o 0) r.length (g.n 0))∧Zg (Y4 []) w w'∧Ys w.heap.size (Y4 []) (JH w.heap.size []) [fun _=>Qm 46 2 (g.o 0) (g.n 0) r qa] w':=by
 obtain ⟨fr,hfr,hBf⟩:=VE w []
 refine QO (args:=[.agg #[vI a0.N,.slice p_a0_L a0.L.length c_a0_L,.slice p_a0_Out a0.Out.length c_a0_Out],.slice p_a1 a1.length c_a1,.agg #[vI a2.T,vI a2.H],vI a3]) 26 [(26,qB qk 5 p_a0_L c_a0_L a0.L qi),(27,qB qk 1 p_a0_Out c_a0_Out a0.Out Qn),(28,qB qk 2 p_a1 c_a1 a1 qa),(999999,gk)] (by
  intro x hx
  simp only [List.mem_cons,List.not_mem_nil,or_false] at hx
  rcases hx with rfl | rfl | rfl | rfl
  ·exact qy (qj hB.1) (fun _ _=>trivial) (by decide) _
  ·exact qy (qj hB.2.1) (fun _ _=>trivial) (by decide) _
  ·exact qy (qj hB.2.2.1) (fun _ _=>trivial) (by decide) _
  ·exact ⟨⟨_,_,rfl⟩,hB.2.2.2.1,Yl (QM hB.2.2.2.1)⟩) Tryz.func97 rfl (by kernel_rfl) (by kernel_rfl) fun a H=>?_
 unfold Yj at G
 refine qg qd H (.cons [4,29] (qs (fun b=>vP b 0) (fun u1=>[vI a0.N,.slice p_a0_L a0.L.length c_a0_L,.slice p_a0_Out a0.Out.length c_a0_Out]) 38 4 29) <|
 .cons [6,30] (qs (fun b=>vP b 0) (fun u1=>[vI a2.T,vI a2.H]) 53 6 30) <|
 .cons [7,31] (qs (fun b=>vP b 0) (fun u1=>[vI a3]) 3 7 31) <|
 .v 8 (.slice none 0 0)<|.nil) [1,4,6,7,26,27,28,29,30,31,999999] fun u1 a w' H=>?_
 obtain ⟨t3,ht3,G⟩:=qP G
 refine qg qd H (.cons [10] (qf (.agg #[vI a0.N,.slice p_a0_L a0.L.length c_a0_L,.slice p_a0_Out a0.Out.length c_a0_Out]) 10 29 0 3 ((u1 0).n 0) [vI a0.N,.slice p_a0_L a0.L.length c_a0_L,.slice p_a0_Out a0.Out.length c_a0_Out] 38) <|
 .v 11 (.slice p_a1 a1.length c_a1) <|
 .v 12 (vP ((u1 1).n 0) 0) <|
 .cons [13] (qf (vI a2.T) 13 30 0 1 ((u1 1).n 0) [vI a2.T,vI a2.H] 53) <|
 .v 14 (vP ((u1 1).n 0) 0) <|
 .cons [15] (qf (vI a2.T) 15 30 0 1 ((u1 1).n 0) [vI a2.T,vI a2.H] 53) <|
 .v 16 (vP ((u1 1).n 0) 1) <|
 .cons [17] (qf (vI a2.H) 17 30 1 1 ((u1 1).n 0) [vI a2.T,vI a2.H] 53) <|
 .v 18 (vI (qc (a2.T+a2.H))) <|
 .v 19 (.agg #[vI a2.T,vI (qc (a2.T+a2.H))]) <|
 .cons [20] (qf (vI a3) 20 31 0 1 ((u1 2).n 0) [vI a3] 3) <|
 .v 21 (vI (qc (a3+1))) <|
 .cons [22,32] (QI false fr [] [26,27,28,999999] (fun u2=>[qB qk 5 p_a0_L c_a0_L a0.L qi,qB qk 1 p_a0_Out c_a0_Out a0.Out Qn,qB qk 2 p_a1 c_a1 a1 qa,gk]) [] (fun u2=>[]) 99 _ _ _ _ _ [32] 22 (fun u2 w hB hF hM=>Q7.calls k0 (⟨a0.N,a0.L,a0.Out⟩:QE) a1 (⟨a2.T,qc (a2.T+a2.H)⟩:qb) (qc (a3+1)) p_a0_L c_a0_L p_a0_Out c_a0_Out p_a1 c_a1 t3 w  hB ht3) (fun u2 w hF=>⟨⟨q9 (qj hF.1) (fun j h=>⟨_,(.head _),h⟩),q9 (qj hF.2.1) (fun j h=>⟨_,(.tail _ (.head _)),h⟩),q9 (qj hF.2.2.1) (fun j h=>⟨_,(.tail _ (.tail _ (.head _))),h⟩),Z6 hF.2.2.2.1 (.tail _ (.tail _ (.tail _ (.head _)))),trivial⟩,trivial⟩) (fun u2 g=>(ql Jb qC)) (.inr (fun u2 g=>(Qv trivial (fun K h=>by cases h)))) (fun h=>by cases h)) <|
 .cons [9] (qn (fun u2=>slgd_S_TInterval (u2 12) 0 t3) 9)<|.nil) [7,9,31,32,999999] fun u2 a w' H=>?_
 obtain ⟨t5,ht5,G⟩:=qP G
 refine qg qd H (.v 23 (slgd_S_TInterval (u2 12) 0 t3) <|
 .v 24 (.func (.func 119) #[] #[vP ((u1 2).n 0) 0]) <|
 .cons [25,33] (QI false fr [] [32,31] (fun u4=>[ns_en_TIntervalg (u2 12) 0 t3,.blk ((u1 2).n 0) [vI a3] 3]) [] (fun u4=>[]) 118 _ _ _ _ _ [33] 25 (fun u4 w hB hF hM=>QA.calls k0 t3 a3 ((u2 12).o 0) ((u2 12).n 0) (dlgd_S_TInterval (u2 12) 0 t3) ((u1 2).n 0) t5 w (XL ZG (u2 12) 0 t3) hB ht5) (fun u4 w hF=>⟨⟨q9 (XS hF.1).row (fun j h=>⟨_,(.head _),(qbd h)⟩),J7 (XS hF.1).all (fun j h=>⟨_,(.head _),(qba h)⟩),Ze hF.2.1 (.tail _ (.head _)) rfl,trivial⟩,trivial⟩) (fun u4 g=>(ql Qw qC)) (.inr (fun u4 g=>(Qv trivial (fun K h=>by cases h)))) (fun h=>by cases h)) <|
 .cons [8] (qn (fun u4=>.slice ((u4 2).o 0) t5.length ((u4 2).n 0)) 8)<|.nil) [8,33,999999] fun u4 a w' H=>?_
 refine qF ?_
 obtain rfl:=sj G
 obtain ⟨g,o0,n0⟩:=ZX ((u4 2).o 0) ((u4 2).n 0)
 refine QR H _ g _ _ _ fr [33] [] (.slice ((u4 2).o 0) t5.length ((u4 2).n 0)) [fun _=>Qm 46 2 ((u4 2).o 0) ((u4 2).n 0) t5 qa] (by simp only [Qm,o0,n0]) (by simp only [Qm,o0,n0]) hfr (.inl ⟨rfl,rfl⟩) (ql Qw qC) (by simp)
theorem Zt.calls (a0:Bool) (a1:qb) (a2:qb) (r:qb) (w:World) (G:Zt a0 a1 a2=some r) :
  Calls Tryz.prog 67 #[.bool a0,.agg #[vI a1.Lo,vI a1.Hi],.agg #[vI a2.Lo,vI a2.Hi]] w fun e w'=>e = .returned (.agg #[vI r.Lo,vI r.Hi])∧Below w.heap.size w w':=by
 refine QD (args:=[.bool a0,.agg #[vI a1.Lo,vI a1.Hi],.agg #[vI a2.Lo,vI a2.Hi]]) 10 Tryz.func67 rfl (by kernel_rfl) (by kernel_rfl) fun a H=>?_
 unfold Zt at G
 refine qg qd H (.cons [4,10] (qs (fun b=>vP b 0) (fun u1=>[vI a1.Lo,vI a1.Hi]) 46 4 10) <|
 .cons [5,11] (qs (fun b=>vP b 0) (fun u1=>[vI a2.Lo,vI a2.Hi]) 46 5 11) <|
 .cons [6,12] (qs (fun b=>vP b 0) (fun u1=>[vI 0,vI 0]) 46 6 12)<|.nil) [0,4,5,6,10,11,12] fun u1 a w' H=>?_
 refine qv ?_
 refine qg qd H (.v 7 (.bool a0)<|.nil) [4,5,6,7,10,11,12] fun u2 a w' H=>?_
 refine Qx H a0 (fun c5=>?_) fun c5=>?_
 ·rw [if_pos c5] at G
  refine qg qd H (.cons [8] (qf (.agg #[vI a1.Lo,vI a1.Hi]) 8 10 0 2 ((u1 0).n 0) [vI a1.Lo,vI a1.Hi] 46) <|
 .cons [12] (Qa 12 0 ((u1 2).n 0) [vI 0,vI 0] [vI a1.Lo,vI a1.Hi] 46 [vI a1.Lo,vI a1.Hi])<|.nil) [6,12] fun u3 a w' H=>?_
  refine qF ?_
  obtain rfl:=sj G
  exact Qj H _ 12 ((u1 2).n 0) [vI a1.Lo,vI a1.Hi] 46 0 2 (by kernel_rfl) (by kernel_rfl) (by kernel_rfl) (by kernel_rfl)
 ·rw [if_neg (nt c5)] at G
  refine Qf ?_
  refine qg qd H (.cons [9] (qf (.agg #[vI a2.Lo,vI a2.Hi]) 9 11 0 2 ((u1 1).n 0) [vI a2.Lo,vI a2.Hi] 46) <|
 .cons [12] (Qa 12 0 ((u1 2).n 0) [vI 0,vI 0] [vI a2.Lo,vI a2.Hi] 46 [vI a2.Lo,vI a2.Hi])<|.nil) [6,12] fun u4 a w' H=>?_
  refine qF ?_
  obtain rfl:=sj G
  exact Qj H _ 12 ((u1 2).n 0) [vI a2.Lo,vI a2.Hi] 46 0 2 (by kernel_rfl) (by kernel_rfl) (by kernel_rfl) (by kernel_rfl)
theorem YJ.calls (a0:qb) (a1:qb) (r:qb × Bool) (w:World) (G:YJ a0 a1=some r) :
  Calls Tryz.prog 44 #[.agg #[vI a0.Lo,vI a0.Hi],.agg #[vI a1.Lo,vI a1.Hi]] w fun e w'=>e = .returned (.tuple #[.agg #[vI r.1.Lo,vI r.1.Hi],.bool r.2])∧Below w.heap.size w w':=by
 refine QD (args:=[.agg #[vI a0.Lo,vI a0.Hi],.agg #[vI a1.Lo,vI a1.Hi]]) 29 Tryz.func44 rfl (by kernel_rfl) (by kernel_rfl) fun a H=>?_
 unfold YJ at G
 refine qg qd H (.cons [2,29] (qs (fun b=>vP b 0) (fun u1=>[vI a0.Lo,vI a0.Hi]) 46 2 29) <|
 .cons [3,30] (qs (fun b=>vP b 0) (fun u1=>[vI a1.Lo,vI a1.Hi]) 46 3 30) <|
 .cons [4,31] (qs (fun b=>vP b 0) (fun u1=>[vI 0,vI 0]) 46 4 31) <|
 .v 5 (.bool false)<|.nil) [2,3,4,29,30,31] fun u1 a w' H=>?_
 refine qg qd H (.v 8 (vP ((u1 0).n 0) 0) <|
 .cons [9] (qf (vI a0.Lo) 9 29 0 1 ((u1 0).n 0) [vI a0.Lo,vI a0.Hi] 46) <|
 .v 10 (vP ((u1 1).n 0) 0) <|
 .cons [11] (qf (vI a1.Lo) 11 30 0 1 ((u1 1).n 0) [vI a1.Lo,vI a1.Hi] 46) <|
 .v 12 (vI (mx a0.Lo a1.Lo)) <|
 .v 13 (vP ((u1 0).n 0) 1) <|
 .cons [14] (qf (vI a0.Hi) 14 29 1 1 ((u1 0).n 0) [vI a0.Lo,vI a0.Hi] 46) <|
 .v 15 (vP ((u1 1).n 0) 1) <|
 .cons [16] (qf (vI a1.Hi) 16 30 1 1 ((u1 1).n 0) [vI a1.Lo,vI a1.Hi] 46) <|
 .v 17 (vI (mn a0.Hi a1.Hi)) <|
 .v 18 (.agg #[vI (mx a0.Lo a1.Lo),vI (mn a0.Hi a1.Hi)]) <|
 .cons [6,32] (qs (fun b=>vP b 0) (fun u2=>[vI 0,vI 0]) 46 6 32) <|
 .cons [32] (QL (u':=fun u2=>[(32,.blk ((u2 11).n 0) [vI (mx a0.Lo a1.Lo),vI (mn a0.Hi a1.Hi)] 46)]) (qW 32 0 (fun u2=>((u2 11).n 0)) (fun u2=>[vI 0,vI 0]) (fun u2=>[vI (mx a0.Lo a1.Lo),vI (mn a0.Hi a1.Hi)]) 46) (fun _=>by kernel_rfl))<|.nil) [4,6,31,32] fun u2 a w' H=>?_
 refine qg qd H (.v 19 (vP ((u2 11).n 0) 0) <|
 .cons [20] (qf (vI (mx a0.Lo a1.Lo)) 20 32 0 1 ((u2 11).n 0) [vI (mx a0.Lo a1.Lo),vI (mn a0.Hi a1.Hi)] 46) <|
 .v 21 (vP ((u2 11).n 0) 1) <|
 .cons [22] (qf (vI (mn a0.Hi a1.Hi)) 22 32 1 1 ((u2 11).n 0) [vI (mx a0.Lo a1.Lo),vI (mn a0.Hi a1.Hi)] 46) <|
 .v 23 (.bool (decide ((mx a0.Lo a1.Lo)≤(mn a0.Hi a1.Hi)))) <|
 .v 7 (.bool (decide ((mx a0.Lo a1.Lo)≤(mn a0.Hi a1.Hi))))<|.nil) [4,6,7,31,32] fun u3 a w' H=>?_
 obtain ⟨t5,ht5,G⟩:=qP G
 refine qg qd H (.v 24 (.bool (decide ((mx a0.Lo a1.Lo)≤(mn a0.Hi a1.Hi)))) <|
 .cons [25] (qf (.agg #[vI (mx a0.Lo a1.Lo),vI (mn a0.Hi a1.Hi)]) 25 32 0 2 ((u2 11).n 0) [vI (mx a0.Lo a1.Lo),vI (mn a0.Hi a1.Hi)] 46) <|
 .v 26 (.agg #[vI 0,vI 0]) <|
 .cons [27] (qq 67 _ _ 27 [] (fun u4 w _=>Zt.calls (decide ((mx a0.Lo a1.Lo)≤(mn a0.Hi a1.Hi))) (⟨mx a0.Lo a1.Lo,mn a0.Hi a1.Hi⟩:qb) (⟨0,0⟩:qb)  t5 w  ht5)) <|
 .v 28 (.bool (decide ((mx a0.Lo a1.Lo)≤(mn a0.Hi a1.Hi)))) <|
 .cons [31] (Qa 31 0 ((u1 2).n 0) [vI 0,vI 0] [vI t5.Lo,vI t5.Hi] 46 [vI t5.Lo,vI t5.Hi]) <|
 .v 5 (.bool (decide ((mx a0.Lo a1.Lo)≤(mn a0.Hi a1.Hi))))<|.nil) [4,5,31] fun u4 a w' H=>?_
 refine qF ?_
 obtain rfl:=sj G
 exact Qj H _ 31 ((u1 2).n 0) [vI t5.Lo,vI t5.Hi] 46 0 2 (by kernel_rfl) (by kernel_rfl) (by kernel_rfl) (by kernel_rfl)
theorem YX.calls (a0:qb) (q0:qb) (b_q0:Nat) (r:qb) (w:World) (hB:Xx [Xp b_q0 [vI q0.Lo,vI q0.Hi] 46,gk] w) (G:YX a0 q0=some r) :
  Calls Tryz.prog 126 #[.agg #[vI a0.Lo,vI a0.Hi],vP b_q0 0] w fun e w'=>e = .returned (.agg #[vI r.Lo,vI r.Hi])∧Below w.heap.size w w':=by
 obtain ⟨fr,hfr⟩:∃ fr:Nat→Prop,∀ j,fr j:=⟨fun _=>True,fun _=>trivial⟩
 have hBf:∀ j,w.heap.size≤j→fr j:=fun j _=>hfr j
 refine QO (args:=[.agg #[vI a0.Lo,vI a0.Hi],vP b_q0 0]) 7 [(7,Xp b_q0 [vI q0.Lo,vI q0.Hi] 46),(999999,gk)] (by
  intro x hx
  simp only [List.mem_cons,List.not_mem_nil,or_false] at hx
  rcases hx with rfl | rfl
  ·exact QV (hB.1 w (agree.refl _ _)) _
  ·exact ⟨⟨_,_,rfl⟩,hB.2.1,Yl (QM hB.2.1)⟩) Tryz.func126 rfl (by kernel_rfl) (by kernel_rfl) fun a H=>?_
 unfold YX at G
 refine qg qd H (.cons [2,8] (qs (fun b=>vP b 0) (fun u1=>[vI a0.Lo,vI a0.Hi]) 46 2 8) <|
 .cons [3,9] (qs (fun b=>vP b 0) (fun u1=>[vI 0,vI 0]) 46 3 9)<|.nil) [1,2,3,8,9,7,999999] fun u1 a w' H=>?_
 obtain ⟨t3,ht3,G⟩:=qP G
 refine qg qd H (.cons [4] (qf (.agg #[vI a0.Lo,vI a0.Hi]) 4 8 0 2 ((u1 0).n 0) [vI a0.Lo,vI a0.Hi] 46) <|
 .cons [5] (Q8 (fun u2=>.agg #[vI q0.Lo,vI q0.Hi]) 5 7 (Xp b_q0 [vI q0.Lo,vI q0.Hi] 46) b_q0 0 2 [vI q0.Lo,vI q0.Hi] (fun w h=>Zf h)) <|
 .cons [6] (QX [999999] (fun u2=>[gk]) 127 _ _ 6 (fun u2 w hF=>Q9.calls a0 q0  t3 w  (QM hF.1) ht3)) <|
 .cons [9] (Qa 9 0 ((u1 1).n 0) [vI 0,vI 0] [vI t3.Lo,vI t3.Hi] 46 [vI t3.Lo,vI t3.Hi])<|.nil) [3,9,7,999999] fun u2 a w' H=>?_
 refine qF ?_
 obtain rfl:=sj G
 exact Qj H _ 9 ((u1 1).n 0) [vI t3.Lo,vI t3.Hi] 46 0 2 (by kernel_rfl) (by kernel_rfl) (by kernel_rfl) (by kernel_rfl)
theorem qD.calls (k0:Nat) (a0:List (List qb)) (a1_0:qb) (p_a0:Option Addr) (c_a0:Nat) (L_a0:List (Sl qb)) (b_a1_0:Nat) (r:List qb) (w:World) (h_a0:a0=L_a0.map Sl.l) (hB:Xx [qB qk 1 p_a0 c_a0 L_a0 Qs,X7 qk Qd.toPart L_a0,Xp b_a1_0 [vI a1_0.Lo,vI a1_0.Hi] 46,gk] w) (G:qD k0 a0 a1_0=some r) :
  Calls Tryz.prog 125 #[.slice p_a0 L_a0.length c_a0,.func (.func 126) #[] #[vP b_a1_0 0],.func (.func 90) #[] #[]] w fun e w'=>∃ g:Gh,e = .returned (.slice (g.o 0) r.length (g.n 0))∧Zg (Y4 []) w w'∧Ys w.heap.size (Y4 []) (JH w.heap.size []) [fun _=>Qm 46 2 (g.o 0) (g.n 0) r qa] w':=by
 obtain ⟨fr,hfr,hBf⟩:=VE w []
 refine QO (args:=[.slice p_a0 L_a0.length c_a0,.func (.func 126) #[] #[vP b_a1_0 0],.func (.func 90) #[] #[]]) 50 [(50,qB qk 1 p_a0 c_a0 L_a0 Qs),(51,X7 qk Qd.toPart L_a0),(52,Xp b_a1_0 [vI a1_0.Lo,vI a1_0.Hi] 46),(999999,gk)] (by
  intro x hx
  simp only [List.mem_cons,List.not_mem_nil,or_false] at hx
  rcases hx with rfl | rfl | rfl | rfl
  ·exact qy (qj hB.1) (fun _ _=>trivial) (by decide) _
  ·exact ZQ (Xl hB.2.1) (fun _ _=>trivial) _
  ·exact QV (hB.2.2.1 w (agree.refl _ _)) _
  ·exact ⟨⟨_,_,rfl⟩,hB.2.2.2.1,Yl (QM hB.2.2.2.1)⟩) Tryz.func125 rfl (by kernel_rfl) (by kernel_rfl) fun a H=>?_
 unfold qD at G
 refine qg qd H (.v 6 (.slice none 0 0)<|.nil) [0,1,2,50,51,52,999999] fun u1 a w' H=>?_
 refine qv ?_
 replace G:=gd G; obtain ⟨b3,G⟩:=G
 refine Qt qd H (.v 12 (.slice p_a0 L_a0.length c_a0) <|
 .cons [13] (qG 50 (qB qk 1 p_a0 c_a0 L_a0 Qs) (vI (a0.length:Int)) 13 fun _ w h=>Yt (((qj h).2.len qR (by decide)).trans (qT h_a0).symm) (by kernel_rfl)) <|
 .cons [14,53] (Z7 [] (fun u2=>[]) 46 2 (List.replicate (a0.length:Int).toNat (⟨0,0⟩:qb)).length ((List.replicate (a0.length:Int).toNat (⟨0,0⟩:qb)).flatMap qa) 14 53 (fun _=>.none) (fun u2 w hF=>Yw (t:=48) (k:=.i64) (m:=(a0.length:Int)) (en:=qa) (z:=(⟨0,0⟩:qb)) qe JT rfl b3 (by kernel_rfl)) (fun _=>.inl rfl)) <|
 .cons [7] (qn (fun u2=>.slice ((u2 2).o 0) ((List.replicate (a0.length:Int).toNat (⟨0,0⟩:qb)).length) ((u2 2).n 0)) 7)<|.nil) [0,1,2,7,50,51,53,52,999999] fun u2 a w' H=>?_
 refine qv ?_
 obtain ⟨j5,hj5,G⟩:=qP G
 refine Xq (fun a w'=>∃ (p_j4:Option Addr) (c_j4 np_j4:Nat),np_j4=j5.length∧RL w 50 [(7,sS p_j4 np_j4 c_j4),(900040,X6 46 2 p_j4 np_j4 c_j4 (j5.flatMap qa)),(52,Xp b_a1_0 [vI a1_0.Lo,vI a1_0.Hi] 46),(999999,gk)] a w') ?_ ?_
 ·clear H; rintro a w' ⟨p_j4,c_j4,_,rfl,H⟩
  refine qg qd H (.v 49 (.slice p_j4 j5.length c_j4) <|
 .v 6 (.slice p_j4 j5.length c_j4)<|.nil) [6,900040,52,999999] fun u6 a w' H=>?_
  refine qF ?_
  obtain rfl:=sj G
  obtain ⟨g,o0,n0⟩:=ZX p_j4 c_j4
  refine QR H _ g _ _ _ fr [900040] [] (.slice p_j4 j5.length c_j4) [fun _=>Qm 46 2 p_j4 c_j4 j5 qa] (by simp only [Qm,o0,n0]) (by simp only [Qm,o0,n0]) hfr (.inl ⟨rfl,rfl⟩) (ql Qw qC) (by simp)
 ·clear G; replace G:=hj5; clear hj5
  refine qg qd H (.v 15 (.slice p_a0 L_a0.length c_a0) <|
 .cons [16] (qG 50 (qB qk 1 p_a0 c_a0 L_a0 Qs) (vI (a0.length:Int)) 16 fun _ w h=>Yt (((qj h).2.len qR (by decide)).trans (qT h_a0).symm) (by kernel_rfl)) <|
 .v 17 (vI 0)<|.nil) [1,2,7,15,16,17,50,51,53,52,999999] fun u7 a w' H=>?_
  refine q6 ?_
  replace H:=H.move (K:=Qm 46 2 ((u2 2).o 0) ((u2 2).n 0) (List.replicate (a0.length:Int).toNat (⟨0,0⟩:qb)) qa) 53 900041 (by kernel_rfl) (by intro _ _ h; cases h)
  refine XP (fun m a w'=>∃ x8:List qb,∃ x9:Int,qD.l10 k0 a0 a1_0 m x8 x9=some j5 ∧ ∃ (p_x8:Option Addr) (c_x8 np_x8:Nat),np_x8=x8.length∧RL w 50 [(1,.slot true (.func (.func 126) #[] #[vP b_a1_0 0])),(2,.slot true (.func (.func 90) #[] #[])),(7,sS p_x8 np_x8 c_x8),(15,sS p_a0 L_a0.length c_a0),(16,(sI (a0.length:Int))),(17,sI x9),(50,qB qk 1 p_a0 c_a0 L_a0 Qs),(51,X7 qk Qd.toPart L_a0),(900041,X6 46 2 p_x8 np_x8 c_x8 (x8.flatMap qa)),(52,Xp b_a1_0 [vI a1_0.Lo,vI a1_0.Hi] 46),(999999,gk)] a w') k0 ⟨_,_,G,((u2 2).o 0),((u2 2).n 0),(List.replicate (a0.length:Int).toNat (⟨0,0⟩:qb)).length,rfl,H.toM _⟩ ?_
  clear G H
  rintro (_ | k) a w' ⟨x8,x9,G,p_x8,c_x8,_,rfl,H⟩
  ·exact absurd G (by unfold qD.l10; exact fun h=>by cases h)
  ·unfold qD.l10 at G
   refine qg qd H (.v 18 (.bool (decide (x9<(a0.length:Int))))<|.nil) [1,2,7,15,16,17,18,50,51,900041,52,999999] fun u11 a w' H=>?_
   refine qv ?_
   refine Qx H (decide (x9<(a0.length:Int))) (fun c40=>?_) fun c40=>?_
   ·rw [if_pos c40] at G
    refine Qf ?_
    refine qv ?_
    obtain ⟨j13,hj13,G⟩:=qP G
    refine Xq (fun a w'=>∃ (p_j12:Option Addr) (c_j12 np_j12:Nat),np_j12=j13.length∧RL w 50 [(1,.slot true (.func (.func 126) #[] #[vP b_a1_0 0])),(2,.slot true (.func (.func 90) #[] #[])),(7,sS p_j12 np_j12 c_j12),(15,sS p_a0 L_a0.length c_a0),(16,(sI (a0.length:Int))),(17,sI x9),(50,qB qk 1 p_a0 c_a0 L_a0 Qs),(51,X7 qk Qd.toPart L_a0),(900042,X6 46 2 p_j12 np_j12 c_j12 (j13.flatMap qa)),(52,Xp b_a1_0 [vI a1_0.Lo,vI a1_0.Hi] 46),(999999,gk)] a w') ?_ ?_
    ·clear H; rintro a w' ⟨p_j12,c_j12,_,rfl,H⟩
     refine Qt qd H (.v 48 (vI (qc (x9+1))) <|
 .v 17 (vI (qc (x9+1)))<|.nil) [1,2,7,15,16,17,50,51,900042,52,999999] fun u14 a w' H=>?_
     replace H:=H.move (K:=Qm 46 2 p_j12 c_j12 j13 qa) 900042 900041 (by kernel_rfl) (by intro _ _ h; cases h)
     exact ⟨k,Nat.lt_succ_self k,_,_,G,p_j12,c_j12,j13.length,rfl,H.toM _⟩
    ·clear G; replace G:=hj13; clear hj13
     refine q6 ?_
     refine qv ?_
     replace G:=gd G; obtain ⟨b16,G⟩:=G
     obtain ⟨t17,ht17,G⟩:=qP G
     obtain ⟨p_t17,c_t17,y_t17⟩:=Yf h_a0 ht17
     refine Qt qd H (.v 19 (vI x9) <|
 .cons [20] (qG 50 (qB qk 1 p_a0 c_a0 L_a0 Qs) (.pointer (some ⟨Xf p_a0,Xg p_a0+x9.toNat * 1,none⟩)) 20 fun _ w h=>Jo 195 .i64 x9 p_a0 L_a0.length c_a0 a0 Qs (qj h).2 qR (qT h_a0) b16) <|
 .cons [21] (qG 50 (qB qk 1 p_a0 c_a0 L_a0 Qs) (.slice p_t17 t17.length c_t17) 21 fun _ w h=>Ym Qs (qj h).2 qR y_t17 0 1 [.slice p_t17 t17.length c_t17]) <|
 .v 8 (vI x9) <|
 .v 9 (.slice p_t17 t17.length c_t17)<|.nil) [1,2,7,8,9,15,16,17,50,51,900041,52,999999] fun u15 a w' H=>?_
     refine qv ?_
     replace G:=gd G; obtain ⟨b19,G⟩:=G
     obtain ⟨t20,ht20,G⟩:=qP G
     refine Qt qd H (.v 22 (.slice p_t17 t17.length c_t17) <|
 .v 23 (.slice p_t17 t17.length c_t17) <|
 .v 24 (vI (t17.length:Int)) <|
 .v 25 (vI (qc ((t17.length:Int) - 1))) <|
 .cons [26] (qG 51 (X7 qk Qd.toPart L_a0) (.pointer (some ⟨Xf p_t17,Xg p_t17+((qc ((t17.length:Int) - 1)).toNat) * 2,none⟩)) 26 fun _ w h=>Jo 48 .i64 (qc ((t17.length:Int) - 1)) p_t17 t17.length c_t17 t17 qa (show XO _ 2 p_t17 t17.length c_t17 (t17.flatMap qa) from ((Xl h) _ (List.mem_of_getElem? y_t17)).1).2 qe rfl b19) <|
 .cons [27] (qG 51 (X7 qk Qd.toPart L_a0) (.agg #[vI t20.Lo,vI t20.Hi]) 27 fun _ w h=>Ym qa (show XO _ 2 p_t17 t17.length c_t17 (t17.flatMap qa) from ((Xl h) _ (List.mem_of_getElem? y_t17)).1).2 qe ht20 0 2 [vI t20.Lo,vI t20.Hi]) <|
 .cons [10,55] (qs (fun b=>vP b 0) (fun u18=>[vI 0,vI 0]) 46 10 55) <|
 .cons [55] (QL (u':=fun u18=>[(55,.blk ((u18 6).n 0) [vI t20.Lo,vI t20.Hi] 46)]) (qW 55 0 (fun u18=>((u18 6).n 0)) (fun u18=>[vI 0,vI 0]) (fun u18=>[vI t20.Lo,vI t20.Hi]) 46) (fun _=>by kernel_rfl))<|.nil) [1,2,7,8,9,10,15,16,17,50,51,55,900041,52,999999] fun u18 a w' H=>?_
     refine qv ?_
     obtain ⟨j23,hj23,G⟩:=qP G
     refine Xq (fun a w'=>RL w 50 [(1,.slot true (.func (.func 126) #[] #[vP b_a1_0 0])),(2,.slot true (.func (.func 90) #[] #[])),(7,sS p_x8 x8.length c_x8),(8,sI x9),(10,(sP ((u18 6).n 0) 0)),(15,sS p_a0 L_a0.length c_a0),(16,(sI (a0.length:Int))),(17,sI x9),(50,qB qk 1 p_a0 c_a0 L_a0 Qs),(51,X7 qk Qd.toPart L_a0),(55,.blk ((u18 6).n 0) [vI j23.1,vI j23.2] 46),(900041,Qm 46 2 p_x8 c_x8 x8 qa),(52,Xp b_a1_0 [vI a1_0.Lo,vI a1_0.Hi] 46),(999999,gk)] a w') ?_ ?_
     ·clear H; intro a w' H
      replace G:=gd G; obtain ⟨b25,G⟩:=G
      obtain ⟨t26,ht26,G⟩:=qP G
      refine Qt qd H (.v 44 (.slice p_x8 x8.length c_x8) <|
 .v 45 (vI x9) <|
 .cons [46] (qf (.agg #[vI j23.1,vI j23.2]) 46 55 0 2 ((u18 6).n 0) [vI j23.1,vI j23.2] 46) <|
 .cons [47] (qG 900041 (Qm 46 2 p_x8 c_x8 x8 qa) (.pointer (some ⟨Xf p_x8,Xg p_x8+x9.toNat * 2,none⟩)) 47 fun _ w h=>Jo 48 .i64 x9 p_x8 x8.length c_x8 x8 qa (qw (Qe h)).2 qe rfl b25) <|
 .cons [900041,900041] (XC [] [] (fun u24=>[]) 900041 (fun u24=>Qm 46 2 p_x8 c_x8 x8 qa) none (fun u24 g=>.nilFunc) (fun u24 g=>X6 46 2 p_x8 x8.length c_x8 ((x8.set x9.toNat (⟨j23.1,j23.2⟩:qb)).flatMap qa)) (fun u24 w hF hK=>ZA (XK (Qe hK) qe (y:=(⟨j23.1,j23.2⟩:qb)) (vs:=[vI j23.1,vI j23.2]) ht26 0 (by simp) (by simp) rfl (by kernel_rfl))))<|.nil) [1,2,7,15,16,17,50,51,900041,52,999999] fun u24 a w' H=>?_
      obtain rfl:=sj G
      replace H:=H.move (K:=X6 46 2 p_x8 x8.length c_x8 ((x8.set x9.toNat (⟨j23.1,j23.2⟩:qb)).flatMap qa)) 900041 900042 (by kernel_rfl) (by intro _ _ h; cases h)
      exact ⟨p_x8,c_x8,x8.length,by simp,H.toM _⟩
     ·clear G; replace G:=hj23; clear hj23
      refine qg qd H (.v 28 (.slice p_t17 t17.length c_t17) <|
 .v 29 (vI (t17.length:Int)) <|
 .v 30 (vI (qc ((t17.length:Int) - 2))) <|
 .v 11 (vI (qc ((t17.length:Int) - 2)))<|.nil) [1,2,7,8,9,10,11,15,16,17,50,51,55,900041,52,999999] fun u27 a w' H=>?_
      refine q6 ?_
      refine XP (fun m a w'=>∃ x28:Int,∃ x29:Int,∃ x30:Int,qD.l31 k0 a0 a1_0 x8 x9 t17 t20 m x28 x29 x30=some j23∧RL w 50 [(1,.slot true (.func (.func 126) #[] #[vP b_a1_0 0])),(2,.slot true (.func (.func 90) #[] #[])),(7,sS p_x8 x8.length c_x8),(8,sI x9),(9,sS p_t17 t17.length c_t17),(10,(sP ((u18 6).n 0) 0)),(11,sI x30),(15,sS p_a0 L_a0.length c_a0),(16,(sI (a0.length:Int))),(17,sI x9),(50,qB qk 1 p_a0 c_a0 L_a0 Qs),(51,X7 qk Qd.toPart L_a0),(55,.blk ((u18 6).n 0) [vI x28,vI x29] 46),(900041,Qm 46 2 p_x8 c_x8 x8 qa),(52,Xp b_a1_0 [vI a1_0.Lo,vI a1_0.Hi] 46),(999999,gk)] a w') k0 ⟨_,_,_,G,H.toM _⟩ ?_
      clear G H
      rintro (_ | k) a w' ⟨x28,x29,x30,G,H⟩
      ·exact absurd G (by unfold qD.l31; exact fun h=>by cases h)
      ·unfold qD.l31 at G
       refine qv ?_
       refine qg qd H (.v 31 (vI x30) <|
 .v 32 (.bool (decide (x30 ≥ 0)))<|.nil) [1,2,7,8,9,10,11,15,16,17,32,50,51,55,900041,52,999999] fun u32 a w' H=>?_
       refine Qx H (decide (x30 ≥ 0)) (fun c39=>?_) fun c39=>?_
       ·rw [if_pos c39] at G
        refine Qf ?_
        refine qv ?_
        refine q6 ?_
        obtain ⟨t34,ht34,G⟩:=qP G
        replace G:=gd G; obtain ⟨b35,G⟩:=G
        obtain ⟨t36,ht36,G⟩:=qP G
        obtain ⟨t37,ht37,G⟩:=qP G
        refine Qt qd H (.v 35 (.func (.func 90) #[] #[]) <|
 .v 36 (.func (.func 126) #[] #[vP b_a1_0 0]) <|
 .cons [37] (qf (.agg #[vI x28,vI x29]) 37 55 0 2 ((u18 6).n 0) [vI x28,vI x29] 46) <|
 .cons [38] (QX [52,999999] (fun u33=>[Xp b_a1_0 [vI a1_0.Lo,vI a1_0.Hi] 46,gk]) 126 _ _ 38 (fun u33 w hF=>YX.calls (⟨x28,x29⟩:qb) a1_0 b_a1_0 t34 w  ⟨(QV (hF.1 w (agree.refl _ _)) 0).2.1,hF.2.1,trivial⟩ ht34)) <|
 .v 39 (.slice p_t17 t17.length c_t17) <|
 .v 40 (vI x30) <|
 .cons [41] (qG 51 (X7 qk Qd.toPart L_a0) (.pointer (some ⟨Xf p_t17,Xg p_t17+x30.toNat * 2,none⟩)) 41 fun _ w h=>Jo 48 .i64 x30 p_t17 t17.length c_t17 t17 qa (show XO _ 2 p_t17 t17.length c_t17 (t17.flatMap qa) from ((Xl h) _ (List.mem_of_getElem? y_t17)).1).2 qe rfl b35) <|
 .cons [42] (qG 51 (X7 qk Qd.toPart L_a0) (.agg #[vI t36.Lo,vI t36.Hi]) 42 fun _ w h=>Ym qa (show XO _ 2 p_t17 t17.length c_t17 (t17.flatMap qa) from ((Xl h) _ (List.mem_of_getElem? y_t17)).1).2 qe ht36 0 2 [vI t36.Lo,vI t36.Hi]) <|
 .cons [43] (qq 90 _ _ 43 [] (fun u33 w _=>QU.calls t34 t36  t37 w  ht37)) <|
 .cons [55] (Qa 55 0 ((u18 6).n 0) [vI x28,vI x29] [vI t37.Lo,vI t37.Hi] 46 [vI t37.Lo,vI t37.Hi])<|.nil) [1,2,7,8,9,10,11,15,16,17,50,51,55,900041,52,999999] fun u33 a w' H=>?_
        refine Qt qd H (.v 33 (vI x30) <|
 .v 34 (vI (qc (x30 - 1))) <|
 .v 11 (vI (qc (x30 - 1)))<|.nil) [1,2,7,8,9,10,11,15,16,17,50,51,55,900041,52,999999] fun u38 a w' H=>?_
        exact ⟨k,Nat.lt_succ_self k,_,_,_,G,H.toM _⟩
       ·rw [if_neg (nt c39)] at G
        refine Yk rfl ?_
        obtain rfl:=sj G
        exact H.toM _
   ·rw [if_neg (nt c40)] at G
    refine Yk rfl ?_
    obtain rfl:=sj G
    replace H:=H.move (K:=Qm 46 2 p_x8 c_x8 x8 qa) 900041 900040 (by kernel_rfl) (by intro _ _ h; cases h)
    exact ⟨p_x8,c_x8,x8.length,rfl,H.toM _⟩
theorem ZF.calls (k0:Nat) (a0:List (List qb)) (a1:qb) (p_a0:Option Addr) (c_a0:Nat) (L_a0:List (Sl qb)) (r:List qb) (w:World) (h_a0:a0=L_a0.map Sl.l) (hB:Xx [qB qk 1 p_a0 c_a0 L_a0 Qs,X7 qk Qd.toPart L_a0,gk] w) (G:ZF k0 a0 a1=some r) :
  Calls Tryz.prog 102 #[.slice p_a0 L_a0.length c_a0,.agg #[vI a1.Lo,vI a1.Hi]] w fun e w'=>∃ g:Gh,e = .returned (.slice (g.o 0) r.length (g.n 0))∧Zg (Y4 []) w w'∧Ys w.heap.size (Y4 []) (JH w.heap.size []) [fun _=>Qm 46 2 (g.o 0) (g.n 0) r qa] w':=by
 obtain ⟨fr,hfr,hBf⟩:=VE w []
 refine QO (args:=[.slice p_a0 L_a0.length c_a0,.agg #[vI a1.Lo,vI a1.Hi]]) 8 [(8,qB qk 1 p_a0 c_a0 L_a0 Qs),(9,X7 qk Qd.toPart L_a0),(999999,gk)] (by
  intro x hx
  simp only [List.mem_cons,List.not_mem_nil,or_false] at hx
  rcases hx with rfl | rfl | rfl
  ·exact qy (qj hB.1) (fun _ _=>trivial) (by decide) _
  ·exact ZQ (Xl hB.2.1) (fun _ _=>trivial) _
  ·exact ⟨⟨_,_,rfl⟩,hB.2.2.1,Yl (QM hB.2.2.1)⟩) Tryz.func102 rfl (by kernel_rfl) (by kernel_rfl) fun a H=>?_
 unfold ZF at G
 refine qg qd H (.cons [3,10] (qs (fun b=>vP b 0) (fun u1=>[vI a1.Lo,vI a1.Hi]) 46 3 10) <|
 .v 4 (.slice none 0 0)<|.nil) [0,3,8,9,10,999999] fun u1 a w' H=>?_
 obtain ⟨t3,ht3,G⟩:=qP G
 refine qg qd H (.v 5 (.slice p_a0 L_a0.length c_a0) <|
 .v 6 (.func (.func 126) #[] #[vP ((u1 0).n 0) 0]) <|
 .cons [7,11] (QI false fr [] [8,9,10,999999] (fun u2=>[qB qk 1 p_a0 c_a0 L_a0 Qs,X7 qk Qd.toPart L_a0,.blk ((u1 0).n 0) [vI a1.Lo,vI a1.Hi] 46,gk]) [] (fun u2=>[]) 125 _ _ _ _ _ [11] 7 (fun u2 w hB hF hM=>qD.calls k0 a0 a1 p_a0 c_a0 L_a0 ((u1 0).n 0) t3 w h_a0 hB ht3) (fun u2 w hF=>⟨⟨q9 (qj hF.1) (fun j h=>⟨_,(.head _),h⟩),J7 (Xl hF.2.1) (fun j h=>⟨_,(.tail _ (.head _)),h⟩),Ze hF.2.2.1 (.tail _ (.tail _ (.head _))) rfl,Z6 hF.2.2.2.1 (.tail _ (.tail _ (.tail _ (.head _)))),trivial⟩,trivial⟩) (fun u2 g=>(ql Qw qC)) (.inr (fun u2 g=>(Qv trivial (fun K h=>by cases h)))) (fun h=>by cases h)) <|
 .cons [4] (qn (fun u2=>.slice ((u2 2).o 0) t3.length ((u2 2).n 0)) 4)<|.nil) [4,11,999999] fun u2 a w' H=>?_
 refine qF ?_
 obtain rfl:=sj G
 obtain ⟨g,o0,n0⟩:=ZX ((u2 2).o 0) ((u2 2).n 0)
 refine QR H _ g _ _ _ fr [11] [] (.slice ((u2 2).o 0) t3.length ((u2 2).n 0)) [fun _=>Qm 46 2 ((u2 2).o 0) ((u2 2).n 0) t3 qa] (by simp only [Qm,o0,n0]) (by simp only [Qm,o0,n0]) hfr (.inl ⟨rfl,rfl⟩) (ql Qw qC) (by simp)
theorem X0.calls (a0:Int) (a1:List qb) (q0:List qb) (p_a1:Option Addr) (c_a1:Nat) (b_q0:Nat) (p_q0:Option Addr) (c_q0:Nat) (r:List qb) (w:World) (hB:Xx [qB qk 2 p_q0 c_q0 q0 qa,Xp b_q0 [.slice p_q0 q0.length c_q0] 48] w) (hM:VS [Qm 46 2 p_a1 c_a1 a1 qa] ([qB qk 2 p_q0 c_q0 q0 qa,Xp b_q0 [.slice p_q0 q0.length c_q0] 48]++[]) w) (G:X0 a0 a1 q0=some r) :
  Calls Tryz.prog 100 #[vI a0,.slice p_a1 a1.length c_a1,vP b_q0 0] w fun e w'=>∃ g:Gh,e = .returned (.slice (g.o 0) r.length (g.n 0))∧Zg (Y4 [Qm 46 2 p_a1 c_a1 a1 qa]) w w'∧Ys w.heap.size (Y4 [Qm 46 2 p_a1 c_a1 a1 qa]) (JH w.heap.size []) [fun _=>Qm 46 2 (g.o 0) (g.n 0) r qa] w':=by
 obtain ⟨fr,hfr,hBf⟩:=VE w []
 refine Vl (args:=[vI a0,.slice p_a1 a1.length c_a1,vP b_q0 0]) 13 [(15,qB qk 2 p_q0 c_q0 q0 qa),(14,Xp b_q0 [.slice p_q0 q0.length c_q0] 48)] [(13,Qm 46 2 p_a1 c_a1 a1 qa)] (Vp hM (by rfl)) (by
  intro x hx
  simp only [List.mem_cons,List.not_mem_nil,or_false] at hx
  rcases hx with rfl | rfl
  ·exact qy (qj hB.1) (fun _ _=>trivial) (by decide) _
  ·exact QV (hB.2.1 w (agree.refl _ _)) _) (by rfl) Tryz.func100 rfl (by kernel_rfl) (by kernel_rfl) fun a H=>?_
 unfold X0 at G
 refine qg qd H (.v 5 (.slice none 0 0)<|.nil) [0,1,2,13,15,14,999998] fun u1 a w' H=>?_
 refine qv ?_
 replace G:=gd G; obtain ⟨b3,G⟩:=G
 obtain ⟨t4,ht4,G⟩:=qP G
 replace G:=gd G; obtain ⟨b5,G⟩:=G
 refine Qt qd H (.v 6 (.slice p_a1 a1.length c_a1) <|
 .cons [7] (Q8 (fun u2=>.slice p_q0 q0.length c_q0) 7 14 (Xp b_q0 [.slice p_q0 q0.length c_q0] 48) b_q0 0 1 [.slice p_q0 q0.length c_q0] (fun w h=>Zf h)) <|
 .v 8 (vI a0) <|
 .cons [9] (qG 15 (qB qk 2 p_q0 c_q0 q0 qa) (.pointer (some ⟨Xf p_q0,Xg p_q0+a0.toNat * 2,none⟩)) 9 fun _ w h=>Jo 48 .i64 a0 p_q0 q0.length c_q0 q0 qa (qj h).2 qe rfl b3) <|
 .cons [10] (qG 15 (qB qk 2 p_q0 c_q0 q0 qa) (.agg #[vI t4.Lo,vI t4.Hi]) 10 fun _ w h=>Ym qa (qj h).2 qe ht4 0 2 [vI t4.Lo,vI t4.Hi]) <|
 .cons [11,16] (qs (fun b=>.slice (some ⟨b,0,none⟩) 1 1) (fun u2=>[vI t4.Lo,vI t4.Hi]) 46 11 16) <|
 .cons [12,13,13] (XC [5] [16] (fun u2=>[.blk ((u2 5).n 0) [vI t4.Lo,vI t4.Hi] 46]) 13 (fun u2=>Qm 46 2 p_a1 c_a1 a1 qa) (some 12) (fun u2 g=>.slice (g.o 0) (a1++[t4]).length (g.n 0)) (fun u2 g=>Qm 46 2 (g.o 0) (g.n 0) (a1++[t4]) qa) (fun u2 w hF hK=>J9 (Yy (t:=48) (ty:=48) (en:=qa) qe JT (Qe hK) hF.1 (news:=[t4]) rfl (by simp) (by kernel_rfl) b5)) (hloc:=fun u u' h=>⟨by first | rfl | simp only [h 5 (by decide)],by first | rfl | simp only [h 5 (by decide)],by first | rfl | simp only [h 5 (by decide)],by first | rfl | simp only [h 5 (by decide)]⟩)) <|
 .cons [5] (qn (fun u2=>.slice ((u2 6).o 0) ((a1++[t4]).length) ((u2 6).n 0)) 5)<|.nil) [5,13,15,14,999998] fun u2 a w' H=>?_
 refine qF ?_
 obtain rfl:=sj G
 obtain ⟨g,o0,n0⟩:=ZX ((u2 6).o 0) ((u2 6).n 0)
 refine QR H _ g _ _ _ fr [13] [] (.slice ((u2 6).o 0) ((a1++[t4]).length) ((u2 6).n 0)) [fun _=>Qm 46 2 ((u2 6).o 0) ((u2 6).n 0) (a1++[t4]) qa] (by simp only [Qm,o0,n0]) (by simp only [Qm,o0,n0]) hfr (.inr (by kernel_rfl)) (ql Qw qC) (by simp)
theorem Qz.calls (k0:Nat) (a0:List (List qb)) (a1_0:List qb) (p_a0:Option Addr) (c_a0:Nat) (L_a0:List (Sl qb)) (b_a1_0:Nat) (p_a1_0:Option Addr) (c_a1_0:Nat) (r:List (List qb)) (w:World) (h_a0:a0=L_a0.map Sl.l) (hB:Xx [qB qk 2 p_a1_0 c_a1_0 a1_0 qa,Xp b_a1_0 [.slice p_a1_0 a1_0.length c_a1_0] 48] w) (hM:VS [qt p_a0 c_a0 L_a0] ([qB qk 2 p_a1_0 c_a1_0 a1_0 qa,Xp b_a1_0 [.slice p_a1_0 a1_0.length c_a1_0] 48]++[]) w) (G:Qz k0 a0 a1_0=some r) :
  Calls Tryz.prog 98 #[.slice p_a0 L_a0.length c_a0,.func (.func 100) #[] #[vP b_a1_0 0]] w fun e w'=>∃ g:Gh,e = .returned (slgd_S_TInterval g 0 r)∧Zg (Y4 [qt p_a0 c_a0 L_a0]) w w'∧Ys w.heap.size (Y4 [qt p_a0 c_a0 L_a0]) (JH w.heap.size []) [fun _=>ns_en_TIntervalg g 0 r] w':=by
 obtain ⟨fr,hfr,hBf⟩:=VE w []
 refine Vl (args:=[.slice p_a0 L_a0.length c_a0,.func (.func 100) #[] #[vP b_a1_0 0]]) 27 [(29,qB qk 2 p_a1_0 c_a1_0 a1_0 qa),(28,Xp b_a1_0 [.slice p_a1_0 a1_0.length c_a1_0] 48)] [(27,qt p_a0 c_a0 L_a0)] (Vp hM (by rfl)) (by
  intro x hx
  simp only [List.mem_cons,List.not_mem_nil,or_false] at hx
  rcases hx with rfl | rfl
  ·exact qy (qj hB.1) (fun _ _=>trivial) (by decide) _
  ·exact QV (hB.2.1 w (agree.refl _ _)) _) (by rfl) Tryz.func98 rfl (by kernel_rfl) (by kernel_rfl) fun a H=>?_
 unfold Qz at G
 refine qg qd H (.v 4 (.slice none 0 0)<|.nil) [0,1,27,29,28,999998] fun u1 a w' H=>?_
 refine qv ?_
 replace G:=gd G; obtain ⟨b3,G⟩:=G
 refine Qt qd H (.v 8 (.slice p_a0 L_a0.length c_a0) <|
 .cons [9] (qG 27 (qt p_a0 c_a0 L_a0) (vI (a0.length:Int)) 9 fun _ w h=>Yt (((XS h).row.2.len qR (by decide)).trans (qT h_a0).symm) (by kernel_rfl)) <|
 .cons [10,30] (qaf 46 2 qa (Z7 [] (fun u2=>[]) 48 1 (List.replicate (a0.length:Int).toNat (⟨none,0,[]⟩:Sl qb)).length ((List.replicate (a0.length:Int).toNat (⟨none,0,[]⟩:Sl qb)).flatMap Qs) 10 30 (fun _=>.none) (fun u2 w hF=>Yw (t:=195) (k:=.i64) (m:=(a0.length:Int)) (en:=Qs) (z:=(⟨none,0,[]⟩:Sl qb)) qR qed rfl b3 (by kernel_rfl)) (fun _=>.inl rfl)) qab) <|
 .cons [5] (qn (fun u2=>.slice ((u2 2).o 0) ((List.replicate (a0.length:Int).toNat (⟨none,0,[]⟩:Sl qb)).length) ((u2 2).n 0)) 5)<|.nil) [0,1,5,27,29,30,28,999998] fun u2 a w' H=>?_
 refine qv ?_
 obtain ⟨j5,hj5,G⟩:=qP G
 refine Xq (fun a w'=>∃ (p_j4:Option Addr) (c_j4 np_j4:Nat) (L_j4:List (Sl qb)),np_j4=L_j4.length∧j5=L_j4.map Sl.l∧QS 0 w 27 (Jl [(5,sS p_j4 np_j4 c_j4),(29,qB qk 2 p_a1_0 c_a1_0 a1_0 qa),(900043,Qp p_j4 np_j4 c_j4 L_j4),(28,Xp b_a1_0 [.slice p_a1_0 a1_0.length c_a1_0] 48),(999998,frM [qt p_a0 c_a0 L_a0] w)]) a w') ?_ ?_
 ·clear H; rintro a w' ⟨p_j4,c_j4,_,L_j4,rfl,h_j4,H⟩
  refine qg qd H (.v 26 (.slice p_j4 L_j4.length c_j4) <|
 .v 4 (.slice p_j4 L_j4.length c_j4)<|.nil) [4,29,900043,28,999998] fun u6 a w' H=>?_
  refine qF ?_
  obtain rfl:=sj G
  obtain ⟨g,o0,n0,d0⟩:=qb6 ZE p_j4 c_j4 h_j4
  refine QR H _ g _ _ _ fr [900043] [] (.slice p_j4 L_j4.length c_j4) [fun _=>qt p_j4 c_j4 L_j4] (by simp only [slgd_S_TInterval,dlgd_S_TInterval,ns_en_TIntervalg,qt,Qp,Qm,o0,n0,d0]) (by simp only [slgd_S_TInterval,dlgd_S_TInterval,ns_en_TIntervalg,qt,Qp,Qm,o0,n0,d0]) hfr (.inr (by kernel_rfl)) (ql Jb qC) (by simp)
 ·clear G; replace G:=hj5; clear hj5
  refine qg qd H (.v 11 (.slice p_a0 L_a0.length c_a0) <|
 .cons [12] (qG 27 (qt p_a0 c_a0 L_a0) (vI (a0.length:Int)) 12 fun _ w h=>Yt (((XS h).row.2.len qR (by decide)).trans (qT h_a0).symm) (by kernel_rfl)) <|
 .v 13 (vI 0)<|.nil) [1,5,11,12,13,27,29,30,28,999998] fun u7 a w' H=>?_
  refine q6 ?_
  replace H:=H.move (K:=qt ((u2 2).o 0) ((u2 2).n 0) (List.replicate (a0.length:Int).toNat (⟨none,0,[]⟩:Sl qb))) 30 900045 (by kernel_rfl) (by intro _ _ h; cases h)
  refine XP (fun m a w'=>∃ x8:List (List qb),∃ x9:Int,Qz.l10 k0 a0 a1_0 m x8 x9=some j5 ∧ ∃ (p_x8:Option Addr) (c_x8 np_x8:Nat) (L_x8:List (Sl qb)),np_x8=L_x8.length∧x8=L_x8.map Sl.l∧QS 0 w 27 (Jl [(1,.slot true (.func (.func 100) #[] #[vP b_a1_0 0])),(5,sS p_x8 np_x8 c_x8),(11,sS p_a0 L_a0.length c_a0),(12,(sI (a0.length:Int))),(13,sI x9),(27,Zn 48 46 2 qa p_a0 L_a0.length c_a0 L_a0 (L_a0.drop (x9.toNat))),(29,qB qk 2 p_a1_0 c_a1_0 a1_0 qa),(900045,Qp p_x8 np_x8 c_x8 L_x8),(28,Xp b_a1_0 [.slice p_a1_0 a1_0.length c_a1_0] 48),(999998,frM [qt p_a0 c_a0 L_a0] w)]) a w') k0 ⟨_,_,G,((u2 2).o 0),((u2 2).n 0),(List.replicate (a0.length:Int).toNat (⟨none,0,[]⟩:Sl qb)).length,(List.replicate (a0.length:Int).toNat (⟨none,0,[]⟩:Sl qb)),rfl,(V4 (er:=Sl.l) (a0.length:Int).toNat (⟨none,0,[]⟩:Sl qb)),H.toM _⟩ ?_
  clear G H
  rintro (_ | k) a w' ⟨x8,x9,G,p_x8,c_x8,_,L_x8,rfl,h_x8,H⟩
  ·exact absurd G (by unfold Qz.l10; exact fun h=>by cases h)
  ·unfold Qz.l10 at G
   refine qg qd H (.v 14 (.bool (decide (x9<(a0.length:Int))))<|.nil) [1,5,11,12,13,14,27,29,900045,28,999998] fun u11 a w' H=>?_
   refine qv ?_
   refine Qx H (decide (x9<(a0.length:Int))) (fun c20=>?_) fun c20=>?_
   ·rw [if_pos c20] at G
    refine Qf ?_
    refine qv ?_
    refine q6 ?_
    refine qv ?_
    replace G:=gd G; obtain ⟨b13,G⟩:=G
    obtain ⟨t14,ht14,G⟩:=qP G
    obtain ⟨p_t14,c_t14,y_t14⟩:=Yf h_a0 ht14
    refine Qt qd H (.v 15 (vI x9) <|
 .cons [16] (qG 27 (Zn 48 46 2 qa p_a0 L_a0.length c_a0 L_a0 (L_a0.drop (x9.toNat))) (.pointer (some ⟨Xf p_a0,Xg p_a0+x9.toNat * 1,none⟩)) 16 fun _ w h=>Jo 195 .i64 x9 p_a0 L_a0.length c_a0 a0 Qs (XS h).row.2 qR (qT h_a0) b13) <|
 .cons [17] (qG 27 (Zn 48 46 2 qa p_a0 L_a0.length c_a0 L_a0 (L_a0.drop (x9.toNat))) (.slice p_t14 t14.length c_t14) 17 fun _ w h=>Ym Qs (XS h).row.2 qR y_t14 0 1 [.slice p_t14 t14.length c_t14]) <|
 .v 6 (vI x9) <|
 .v 7 (.slice p_t14 t14.length c_t14)<|.nil) [1,5,6,7,11,12,13,27,29,900045,28,999998] fun u12 a w' H=>?_
    replace H:=H.nestPop (e:=48) (e2:=46) (sz:=2) (m:=L_a0.length) (cap:=c_a0) (en:=qa) (p:=p_a0) (H:=L_a0) (i:=x9.toNat) 27 31 (by kernel_rfl) y_t14 (by rfl)
    obtain ⟨t16,ht16,G⟩:=qP G
    replace G:=gd G; obtain ⟨b17,G⟩:=G
    obtain ⟨t18,ht18,G⟩:=qP G
    obtain ⟨p_t18,c_t18,y_t18⟩:=Yf h_x8 ht18
    refine Qt qd H (.v 18 (.slice p_x8 L_x8.length c_x8) <|
 .v 19 (vI x9) <|
 .v 20 (.func (.func 100) #[] #[vP b_a1_0 0]) <|
 .v 21 (vI x9) <|
 .v 22 (.slice p_t14 t14.length c_t14) <|
 .cons [23,31,32] (QI false fr [] [29,28] (fun u15=>[qB qk 2 p_a1_0 c_a1_0 a1_0 qa,Xp b_a1_0 [.slice p_a1_0 a1_0.length c_a1_0] 48]) [31] (fun u15=>[Qm 46 2 p_t14 c_t14 t14 qa]) 100 _ _ _ _ _ [32] 23 (fun u15 w hB hF hM=>X0.calls x9 t14 a1_0 p_t14 c_t14 b_a1_0 p_a1_0 c_a1_0 t16 w  hB hM ht16) (fun u15 w hF=>⟨⟨q9 (qj hF.1) (fun j h=>⟨_,(.head _),h⟩),Ze (hF.2.1 w (agree.refl _ _)) (.tail _ (.head _)) rfl,trivial⟩,trivial⟩) (fun u15 g=>(ql Qw qC)) (.inr (fun u15 g=>(Qv trivial (fun K h=>by cases h)))) (fun h=>by cases h)) <|
 .cons [24] (qG 900045 (qt p_x8 c_x8 L_x8) (.pointer (some ⟨Xf p_x8,Xg p_x8+x9.toNat * 1,none⟩)) 24 fun _ w h=>Jo 195 .i64 x9 p_x8 L_x8.length c_x8 x8 Qs (XS h).row.2 qR (qT h_x8) b17) <|
 .cons [900045,32,900045] (qa7 [5] [] (fun u15=>[]) 900045 32 (fun u15=>qt p_x8 c_x8 L_x8) (fun u15=>Qm 46 2 ((u15 5).o 0) ((u15 5).n 0) t16 qa) none (fun u15 g=>.nilFunc) (fun u15 g=>Qp p_x8 L_x8.length c_x8 (L_x8.set x9.toNat (⟨((u15 5).o 0),((u15 5).n 0),t16⟩:Sl qb))) (fun u15 w hF hK hK2 hd=>qcM hK hK2 hd qe (by decide) (fun hn h=>XK (en:=Qs) h qR (y:=(⟨((u15 5).o 0),((u15 5).n 0),t16⟩:Sl qb)) (vs:=[.slice ((u15 5).o 0) t16.length ((u15 5).n 0)]) y_t18 0 (by simp) (by simp) rfl (by kernel_rfl))) (hloc:=fun u u' h=>⟨by first | rfl | simp only [h 5 (by decide)],by first | rfl | simp only [h 5 (by decide)],by first | rfl | simp only [h 5 (by decide)],by first | rfl | simp only [h 5 (by decide)],by first | rfl | simp only [h 5 (by decide)]⟩))<|.nil) [1,5,11,12,13,27,29,900045,28,999998] fun u15 a w' H=>?_
    refine Qt qd H (.v 25 (vI (qc (x9+1))) <|
 .v 13 (vI (qc (x9+1)))<|.nil) [1,5,11,12,13,27,29,900045,28,999998] fun u19 a w' H=>?_
    rw [← qdK (x:=x9) (l:=a0) ⟨b13.1,b13.2⟩ b3.2] at H
    exact ⟨k,Nat.lt_succ_self k,_,_,G,p_x8,c_x8,L_x8.length,(L_x8.set x9.toNat (⟨((u15 5).o 0),((u15 5).n 0),t16⟩:Sl qb)),by simp,(map_set h_x8 x9.toNat (⟨((u15 5).o 0),((u15 5).n 0),t16⟩:Sl qb)),H.toM _⟩
   ·rw [if_neg (nt c20)] at G
    refine Yk rfl ?_
    obtain rfl:=sj G
    replace H:=H.move (K:=qt p_x8 c_x8 L_x8) 900045 900043 (by kernel_rfl) (by intro _ _ h; cases h)
    exact ⟨p_x8,c_x8,L_x8.length,L_x8,rfl,h_x8,H.toM _⟩
theorem XX.calls (a0:Int) (a1:qb) (q0:List qb) (b_q0:Nat) (p_q0:Option Addr) (c_q0:Nat) (r:qb) (w:World) (hB:Xx [qB qk 2 p_q0 c_q0 q0 qa,Xp b_q0 [.slice p_q0 q0.length c_q0] 48] w) (G:XX a0 a1 q0=some r) :
  Calls Tryz.prog 124 #[vI a0,.agg #[vI a1.Lo,vI a1.Hi],vP b_q0 0] w fun e w'=>e = .returned (.agg #[vI r.Lo,vI r.Hi])∧Below w.heap.size w w':=by
 obtain ⟨fr,hfr⟩:∃ fr:Nat→Prop,∀ j,fr j:=⟨fun _=>True,fun _=>trivial⟩
 have hBf:∀ j,w.heap.size≤j→fr j:=fun j _=>hfr j
 refine QO (args:=[vI a0,.agg #[vI a1.Lo,vI a1.Hi],vP b_q0 0]) 23 [(24,qB qk 2 p_q0 c_q0 q0 qa),(23,Xp b_q0 [.slice p_q0 q0.length c_q0] 48)] (by
  intro x hx
  simp only [List.mem_cons,List.not_mem_nil,or_false] at hx
  rcases hx with rfl | rfl
  ·exact qy (qj hB.1) (fun _ _=>trivial) (by decide) _
  ·exact QV (hB.2.1 w (agree.refl _ _)) _) Tryz.func124 rfl (by kernel_rfl) (by kernel_rfl) fun a H=>?_
 unfold XX at G
 refine qg qd H (.cons [4,25] (qs (fun b=>vP b 0) (fun u1=>[vI a1.Lo,vI a1.Hi]) 46 4 25) <|
 .cons [5,26] (qs (fun b=>vP b 0) (fun u1=>[vI 0,vI 0]) 46 5 26)<|.nil) [0,2,4,5,24,25,26,23] fun u1 a w' H=>?_
 refine qv ?_
 refine qv ?_
 replace G:=gd G; obtain ⟨b3,G⟩:=G
 obtain ⟨t4,ht4,G⟩:=qP G
 have P5:=Xh (en:=qa) (l:=q0) (qj (H.at (K:=qB qk 2 p_q0 c_q0 q0 qa) 24 (by kernel_rfl))).2 qe
 obtain ⟨t6,ht6,G⟩:=qP G
 refine Qt qd H (.cons [9] (qf (.agg #[vI a1.Lo,vI a1.Hi]) 9 25 0 2 ((u1 0).n 0) [vI a1.Lo,vI a1.Hi] 46) <|
 .cons [10] (Q8 (fun u2=>.slice p_q0 q0.length c_q0) 10 23 (Xp b_q0 [.slice p_q0 q0.length c_q0] 48) b_q0 0 1 [.slice p_q0 q0.length c_q0] (fun w h=>Zf h)) <|
 .v 11 (vI a0) <|
 .cons [12] (qn (fun u2=>.pointer (some ⟨Xf p_q0,Xg p_q0+a0.toNat * 2,none⟩)) 12 (hv:=fun _ _=>qM (t:=48) (k:=.i64) (i:=a0) (p:=p_q0) (n:=q0.length) (cap:=c_q0) (x:=q0) P5 rfl b3 (by kernel_rfl))) <|
 .cons [13] (qG 24 (qB qk 2 p_q0 c_q0 q0 qa) (.agg #[vI t4.Lo,vI t4.Hi]) 13 fun _ w h=>Ym qa (qj h).2 qe ht4 0 2 [vI t4.Lo,vI t4.Hi]) <|
 .cons [14] (qq 44 _ _ 14 [] (fun u2 w _=>YJ.calls a1 t4  t6 w  ht6)) <|
 .v 8 (.tuple #[.agg #[vI t6.1.Lo,vI t6.1.Hi],.bool t6.2]) <|
 .v 15 (.agg #[vI t6.1.Lo,vI t6.1.Hi]) <|
 .v 16 (.bool t6.2) <|
 .cons [6,27] (qs (fun b=>vP b 0) (fun u2=>[vI 0,vI 0]) 46 6 27) <|
 .cons [27] (QL (u':=fun u2=>[(27,.blk ((u2 9).n 0) [vI t6.1.Lo,vI t6.1.Hi] 46)]) (qW 27 0 (fun u2=>((u2 9).n 0)) (fun u2=>[vI 0,vI 0]) (fun u2=>[vI t6.1.Lo,vI t6.1.Hi]) 46) (fun _=>by kernel_rfl)) <|
 .v 7 (.bool t6.2)<|.nil) [0,2,5,6,7,24,26,27,23] fun u2 a w' H=>?_
 refine qg qd H (.v 17 (.bool t6.2)<|.nil) [0,2,5,6,17,24,26,27,23] fun u7 a w' H=>?_
 refine Qx H t6.2 (fun c12=>?_) fun c12=>?_
 ·rw [if_pos c12] at G
  refine qg qd H (.cons [18] (qf (.agg #[vI t6.1.Lo,vI t6.1.Hi]) 18 27 0 2 ((u2 9).n 0) [vI t6.1.Lo,vI t6.1.Hi] 46) <|
 .cons [26] (Qa 26 0 ((u1 1).n 0) [vI 0,vI 0] [vI t6.1.Lo,vI t6.1.Hi] 46 [vI t6.1.Lo,vI t6.1.Hi])<|.nil) [5,24,26,23] fun u8 a w' H=>?_
  refine qF ?_
  obtain rfl:=sj G
  exact Qj H _ 26 ((u1 1).n 0) [vI t6.1.Lo,vI t6.1.Hi] 46 0 2 (by kernel_rfl) (by kernel_rfl) (by kernel_rfl) (by kernel_rfl)
 ·rw [if_neg (nt c12)] at G
  refine Qf ?_
  refine qv ?_
  replace G:=gd G; obtain ⟨b10,G⟩:=G
  obtain ⟨t11,ht11,G⟩:=qP G
  refine Qt qd H (.cons [19] (Q8 (fun u9=>.slice p_q0 q0.length c_q0) 19 23 (Xp b_q0 [.slice p_q0 q0.length c_q0] 48) b_q0 0 1 [.slice p_q0 q0.length c_q0] (fun w h=>Zf h)) <|
 .v 20 (vI a0) <|
 .cons [21] (qG 24 (qB qk 2 p_q0 c_q0 q0 qa) (.pointer (some ⟨Xf p_q0,Xg p_q0+a0.toNat * 2,none⟩)) 21 fun _ w h=>Jo 48 .i64 a0 p_q0 q0.length c_q0 q0 qa (qj h).2 qe rfl b10) <|
 .cons [22] (qG 24 (qB qk 2 p_q0 c_q0 q0 qa) (.agg #[vI t11.Lo,vI t11.Hi]) 22 fun _ w h=>Ym qa (qj h).2 qe ht11 0 2 [vI t11.Lo,vI t11.Hi]) <|
 .cons [26] (Qa 26 0 ((u1 1).n 0) [vI 0,vI 0] [vI t11.Lo,vI t11.Hi] 46 [vI t11.Lo,vI t11.Hi])<|.nil) [5,24,26,23] fun u9 a w' H=>?_
  refine qF ?_
  obtain rfl:=sj G
  exact Qj H _ 26 ((u1 1).n 0) [vI t11.Lo,vI t11.Hi] 46 0 2 (by kernel_rfl) (by kernel_rfl) (by kernel_rfl) (by kernel_rfl)
theorem QB.calls (k0:Nat) (a0:List qb) (a1_0:List qb) (p_a0:Option Addr) (c_a0:Nat) (b_a1_0:Nat) (p_a1_0:Option Addr) (c_a1_0:Nat) (r:List qb) (w:World) (hB:Xx [qB qk 2 p_a0 c_a0 a0 qa,qB qk 2 p_a1_0 c_a1_0 a1_0 qa,Xp b_a1_0 [.slice p_a1_0 a1_0.length c_a1_0] 48] w) (G:QB k0 a0 a1_0=some r) :
  Calls Tryz.prog 123 #[.slice p_a0 a0.length c_a0,.func (.func 124) #[] #[vP b_a1_0 0]] w fun e w'=>∃ g:Gh,e = .returned (.slice (g.o 0) r.length (g.n 0))∧Zg (Y4 []) w w'∧Ys w.heap.size (Y4 []) (JH w.heap.size []) [fun _=>Qm 46 2 (g.o 0) (g.n 0) r qa] w':=by
 obtain ⟨fr,hfr,hBf⟩:=VE w []
 refine QO (args:=[.slice p_a0 a0.length c_a0,.func (.func 124) #[] #[vP b_a1_0 0]]) 27 [(27,qB qk 2 p_a0 c_a0 a0 qa),(29,qB qk 2 p_a1_0 c_a1_0 a1_0 qa),(28,Xp b_a1_0 [.slice p_a1_0 a1_0.length c_a1_0] 48)] (by
  intro x hx
  simp only [List.mem_cons,List.not_mem_nil,or_false] at hx
  rcases hx with rfl | rfl | rfl
  ·exact qy (qj hB.1) (fun _ _=>trivial) (by decide) _
  ·exact qy (qj hB.2.1) (fun _ _=>trivial) (by decide) _
  ·exact QV (hB.2.2.1 w (agree.refl _ _)) _) Tryz.func123 rfl (by kernel_rfl) (by kernel_rfl) fun a H=>?_
 unfold QB at G
 refine qg qd H (.v 4 (.slice none 0 0)<|.nil) [0,1,27,29,28] fun u1 a w' H=>?_
 refine qv ?_
 replace G:=gd G; obtain ⟨b3,G⟩:=G
 refine Qt qd H (.v 8 (.slice p_a0 a0.length c_a0) <|
 .v 9 (vI (a0.length:Int)) <|
 .cons [10,30] (Z7 [] (fun u2=>[]) 46 2 (List.replicate (a0.length:Int).toNat (⟨0,0⟩:qb)).length ((List.replicate (a0.length:Int).toNat (⟨0,0⟩:qb)).flatMap qa) 10 30 (fun _=>.none) (fun u2 w hF=>Yw (t:=48) (k:=.i64) (m:=(a0.length:Int)) (en:=qa) (z:=(⟨0,0⟩:qb)) qe JT rfl b3 (by kernel_rfl)) (fun _=>.inl rfl)) <|
 .cons [5] (qn (fun u2=>.slice ((u2 2).o 0) ((List.replicate (a0.length:Int).toNat (⟨0,0⟩:qb)).length) ((u2 2).n 0)) 5)<|.nil) [0,1,5,27,29,30,28] fun u2 a w' H=>?_
 refine qv ?_
 obtain ⟨j5,hj5,G⟩:=qP G
 refine Xq (fun a w'=>∃ (p_j4:Option Addr) (c_j4 np_j4:Nat),np_j4=j5.length∧RL w 27 [(5,sS p_j4 np_j4 c_j4),(29,qB qk 2 p_a1_0 c_a1_0 a1_0 qa),(900047,X6 46 2 p_j4 np_j4 c_j4 (j5.flatMap qa)),(28,Xp b_a1_0 [.slice p_a1_0 a1_0.length c_a1_0] 48)] a w') ?_ ?_
 ·clear H; rintro a w' ⟨p_j4,c_j4,_,rfl,H⟩
  refine qg qd H (.v 26 (.slice p_j4 j5.length c_j4) <|
 .v 4 (.slice p_j4 j5.length c_j4)<|.nil) [4,29,900047,28] fun u6 a w' H=>?_
  refine qF ?_
  obtain rfl:=sj G
  obtain ⟨g,o0,n0⟩:=ZX p_j4 c_j4
  refine QR H _ g _ _ _ fr [900047] [] (.slice p_j4 j5.length c_j4) [fun _=>Qm 46 2 p_j4 c_j4 j5 qa] (by simp only [Qm,o0,n0]) (by simp only [Qm,o0,n0]) hfr (.inl ⟨rfl,rfl⟩) (ql Qw qC) (by simp)
 ·clear G; replace G:=hj5; clear hj5
  refine qg qd H (.v 11 (.slice p_a0 a0.length c_a0) <|
 .v 12 (vI (a0.length:Int)) <|
 .v 13 (vI 0)<|.nil) [1,5,11,12,13,27,29,30,28] fun u7 a w' H=>?_
  refine q6 ?_
  replace H:=H.move (K:=Qm 46 2 ((u2 2).o 0) ((u2 2).n 0) (List.replicate (a0.length:Int).toNat (⟨0,0⟩:qb)) qa) 30 900048 (by kernel_rfl) (by intro _ _ h; cases h)
  refine XP (fun m a w'=>∃ x8:List qb,∃ x9:Int,QB.l10 k0 a0 a1_0 m x8 x9=some j5 ∧ ∃ (p_x8:Option Addr) (c_x8 np_x8:Nat),np_x8=x8.length∧RL w 27 [(1,.slot true (.func (.func 124) #[] #[vP b_a1_0 0])),(5,sS p_x8 np_x8 c_x8),(11,sS p_a0 a0.length c_a0),(12,(sI (a0.length:Int))),(13,sI x9),(27,qB qk 2 p_a0 c_a0 a0 qa),(29,qB qk 2 p_a1_0 c_a1_0 a1_0 qa),(900048,X6 46 2 p_x8 np_x8 c_x8 (x8.flatMap qa)),(28,Xp b_a1_0 [.slice p_a1_0 a1_0.length c_a1_0] 48)] a w') k0 ⟨_,_,G,((u2 2).o 0),((u2 2).n 0),(List.replicate (a0.length:Int).toNat (⟨0,0⟩:qb)).length,rfl,H.toM _⟩ ?_
  clear G H
  rintro (_ | k) a w' ⟨x8,x9,G,p_x8,c_x8,_,rfl,H⟩
  ·exact absurd G (by unfold QB.l10; exact fun h=>by cases h)
  ·unfold QB.l10 at G
   refine qg qd H (.v 14 (.bool (decide (x9<(a0.length:Int))))<|.nil) [1,5,11,12,13,14,27,29,900048,28] fun u11 a w' H=>?_
   refine qv ?_
   refine Qx H (decide (x9<(a0.length:Int))) (fun c20=>?_) fun c20=>?_
   ·rw [if_pos c20] at G
    refine Qf ?_
    refine qv ?_
    refine q6 ?_
    refine qv ?_
    replace G:=gd G; obtain ⟨b13,G⟩:=G
    obtain ⟨t14,ht14,G⟩:=qP G
    refine Qt qd H (.v 15 (vI x9) <|
 .cons [16] (qG 27 (qB qk 2 p_a0 c_a0 a0 qa) (.pointer (some ⟨Xf p_a0,Xg p_a0+x9.toNat * 2,none⟩)) 16 fun _ w h=>Jo 48 .i64 x9 p_a0 a0.length c_a0 a0 qa (qj h).2 qe rfl b13) <|
 .cons [17] (qG 27 (qB qk 2 p_a0 c_a0 a0 qa) (.agg #[vI t14.Lo,vI t14.Hi]) 17 fun _ w h=>Ym qa (qj h).2 qe ht14 0 2 [vI t14.Lo,vI t14.Hi]) <|
 .cons [7,31] (qs (fun b=>vP b 0) (fun u12=>[vI 0,vI 0]) 46 7 31) <|
 .v 6 (vI x9) <|
 .cons [31] (QL (u':=fun u12=>[(31,.blk ((u12 3).n 0) [vI t14.Lo,vI t14.Hi] 46)]) (qW 31 0 (fun u12=>((u12 3).n 0)) (fun u12=>[vI 0,vI 0]) (fun u12=>[vI t14.Lo,vI t14.Hi]) 46) (fun _=>by kernel_rfl))<|.nil) [1,5,6,7,11,12,13,27,29,31,900048,28] fun u12 a w' H=>?_
    obtain ⟨t16,ht16,G⟩:=qP G
    replace G:=gd G; obtain ⟨b17,G⟩:=G
    obtain ⟨t18,ht18,G⟩:=qP G
    refine Qt qd H (.v 18 (.slice p_x8 x8.length c_x8) <|
 .v 19 (vI x9) <|
 .v 20 (.func (.func 124) #[] #[vP b_a1_0 0]) <|
 .v 21 (vI x9) <|
 .cons [22] (qf (.agg #[vI t14.Lo,vI t14.Hi]) 22 31 0 2 ((u12 3).n 0) [vI t14.Lo,vI t14.Hi] 46) <|
 .cons [23] (QX [29,28] (fun u15=>[qB qk 2 p_a1_0 c_a1_0 a1_0 qa,Xp b_a1_0 [.slice p_a1_0 a1_0.length c_a1_0] 48]) 124 _ _ 23 (fun u15 w hF=>XX.calls x9 t14 a1_0 b_a1_0 p_a1_0 c_a1_0 t16 w  ⟨(Z9 (qj hF.1)),(QV (hF.2.1 w (agree.refl _ _)) 0).2.1,trivial⟩ ht16)) <|
 .cons [24] (qG 900048 (Qm 46 2 p_x8 c_x8 x8 qa) (.pointer (some ⟨Xf p_x8,Xg p_x8+x9.toNat * 2,none⟩)) 24 fun _ w h=>Jo 48 .i64 x9 p_x8 x8.length c_x8 x8 qa (qw (Qe h)).2 qe rfl b17) <|
 .cons [900048,900048] (XC [] [] (fun u15=>[]) 900048 (fun u15=>Qm 46 2 p_x8 c_x8 x8 qa) none (fun u15 g=>.nilFunc) (fun u15 g=>X6 46 2 p_x8 x8.length c_x8 ((x8.set x9.toNat t16).flatMap qa)) (fun u15 w hF hK=>ZA (XK (Qe hK) qe (y:=t16) (vs:=[vI t16.Lo,vI t16.Hi]) ht18 0 (by simp) (by simp) rfl (by kernel_rfl))))<|.nil) [1,5,11,12,13,27,29,900048,28] fun u15 a w' H=>?_
    refine Qt qd H (.v 25 (vI (qc (x9+1))) <|
 .v 13 (vI (qc (x9+1)))<|.nil) [1,5,11,12,13,27,29,900048,28] fun u19 a w' H=>?_
    exact ⟨k,Nat.lt_succ_self k,_,_,G,p_x8,c_x8,x8.length,by simp,H.toM _⟩
   ·rw [if_neg (nt c20)] at G
    refine Yk rfl ?_
    obtain rfl:=sj G
    replace H:=H.move (K:=Qm 46 2 p_x8 c_x8 x8 qa) 900048 900047 (by kernel_rfl) (by intro _ _ h; cases h)
    exact ⟨p_x8,c_x8,x8.length,rfl,H.toM _⟩
theorem Yc.calls (k0:Nat) (a0:List qb) (q0:List qb) (p_a0:Option Addr) (c_a0:Nat) (b_q0:Nat) (p_q0:Option Addr) (c_q0:Nat) (r:List qb) (w:World) (hB:Xx [qB qk 2 p_a0 c_a0 a0 qa,qB qk 2 p_q0 c_q0 q0 qa,Xp b_q0 [.slice p_q0 q0.length c_q0] 48] w) (G:Yc k0 a0 q0=some r) :
  Calls Tryz.prog 122 #[.slice p_a0 a0.length c_a0,vP b_q0 0] w fun e w'=>∃ g:Gh,e = .returned (.slice (g.o 0) r.length (g.n 0))∧Zg (Y4 []) w w'∧Ys w.heap.size (Y4 []) (JH w.heap.size []) [fun _=>Qm 46 2 (g.o 0) (g.n 0) r qa] w':=by
 obtain ⟨fr,hfr,hBf⟩:=VE w []
 refine QO (args:=[.slice p_a0 a0.length c_a0,vP b_q0 0]) 7 [(7,qB qk 2 p_a0 c_a0 a0 qa),(9,qB qk 2 p_q0 c_q0 q0 qa),(8,Xp b_q0 [.slice p_q0 q0.length c_q0] 48)] (by
  intro x hx
  simp only [List.mem_cons,List.not_mem_nil,or_false] at hx
  rcases hx with rfl | rfl | rfl
  ·exact qy (qj hB.1) (fun _ _=>trivial) (by decide) _
  ·exact qy (qj hB.2.1) (fun _ _=>trivial) (by decide) _
  ·exact QV (hB.2.2.1 w (agree.refl _ _)) _) Tryz.func122 rfl (by kernel_rfl) (by kernel_rfl) fun a H=>?_
 unfold Yc at G
 refine qg qd H (.v 3 (.slice none 0 0)<|.nil) [0,1,7,9,8] fun u1 a w' H=>?_
 obtain ⟨t3,ht3,G⟩:=qP G
 refine qg qd H (.v 4 (.slice p_a0 a0.length c_a0) <|
 .v 5 (.func (.func 124) #[] #[vP b_q0 0]) <|
 .cons [6,10] (QI false fr [] [7,9,8] (fun u2=>[qB qk 2 p_a0 c_a0 a0 qa,qB qk 2 p_q0 c_q0 q0 qa,Xp b_q0 [.slice p_q0 q0.length c_q0] 48]) [] (fun u2=>[]) 123 _ _ _ _ _ [10] 6 (fun u2 w hB hF hM=>QB.calls k0 a0 q0 p_a0 c_a0 b_q0 p_q0 c_q0 t3 w  hB ht3) (fun u2 w hF=>⟨⟨q9 (qj hF.1) (fun j h=>⟨_,(.head _),h⟩),q9 (qj hF.2.1) (fun j h=>⟨_,(.tail _ (.head _)),h⟩),Ze (hF.2.2.1 w (agree.refl _ _)) (.tail _ (.tail _ (.head _))) rfl,trivial⟩,trivial⟩) (fun u2 g=>(ql Qw qC)) (.inr (fun u2 g=>(Qv trivial (fun K h=>by cases h)))) (fun h=>by cases h)) <|
 .cons [3] (qn (fun u2=>.slice ((u2 2).o 0) t3.length ((u2 2).n 0)) 3)<|.nil) [3,9,10,8] fun u2 a w' H=>?_
 refine qF ?_
 obtain rfl:=sj G
 obtain ⟨g,o0,n0⟩:=ZX ((u2 2).o 0) ((u2 2).n 0)
 refine QR H _ g _ _ _ fr [10] [] (.slice ((u2 2).o 0) t3.length ((u2 2).n 0)) [fun _=>Qm 46 2 ((u2 2).o 0) ((u2 2).n 0) t3 qa] (by simp only [Qm,o0,n0]) (by simp only [Qm,o0,n0]) hfr (.inl ⟨rfl,rfl⟩) (ql Qw qC) (by simp)
theorem XU.calls (k0:Nat) (a0:QE) (a1:List qb) (a2:List qb) (a3:JM) (p_a0_L:Option Addr) (c_a0_L:Nat) (p_a0_Out:Option Addr) (c_a0_Out:Nat) (p_a1:Option Addr) (c_a1:Nat) (p_a2:Option Addr) (c_a2:Nat) (r:List qb) (w:World) (hB:Xx [qB qk 5 p_a0_L c_a0_L a0.L qi,qB qk 1 p_a0_Out c_a0_Out a0.Out Qn,qB qk 2 p_a1 c_a1 a1 qa,qB qk 2 p_a2 c_a2 a2 qa,gk] w) (G:XU k0 a0 a1 a2 a3=some r) :
  Calls Tryz.prog 80 #[.agg #[vI a0.N,.slice p_a0_L a0.L.length c_a0_L,.slice p_a0_Out a0.Out.length c_a0_Out],.slice p_a1 a1.length c_a1,.slice p_a2 a2.length c_a2,.agg #[vI a3.T,vI a3.H,vI a3.Part.Lo,vI a3.Part.Hi,vI a3.Order]] w fun e w'=>∃ g:Gh,e = .returned (.slice (g.o 0) r.length (g.n 0))∧Zg (Y4 []) w w'∧Ys w.heap.size (Y4 []) (JH w.heap.size []) [fun _=>Qm 46 2 (g.o 0) (g.n 0) r qa] w':=by
 obtain ⟨fr,hfr,hBf⟩:=VE w []
 refine QO (args:=[.agg #[vI a0.N,.slice p_a0_L a0.L.length c_a0_L,.slice p_a0_Out a0.Out.length c_a0_Out],.slice p_a1 a1.length c_a1,.slice p_a2 a2.length c_a2,.agg #[vI a3.T,vI a3.H,vI a3.Part.Lo,vI a3.Part.Hi,vI a3.Order]]) 38 [(38,qB qk 5 p_a0_L c_a0_L a0.L qi),(39,qB qk 1 p_a0_Out c_a0_Out a0.Out Qn),(40,qB qk 2 p_a1 c_a1 a1 qa),(41,qB qk 2 p_a2 c_a2 a2 qa),(999999,gk)] (by
  intro x hx
  simp only [List.mem_cons,List.not_mem_nil,or_false] at hx
  rcases hx with rfl | rfl | rfl | rfl | rfl
  ·exact qy (qj hB.1) (fun _ _=>trivial) (by decide) _
  ·exact qy (qj hB.2.1) (fun _ _=>trivial) (by decide) _
  ·exact qy (qj hB.2.2.1) (fun _ _=>trivial) (by decide) _
  ·exact qy (qj hB.2.2.2.1) (fun _ _=>trivial) (by decide) _
  ·exact ⟨⟨_,_,rfl⟩,hB.2.2.2.2.1,Yl (QM hB.2.2.2.2.1)⟩) Tryz.func80 rfl (by kernel_rfl) (by kernel_rfl) fun a H=>?_
 unfold XU at G
 refine qg qd H (.cons [4,42] (qs (fun b=>vP b 0) (fun u1=>[vI a0.N,.slice p_a0_L a0.L.length c_a0_L,.slice p_a0_Out a0.Out.length c_a0_Out]) 38 4 42) <|
 .cons [7,43] (qs (fun b=>vP b 0) (fun u1=>[vI a3.T,vI a3.H,vI a3.Part.Lo,vI a3.Part.Hi,vI a3.Order]) 166 7 43) <|
 .v 8 (.slice none 0 0)<|.nil) [1,2,4,7,38,39,40,41,42,43,999999] fun u1 a w' H=>?_
 obtain ⟨t3,ht3,G⟩:=qP G
 refine qg qd H (.cons [11] (qf (.agg #[vI a0.N,.slice p_a0_L a0.L.length c_a0_L,.slice p_a0_Out a0.Out.length c_a0_Out]) 11 42 0 3 ((u1 0).n 0) [vI a0.N,.slice p_a0_L a0.L.length c_a0_L,.slice p_a0_Out a0.Out.length c_a0_Out] 38) <|
 .v 12 (.slice p_a2 a2.length c_a2) <|
 .v 13 (vP ((u1 1).n 0) 0) <|
 .cons [14] (qf (vI a3.T) 14 43 0 1 ((u1 1).n 0) [vI a3.T,vI a3.H,vI a3.Part.Lo,vI a3.Part.Hi,vI a3.Order] 166) <|
 .v 15 (vP ((u1 1).n 0) 1) <|
 .cons [16] (qf (vI a3.H) 16 43 1 1 ((u1 1).n 0) [vI a3.T,vI a3.H,vI a3.Part.Lo,vI a3.Part.Hi,vI a3.Order] 166) <|
 .v 17 (.agg #[vI a3.T,vI a3.H]) <|
 .v 18 (vP ((u1 1).n 0) 4) <|
 .cons [19] (qf (vI a3.Order) 19 43 4 1 ((u1 1).n 0) [vI a3.T,vI a3.H,vI a3.Part.Lo,vI a3.Part.Hi,vI a3.Order] 166) <|
 .cons [20,44] (QI false fr [] [38,39,41,999999] (fun u2=>[qB qk 5 p_a0_L c_a0_L a0.L qi,qB qk 1 p_a0_Out c_a0_Out a0.Out Qn,qB qk 2 p_a2 c_a2 a2 qa,gk]) [] (fun u2=>[]) 97 _ _ _ _ _ [44] 20 (fun u2 w hB hF hM=>Yj.calls k0 (⟨a0.N,a0.L,a0.Out⟩:QE) a2 (⟨a3.T,a3.H⟩:Q6) a3.Order p_a0_L c_a0_L p_a0_Out c_a0_Out p_a2 c_a2 t3 w  hB ht3) (fun u2 w hF=>⟨⟨q9 (qj hF.1) (fun j h=>⟨_,(.head _),h⟩),q9 (qj hF.2.1) (fun j h=>⟨_,(.tail _ (.head _)),h⟩),q9 (qj hF.2.2.1) (fun j h=>⟨_,(.tail _ (.tail _ (.head _))),h⟩),Z6 hF.2.2.2.1 (.tail _ (.tail _ (.tail _ (.head _)))),trivial⟩,trivial⟩) (fun u2 g=>(ql Qw qC)) (.inr (fun u2 g=>(Qv trivial (fun K h=>by cases h)))) (fun h=>by cases h)) <|
 .cons [9,45] (qs (fun b=>vP b 0) (fun u2=>[.slice none 0 0]) 48 9 45) <|
 .cons [45] (QL (u':=fun u2=>[(45,.blk ((u2 10).n 0) [.slice ((u2 9).o 0) t3.length ((u2 9).n 0)] 48)]) (qW 45 0 (fun u2=>((u2 10).n 0)) (fun u2=>[.slice none 0 0]) (fun u2=>[.slice ((u2 9).o 0) t3.length ((u2 9).n 0)]) 48) (fun _=>by kernel_rfl))<|.nil) [1,2,4,7,9,38,39,40,41,42,43,44,45,999999] fun u2 a w' H=>?_
 refine qv ?_
 obtain ⟨t5,ht5,G⟩:=qP G
 obtain ⟨t6,ht6,G⟩:=qP G
 obtain ⟨t7,ht7,G⟩:=qP G
 refine ZC qd H (.cons [21] (qf (.agg #[vI a0.N,.slice p_a0_L a0.L.length c_a0_L,.slice p_a0_Out a0.Out.length c_a0_Out]) 21 42 0 3 ((u1 0).n 0) [vI a0.N,.slice p_a0_L a0.L.length c_a0_L,.slice p_a0_Out a0.Out.length c_a0_Out] 38) <|
 .v 22 (.slice p_a1 a1.length c_a1) <|
 .v 23 (vP ((u1 1).n 0) 0) <|
 .cons [24] (qf (vI a3.T) 24 43 0 1 ((u1 1).n 0) [vI a3.T,vI a3.H,vI a3.Part.Lo,vI a3.Part.Hi,vI a3.Order] 166) <|
 .cons [25] (qq 46 _ _ 25 [] (fun u4 w _=>Yz.calls a3.T  t5 w  ht5)) <|
 .v 26 (vP ((u1 1).n 0) 4) <|
 .cons [27] (qf (vI a3.Order) 27 43 4 1 ((u1 1).n 0) [vI a3.T,vI a3.H,vI a3.Part.Lo,vI a3.Part.Hi,vI a3.Order] 166) <|
 .cons [28,46] (QI false fr [] [38,39,40,999999] (fun u4=>[qB qk 5 p_a0_L c_a0_L a0.L qi,qB qk 1 p_a0_Out c_a0_Out a0.Out Qn,qB qk 2 p_a1 c_a1 a1 qa,gk]) [] (fun u4=>[]) 99 _ _ _ _ _ [46] 28 (fun u4 w hB hF hM=>Q7.calls k0 (⟨a0.N,a0.L,a0.Out⟩:QE) a1 t5 a3.Order p_a0_L c_a0_L p_a0_Out c_a0_Out p_a1 c_a1 t6 w  hB ht6) (fun u4 w hF=>⟨⟨q9 (qj hF.1) (fun j h=>⟨_,(.head _),h⟩),q9 (qj hF.2.1) (fun j h=>⟨_,(.tail _ (.head _)),h⟩),q9 (qj hF.2.2.1) (fun j h=>⟨_,(.tail _ (.tail _ (.head _))),h⟩),Z6 hF.2.2.2.1 (.tail _ (.tail _ (.tail _ (.head _)))),trivial⟩,trivial⟩) (fun u4 g=>(ql Jb qC)) (.inr (fun u4 g=>(Qv trivial (fun K h=>by cases h)))) (fun h=>by cases h)) <|
 .v 29 (.func (.func 100) #[] #[vP ((u2 10).n 0) 0]) <|
 .cons [30,46,47] (QI false fr [7] [44,45] (fun u4=>[Qm 46 2 ((u2 9).o 0) ((u2 9).n 0) t3 qa,.blk ((u2 10).n 0) [.slice ((u2 9).o 0) t3.length ((u2 9).n 0)] 48]) [46] (fun u4=>[ns_en_TIntervalg (u4 7) 0 t6]) 98 _ _ _ _ _ [47] 30 (fun u4 w hB hF hM=>Qz.calls k0 t6 t3 ((u4 7).o 0) ((u4 7).n 0) (dlgd_S_TInterval (u4 7) 0 t6) ((u2 10).n 0) ((u2 9).o 0) ((u2 9).n 0) t7 w (XL ZG (u4 7) 0 t6) hB hM ht7) (fun u4 w hF=>⟨⟨q9 (qw (Qe hF.1)) (fun j h=>⟨_,(.head _),(YT h)⟩),Ze hF.2.1 (.tail _ (.head _)) rfl,trivial⟩,trivial⟩) (fun u4 g=>(ql Jb qC)) (.inr (fun u4 g=>(Qv trivial (fun K h=>by cases h)))) (fun h=>by cases h) (hloc:=fun u u' h=>⟨by first | rfl | simp only [h 7 (by decide)],by first | rfl | simp only [h 7 (by decide)],by first | rfl | simp only [h 7 (by decide)],by first | rfl | simp only [h 7 (by decide)],by first | rfl | simp only [h 7 (by decide)],by first | rfl | simp only [h 7 (by decide)]⟩)) <|
 .cons [10] (qn (fun u4=>slgd_S_TInterval (u4 9) 0 t7) 10)<|.nil) (by kernel_rfl) fun u4 a w' H=>?_
 replace H:=H.kp [2,7,10,41,43,47,999999]
 refine qv ?_
 obtain ⟨t9,ht9,G⟩:=qP G
 obtain ⟨t10,ht10,G⟩:=qP G
 refine ZC qd H (.v 31 (.slice p_a2 a2.length c_a2) <|
 .cons [32,48] (qdv 101 (fun u8=>#[.slice p_a2 a2.length c_a2]) (fun b1=>.func (.func 122) #[] #[vP b1 0]) [.slice p_a2 a2.length c_a2] 48 32 48 (fun _ w=>step_restrictTo.calls a2 p_a2 a2.length c_a2 w)) <|
 .v 33 (slgd_S_TInterval (u4 9) 0 t7) <|
 .v 34 (vP ((u1 1).n 0) 2) <|
 .cons [35] (qf (.agg #[vI a3.Part.Lo,vI a3.Part.Hi]) 35 43 2 2 ((u1 1).n 0) [vI a3.T,vI a3.H,vI a3.Part.Lo,vI a3.Part.Hi,vI a3.Order] 166) <|
 .cons [36,49] (QI false fr [] [47,999999] (fun u8=>[ns_en_TIntervalg (u4 9) 0 t7,gk]) [] (fun u8=>[]) 102 _ _ _ _ _ [49] 36 (fun u8 w hB hF hM=>ZF.calls k0 t7 (⟨a3.Part.Lo,a3.Part.Hi⟩:qb) ((u4 9).o 0) ((u4 9).n 0) (dlgd_S_TInterval (u4 9) 0 t7) t9 w (XL ZG (u4 9) 0 t7) hB ht9) (fun u8 w hF=>⟨⟨q9 (XS hF.1).row (fun j h=>⟨_,(.head _),(qbd h)⟩),J7 (XS hF.1).all (fun j h=>⟨_,(.head _),(qba h)⟩),Z6 hF.2.1 (.tail _ (.head _)),trivial⟩,trivial⟩) (fun u8 g=>(ql Qw qC)) (.inr (fun u8 g=>(Qv trivial (fun K h=>by cases h)))) (fun h=>by cases h)) <|
 .cons [37,50] (QI false fr [1,5] [49,41,48] (fun u8=>[Qm 46 2 ((u8 5).o 0) ((u8 5).n 0) t9 qa,qB qk 2 p_a2 c_a2 a2 qa,.blk ((u8 1).n 0) [.slice p_a2 a2.length c_a2] 48]) [] (fun u8=>[]) 122 _ _ _ _ _ [50] 37 (fun u8 w hB hF hM=>Yc.calls k0 t9 a2 ((u8 5).o 0) ((u8 5).n 0) ((u8 1).n 0) p_a2 c_a2 t10 w  hB ht10) (fun u8 w hF=>⟨⟨q9 (qw (Qe hF.1)) (fun j h=>⟨_,(.head _),(YT h)⟩),q9 (qj hF.2.1) (fun j h=>⟨_,(.tail _ (.head _)),h⟩),Ze hF.2.2.1 (.tail _ (.tail _ (.head _))) rfl,trivial⟩,trivial⟩) (fun u8 g=>(ql Qw qC)) (.inr (fun u8 g=>(Qv trivial (fun K h=>by cases h)))) (fun h=>by cases h) (hloc:=fun u u' h=>⟨by first | rfl | simp only [h 1 (by decide),h 5 (by decide)],by first | rfl | simp only [h 1 (by decide),h 5 (by decide)],by first | rfl | simp only [h 1 (by decide),h 5 (by decide)],by first | rfl | simp only [h 1 (by decide),h 5 (by decide)],by first | rfl | simp only [h 1 (by decide),h 5 (by decide)],by first | rfl | simp only [h 1 (by decide),h 5 (by decide)]⟩)) <|
 .cons [8] (qn (fun u8=>.slice ((u8 6).o 0) t10.length ((u8 6).n 0)) 8)<|.nil) (by kernel_rfl) fun u8 a w' H=>?_
 replace H:=H.kp [8,50,999999]
 refine qF ?_
 obtain rfl:=sj G
 obtain ⟨g,o0,n0⟩:=ZX ((u8 6).o 0) ((u8 6).n 0)
 refine QR H _ g _ _ _ fr [50] [] (.slice ((u8 6).o 0) t10.length ((u8 6).n 0)) [fun _=>Qm 46 2 ((u8 6).o 0) ((u8 6).n 0) t10 qa] (by simp only [Qm,o0,n0]) (by simp only [Qm,o0,n0]) hfr (.inl ⟨rfl,rfl⟩) (ql Qw qC) (by simp)
theorem Y2.calls (k0:Nat) (a0:Qc) (p_a0_From:Option Addr) (c_a0_From:Nat) (p_a0_Pre:Option Addr) (c_a0_Pre:Nat) (p_a0_Tube:Option Addr) (c_a0_Tube:Nat) (p_a0_To:Option Addr) (c_a0_To:Nat) (r:Qc × Bool) (w:World) (hF:Xx [qB qk 2 p_a0_From c_a0_From a0.From qa,qB qk 2 p_a0_Pre c_a0_Pre a0.Pre qa,qB qk 2 p_a0_Tube c_a0_Tube a0.Tube qa,qB qk 2 p_a0_To c_a0_To a0.To qa] w) (G:Y2 k0 a0=some r) :
  Calls Tryz.prog 81 #[.agg #[vI a0.T,vI a0.H,.slice p_a0_From a0.From.length c_a0_From,.slice p_a0_Pre a0.Pre.length c_a0_Pre,.slice p_a0_Tube a0.Tube.length c_a0_Tube,.slice p_a0_To a0.To.length c_a0_To]] w fun e w'=>∃ g:Gh,e = .returned (.tuple #[.agg #[vI r.1.T,vI r.1.H,.slice (g.o 0) r.1.From.length (g.n 0),.slice (g.o 1) r.1.Pre.length (g.n 1),.slice (g.o 2) r.1.Tube.length (g.n 2),.slice (g.o 3) r.1.To.length (g.n 3)],.bool r.2])∧Zg (Y4 []) w w'∧Ys w.heap.size (Y4 []) (JH w.heap.size [qB qk 2 p_a0_From c_a0_From a0.From qa,qB qk 2 p_a0_Pre c_a0_Pre a0.Pre qa,qB qk 2 p_a0_Tube c_a0_Tube a0.Tube qa,qB qk 2 p_a0_To c_a0_To a0.To qa]) [fun fr=>YZ fr 2 (g.o 0) r.1.From.length (g.n 0) (r.1.From.flatMap qa),fun fr=>YZ fr 2 (g.o 1) r.1.Pre.length (g.n 1) (r.1.Pre.flatMap qa),fun fr=>YZ fr 2 (g.o 2) r.1.Tube.length (g.n 2) (r.1.Tube.flatMap qa),fun fr=>YZ fr 2 (g.o 3) r.1.To.length (g.n 3) (r.1.To.flatMap qa)] w':=by
 obtain ⟨fr,hfr,hBf⟩:=VE w [qB qk 2 p_a0_From c_a0_From a0.From qa,qB qk 2 p_a0_Pre c_a0_Pre a0.Pre qa,qB qk 2 p_a0_Tube c_a0_Tube a0.Tube qa,qB qk 2 p_a0_To c_a0_To a0.To qa]
 refine QO (args:=[.agg #[vI a0.T,vI a0.H,.slice p_a0_From a0.From.length c_a0_From,.slice p_a0_Pre a0.Pre.length c_a0_Pre,.slice p_a0_Tube a0.Tube.length c_a0_Tube,.slice p_a0_To a0.To.length c_a0_To]]) 14 [(14,qB fr 2 p_a0_From c_a0_From a0.From qa),(15,qB fr 2 p_a0_Pre c_a0_Pre a0.Pre qa),(16,qB fr 2 p_a0_Tube c_a0_Tube a0.Tube qa),(17,qB fr 2 p_a0_To c_a0_To a0.To qa)] (by
  intro x hx
  simp only [List.mem_cons,List.not_mem_nil,or_false] at hx
  rcases hx with rfl | rfl | rfl | rfl
  ·exact qy (qj hF.1) (fun j h=>by rw [hfr]; exact .inr ⟨_,(.head _),h⟩) (by decide) _
  ·exact qy (qj hF.2.1) (fun j h=>by rw [hfr]; exact .inr ⟨_,(.tail _ (.head _)),h⟩) (by decide) _
  ·exact qy (qj hF.2.2.1) (fun j h=>by rw [hfr]; exact .inr ⟨_,(.tail _ (.tail _ (.head _))),h⟩) (by decide) _
  ·exact qy (qj hF.2.2.2.1) (fun j h=>by rw [hfr]; exact .inr ⟨_,(.tail _ (.tail _ (.tail _ (.head _)))),h⟩) (by decide) _) Tryz.func81 rfl (by kernel_rfl) (by kernel_rfl) fun a H=>?_
 unfold Y2 at G
 refine qg qd H (.cons [1,18] (qs (fun b=>vP b 0) (fun u1=>[vI a0.T,vI a0.H,.slice p_a0_From a0.From.length c_a0_From,.slice p_a0_Pre a0.Pre.length c_a0_Pre,.slice p_a0_Tube a0.Tube.length c_a0_Tube,.slice p_a0_To a0.To.length c_a0_To]) 63 1 18) <|
 .cons [2,19] (qs (fun b=>vP b 0) (fun u1=>[vI 0,vI 0,.slice none 0 0,.slice none 0 0,.slice none 0 0,.slice none 0 0]) 63 2 19) <|
 .v 3 (.bool false)<|.nil) [1,2,14,15,16,17,18,19] fun u1 a w' H=>?_
 refine qv ?_
 obtain ⟨t3,ht3,G⟩:=qP G
 obtain ⟨t4,ht4,G⟩:=qP G
 refine qg qd H (.v 4 (vP ((u1 0).n 0) 4) <|
 .cons [5] (qf (.slice p_a0_Tube a0.Tube.length c_a0_Tube) 5 18 4 1 ((u1 0).n 0) [vI a0.T,vI a0.H,.slice p_a0_From a0.From.length c_a0_From,.slice p_a0_Pre a0.Pre.length c_a0_Pre,.slice p_a0_Tube a0.Tube.length c_a0_Tube,.slice p_a0_To a0.To.length c_a0_To] 63) <|
 .cons [6] (QX [16] (fun u2=>[qB fr 2 p_a0_Tube c_a0_Tube a0.Tube qa]) 84 _ _ 6 (fun u2 w hF=>Q1.calls k0 a0.Tube p_a0_Tube c_a0_Tube t3 w  ⟨(Z9 (qj hF.1)),trivial⟩ ht3)) <|
 .v 7 (.bool t3) <|
 .cons [8] (qQ (fun u2=>vP ((u1 0).n 0) 5) (fun u2=>(t3 == false)) [true] 8) <|
 .cons [9] (YS (fun u2=>.slice p_a0_To a0.To.length c_a0_To) (fun u2=>(t3 == false)) [false] 9 18 5 1 (fun u2=>((u1 0).n 0)) (fun u2=>[vI a0.T,vI a0.H,.slice p_a0_From a0.From.length c_a0_From,.slice p_a0_Pre a0.Pre.length c_a0_Pre,.slice p_a0_Tube a0.Tube.length c_a0_Tube,.slice p_a0_To a0.To.length c_a0_To]) 63) <|
 .cons [10] (Wp [17] (fun u2=>[qB fr 2 p_a0_To c_a0_To a0.To qa]) 84 (fun u2=>#[.slice p_a0_To a0.To.length c_a0_To,.func (.func 21) #[] #[]]) (.bool t4) (fun u2=>(t3 == false)) [true,false,true] 10 (fun u2 w hg hF=>Q1.calls k0 a0.To p_a0_To c_a0_To t4 w  ⟨(Z9 (qj hF.1)),trivial⟩ (ifp ht4 hg))) <|
 .cons [11] (ZM 7 10 (fun u2=>true) (fun u2=>true) (fun u2=>t3) (fun u2=>t4) 11)<|.nil) [1,2,11,14,15,16,17,18,19] fun u2 a w' H=>?_
 refine Qx H (t3 || t4) (fun c7=>?_) fun c7=>?_
 ·rw [if_pos c7] at G
  refine qg qd H (.v 12 (.agg #[vI 0,vI 0,.slice none 0 0,.slice none 0 0,.slice none 0 0,.slice none 0 0]) <|
 .cons [19] (Qa 19 0 ((u1 1).n 0) [vI 0,vI 0,.slice none 0 0,.slice none 0 0,.slice none 0 0,.slice none 0 0] [vI 0,vI 0,.slice none 0 0,.slice none 0 0,.slice none 0 0,.slice none 0 0] 63 [vI 0,vI 0,.slice none 0 0,.slice none 0 0,.slice none 0 0,.slice none 0 0]) <|
 .v 3 (.bool false)<|.nil) [2,3,19] fun u5 a w' H=>?_
  refine qF ?_
  obtain rfl:=sj G
  replace H:=H.nil_row 20 46 2
  replace H:=H.demote fr 20 46 2 none 0 0 (([]:List qb).flatMap qa) (by kernel_rfl) (by decide) hBf
  replace H:=H.nil_row 21 46 2
  replace H:=H.demote fr 21 46 2 none 0 0 (([]:List qb).flatMap qa) (by kernel_rfl) (by decide) hBf
  replace H:=H.nil_row 22 46 2
  replace H:=H.demote fr 22 46 2 none 0 0 (([]:List qb).flatMap qa) (by kernel_rfl) (by decide) hBf
  replace H:=H.nil_row 23 46 2
  replace H:=H.demote fr 23 46 2 none 0 0 (([]:List qb).flatMap qa) (by kernel_rfl) (by decide) hBf
  obtain ⟨g,o0,n0,o1,n1,o2,n2,o3,n3⟩:∃ g:Gh,g.o 0=none∧g.n 0=0∧g.o 1=none∧g.n 1=0∧g.o 2=none∧g.n 2=0∧g.o 3=none∧g.n 3=0:=⟨⟨fun i=>[0,0,0,0].getD i 0,fun i=>[none,none,none,none].getD i none,fun i=>([⟨Unit,()⟩,⟨Unit,()⟩,⟨Unit,()⟩,⟨Unit,()⟩]:List ((T:Type) × T)).getD i ⟨Unit,()⟩⟩,rfl,rfl,rfl,rfl,rfl,rfl,rfl,rfl⟩
  refine QR H _ g _ _ _ fr [20,21,22,23] [(19,⟨((u1 1).n 0),[vI 0,vI 0,.slice none 0 0,.slice none 0 0,.slice none 0 0,.slice none 0 0],0,6⟩)] (.tuple #[.agg #[vI 0,vI 0,.slice none 0 0,.slice none 0 0,.slice none 0 0,.slice none 0 0],.bool false]) [fun fr=>YZ fr 2 none 0 0 (([]:List qb).flatMap qa),fun fr=>YZ fr 2 none 0 0 (([]:List qb).flatMap qa),fun fr=>YZ fr 2 none 0 0 (([]:List qb).flatMap qa),fun fr=>YZ fr 2 none 0 0 (([]:List qb).flatMap qa)] (by simp only [Qm,o0,n0,o1,n1,o2,n2,o3,n3,List.length_set,List.length_cons,List.length_nil,Nat.zero_add,Nat.reduceAdd]) (by simp only [Qm,o0,n0,o1,n1,o2,n2,o3,n3,List.length_set,List.length_cons,List.length_nil,Nat.zero_add,Nat.reduceAdd]) hfr (.inl ⟨rfl,rfl⟩) (ql (QZ (by decide)) (ql (QZ (by decide)) (ql (QZ (by decide)) (ql (QZ (by decide)) qC)))) (by intro p hp; simp only [List.mem_cons,List.not_mem_nil,or_false] at hp; rcases hp with rfl; exact ⟨⟨63,by kernel_rfl⟩,by kernel_rfl⟩)
 ·rw [if_neg (nt c7)] at G
  refine Qf ?_
  refine qg qd H (.cons [13] (qf (.agg #[vI a0.T,vI a0.H,.slice p_a0_From a0.From.length c_a0_From,.slice p_a0_Pre a0.Pre.length c_a0_Pre,.slice p_a0_Tube a0.Tube.length c_a0_Tube,.slice p_a0_To a0.To.length c_a0_To]) 13 18 0 6 ((u1 0).n 0) [vI a0.T,vI a0.H,.slice p_a0_From a0.From.length c_a0_From,.slice p_a0_Pre a0.Pre.length c_a0_Pre,.slice p_a0_Tube a0.Tube.length c_a0_Tube,.slice p_a0_To a0.To.length c_a0_To] 63) <|
 .cons [19] (Qa 19 0 ((u1 1).n 0) [vI 0,vI 0,.slice none 0 0,.slice none 0 0,.slice none 0 0,.slice none 0 0] [vI a0.T,vI a0.H,.slice p_a0_From a0.From.length c_a0_From,.slice p_a0_Pre a0.Pre.length c_a0_Pre,.slice p_a0_Tube a0.Tube.length c_a0_Tube,.slice p_a0_To a0.To.length c_a0_To] 63 [vI a0.T,vI a0.H,.slice p_a0_From a0.From.length c_a0_From,.slice p_a0_Pre a0.Pre.length c_a0_Pre,.slice p_a0_Tube a0.Tube.length c_a0_Tube,.slice p_a0_To a0.To.length c_a0_To]) <|
 .v 3 (.bool true)<|.nil) [2,3,14,15,16,17,19] fun u6 a w' H=>?_
  refine qF ?_
  obtain rfl:=sj G
  obtain ⟨g,o0,n0,o1,n1,o2,n2,o3,n3⟩:∃ g:Gh,g.o 0=p_a0_From∧g.n 0=c_a0_From∧g.o 1=p_a0_Pre∧g.n 1=c_a0_Pre∧g.o 2=p_a0_Tube∧g.n 2=c_a0_Tube∧g.o 3=p_a0_To∧g.n 3=c_a0_To:=⟨⟨fun i=>[c_a0_From,c_a0_Pre,c_a0_Tube,c_a0_To].getD i 0,fun i=>[p_a0_From,p_a0_Pre,p_a0_Tube,p_a0_To].getD i none,fun i=>([⟨Unit,()⟩,⟨Unit,()⟩,⟨Unit,()⟩,⟨Unit,()⟩]:List ((T:Type) × T)).getD i ⟨Unit,()⟩⟩,rfl,rfl,rfl,rfl,rfl,rfl,rfl,rfl⟩
  refine QR H _ g _ _ _ fr [14,15,16,17] [(19,⟨((u1 1).n 0),[vI a0.T,vI a0.H,.slice p_a0_From a0.From.length c_a0_From,.slice p_a0_Pre a0.Pre.length c_a0_Pre,.slice p_a0_Tube a0.Tube.length c_a0_Tube,.slice p_a0_To a0.To.length c_a0_To],0,6⟩)] (.tuple #[.agg #[vI a0.T,vI a0.H,.slice p_a0_From a0.From.length c_a0_From,.slice p_a0_Pre a0.Pre.length c_a0_Pre,.slice p_a0_Tube a0.Tube.length c_a0_Tube,.slice p_a0_To a0.To.length c_a0_To],.bool true]) [fun fr=>qB fr 2 p_a0_From c_a0_From a0.From qa,fun fr=>qB fr 2 p_a0_Pre c_a0_Pre a0.Pre qa,fun fr=>qB fr 2 p_a0_Tube c_a0_Tube a0.Tube qa,fun fr=>qB fr 2 p_a0_To c_a0_To a0.To qa] (by simp only [Qm,o0,n0,o1,n1,o2,n2,o3,n3]) (by simp only [Qm,o0,n0,o1,n1,o2,n2,o3,n3]) hfr (.inl ⟨rfl,rfl⟩) (ql (QZ (by decide)) (ql (QZ (by decide)) (ql (QZ (by decide)) (ql (QZ (by decide)) qC)))) (by intro p hp; simp only [List.mem_cons,List.not_mem_nil,or_false] at hp; rcases hp with rfl; exact ⟨⟨63,by kernel_rfl⟩,by kernel_rfl⟩)
theorem Qb.calls (k0:Nat) (a0:Int) (a1:Int) (q0:QE) (q1:List qb) (q2:List qb) (q3:Q6) (q4:Int) (b_q0:Nat) (p_q0_L:Option Addr) (c_q0_L:Nat) (p_q0_Out:Option Addr) (c_q0_Out:Nat) (b_q1:Nat) (p_q1:Option Addr) (c_q1:Nat) (b_q2:Nat) (p_q2:Option Addr) (c_q2:Nat) (b_q3:Nat) (b_q4:Nat) (r:List qb) (w:World) (hB:Xx [qB qk 5 p_q0_L c_q0_L q0.L qi,qB qk 1 p_q0_Out c_q0_Out q0.Out Qn,Xp b_q0 [vI q0.N,.slice p_q0_L q0.L.length c_q0_L,.slice p_q0_Out q0.Out.length c_q0_Out] 38,qB qk 2 p_q1 c_q1 q1 qa,Xp b_q1 [.slice p_q1 q1.length c_q1] 48,qB qk 2 p_q2 c_q2 q2 qa,Xp b_q2 [.slice p_q2 q2.length c_q2] 48,Xp b_q3 [vI q3.T,vI q3.H] 53,Xp b_q4 [vI q4] 3,gk] w) (G:Qb k0 a0 a1 q0 q1 q2 q3 q4=some r) :
  Calls Tryz.prog 79 #[vI a0,vI a1,vP b_q0 0,vP b_q1 0,vP b_q2 0,vP b_q3 0,vP b_q4 0] w fun e w'=>∃ g:Gh,e = .returned (.slice (g.o 0) r.length (g.n 0))∧Zg (Y4 []) w w'∧Ys w.heap.size (Y4 []) (JH w.heap.size []) [fun _=>Qm 46 2 (g.o 0) (g.n 0) r qa] w':=by
 obtain ⟨fr,hfr,hBf⟩:=VE w []
 refine QO (args:=[vI a0,vI a1,vP b_q0 0,vP b_q1 0,vP b_q2 0,vP b_q3 0,vP b_q4 0]) 23 [(24,qB qk 5 p_q0_L c_q0_L q0.L qi),(25,qB qk 1 p_q0_Out c_q0_Out q0.Out Qn),(23,Xp b_q0 [vI q0.N,.slice p_q0_L q0.L.length c_q0_L,.slice p_q0_Out q0.Out.length c_q0_Out] 38),(27,qB qk 2 p_q1 c_q1 q1 qa),(26,Xp b_q1 [.slice p_q1 q1.length c_q1] 48),(29,qB qk 2 p_q2 c_q2 q2 qa),(28,Xp b_q2 [.slice p_q2 q2.length c_q2] 48),(30,Xp b_q3 [vI q3.T,vI q3.H] 53),(31,Xp b_q4 [vI q4] 3),(999999,gk)] (by
  intro x hx
  simp only [List.mem_cons,List.not_mem_nil,or_false] at hx
  rcases hx with rfl | rfl | rfl | rfl | rfl | rfl | rfl | rfl | rfl | rfl
  ·exact qy (qj hB.1) (fun _ _=>trivial) (by decide) _
  ·exact qy (qj hB.2.1) (fun _ _=>trivial) (by decide) _
  ·exact QV (hB.2.2.1 w (agree.refl _ _)) _
  ·exact qy (qj hB.2.2.2.1) (fun _ _=>trivial) (by decide) _
  ·exact QV (hB.2.2.2.2.1 w (agree.refl _ _)) _
  ·exact qy (qj hB.2.2.2.2.2.1) (fun _ _=>trivial) (by decide) _
  ·exact QV (hB.2.2.2.2.2.2.1 w (agree.refl _ _)) _
  ·exact QV (hB.2.2.2.2.2.2.2.1 w (agree.refl _ _)) _
  ·exact QV (hB.2.2.2.2.2.2.2.2.1 w (agree.refl _ _)) _
  ·exact ⟨⟨_,_,rfl⟩,hB.2.2.2.2.2.2.2.2.2.1,Yl (QM hB.2.2.2.2.2.2.2.2.2.1)⟩) Tryz.func79 rfl (by kernel_rfl) (by kernel_rfl) fun a H=>?_
 unfold Qb at G
 refine qg qd H (.v 9 (.slice none 0 0)<|.nil) [0,1,2,3,4,5,6,24,25,27,29,23,26,28,30,31,999999] fun u1 a w' H=>?_
 obtain ⟨t3,ht3,G⟩:=qP G
 refine qg qd H (.cons [10] (Q8 (fun u2=>.agg #[vI q0.N,.slice p_q0_L q0.L.length c_q0_L,.slice p_q0_Out q0.Out.length c_q0_Out]) 10 23 (Xp b_q0 [vI q0.N,.slice p_q0_L q0.L.length c_q0_L,.slice p_q0_Out q0.Out.length c_q0_Out] 38) b_q0 0 3 [vI q0.N,.slice p_q0_L q0.L.length c_q0_L,.slice p_q0_Out q0.Out.length c_q0_Out] (fun w h=>Zf h)) <|
 .cons [11] (Q8 (fun u2=>.slice p_q1 q1.length c_q1) 11 26 (Xp b_q1 [.slice p_q1 q1.length c_q1] 48) b_q1 0 1 [.slice p_q1 q1.length c_q1] (fun w h=>Zf h)) <|
 .cons [12] (Q8 (fun u2=>.slice p_q2 q2.length c_q2) 12 28 (Xp b_q2 [.slice p_q2 q2.length c_q2] 48) b_q2 0 1 [.slice p_q2 q2.length c_q2] (fun w h=>Zf h)) <|
 .v 13 (vP b_q3 0) <|
 .cons [14] (Q8 (fun u2=>vI q3.T) 14 30 (Xp b_q3 [vI q3.T,vI q3.H] 53) b_q3 0 1 [vI q3.T,vI q3.H] (fun w h=>Zf h)) <|
 .v 15 (vP b_q3 1) <|
 .cons [16] (Q8 (fun u2=>vI q3.H) 16 30 (Xp b_q3 [vI q3.T,vI q3.H] 53) b_q3 1 1 [vI q3.T,vI q3.H] (fun w h=>Zf h)) <|
 .v 17 (vI a0) <|
 .v 18 (vI a1) <|
 .v 19 (.agg #[vI a0,vI a1]) <|
 .cons [20] (Q8 (fun u2=>vI q4) 20 31 (Xp b_q4 [vI q4] 3) b_q4 0 1 [vI q4] (fun w h=>Zf h)) <|
 .v 21 (.agg #[vI q3.T,vI q3.H,vI a0,vI a1,vI q4]) <|
 .cons [22,32] (QI false fr [] [24,25,27,29,999999] (fun u2=>[qB qk 5 p_q0_L c_q0_L q0.L qi,qB qk 1 p_q0_Out c_q0_Out q0.Out Qn,qB qk 2 p_q1 c_q1 q1 qa,qB qk 2 p_q2 c_q2 q2 qa,gk]) [] (fun u2=>[]) 80 _ _ _ _ _ [32] 22 (fun u2 w hB hF hM=>XU.calls k0 (⟨q0.N,q0.L,q0.Out⟩:QE) q1 q2 (⟨q3.T,q3.H,(⟨a0,a1⟩:qb),q4⟩:JM) p_q0_L c_q0_L p_q0_Out c_q0_Out p_q1 c_q1 p_q2 c_q2 t3 w  hB ht3) (fun u2 w hF=>⟨⟨q9 (qj hF.1) (fun j h=>⟨_,(.head _),h⟩),q9 (qj hF.2.1) (fun j h=>⟨_,(.tail _ (.head _)),h⟩),q9 (qj hF.2.2.1) (fun j h=>⟨_,(.tail _ (.tail _ (.head _))),h⟩),q9 (qj hF.2.2.2.1) (fun j h=>⟨_,(.tail _ (.tail _ (.tail _ (.head _)))),h⟩),Z6 hF.2.2.2.2.1 (.tail _ (.tail _ (.tail _ (.tail _ (.head _))))),trivial⟩,trivial⟩) (fun u2 g=>(ql Qw qC)) (.inr (fun u2 g=>(Qv trivial (fun K h=>by cases h)))) (fun h=>by cases h)) <|
 .cons [9] (qn (fun u2=>.slice ((u2 12).o 0) t3.length ((u2 12).n 0)) 9)<|.nil) [9,24,25,27,29,32,23,26,28,30,31,999999] fun u2 a w' H=>?_
 refine qF ?_
 obtain rfl:=sj G
 obtain ⟨g,o0,n0⟩:=ZX ((u2 12).o 0) ((u2 12).n 0)
 refine QR H _ g _ _ _ fr [32] [] (.slice ((u2 12).o 0) t3.length ((u2 12).n 0)) [fun _=>Qm 46 2 ((u2 12).o 0) ((u2 12).n 0) t3 qa] (by simp only [Qm,o0,n0]) (by simp only [Qm,o0,n0]) hfr (.inl ⟨rfl,rfl⟩) (ql Qw qC) (by simp)
theorem XB.calls (k0:Nat) (a0:QE) (a1:List qb) (a2:Q6) (a3:Int) (p_a0_L:Option Addr) (c_a0_L:Nat) (p_a0_Out:Option Addr) (c_a0_Out:Nat) (p_a1:Option Addr) (c_a1:Nat) (r:Qc × Bool) (w:World) (hB:Xx [qB qk 5 p_a0_L c_a0_L a0.L qi,qB qk 1 p_a0_Out c_a0_Out a0.Out Qn,gk] w) (hF:Xx [qB qk 2 p_a1 c_a1 a1 qa] w) (G:XB k0 a0 a1 a2 a3=some r) :
  Calls Tryz.prog 56 #[.agg #[vI a0.N,.slice p_a0_L a0.L.length c_a0_L,.slice p_a0_Out a0.Out.length c_a0_Out],.slice p_a1 a1.length c_a1,.agg #[vI a2.T,vI a2.H],vI a3] w fun e w'=>∃ g:Gh,e = .returned (.tuple #[.agg #[vI r.1.T,vI r.1.H,.slice (g.o 0) r.1.From.length (g.n 0),.slice (g.o 1) r.1.Pre.length (g.n 1),.slice (g.o 2) r.1.Tube.length (g.n 2),.slice (g.o 3) r.1.To.length (g.n 3)],.bool r.2])∧Zg (Y4 []) w w'∧Ys w.heap.size (Y4 []) (JH w.heap.size [qB qk 2 p_a1 c_a1 a1 qa]) [fun fr=>YZ fr 2 (g.o 0) r.1.From.length (g.n 0) (r.1.From.flatMap qa),fun fr=>YZ fr 2 (g.o 1) r.1.Pre.length (g.n 1) (r.1.Pre.flatMap qa),fun fr=>YZ fr 2 (g.o 2) r.1.Tube.length (g.n 2) (r.1.Tube.flatMap qa),fun fr=>YZ fr 2 (g.o 3) r.1.To.length (g.n 3) (r.1.To.flatMap qa)] w':=by
 obtain ⟨fr,hfr,hBf⟩:=VE w [qB qk 2 p_a1 c_a1 a1 qa]
 refine QO (args:=[.agg #[vI a0.N,.slice p_a0_L a0.L.length c_a0_L,.slice p_a0_Out a0.Out.length c_a0_Out],.slice p_a1 a1.length c_a1,.agg #[vI a2.T,vI a2.H],vI a3]) 44 [(44,qB qk 5 p_a0_L c_a0_L a0.L qi),(45,qB qk 1 p_a0_Out c_a0_Out a0.Out Qn),(999999,gk),(46,qB fr 2 p_a1 c_a1 a1 qa)] (by
  intro x hx
  simp only [List.mem_cons,List.not_mem_nil,or_false] at hx
  rcases hx with rfl | rfl | rfl | rfl
  ·exact qy (qj hB.1) (fun _ _=>trivial) (by decide) _
  ·exact qy (qj hB.2.1) (fun _ _=>trivial) (by decide) _
  ·exact ⟨⟨_,_,rfl⟩,hB.2.2.1,Yl (QM hB.2.2.1)⟩
  ·exact qy (qj hF.1) (fun j h=>by rw [hfr]; exact .inr ⟨_,(.head _),h⟩) (by decide) _) Tryz.func56 rfl (by kernel_rfl) (by kernel_rfl) fun a H=>?_
 unfold XB at G
 refine qg qd H (.cons [4,47] (qs (fun b=>vP b 0) (fun u1=>[vI a0.N,.slice p_a0_L a0.L.length c_a0_L,.slice p_a0_Out a0.Out.length c_a0_Out]) 38 4 47) <|
 .cons [5,48] (qs (fun b=>vP b 0) (fun u1=>[.slice p_a1 a1.length c_a1]) 48 5 48) <|
 .cons [6,49] (qs (fun b=>vP b 0) (fun u1=>[vI a2.T,vI a2.H]) 53 6 49) <|
 .cons [7,50] (qs (fun b=>vP b 0) (fun u1=>[vI a3]) 3 7 50) <|
 .cons [8,51] (qs (fun b=>vP b 0) (fun u1=>[vI 0,vI 0,.slice none 0 0,.slice none 0 0,.slice none 0 0,.slice none 0 0]) 63 8 51) <|
 .v 9 (.bool false)<|.nil) [4,5,6,7,8,44,45,46,47,48,49,50,51,999999] fun u1 a w' H=>?_
 obtain ⟨t3,ht3,G⟩:=qP G
 refine qg qd H (.cons [14] (qf (.agg #[vI a0.N,.slice p_a0_L a0.L.length c_a0_L,.slice p_a0_Out a0.Out.length c_a0_Out]) 14 47 0 3 ((u1 0).n 0) [vI a0.N,.slice p_a0_L a0.L.length c_a0_L,.slice p_a0_Out a0.Out.length c_a0_Out] 38) <|
 .cons [15] (qf (.slice p_a1 a1.length c_a1) 15 48 0 1 ((u1 1).n 0) [.slice p_a1 a1.length c_a1] 48) <|
 .cons [16] (qf (.agg #[vI a2.T,vI a2.H]) 16 49 0 2 ((u1 2).n 0) [vI a2.T,vI a2.H] 53) <|
 .cons [17,52] (QI true fr [] [44,45,46,999999] (fun u2=>[qB qk 5 p_a0_L c_a0_L a0.L qi,qB qk 1 p_a0_Out c_a0_Out a0.Out Qn,qB fr 2 p_a1 c_a1 a1 qa,gk]) [] (fun u2=>[]) 78 _ _ _ _ _ [52] 17 (fun u2 w hB hF hM=>Qy.calls k0 (⟨a0.N,a0.L,a0.Out⟩:QE) a1 a2 p_a0_L c_a0_L p_a0_Out c_a0_Out p_a1 c_a1 t3 w  hB ht3) (fun u2 w hF=>⟨⟨q9 (qj hF.1) (fun j h=>⟨_,(.head _),h⟩),q9 (qj hF.2.1) (fun j h=>⟨_,(.tail _ (.head _)),h⟩),q9 (qj hF.2.2.1) (fun j h=>⟨_,(.tail _ (.tail _ (.head _))),h⟩),Z6 hF.2.2.2.1 (.tail _ (.tail _ (.tail _ (.head _)))),trivial⟩,trivial⟩) (fun u2 g=>(ql (QZ (by decide)) qC)) (.inl rfl) (fun _=>hBf)) <|
 .cons [13] (qn (fun u2=>.tuple #[.slice ((u2 3).o 0) t3.1.length ((u2 3).n 0),.bool t3.2]) 13) <|
 .cons [18] (qn (fun u2=>.slice ((u2 3).o 0) t3.1.length ((u2 3).n 0)) 18) <|
 .v 19 (.bool t3.2) <|
 .cons [10,53] (qs (fun b=>vP b 0) (fun u2=>[.slice none 0 0]) 48 10 53) <|
 .cons [53] (QL (u':=fun u2=>[(53,.blk ((u2 7).n 0) [.slice ((u2 3).o 0) t3.1.length ((u2 3).n 0)] 48)]) (qW 53 0 (fun u2=>((u2 7).n 0)) (fun u2=>[.slice none 0 0]) (fun u2=>[.slice ((u2 3).o 0) t3.1.length ((u2 3).n 0)]) 48) (fun _=>by kernel_rfl)) <|
 .v 11 (.bool t3.2)<|.nil) [4,5,6,7,8,10,11,44,45,46,47,48,49,50,51,52,53,999999] fun u2 a w' H=>?_
 refine qv ?_
 refine qg qd H (.v 20 (.bool t3.2) <|
 .v 21 (.bool (!t3.2))<|.nil) [4,5,6,7,8,10,21,44,45,46,47,48,49,50,51,52,53,999999] fun u4 a w' H=>?_
 refine Qx H (!t3.2) (fun c11=>?_) fun c11=>?_
 ·rw [if_pos c11] at G
  refine qg qd H (.v 22 (.agg #[vI 0,vI 0,.slice none 0 0,.slice none 0 0,.slice none 0 0,.slice none 0 0]) <|
 .cons [51] (Qa 51 0 ((u1 4).n 0) [vI 0,vI 0,.slice none 0 0,.slice none 0 0,.slice none 0 0,.slice none 0 0] [vI 0,vI 0,.slice none 0 0,.slice none 0 0,.slice none 0 0,.slice none 0 0] 63 [vI 0,vI 0,.slice none 0 0,.slice none 0 0,.slice none 0 0,.slice none 0 0]) <|
 .v 9 (.bool false)<|.nil) [8,9,51,999999] fun u5 a w' H=>?_
  refine qF ?_
  obtain rfl:=sj G
  replace H:=H.nil_row 54 46 2
  replace H:=H.demote fr 54 46 2 none 0 0 (([]:List qb).flatMap qa) (by kernel_rfl) (by decide) hBf
  replace H:=H.nil_row 55 46 2
  replace H:=H.demote fr 55 46 2 none 0 0 (([]:List qb).flatMap qa) (by kernel_rfl) (by decide) hBf
  replace H:=H.nil_row 56 46 2
  replace H:=H.demote fr 56 46 2 none 0 0 (([]:List qb).flatMap qa) (by kernel_rfl) (by decide) hBf
  replace H:=H.nil_row 57 46 2
  replace H:=H.demote fr 57 46 2 none 0 0 (([]:List qb).flatMap qa) (by kernel_rfl) (by decide) hBf
  obtain ⟨g,o0,n0,o1,n1,o2,n2,o3,n3⟩:∃ g:Gh,g.o 0=none∧g.n 0=0∧g.o 1=none∧g.n 1=0∧g.o 2=none∧g.n 2=0∧g.o 3=none∧g.n 3=0:=⟨⟨fun i=>[0,0,0,0].getD i 0,fun i=>[none,none,none,none].getD i none,fun i=>([⟨Unit,()⟩,⟨Unit,()⟩,⟨Unit,()⟩,⟨Unit,()⟩]:List ((T:Type) × T)).getD i ⟨Unit,()⟩⟩,rfl,rfl,rfl,rfl,rfl,rfl,rfl,rfl⟩
  refine QR H _ g _ _ _ fr [54,55,56,57] [(51,⟨((u1 4).n 0),[vI 0,vI 0,.slice none 0 0,.slice none 0 0,.slice none 0 0,.slice none 0 0],0,6⟩)] (.tuple #[.agg #[vI 0,vI 0,.slice none 0 0,.slice none 0 0,.slice none 0 0,.slice none 0 0],.bool false]) [fun fr=>YZ fr 2 none 0 0 (([]:List qb).flatMap qa),fun fr=>YZ fr 2 none 0 0 (([]:List qb).flatMap qa),fun fr=>YZ fr 2 none 0 0 (([]:List qb).flatMap qa),fun fr=>YZ fr 2 none 0 0 (([]:List qb).flatMap qa)] (by simp only [Qm,o0,n0,o1,n1,o2,n2,o3,n3,List.length_set,List.length_cons,List.length_nil,Nat.zero_add,Nat.reduceAdd]) (by simp only [Qm,o0,n0,o1,n1,o2,n2,o3,n3,List.length_set,List.length_cons,List.length_nil,Nat.zero_add,Nat.reduceAdd]) hfr (.inl ⟨rfl,rfl⟩) (ql (QZ (by decide)) (ql (QZ (by decide)) (ql (QZ (by decide)) (ql (QZ (by decide)) qC)))) (by intro p hp; simp only [List.mem_cons,List.not_mem_nil,or_false] at hp; rcases hp with rfl; exact ⟨⟨63,by kernel_rfl⟩,by kernel_rfl⟩)
 ·rw [if_neg (nt c11)] at G
  refine Qf ?_
  refine qg qd H (.v 23 (.func (.func 79) #[] #[vP ((u1 0).n 0) 0,vP ((u1 1).n 0) 0,vP ((u2 7).n 0) 0,vP ((u1 2).n 0) 0,vP ((u1 3).n 0) 0]) <|
 .v 12 (.func (.func 79) #[] #[vP ((u1 0).n 0) 0,vP ((u1 1).n 0) 0,vP ((u2 7).n 0) 0,vP ((u1 2).n 0) 0,vP ((u1 3).n 0) 0])<|.nil) [5,6,8,10,12,44,45,46,47,48,49,50,51,52,53,999999] fun u6 a w' H=>?_
  refine qv ?_
  obtain ⟨t8,ht8,G⟩:=qP G
  obtain ⟨t9,ht9,G⟩:=qP G
  obtain ⟨t10,ht10,G⟩:=qP G
  refine ZC qd H (.v 24 (vP ((u1 2).n 0) 0) <|
 .cons [25] (qf (vI a2.T) 25 49 0 1 ((u1 2).n 0) [vI a2.T,vI a2.H] 53) <|
 .v 26 (vP ((u1 2).n 0) 1) <|
 .cons [27] (qf (vI a2.H) 27 49 1 1 ((u1 2).n 0) [vI a2.T,vI a2.H] 53) <|
 .cons [28] (qf (.slice p_a1 a1.length c_a1) 28 48 0 1 ((u1 1).n 0) [.slice p_a1 a1.length c_a1] 48) <|
 .cons [29] (qf (.slice ((u2 3).o 0) t3.1.length ((u2 3).n 0)) 29 53 0 1 ((u2 7).n 0) [.slice ((u2 3).o 0) t3.1.length ((u2 3).n 0)] 48) <|
 .v 30 (.func (.func 79) #[] #[vP ((u1 0).n 0) 0,vP ((u1 1).n 0) 0,vP ((u2 7).n 0) 0,vP ((u1 2).n 0) 0,vP ((u1 3).n 0) 0]) <|
 .v 31 (vP ((u1 2).n 0) 1) <|
 .cons [32] (qf (vI a2.H) 32 49 1 1 ((u1 2).n 0) [vI a2.T,vI a2.H] 53) <|
 .cons [33,58,58] (qbs (fun u7=>[(58,YZ fr 2 ((u7 9).o 0) t8.length ((u7 9).n 0) (t8.flatMap qa))]) (QI false fr [] [44,45,47,46,48,52,53,49,50,999999] (fun u7=>[qB qk 5 p_a0_L c_a0_L a0.L qi,qB qk 1 p_a0_Out c_a0_Out a0.Out Qn,.blk ((u1 0).n 0) [vI a0.N,.slice p_a0_L a0.L.length c_a0_L,.slice p_a0_Out a0.Out.length c_a0_Out] 38,qB fr 2 p_a1 c_a1 a1 qa,.blk ((u1 1).n 0) [.slice p_a1 a1.length c_a1] 48,YZ fr 2 ((u2 3).o 0) t3.1.length ((u2 3).n 0) (t3.1.flatMap qa),.blk ((u2 7).n 0) [.slice ((u2 3).o 0) t3.1.length ((u2 3).n 0)] 48,.blk ((u1 2).n 0) [vI a2.T,vI a2.H] 53,.blk ((u1 3).n 0) [vI a3] 3,gk]) [] (fun u7=>[]) 79 _ _ _ _ _ [58] 33 (fun u7 w hB hF hM=>Qb.calls k0 0 a2.H (⟨a0.N,a0.L,a0.Out⟩:QE) a1 t3.1 a2 a3 ((u1 0).n 0) p_a0_L c_a0_L p_a0_Out c_a0_Out ((u1 1).n 0) p_a1 c_a1 ((u2 7).n 0) ((u2 3).o 0) ((u2 3).n 0) ((u1 2).n 0) ((u1 3).n 0) t8 w  hB ht8) (fun u7 w hF=>⟨⟨q9 (qj hF.1) (fun j h=>⟨_,(.head _),h⟩),q9 (qj hF.2.1) (fun j h=>⟨_,(.tail _ (.head _)),h⟩),Ze hF.2.2.1 (.tail _ (.tail _ (.head _))) rfl,q9 (qj hF.2.2.2.1) (fun j h=>⟨_,(.tail _ (.tail _ (.tail _ (.head _)))),h⟩),Ze hF.2.2.2.2.1 (.tail _ (.tail _ (.tail _ (.tail _ (.head _))))) rfl,q9 (qj hF.2.2.2.2.2.1) (fun j h=>⟨_,(.tail _ (.tail _ (.tail _ (.tail _ (.tail _ (.head _)))))),h⟩),Ze hF.2.2.2.2.2.2.1 (.tail _ (.tail _ (.tail _ (.tail _ (.tail _ (.tail _ (.head _))))))) rfl,Ze hF.2.2.2.2.2.2.2.1 (.tail _ (.tail _ (.tail _ (.tail _ (.tail _ (.tail _ (.tail _ (.head _)))))))) rfl,Ze hF.2.2.2.2.2.2.2.2.1 (.tail _ (.tail _ (.tail _ (.tail _ (.tail _ (.tail _ (.tail _ (.tail _ (.head _))))))))) rfl,Z6 hF.2.2.2.2.2.2.2.2.2.1 (.tail _ (.tail _ (.tail _ (.tail _ (.tail _ (.tail _ (.tail _ (.tail _ (.tail _ (.head _)))))))))),trivial⟩,trivial⟩) (fun u7 g=>(ql Qw qC)) (.inr (fun u7 g=>(Qv trivial (fun K h=>by cases h)))) (fun h=>by cases h)) (fun u7 S a w H=>H.demote fr 58 46 2 ((u7 9).o 0) t8.length ((u7 9).n 0) (t8.flatMap qa) (by kernel_rfl) (by decide) hBf)) <|
 .v 34 (.func (.func 79) #[] #[vP ((u1 0).n 0) 0,vP ((u1 1).n 0) 0,vP ((u2 7).n 0) 0,vP ((u1 2).n 0) 0,vP ((u1 3).n 0) 0]) <|
 .v 35 (vP ((u1 2).n 0) 1) <|
 .cons [36] (qf (vI a2.H) 36 49 1 1 ((u1 2).n 0) [vI a2.T,vI a2.H] 53) <|
 .v 37 (vP ((u1 2).n 0) 1) <|
 .cons [38] (qf (vI a2.H) 38 49 1 1 ((u1 2).n 0) [vI a2.T,vI a2.H] 53) <|
 .cons [39,59,59] (qbs (fun u7=>[(59,YZ fr 2 ((u7 15).o 0) t9.length ((u7 15).n 0) (t9.flatMap qa))]) (QI false fr [] [44,45,47,46,48,52,53,49,50,999999] (fun u7=>[qB qk 5 p_a0_L c_a0_L a0.L qi,qB qk 1 p_a0_Out c_a0_Out a0.Out Qn,.blk ((u1 0).n 0) [vI a0.N,.slice p_a0_L a0.L.length c_a0_L,.slice p_a0_Out a0.Out.length c_a0_Out] 38,qB fr 2 p_a1 c_a1 a1 qa,.blk ((u1 1).n 0) [.slice p_a1 a1.length c_a1] 48,YZ fr 2 ((u2 3).o 0) t3.1.length ((u2 3).n 0) (t3.1.flatMap qa),.blk ((u2 7).n 0) [.slice ((u2 3).o 0) t3.1.length ((u2 3).n 0)] 48,.blk ((u1 2).n 0) [vI a2.T,vI a2.H] 53,.blk ((u1 3).n 0) [vI a3] 3,gk]) [] (fun u7=>[]) 79 _ _ _ _ _ [59] 39 (fun u7 w hB hF hM=>Qb.calls k0 a2.H a2.H (⟨a0.N,a0.L,a0.Out⟩:QE) a1 t3.1 a2 a3 ((u1 0).n 0) p_a0_L c_a0_L p_a0_Out c_a0_Out ((u1 1).n 0) p_a1 c_a1 ((u2 7).n 0) ((u2 3).o 0) ((u2 3).n 0) ((u1 2).n 0) ((u1 3).n 0) t9 w  hB ht9) (fun u7 w hF=>⟨⟨q9 (qj hF.1) (fun j h=>⟨_,(.head _),h⟩),q9 (qj hF.2.1) (fun j h=>⟨_,(.tail _ (.head _)),h⟩),Ze hF.2.2.1 (.tail _ (.tail _ (.head _))) rfl,q9 (qj hF.2.2.2.1) (fun j h=>⟨_,(.tail _ (.tail _ (.tail _ (.head _)))),h⟩),Ze hF.2.2.2.2.1 (.tail _ (.tail _ (.tail _ (.tail _ (.head _))))) rfl,q9 (qj hF.2.2.2.2.2.1) (fun j h=>⟨_,(.tail _ (.tail _ (.tail _ (.tail _ (.tail _ (.head _)))))),h⟩),Ze hF.2.2.2.2.2.2.1 (.tail _ (.tail _ (.tail _ (.tail _ (.tail _ (.tail _ (.head _))))))) rfl,Ze hF.2.2.2.2.2.2.2.1 (.tail _ (.tail _ (.tail _ (.tail _ (.tail _ (.tail _ (.tail _ (.head _)))))))) rfl,Ze hF.2.2.2.2.2.2.2.2.1 (.tail _ (.tail _ (.tail _ (.tail _ (.tail _ (.tail _ (.tail _ (.tail _ (.head _))))))))) rfl,Z6 hF.2.2.2.2.2.2.2.2.2.1 (.tail _ (.tail _ (.tail _ (.tail _ (.tail _ (.tail _ (.tail _ (.tail _ (.tail _ (.head _)))))))))),trivial⟩,trivial⟩) (fun u7 g=>(ql Qw qC)) (.inr (fun u7 g=>(Qv trivial (fun K h=>by cases h)))) (fun h=>by cases h)) (fun u7 S a w H=>H.demote fr 59 46 2 ((u7 15).o 0) t9.length ((u7 15).n 0) (t9.flatMap qa) (by kernel_rfl) (by decide) hBf)) <|
 .cons [40] (qn (fun u7=>.agg #[vI a2.T,vI a2.H,.slice p_a1 a1.length c_a1,.slice ((u2 3).o 0) t3.1.length ((u2 3).n 0),.slice ((u7 9).o 0) t8.length ((u7 9).n 0),.slice ((u7 15).o 0) t9.length ((u7 15).n 0)]) 40) <|
 .cons [41,60,61,62,63] (QI true fr [9,15] [46,52,58,59] (fun u7=>[qB fr 2 p_a1 c_a1 a1 qa,YZ fr 2 ((u2 3).o 0) t3.1.length ((u2 3).n 0) (t3.1.flatMap qa),YZ fr 2 ((u7 9).o 0) t8.length ((u7 9).n 0) (t8.flatMap qa),YZ fr 2 ((u7 15).o 0) t9.length ((u7 15).n 0) (t9.flatMap qa)]) [] (fun u7=>[]) 81 _ (fun u7=>[]) _ _ _ [60,61,62,63] 41 (fun u7 w hB hF hM=>Y2.calls k0 (⟨a2.T,a2.H,a1,t3.1,t8,t9⟩:Qc) p_a1 c_a1 ((u2 3).o 0) ((u2 3).n 0) ((u7 9).o 0) ((u7 9).n 0) ((u7 15).o 0) ((u7 15).n 0) t10 w  hF ht10) (fun u7 w hF=>⟨trivial,⟨Zx (qj hF.1) (fun j h=>ZN (.head _) (fun h=>h) h (Y7 hF.1 _ h)),Zx (qj hF.2.1) (fun j h=>ZN (.tail _ (.head _)) (fun h=>h) h (Y7 hF.2.1 _ h)),Zx (qj hF.2.2.1) (fun j h=>ZN (.tail _ (.tail _ (.head _))) (fun h=>h) h (Y7 hF.2.2.1 _ h)),Zx (qj hF.2.2.2.1) (fun j h=>ZN (.tail _ (.tail _ (.tail _ (.head _)))) (fun h=>h) h (Y7 hF.2.2.2.1 _ h)),trivial⟩⟩) (fun u7 g=>(ql (QZ (by decide)) (ql (QZ (by decide)) (ql (QZ (by decide)) (ql (QZ (by decide)) qC))))) (.inl rfl) (fun _=>hBf) (hloc:=fun u u' h=>⟨by first | rfl | simp only [h 9 (by decide),h 15 (by decide)],by first | rfl | simp only [h 9 (by decide),h 15 (by decide)],by first | rfl | simp only [h 9 (by decide),h 15 (by decide)],by first | rfl | simp only [h 9 (by decide),h 15 (by decide)],by first | rfl | simp only [h 9 (by decide),h 15 (by decide)],by first | rfl | simp only [h 9 (by decide),h 15 (by decide)]⟩)) <|
 .cons [42] (qn (fun u7=>.agg #[vI t10.1.T,vI t10.1.H,.slice ((u7 17).o 0) t10.1.From.length ((u7 17).n 0),.slice ((u7 17).o 1) t10.1.Pre.length ((u7 17).n 1),.slice ((u7 17).o 2) t10.1.Tube.length ((u7 17).n 2),.slice ((u7 17).o 3) t10.1.To.length ((u7 17).n 3)]) 42) <|
 .v 43 (.bool t10.2) <|
 .cons [51] (QL (u':=fun u7=>[(51,.blk ((u1 4).n 0) [vI t10.1.T,vI t10.1.H,.slice ((u7 17).o 0) t10.1.From.length ((u7 17).n 0),.slice ((u7 17).o 1) t10.1.Pre.length ((u7 17).n 1),.slice ((u7 17).o 2) t10.1.Tube.length ((u7 17).n 2),.slice ((u7 17).o 3) t10.1.To.length ((u7 17).n 3)] 63)]) (qW 51 0 (fun u7=>((u1 4).n 0)) (fun u7=>[vI 0,vI 0,.slice none 0 0,.slice none 0 0,.slice none 0 0,.slice none 0 0]) (fun u7=>[vI t10.1.T,vI t10.1.H,.slice ((u7 17).o 0) t10.1.From.length ((u7 17).n 0),.slice ((u7 17).o 1) t10.1.Pre.length ((u7 17).n 1),.slice ((u7 17).o 2) t10.1.Tube.length ((u7 17).n 2),.slice ((u7 17).o 3) t10.1.To.length ((u7 17).n 3)]) 63) (fun _=>by kernel_rfl)) <|
 .v 9 (.bool t10.2)<|.nil) (by kernel_rfl) fun u7 a w' H=>?_
  replace H:=H.kp [8,9,51,60,61,62,63,999999]
  refine qF ?_
  obtain rfl:=sj G
  obtain ⟨g,o0,n0,o1,n1,o2,n2,o3,n3⟩:∃ g:Gh,g.o 0=((u7 17).o 0)∧g.n 0=((u7 17).n 0)∧g.o 1=((u7 17).o 1)∧g.n 1=((u7 17).n 1)∧g.o 2=((u7 17).o 2)∧g.n 2=((u7 17).n 2)∧g.o 3=((u7 17).o 3)∧g.n 3=((u7 17).n 3):=⟨⟨fun i=>[((u7 17).n 0),((u7 17).n 1),((u7 17).n 2),((u7 17).n 3)].getD i 0,fun i=>[((u7 17).o 0),((u7 17).o 1),((u7 17).o 2),((u7 17).o 3)].getD i none,fun i=>([⟨Unit,()⟩,⟨Unit,()⟩,⟨Unit,()⟩,⟨Unit,()⟩]:List ((T:Type) × T)).getD i ⟨Unit,()⟩⟩,rfl,rfl,rfl,rfl,rfl,rfl,rfl,rfl⟩
  refine QR H _ g _ _ _ fr [60,61,62,63] [(51,⟨((u1 4).n 0),[vI t10.1.T,vI t10.1.H,.slice ((u7 17).o 0) t10.1.From.length ((u7 17).n 0),.slice ((u7 17).o 1) t10.1.Pre.length ((u7 17).n 1),.slice ((u7 17).o 2) t10.1.Tube.length ((u7 17).n 2),.slice ((u7 17).o 3) t10.1.To.length ((u7 17).n 3)],0,6⟩)] (.tuple #[.agg #[vI t10.1.T,vI t10.1.H,.slice ((u7 17).o 0) t10.1.From.length ((u7 17).n 0),.slice ((u7 17).o 1) t10.1.Pre.length ((u7 17).n 1),.slice ((u7 17).o 2) t10.1.Tube.length ((u7 17).n 2),.slice ((u7 17).o 3) t10.1.To.length ((u7 17).n 3)],.bool t10.2]) [fun fr=>YZ fr 2 ((u7 17).o 0) t10.1.From.length ((u7 17).n 0) (t10.1.From.flatMap qa),fun fr=>YZ fr 2 ((u7 17).o 1) t10.1.Pre.length ((u7 17).n 1) (t10.1.Pre.flatMap qa),fun fr=>YZ fr 2 ((u7 17).o 2) t10.1.Tube.length ((u7 17).n 2) (t10.1.Tube.flatMap qa),fun fr=>YZ fr 2 ((u7 17).o 3) t10.1.To.length ((u7 17).n 3) (t10.1.To.flatMap qa)] (by simp only [Qm,o0,n0,o1,n1,o2,n2,o3,n3]) (by simp only [Qm,o0,n0,o1,n1,o2,n2,o3,n3]) hfr (.inl ⟨rfl,rfl⟩) (ql (QZ (by decide)) (ql (QZ (by decide)) (ql (QZ (by decide)) (ql (QZ (by decide)) qC)))) (by intro p hp; simp only [List.mem_cons,List.not_mem_nil,or_false] at hp; rcases hp with rfl; exact ⟨⟨63,by kernel_rfl⟩,by kernel_rfl⟩)
theorem Yn.calls (a0:qb) (q0:qH) (b_q0:Nat) (r:Bool) (w:World) (hB:Xx [Xp b_q0 [vI q0.Order,vI q0.First,vI q0.Least,vI q0.Most,vI q0.Wide] 27] w) (G:Yn a0 q0=some r) :
  Calls Tryz.prog 82 #[.agg #[vI a0.Lo,vI a0.Hi],vP b_q0 0] w fun e w'=>e = .returned (.bool r)∧Below w.heap.size w w':=by
 obtain ⟨fr,hfr⟩:∃ fr:Nat→Prop,∀ j,fr j:=⟨fun _=>True,fun _=>trivial⟩
 have hBf:∀ j,w.heap.size≤j→fr j:=fun j _=>hfr j
 refine QO (args:=[.agg #[vI a0.Lo,vI a0.Hi],vP b_q0 0]) 9 [(9,Xp b_q0 [vI q0.Order,vI q0.First,vI q0.Least,vI q0.Most,vI q0.Wide] 27)] (by
  intro x hx
  simp only [List.mem_cons,List.not_mem_nil,or_false] at hx
  rcases hx with rfl
  exact QV (hB.1 w (agree.refl _ _)) _) Tryz.func82 rfl (by kernel_rfl) (by kernel_rfl) fun a H=>?_
 unfold Yn at G
 refine qg qd H (.cons [2,10] (qs (fun b=>vP b 0) (fun u1=>[vI a0.Lo,vI a0.Hi]) 46 2 10) <|
 .v 3 (.bool false)<|.nil) [1,2,10,9] fun u1 a w' H=>?_
 obtain ⟨t3,ht3,G⟩:=qP G
 refine qg qd H (.cons [4] (qf (.agg #[vI a0.Lo,vI a0.Hi]) 4 10 0 2 ((u1 0).n 0) [vI a0.Lo,vI a0.Hi] 46) <|
 .cons [5] (qq 83 _ _ 5 [] (fun u2 w _=>Yu.calls a0  t3 w  ht3)) <|
 .v 6 (vP b_q0 4) <|
 .cons [7] (Q8 (fun u2=>vI q0.Wide) 7 9 (Xp b_q0 [vI q0.Order,vI q0.First,vI q0.Least,vI q0.Most,vI q0.Wide] 27) b_q0 4 1 [vI q0.Order,vI q0.First,vI q0.Least,vI q0.Most,vI q0.Wide] (fun w h=>Zf h)) <|
 .v 8 (.bool (decide (t3 > q0.Wide))) <|
 .v 3 (.bool (decide (t3 > q0.Wide)))<|.nil) [3,9] fun u2 a w' H=>?_
 refine qF ?_
 obtain rfl:=sj G
 exact Qr H _ (by kernel_rfl) (by kernel_rfl)
theorem QH.calls (k0:Nat) (a0:List qb) (a1_0:qH) (p_a0:Option Addr) (c_a0:Nat) (b_a1_0:Nat) (r:Int) (w:World) (hB:Xx [qB qk 2 p_a0 c_a0 a0 qa,Xp b_a1_0 [vI a1_0.Order,vI a1_0.First,vI a1_0.Least,vI a1_0.Most,vI a1_0.Wide] 27] w) (G:QH k0 a0 a1_0=some r) :
  Calls Tryz.prog 103 #[.slice p_a0 a0.length c_a0,.func (.func 82) #[] #[vP b_a1_0 0]] w fun e w'=>e = .returned (vI r)∧Below w.heap.size w w':=by
 obtain ⟨fr,hfr⟩:∃ fr:Nat→Prop,∀ j,fr j:=⟨fun _=>True,fun _=>trivial⟩
 have hBf:∀ j,w.heap.size≤j→fr j:=fun j _=>hfr j
 refine QO (args:=[.slice p_a0 a0.length c_a0,.func (.func 82) #[] #[vP b_a1_0 0]]) 19 [(19,qB qk 2 p_a0 c_a0 a0 qa),(20,Xp b_a1_0 [vI a1_0.Order,vI a1_0.First,vI a1_0.Least,vI a1_0.Most,vI a1_0.Wide] 27)] (by
  intro x hx
  simp only [List.mem_cons,List.not_mem_nil,or_false] at hx
  rcases hx with rfl | rfl
  ·exact qy (qj hB.1) (fun _ _=>trivial) (by decide) _
  ·exact QV (hB.2.1 w (agree.refl _ _)) _) Tryz.func103 rfl (by kernel_rfl) (by kernel_rfl) fun a H=>?_
 unfold QH at G
 refine qg qd H (.v 4 (vI 0)<|.nil) [0,1,19,20] fun u1 a w' H=>?_
 refine qv ?_
 obtain ⟨j2,hj2,Gj2⟩:=qP G
 refine Xq (fun a w'=>∃ j2v,j2=Sum.inr j2v∧RL w 19 [(20,Xp b_a1_0 [vI a1_0.Order,vI a1_0.First,vI a1_0.Least,vI a1_0.Most,vI a1_0.Wide] 27)] a w') ?_ ?_
 ·clear H; rintro a w' ⟨j2v,rfl,H⟩; have G:=Gj2; clear Gj2; dsimp only at G
  refine qg qd H (.v 4 (vI (-1))<|.nil) [4,20] fun u3 a w' H=>?_
  refine qF ?_
  obtain rfl:=sj G
  exact Qr H _ (by kernel_rfl) (by kernel_rfl)
 ·have G:=hj2; clear hj2
  refine qg qd H (.v 6 (.slice p_a0 a0.length c_a0) <|
 .v 7 (vI (a0.length:Int)) <|
 .v 8 (vI 0)<|.nil) [0,1,7,8,19,20] fun u4 a w' H=>?_
  refine q6 ?_
  refine XP (fun m a w'=>∃ x5:Int,QH.l6 k0 a0 a1_0 m x5=some j2∧RL w 19 [(0,sS p_a0 a0.length c_a0),(1,.slot true (.func (.func 82) #[] #[vP b_a1_0 0])),(7,(sI (a0.length:Int))),(8,sI x5),(19,qB qk 2 p_a0 c_a0 a0 qa),(20,Xp b_a1_0 [vI a1_0.Order,vI a1_0.First,vI a1_0.Least,vI a1_0.Most,vI a1_0.Wide] 27)] a w') k0 ⟨_,G,H.toM _⟩ ?_
  clear G H
  rintro (_ | k) a w' ⟨x5,G,H⟩
  ·exact absurd G (by unfold QH.l6; exact fun h=>by cases h)
  ·unfold QH.l6 at G
   refine qg qd H (.v 9 (.bool (decide (x5<(a0.length:Int))))<|.nil) [0,1,7,8,9,19,20] fun u7 a w' H=>?_
   refine qv ?_
   refine Qx H (decide (x5<(a0.length:Int))) (fun c16=>?_) fun c16=>?_
   ·rw [if_pos c16] at G
    refine Qf ?_
    refine qv ?_
    refine q6 ?_
    refine qg qd H (.v 10 (vI x5) <|
 .v 5 (vI x5)<|.nil) [0,1,5,7,8,19,20] fun u8 a w' H=>?_
    refine qv ?_
    replace G:=gd G; obtain ⟨b10,G⟩:=G
    obtain ⟨t11,ht11,G⟩:=qP G
    obtain ⟨t12,ht12,G⟩:=qP G
    refine Qt qd H (.v 11 (.func (.func 82) #[] #[vP b_a1_0 0]) <|
 .v 12 (.slice p_a0 a0.length c_a0) <|
 .v 13 (vI x5) <|
 .cons [14] (qG 19 (qB qk 2 p_a0 c_a0 a0 qa) (.pointer (some ⟨Xf p_a0,Xg p_a0+x5.toNat * 2,none⟩)) 14 fun _ w h=>Jo 48 .i64 x5 p_a0 a0.length c_a0 a0 qa (qj h).2 qe rfl b10) <|
 .cons [15] (qG 19 (qB qk 2 p_a0 c_a0 a0 qa) (.agg #[vI t11.Lo,vI t11.Hi]) 15 fun _ w h=>Ym qa (qj h).2 qe ht11 0 2 [vI t11.Lo,vI t11.Hi]) <|
 .cons [16] (QX [20] (fun u9=>[Xp b_a1_0 [vI a1_0.Order,vI a1_0.First,vI a1_0.Least,vI a1_0.Most,vI a1_0.Wide] 27]) 82 _ _ 16 (fun u9 w hF=>Yn.calls t11 a1_0 b_a1_0 t12 w  ⟨(QV (hF.1 w (agree.refl _ _)) 0).2.1,trivial⟩ ht12))<|.nil) [0,1,5,7,8,16,19,20] fun u9 a w' H=>?_
    refine Qx H t12 (fun c15=>?_) fun c15=>?_
    ·rw [if_pos c15] at G
     refine qg qd H (.v 17 (vI x5) <|
 .v 4 (vI x5)<|.nil) [4,20] fun u13 a w' H=>?_
     refine qF ?_
     obtain rfl:=sj G
     replace G:=Gj2
     obtain rfl:=sj G
     exact Qr H _ (by kernel_rfl) (by kernel_rfl)
    ·rw [if_neg (nt c15)] at G
     refine Qf ?_
     refine Qt qd H (.v 18 (vI (qc (x5+1))) <|
 .v 8 (vI (qc (x5+1)))<|.nil) [0,1,7,8,19,20] fun u14 a w' H=>?_
     exact ⟨k,Nat.lt_succ_self k,_,G,H.toM _⟩
   ·rw [if_neg (nt c16)] at G
    refine Yk rfl ?_
    obtain rfl:=sj G
    exact ⟨_,rfl,H.toM _⟩
theorem XG.calls (k0:Nat) (a0:List qb) (a1_0:qH) (p_a0:Option Addr) (c_a0:Nat) (b_a1_0:Nat) (r:Bool) (w:World) (hB:Xx [qB qk 2 p_a0 c_a0 a0 qa,Xp b_a1_0 [vI a1_0.Order,vI a1_0.First,vI a1_0.Least,vI a1_0.Most,vI a1_0.Wide] 27] w) (G:XG k0 a0 a1_0=some r) :
  Calls Tryz.prog 84 #[.slice p_a0 a0.length c_a0,.func (.func 82) #[] #[vP b_a1_0 0]] w fun e w'=>e = .returned (.bool r)∧Below w.heap.size w w':=by
 obtain ⟨fr,hfr⟩:∃ fr:Nat→Prop,∀ j,fr j:=⟨fun _=>True,fun _=>trivial⟩
 have hBf:∀ j,w.heap.size≤j→fr j:=fun j _=>hfr j
 refine QO (args:=[.slice p_a0 a0.length c_a0,.func (.func 82) #[] #[vP b_a1_0 0]]) 9 [(9,qB qk 2 p_a0 c_a0 a0 qa),(10,Xp b_a1_0 [vI a1_0.Order,vI a1_0.First,vI a1_0.Least,vI a1_0.Most,vI a1_0.Wide] 27)] (by
  intro x hx
  simp only [List.mem_cons,List.not_mem_nil,or_false] at hx
  rcases hx with rfl | rfl
  ·exact qy (qj hB.1) (fun _ _=>trivial) (by decide) _
  ·exact QV (hB.2.1 w (agree.refl _ _)) _) Tryz.func84 rfl (by kernel_rfl) (by kernel_rfl) fun a H=>?_
 unfold XG at G
 refine qg qd H (.v 4 (.bool false)<|.nil) [0,1,9,10] fun u1 a w' H=>?_
 obtain ⟨t3,ht3,G⟩:=qP G
 refine qg qd H (.v 5 (.slice p_a0 a0.length c_a0) <|
 .v 6 (.func (.func 82) #[] #[vP b_a1_0 0]) <|
 .cons [7] (QX [9,10] (fun u2=>[qB qk 2 p_a0 c_a0 a0 qa,Xp b_a1_0 [vI a1_0.Order,vI a1_0.First,vI a1_0.Least,vI a1_0.Most,vI a1_0.Wide] 27]) 103 _ _ 7 (fun u2 w hF=>QH.calls k0 a0 a1_0 p_a0 c_a0 b_a1_0 t3 w  ⟨(Z9 (qj hF.1)),(QV (hF.2.1 w (agree.refl _ _)) 0).2.1,trivial⟩ ht3)) <|
 .v 8 (.bool (decide (t3 ≥ 0))) <|
 .v 4 (.bool (decide (t3 ≥ 0)))<|.nil) [4,10] fun u2 a w' H=>?_
 refine qF ?_
 obtain rfl:=sj G
 exact Qr H _ (by kernel_rfl) (by kernel_rfl)
theorem Yx.calls (k0:Nat) (a0:qH) (a1:Qc) (p_a1_From:Option Addr) (c_a1_From:Nat) (p_a1_Pre:Option Addr) (c_a1_Pre:Nat) (p_a1_Tube:Option Addr) (c_a1_Tube:Nat) (p_a1_To:Option Addr) (c_a1_To:Nat) (r:Bool) (w:World) (hB:Xx [qB qk 2 p_a1_From c_a1_From a1.From qa,qB qk 2 p_a1_Pre c_a1_Pre a1.Pre qa,qB qk 2 p_a1_Tube c_a1_Tube a1.Tube qa,qB qk 2 p_a1_To c_a1_To a1.To qa] w) (G:Yx k0 a0 a1=some r) :
  Calls Tryz.prog 57 #[.agg #[vI a0.Order,vI a0.First,vI a0.Least,vI a0.Most,vI a0.Wide],.agg #[vI a1.T,vI a1.H,.slice p_a1_From a1.From.length c_a1_From,.slice p_a1_Pre a1.Pre.length c_a1_Pre,.slice p_a1_Tube a1.Tube.length c_a1_Tube,.slice p_a1_To a1.To.length c_a1_To]] w fun e w'=>e = .returned (.bool r)∧Below w.heap.size w w':=by
 obtain ⟨fr,hfr⟩:∃ fr:Nat→Prop,∀ j,fr j:=⟨fun _=>True,fun _=>trivial⟩
 have hBf:∀ j,w.heap.size≤j→fr j:=fun j _=>hfr j
 refine QO (args:=[.agg #[vI a0.Order,vI a0.First,vI a0.Least,vI a0.Most,vI a0.Wide],.agg #[vI a1.T,vI a1.H,.slice p_a1_From a1.From.length c_a1_From,.slice p_a1_Pre a1.Pre.length c_a1_Pre,.slice p_a1_Tube a1.Tube.length c_a1_Tube,.slice p_a1_To a1.To.length c_a1_To]]) 19 [(19,qB qk 2 p_a1_From c_a1_From a1.From qa),(20,qB qk 2 p_a1_Pre c_a1_Pre a1.Pre qa),(21,qB qk 2 p_a1_Tube c_a1_Tube a1.Tube qa),(22,qB qk 2 p_a1_To c_a1_To a1.To qa)] (by
  intro x hx
  simp only [List.mem_cons,List.not_mem_nil,or_false] at hx
  rcases hx with rfl | rfl | rfl | rfl
  ·exact qy (qj hB.1) (fun _ _=>trivial) (by decide) _
  ·exact qy (qj hB.2.1) (fun _ _=>trivial) (by decide) _
  ·exact qy (qj hB.2.2.1) (fun _ _=>trivial) (by decide) _
  ·exact qy (qj hB.2.2.2.1) (fun _ _=>trivial) (by decide) _) Tryz.func57 rfl (by kernel_rfl) (by kernel_rfl) fun a H=>?_
 unfold Yx at G
 refine qg qd H (.cons [2,23] (qs (fun b=>vP b 0) (fun u1=>[vI a0.Order,vI a0.First,vI a0.Least,vI a0.Most,vI a0.Wide]) 27 2 23) <|
 .cons [3,24] (qs (fun b=>vP b 0) (fun u1=>[vI a1.T,vI a1.H,.slice p_a1_From a1.From.length c_a1_From,.slice p_a1_Pre a1.Pre.length c_a1_Pre,.slice p_a1_Tube a1.Tube.length c_a1_Tube,.slice p_a1_To a1.To.length c_a1_To]) 63 3 24) <|
 .v 4 (.bool false)<|.nil) [2,3,19,20,21,22,23,24] fun u1 a w' H=>?_
 refine qg qd H (.v 6 (.func (.func 82) #[] #[vP ((u1 0).n 0) 0]) <|
 .v 5 (.func (.func 82) #[] #[vP ((u1 0).n 0) 0])<|.nil) [3,5,19,20,21,22,23,24] fun u2 a w' H=>?_
 obtain ⟨t4,ht4,G⟩:=qP G
 obtain ⟨t5,ht5,G⟩:=qP G
 refine qg qd H (.v 7 (vP ((u1 1).n 0) 5) <|
 .cons [8] (qf (.slice p_a1_To a1.To.length c_a1_To) 8 24 5 1 ((u1 1).n 0) [vI a1.T,vI a1.H,.slice p_a1_From a1.From.length c_a1_From,.slice p_a1_Pre a1.Pre.length c_a1_Pre,.slice p_a1_Tube a1.Tube.length c_a1_Tube,.slice p_a1_To a1.To.length c_a1_To] 63) <|
 .v 9 (.func (.func 82) #[] #[vP ((u1 0).n 0) 0]) <|
 .cons [10] (QX [22,23] (fun u3=>[qB qk 2 p_a1_To c_a1_To a1.To qa,.blk ((u1 0).n 0) [vI a0.Order,vI a0.First,vI a0.Least,vI a0.Most,vI a0.Wide] 27]) 84 _ _ 10 (fun u3 w hF=>XG.calls k0 a1.To a0 p_a1_To c_a1_To ((u1 0).n 0) t4 w  ⟨(Z9 (qj hF.1)),(QV hF.2.1 0).2.1,trivial⟩ ht4)) <|
 .v 11 (.bool (!t4)) <|
 .v 12 (.bool (!t4)) <|
 .cons [13] (qQ (fun u3=>vP ((u1 1).n 0) 4) (fun u3=>((!t4) == true)) [true] 13) <|
 .cons [14] (YS (fun u3=>.slice p_a1_Tube a1.Tube.length c_a1_Tube) (fun u3=>((!t4) == true)) [false] 14 24 4 1 (fun u3=>((u1 1).n 0)) (fun u3=>[vI a1.T,vI a1.H,.slice p_a1_From a1.From.length c_a1_From,.slice p_a1_Pre a1.Pre.length c_a1_Pre,.slice p_a1_Tube a1.Tube.length c_a1_Tube,.slice p_a1_To a1.To.length c_a1_To]) 63) <|
 .cons [15] (qQ (fun u3=>.func (.func 82) #[] #[vP ((u1 0).n 0) 0]) (fun u3=>((!t4) == true)) [true] 15) <|
 .cons [16] (Wp [21,23] (fun u3=>[qB qk 2 p_a1_Tube c_a1_Tube a1.Tube qa,.blk ((u1 0).n 0) [vI a0.Order,vI a0.First,vI a0.Least,vI a0.Most,vI a0.Wide] 27]) 84 (fun u3=>#[.slice p_a1_Tube a1.Tube.length c_a1_Tube,.func (.func 82) #[] #[vP ((u1 0).n 0) 0]]) (.bool t5) (fun u3=>((!t4) == true)) [true,false,false] 16 (fun u3 w hg hF=>XG.calls k0 a1.Tube a0 p_a1_Tube c_a1_Tube ((u1 0).n 0) t5 w  ⟨(Z9 (qj hF.1)),(QV hF.2.1 0).2.1,trivial⟩ (ifp ht5 hg))) <|
 .cons [17] (qQ (fun u3=>.bool (!t5)) (fun u3=>((!t4) == true)) [false] 17) <|
 .cons [18] (YY 12 17 (fun u3=>true) (fun u3=>true) (fun u3=>(!t4)) (fun u3=>(!t5)) 18) <|
 .v 4 (.bool ((!t4) && (!t5)))<|.nil) [4] fun u3 a w' H=>?_
 refine qF ?_
 obtain rfl:=sj G
 exact Qr H _ (by kernel_rfl) (by kernel_rfl)
theorem ZY.calls (a0:qH) (a1:Int) (r:Int) (w:World) (G:ZY a0 a1=some r) :
  Calls Tryz.prog 58 #[.agg #[vI a0.Order,vI a0.First,vI a0.Least,vI a0.Most,vI a0.Wide],vI a1] w fun e w'=>e = .returned (vI r)∧Below w.heap.size w w':=by
 refine QD (args:=[.agg #[vI a0.Order,vI a0.First,vI a0.Least,vI a0.Most,vI a0.Wide],vI a1]) 10 Tryz.func58 rfl (by kernel_rfl) (by kernel_rfl) fun a H=>?_
 unfold ZY at G
 refine qg qd H (.cons [2,10] (qs (fun b=>vP b 0) (fun u1=>[vI a0.Order,vI a0.First,vI a0.Least,vI a0.Most,vI a0.Wide]) 27 2 10) <|
 .v 4 (vI 0)<|.nil) [1,2,10] fun u1 a w' H=>?_
 refine qg qd H (.v 5 (vI a1) <|
 .v 6 (vI (qc (2 * a1))) <|
 .v 7 (vP ((u1 0).n 0) 3) <|
 .cons [8] (qf (vI a0.Most) 8 10 3 1 ((u1 0).n 0) [vI a0.Order,vI a0.First,vI a0.Least,vI a0.Most,vI a0.Wide] 27) <|
 .v 9 (vI (mn (qc (2 * a1)) a0.Most)) <|
 .v 4 (vI (mn (qc (2 * a1)) a0.Most))<|.nil) [4] fun u2 a w' H=>?_
 refine qF ?_
 obtain rfl:=sj G
 exact Qr H _ (by kernel_rfl) (by kernel_rfl)
theorem qZ.ok (k0:Nat) (q0:Int) (q1:qH) (b_q0:Nat) (b_q1:Nat) (lo:Nat) (hne_b_q1:b_q1≠b_q0) (r:List (Int)) (G:qZ k0 q0 q1=some r) :
  qcD (γ:=Unit) Tryz.prog 76 #[vP b_q0 0,vP b_q1 0] (fun x _=>#[vI x]) (fun _ _=>[]) r (· = b_q0) (fun w=>Xx [Xp b_q1 [vI q1.Order,vI q1.First,vI q1.Least,vI q1.Most,vI q1.Wide] 27] w) (fun W=>W.heap[b_q0]? = some (.cells [vI q0].toArray 2 (0,0))) lo:=by
 intro l J JX base hJ hJX hF w hJc hXc hOl hlo hY W h0 hOx hsz
 have hB:=hF _ _ h0
 obtain ⟨fr,hfr⟩:∃ fr:Nat→Prop,∀ j,fr j:=⟨fun _=>True,fun _=>trivial⟩
 have hBf:∀ j,w.heap.size≤j→fr j:=fun j _=>hfr j
 have hFB:∀ x ∈ ([(19,Xp b_q1 [vI q1.Order,vI q1.First,vI q1.Least,vI q1.Most,vI q1.Wide] 27)]:List (Nat × KV)),(∃ fp F,x.2 = .fact fp F)∧x.2.holds W ∧ ∀ i,x.2.fp i→i<W.heap.size:=by
  intro x hx
  simp only [List.mem_cons,List.not_mem_nil,or_false] at hx
  rcases hx with rfl
  ·exact QV (hB.1 W (agree.refl _ _)) _
 have hFX:∀ x ∈ ([(19,Xp b_q1 [vI q1.Order,vI q1.First,vI q1.Least,vI q1.Most,vI q1.Wide] 27)]:List (Nat × KV)),(∃ fp F,x.2 = .fact fp F) ∧ ∀ i,x.2.fp i→i<base ∧ ¬ (· = b_q0) i:=fun x hx=>⟨(hFB x hx).1,fun i hi=>⟨by rw [← hsz]; exact (hFB x hx).2.2 i hi,by
  simp only [List.mem_cons,List.not_mem_nil,or_false] at hx
  rcases hx with rfl
  ·exact fun he=>(fun i hi he=>hne_b_q1 ((show i=b_q1 from hi) ▸ he)) i hi he⟩⟩
 have hFJ:∀ s W,J s W → ∀ x ∈ ([(19,Xp b_q1 [vI q1.Order,vI q1.First,vI q1.Least,vI q1.Most,vI q1.Wide] 27)]:List (Nat × KV)),x.2.holds W:=fun s W h=>W4 _ (hF _ _ h)
 have hbase:0<base:=Nat.lt_of_le_of_lt (Nat.zero_le _) ((hFX _ (.head _)).2 b_q1 rfl).1
 refine qbC (args:=[.func (.yield l) #[] #[],vP b_q0 0,vP b_q1 0]) 18 Tryz.func76 rfl (by kernel_rfl) (by kernel_rfl) fun a H=>?_
 replace H:=(H.again W (hJc _ _ h0) (Nat.zero_le _) ([(19,Xp b_q1 [vI q1.Order,vI q1.First,vI q1.Least,vI q1.Most,vI q1.Wide] 27)]++[(20,jO (· = b_q0) base w (J r))]) (fun x hx=>(List.mem_append.1 hx).elim (hFB x) fun hx=>by
  rw [List.mem_singleton.1 hx]
  exact ⟨⟨_,_,rfl⟩,W5 hbase hOl (Nat.le_of_eq hsz.symm) (fun W' hs=>hJ _ _ _ h0 hs) (hJc _ _ h0),fun i hi=>by rw [hsz]; exact hi.1⟩)).toL [(0,.slot true (.func (.yield l) #[] #[])),(1,sP b_q0 0),(2,sP b_q1 0),(19,Xp b_q1 [vI q1.Order,vI q1.First,vI q1.Least,vI q1.Most,vI q1.Wide] 27),(20,jO (· = b_q0) base w (J r))] (by kernel_rfl)
 replace H:=(H.lent (cs:=[vI q0]) 18 hOx (qeg _ (by
  intro x hx hi
  simp only [List.mem_cons,List.not_mem_nil,or_false] at hx
  rcases hx with rfl | rfl | rfl | rfl | rfl
  all_goals first | exact hi | exact hi.2 rfl | exact hne_b_q1 (show b_q0=b_q1 from hi).symm))).toL [(0,.slot true (.func (.yield l) #[] #[])),(1,sP b_q0 0),(2,sP b_q1 0),(18,.blk b_q0 [vI q0] 2),(19,Xp b_q1 [vI q1.Order,vI q1.First,vI q1.Least,vI q1.Most,vI q1.Wide] 27),(20,jO (· = b_q0) base w (J r))] (by kernel_rfl)
 clear hB hFB h0 hsz
 unfold qZ at G
 refine YA ?_
 refine YQ qd H (.v 4 (vI 0)<|.nil) (by kernel_rfl) (by kernel_rfl) fun u1 a w' H=>?_
 replace H:=H.kp [0,1,2,4,18,19,20]
 refine Jr ?_
 refine qbi (fun m a w'=>∃ r,∃ x2:Int,∃ x3:Int,qZ.l4 k0 q0 q1 m x2 x3=some r∧QS 0 w 18 (Jl [(0,.slot true (.func (.yield l) #[] #[])),(1,sP b_q0 0),(2,sP b_q1 0),(4,sI x2),(18,.blk b_q0 [vI x3] 2),(19,Xp b_q1 [vI q1.Order,vI q1.First,vI q1.Least,vI q1.Most,vI q1.Wide] 27),(20,jO (· = b_q0) base w (J r))]) a w') k0 ⟨_,_,_,G,H.toM _⟩ ?_
 clear H G
 rintro (_ | k1) a w' ⟨r,x2,x3,G,H⟩
 ·exact absurd G (by unfold qZ.l4; exact fun h=>by cases h)
 ·unfold qZ.l4 at G
  refine YA ?_
  refine YA ?_
  replace G:=qP G; obtain ⟨z6,hz6,G⟩:=G
  replace hz6:=Option.some.inj hz6
  by_cases c7:z6=true
  ·rw [if_pos c7] at G; subst c7
   replace G:=qP G; obtain ⟨r,hr,G⟩:=G; obtain rfl:=sj G; replace G:=hr; clear hr
   refine qfR (qei (Rp:=qdf (· = b_q0) 20 [19] [18] base w 18) qd ⟨H.toM [(0,.slot true (.func (.yield l) #[] #[])),(1,sP b_q0 0),(2,sP b_q1 0),(4,sI x2),(18,.blk b_q0 [vI x3] 2),(19,Xp b_q1 [vI q1.Order,vI q1.First,vI q1.Least,vI q1.Most,vI q1.Wide] 27),(20,jO (· = b_q0) base w (J (x3 :: r)))] (by kernel_rfl),W7 _ (by kernel_rfl)⟩ (.cons [5] (okg (qn (fun u5=>vI x2) 5)) <|
 .cons [6] (okg (qn (fun u5=>.bool (x2 == 0)) 6)) <|
 .cons [7] (okg (QL (u':=fun u5=>[(7,sB true)]) (qn (fun u5=>.bool (x2 == 0)) 7) (fun _=>by rw [hz6]))) <|
 .cons [8] (okg (Qh (qn (fun u5=>.func (.yield l) #[] #[]) 8) (by intro _; kernel_rfl))) <|
 .cons [9] (okg (Qh (qf (vI x3) 9 18 0 1 b_q0 [vI x3] 2) (by intro _; kernel_rfl))) <|
 .cons [10,20,19,18] (Wm (O:=(· = b_q0)) (base:=base) 20 [19] [18] l (fun u5=>#[vI x3]) (J (x3 :: r)) (J r) JX 10 hbase hOl (by intro _; kernel_rfl) (fun u5 W1 h1 hb1 hk1=>hY x3 () r W1 h1 hb1 (fun x hx=>by cases hx)) (fun W1 W2 h1 h2=>hJ _ _ _ h1 h2) hJX (fun W1 h1=>hJc _ _ h1) hXc (by rfl) (by rfl) (by rfl)) <|
 .cons [11] (okg (XJ (fun u5=>.bool (decide ((u5 5).n 0=1))) 11))<|(.nil)) (by kernel_rfl) (fun S a w1 h=>⟨h.1.world ⟨rfl,rfl,rfl,Nat.le_refl _,fun _ _=>rfl⟩,h.2⟩) fun u5 a w' H=>?_)
   replace H:=H.1.toL [(0,.slot true (.func (.yield l) #[] #[])),(1,sP b_q0 0),(2,sP b_q1 0),(8,.slot true (.func (.yield l) #[] #[])),(9,sI x3),(10,(sB (decide ((u5 5).n 0=1)))),(11,(sB (decide ((u5 5).n 0=1)))),(18,bif decide ((u5 5).n 0=1) then .blk b_q0 [vI x3] 2 else .none),(20,bif decide ((u5 5).n 0=1) then jO (· = b_q0) base w (J r) else jK ((u5 5).n 1) w JX)] (by kernel_rfl)
   rcases Bool.eq_false_or_eq_true (decide ((u5 5).n 0=1)) with hb | hb
   ·rw [hb] at H
    replace H:=H.kp [0,1,2,8,9,10,11,18,20]
    replace H:=(QS.readdO (O:=(· = b_q0)) (J:=J r) 20 [(19,Xp b_q1 [vI q1.Order,vI q1.First,vI q1.Least,vI q1.Most,vI q1.Wide] 27)] _ H hFX (fun W1 h1=>hFJ _ _ h1) (by kernel_rfl) (WS (O:=(· = b_q0)) (J:=J r) hbase hOl 20 H (by kernel_rfl)) (by rfl)).toL [(0,.slot true (.func (.yield l) #[] #[])),(1,sP b_q0 0),(2,sP b_q1 0),(8,.slot true (.func (.yield l) #[] #[])),(9,sI x3),(10,sB true),(11,sB true),(18,.blk b_q0 [vI x3] 2),(19,Xp b_q1 [vI q1.Order,vI q1.First,vI q1.Least,vI q1.Most,vI q1.Wide] 27),(20,jO (· = b_q0) base w (J r))] (by kernel_rfl)
    refine JI H (by kernel_rfl) (by kernel_rfl) ?_
    refine JB ?_
    refine Jr ?_
    replace G:=qP G; obtain ⟨t8,ht8,G⟩:=G
    refine YQ qd H (.cons [13] (Q8 (fun u7=>.agg #[vI q1.Order,vI q1.First,vI q1.Least,vI q1.Most,vI q1.Wide]) 13 19 (Xp b_q1 [vI q1.Order,vI q1.First,vI q1.Least,vI q1.Most,vI q1.Wide] 27) b_q1 0 5 [vI q1.Order,vI q1.First,vI q1.Least,vI q1.Most,vI q1.Wide] (fun w h=>Zf h)) <|
 .cons [14] (qf (vI x3) 14 18 0 1 b_q0 [vI x3] 2) <|
 .cons [15] (qq 77 _ _ 15 [] (fun u7 w _=>YP.calls q1 x3  t8 w  ht8)) <|
 .v 12 (.tuple #[vI t8.1,vI t8.2]) <|
 .v 16 (vI t8.1) <|
 .v 17 (vI t8.2) <|
 .cons [18] (Qa 18 0 b_q0 [vI x3] [vI t8.1] 2 [vI t8.1]) <|
 .v 4 (vI t8.2)<|.nil) (by kernel_rfl) (by kernel_rfl) fun u7 a w' H=>?_
    replace H:=H.kp [0,1,2,4,8,9,10,18,19,20]
    exact ⟨k1,Nat.lt_succ_self k1,_,_,_,G,H.toM _⟩
   ·clear G; rw [hb] at H
    replace H:=H.kp [0,1,2,8,9,10,11,20]
    refine Jt H (by kernel_rfl) (by kernel_rfl) ?_
    refine Wr rfl ?_
    exact ⟨H.defers,_,XZ H (.tuple #[]) [] (by kernel_rfl) (by simp) (by kernel_rfl),⟨_,rfl⟩,.inr ((show (jK ((u5 5).n 1) w JX).holds _ from H.holds 20) _ (agree.refl _ _) H.below)⟩
  rw [if_neg c7] at G
  by_cases c8:z6=false
  ·rw [if_pos c8] at G; subst c8
   refine YQ qd H (.v 5 (vI x2) <|
 .v 6 (.bool (x2 == 0)) <|
 .cons [7] (QL (u':=fun u5=>[(7,sB false)]) (qn (fun u5=>.bool (x2 == 0)) 7) (fun _=>by rw [hz6])) <|
 .cons [8] (qA 8) <|
 .cons [9] (qA 9) <|
 .cons [10] (qA 10) <|
 .cons [11] (XJ (fun u5=>.bool false) 11)<|.nil) (by kernel_rfl) (by kernel_rfl) fun u5 a w' H=>?_
   replace H:=H.kp [0,1,2,8,9,10,11,18,19,20]
   refine Jt H (by kernel_rfl) (by kernel_rfl) ?_
   refine Wr rfl ?_
   obtain rfl:=sj G
   exact ⟨H.defers,_,XZ H (.tuple #[]) [] (by kernel_rfl) (by simp) (by kernel_rfl),⟨_,rfl⟩,.inl ((show (jO (· = b_q0) base w (J [])).holds _ from H.holds 20) _ (agree.refl _ _) H.below)⟩
  rw [if_neg c8] at G
  cases G
end Go.Proofs.YtpmgpcklieincaaGreatDoor
