/- Each function of the program answers as the plain Lean function of its name (part 1). Printed by a program of this session. -/
import Derived.Test.YtpmgpcklieincaaGreatDoorFn0
set_option linter.unusedVariables false
set_option linter.unusedSimpArgs false
set_option maxRecDepth 100000
set_option maxHeartbeats 4000000
namespace Go.Proofs.YtpmgpcklieincaaGreatDoor
open Go Go.RowKit Go.Sx Go.Proofs
theorem Xb.calls (k0:Nat)(a0:QE)(a1:List qb)(a2:qb)(p_a0_L:Option Addr)(c_a0_L:Nat)(p_a0_Out:Option Addr)(c_a0_Out:Nat)(p_a1:Option Addr)(c_a1:Nat)(r:List qb)(w:World)(hB:Xp [qy ql 5 p_a0_L c_a0_L a0.L qi,qy ql 1 p_a0_Out c_a0_Out a0.Out q6,qy ql 2 p_a1 c_a1 a1 qa,gk] w)(G:Xb k0 a0 a1 a2=some r) :
  Calls Tryz.prog 128 #[.agg #[vI a0.N,.slice p_a0_L a0.L.length c_a0_L,.slice p_a0_Out a0.Out.length c_a0_Out],.slice p_a1 a1.length c_a1,.agg #[vI a2.Lo,vI a2.Hi]] w λe w'=>∃ g:Gh,e = .returned (.slice (g.o 0) r.length (g.n 0))∧Zj (YR []) w w'∧Ye w.heap.size (YR []) (JS w.heap.size []) [λ_=>Ql 46 2 (g.o 0) (g.n 0) r qa] w':=by
 obtain ⟨fr,hfr,hBf⟩:=VT w []
 refine QA (args:=[.agg #[vI a0.N,.slice p_a0_L a0.L.length c_a0_L,.slice p_a0_Out a0.Out.length c_a0_Out],.slice p_a1 a1.length c_a1,.agg #[vI a2.Lo,vI a2.Hi]]) 112 [(112,qy ql 5 p_a0_L c_a0_L a0.L qi),(113,qy ql 1 p_a0_Out c_a0_Out a0.Out q6),(114,qy ql 2 p_a1 c_a1 a1 qa),(999999,gk)] (by
  intro x hx
  simp only [List.mem_cons,List.not_mem_nil,or_false] at hx
  rcases hx with rfl | rfl | rfl | rfl
  ·exact qv (qj hB.1) (λ_ _=>trivial) (by decide) _
  ·exact qv (qj hB.2.1) (λ_ _=>trivial) (by decide) _
  ·exact qv (qj hB.2.2.1) (λ_ _=>trivial) (by decide) _
  ·exact ⟨⟨_,_,rfl⟩,hB.2.2.2.1,Yc (Qy hB.2.2.2.1)⟩) Tryz.func128 rfl λa H=>?_
 unfold Xb at G
 refine qg qd H (.cons [3,115] (qn (λb=>vP b 0) (λu1=>[vI a0.N,.slice p_a0_L a0.L.length c_a0_L,.slice p_a0_Out a0.Out.length c_a0_Out]) 38 3 115)<|.cons [5,116] (qn (λb=>vP b 0) (λu1=>[vI a2.Lo,vI a2.Hi]) 46 5 116)<|.v 6 (.slice none 0 0)<|.nil) [1,3,5,112,113,114,115,116,999999] λu1 a w' H=>?_
 refine qs ?_
 replace G:=gd G; obtain ⟨b3,G⟩:=G
 refine Qq qd H (.v 14 (vP (nn u1 0) 1)<|.cons [15] (qf (.slice p_a0_L a0.L.length c_a0_L) 15 115 1 1 (nn u1 0) [vI a0.N,.slice p_a0_L a0.L.length c_a0_L,.slice p_a0_Out a0.Out.length c_a0_Out] 38)<|.v 16 (vI (a0.L.length:Int))<|.cons [17,117] (Z8 [] (λu2=>[]) 46 2 (List.replicate (a0.L.length:Int).toNat (⟨0,0⟩:qb)).length ((List.replicate (a0.L.length:Int).toNat (⟨0,0⟩:qb)).flatMap qa) 17 117 (λ_=>.none) (λu2 w hF=>Yr (t:=48) (k:=.i64) (m:=(a0.L.length:Int)) (en:=qa) (z:=(⟨0,0⟩:qb)) qe JZ rfl b3 (by kernel_rfl)) (λ_=>.inl rfl))<|.cons [7] (qr (λu2=>.slice ((u2 3).o 0) ((List.replicate (a0.L.length:Int).toNat (⟨0,0⟩:qb)).length) (nn u2 3)) 7)<|.nil) [1,3,5,7,112,113,114,115,116,117,999999] λu2 a w' H=>?_
 refine qs ?_
 replace G:=qO G; obtain ⟨j5,hj5,G⟩:=G
 refine Xu (λa w'=>∃ (p_j4:Option Addr) (c_j4 np_j4:Nat),np_j4=j5.length∧RL w 112 [(3,(sP (nn u1 0) 0)),(7,sS p_j4 np_j4 c_j4),(112,qy ql 5 p_a0_L c_a0_L a0.L qi),(113,qy ql 1 p_a0_Out c_a0_Out a0.Out q6),(115,.blk (nn u1 0) [vI a0.N,.slice p_a0_L a0.L.length c_a0_L,.slice p_a0_Out a0.Out.length c_a0_Out] 38),(900001,XP 46 2 p_j4 np_j4 c_j4 (j5.flatMap qa)),(999999,gk)] a w') ?_ ?_
 ·clear H; rintro a w' ⟨p_j4,c_j4,_,rfl,H⟩
  refine qs ?_
  replace G:=gd G; obtain ⟨b7,G⟩:=G
  refine Qq qd H (.v 91 (vP (nn u1 0) 2)<|.cons [92] (qf (.slice p_a0_Out a0.Out.length c_a0_Out) 92 115 2 1 (nn u1 0) [vI a0.N,.slice p_a0_L a0.L.length c_a0_L,.slice p_a0_Out a0.Out.length c_a0_Out] 38)<|.v 93 (vI (a0.Out.length:Int))<|.cons [94,118] (Z8 [] (λu6=>[]) 46 2 (List.replicate (a0.Out.length:Int).toNat (⟨0,0⟩:qb)).length ((List.replicate (a0.Out.length:Int).toNat (⟨0,0⟩:qb)).flatMap qa) 94 118 (λ_=>.none) (λu6 w hF=>Yr (t:=48) (k:=.i64) (m:=(a0.Out.length:Int)) (en:=qa) (z:=(⟨0,0⟩:qb)) qe JZ rfl b7 (by kernel_rfl)) (λ_=>.inl rfl))<|.cons [11] (qr (λu6=>.slice ((u6 3).o 0) ((List.replicate (a0.Out.length:Int).toNat (⟨0,0⟩:qb)).length) (nn u6 3)) 11)<|.nil) [3,7,11,112,113,115,118,900001,999999] λu6 a w' H=>?_
  refine qs ?_
  replace G:=qO G; obtain ⟨j9,hj9,G⟩:=G
  refine Xu (λa w'=>∃ (p_j8:Option Addr) (c_j8 np_j8:Nat),np_j8=j9.length∧RL w 112 [(11,sS p_j8 np_j8 c_j8),(900002,XP 46 2 p_j8 np_j8 c_j8 (j9.flatMap qa)),(999999,gk)] a w') ?_ ?_
  ·clear H; rintro a w' ⟨p_j8,c_j8,_,rfl,H⟩
   refine qg qd H (.v 111 (.slice p_j8 j9.length c_j8)<|.v 6 (.slice p_j8 j9.length c_j8)<|.nil) [6,900002,999999] λu10 a w' H=>?_
   refine qB ?_
   obtain rfl:=sj G
   obtain ⟨g,o0,n0⟩:=ZS p_j8 c_j8
   refine Qz H _ g _ _ _ fr [900002] [] (.slice p_j8 j9.length c_j8) [λ_=>Ql 46 2 p_j8 c_j8 j9 qa] (by simp only [Ql,o0,n0]) (by simp only [Ql,o0,n0]) hfr (.inl ⟨rfl,rfl⟩) (qk Qf qx) (by simp)
  ·clear G; replace G:=hj9; clear hj9
   refine qg qd H (.v 95 (vP (nn u1 0) 2)<|.cons [96] (qf (.slice p_a0_Out a0.Out.length c_a0_Out) 96 115 2 1 (nn u1 0) [vI a0.N,.slice p_a0_L a0.L.length c_a0_L,.slice p_a0_Out a0.Out.length c_a0_Out] 38)<|.v 97 (vI (a0.Out.length:Int))<|.v 98 (vI 0)<|.nil) [7,11,96,97,98,113,118,900001,999999] λu11 a w' H=>?_
   refine qV ?_
   replace H:=H.move (K:=Ql 46 2 ((u6 3).o 0) (nn u6 3) (List.replicate (a0.Out.length:Int).toNat (⟨0,0⟩:qb)) qa) 118 900003 (by kernel_rfl) (by intro _ _ h; cases h)
   refine XY (λm a w'=>∃ x12:List qb,∃ x13:Int,Xb.l14 k0 a0 a1 a2 j5 m x12 x13=some j9 ∧ ∃ (p_x12:Option Addr) (c_x12 np_x12:Nat),np_x12=x12.length∧RL w 112 [(7,sS p_j4 j5.length c_j4),(11,sS p_x12 np_x12 c_x12),(96,sS p_a0_Out a0.Out.length c_a0_Out),(97,(sI (a0.Out.length:Int))),(98,sI x13),(113,qy ql 1 p_a0_Out c_a0_Out a0.Out q6),(900001,Ql 46 2 p_j4 c_j4 j5 qa),(900003,XP 46 2 p_x12 np_x12 c_x12 (x12.flatMap qa)),(999999,gk)] a w') k0 ⟨_,_,G,((u6 3).o 0),(nn u6 3),(List.replicate (a0.Out.length:Int).toNat (⟨0,0⟩:qb)).length,rfl,H.toM _⟩ ?_
   clear G H
   rintro (_ | k) a w' ⟨x12,x13,G,p_x12,c_x12,_,rfl,H⟩
   ·exact absurd G (by unfold Xb.l14; exact λh=>by cases h)
   ·unfold Xb.l14 at G
    refine qg qd H (.v 99 (.bool (decide (x13<(a0.Out.length:Int))))<|.nil) [7,11,96,97,98,99,113,900001,900003,999999] λu15 a w' H=>?_
    refine qs ?_
    refine Qu H (decide (x13<(a0.Out.length:Int))) (λc25=>?_) λc25=>?_
    ·rw [if_pos c25] at G
     refine q8 ?_
     refine qs ?_
     refine qV ?_
     refine qs ?_
     replace G:=gd G; obtain ⟨b17,G⟩:=G
     replace G:=qO G; obtain ⟨t18,ht18,G⟩:=G
     refine Qq qd H (.v 100 (vI x13)<|.cons [101] (qL 113 (qy ql 1 p_a0_Out c_a0_Out a0.Out q6) (.pointer (some ⟨XR p_a0_Out,XV p_a0_Out+x13.toNat*1,none⟩)) 101 λ_ w h=>JT 36 .i64 x13 p_a0_Out a0.Out.length c_a0_Out a0.Out q6 (qj h).2 JP rfl b17)<|.cons [102] (qL 113 (qy ql 1 p_a0_Out c_a0_Out a0.Out q6) (vI t18) 102 λ_ w h=>Y4 q6 (qj h).2 JP ht18 0 1 [vI t18])<|.v 12 (vI x13)<|.v 13 (vI t18)<|.nil) [7,11,12,13,96,97,98,113,900001,900003,999999] λu16 a w' H=>?_
     replace G:=gd G; obtain ⟨b20,G⟩:=G
     replace G:=qO G; obtain ⟨t21,ht21,G⟩:=G
     replace G:=gd G; obtain ⟨b22,G⟩:=G
     replace G:=qO G; obtain ⟨t23,ht23,G⟩:=G
     refine Qq qd H (.v 103 (.slice p_x12 x12.length c_x12)<|.v 104 (vI x13)<|.v 105 (.slice p_j4 j5.length c_j4)<|.v 106 (vI t18)<|.cons [107] (qL 900001 (Ql 46 2 p_j4 c_j4 j5 qa) (.pointer (some ⟨XR p_j4,XV p_j4+t18.toNat*2,none⟩)) 107 λ_ w h=>JT 48 .i64 t18 p_j4 j5.length c_j4 j5 qa (qH (Qx h)).2 qe rfl b20)<|.cons [108] (qL 900001 (Ql 46 2 p_j4 c_j4 j5 qa) (.agg #[vI t21.Lo,vI t21.Hi]) 108 λ_ w h=>Y4 qa (qH (Qx h)).2 qe ht21 0 2 [vI t21.Lo,vI t21.Hi])<|.cons [109] (qL 900003 (Ql 46 2 p_x12 c_x12 x12 qa) (.pointer (some ⟨XR p_x12,XV p_x12+x13.toNat*2,none⟩)) 109 λ_ w h=>JT 48 .i64 x13 p_x12 x12.length c_x12 x12 qa (qH (Qx h)).2 qe rfl b22)<|.cons [900003,900003] (Xt [] [] (λu19=>[]) 900003 (λu19=>Ql 46 2 p_x12 c_x12 x12 qa) none (λu19 g=>.nilFunc) (λu19 g=>XP 46 2 p_x12 x12.length c_x12 ((x12.set x13.toNat t21).flatMap qa)) (λu19 w hF hK=>ZG (XG (Qx hK) qe (y:=t21) (vs:=[vI t21.Lo,vI t21.Hi]) ht23 0 (by simp) (by simp) rfl (by kernel_rfl))))<|.nil) [7,11,96,97,98,113,900001,900003,999999] λu19 a w' H=>?_
     refine Qq qd H (.v 110 (vI (qc (x13+1)))<|.v 98 (vI (qc (x13+1)))<|.nil) [7,11,96,97,98,113,900001,900003,999999] λu24 a w' H=>?_
     exact ⟨k,Nat.lt_succ_self k,_,_,G,p_x12,c_x12,x12.length,by simp,H.toM _⟩
    ·rw [if_neg (nt c25)] at G
     refine Yx rfl ?_
     obtain rfl:=sj G
     replace H:=H.move (K:=Ql 46 2 p_x12 c_x12 x12 qa) 900003 900002 (by kernel_rfl) (by intro _ _ h; cases h)
     exact ⟨p_x12,c_x12,x12.length,rfl,H.toM _⟩
 ·clear G; replace G:=hj5; clear hj5
  refine qg qd H (.v 18 (vP (nn u1 0) 1)<|.cons [19] (qf (.slice p_a0_L a0.L.length c_a0_L) 19 115 1 1 (nn u1 0) [vI a0.N,.slice p_a0_L a0.L.length c_a0_L,.slice p_a0_Out a0.Out.length c_a0_Out] 38)<|.v 20 (vI (a0.L.length:Int))<|.v 21 (vI 0)<|.nil) [1,3,5,7,19,20,21,112,113,114,115,116,117,999999] λu26 a w' H=>?_
  refine qV ?_
  replace H:=H.move (K:=Ql 46 2 ((u2 3).o 0) (nn u2 3) (List.replicate (a0.L.length:Int).toNat (⟨0,0⟩:qb)) qa) 117 900004 (by kernel_rfl) (by intro _ _ h; cases h)
  refine XY (λm a w'=>∃ x27:List qb,∃ x28:Int,Xb.l29 k0 a0 a1 a2 m x27 x28=some j5 ∧ ∃ (p_x27:Option Addr) (c_x27 np_x27:Nat),np_x27=x27.length∧RL w 112 [(1,sS p_a1 a1.length c_a1),(3,(sP (nn u1 0) 0)),(5,(sP (nn u1 1) 0)),(7,sS p_x27 np_x27 c_x27),(19,sS p_a0_L a0.L.length c_a0_L),(20,(sI (a0.L.length:Int))),(21,sI x28),(112,qy ql 5 p_a0_L c_a0_L a0.L qi),(113,qy ql 1 p_a0_Out c_a0_Out a0.Out q6),(114,qy ql 2 p_a1 c_a1 a1 qa),(115,.blk (nn u1 0) [vI a0.N,.slice p_a0_L a0.L.length c_a0_L,.slice p_a0_Out a0.Out.length c_a0_Out] 38),(116,.blk (nn u1 1) [vI a2.Lo,vI a2.Hi] 46),(900004,XP 46 2 p_x27 np_x27 c_x27 (x27.flatMap qa)),(999999,gk)] a w') k0 ⟨_,_,G,((u2 3).o 0),(nn u2 3),(List.replicate (a0.L.length:Int).toNat (⟨0,0⟩:qb)).length,rfl,H.toM _⟩ ?_
  clear G H
  rintro (_ | k) a w' ⟨x27,x28,G,p_x27,c_x27,_,rfl,H⟩
  ·exact absurd G (by unfold Xb.l29; exact λh=>by cases h)
  ·unfold Xb.l29 at G
   refine qg qd H (.v 22 (.bool (decide (x28<(a0.L.length:Int))))<|.nil) [1,3,5,7,19,20,21,22,112,113,114,115,116,900004,999999] λu30 a w' H=>?_
   refine qs ?_
   refine Qu H (decide (x28<(a0.L.length:Int))) (λc166=>?_) λc166=>?_
   ·rw [if_pos c166] at G
    refine q8 ?_
    refine qs ?_
    replace G:=qO G; obtain ⟨j32,hj32,G⟩:=G
    refine Xu (λa w'=>∃ (p_j31:Option Addr) (c_j31 np_j31:Nat),np_j31=j32.length∧RL w 112 [(1,sS p_a1 a1.length c_a1),(3,(sP (nn u1 0) 0)),(5,(sP (nn u1 1) 0)),(7,sS p_j31 np_j31 c_j31),(19,sS p_a0_L a0.L.length c_a0_L),(20,(sI (a0.L.length:Int))),(21,sI x28),(112,qy ql 5 p_a0_L c_a0_L a0.L qi),(113,qy ql 1 p_a0_Out c_a0_Out a0.Out q6),(114,qy ql 2 p_a1 c_a1 a1 qa),(115,.blk (nn u1 0) [vI a0.N,.slice p_a0_L a0.L.length c_a0_L,.slice p_a0_Out a0.Out.length c_a0_Out] 38),(116,.blk (nn u1 1) [vI a2.Lo,vI a2.Hi] 46),(900005,XP 46 2 p_j31 np_j31 c_j31 (j32.flatMap qa)),(999999,gk)] a w') ?_ ?_
    ·clear H; rintro a w' ⟨p_j31,c_j31,_,rfl,H⟩
     refine Qq qd H (.v 90 (vI (qc (x28+1)))<|.v 21 (vI (qc (x28+1)))<|.nil) [1,3,5,7,19,20,21,112,113,114,115,116,900005,999999] λu33 a w' H=>?_
     replace H:=H.move (K:=Ql 46 2 p_j31 c_j31 j32 qa) 900005 900004 (by kernel_rfl) (by intro _ _ h; cases h)
     exact ⟨k,Nat.lt_succ_self k,_,_,G,p_j31,c_j31,j32.length,rfl,H.toM _⟩
    ·clear G; replace G:=hj32; clear hj32
     refine qV ?_
     refine qs ?_
     replace G:=gd G; obtain ⟨b35,G⟩:=G
     replace G:=qO G; obtain ⟨t36,ht36,G⟩:=G
     refine Qq qd H (.v 23 (vI x28)<|.cons [24] (qL 112 (qy ql 5 p_a0_L c_a0_L a0.L qi) (.pointer (some ⟨XR p_a0_L,XV p_a0_L+x28.toNat*5,none⟩)) 24 λ_ w h=>JT 35 .i64 x28 p_a0_L a0.L.length c_a0_L a0.L qi (qj h).2 YQ rfl b35)<|.cons [25] (qL 112 (qy ql 5 p_a0_L c_a0_L a0.L qi) (.agg #[vI t36.Op,vI t36.A,vI t36.B,vI t36.C.Lo,vI t36.C.Hi]) 25 λ_ w h=>Y4 qi (qj h).2 YQ ht36 0 5 [vI t36.Op,vI t36.A,vI t36.B,vI t36.C.Lo,vI t36.C.Hi])<|.cons [9,123] (qn (λb=>vP b 0) (λu34=>[vI 0,vI 0,vI 0,vI 0,vI 0]) 110 9 123)<|.v 8 (vI x28)<|.cons [123] (QF (u':=λu34=>[(123,.blk (nn u34 3) [vI t36.Op,vI t36.A,vI t36.B,vI t36.C.Lo,vI t36.C.Hi] 110)]) (qK 123 0 (λu34=>(nn u34 3)) (λu34=>[vI 0,vI 0,vI 0,vI 0,vI 0]) (λu34=>[vI t36.Op,vI t36.A,vI t36.B,vI t36.C.Lo,vI t36.C.Hi]) 110) (λ_=>by kernel_rfl))<|.nil) [1,3,5,7,8,9,19,20,21,112,113,114,115,116,123,900004,999999] λu34 a w' H=>?_
     refine qs ?_
     replace G:=qO G; obtain ⟨z37,hz37,G⟩:=G
     replace hz37:=Option.some.inj hz37
     by_cases c155:z37=0
     ·rw [if_pos c155] at G; subst c155
      try rw [hz37] at H
      refine Qq qd H (.v 26 (vP (nn u34 3) 0)<|.cons [27] (qf (vI 0) 27 123 0 1 (nn u34 3) [vI 0,vI t36.A,vI t36.B,vI t36.C.Lo,vI t36.C.Hi] 110)<|.v 28 (vP 1 0)<|.cons [29] (QV (λu38=>.agg #[.nilFunc,.nilFunc]) 29 999999 gk 1 0 2 Vj (λw h=>(Qy h).tab1))<|.cons [10,124] (qn (λb=>vP b 0) (λu38=>[.nilFunc,.nilFunc]) 230 10 124)<|.cons [124] (QF (u':=λu38=>[(124,.blk (nn u38 4) [.nilFunc,.nilFunc] 230)]) (qK 124 0 (λu38=>(nn u38 4)) (λu38=>[.nilFunc,.nilFunc]) (λu38=>[.nilFunc,.nilFunc]) 230) (λ_=>by kernel_rfl))<|.nil) [1,3,5,7,8,9,10,19,20,21,112,113,114,115,116,123,124,900004,999999] λu38 a w' H=>?_
      refine qV ?_
      refine qg qd H (.v 47 (vP (nn u34 3) 0)<|.cons [48] (qf (vI 0) 48 123 0 1 (nn u34 3) [vI 0,vI t36.A,vI t36.B,vI t36.C.Lo,vI t36.C.Hi] 110)<|.v 49 (.bool false)<|.v 46 (.bool false)<|.nil) [1,3,5,7,8,9,10,19,20,21,46,112,113,114,115,116,123,124,900004,999999] λu39 a w' H=>?_
      refine Qh H (by kernel_rfl) (by kernel_rfl) ?_
      refine qg qd H (.v 56 (vP (nn u34 3) 0)<|.cons [57] (qf (vI 0) 57 123 0 1 (nn u34 3) [vI 0,vI t36.A,vI t36.B,vI t36.C.Lo,vI t36.C.Hi] 110)<|.v 58 (.bool false)<|.v 55 (.bool false)<|.nil) [1,3,5,7,8,9,10,19,20,21,55,112,113,114,115,116,123,124,900004,999999] λu40 a w' H=>?_
      refine Qh H (by kernel_rfl) (by kernel_rfl) ?_
      refine qg qd H (.v 68 (vP (nn u34 3) 0)<|.cons [69] (qf (vI 0) 69 123 0 1 (nn u34 3) [vI 0,vI t36.A,vI t36.B,vI t36.C.Lo,vI t36.C.Hi] 110)<|.v 70 (.bool false)<|.v 67 (.bool false)<|.nil) [1,3,5,7,8,9,10,19,20,21,67,112,113,114,115,116,123,124,900004,999999] λu41 a w' H=>?_
      refine Qh H (by kernel_rfl) (by kernel_rfl) ?_
      refine qg qd H (.v 76 (vP (nn u38 4) 0)<|.cons [77] (qf .nilFunc 77 124 0 1 (nn u38 4) [.nilFunc,.nilFunc] 230)<|.v 78 (.bool false)<|.v 75 (.bool false)<|.nil) [1,3,5,7,8,9,10,19,20,21,75,112,113,114,115,116,123,124,900004,999999] λu42 a w' H=>?_
      refine Qh H (by kernel_rfl) (by kernel_rfl) ?_
      cases G
     rw [if_neg c155] at G
     by_cases c156:z37=1
     ·rw [if_pos c156] at G; subst c156
      try rw [hz37] at H
      refine Qq qd H (.v 26 (vP (nn u34 3) 0)<|.cons [27] (qf (vI 1) 27 123 0 1 (nn u34 3) [vI 1,vI t36.A,vI t36.B,vI t36.C.Lo,vI t36.C.Hi] 110)<|.v 28 (vP 1 2)<|.cons [29] (QV (λu43=>.agg #[.nilFunc,.nilFunc]) 29 999999 gk 1 2 2 Vj (λw h=>(Qy h).tab1))<|.cons [10,125] (qn (λb=>vP b 0) (λu43=>[.nilFunc,.nilFunc]) 230 10 125)<|.cons [125] (QF (u':=λu43=>[(125,.blk (nn u43 4) [.nilFunc,.nilFunc] 230)]) (qK 125 0 (λu43=>(nn u43 4)) (λu43=>[.nilFunc,.nilFunc]) (λu43=>[.nilFunc,.nilFunc]) 230) (λ_=>by kernel_rfl))<|.nil) [1,3,5,7,8,9,10,19,20,21,112,113,114,115,116,123,125,900004,999999] λu43 a w' H=>?_
      refine qV ?_
      refine qg qd H (.v 47 (vP (nn u34 3) 0)<|.cons [48] (qf (vI 1) 48 123 0 1 (nn u34 3) [vI 1,vI t36.A,vI t36.B,vI t36.C.Lo,vI t36.C.Hi] 110)<|.v 49 (.bool true)<|.v 46 (.bool true)<|.nil) [1,3,5,7,8,9,10,19,20,21,46,112,113,114,115,116,123,125,900004,999999] λu44 a w' H=>?_
      refine ZE H (by kernel_rfl) (by kernel_rfl) ?_
      replace G:=gd G; obtain ⟨b46,G⟩:=G
      replace G:=qO G; obtain ⟨t47,ht47,G⟩:=G
      refine Qq qd H (.v 50 (.slice p_x27 x27.length c_x27)<|.v 51 (vI x28)<|.v 52 (vP (nn u34 3) 3)<|.cons [53] (qf (.agg #[vI t36.C.Lo,vI t36.C.Hi]) 53 123 3 2 (nn u34 3) [vI 1,vI t36.A,vI t36.B,vI t36.C.Lo,vI t36.C.Hi] 110)<|.cons [54] (qL 900004 (Ql 46 2 p_x27 c_x27 x27 qa) (.pointer (some ⟨XR p_x27,XV p_x27+x28.toNat*2,none⟩)) 54 λ_ w h=>JT 48 .i64 x28 p_x27 x27.length c_x27 x27 qa (qH (Qx h)).2 qe rfl b46)<|.cons [900004,900004] (Xt [] [] (λu45=>[]) 900004 (λu45=>Ql 46 2 p_x27 c_x27 x27 qa) none (λu45 g=>.nilFunc) (λu45 g=>XP 46 2 p_x27 x27.length c_x27 ((x27.set x28.toNat (⟨t36.C.Lo,t36.C.Hi⟩:qb)).flatMap qa)) (λu45 w hF hK=>ZG (XG (Qx hK) qe (y:=(⟨t36.C.Lo,t36.C.Hi⟩:qb)) (vs:=[vI t36.C.Lo,vI t36.C.Hi]) ht47 0 (by simp) (by simp) rfl (by kernel_rfl))))<|.nil) [1,3,5,7,19,20,21,112,113,114,115,116,900004,999999] λu45 a w' H=>?_
      obtain rfl:=sj G
      replace H:=H.move (K:=XP 46 2 p_x27 x27.length c_x27 ((x27.set x28.toNat (⟨t36.C.Lo,t36.C.Hi⟩:qb)).flatMap qa)) 900004 900005 (by kernel_rfl) (by intro _ _ h; cases h)
      exact ⟨p_x27,c_x27,x27.length,by simp,H.toM _⟩
     rw [if_neg c156] at G
     by_cases c157:z37=2
     ·rw [if_pos c157] at G; subst c157
      try rw [hz37] at H
      refine Qq qd H (.v 26 (vP (nn u34 3) 0)<|.cons [27] (qf (vI 2) 27 123 0 1 (nn u34 3) [vI 2,vI t36.A,vI t36.B,vI t36.C.Lo,vI t36.C.Hi] 110)<|.v 28 (vP 1 4)<|.cons [29] (QV (λu48=>.agg #[.nilFunc,.nilFunc]) 29 999999 gk 1 4 2 Vj (λw h=>(Qy h).tab1))<|.cons [10,127] (qn (λb=>vP b 0) (λu48=>[.nilFunc,.nilFunc]) 230 10 127)<|.cons [127] (QF (u':=λu48=>[(127,.blk (nn u48 4) [.nilFunc,.nilFunc] 230)]) (qK 127 0 (λu48=>(nn u48 4)) (λu48=>[.nilFunc,.nilFunc]) (λu48=>[.nilFunc,.nilFunc]) 230) (λ_=>by kernel_rfl))<|.nil) [1,3,5,7,8,9,10,19,20,21,112,113,114,115,116,123,127,900004,999999] λu48 a w' H=>?_
      refine qV ?_
      refine qg qd H (.v 47 (vP (nn u34 3) 0)<|.cons [48] (qf (vI 2) 48 123 0 1 (nn u34 3) [vI 2,vI t36.A,vI t36.B,vI t36.C.Lo,vI t36.C.Hi] 110)<|.v 49 (.bool false)<|.v 46 (.bool false)<|.nil) [1,3,5,7,8,9,10,19,20,21,46,112,113,114,115,116,123,127,900004,999999] λu49 a w' H=>?_
      refine Qh H (by kernel_rfl) (by kernel_rfl) ?_
      refine qg qd H (.v 56 (vP (nn u34 3) 0)<|.cons [57] (qf (vI 2) 57 123 0 1 (nn u34 3) [vI 2,vI t36.A,vI t36.B,vI t36.C.Lo,vI t36.C.Hi] 110)<|.v 58 (.bool true)<|.v 55 (.bool true)<|.nil) [1,3,5,7,8,9,10,19,20,21,55,112,113,114,115,116,123,127,900004,999999] λu50 a w' H=>?_
      refine ZE H (by kernel_rfl) (by kernel_rfl) ?_
      replace G:=gd G; obtain ⟨b52,G⟩:=G
      replace G:=qO G; obtain ⟨t53,ht53,G⟩:=G
      replace G:=gd G; obtain ⟨b54,G⟩:=G
      replace G:=qO G; obtain ⟨t55,ht55,G⟩:=G
      refine Qq qd H (.v 59 (.slice p_x27 x27.length c_x27)<|.v 60 (vI x28)<|.v 61 (.slice p_a1 a1.length c_a1)<|.v 62 (vP (nn u34 3) 1)<|.cons [63] (qf (vI t36.A) 63 123 1 1 (nn u34 3) [vI 2,vI t36.A,vI t36.B,vI t36.C.Lo,vI t36.C.Hi] 110)<|.cons [64] (qL 114 (qy ql 2 p_a1 c_a1 a1 qa) (.pointer (some ⟨XR p_a1,XV p_a1+t36.A.toNat*2,none⟩)) 64 λ_ w h=>JT 48 .i64 t36.A p_a1 a1.length c_a1 a1 qa (qj h).2 qe rfl b52)<|.cons [65] (qL 114 (qy ql 2 p_a1 c_a1 a1 qa) (.agg #[vI t53.Lo,vI t53.Hi]) 65 λ_ w h=>Y4 qa (qj h).2 qe ht53 0 2 [vI t53.Lo,vI t53.Hi])<|.cons [66] (qL 900004 (Ql 46 2 p_x27 c_x27 x27 qa) (.pointer (some ⟨XR p_x27,XV p_x27+x28.toNat*2,none⟩)) 66 λ_ w h=>JT 48 .i64 x28 p_x27 x27.length c_x27 x27 qa (qH (Qx h)).2 qe rfl b54)<|.cons [900004,900004] (Xt [] [] (λu51=>[]) 900004 (λu51=>Ql 46 2 p_x27 c_x27 x27 qa) none (λu51 g=>.nilFunc) (λu51 g=>XP 46 2 p_x27 x27.length c_x27 ((x27.set x28.toNat t53).flatMap qa)) (λu51 w hF hK=>ZG (XG (Qx hK) qe (y:=t53) (vs:=[vI t53.Lo,vI t53.Hi]) ht55 0 (by simp) (by simp) rfl (by kernel_rfl))))<|.nil) [1,3,5,7,19,20,21,112,113,114,115,116,900004,999999] λu51 a w' H=>?_
      obtain rfl:=sj G
      replace H:=H.move (K:=XP 46 2 p_x27 x27.length c_x27 ((x27.set x28.toNat t53).flatMap qa)) 900004 900005 (by kernel_rfl) (by intro _ _ h; cases h)
      exact ⟨p_x27,c_x27,x27.length,by simp,H.toM _⟩
     rw [if_neg c157] at G
     by_cases c158:z37=3
     ·rw [if_pos c158] at G; subst c158
      try rw [hz37] at H
      refine Qq qd H (.v 26 (vP (nn u34 3) 0)<|.cons [27] (qf (vI 3) 27 123 0 1 (nn u34 3) [vI 3,vI t36.A,vI t36.B,vI t36.C.Lo,vI t36.C.Hi] 110)<|.v 28 (vP 1 6)<|.cons [29] (QV (λu56=>.agg #[.nilFunc,.nilFunc]) 29 999999 gk 1 6 2 Vj (λw h=>(Qy h).tab1))<|.cons [10,129] (qn (λb=>vP b 0) (λu56=>[.nilFunc,.nilFunc]) 230 10 129)<|.cons [129] (QF (u':=λu56=>[(129,.blk (nn u56 4) [.nilFunc,.nilFunc] 230)]) (qK 129 0 (λu56=>(nn u56 4)) (λu56=>[.nilFunc,.nilFunc]) (λu56=>[.nilFunc,.nilFunc]) 230) (λ_=>by kernel_rfl))<|.nil) [1,3,5,7,8,9,10,19,20,21,112,113,114,115,116,123,129,900004,999999] λu56 a w' H=>?_
      refine qV ?_
      refine qg qd H (.v 47 (vP (nn u34 3) 0)<|.cons [48] (qf (vI 3) 48 123 0 1 (nn u34 3) [vI 3,vI t36.A,vI t36.B,vI t36.C.Lo,vI t36.C.Hi] 110)<|.v 49 (.bool false)<|.v 46 (.bool false)<|.nil) [1,3,5,7,8,9,10,19,20,21,46,112,113,114,115,116,123,129,900004,999999] λu57 a w' H=>?_
      refine Qh H (by kernel_rfl) (by kernel_rfl) ?_
      refine qg qd H (.v 56 (vP (nn u34 3) 0)<|.cons [57] (qf (vI 3) 57 123 0 1 (nn u34 3) [vI 3,vI t36.A,vI t36.B,vI t36.C.Lo,vI t36.C.Hi] 110)<|.v 58 (.bool false)<|.v 55 (.bool false)<|.nil) [1,3,5,7,8,9,10,19,20,21,55,112,113,114,115,116,123,129,900004,999999] λu58 a w' H=>?_
      refine Qh H (by kernel_rfl) (by kernel_rfl) ?_
      refine qg qd H (.v 68 (vP (nn u34 3) 0)<|.cons [69] (qf (vI 3) 69 123 0 1 (nn u34 3) [vI 3,vI t36.A,vI t36.B,vI t36.C.Lo,vI t36.C.Hi] 110)<|.v 70 (.bool true)<|.v 67 (.bool true)<|.nil) [1,3,5,7,8,9,10,19,20,21,67,112,113,114,115,116,123,129,900004,999999] λu59 a w' H=>?_
      refine ZE H (by kernel_rfl) (by kernel_rfl) ?_
      replace G:=gd G; obtain ⟨b61,G⟩:=G
      replace G:=qO G; obtain ⟨t62,ht62,G⟩:=G
      refine Qq qd H (.v 71 (.slice p_x27 x27.length c_x27)<|.v 72 (vI x28)<|.cons [73] (qf (.agg #[vI a2.Lo,vI a2.Hi]) 73 116 0 2 (nn u1 1) [vI a2.Lo,vI a2.Hi] 46)<|.cons [74] (qL 900004 (Ql 46 2 p_x27 c_x27 x27 qa) (.pointer (some ⟨XR p_x27,XV p_x27+x28.toNat*2,none⟩)) 74 λ_ w h=>JT 48 .i64 x28 p_x27 x27.length c_x27 x27 qa (qH (Qx h)).2 qe rfl b61)<|.cons [900004,900004] (Xt [] [] (λu60=>[]) 900004 (λu60=>Ql 46 2 p_x27 c_x27 x27 qa) none (λu60 g=>.nilFunc) (λu60 g=>XP 46 2 p_x27 x27.length c_x27 ((x27.set x28.toNat a2).flatMap qa)) (λu60 w hF hK=>ZG (XG (Qx hK) qe (y:=a2) (vs:=[vI a2.Lo,vI a2.Hi]) ht62 0 (by simp) (by simp) rfl (by kernel_rfl))))<|.nil) [1,3,5,7,19,20,21,112,113,114,115,116,900004,999999] λu60 a w' H=>?_
      obtain rfl:=sj G
      replace H:=H.move (K:=XP 46 2 p_x27 x27.length c_x27 ((x27.set x28.toNat a2).flatMap qa)) 900004 900005 (by kernel_rfl) (by intro _ _ h; cases h)
      exact ⟨p_x27,c_x27,x27.length,by simp,H.toM _⟩
     rw [if_neg c158] at G
     by_cases c159:z37=4
     ·rw [if_pos c159] at G; subst c159
      try rw [hz37] at H
      refine Qq qd H (.v 26 (vP (nn u34 3) 0)<|.cons [27] (qf (vI 4) 27 123 0 1 (nn u34 3) [vI 4,vI t36.A,vI t36.B,vI t36.C.Lo,vI t36.C.Hi] 110)<|.v 28 (vP 1 8)<|.cons [29] (QV (λu63=>.agg #[.func (.func 110) #[] #[],.nilFunc]) 29 999999 gk 1 8 2 Vj (λw h=>(Qy h).tab1))<|.cons [10,131] (qn (λb=>vP b 0) (λu63=>[.nilFunc,.nilFunc]) 230 10 131)<|.cons [131] (QF (u':=λu63=>[(131,.blk (nn u63 4) [.func (.func 110) #[] #[],.nilFunc] 230)]) (qK 131 0 (λu63=>(nn u63 4)) (λu63=>[.nilFunc,.nilFunc]) (λu63=>[.func (.func 110) #[] #[],.nilFunc]) 230) (λ_=>by kernel_rfl))<|.nil) [1,3,5,7,8,9,10,19,20,21,112,113,114,115,116,123,131,900004,999999] λu63 a w' H=>?_
      refine qV ?_
      refine qg qd H (.v 47 (vP (nn u34 3) 0)<|.cons [48] (qf (vI 4) 48 123 0 1 (nn u34 3) [vI 4,vI t36.A,vI t36.B,vI t36.C.Lo,vI t36.C.Hi] 110)<|.v 49 (.bool false)<|.v 46 (.bool false)<|.nil) [1,3,5,7,8,9,10,19,20,21,46,112,113,114,115,116,123,131,900004,999999] λu64 a w' H=>?_
      refine Qh H (by kernel_rfl) (by kernel_rfl) ?_
      refine qg qd H (.v 56 (vP (nn u34 3) 0)<|.cons [57] (qf (vI 4) 57 123 0 1 (nn u34 3) [vI 4,vI t36.A,vI t36.B,vI t36.C.Lo,vI t36.C.Hi] 110)<|.v 58 (.bool false)<|.v 55 (.bool false)<|.nil) [1,3,5,7,8,9,10,19,20,21,55,112,113,114,115,116,123,131,900004,999999] λu65 a w' H=>?_
      refine Qh H (by kernel_rfl) (by kernel_rfl) ?_
      refine qg qd H (.v 68 (vP (nn u34 3) 0)<|.cons [69] (qf (vI 4) 69 123 0 1 (nn u34 3) [vI 4,vI t36.A,vI t36.B,vI t36.C.Lo,vI t36.C.Hi] 110)<|.v 70 (.bool false)<|.v 67 (.bool false)<|.nil) [1,3,5,7,8,9,10,19,20,21,67,112,113,114,115,116,123,131,900004,999999] λu66 a w' H=>?_
      refine Qh H (by kernel_rfl) (by kernel_rfl) ?_
      refine qg qd H (.v 76 (vP (nn u63 4) 0)<|.cons [77] (qf (.func (.func 110) #[] #[]) 77 131 0 1 (nn u63 4) [.func (.func 110) #[] #[],.nilFunc] 230)<|.v 78 (.bool true)<|.v 75 (.bool true)<|.nil) [1,3,5,7,8,9,10,19,20,21,75,112,113,114,115,116,123,131,900004,999999] λu67 a w' H=>?_
      refine ZE H (by kernel_rfl) (by kernel_rfl) ?_
      replace G:=gd G; obtain ⟨b69,G⟩:=G
      replace G:=qO G; obtain ⟨t70,ht70,G⟩:=G
      have P71:=Xm (en:=qa) (l:=x27) (qH (Qx (H.at (K:=Ql 46 2 p_x27 c_x27 x27 qa) 900004 (by kernel_rfl)))).2 qe
      replace G:=qO G; obtain ⟨t72,ht72,G⟩:=G
      replace G:=gd G; obtain ⟨b73,G⟩:=G
      replace G:=qO G; obtain ⟨t74,ht74,G⟩:=G
      refine Qq qd H (.v 79 (.slice p_x27 x27.length c_x27)<|.v 80 (vI x28)<|.v 81 (vP (nn u63 4) 0)<|.cons [82] (qf (.func (.func 110) #[] #[]) 82 131 0 1 (nn u63 4) [.func (.func 110) #[] #[],.nilFunc] 230)<|.v 83 (.slice p_x27 x27.length c_x27)<|.v 84 (vP (nn u34 3) 1)<|.cons [85] (qf (vI t36.A) 85 123 1 1 (nn u34 3) [vI 4,vI t36.A,vI t36.B,vI t36.C.Lo,vI t36.C.Hi] 110)<|.cons [86] (qr (λu68=>.pointer (some ⟨XR p_x27,XV p_x27+t36.A.toNat*2,none⟩)) 86 (hv:=λ_ _=>Qe (t:=48) (k:=.i64) (i:=t36.A) (p:=p_x27) (n:=x27.length) (cap:=c_x27) (x:=x27) P71 rfl b69 (by kernel_rfl)))<|.cons [87] (qL 900004 (Ql 46 2 p_x27 c_x27 x27 qa) (.agg #[vI t70.Lo,vI t70.Hi]) 87 λ_ w h=>Y4 qa (qH (Qx h)).2 qe ht70 0 2 [vI t70.Lo,vI t70.Hi])<|.cons [88] (qm 110 _ _ 88 [] (λu68 w _=>XN.calls t70 t72 w ht72))<|.cons [89] (qr (λu68=>.pointer (some ⟨XR p_x27,XV p_x27+x28.toNat*2,none⟩)) 89 (hv:=λ_ _=>Qe (t:=48) (k:=.i64) (i:=x28) (p:=p_x27) (n:=x27.length) (cap:=c_x27) (x:=x27) P71 rfl b73 (by kernel_rfl)))<|.cons [900004,900004] (Xt [] [] (λu68=>[]) 900004 (λu68=>Ql 46 2 p_x27 c_x27 x27 qa) none (λu68 g=>.nilFunc) (λu68 g=>XP 46 2 p_x27 x27.length c_x27 ((x27.set x28.toNat t72).flatMap qa)) (λu68 w hF hK=>ZG (XG (Qx hK) qe (y:=t72) (vs:=[vI t72.Lo,vI t72.Hi]) ht74 0 (by simp) (by simp) rfl (by kernel_rfl))))<|.nil) [1,3,5,7,19,20,21,112,113,114,115,116,900004,999999] λu68 a w' H=>?_
      obtain rfl:=sj G
      replace H:=H.move (K:=XP 46 2 p_x27 x27.length c_x27 ((x27.set x28.toNat t72).flatMap qa)) 900004 900005 (by kernel_rfl) (by intro _ _ h; cases h)
      exact ⟨p_x27,c_x27,x27.length,by simp,H.toM _⟩
     rw [if_neg c159] at G
     by_cases c160:z37=5
     ·rw [if_pos c160] at G; subst c160
      try rw [hz37] at H
      refine Qq qd H (.v 26 (vP (nn u34 3) 0)<|.cons [27] (qf (vI 5) 27 123 0 1 (nn u34 3) [vI 5,vI t36.A,vI t36.B,vI t36.C.Lo,vI t36.C.Hi] 110)<|.v 28 (vP 1 10)<|.cons [29] (QV (λu75=>.agg #[.func (.func 91) #[] #[],.nilFunc]) 29 999999 gk 1 10 2 Vj (λw h=>(Qy h).tab1))<|.cons [10,133] (qn (λb=>vP b 0) (λu75=>[.nilFunc,.nilFunc]) 230 10 133)<|.cons [133] (QF (u':=λu75=>[(133,.blk (nn u75 4) [.func (.func 91) #[] #[],.nilFunc] 230)]) (qK 133 0 (λu75=>(nn u75 4)) (λu75=>[.nilFunc,.nilFunc]) (λu75=>[.func (.func 91) #[] #[],.nilFunc]) 230) (λ_=>by kernel_rfl))<|.nil) [1,3,5,7,8,9,10,19,20,21,112,113,114,115,116,123,133,900004,999999] λu75 a w' H=>?_
      refine qV ?_
      refine qg qd H (.v 47 (vP (nn u34 3) 0)<|.cons [48] (qf (vI 5) 48 123 0 1 (nn u34 3) [vI 5,vI t36.A,vI t36.B,vI t36.C.Lo,vI t36.C.Hi] 110)<|.v 49 (.bool false)<|.v 46 (.bool false)<|.nil) [1,3,5,7,8,9,10,19,20,21,46,112,113,114,115,116,123,133,900004,999999] λu76 a w' H=>?_
      refine Qh H (by kernel_rfl) (by kernel_rfl) ?_
      refine qg qd H (.v 56 (vP (nn u34 3) 0)<|.cons [57] (qf (vI 5) 57 123 0 1 (nn u34 3) [vI 5,vI t36.A,vI t36.B,vI t36.C.Lo,vI t36.C.Hi] 110)<|.v 58 (.bool false)<|.v 55 (.bool false)<|.nil) [1,3,5,7,8,9,10,19,20,21,55,112,113,114,115,116,123,133,900004,999999] λu77 a w' H=>?_
      refine Qh H (by kernel_rfl) (by kernel_rfl) ?_
      refine qg qd H (.v 68 (vP (nn u34 3) 0)<|.cons [69] (qf (vI 5) 69 123 0 1 (nn u34 3) [vI 5,vI t36.A,vI t36.B,vI t36.C.Lo,vI t36.C.Hi] 110)<|.v 70 (.bool false)<|.v 67 (.bool false)<|.nil) [1,3,5,7,8,9,10,19,20,21,67,112,113,114,115,116,123,133,900004,999999] λu78 a w' H=>?_
      refine Qh H (by kernel_rfl) (by kernel_rfl) ?_
      refine qg qd H (.v 76 (vP (nn u75 4) 0)<|.cons [77] (qf (.func (.func 91) #[] #[]) 77 133 0 1 (nn u75 4) [.func (.func 91) #[] #[],.nilFunc] 230)<|.v 78 (.bool true)<|.v 75 (.bool true)<|.nil) [1,3,5,7,8,9,10,19,20,21,75,112,113,114,115,116,123,133,900004,999999] λu79 a w' H=>?_
      refine ZE H (by kernel_rfl) (by kernel_rfl) ?_
      replace G:=gd G; obtain ⟨b81,G⟩:=G
      replace G:=qO G; obtain ⟨t82,ht82,G⟩:=G
      have P83:=Xm (en:=qa) (l:=x27) (qH (Qx (H.at (K:=Ql 46 2 p_x27 c_x27 x27 qa) 900004 (by kernel_rfl)))).2 qe
      replace G:=qO G; obtain ⟨t84,ht84,G⟩:=G
      replace G:=gd G; obtain ⟨b85,G⟩:=G
      replace G:=qO G; obtain ⟨t86,ht86,G⟩:=G
      refine Qq qd H (.v 79 (.slice p_x27 x27.length c_x27)<|.v 80 (vI x28)<|.v 81 (vP (nn u75 4) 0)<|.cons [82] (qf (.func (.func 91) #[] #[]) 82 133 0 1 (nn u75 4) [.func (.func 91) #[] #[],.nilFunc] 230)<|.v 83 (.slice p_x27 x27.length c_x27)<|.v 84 (vP (nn u34 3) 1)<|.cons [85] (qf (vI t36.A) 85 123 1 1 (nn u34 3) [vI 5,vI t36.A,vI t36.B,vI t36.C.Lo,vI t36.C.Hi] 110)<|.cons [86] (qr (λu80=>.pointer (some ⟨XR p_x27,XV p_x27+t36.A.toNat*2,none⟩)) 86 (hv:=λ_ _=>Qe (t:=48) (k:=.i64) (i:=t36.A) (p:=p_x27) (n:=x27.length) (cap:=c_x27) (x:=x27) P83 rfl b81 (by kernel_rfl)))<|.cons [87] (qL 900004 (Ql 46 2 p_x27 c_x27 x27 qa) (.agg #[vI t82.Lo,vI t82.Hi]) 87 λ_ w h=>Y4 qa (qH (Qx h)).2 qe ht82 0 2 [vI t82.Lo,vI t82.Hi])<|.cons [88] (qm 91 _ _ 88 [] (λu80 w _=>Xz.calls t82 t84 w ht84))<|.cons [89] (qr (λu80=>.pointer (some ⟨XR p_x27,XV p_x27+x28.toNat*2,none⟩)) 89 (hv:=λ_ _=>Qe (t:=48) (k:=.i64) (i:=x28) (p:=p_x27) (n:=x27.length) (cap:=c_x27) (x:=x27) P83 rfl b85 (by kernel_rfl)))<|.cons [900004,900004] (Xt [] [] (λu80=>[]) 900004 (λu80=>Ql 46 2 p_x27 c_x27 x27 qa) none (λu80 g=>.nilFunc) (λu80 g=>XP 46 2 p_x27 x27.length c_x27 ((x27.set x28.toNat t84).flatMap qa)) (λu80 w hF hK=>ZG (XG (Qx hK) qe (y:=t84) (vs:=[vI t84.Lo,vI t84.Hi]) ht86 0 (by simp) (by simp) rfl (by kernel_rfl))))<|.nil) [1,3,5,7,19,20,21,112,113,114,115,116,900004,999999] λu80 a w' H=>?_
      obtain rfl:=sj G
      replace H:=H.move (K:=XP 46 2 p_x27 x27.length c_x27 ((x27.set x28.toNat t84).flatMap qa)) 900004 900005 (by kernel_rfl) (by intro _ _ h; cases h)
      exact ⟨p_x27,c_x27,x27.length,by simp,H.toM _⟩
     rw [if_neg c160] at G
     by_cases c161:z37=6
     ·rw [if_pos c161] at G; subst c161
      try rw [hz37] at H
      refine Qq qd H (.v 26 (vP (nn u34 3) 0)<|.cons [27] (qf (vI 6) 27 123 0 1 (nn u34 3) [vI 6,vI t36.A,vI t36.B,vI t36.C.Lo,vI t36.C.Hi] 110)<|.v 28 (vP 1 12)<|.cons [29] (QV (λu87=>.agg #[.func (.func 182) #[] #[],.nilFunc]) 29 999999 gk 1 12 2 Vj (λw h=>(Qy h).tab1))<|.cons [10,135] (qn (λb=>vP b 0) (λu87=>[.nilFunc,.nilFunc]) 230 10 135)<|.cons [135] (QF (u':=λu87=>[(135,.blk (nn u87 4) [.func (.func 182) #[] #[],.nilFunc] 230)]) (qK 135 0 (λu87=>(nn u87 4)) (λu87=>[.nilFunc,.nilFunc]) (λu87=>[.func (.func 182) #[] #[],.nilFunc]) 230) (λ_=>by kernel_rfl))<|.nil) [1,3,5,7,8,9,10,19,20,21,112,113,114,115,116,123,135,900004,999999] λu87 a w' H=>?_
      refine qV ?_
      refine qg qd H (.v 47 (vP (nn u34 3) 0)<|.cons [48] (qf (vI 6) 48 123 0 1 (nn u34 3) [vI 6,vI t36.A,vI t36.B,vI t36.C.Lo,vI t36.C.Hi] 110)<|.v 49 (.bool false)<|.v 46 (.bool false)<|.nil) [1,3,5,7,8,9,10,19,20,21,46,112,113,114,115,116,123,135,900004,999999] λu88 a w' H=>?_
      refine Qh H (by kernel_rfl) (by kernel_rfl) ?_
      refine qg qd H (.v 56 (vP (nn u34 3) 0)<|.cons [57] (qf (vI 6) 57 123 0 1 (nn u34 3) [vI 6,vI t36.A,vI t36.B,vI t36.C.Lo,vI t36.C.Hi] 110)<|.v 58 (.bool false)<|.v 55 (.bool false)<|.nil) [1,3,5,7,8,9,10,19,20,21,55,112,113,114,115,116,123,135,900004,999999] λu89 a w' H=>?_
      refine Qh H (by kernel_rfl) (by kernel_rfl) ?_
      refine qg qd H (.v 68 (vP (nn u34 3) 0)<|.cons [69] (qf (vI 6) 69 123 0 1 (nn u34 3) [vI 6,vI t36.A,vI t36.B,vI t36.C.Lo,vI t36.C.Hi] 110)<|.v 70 (.bool false)<|.v 67 (.bool false)<|.nil) [1,3,5,7,8,9,10,19,20,21,67,112,113,114,115,116,123,135,900004,999999] λu90 a w' H=>?_
      refine Qh H (by kernel_rfl) (by kernel_rfl) ?_
      refine qg qd H (.v 76 (vP (nn u87 4) 0)<|.cons [77] (qf (.func (.func 182) #[] #[]) 77 135 0 1 (nn u87 4) [.func (.func 182) #[] #[],.nilFunc] 230)<|.v 78 (.bool true)<|.v 75 (.bool true)<|.nil) [1,3,5,7,8,9,10,19,20,21,75,112,113,114,115,116,123,135,900004,999999] λu91 a w' H=>?_
      refine ZE H (by kernel_rfl) (by kernel_rfl) ?_
      replace G:=gd G; obtain ⟨b93,G⟩:=G
      replace G:=qO G; obtain ⟨t94,ht94,G⟩:=G
      have P95:=Xm (en:=qa) (l:=x27) (qH (Qx (H.at (K:=Ql 46 2 p_x27 c_x27 x27 qa) 900004 (by kernel_rfl)))).2 qe
      replace G:=qO G; obtain ⟨t96,ht96,G⟩:=G
      replace G:=gd G; obtain ⟨b97,G⟩:=G
      replace G:=qO G; obtain ⟨t98,ht98,G⟩:=G
      refine Qq qd H (.v 79 (.slice p_x27 x27.length c_x27)<|.v 80 (vI x28)<|.v 81 (vP (nn u87 4) 0)<|.cons [82] (qf (.func (.func 182) #[] #[]) 82 135 0 1 (nn u87 4) [.func (.func 182) #[] #[],.nilFunc] 230)<|.v 83 (.slice p_x27 x27.length c_x27)<|.v 84 (vP (nn u34 3) 1)<|.cons [85] (qf (vI t36.A) 85 123 1 1 (nn u34 3) [vI 6,vI t36.A,vI t36.B,vI t36.C.Lo,vI t36.C.Hi] 110)<|.cons [86] (qr (λu92=>.pointer (some ⟨XR p_x27,XV p_x27+t36.A.toNat*2,none⟩)) 86 (hv:=λ_ _=>Qe (t:=48) (k:=.i64) (i:=t36.A) (p:=p_x27) (n:=x27.length) (cap:=c_x27) (x:=x27) P95 rfl b93 (by kernel_rfl)))<|.cons [87] (qL 900004 (Ql 46 2 p_x27 c_x27 x27 qa) (.agg #[vI t94.Lo,vI t94.Hi]) 87 λ_ w h=>Y4 qa (qH (Qx h)).2 qe ht94 0 2 [vI t94.Lo,vI t94.Hi])<|.cons [88] (qm 182 _ _ 88 [] (λu92 w _=>Jj.calls k0 t94 t96 w ht96))<|.cons [89] (qr (λu92=>.pointer (some ⟨XR p_x27,XV p_x27+x28.toNat*2,none⟩)) 89 (hv:=λ_ _=>Qe (t:=48) (k:=.i64) (i:=x28) (p:=p_x27) (n:=x27.length) (cap:=c_x27) (x:=x27) P95 rfl b97 (by kernel_rfl)))<|.cons [900004,900004] (Xt [] [] (λu92=>[]) 900004 (λu92=>Ql 46 2 p_x27 c_x27 x27 qa) none (λu92 g=>.nilFunc) (λu92 g=>XP 46 2 p_x27 x27.length c_x27 ((x27.set x28.toNat t96).flatMap qa)) (λu92 w hF hK=>ZG (XG (Qx hK) qe (y:=t96) (vs:=[vI t96.Lo,vI t96.Hi]) ht98 0 (by simp) (by simp) rfl (by kernel_rfl))))<|.nil) [1,3,5,7,19,20,21,112,113,114,115,116,900004,999999] λu92 a w' H=>?_
      obtain rfl:=sj G
      replace H:=H.move (K:=XP 46 2 p_x27 x27.length c_x27 ((x27.set x28.toNat t96).flatMap qa)) 900004 900005 (by kernel_rfl) (by intro _ _ h; cases h)
      exact ⟨p_x27,c_x27,x27.length,by simp,H.toM _⟩
     rw [if_neg c161] at G
     by_cases c162:z37=7
     ·rw [if_pos c162] at G; subst c162
      try rw [hz37] at H
      refine Qq qd H (.v 26 (vP (nn u34 3) 0)<|.cons [27] (qf (vI 7) 27 123 0 1 (nn u34 3) [vI 7,vI t36.A,vI t36.B,vI t36.C.Lo,vI t36.C.Hi] 110)<|.v 28 (vP 1 14)<|.cons [29] (QV (λu99=>.agg #[.nilFunc,.func (.func 90) #[] #[]]) 29 999999 gk 1 14 2 Vj (λw h=>(Qy h).tab1))<|.cons [10,137] (qn (λb=>vP b 0) (λu99=>[.nilFunc,.nilFunc]) 230 10 137)<|.cons [137] (QF (u':=λu99=>[(137,.blk (nn u99 4) [.nilFunc,.func (.func 90) #[] #[]] 230)]) (qK 137 0 (λu99=>(nn u99 4)) (λu99=>[.nilFunc,.nilFunc]) (λu99=>[.nilFunc,.func (.func 90) #[] #[]]) 230) (λ_=>by kernel_rfl))<|.nil) [1,3,5,7,8,9,10,19,20,21,112,113,114,115,116,123,137,900004,999999] λu99 a w' H=>?_
      refine qV ?_
      refine qg qd H (.v 47 (vP (nn u34 3) 0)<|.cons [48] (qf (vI 7) 48 123 0 1 (nn u34 3) [vI 7,vI t36.A,vI t36.B,vI t36.C.Lo,vI t36.C.Hi] 110)<|.v 49 (.bool false)<|.v 46 (.bool false)<|.nil) [1,3,5,7,8,9,10,19,20,21,46,112,113,114,115,116,123,137,900004,999999] λu100 a w' H=>?_
      refine Qh H (by kernel_rfl) (by kernel_rfl) ?_
      refine qg qd H (.v 56 (vP (nn u34 3) 0)<|.cons [57] (qf (vI 7) 57 123 0 1 (nn u34 3) [vI 7,vI t36.A,vI t36.B,vI t36.C.Lo,vI t36.C.Hi] 110)<|.v 58 (.bool false)<|.v 55 (.bool false)<|.nil) [1,3,5,7,8,9,10,19,20,21,55,112,113,114,115,116,123,137,900004,999999] λu101 a w' H=>?_
      refine Qh H (by kernel_rfl) (by kernel_rfl) ?_
      refine qg qd H (.v 68 (vP (nn u34 3) 0)<|.cons [69] (qf (vI 7) 69 123 0 1 (nn u34 3) [vI 7,vI t36.A,vI t36.B,vI t36.C.Lo,vI t36.C.Hi] 110)<|.v 70 (.bool false)<|.v 67 (.bool false)<|.nil) [1,3,5,7,8,9,10,19,20,21,67,112,113,114,115,116,123,137,900004,999999] λu102 a w' H=>?_
      refine Qh H (by kernel_rfl) (by kernel_rfl) ?_
      refine qg qd H (.v 76 (vP (nn u99 4) 0)<|.cons [77] (qf .nilFunc 77 137 0 1 (nn u99 4) [.nilFunc,.func (.func 90) #[] #[]] 230)<|.v 78 (.bool false)<|.v 75 (.bool false)<|.nil) [1,3,5,7,8,9,10,19,20,21,75,112,113,114,115,116,123,137,900004,999999] λu103 a w' H=>?_
      refine Qh H (by kernel_rfl) (by kernel_rfl) ?_
      replace G:=gd G; obtain ⟨b105,G⟩:=G
      replace G:=qO G; obtain ⟨t106,ht106,G⟩:=G
      have P107:=Xm (en:=qa) (l:=x27) (qH (Qx (H.at (K:=Ql 46 2 p_x27 c_x27 x27 qa) 900004 (by kernel_rfl)))).2 qe
      replace G:=gd G; obtain ⟨b108,G⟩:=G
      replace G:=qO G; obtain ⟨t109,ht109,G⟩:=G
      replace G:=qO G; obtain ⟨t110,ht110,G⟩:=G
      replace G:=gd G; obtain ⟨b111,G⟩:=G
      replace G:=qO G; obtain ⟨t112,ht112,G⟩:=G
      refine Qq qd H (.v 30 (.slice p_x27 x27.length c_x27)<|.v 31 (vI x28)<|.v 32 (vP (nn u99 4) 1)<|.cons [33] (qf (.func (.func 90) #[] #[]) 33 137 1 1 (nn u99 4) [.nilFunc,.func (.func 90) #[] #[]] 230)<|.v 34 (.slice p_x27 x27.length c_x27)<|.v 35 (vP (nn u34 3) 1)<|.cons [36] (qf (vI t36.A) 36 123 1 1 (nn u34 3) [vI 7,vI t36.A,vI t36.B,vI t36.C.Lo,vI t36.C.Hi] 110)<|.cons [37] (qr (λu104=>.pointer (some ⟨XR p_x27,XV p_x27+t36.A.toNat*2,none⟩)) 37 (hv:=λ_ _=>Qe (t:=48) (k:=.i64) (i:=t36.A) (p:=p_x27) (n:=x27.length) (cap:=c_x27) (x:=x27) P107 rfl b105 (by kernel_rfl)))<|.cons [38] (qL 900004 (Ql 46 2 p_x27 c_x27 x27 qa) (.agg #[vI t106.Lo,vI t106.Hi]) 38 λ_ w h=>Y4 qa (qH (Qx h)).2 qe ht106 0 2 [vI t106.Lo,vI t106.Hi])<|.v 39 (.slice p_x27 x27.length c_x27)<|.v 40 (vP (nn u34 3) 2)<|.cons [41] (qf (vI t36.B) 41 123 2 1 (nn u34 3) [vI 7,vI t36.A,vI t36.B,vI t36.C.Lo,vI t36.C.Hi] 110)<|.cons [42] (qr (λu104=>.pointer (some ⟨XR p_x27,XV p_x27+t36.B.toNat*2,none⟩)) 42 (hv:=λ_ _=>Qe (t:=48) (k:=.i64) (i:=t36.B) (p:=p_x27) (n:=x27.length) (cap:=c_x27) (x:=x27) P107 rfl b108 (by kernel_rfl)))<|.cons [43] (qL 900004 (Ql 46 2 p_x27 c_x27 x27 qa) (.agg #[vI t109.Lo,vI t109.Hi]) 43 λ_ w h=>Y4 qa (qH (Qx h)).2 qe ht109 0 2 [vI t109.Lo,vI t109.Hi])<|.cons [44] (qm 90 _ _ 44 [] (λu104 w _=>QM.calls t106 t109 t110 w ht110))<|.cons [45] (qr (λu104=>.pointer (some ⟨XR p_x27,XV p_x27+x28.toNat*2,none⟩)) 45 (hv:=λ_ _=>Qe (t:=48) (k:=.i64) (i:=x28) (p:=p_x27) (n:=x27.length) (cap:=c_x27) (x:=x27) P107 rfl b111 (by kernel_rfl)))<|.cons [900004,900004] (Xt [] [] (λu104=>[]) 900004 (λu104=>Ql 46 2 p_x27 c_x27 x27 qa) none (λu104 g=>.nilFunc) (λu104 g=>XP 46 2 p_x27 x27.length c_x27 ((x27.set x28.toNat t110).flatMap qa)) (λu104 w hF hK=>ZG (XG (Qx hK) qe (y:=t110) (vs:=[vI t110.Lo,vI t110.Hi]) ht112 0 (by simp) (by simp) rfl (by kernel_rfl))))<|.nil) [1,3,5,7,19,20,21,112,113,114,115,116,900004,999999] λu104 a w' H=>?_
      obtain rfl:=sj G
      replace H:=H.move (K:=XP 46 2 p_x27 x27.length c_x27 ((x27.set x28.toNat t110).flatMap qa)) 900004 900005 (by kernel_rfl) (by intro _ _ h; cases h)
      exact ⟨p_x27,c_x27,x27.length,by simp,H.toM _⟩
     rw [if_neg c162] at G
     by_cases c163:z37=8
     ·rw [if_pos c163] at G; subst c163
      try rw [hz37] at H
      refine Qq qd H (.v 26 (vP (nn u34 3) 0)<|.cons [27] (qf (vI 8) 27 123 0 1 (nn u34 3) [vI 8,vI t36.A,vI t36.B,vI t36.C.Lo,vI t36.C.Hi] 110)<|.v 28 (vP 1 16)<|.cons [29] (QV (λu113=>.agg #[.nilFunc,.func (.func 92) #[] #[]]) 29 999999 gk 1 16 2 Vj (λw h=>(Qy h).tab1))<|.cons [10,139] (qn (λb=>vP b 0) (λu113=>[.nilFunc,.nilFunc]) 230 10 139)<|.cons [139] (QF (u':=λu113=>[(139,.blk (nn u113 4) [.nilFunc,.func (.func 92) #[] #[]] 230)]) (qK 139 0 (λu113=>(nn u113 4)) (λu113=>[.nilFunc,.nilFunc]) (λu113=>[.nilFunc,.func (.func 92) #[] #[]]) 230) (λ_=>by kernel_rfl))<|.nil) [1,3,5,7,8,9,10,19,20,21,112,113,114,115,116,123,139,900004,999999] λu113 a w' H=>?_
      refine qV ?_
      refine qg qd H (.v 47 (vP (nn u34 3) 0)<|.cons [48] (qf (vI 8) 48 123 0 1 (nn u34 3) [vI 8,vI t36.A,vI t36.B,vI t36.C.Lo,vI t36.C.Hi] 110)<|.v 49 (.bool false)<|.v 46 (.bool false)<|.nil) [1,3,5,7,8,9,10,19,20,21,46,112,113,114,115,116,123,139,900004,999999] λu114 a w' H=>?_
      refine Qh H (by kernel_rfl) (by kernel_rfl) ?_
      refine qg qd H (.v 56 (vP (nn u34 3) 0)<|.cons [57] (qf (vI 8) 57 123 0 1 (nn u34 3) [vI 8,vI t36.A,vI t36.B,vI t36.C.Lo,vI t36.C.Hi] 110)<|.v 58 (.bool false)<|.v 55 (.bool false)<|.nil) [1,3,5,7,8,9,10,19,20,21,55,112,113,114,115,116,123,139,900004,999999] λu115 a w' H=>?_
      refine Qh H (by kernel_rfl) (by kernel_rfl) ?_
      refine qg qd H (.v 68 (vP (nn u34 3) 0)<|.cons [69] (qf (vI 8) 69 123 0 1 (nn u34 3) [vI 8,vI t36.A,vI t36.B,vI t36.C.Lo,vI t36.C.Hi] 110)<|.v 70 (.bool false)<|.v 67 (.bool false)<|.nil) [1,3,5,7,8,9,10,19,20,21,67,112,113,114,115,116,123,139,900004,999999] λu116 a w' H=>?_
      refine Qh H (by kernel_rfl) (by kernel_rfl) ?_
      refine qg qd H (.v 76 (vP (nn u113 4) 0)<|.cons [77] (qf .nilFunc 77 139 0 1 (nn u113 4) [.nilFunc,.func (.func 92) #[] #[]] 230)<|.v 78 (.bool false)<|.v 75 (.bool false)<|.nil) [1,3,5,7,8,9,10,19,20,21,75,112,113,114,115,116,123,139,900004,999999] λu117 a w' H=>?_
      refine Qh H (by kernel_rfl) (by kernel_rfl) ?_
      replace G:=gd G; obtain ⟨b119,G⟩:=G
      replace G:=qO G; obtain ⟨t120,ht120,G⟩:=G
      have P121:=Xm (en:=qa) (l:=x27) (qH (Qx (H.at (K:=Ql 46 2 p_x27 c_x27 x27 qa) 900004 (by kernel_rfl)))).2 qe
      replace G:=gd G; obtain ⟨b122,G⟩:=G
      replace G:=qO G; obtain ⟨t123,ht123,G⟩:=G
      replace G:=qO G; obtain ⟨t124,ht124,G⟩:=G
      replace G:=gd G; obtain ⟨b125,G⟩:=G
      replace G:=qO G; obtain ⟨t126,ht126,G⟩:=G
      refine Qq qd H (.v 30 (.slice p_x27 x27.length c_x27)<|.v 31 (vI x28)<|.v 32 (vP (nn u113 4) 1)<|.cons [33] (qf (.func (.func 92) #[] #[]) 33 139 1 1 (nn u113 4) [.nilFunc,.func (.func 92) #[] #[]] 230)<|.v 34 (.slice p_x27 x27.length c_x27)<|.v 35 (vP (nn u34 3) 1)<|.cons [36] (qf (vI t36.A) 36 123 1 1 (nn u34 3) [vI 8,vI t36.A,vI t36.B,vI t36.C.Lo,vI t36.C.Hi] 110)<|.cons [37] (qr (λu118=>.pointer (some ⟨XR p_x27,XV p_x27+t36.A.toNat*2,none⟩)) 37 (hv:=λ_ _=>Qe (t:=48) (k:=.i64) (i:=t36.A) (p:=p_x27) (n:=x27.length) (cap:=c_x27) (x:=x27) P121 rfl b119 (by kernel_rfl)))<|.cons [38] (qL 900004 (Ql 46 2 p_x27 c_x27 x27 qa) (.agg #[vI t120.Lo,vI t120.Hi]) 38 λ_ w h=>Y4 qa (qH (Qx h)).2 qe ht120 0 2 [vI t120.Lo,vI t120.Hi])<|.v 39 (.slice p_x27 x27.length c_x27)<|.v 40 (vP (nn u34 3) 2)<|.cons [41] (qf (vI t36.B) 41 123 2 1 (nn u34 3) [vI 8,vI t36.A,vI t36.B,vI t36.C.Lo,vI t36.C.Hi] 110)<|.cons [42] (qr (λu118=>.pointer (some ⟨XR p_x27,XV p_x27+t36.B.toNat*2,none⟩)) 42 (hv:=λ_ _=>Qe (t:=48) (k:=.i64) (i:=t36.B) (p:=p_x27) (n:=x27.length) (cap:=c_x27) (x:=x27) P121 rfl b122 (by kernel_rfl)))<|.cons [43] (qL 900004 (Ql 46 2 p_x27 c_x27 x27 qa) (.agg #[vI t123.Lo,vI t123.Hi]) 43 λ_ w h=>Y4 qa (qH (Qx h)).2 qe ht123 0 2 [vI t123.Lo,vI t123.Hi])<|.cons [44] (qm 92 _ _ 44 [] (λu118 w _=>Xh.calls t120 t123 t124 w ht124))<|.cons [45] (qr (λu118=>.pointer (some ⟨XR p_x27,XV p_x27+x28.toNat*2,none⟩)) 45 (hv:=λ_ _=>Qe (t:=48) (k:=.i64) (i:=x28) (p:=p_x27) (n:=x27.length) (cap:=c_x27) (x:=x27) P121 rfl b125 (by kernel_rfl)))<|.cons [900004,900004] (Xt [] [] (λu118=>[]) 900004 (λu118=>Ql 46 2 p_x27 c_x27 x27 qa) none (λu118 g=>.nilFunc) (λu118 g=>XP 46 2 p_x27 x27.length c_x27 ((x27.set x28.toNat t124).flatMap qa)) (λu118 w hF hK=>ZG (XG (Qx hK) qe (y:=t124) (vs:=[vI t124.Lo,vI t124.Hi]) ht126 0 (by simp) (by simp) rfl (by kernel_rfl))))<|.nil) [1,3,5,7,19,20,21,112,113,114,115,116,900004,999999] λu118 a w' H=>?_
      obtain rfl:=sj G
      replace H:=H.move (K:=XP 46 2 p_x27 x27.length c_x27 ((x27.set x28.toNat t124).flatMap qa)) 900004 900005 (by kernel_rfl) (by intro _ _ h; cases h)
      exact ⟨p_x27,c_x27,x27.length,by simp,H.toM _⟩
     rw [if_neg c163] at G
     by_cases c164:z37=9
     ·rw [if_pos c164] at G; subst c164
      try rw [hz37] at H
      refine Qq qd H (.v 26 (vP (nn u34 3) 0)<|.cons [27] (qf (vI 9) 27 123 0 1 (nn u34 3) [vI 9,vI t36.A,vI t36.B,vI t36.C.Lo,vI t36.C.Hi] 110)<|.v 28 (vP 1 18)<|.cons [29] (QV (λu127=>.agg #[.nilFunc,.func (.func 127) #[] #[]]) 29 999999 gk 1 18 2 Vj (λw h=>(Qy h).tab1))<|.cons [10,141] (qn (λb=>vP b 0) (λu127=>[.nilFunc,.nilFunc]) 230 10 141)<|.cons [141] (QF (u':=λu127=>[(141,.blk (nn u127 4) [.nilFunc,.func (.func 127) #[] #[]] 230)]) (qK 141 0 (λu127=>(nn u127 4)) (λu127=>[.nilFunc,.nilFunc]) (λu127=>[.nilFunc,.func (.func 127) #[] #[]]) 230) (λ_=>by kernel_rfl))<|.nil) [1,3,5,7,8,9,10,19,20,21,112,113,114,115,116,123,141,900004,999999] λu127 a w' H=>?_
      refine qV ?_
      refine qg qd H (.v 47 (vP (nn u34 3) 0)<|.cons [48] (qf (vI 9) 48 123 0 1 (nn u34 3) [vI 9,vI t36.A,vI t36.B,vI t36.C.Lo,vI t36.C.Hi] 110)<|.v 49 (.bool false)<|.v 46 (.bool false)<|.nil) [1,3,5,7,8,9,10,19,20,21,46,112,113,114,115,116,123,141,900004,999999] λu128 a w' H=>?_
      refine Qh H (by kernel_rfl) (by kernel_rfl) ?_
      refine qg qd H (.v 56 (vP (nn u34 3) 0)<|.cons [57] (qf (vI 9) 57 123 0 1 (nn u34 3) [vI 9,vI t36.A,vI t36.B,vI t36.C.Lo,vI t36.C.Hi] 110)<|.v 58 (.bool false)<|.v 55 (.bool false)<|.nil) [1,3,5,7,8,9,10,19,20,21,55,112,113,114,115,116,123,141,900004,999999] λu129 a w' H=>?_
      refine Qh H (by kernel_rfl) (by kernel_rfl) ?_
      refine qg qd H (.v 68 (vP (nn u34 3) 0)<|.cons [69] (qf (vI 9) 69 123 0 1 (nn u34 3) [vI 9,vI t36.A,vI t36.B,vI t36.C.Lo,vI t36.C.Hi] 110)<|.v 70 (.bool false)<|.v 67 (.bool false)<|.nil) [1,3,5,7,8,9,10,19,20,21,67,112,113,114,115,116,123,141,900004,999999] λu130 a w' H=>?_
      refine Qh H (by kernel_rfl) (by kernel_rfl) ?_
      refine qg qd H (.v 76 (vP (nn u127 4) 0)<|.cons [77] (qf .nilFunc 77 141 0 1 (nn u127 4) [.nilFunc,.func (.func 127) #[] #[]] 230)<|.v 78 (.bool false)<|.v 75 (.bool false)<|.nil) [1,3,5,7,8,9,10,19,20,21,75,112,113,114,115,116,123,141,900004,999999] λu131 a w' H=>?_
      refine Qh H (by kernel_rfl) (by kernel_rfl) ?_
      replace G:=gd G; obtain ⟨b133,G⟩:=G
      replace G:=qO G; obtain ⟨t134,ht134,G⟩:=G
      have P135:=Xm (en:=qa) (l:=x27) (qH (Qx (H.at (K:=Ql 46 2 p_x27 c_x27 x27 qa) 900004 (by kernel_rfl)))).2 qe
      replace G:=gd G; obtain ⟨b136,G⟩:=G
      replace G:=qO G; obtain ⟨t137,ht137,G⟩:=G
      replace G:=qO G; obtain ⟨t138,ht138,G⟩:=G
      replace G:=gd G; obtain ⟨b139,G⟩:=G
      replace G:=qO G; obtain ⟨t140,ht140,G⟩:=G
      refine Qq qd H (.v 30 (.slice p_x27 x27.length c_x27)<|.v 31 (vI x28)<|.v 32 (vP (nn u127 4) 1)<|.cons [33] (qf (.func (.func 127) #[] #[]) 33 141 1 1 (nn u127 4) [.nilFunc,.func (.func 127) #[] #[]] 230)<|.v 34 (.slice p_x27 x27.length c_x27)<|.v 35 (vP (nn u34 3) 1)<|.cons [36] (qf (vI t36.A) 36 123 1 1 (nn u34 3) [vI 9,vI t36.A,vI t36.B,vI t36.C.Lo,vI t36.C.Hi] 110)<|.cons [37] (qr (λu132=>.pointer (some ⟨XR p_x27,XV p_x27+t36.A.toNat*2,none⟩)) 37 (hv:=λ_ _=>Qe (t:=48) (k:=.i64) (i:=t36.A) (p:=p_x27) (n:=x27.length) (cap:=c_x27) (x:=x27) P135 rfl b133 (by kernel_rfl)))<|.cons [38] (qL 900004 (Ql 46 2 p_x27 c_x27 x27 qa) (.agg #[vI t134.Lo,vI t134.Hi]) 38 λ_ w h=>Y4 qa (qH (Qx h)).2 qe ht134 0 2 [vI t134.Lo,vI t134.Hi])<|.v 39 (.slice p_x27 x27.length c_x27)<|.v 40 (vP (nn u34 3) 2)<|.cons [41] (qf (vI t36.B) 41 123 2 1 (nn u34 3) [vI 9,vI t36.A,vI t36.B,vI t36.C.Lo,vI t36.C.Hi] 110)<|.cons [42] (qr (λu132=>.pointer (some ⟨XR p_x27,XV p_x27+t36.B.toNat*2,none⟩)) 42 (hv:=λ_ _=>Qe (t:=48) (k:=.i64) (i:=t36.B) (p:=p_x27) (n:=x27.length) (cap:=c_x27) (x:=x27) P135 rfl b136 (by kernel_rfl)))<|.cons [43] (qL 900004 (Ql 46 2 p_x27 c_x27 x27 qa) (.agg #[vI t137.Lo,vI t137.Hi]) 43 λ_ w h=>Y4 qa (qH (Qx h)).2 qe ht137 0 2 [vI t137.Lo,vI t137.Hi])<|.cons [44] (Q6 [999999] (λu132=>[gk]) 127 _ _ 44 (λu132 w hF=>Q5.calls t134 t137 t138 w (Qy hF.1) ht138))<|.cons [45] (qr (λu132=>.pointer (some ⟨XR p_x27,XV p_x27+x28.toNat*2,none⟩)) 45 (hv:=λ_ _=>Qe (t:=48) (k:=.i64) (i:=x28) (p:=p_x27) (n:=x27.length) (cap:=c_x27) (x:=x27) P135 rfl b139 (by kernel_rfl)))<|.cons [900004,900004] (Xt [] [] (λu132=>[]) 900004 (λu132=>Ql 46 2 p_x27 c_x27 x27 qa) none (λu132 g=>.nilFunc) (λu132 g=>XP 46 2 p_x27 x27.length c_x27 ((x27.set x28.toNat t138).flatMap qa)) (λu132 w hF hK=>ZG (XG (Qx hK) qe (y:=t138) (vs:=[vI t138.Lo,vI t138.Hi]) ht140 0 (by simp) (by simp) rfl (by kernel_rfl))))<|.nil) [1,3,5,7,19,20,21,112,113,114,115,116,900004,999999] λu132 a w' H=>?_
      obtain rfl:=sj G
      replace H:=H.move (K:=XP 46 2 p_x27 x27.length c_x27 ((x27.set x28.toNat t138).flatMap qa)) 900004 900005 (by kernel_rfl) (by intro _ _ h; cases h)
      exact ⟨p_x27,c_x27,x27.length,by simp,H.toM _⟩
     rw [if_neg c164] at G
     by_cases c165:z37=10
     ·rw [if_pos c165] at G; subst c165
      try rw [hz37] at H
      refine Qq qd H (.v 26 (vP (nn u34 3) 0)<|.cons [27] (qf (vI 10) 27 123 0 1 (nn u34 3) [vI 10,vI t36.A,vI t36.B,vI t36.C.Lo,vI t36.C.Hi] 110)<|.v 28 (vP 1 20)<|.cons [29] (QV (λu141=>.agg #[.nilFunc,.func (.func 137) #[] #[]]) 29 999999 gk 1 20 2 Vj (λw h=>(Qy h).tab1))<|.cons [10,143] (qn (λb=>vP b 0) (λu141=>[.nilFunc,.nilFunc]) 230 10 143)<|.cons [143] (QF (u':=λu141=>[(143,.blk (nn u141 4) [.nilFunc,.func (.func 137) #[] #[]] 230)]) (qK 143 0 (λu141=>(nn u141 4)) (λu141=>[.nilFunc,.nilFunc]) (λu141=>[.nilFunc,.func (.func 137) #[] #[]]) 230) (λ_=>by kernel_rfl))<|.nil) [1,3,5,7,8,9,10,19,20,21,112,113,114,115,116,123,143,900004,999999] λu141 a w' H=>?_
      refine qV ?_
      refine qg qd H (.v 47 (vP (nn u34 3) 0)<|.cons [48] (qf (vI 10) 48 123 0 1 (nn u34 3) [vI 10,vI t36.A,vI t36.B,vI t36.C.Lo,vI t36.C.Hi] 110)<|.v 49 (.bool false)<|.v 46 (.bool false)<|.nil) [1,3,5,7,8,9,10,19,20,21,46,112,113,114,115,116,123,143,900004,999999] λu142 a w' H=>?_
      refine Qh H (by kernel_rfl) (by kernel_rfl) ?_
      refine qg qd H (.v 56 (vP (nn u34 3) 0)<|.cons [57] (qf (vI 10) 57 123 0 1 (nn u34 3) [vI 10,vI t36.A,vI t36.B,vI t36.C.Lo,vI t36.C.Hi] 110)<|.v 58 (.bool false)<|.v 55 (.bool false)<|.nil) [1,3,5,7,8,9,10,19,20,21,55,112,113,114,115,116,123,143,900004,999999] λu143 a w' H=>?_
      refine Qh H (by kernel_rfl) (by kernel_rfl) ?_
      refine qg qd H (.v 68 (vP (nn u34 3) 0)<|.cons [69] (qf (vI 10) 69 123 0 1 (nn u34 3) [vI 10,vI t36.A,vI t36.B,vI t36.C.Lo,vI t36.C.Hi] 110)<|.v 70 (.bool false)<|.v 67 (.bool false)<|.nil) [1,3,5,7,8,9,10,19,20,21,67,112,113,114,115,116,123,143,900004,999999] λu144 a w' H=>?_
      refine Qh H (by kernel_rfl) (by kernel_rfl) ?_
      refine qg qd H (.v 76 (vP (nn u141 4) 0)<|.cons [77] (qf .nilFunc 77 143 0 1 (nn u141 4) [.nilFunc,.func (.func 137) #[] #[]] 230)<|.v 78 (.bool false)<|.v 75 (.bool false)<|.nil) [1,3,5,7,8,9,10,19,20,21,75,112,113,114,115,116,123,143,900004,999999] λu145 a w' H=>?_
      refine Qh H (by kernel_rfl) (by kernel_rfl) ?_
      replace G:=gd G; obtain ⟨b147,G⟩:=G
      replace G:=qO G; obtain ⟨t148,ht148,G⟩:=G
      have P149:=Xm (en:=qa) (l:=x27) (qH (Qx (H.at (K:=Ql 46 2 p_x27 c_x27 x27 qa) 900004 (by kernel_rfl)))).2 qe
      replace G:=gd G; obtain ⟨b150,G⟩:=G
      replace G:=qO G; obtain ⟨t151,ht151,G⟩:=G
      replace G:=qO G; obtain ⟨t152,ht152,G⟩:=G
      replace G:=gd G; obtain ⟨b153,G⟩:=G
      replace G:=qO G; obtain ⟨t154,ht154,G⟩:=G
      refine Qq qd H (.v 30 (.slice p_x27 x27.length c_x27)<|.v 31 (vI x28)<|.v 32 (vP (nn u141 4) 1)<|.cons [33] (qf (.func (.func 137) #[] #[]) 33 143 1 1 (nn u141 4) [.nilFunc,.func (.func 137) #[] #[]] 230)<|.v 34 (.slice p_x27 x27.length c_x27)<|.v 35 (vP (nn u34 3) 1)<|.cons [36] (qf (vI t36.A) 36 123 1 1 (nn u34 3) [vI 10,vI t36.A,vI t36.B,vI t36.C.Lo,vI t36.C.Hi] 110)<|.cons [37] (qr (λu146=>.pointer (some ⟨XR p_x27,XV p_x27+t36.A.toNat*2,none⟩)) 37 (hv:=λ_ _=>Qe (t:=48) (k:=.i64) (i:=t36.A) (p:=p_x27) (n:=x27.length) (cap:=c_x27) (x:=x27) P149 rfl b147 (by kernel_rfl)))<|.cons [38] (qL 900004 (Ql 46 2 p_x27 c_x27 x27 qa) (.agg #[vI t148.Lo,vI t148.Hi]) 38 λ_ w h=>Y4 qa (qH (Qx h)).2 qe ht148 0 2 [vI t148.Lo,vI t148.Hi])<|.v 39 (.slice p_x27 x27.length c_x27)<|.v 40 (vP (nn u34 3) 2)<|.cons [41] (qf (vI t36.B) 41 123 2 1 (nn u34 3) [vI 10,vI t36.A,vI t36.B,vI t36.C.Lo,vI t36.C.Hi] 110)<|.cons [42] (qr (λu146=>.pointer (some ⟨XR p_x27,XV p_x27+t36.B.toNat*2,none⟩)) 42 (hv:=λ_ _=>Qe (t:=48) (k:=.i64) (i:=t36.B) (p:=p_x27) (n:=x27.length) (cap:=c_x27) (x:=x27) P149 rfl b150 (by kernel_rfl)))<|.cons [43] (qL 900004 (Ql 46 2 p_x27 c_x27 x27 qa) (.agg #[vI t151.Lo,vI t151.Hi]) 43 λ_ w h=>Y4 qa (qH (Qx h)).2 qe ht151 0 2 [vI t151.Lo,vI t151.Hi])<|.cons [44] (Q6 [999999] (λu146=>[gk]) 137 _ _ 44 (λu146 w hF=>QW.calls t148 t151 t152 w (Qy hF.1) ht152))<|.cons [45] (qr (λu146=>.pointer (some ⟨XR p_x27,XV p_x27+x28.toNat*2,none⟩)) 45 (hv:=λ_ _=>Qe (t:=48) (k:=.i64) (i:=x28) (p:=p_x27) (n:=x27.length) (cap:=c_x27) (x:=x27) P149 rfl b153 (by kernel_rfl)))<|.cons [900004,900004] (Xt [] [] (λu146=>[]) 900004 (λu146=>Ql 46 2 p_x27 c_x27 x27 qa) none (λu146 g=>.nilFunc) (λu146 g=>XP 46 2 p_x27 x27.length c_x27 ((x27.set x28.toNat t152).flatMap qa)) (λu146 w hF hK=>ZG (XG (Qx hK) qe (y:=t152) (vs:=[vI t152.Lo,vI t152.Hi]) ht154 0 (by simp) (by simp) rfl (by kernel_rfl))))<|.nil) [1,3,5,7,19,20,21,112,113,114,115,116,900004,999999] λu146 a w' H=>?_
      obtain rfl:=sj G
      replace H:=H.move (K:=XP 46 2 p_x27 x27.length c_x27 ((x27.set x28.toNat t152).flatMap qa)) 900004 900005 (by kernel_rfl) (by intro _ _ h; cases h)
      exact ⟨p_x27,c_x27,x27.length,by simp,H.toM _⟩
     rw [if_neg c165] at G
     cases G
   ·rw [if_neg (nt c166)] at G
    refine Yx rfl ?_
    obtain rfl:=sj G
    replace H:=H.move (K:=Ql 46 2 p_x27 c_x27 x27 qa) 900004 900001 (by kernel_rfl) (by intro _ _ h; cases h)
    exact ⟨p_x27,c_x27,x27.length,rfl,H.toM _⟩
theorem XA.calls (a0:qb)(a1:qb)(q0:qb)(b_q0:Nat)(r:qb)(w:World)(hB:Xp [Xf b_q0 [vI q0.Lo,vI q0.Hi] 46,gk] w)(G:XA a0 a1 q0=some r) :
  Calls Tryz.prog 129 #[.agg #[vI a0.Lo,vI a0.Hi],.agg #[vI a1.Lo,vI a1.Hi],vP b_q0 0] w λe w'=>e = .returned (.agg #[vI r.Lo,vI r.Hi])∧Below w.heap.size w w':=by
 obtain ⟨fr,hfr⟩:∃ fr:Nat->Prop,∀ j,fr j:=⟨λ_=>True,λ_=>trivial⟩
 have hBf:∀ j,w.heap.size<=j->fr j:=λj _=>hfr j
 refine QA (args:=[.agg #[vI a0.Lo,vI a0.Hi],.agg #[vI a1.Lo,vI a1.Hi],vP b_q0 0]) 11 [(11,Xf b_q0 [vI q0.Lo,vI q0.Hi] 46),(999999,gk)] (by
  intro x hx
  simp only [List.mem_cons,List.not_mem_nil,or_false] at hx
  rcases hx with rfl | rfl
  ·exact QH (hB.1 w (agree.refl _ _)) _
  ·exact ⟨⟨_,_,rfl⟩,hB.2.1,Yc (Qy hB.2.1)⟩) Tryz.func129 rfl λa H=>?_
 unfold XA at G
 refine qg qd H (.cons [3,12] (qn (λb=>vP b 0) (λu1=>[vI a0.Lo,vI a0.Hi]) 46 3 12)<|.cons [4,13] (qn (λb=>vP b 0) (λu1=>[vI a1.Lo,vI a1.Hi]) 46 4 13)<|.cons [5,14] (qn (λb=>vP b 0) (λu1=>[vI 0,vI 0]) 46 5 14)<|.nil) [2,3,4,5,12,13,14,11,999999] λu1 a w' H=>?_
 obtain ⟨t3,ht3,G⟩:=qO G
 obtain ⟨t4,ht4,G⟩:=qO G
 refine qg qd H (.cons [6] (qf (.agg #[vI a0.Lo,vI a0.Hi]) 6 12 0 2 (nn u1 0) [vI a0.Lo,vI a0.Hi] 46)<|.cons [7] (QV (λu2=>.agg #[vI q0.Lo,vI q0.Hi]) 7 11 (Xf b_q0 [vI q0.Lo,vI q0.Hi] 46) b_q0 0 2 [vI q0.Lo,vI q0.Hi] (λw h=>Za h))<|.cons [8] (qf (.agg #[vI a1.Lo,vI a1.Hi]) 8 13 0 2 (nn u1 1) [vI a1.Lo,vI a1.Hi] 46)<|.cons [9] (Q6 [999999] (λu2=>[gk]) 127 _ _ 9 (λu2 w hF=>Q5.calls q0 a1 t3 w (Qy hF.1) ht3))<|.cons [10] (qm 90 _ _ 10 [] (λu2 w _=>QM.calls a0 t3 t4 w ht4))<|.cons [14] (qQ 14 0 (nn u1 2) [vI 0,vI 0] [vI t4.Lo,vI t4.Hi] 46 [vI t4.Lo,vI t4.Hi])<|.nil) [5,14,11,999999] λu2 a w' H=>?_
 refine qB ?_
 obtain rfl:=sj G
 exact qY H _ 14 (nn u1 2) [vI t4.Lo,vI t4.Hi] 46 0 2
theorem Qc.calls (k0:Nat)(a0:List qb)(a1:List qb)(a2_0:qb)(p_a0:Option Addr)(c_a0:Nat)(p_a1:Option Addr)(c_a1:Nat)(b_a2_0:Nat)(r:List qb)(w:World)(hB:Xp [qy ql 2 p_a0 c_a0 a0 qa,qy ql 2 p_a1 c_a1 a1 qa,Xf b_a2_0 [vI a2_0.Lo,vI a2_0.Hi] 46,gk] w)(G:Qc k0 a0 a1 a2_0=some r) :
  Calls Tryz.prog 112 #[.slice p_a0 a0.length c_a0,.slice p_a1 a1.length c_a1,.func (.func 129) #[] #[vP b_a2_0 0]] w λe w'=>∃ g:Gh,e = .returned (.slice (g.o 0) r.length (g.n 0))∧Zj (YR []) w w'∧Ye w.heap.size (YR []) (JS w.heap.size []) [λ_=>Ql 46 2 (g.o 0) (g.n 0) r qa] w':=by
 obtain ⟨fr,hfr,hBf⟩:=VT w []
 refine QA (args:=[.slice p_a0 a0.length c_a0,.slice p_a1 a1.length c_a1,.func (.func 129) #[] #[vP b_a2_0 0]]) 32 [(32,qy ql 2 p_a0 c_a0 a0 qa),(33,qy ql 2 p_a1 c_a1 a1 qa),(34,Xf b_a2_0 [vI a2_0.Lo,vI a2_0.Hi] 46),(999999,gk)] (by
  intro x hx
  simp only [List.mem_cons,List.not_mem_nil,or_false] at hx
  rcases hx with rfl | rfl | rfl | rfl
  ·exact qv (qj hB.1) (λ_ _=>trivial) (by decide) _
  ·exact qv (qj hB.2.1) (λ_ _=>trivial) (by decide) _
  ·exact QH (hB.2.2.1 w (agree.refl _ _)) _
  ·exact ⟨⟨_,_,rfl⟩,hB.2.2.2.1,Yc (Qy hB.2.2.2.1)⟩) Tryz.func112 rfl λa H=>?_
 unfold Qc at G
 refine qg qd H (.v 6 (.slice none 0 0)<|.nil) [0,1,2,32,33,34,999999] λu1 a w' H=>?_
 refine qs ?_
 replace G:=gd G; obtain ⟨b3,G⟩:=G
 refine Qq qd H (.v 9 (.slice p_a0 a0.length c_a0)<|.v 10 (vI (a0.length:Int))<|.cons [11,35] (Z8 [] (λu2=>[]) 46 2 (List.replicate (a0.length:Int).toNat (⟨0,0⟩:qb)).length ((List.replicate (a0.length:Int).toNat (⟨0,0⟩:qb)).flatMap qa) 11 35 (λ_=>.none) (λu2 w hF=>Yr (t:=48) (k:=.i64) (m:=(a0.length:Int)) (en:=qa) (z:=(⟨0,0⟩:qb)) qe JZ rfl b3 (by kernel_rfl)) (λ_=>.inl rfl))<|.cons [7] (qr (λu2=>.slice ((u2 2).o 0) ((List.replicate (a0.length:Int).toNat (⟨0,0⟩:qb)).length) (nn u2 2)) 7)<|.nil) [0,1,2,7,32,33,35,34,999999] λu2 a w' H=>?_
 refine qs ?_
 obtain ⟨j5,hj5,G⟩:=qO G
 refine Xu (λa w'=>∃ (p_j4:Option Addr) (c_j4 np_j4:Nat),np_j4=j5.length∧RL w 32 [(7,sS p_j4 np_j4 c_j4),(900006,XP 46 2 p_j4 np_j4 c_j4 (j5.flatMap qa)),(34,Xf b_a2_0 [vI a2_0.Lo,vI a2_0.Hi] 46),(999999,gk)] a w') ?_ ?_
 ·clear H; rintro a w' ⟨p_j4,c_j4,_,rfl,H⟩
  refine qg qd H (.v 31 (.slice p_j4 j5.length c_j4)<|.v 6 (.slice p_j4 j5.length c_j4)<|.nil) [6,900006,34,999999] λu6 a w' H=>?_
  refine qB ?_
  obtain rfl:=sj G
  obtain ⟨g,o0,n0⟩:=ZS p_j4 c_j4
  refine Qz H _ g _ _ _ fr [900006] [] (.slice p_j4 j5.length c_j4) [λ_=>Ql 46 2 p_j4 c_j4 j5 qa] (by simp only [Ql,o0,n0]) (by simp only [Ql,o0,n0]) hfr (.inl ⟨rfl,rfl⟩) (qk Qf qx) (by simp)
 ·clear G; replace G:=hj5; clear hj5
  refine qg qd H (.v 12 (.slice p_a0 a0.length c_a0)<|.v 13 (vI (a0.length:Int))<|.v 14 (vI 0)<|.nil) [0,1,2,7,13,14,32,33,35,34,999999] λu7 a w' H=>?_
  refine qV ?_
  replace H:=H.move (K:=Ql 46 2 ((u2 2).o 0) (nn u2 2) (List.replicate (a0.length:Int).toNat (⟨0,0⟩:qb)) qa) 35 900007 (by kernel_rfl) (by intro _ _ h; cases h)
  refine XY (λm a w'=>∃ x8:List qb,∃ x9:Int,Qc.l10 k0 a0 a1 a2_0 m x8 x9=some j5 ∧ ∃ (p_x8:Option Addr) (c_x8 np_x8:Nat),np_x8=x8.length∧RL w 32 [(0,sS p_a0 a0.length c_a0),(1,sS p_a1 a1.length c_a1),(2,.slot true (.func (.func 129) #[] #[vP b_a2_0 0])),(7,sS p_x8 np_x8 c_x8),(13,(sI (a0.length:Int))),(14,sI x9),(32,qy ql 2 p_a0 c_a0 a0 qa),(33,qy ql 2 p_a1 c_a1 a1 qa),(900007,XP 46 2 p_x8 np_x8 c_x8 (x8.flatMap qa)),(34,Xf b_a2_0 [vI a2_0.Lo,vI a2_0.Hi] 46),(999999,gk)] a w') k0 ⟨_,_,G,((u2 2).o 0),(nn u2 2),(List.replicate (a0.length:Int).toNat (⟨0,0⟩:qb)).length,rfl,H.toM _⟩ ?_
  clear G H
  rintro (_ | k) a w' ⟨x8,x9,G,p_x8,c_x8,_,rfl,H⟩
  ·exact absurd G (by unfold Qc.l10; exact λh=>by cases h)
  ·unfold Qc.l10 at G
   refine qg qd H (.v 15 (.bool (decide (x9<(a0.length:Int))))<|.nil) [0,1,2,7,13,14,15,32,33,900007,34,999999] λu11 a w' H=>?_
   refine qs ?_
   refine Qu H (decide (x9<(a0.length:Int))) (λc25=>?_) λc25=>?_
   ·rw [if_pos c25] at G
    refine q8 ?_
    refine qs ?_
    refine qV ?_
    refine qg qd H (.v 16 (vI x9)<|.v 8 (vI x9)<|.nil) [0,1,2,7,8,13,14,32,33,900007,34,999999] λu12 a w' H=>?_
    replace G:=gd G; obtain ⟨b14,G⟩:=G
    obtain ⟨t15,ht15,G⟩:=qO G
    have P16:=Xm (en:=qa) (l:=a0) (qj (H.at (K:=qy ql 2 p_a0 c_a0 a0 qa) 32 (by kernel_rfl))).2 qe
    replace G:=gd G; obtain ⟨b17,G⟩:=G
    obtain ⟨t18,ht18,G⟩:=qO G
    have P19:=Xm (en:=qa) (l:=a1) (qj (H.at (K:=qy ql 2 p_a1 c_a1 a1 qa) 33 (by kernel_rfl))).2 qe
    obtain ⟨t20,ht20,G⟩:=qO G
    replace G:=gd G; obtain ⟨b21,G⟩:=G
    obtain ⟨t22,ht22,G⟩:=qO G
    have P23:=Xm (en:=qa) (l:=x8) (qH (Qx (H.at (K:=Ql 46 2 p_x8 c_x8 x8 qa) 900007 (by kernel_rfl)))).2 qe
    refine Qq qd H (.v 17 (.slice p_x8 x8.length c_x8)<|.v 18 (vI x9)<|.v 19 (.func (.func 129) #[] #[vP b_a2_0 0])<|.v 20 (.slice p_a0 a0.length c_a0)<|.v 21 (vI x9)<|.cons [22] (qr (λu13=>.pointer (some ⟨XR p_a0,XV p_a0+x9.toNat*2,none⟩)) 22 (hv:=λ_ _=>Qe (t:=48) (k:=.i64) (i:=x9) (p:=p_a0) (n:=a0.length) (cap:=c_a0) (x:=a0) P16 rfl b14 (by kernel_rfl)))<|.cons [23] (qL 32 (qy ql 2 p_a0 c_a0 a0 qa) (.agg #[vI t15.Lo,vI t15.Hi]) 23 λ_ w h=>Y4 qa (qj h).2 qe ht15 0 2 [vI t15.Lo,vI t15.Hi])<|.v 24 (.slice p_a1 a1.length c_a1)<|.v 25 (vI x9)<|.cons [26] (qr (λu13=>.pointer (some ⟨XR p_a1,XV p_a1+x9.toNat*2,none⟩)) 26 (hv:=λ_ _=>Qe (t:=48) (k:=.i64) (i:=x9) (p:=p_a1) (n:=a1.length) (cap:=c_a1) (x:=a1) P19 rfl b17 (by kernel_rfl)))<|.cons [27] (qL 33 (qy ql 2 p_a1 c_a1 a1 qa) (.agg #[vI t18.Lo,vI t18.Hi]) 27 λ_ w h=>Y4 qa (qj h).2 qe ht18 0 2 [vI t18.Lo,vI t18.Hi])<|.cons [28] (Q6 [34,999999] (λu13=>[Xf b_a2_0 [vI a2_0.Lo,vI a2_0.Hi] 46,gk]) 129 _ _ 28 (λu13 w hF=>XA.calls t15 t18 a2_0 b_a2_0 t20 w ⟨(QH (hF.1 w (agree.refl _ _)) 0).2.1,hF.2.1,trivial⟩ ht20))<|.cons [29] (qr (λu13=>.pointer (some ⟨XR p_x8,XV p_x8+x9.toNat*2,none⟩)) 29 (hv:=λ_ _=>Qe (t:=48) (k:=.i64) (i:=x9) (p:=p_x8) (n:=x8.length) (cap:=c_x8) (x:=x8) P23 rfl b21 (by kernel_rfl)))<|.cons [900007,900007] (Xt [] [] (λu13=>[]) 900007 (λu13=>Ql 46 2 p_x8 c_x8 x8 qa) none (λu13 g=>.nilFunc) (λu13 g=>XP 46 2 p_x8 x8.length c_x8 ((x8.set x9.toNat t20).flatMap qa)) (λu13 w hF hK=>ZG (XG (Qx hK) qe (y:=t20) (vs:=[vI t20.Lo,vI t20.Hi]) ht22 0 (by simp) (by simp) rfl (by kernel_rfl))))<|.nil) [0,1,2,7,13,14,32,33,900007,34,999999] λu13 a w' H=>?_
    refine Qq qd H (.v 30 (vI (qc (x9+1)))<|.v 14 (vI (qc (x9+1)))<|.nil) [0,1,2,7,13,14,32,33,900007,34,999999] λu24 a w' H=>?_
    exact ⟨k,Nat.lt_succ_self k,_,_,G,p_x8,c_x8,x8.length,by simp,H.toM _⟩
   ·rw [if_neg (nt c25)] at G
    refine Yx rfl ?_
    obtain rfl:=sj G
    replace H:=H.move (K:=Ql 46 2 p_x8 c_x8 x8 qa) 900007 900006 (by kernel_rfl) (by intro _ _ h; cases h)
    exact ⟨p_x8,c_x8,x8.length,rfl,H.toM _⟩
theorem YT.calls (k0:Nat)(a0:QE)(a1:List qb)(a2:List qb)(a3:Q0)(p_a0_L:Option Addr)(c_a0_L:Nat)(p_a0_Out:Option Addr)(c_a0_Out:Nat)(p_a1:Option Addr)(c_a1:Nat)(p_a2:Option Addr)(c_a2:Nat)(r:List qb)(w:World)(hB:Xp [qy ql 5 p_a0_L c_a0_L a0.L qi,qy ql 1 p_a0_Out c_a0_Out a0.Out q6,qy ql 2 p_a1 c_a1 a1 qa,qy ql 2 p_a2 c_a2 a2 qa,gk] w)(G:YT k0 a0 a1 a2 a3=some r) :
  Calls Tryz.prog 113 #[.agg #[vI a0.N,.slice p_a0_L a0.L.length c_a0_L,.slice p_a0_Out a0.Out.length c_a0_Out],.slice p_a1 a1.length c_a1,.slice p_a2 a2.length c_a2,.agg #[vI a3.T,vI a3.H]] w λe w'=>∃ g:Gh,e = .returned (.slice (g.o 0) r.length (g.n 0))∧Zj (YR []) w w'∧Ye w.heap.size (YR []) (JS w.heap.size []) [λ_=>Ql 46 2 (g.o 0) (g.n 0) r qa] w':=by
 obtain ⟨fr,hfr,hBf⟩:=VT w []
 refine QA (args:=[.agg #[vI a0.N,.slice p_a0_L a0.L.length c_a0_L,.slice p_a0_Out a0.Out.length c_a0_Out],.slice p_a1 a1.length c_a1,.slice p_a2 a2.length c_a2,.agg #[vI a3.T,vI a3.H]]) 29 [(29,qy ql 5 p_a0_L c_a0_L a0.L qi),(30,qy ql 1 p_a0_Out c_a0_Out a0.Out q6),(31,qy ql 2 p_a1 c_a1 a1 qa),(32,qy ql 2 p_a2 c_a2 a2 qa),(999999,gk)] (by
  intro x hx
  simp only [List.mem_cons,List.not_mem_nil,or_false] at hx
  rcases hx with rfl | rfl | rfl | rfl | rfl
  ·exact qv (qj hB.1) (λ_ _=>trivial) (by decide) _
  ·exact qv (qj hB.2.1) (λ_ _=>trivial) (by decide) _
  ·exact qv (qj hB.2.2.1) (λ_ _=>trivial) (by decide) _
  ·exact qv (qj hB.2.2.2.1) (λ_ _=>trivial) (by decide) _
  ·exact ⟨⟨_,_,rfl⟩,hB.2.2.2.2.1,Yc (Qy hB.2.2.2.2.1)⟩) Tryz.func113 rfl λa H=>?_
 unfold YT at G
 refine qg qd H (.cons [4,33] (qn (λb=>vP b 0) (λu1=>[vI a0.N,.slice p_a0_L a0.L.length c_a0_L,.slice p_a0_Out a0.Out.length c_a0_Out]) 38 4 33)<|.cons [7,34] (qn (λb=>vP b 0) (λu1=>[vI a3.T,vI a3.H]) 53 7 34)<|.v 8 (.slice none 0 0)<|.nil) [1,2,4,7,29,30,31,32,33,34,999999] λu1 a w' H=>?_
 obtain ⟨t3,ht3,G⟩:=qO G
 refine qg qd H (.v 11 (vP (nn u1 1) 1)<|.cons [12] (qf (vI a3.H) 12 34 1 1 (nn u1 1) [vI a3.T,vI a3.H] 53)<|.cons [13] (qm 68 _ _ 13 [] (λu2 w _=>qD.calls 0 a3.H t3 w ht3))<|.cons [9,35] (qn (λb=>vP b 0) (λu2=>[vI 0,vI 0]) 46 9 35)<|.cons [35] (QF (u':=λu2=>[(35,.blk (nn u2 3) [vI t3.Lo,vI t3.Hi] 46)]) (qK 35 0 (λu2=>(nn u2 3)) (λu2=>[vI 0,vI 0]) (λu2=>[vI t3.Lo,vI t3.Hi]) 46) (λ_=>by kernel_rfl))<|.nil) [1,2,4,7,9,29,30,31,32,33,34,35,999999] λu2 a w' H=>?_
 refine qs ?_
 obtain ⟨t5,ht5,G⟩:=qO G
 obtain ⟨t6,ht6,G⟩:=qO G
 refine Jw qd H (.cons [14] (qf (.agg #[vI a0.N,.slice p_a0_L a0.L.length c_a0_L,.slice p_a0_Out a0.Out.length c_a0_Out]) 14 33 0 3 (nn u1 0) [vI a0.N,.slice p_a0_L a0.L.length c_a0_L,.slice p_a0_Out a0.Out.length c_a0_Out] 38)<|.v 15 (.slice p_a2 a2.length c_a2)<|.v 16 (vP (nn u1 1) 0)<|.cons [17] (qf (vI a3.T) 17 34 0 1 (nn u1 1) [vI a3.T,vI a3.H] 53)<|.v 18 (vP (nn u1 1) 0)<|.cons [19] (qf (vI a3.T) 19 34 0 1 (nn u1 1) [vI a3.T,vI a3.H] 53)<|.v 20 (vP (nn u1 1) 1)<|.cons [21] (qf (vI a3.H) 21 34 1 1 (nn u1 1) [vI a3.T,vI a3.H] 53)<|.v 22 (vI (qc (a3.T+a3.H)))<|.cons [23] (qm 68 _ _ 23 [] (λu4 w _=>qD.calls a3.T (qc (a3.T+a3.H)) t5 w ht5))<|.cons [24,36] (Qp false fr [] [29,30,32,999999] (λu4=>[qy ql 5 p_a0_L c_a0_L a0.L qi,qy ql 1 p_a0_Out c_a0_Out a0.Out q6,qy ql 2 p_a2 c_a2 a2 qa,gk]) [] (λu4=>[]) 128 _ _ _ _ _ [36] 24 (λu4 w hB hF hM=>Xb.calls k0 (⟨a0.N,a0.L,a0.Out⟩:QE) a2 t5 p_a0_L c_a0_L p_a0_Out c_a0_Out p_a2 c_a2 t6 w hB ht6) (λu4 w hF=>⟨⟨qP (qj hF.1) (λj h=>⟨_,(.head _),h⟩),qP (qj hF.2.1) (λj h=>⟨_,(.tail _ (.head _)),h⟩),qP (qj hF.2.2.1) (λj h=>⟨_,(.tail _ (.tail _ (.head _))),h⟩),Je hF.2.2.2.1 (.tail _ (.tail _ (.tail _ (.head _)))),trivial⟩,trivial⟩) (λu4 g=>(qk Qf qx)) (.inr (λu4 g=>(Qg trivial (λK h=>by cases h)))) (λh=>by cases h))<|.cons [10] (qr (λu4=>.slice ((u4 10).o 0) t6.length (nn u4 10)) 10)<|.nil) (by kernel_rfl) λu4 a w' H=>?_
 replace H:=H.kp [1,9,10,31,35,36,999999]
 obtain ⟨t8,ht8,G⟩:=qO G
 refine qg qd H (.v 25 (.slice p_a1 a1.length c_a1)<|.v 26 (.slice ((u4 10).o 0) t6.length (nn u4 10))<|.v 27 (.func (.func 129) #[] #[vP (nn u2 3) 0])<|.cons [28,37] (Qp false fr [] [31,36,35,999999] (λu7=>[qy ql 2 p_a1 c_a1 a1 qa,Ql 46 2 ((u4 10).o 0) (nn u4 10) t6 qa,.blk (nn u2 3) [vI t3.Lo,vI t3.Hi] 46,gk]) [] (λu7=>[]) 112 _ _ _ _ _ [37] 28 (λu7 w hB hF hM=>Qc.calls k0 a1 t6 t3 p_a1 c_a1 ((u4 10).o 0) (nn u4 10) (nn u2 3) t8 w hB ht8) (λu7 w hF=>⟨⟨qP (qj hF.1) (λj h=>⟨_,(.head _),h⟩),qP (qH (Qx hF.2.1)) (λj h=>⟨_,(.tail _ (.head _)),(YC h)⟩),Zf hF.2.2.1 (.tail _ (.tail _ (.head _))) rfl,Je hF.2.2.2.1 (.tail _ (.tail _ (.tail _ (.head _)))),trivial⟩,trivial⟩) (λu7 g=>(qk Qf qx)) (.inr (λu7 g=>(Qg trivial (λK h=>by cases h)))) (λh=>by cases h))<|.cons [8] (qr (λu7=>.slice ((u7 3).o 0) t8.length (nn u7 3)) 8)<|.nil) [8,37,999999] λu7 a w' H=>?_
 refine qB ?_
 obtain rfl:=sj G
 obtain ⟨g,o0,n0⟩:=ZS ((u7 3).o 0) (nn u7 3)
 refine Qz H _ g _ _ _ fr [37] [] (.slice ((u7 3).o 0) t8.length (nn u7 3)) [λ_=>Ql 46 2 ((u7 3).o 0) (nn u7 3) t8 qa] (by simp only [Ql,o0,n0]) (by simp only [Ql,o0,n0]) hfr (.inl ⟨rfl,rfl⟩) (qk Qf qx) (by simp)
theorem ZR.calls (a0:qb)(a1:qb)(r:qb)(w:World)(G:ZR a0 a1=some r) :
  Calls Tryz.prog 114 #[.agg #[vI a0.Lo,vI a0.Hi],.agg #[vI a1.Lo,vI a1.Hi]] w λe w'=>e = .returned (.agg #[vI r.Lo,vI r.Hi])∧Below w.heap.size w w':=by
 refine Qs (args:=[.agg #[vI a0.Lo,vI a0.Hi],.agg #[vI a1.Lo,vI a1.Hi]]) 16 Tryz.func114 rfl λa H=>?_
 unfold ZR at G
 refine qg qd H (.cons [2,16] (qn (λb=>vP b 0) (λu1=>[vI a0.Lo,vI a0.Hi]) 46 2 16)<|.cons [3,17] (qn (λb=>vP b 0) (λu1=>[vI a1.Lo,vI a1.Hi]) 46 3 17)<|.cons [4,18] (qn (λb=>vP b 0) (λu1=>[vI 0,vI 0]) 46 4 18)<|.nil) [2,3,4,16,17,18] λu1 a w' H=>?_
 refine qg qd H (.v 5 (vP (nn u1 0) 0)<|.cons [6] (qf (vI a0.Lo) 6 16 0 1 (nn u1 0) [vI a0.Lo,vI a0.Hi] 46)<|.v 7 (vP (nn u1 1) 0)<|.cons [8] (qf (vI a1.Lo) 8 17 0 1 (nn u1 1) [vI a1.Lo,vI a1.Hi] 46)<|.v 9 (vI (mn a0.Lo a1.Lo))<|.v 10 (vP (nn u1 0) 1)<|.cons [11] (qf (vI a0.Hi) 11 16 1 1 (nn u1 0) [vI a0.Lo,vI a0.Hi] 46)<|.v 12 (vP (nn u1 1) 1)<|.cons [13] (qf (vI a1.Hi) 13 17 1 1 (nn u1 1) [vI a1.Lo,vI a1.Hi] 46)<|.v 14 (vI (mx a0.Hi a1.Hi))<|.v 15 (.agg #[vI (mn a0.Lo a1.Lo),vI (mx a0.Hi a1.Hi)])<|.cons [18] (qQ 18 0 (nn u1 2) [vI 0,vI 0] [vI (mn a0.Lo a1.Lo),vI (mx a0.Hi a1.Hi)] 46 [vI (mn a0.Lo a1.Lo),vI (mx a0.Hi a1.Hi)])<|.nil) [4,18] λu2 a w' H=>?_
 refine qB ?_
 obtain rfl:=sj G
 exact qY H _ 18 (nn u1 2) [vI (mn a0.Lo a1.Lo),vI (mx a0.Hi a1.Hi)] 46 0 2
theorem Qt.calls (k0:Nat)(a0:List qb)(p_a0:Option Addr)(c_a0:Nat)(r:Int)(w:World)(hB:Xp [qy ql 2 p_a0 c_a0 a0 qa] w)(G:Qt k0 a0=some r) :
  Calls Tryz.prog 103 #[.slice p_a0 a0.length c_a0,.func (.func 21) #[] #[]] w λe w'=>e = .returned (vI r)∧Below w.heap.size w w':=by
 obtain ⟨fr,hfr⟩:∃ fr:Nat->Prop,∀ j,fr j:=⟨λ_=>True,λ_=>trivial⟩
 have hBf:∀ j,w.heap.size<=j->fr j:=λj _=>hfr j
 refine QA (args:=[.slice p_a0 a0.length c_a0,.func (.func 21) #[] #[]]) 19 [(19,qy ql 2 p_a0 c_a0 a0 qa)] (by
  intro x hx
  simp only [List.mem_cons,List.not_mem_nil,or_false] at hx
  rcases hx with rfl
  exact qv (qj hB.1) (λ_ _=>trivial) (by decide) _) Tryz.func103 rfl λa H=>?_
 unfold Qt at G
 refine qg qd H (.v 4 (vI 0)<|.nil) [0,1,19] λu1 a w' H=>?_
 refine qs ?_
 obtain ⟨j2,hj2,Gj2⟩:=qO G
 refine Xu (λa w'=>∃ j2v,j2=Sum.inr j2v∧RL w 19 [] a w') ?_ ?_
 ·clear H; rintro a w' ⟨j2v,rfl,H⟩; have G:=Gj2; clear Gj2; dsimp only at G
  refine qg qd H (.v 4 (vI (-1))<|.nil) [4] λu3 a w' H=>?_
  refine qB ?_
  obtain rfl:=sj G
  exact Qr H _
 ·have G:=hj2; clear hj2
  refine qg qd H (.v 6 (.slice p_a0 a0.length c_a0)<|.v 7 (vI (a0.length:Int))<|.v 8 (vI 0)<|.nil) [0,1,7,8,19] λu4 a w' H=>?_
  refine qV ?_
  refine XY (λm a w'=>∃ x5:Int,Qt.l6 k0 a0 m x5=some j2∧RL w 19 [(0,sS p_a0 a0.length c_a0),(1,.slot true (.func (.func 21) #[] #[])),(7,(sI (a0.length:Int))),(8,sI x5),(19,qy ql 2 p_a0 c_a0 a0 qa)] a w') k0 ⟨_,G,H.toM _⟩ ?_
  clear G H
  rintro (_ | k) a w' ⟨x5,G,H⟩
  ·exact absurd G (by unfold Qt.l6; exact λh=>by cases h)
  ·unfold Qt.l6 at G
   refine qg qd H (.v 9 (.bool (decide (x5<(a0.length:Int))))<|.nil) [0,1,7,8,9,19] λu7 a w' H=>?_
   refine qs ?_
   refine Qu H (decide (x5<(a0.length:Int))) (λc16=>?_) λc16=>?_
   ·rw [if_pos c16] at G
    refine q8 ?_
    refine qs ?_
    refine qV ?_
    refine qg qd H (.v 10 (vI x5)<|.v 5 (vI x5)<|.nil) [0,1,5,7,8,19] λu8 a w' H=>?_
    refine qs ?_
    replace G:=gd G; obtain ⟨b10,G⟩:=G
    obtain ⟨t11,ht11,G⟩:=qO G
    obtain ⟨t12,ht12,G⟩:=qO G
    refine Qq qd H (.v 11 (.func (.func 21) #[] #[])<|.v 12 (.slice p_a0 a0.length c_a0)<|.v 13 (vI x5)<|.cons [14] (qL 19 (qy ql 2 p_a0 c_a0 a0 qa) (.pointer (some ⟨XR p_a0,XV p_a0+x5.toNat*2,none⟩)) 14 λ_ w h=>JT 48 .i64 x5 p_a0 a0.length c_a0 a0 qa (qj h).2 qe rfl b10)<|.cons [15] (qL 19 (qy ql 2 p_a0 c_a0 a0 qa) (.agg #[vI t11.Lo,vI t11.Hi]) 15 λ_ w h=>Y4 qa (qj h).2 qe ht11 0 2 [vI t11.Lo,vI t11.Hi])<|.cons [16] (qm 21 _ _ 16 [] (λu9 w _=>qN.calls t11 t12 w ht12))<|.nil) [0,1,5,7,8,16,19] λu9 a w' H=>?_
    refine Qu H t12 (λc15=>?_) λc15=>?_
    ·rw [if_pos c15] at G
     refine qg qd H (.v 17 (vI x5)<|.v 4 (vI x5)<|.nil) [4] λu13 a w' H=>?_
     refine qB ?_
     obtain rfl:=sj G
     replace G:=Gj2
     obtain rfl:=sj G
     exact Qr H _
    ·rw [if_neg (nt c15)] at G
     refine q8 ?_
     refine Qq qd H (.v 18 (vI (qc (x5+1)))<|.v 8 (vI (qc (x5+1)))<|.nil) [0,1,7,8,19] λu14 a w' H=>?_
     exact ⟨k,Nat.lt_succ_self k,_,G,H.toM _⟩
   ·rw [if_neg (nt c16)] at G
    refine Yx rfl ?_
    obtain rfl:=sj G
    exact ⟨_,rfl,H.toM _⟩
theorem Q9.calls (k0:Nat)(a0:List qb)(p_a0:Option Addr)(c_a0:Nat)(r:Bool)(w:World)(hB:Xp [qy ql 2 p_a0 c_a0 a0 qa] w)(G:Q9 k0 a0=some r) :
  Calls Tryz.prog 84 #[.slice p_a0 a0.length c_a0,.func (.func 21) #[] #[]] w λe w'=>e = .returned (.bool r)∧Below w.heap.size w w':=by
 obtain ⟨fr,hfr⟩:∃ fr:Nat->Prop,∀ j,fr j:=⟨λ_=>True,λ_=>trivial⟩
 have hBf:∀ j,w.heap.size<=j->fr j:=λj _=>hfr j
 refine QA (args:=[.slice p_a0 a0.length c_a0,.func (.func 21) #[] #[]]) 9 [(9,qy ql 2 p_a0 c_a0 a0 qa)] (by
  intro x hx
  simp only [List.mem_cons,List.not_mem_nil,or_false] at hx
  rcases hx with rfl
  exact qv (qj hB.1) (λ_ _=>trivial) (by decide) _) Tryz.func84 rfl λa H=>?_
 unfold Q9 at G
 refine qg qd H (.v 4 (.bool false)<|.nil) [0,1,9] λu1 a w' H=>?_
 obtain ⟨t3,ht3,G⟩:=qO G
 refine qg qd H (.v 5 (.slice p_a0 a0.length c_a0)<|.v 6 (.func (.func 21) #[] #[])<|.cons [7] (Q6 [9] (λu2=>[qy ql 2 p_a0 c_a0 a0 qa]) 103 _ _ 7 (λu2 w hF=>Qt.calls k0 a0 p_a0 c_a0 t3 w ⟨(JU (qj hF.1)),trivial⟩ ht3))<|.v 8 (.bool (decide (t3>=0)))<|.v 4 (.bool (decide (t3>=0)))<|.nil) [4] λu2 a w' H=>?_
 refine qB ?_
 obtain rfl:=sj G
 exact Qr H _
theorem XI.calls (k0:Nat)(a0:List qb)(p_a0:Option Addr)(c_a0:Nat)(r:Bool)(w:World)(hB:Xp [qy ql 2 p_a0 c_a0 a0 qa] w)(G:XI k0 a0=some r) :
  Calls Tryz.prog 115 #[.slice p_a0 a0.length c_a0] w λe w'=>e = .returned (.bool r)∧Below w.heap.size w w':=by
 obtain ⟨fr,hfr⟩:∃ fr:Nat->Prop,∀ j,fr j:=⟨λ_=>True,λ_=>trivial⟩
 have hBf:∀ j,w.heap.size<=j->fr j:=λj _=>hfr j
 refine QA (args:=[.slice p_a0 a0.length c_a0]) 6 [(6,qy ql 2 p_a0 c_a0 a0 qa)] (by
  intro x hx
  simp only [List.mem_cons,List.not_mem_nil,or_false] at hx
  rcases hx with rfl
  exact qv (qj hB.1) (λ_ _=>trivial) (by decide) _) Tryz.func115 rfl λa H=>?_
 unfold XI at G
 refine qg qd H (.v 2 (.bool false)<|.nil) [0,6] λu1 a w' H=>?_
 obtain ⟨t3,ht3,G⟩:=qO G
 refine qg qd H (.v 3 (.slice p_a0 a0.length c_a0)<|.cons [4] (Q6 [6] (λu2=>[qy ql 2 p_a0 c_a0 a0 qa]) 84 _ _ 4 (λu2 w hF=>Q9.calls k0 a0 p_a0 c_a0 t3 w ⟨(JU (qj hF.1)),trivial⟩ ht3))<|.v 5 (.bool (!t3))<|.v 2 (.bool (!t3))<|.nil) [2] λu2 a w' H=>?_
 refine qB ?_
 obtain rfl:=sj G
 exact Qr H _
theorem Ys.calls (a0:qb)(r:Int)(w:World)(G:Ys a0=some r) :
  Calls Tryz.prog 83 #[.agg #[vI a0.Lo,vI a0.Hi]] w λe w'=>e = .returned (vI r)∧Below w.heap.size w w':=by
 refine Qs (args:=[.agg #[vI a0.Lo,vI a0.Hi]]) 8 Tryz.func83 rfl λa H=>?_
 unfold Ys at G
 refine qg qd H (.cons [1,8] (qn (λb=>vP b 0) (λu1=>[vI a0.Lo,vI a0.Hi]) 46 1 8)<|.v 2 (vI 0)<|.nil) [1,8] λu1 a w' H=>?_
 refine qg qd H (.v 3 (vP (nn u1 0) 1)<|.cons [4] (qf (vI a0.Hi) 4 8 1 1 (nn u1 0) [vI a0.Lo,vI a0.Hi] 46)<|.v 5 (vP (nn u1 0) 0)<|.cons [6] (qf (vI a0.Lo) 6 8 0 1 (nn u1 0) [vI a0.Lo,vI a0.Hi] 46)<|.v 7 (vI (qc (a0.Hi-a0.Lo)))<|.v 2 (vI (qc (a0.Hi-a0.Lo)))<|.nil) [2] λu2 a w' H=>?_
 refine qB ?_
 obtain rfl:=sj G
 exact Qr H _
theorem Q4.calls (k0:Nat)(a0:List qb)(p_a0:Option Addr)(c_a0:Nat)(r:List qb)(w:World)(hB:Xp [qy ql 2 p_a0 c_a0 a0 qa] w)(G:Q4 k0 a0=some r) :
  Calls Tryz.prog 116 #[.slice p_a0 a0.length c_a0] w λe w'=>∃ g:Gh,e = .returned (.slice (g.o 0) r.length (g.n 0))∧Zj (YR []) w w'∧Ye w.heap.size (YR []) (JS w.heap.size []) [λ_=>Ql 46 2 (g.o 0) (g.n 0) r qa] w':=by
 obtain ⟨fr,hfr,hBf⟩:=VT w []
 refine QA (args:=[.slice p_a0 a0.length c_a0]) 35 [(35,qy ql 2 p_a0 c_a0 a0 qa)] (by
  intro x hx
  simp only [List.mem_cons,List.not_mem_nil,or_false] at hx
  rcases hx with rfl
  exact qv (qj hB.1) (λ_ _=>trivial) (by decide) _) Tryz.func116 rfl λa H=>?_
 unfold Q4 at G
 refine qg qd H (.v 2 (.slice none 0 0)<|.nil) [0,35] λu1 a w' H=>?_
 refine qs ?_
 replace G:=gd G; obtain ⟨b3,G⟩:=G
 refine Qq qd H (.v 7 (.slice p_a0 a0.length c_a0)<|.v 8 (vI (a0.length:Int))<|.cons [9,36] (Z8 [] (λu2=>[]) 46 2 (List.replicate (a0.length:Int).toNat (⟨0,0⟩:qb)).length ((List.replicate (a0.length:Int).toNat (⟨0,0⟩:qb)).flatMap qa) 9 36 (λ_=>.none) (λu2 w hF=>Yr (t:=48) (k:=.i64) (m:=(a0.length:Int)) (en:=qa) (z:=(⟨0,0⟩:qb)) qe JZ rfl b3 (by kernel_rfl)) (λ_=>.inl rfl))<|.cons [3] (qr (λu2=>.slice ((u2 2).o 0) ((List.replicate (a0.length:Int).toNat (⟨0,0⟩:qb)).length) (nn u2 2)) 3)<|.nil) [0,3,35,36] λu2 a w' H=>?_
 refine qs ?_
 obtain ⟨j5,hj5,G⟩:=qO G
 refine Xu (λa w'=>∃ (p_j4:Option Addr) (c_j4 np_j4:Nat),np_j4=j5.length∧RL w 35 [(3,sS p_j4 np_j4 c_j4),(900008,XP 46 2 p_j4 np_j4 c_j4 (j5.flatMap qa))] a w') ?_ ?_
 ·clear H; rintro a w' ⟨p_j4,c_j4,_,rfl,H⟩
  refine qg qd H (.v 34 (.slice p_j4 j5.length c_j4)<|.v 2 (.slice p_j4 j5.length c_j4)<|.nil) [2,900008] λu6 a w' H=>?_
  refine qB ?_
  obtain rfl:=sj G
  obtain ⟨g,o0,n0⟩:=ZS p_j4 c_j4
  refine Qz H _ g _ _ _ fr [900008] [] (.slice p_j4 j5.length c_j4) [λ_=>Ql 46 2 p_j4 c_j4 j5 qa] (by simp only [Ql,o0,n0]) (by simp only [Ql,o0,n0]) hfr (.inl ⟨rfl,rfl⟩) (qk Qf qx) (by simp)
 ·clear G; replace G:=hj5; clear hj5
  refine qg qd H (.v 10 (.slice p_a0 a0.length c_a0)<|.v 11 (vI (a0.length:Int))<|.v 12 (vI 0)<|.nil) [3,10,11,12,35,36] λu7 a w' H=>?_
  refine qV ?_
  replace H:=H.move (K:=Ql 46 2 ((u2 2).o 0) (nn u2 2) (List.replicate (a0.length:Int).toNat (⟨0,0⟩:qb)) qa) 36 900009 (by kernel_rfl) (by intro _ _ h; cases h)
  refine XY (λm a w'=>∃ x8:List qb,∃ x9:Int,Q4.l10 k0 a0 m x8 x9=some j5 ∧ ∃ (p_x8:Option Addr) (c_x8 np_x8:Nat),np_x8=x8.length∧RL w 35 [(3,sS p_x8 np_x8 c_x8),(10,sS p_a0 a0.length c_a0),(11,(sI (a0.length:Int))),(12,sI x9),(35,qy ql 2 p_a0 c_a0 a0 qa),(900009,XP 46 2 p_x8 np_x8 c_x8 (x8.flatMap qa))] a w') k0 ⟨_,_,G,((u2 2).o 0),(nn u2 2),(List.replicate (a0.length:Int).toNat (⟨0,0⟩:qb)).length,rfl,H.toM _⟩ ?_
  clear G H
  rintro (_ | k) a w' ⟨x8,x9,G,p_x8,c_x8,_,rfl,H⟩
  ·exact absurd G (by unfold Q4.l10; exact λh=>by cases h)
  ·unfold Q4.l10 at G
   refine qg qd H (.v 13 (.bool (decide (x9<(a0.length:Int))))<|.nil) [3,10,11,12,13,35,900009] λu11 a w' H=>?_
   refine qs ?_
   refine Qu H (decide (x9<(a0.length:Int))) (λc22=>?_) λc22=>?_
   ·rw [if_pos c22] at G
    refine q8 ?_
    refine qs ?_
    refine qV ?_
    refine qs ?_
    replace G:=gd G; obtain ⟨b13,G⟩:=G
    obtain ⟨t14,ht14,G⟩:=qO G
    refine Qq qd H (.v 14 (vI x9)<|.cons [15] (qL 35 (qy ql 2 p_a0 c_a0 a0 qa) (.pointer (some ⟨XR p_a0,XV p_a0+x9.toNat*2,none⟩)) 15 λ_ w h=>JT 48 .i64 x9 p_a0 a0.length c_a0 a0 qa (qj h).2 qe rfl b13)<|.cons [16] (qL 35 (qy ql 2 p_a0 c_a0 a0 qa) (.agg #[vI t14.Lo,vI t14.Hi]) 16 λ_ w h=>Y4 qa (qj h).2 qe ht14 0 2 [vI t14.Lo,vI t14.Hi])<|.cons [5,37] (qn (λb=>vP b 0) (λu12=>[vI 0,vI 0]) 46 5 37)<|.v 4 (vI x9)<|.cons [37] (QF (u':=λu12=>[(37,.blk (nn u12 3) [vI t14.Lo,vI t14.Hi] 46)]) (qK 37 0 (λu12=>(nn u12 3)) (λu12=>[vI 0,vI 0]) (λu12=>[vI t14.Lo,vI t14.Hi]) 46) (λ_=>by kernel_rfl))<|.nil) [3,4,5,10,11,12,35,37,900009] λu12 a w' H=>?_
    obtain ⟨t16,ht16,G⟩:=qO G
    refine qg qd H (.cons [17] (qf (.agg #[vI t14.Lo,vI t14.Hi]) 17 37 0 2 (nn u12 3) [vI t14.Lo,vI t14.Hi] 46)<|.cons [18] (qm 83 _ _ 18 [] (λu15 w _=>Ys.calls t14 t16 w ht16))<|.v 19 (vI (qc (Int.tdiv t16 16)))<|.v 20 (vI (qc ((qc (Int.tdiv t16 16))+1)))<|.v 6 (vI (qc ((qc (Int.tdiv t16 16))+1)))<|.nil) [3,4,5,6,10,11,12,35,37,900009] λu15 a w' H=>?_
    obtain ⟨t18,ht18,G⟩:=qO G
    replace G:=gd G; obtain ⟨b19,G⟩:=G
    obtain ⟨t20,ht20,G⟩:=qO G
    refine Qq qd H (.v 21 (.slice p_x8 x8.length c_x8)<|.v 22 (vI x9)<|.v 23 (vP (nn u12 3) 0)<|.cons [24] (qf (vI t14.Lo) 24 37 0 1 (nn u12 3) [vI t14.Lo,vI t14.Hi] 46)<|.v 25 (vI (qc ((qc (Int.tdiv t16 16))+1)))<|.v 26 (vI (qc (t14.Lo-(qc ((qc (Int.tdiv t16 16))+1)))))<|.v 27 (vP (nn u12 3) 1)<|.cons [28] (qf (vI t14.Hi) 28 37 1 1 (nn u12 3) [vI t14.Lo,vI t14.Hi] 46)<|.v 29 (vI (qc ((qc (Int.tdiv t16 16))+1)))<|.v 30 (vI (qc (t14.Hi+(qc ((qc (Int.tdiv t16 16))+1)))))<|.cons [31] (qm 68 _ _ 31 [] (λu17 w _=>qD.calls (qc (t14.Lo-(qc ((qc (Int.tdiv t16 16))+1)))) (qc (t14.Hi+(qc ((qc (Int.tdiv t16 16))+1)))) t18 w ht18))<|.cons [32] (qL 900009 (Ql 46 2 p_x8 c_x8 x8 qa) (.pointer (some ⟨XR p_x8,XV p_x8+x9.toNat*2,none⟩)) 32 λ_ w h=>JT 48 .i64 x9 p_x8 x8.length c_x8 x8 qa (qH (Qx h)).2 qe rfl b19)<|.cons [900009,900009] (Xt [] [] (λu17=>[]) 900009 (λu17=>Ql 46 2 p_x8 c_x8 x8 qa) none (λu17 g=>.nilFunc) (λu17 g=>XP 46 2 p_x8 x8.length c_x8 ((x8.set x9.toNat t18).flatMap qa)) (λu17 w hF hK=>ZG (XG (Qx hK) qe (y:=t18) (vs:=[vI t18.Lo,vI t18.Hi]) ht20 0 (by simp) (by simp) rfl (by kernel_rfl))))<|.nil) [3,10,11,12,35,900009] λu17 a w' H=>?_
    refine Qq qd H (.v 33 (vI (qc (x9+1)))<|.v 12 (vI (qc (x9+1)))<|.nil) [3,10,11,12,35,900009] λu21 a w' H=>?_
    exact ⟨k,Nat.lt_succ_self k,_,_,G,p_x8,c_x8,x8.length,by simp,H.toM _⟩
   ·rw [if_neg (nt c22)] at G
    refine Yx rfl ?_
    obtain rfl:=sj G
    replace H:=H.move (K:=Ql 46 2 p_x8 c_x8 x8 qa) 900009 900008 (by kernel_rfl) (by intro _ _ h; cases h)
    exact ⟨p_x8,c_x8,x8.length,rfl,H.toM _⟩
theorem YO.calls (a0:qb)(a1:qb)(r:Bool)(w:World)(G:YO a0 a1=some r) :
  Calls Tryz.prog 117 #[.agg #[vI a0.Lo,vI a0.Hi],.agg #[vI a1.Lo,vI a1.Hi]] w λe w'=>e = .returned (.bool r)∧Below w.heap.size w w':=by
 refine Qs (args:=[.agg #[vI a0.Lo,vI a0.Hi],.agg #[vI a1.Lo,vI a1.Hi]]) 17 Tryz.func117 rfl λa H=>?_
 unfold YO at G
 refine qg qd H (.cons [2,17] (qn (λb=>vP b 0) (λu1=>[vI a0.Lo,vI a0.Hi]) 46 2 17)<|.cons [3,18] (qn (λb=>vP b 0) (λu1=>[vI a1.Lo,vI a1.Hi]) 46 3 18)<|.v 4 (.bool false)<|.nil) [2,3,17,18] λu1 a w' H=>?_
 refine qg qd H (.v 5 (vP (nn u1 1) 0)<|.cons [6] (qf (vI a1.Lo) 6 18 0 1 (nn u1 1) [vI a1.Lo,vI a1.Hi] 46)<|.v 7 (vP (nn u1 0) 0)<|.cons [8] (qf (vI a0.Lo) 8 17 0 1 (nn u1 0) [vI a0.Lo,vI a0.Hi] 46)<|.v 9 (.bool (decide (a1.Lo<=a0.Lo)))<|.v 10 (.bool (decide (a1.Lo<=a0.Lo)))<|.cons [11] (qE (λu2=>vP (nn u1 0) 1) (λu2=>((decide (a1.Lo<=a0.Lo))==true)) [true] 11)<|.cons [12] (YL (λu2=>vI a0.Hi) (λu2=>((decide (a1.Lo<=a0.Lo))==true)) [false] 12 17 1 1 (λu2=>(nn u1 0)) (λu2=>[vI a0.Lo,vI a0.Hi]) 46)<|.cons [13] (qE (λu2=>vP (nn u1 1) 1) (λu2=>((decide (a1.Lo<=a0.Lo))==true)) [true] 13)<|.cons [14] (YL (λu2=>vI a1.Hi) (λu2=>((decide (a1.Lo<=a0.Lo))==true)) [false] 14 18 1 1 (λu2=>(nn u1 1)) (λu2=>[vI a1.Lo,vI a1.Hi]) 46)<|.cons [15] (qE (λu2=>.bool (decide (a0.Hi<=a1.Hi))) (λu2=>((decide (a1.Lo<=a0.Lo))==true)) [false,false] 15)<|.cons [16] (YH 10 15 (λu2=>true) (λu2=>true) (λu2=>decide (a1.Lo<=a0.Lo)) (λu2=>decide (a0.Hi<=a1.Hi)) 16)<|.v 4 (.bool ((decide (a1.Lo<=a0.Lo))&&(decide (a0.Hi<=a1.Hi))))<|.nil) [4] λu2 a w' H=>?_
 refine qB ?_
 obtain rfl:=sj G
 exact Qr H _
theorem Xe.ok (k0:Nat)(q0:List qb)(q1:List qb)(b_q0:Nat)(p_q0:Option Addr)(c_q0:Nat)(b_q1:Nat)(p_q1:Option Addr)(c_q1:Nat)(lo:Nat)(r:List (qb×qb))(G:Xe k0 q0 q1=some r) :
  qdR (γ:=Unit) Tryz.prog 66 #[vP b_q0 0,vP b_q1 0] (λx _=>#[enI x.1,enI x.2]) (λ_ _=>[]) r (λ_:Nat=>False) (λw=>Xp [qy ql 2 p_q0 c_q0 q0 qa,Xf b_q0 [.slice p_q0 q0.length c_q0] 48,qy ql 2 p_q1 c_q1 q1 qa,Xf b_q1 [.slice p_q1 q1.length c_q1] 48] w) (λ_=>True) lo:=by
 intro l J JX base hJ hJX hF w hJc hXc hOl hlo hY W h0 hOx hsz
 have hB:=hF _ _ h0
 obtain ⟨fr,hfr⟩:∃ fr:Nat->Prop,∀ j,fr j:=⟨λ_=>True,λ_=>trivial⟩
 have hBf:∀ j,w.heap.size<=j->fr j:=λj _=>hfr j
 have hFB:∀ x ∈ ([(23,qy ql 2 p_q0 c_q0 q0 qa),(22,Xf b_q0 [.slice p_q0 q0.length c_q0] 48),(25,qy ql 2 p_q1 c_q1 q1 qa),(24,Xf b_q1 [.slice p_q1 q1.length c_q1] 48)]:List (Nat×KV)),(∃ fp F,x.2 = .fact fp F)∧x.2.holds W ∧ ∀ i,x.2.fp i->i<W.heap.size:=by
  intro x hx
  simp only [List.mem_cons,List.not_mem_nil,or_false] at hx
  rcases hx with rfl | rfl | rfl | rfl
  ·exact qv (qj hB.1) (λ_ _=>trivial) (by decide) _
  ·exact QH (hB.2.1 W (agree.refl _ _)) _
  ·exact qv (qj hB.2.2.1) (λ_ _=>trivial) (by decide) _
  ·exact QH (hB.2.2.2.1 W (agree.refl _ _)) _
 have hFX:∀ x ∈ ([(23,qy ql 2 p_q0 c_q0 q0 qa),(22,Xf b_q0 [.slice p_q0 q0.length c_q0] 48),(25,qy ql 2 p_q1 c_q1 q1 qa),(24,Xf b_q1 [.slice p_q1 q1.length c_q1] 48)]:List (Nat×KV)),(∃ fp F,x.2 = .fact fp F) ∧ ∀ i,x.2.fp i->i<base ∧ ¬ (λ_:Nat=>False) i:=λx hx=>⟨(hFB x hx).1,λi hi=>⟨by rw [<- hsz]; exact (hFB x hx).2.2 i hi,λh=>h⟩⟩
 have hFJ:∀ s W,J s W -> ∀ x ∈ ([(23,qy ql 2 p_q0 c_q0 q0 qa),(22,Xf b_q0 [.slice p_q0 q0.length c_q0] 48),(25,qy ql 2 p_q1 c_q1 q1 qa),(24,Xf b_q1 [.slice p_q1 q1.length c_q1] 48)]:List (Nat×KV)),x.2.holds W:=λs W h=>qap _ (hF _ _ h)
 have hbase:0<base:=Nat.lt_of_le_of_lt (Nat.zero_le _) ((hFX _ (.tail _ (.head _))).2 b_q0 rfl).1
 refine qak (args:=[.func (.yield l) #[] #[],vP b_q0 0,vP b_q1 0]) 22 Tryz.func66 rfl λa H=>?_
 replace H:=(H.again W (hJc _ _ h0) (Nat.zero_le _) ([(23,qy ql 2 p_q0 c_q0 q0 qa),(22,Xf b_q0 [.slice p_q0 q0.length c_q0] 48),(25,qy ql 2 p_q1 c_q1 q1 qa),(24,Xf b_q1 [.slice p_q1 q1.length c_q1] 48)]++[(26,jO (λ_:Nat=>False) base w (J r))]) (λx hx=>(List.mem_append.1 hx).elim (hFB x) λhx=>by
  rw [List.mem_singleton.1 hx]
  exact ⟨⟨_,_,rfl⟩,qar hbase hOl (Nat.le_of_eq hsz.symm) (λW' hs=>hJ _ _ _ h0 hs) (hJc _ _ h0),λi hi=>by rw [hsz]; exact hi.1⟩)).toL [(0,.slot true (.func (.yield l) #[] #[])),(1,sP b_q0 0),(2,sP b_q1 0),(23,qy ql 2 p_q0 c_q0 q0 qa),(25,qy ql 2 p_q1 c_q1 q1 qa),(22,Xf b_q0 [.slice p_q0 q0.length c_q0] 48),(24,Xf b_q1 [.slice p_q1 q1.length c_q1] 48),(26,jO (λ_:Nat=>False) base w (J r))] (by kernel_rfl)
 clear hB hFB h0 hsz
 unfold Xe at G
 refine XJ ?_
 refine X0 qd H (.cons [6] (QV (λu1=>.slice p_q0 q0.length c_q0) 6 22 (Xf b_q0 [.slice p_q0 q0.length c_q0] 48) b_q0 0 1 [.slice p_q0 q0.length c_q0] (λw h=>Za h))<|.v 7 (vI (q0.length:Int))<|.v 8 (vI 0)<|.nil) (by kernel_rfl) (by kernel_rfl) λu1 a w' H=>?_
 replace H:=H.kp [0,2,6,7,8,23,25,22,24,26]
 refine ZT ?_
 refine qan (λm a w'=>∃ r,∃ x2:Int,Xe.l3 k0 q0 q1 m x2=some r∧QB 0 w 22 (Jf [(0,.slot true (.func (.yield l) #[] #[])),(2,sP b_q1 0),(6,sS p_q0 q0.length c_q0),(7,(sI (q0.length:Int))),(8,sI x2),(23,qy ql 2 p_q0 c_q0 q0 qa),(25,qy ql 2 p_q1 c_q1 q1 qa),(22,Xf b_q0 [.slice p_q0 q0.length c_q0] 48),(24,Xf b_q1 [.slice p_q1 q1.length c_q1] 48),(26,jO (λ_:Nat=>False) base w (J r))]) a w') k0 ⟨_,_,G,H.toM _⟩ ?_
 clear H G
 rintro (_ | k1) a w' ⟨r,x2,G,H⟩
 ·exact absurd G (by unfold Xe.l3; exact λh=>by cases h)
 ·unfold Xe.l3 at G
  refine XJ ?_
  refine X0 qd H (.v 9 (.bool (decide (x2<(q0.length:Int))))<|.nil) (by kernel_rfl) (by kernel_rfl) λu4 a w' H=>?_
  replace H:=H.kp [0,2,6,7,8,9,23,25,22,24,26]
  refine XJ ?_
  refine JO H (by kernel_rfl) (t:=decide (x2<(q0.length:Int))) (by kernel_rfl) (λc13=>?_) (λc13=>?_)
  ·rw [if_pos c13] at G
   refine Z7 ?_
   refine XJ ?_
   refine ZT ?_
   refine XJ ?_
   replace G:=gd G; obtain ⟨b6,G⟩:=G
   obtain ⟨t7,ht7,G⟩:=qO G
   refine X0 qd H (.v 10 (vI x2)<|.cons [11] (qL 23 (qy ql 2 p_q0 c_q0 q0 qa) (.pointer (some ⟨XR p_q0,XV p_q0+x2.toNat*2,none⟩)) 11 λ_ w h=>JT 48 .i64 x2 p_q0 q0.length c_q0 q0 qa (qj h).2 qe rfl b6)<|.cons [12] (qL 23 (qy ql 2 p_q0 c_q0 q0 qa) (.agg #[vI t7.Lo,vI t7.Hi]) 12 λ_ w h=>Y4 qa (qj h).2 qe ht7 0 2 [vI t7.Lo,vI t7.Hi])<|.cons [5,27] (qn (λb=>vP b 0) (λu5=>[vI 0,vI 0]) 46 5 27)<|.v 4 (vI x2)<|.cons [27] (QF (u':=λu5=>[(27,.blk (nn u5 3) [vI t7.Lo,vI t7.Hi] 46)]) (qK 27 0 (λu5=>(nn u5 3)) (λu5=>[vI 0,vI 0]) (λu5=>[vI t7.Lo,vI t7.Hi]) 46) (λ_=>by kernel_rfl))<|.nil) (by kernel_rfl) (by kernel_rfl) λu5 a w' H=>?_
   replace H:=H.kp [0,2,4,5,6,7,8,23,25,27,22,24,26]
   refine XJ ?_
   replace G:=gd G; obtain ⟨b9,G⟩:=G
   obtain ⟨t10,ht10,G⟩:=qO G
   have P11:=Xm (en:=qa) (l:=q1) (qj (H.at (K:=qy ql 2 p_q1 c_q1 q1 qa) 25 (by kernel_rfl))).2 qe
   obtain ⟨r,hr,G⟩:=qO G; obtain rfl:=sj G; replace G:=hr; clear hr
   refine qgG (qd7 (Rp:=qez (λ_:Nat=>False) 26 [23,22,25,24] [27] base w 22) qd ⟨H.toM [(0,.slot true (.func (.yield l) #[] #[])),(2,sP b_q1 0),(4,sI x2),(5,(sP (nn u5 3) 0)),(6,sS p_q0 q0.length c_q0),(7,(sI (q0.length:Int))),(8,sI x2),(23,qy ql 2 p_q0 c_q0 q0 qa),(25,qy ql 2 p_q1 c_q1 q1 qa),(27,.blk (nn u5 3) [vI t7.Lo,vI t7.Hi] 46),(22,Xf b_q0 [.slice p_q0 q0.length c_q0] 48),(24,Xf b_q1 [.slice p_q1 q1.length c_q1] 48),(26,jO (λ_:Nat=>False) base w (J ((t7,t10) :: r)))] (by kernel_rfl),qaN _ (by kernel_rfl)⟩ (.cons [13] (okg (qr (λu8=>.func (.yield l) #[] #[]) 13))<|.cons [14] (okg (qf (.agg #[vI t7.Lo,vI t7.Hi]) 14 27 0 2 (nn u5 3) [vI t7.Lo,vI t7.Hi] 46))<|.cons [15] (okg (QV (λu8=>.slice p_q1 q1.length c_q1) 15 24 (Xf b_q1 [.slice p_q1 q1.length c_q1] 48) b_q1 0 1 [.slice p_q1 q1.length c_q1] (λw h=>Za h)))<|.cons [16] (okg (qr (λu8=>vI x2) 16))<|.cons [17] (okg (qr (λu8=>.pointer (some ⟨XR p_q1,XV p_q1+x2.toNat*2,none⟩)) 17 (hv:=λ_ _=>Qe (t:=48) (k:=.i64) (i:=x2) (p:=p_q1) (n:=q1.length) (cap:=c_q1) (x:=q1) P11 rfl b9 (by kernel_rfl))))<|.cons [18] (okg (qL 25 (qy ql 2 p_q1 c_q1 q1 qa) (.agg #[vI t10.Lo,vI t10.Hi]) 18 λ_ w h=>Y4 qa (qj h).2 qe ht10 0 2 [vI t10.Lo,vI t10.Hi]))<|.cons [19,26,23,22,25,24,27] (WR (O:=(λ_:Nat=>False)) (base:=base) 26 [23,22,25,24] [27] l (λu8=>#[.agg #[vI t7.Lo,vI t7.Hi],.agg #[vI t10.Lo,vI t10.Hi]]) (J ((t7,t10) :: r)) (J r) JX 19 hbase hOl (by intro _; kernel_rfl) (λu8 W1 h1 hb1 hk1=>hY (t7,t10) () r W1 h1 hb1 (λx hx=>by cases hx)) (λW1 W2 h1 h2=>hJ _ _ _ h1 h2) hJX (λW1 h1=>hJc _ _ h1) hXc (by rfl) (by rfl) (by rfl))<|.cons [20] (okg (qr (λu8=>.bool (!(decide (nn u8 6=1)))) 20))<|(.nil)) (by kernel_rfl) (λS a w1 h=>⟨h.1.world ⟨rfl,rfl,rfl,Nat.le_refl _,λ_ _=>rfl⟩,h.2⟩) λu8 a w' H=>?_)
   replace H:=H.1.toL [(0,.slot true (.func (.yield l) #[] #[])),(2,sP b_q1 0),(6,sS p_q0 q0.length c_q0),(7,(sI (q0.length:Int))),(8,sI x2),(20,(sB (!(decide (nn u8 6=1))))),(26,bif decide (nn u8 6=1) then jO (λ_:Nat=>False) base w (J r) else jK ((u8 6).n 1) w JX)] (by kernel_rfl)
   rcases Bool.eq_false_or_eq_true (decide (nn u8 6=1)) with hb | hb
   ·rw [hb] at H
    replace H:=H.kp [0,2,6,7,8,20,26]
    replace H:=(QB.readdO (O:=(λ_:Nat=>False)) (J:=J r) 26 [(23,qy ql 2 p_q0 c_q0 q0 qa),(22,Xf b_q0 [.slice p_q0 q0.length c_q0] 48),(25,qy ql 2 p_q1 c_q1 q1 qa),(24,Xf b_q1 [.slice p_q1 q1.length c_q1] 48)] _ H hFX (λW1 h1=>hFJ _ _ h1) (by kernel_rfl) (qaw (O:=(λ_:Nat=>False)) (J:=J r) hbase hOl 26 H (by kernel_rfl)) (by rfl)).toL [(0,.slot true (.func (.yield l) #[] #[])),(2,sP b_q1 0),(6,sS p_q0 q0.length c_q0),(7,(sI (q0.length:Int))),(8,sI x2),(20,sB false),(23,qy ql 2 p_q0 c_q0 q0 qa),(25,qy ql 2 p_q1 c_q1 q1 qa),(22,Xf b_q0 [.slice p_q0 q0.length c_q0] 48),(24,Xf b_q1 [.slice p_q1 q1.length c_q1] 48),(26,jO (λ_:Nat=>False) base w (J r))] (by kernel_rfl)
    refine JD H (by kernel_rfl) (by kernel_rfl) ?_
    refine Z7 ?_
    refine X0 qd H (.v 21 (vI (qc (x2+1)))<|.v 8 (vI (qc (x2+1)))<|.nil) (by kernel_rfl) (by kernel_rfl) λu12 a w' H=>?_
    replace H:=H.kp [0,2,6,7,8,23,25,22,24,26]
    exact ⟨k1,Nat.lt_succ_self k1,_,_,G,H.toM _⟩
   ·clear G; rw [hb] at H
    replace H:=H.kp [0,2,6,7,8,20,26]
    refine JW H (by kernel_rfl) (by kernel_rfl) ?_
    refine J1 ?_
    exact ⟨H.defers,_,XE H (.tuple #[]) [] (by kernel_rfl) (by simp) (by kernel_rfl),⟨_,rfl⟩,.inr ((show (jK ((u8 6).n 1) w JX).holds _ from H.holds 26) _ (agree.refl _ _) H.below)⟩
  ·rw [if_neg (nt c13)] at G
   refine We rfl ?_
   obtain rfl:=sj G
   exact ⟨H.defers,_,XE H (.tuple #[]) [] (by kernel_rfl) (by simp) (by kernel_rfl),⟨_,rfl⟩,.inl ((show (jO (λ_:Nat=>False) base w (J [])).holds _ from H.holds 26) _ (agree.refl _ _) H.below)⟩
theorem XH.calls (k0:Nat)(a0:List qb)(a1:List qb)(p_a0:Option Addr)(c_a0:Nat)(p_a1:Option Addr)(c_a1:Nat)(r:Bool)(w:World)(hB:Xp [qy ql 2 p_a0 c_a0 a0 qa,qy ql 2 p_a1 c_a1 a1 qa] w)(G:XH k0 a0 a1=some r) :
  Calls Tryz.prog 96 #[.slice p_a0 a0.length c_a0,.slice p_a1 a1.length c_a1] w λe w'=>e = .returned (.bool r)∧Below w.heap.size w w':=by
 obtain ⟨fr,hfr⟩:∃ fr:Nat->Prop,∀ j,fr j:=⟨λ_=>True,λ_=>trivial⟩
 have hBf:∀ j,w.heap.size<=j->fr j:=λj _=>hfr j
 refine Wu (args:=[.slice p_a0 a0.length c_a0,.slice p_a1 a1.length c_a1]) 16 [(16,qy ql 2 p_a0 c_a0 a0 qa),(17,qy ql 2 p_a1 c_a1 a1 qa)] (by
  intro x hx
  simp only [List.mem_cons,List.not_mem_nil,or_false] at hx
  rcases hx with rfl | rfl
  ·exact qv (qj hB.1) (λ_ _=>trivial) (by decide) _
  ·exact qv (qj hB.2.1) (λ_ _=>trivial) (by decide) _) Tryz.func96 rfl λa H=>?_
 unfold XH at G
 refine qg qd H (.cons [4,18] (qn (λb=>vP b 0) (λu1=>[.bool false]) 4 4 18)<|.nil) [0,1,4,16,17,18] λu1 a w' H=>?_
 refine qs ?_
 refine qg qd H (.v 7 (.slice p_a0 a0.length c_a0)<|.v 8 (.slice p_a1 a1.length c_a1)<|.cons [9,19,20] (WL 43 (λu2=>#[.slice p_a0 a0.length c_a0,.slice p_a1 a1.length c_a1]) (λb1 b2=>.func (.func 66) #[] #[vP b1 0,vP b2 0]) [.slice p_a0 a0.length c_a0] [.slice p_a1 a1.length c_a1] 48 48 9 19 20 (λ_ w=>box_pairs.calls a0 p_a0 a0.length c_a0 a1 p_a1 a1.length c_a1 w))<|.nil) [4,9,16,17,18,19,20] λu2 a w' H=>?_
 refine qV ?_
 obtain ⟨t4,ht4,G⟩:=qO G
 refine qcy ?_
 refine qaM (γ:=Unit) (λx _=>#[enI x.1,enI x.2]) (λ_ _=>[]) (λx z=>[(10,.slot true (.agg #[vI x.1.Lo,vI x.1.Hi])),(11,.slot true (.agg #[vI x.2.Lo,vI x.2.Hi]))]) t4 (λ_:Nat=>False) [] (λw=>Xp [qy ql 2 p_a0 c_a0 a0 qa,Xf (nn u2 2) [.slice p_a0 a0.length c_a0] 48,qy ql 2 p_a1 c_a1 a1 qa,Xf ((u2 2).n 1) [.slice p_a1 a1.length c_a1] 48] w) (λ_=>True) 21 22 23 0 _ (λzs L=>XH.l5 k0 a0 a1 zs=some r∧L=[(16,qy ql 2 p_a0 c_a0 a0 qa),(17,qy ql 2 p_a1 c_a1 a1 qa),(18,.blk (nn u1 0) [.bool false] 4),(19,.blk (nn u2 2) [.slice p_a0 a0.length c_a0] 48),(20,.blk ((u2 2).n 1) [.slice p_a1 a1.length c_a1] 48)]) (λL=>L=[(18,.blk (nn u1 0) [.bool r] 4)]) (λ_=>False) [(16,qy ql 2 p_a0 c_a0 a0 qa),(17,qy ql 2 p_a1 c_a1 a1 qa),(18,.blk (nn u1 0) [.bool false] 4),(19,.blk (nn u2 2) [.slice p_a0 a0.length c_a0] 48),(20,.blk ((u2 2).n 1) [.slice p_a1 a1.length c_a1] 48)] H (by kernel_rfl) (by kernel_rfl) (VU Tryz.func66 (by kernel_rfl) rfl) (Xe.ok k0 a0 a1 (nn u2 2) p_a0 c_a0 ((u2 2).n 1) p_a1 c_a1 _ t4 ht4) (λx=>qg9 10 11 (λz:Unit=>.agg #[vI x.1.Lo,vI x.1.Hi]) (λz:Unit=>.agg #[vI x.2.Lo,vI x.2.Hi]) (by rfl) (by rfl)) rfl (λi hi=>hi.elim) (λ_ _=>trivial) ⟨G,rfl⟩ (by kernel_rfl) (by kernel_rfl) (by kernel_rfl) (by kernel_rfl) (by kernel_rfl) (by kernel_rfl) (by rintro zs L ⟨G,rfl⟩ x hx; simp only [List.mem_cons,List.not_mem_nil,or_false] at hx; rcases hx with rfl | rfl | rfl | rfl | rfl; all_goals exact ⟨by simp,λi hi=>hi⟩) (by rintro zs L a w ⟨G,rfl⟩ h; have hF:Xp [qy ql 2 p_a0 c_a0 a0 qa,.blk (nn u2 2) [.slice p_a0 a0.length c_a0] 48,qy ql 2 p_a1 c_a1 a1 qa,.blk ((u2 2).n 1) [.slice p_a1 a1.length c_a1] 48] w:=⟨h.at (K:=qy ql 2 p_a0 c_a0 a0 qa) 16 (by kernel_rfl),h.at (K:=.blk (nn u2 2) [.slice p_a0 a0.length c_a0] 48) 19 (by kernel_rfl),h.at (K:=qy ql 2 p_a1 c_a1 a1 qa) 17 (by kernel_rfl),h.at (K:=.blk ((u2 2).n 1) [.slice p_a1 a1.length c_a1] 48) 20 (by kernel_rfl),trivial⟩; exact ⟨(JU (qj hF.1)),(QH hF.2.1 0).2.1,(JU (qj hF.2.2.1)),(QH hF.2.2.2.1 0).2.1,trivial⟩) ?_ ?_ ?_ ?_
 ·clear H G; rintro li Di bi oR oD Wi x z zs L a w' hbi ⟨G,rfl⟩ H
  unfold XH.l5 at G
  replace H:=H.kp [4,9,10,11,16,17,18,19,20,21,22,23]
  refine XJ ?_
  refine X0 qd H (.cons [5,26] (qn (λb=>vP b 0) (λu6=>[vI 0,vI 0]) 46 5 26)<|.cons [26] (QF (u':=λu6=>[(26,.blk (nn u6 0) [vI x.1.Lo,vI x.1.Hi] 46)]) (qK 26 0 (λu6=>(nn u6 0)) (λu6=>[vI 0,vI 0]) (λu6=>[vI x.1.Lo,vI x.1.Hi]) 46) (λ_=>by kernel_rfl))<|.nil) (by kernel_rfl) (by kernel_rfl) λu6 a w' H=>?_
  replace H:=H.kp [4,5,9,11,16,17,18,19,20,26,21,22,23]
  refine X0 qd H (.cons [6,27] (qn (λb=>vP b 0) (λu7=>[vI 0,vI 0]) 46 6 27)<|.cons [27] (QF (u':=λu7=>[(27,.blk (nn u7 0) [vI x.2.Lo,vI x.2.Hi] 46)]) (qK 27 0 (λu7=>(nn u7 0)) (λu7=>[vI 0,vI 0]) (λu7=>[vI x.2.Lo,vI x.2.Hi]) 46) (λ_=>by kernel_rfl))<|.nil) (by kernel_rfl) (by kernel_rfl) λu7 a w' H=>?_
  replace H:=H.kp [4,5,6,9,16,17,18,19,20,26,27,21,22,23]
  refine ⟨_,H,by kernel_rfl,λoB w' H=>?_⟩
  replace H:=H.kp [4,5,6,9,16,17,18,19,20,26,27,21,22,23]
  refine ZT ?_
  refine XJ ?_
  obtain ⟨t9,ht9,G⟩:=qO G
  refine X0 qd H (.cons [12] (qf (.agg #[vI x.1.Lo,vI x.1.Hi]) 12 26 0 2 (nn u6 0) [vI x.1.Lo,vI x.1.Hi] 46)<|.cons [13] (qf (.agg #[vI x.2.Lo,vI x.2.Hi]) 13 27 0 2 (nn u7 0) [vI x.2.Lo,vI x.2.Hi] 46)<|.cons [14] (qm 117 _ _ 14 [] (λu8 w _=>YO.calls (⟨x.1.Lo,x.1.Hi⟩:qb) (⟨x.2.Lo,x.2.Hi⟩:qb) t9 w ht9))<|.v 15 (.bool (!t9))<|.nil) (by kernel_rfl) (by kernel_rfl) λu8 a w' H=>?_
  replace H:=H.kp [4,9,15,16,17,18,19,20,21,22,23]
  refine JO H (by kernel_rfl) (t:=(!t9)) (by kernel_rfl) (λc11=>?_) (λc11=>?_)
  ·rw [if_pos c11] at G
   refine XJ ?_
   refine X0 qd H (.cons [18] (qQ 18 0 (nn u1 0) [.bool false] [.bool false] 4 [.bool false])<|.nil) (by kernel_rfl) (by kernel_rfl) λu10 a w' H=>?_
   replace H:=H.kp [4,9,16,17,18,19,20,21,22,23]
   refine J1 ?_
   obtain rfl:=sj G
   exact ⟨_,rfl,by kernel_rfl,H.toM _⟩
  ·rw [if_neg (nt c11)] at G
   refine Z7 ?_
   exact ⟨_,⟨G,rfl⟩,by kernel_rfl,H.toM _⟩
 ·clear H G; rintro Di L W ⟨G,rfl⟩ H
  unfold XH.l5 at G
  replace H:=H.kp [4,9,16,17,18,19,20,22]
  refine Wn ?_
  refine XJ ?_
  refine X0 qd H (.cons [18] (qQ 18 0 (nn u1 0) [.bool false] [.bool true] 4 [.bool true])<|.nil) (by kernel_rfl) (by kernel_rfl) λu12 a w' H=>?_
  replace H:=H.kp [4,18,22]
  refine J1 ?_
  obtain rfl:=sj G
  refine VJ 22 H (by kernel_rfl) λw' H=>?_
  exact qY H _ 18 (nn u1 0) [.bool true] 4 0 1
 ·clear H G; rintro Di L W rfl H
  replace H:=H.kp [4,18,22]
  refine VJ 22 H (by kernel_rfl) λw' H=>?_
  exact qY H _ 18 (nn u1 0) [.bool r] 4 0 1
 ·clear H G; rintro Di L W h H; exact h.elim
theorem qX.calls (k0:Nat)(a0:List qb)(a1:List qb)(p_a0:Option Addr)(c_a0:Nat)(p_a1:Option Addr)(c_a1:Nat)(r:List qb)(w:World)(hB:Xp [qy ql 2 p_a0 c_a0 a0 qa,qy ql 2 p_a1 c_a1 a1 qa] w)(G:qX k0 a0 a1=some r) :
  Calls Tryz.prog 112 #[.slice p_a0 a0.length c_a0,.slice p_a1 a1.length c_a1,.func (.func 114) #[] #[]] w λe w'=>∃ g:Gh,e = .returned (.slice (g.o 0) r.length (g.n 0))∧Zj (YR []) w w'∧Ye w.heap.size (YR []) (JS w.heap.size []) [λ_=>Ql 46 2 (g.o 0) (g.n 0) r qa] w':=by
 obtain ⟨fr,hfr,hBf⟩:=VT w []
 refine QA (args:=[.slice p_a0 a0.length c_a0,.slice p_a1 a1.length c_a1,.func (.func 114) #[] #[]]) 32 [(32,qy ql 2 p_a0 c_a0 a0 qa),(33,qy ql 2 p_a1 c_a1 a1 qa)] (by
  intro x hx
  simp only [List.mem_cons,List.not_mem_nil,or_false] at hx
  rcases hx with rfl | rfl
  ·exact qv (qj hB.1) (λ_ _=>trivial) (by decide) _
  ·exact qv (qj hB.2.1) (λ_ _=>trivial) (by decide) _) Tryz.func112 rfl λa H=>?_
 unfold qX at G
 refine qg qd H (.v 6 (.slice none 0 0)<|.nil) [0,1,2,32,33] λu1 a w' H=>?_
 refine qs ?_
 replace G:=gd G; obtain ⟨b3,G⟩:=G
 refine Qq qd H (.v 9 (.slice p_a0 a0.length c_a0)<|.v 10 (vI (a0.length:Int))<|.cons [11,34] (Z8 [] (λu2=>[]) 46 2 (List.replicate (a0.length:Int).toNat (⟨0,0⟩:qb)).length ((List.replicate (a0.length:Int).toNat (⟨0,0⟩:qb)).flatMap qa) 11 34 (λ_=>.none) (λu2 w hF=>Yr (t:=48) (k:=.i64) (m:=(a0.length:Int)) (en:=qa) (z:=(⟨0,0⟩:qb)) qe JZ rfl b3 (by kernel_rfl)) (λ_=>.inl rfl))<|.cons [7] (qr (λu2=>.slice ((u2 2).o 0) ((List.replicate (a0.length:Int).toNat (⟨0,0⟩:qb)).length) (nn u2 2)) 7)<|.nil) [0,1,2,7,32,33,34] λu2 a w' H=>?_
 refine qs ?_
 obtain ⟨j5,hj5,G⟩:=qO G
 refine Xu (λa w'=>∃ (p_j4:Option Addr) (c_j4 np_j4:Nat),np_j4=j5.length∧RL w 32 [(7,sS p_j4 np_j4 c_j4),(900010,XP 46 2 p_j4 np_j4 c_j4 (j5.flatMap qa))] a w') ?_ ?_
 ·clear H; rintro a w' ⟨p_j4,c_j4,_,rfl,H⟩
  refine qg qd H (.v 31 (.slice p_j4 j5.length c_j4)<|.v 6 (.slice p_j4 j5.length c_j4)<|.nil) [6,900010] λu6 a w' H=>?_
  refine qB ?_
  obtain rfl:=sj G
  obtain ⟨g,o0,n0⟩:=ZS p_j4 c_j4
  refine Qz H _ g _ _ _ fr [900010] [] (.slice p_j4 j5.length c_j4) [λ_=>Ql 46 2 p_j4 c_j4 j5 qa] (by simp only [Ql,o0,n0]) (by simp only [Ql,o0,n0]) hfr (.inl ⟨rfl,rfl⟩) (qk Qf qx) (by simp)
 ·clear G; replace G:=hj5; clear hj5
  refine qg qd H (.v 12 (.slice p_a0 a0.length c_a0)<|.v 13 (vI (a0.length:Int))<|.v 14 (vI 0)<|.nil) [0,1,2,7,13,14,32,33,34] λu7 a w' H=>?_
  refine qV ?_
  replace H:=H.move (K:=Ql 46 2 ((u2 2).o 0) (nn u2 2) (List.replicate (a0.length:Int).toNat (⟨0,0⟩:qb)) qa) 34 900011 (by kernel_rfl) (by intro _ _ h; cases h)
  refine XY (λm a w'=>∃ x8:List qb,∃ x9:Int,qX.l10 k0 a0 a1 m x8 x9=some j5 ∧ ∃ (p_x8:Option Addr) (c_x8 np_x8:Nat),np_x8=x8.length∧RL w 32 [(0,sS p_a0 a0.length c_a0),(1,sS p_a1 a1.length c_a1),(2,.slot true (.func (.func 114) #[] #[])),(7,sS p_x8 np_x8 c_x8),(13,(sI (a0.length:Int))),(14,sI x9),(32,qy ql 2 p_a0 c_a0 a0 qa),(33,qy ql 2 p_a1 c_a1 a1 qa),(900011,XP 46 2 p_x8 np_x8 c_x8 (x8.flatMap qa))] a w') k0 ⟨_,_,G,((u2 2).o 0),(nn u2 2),(List.replicate (a0.length:Int).toNat (⟨0,0⟩:qb)).length,rfl,H.toM _⟩ ?_
  clear G H
  rintro (_ | k) a w' ⟨x8,x9,G,p_x8,c_x8,_,rfl,H⟩
  ·exact absurd G (by unfold qX.l10; exact λh=>by cases h)
  ·unfold qX.l10 at G
   refine qg qd H (.v 15 (.bool (decide (x9<(a0.length:Int))))<|.nil) [0,1,2,7,13,14,15,32,33,900011] λu11 a w' H=>?_
   refine qs ?_
   refine Qu H (decide (x9<(a0.length:Int))) (λc25=>?_) λc25=>?_
   ·rw [if_pos c25] at G
    refine q8 ?_
    refine qs ?_
    refine qV ?_
    refine qg qd H (.v 16 (vI x9)<|.v 8 (vI x9)<|.nil) [0,1,2,7,8,13,14,32,33,900011] λu12 a w' H=>?_
    replace G:=gd G; obtain ⟨b14,G⟩:=G
    obtain ⟨t15,ht15,G⟩:=qO G
    have P16:=Xm (en:=qa) (l:=a0) (qj (H.at (K:=qy ql 2 p_a0 c_a0 a0 qa) 32 (by kernel_rfl))).2 qe
    replace G:=gd G; obtain ⟨b17,G⟩:=G
    obtain ⟨t18,ht18,G⟩:=qO G
    have P19:=Xm (en:=qa) (l:=a1) (qj (H.at (K:=qy ql 2 p_a1 c_a1 a1 qa) 33 (by kernel_rfl))).2 qe
    obtain ⟨t20,ht20,G⟩:=qO G
    replace G:=gd G; obtain ⟨b21,G⟩:=G
    obtain ⟨t22,ht22,G⟩:=qO G
    have P23:=Xm (en:=qa) (l:=x8) (qH (Qx (H.at (K:=Ql 46 2 p_x8 c_x8 x8 qa) 900011 (by kernel_rfl)))).2 qe
    refine Qq qd H (.v 17 (.slice p_x8 x8.length c_x8)<|.v 18 (vI x9)<|.v 19 (.func (.func 114) #[] #[])<|.v 20 (.slice p_a0 a0.length c_a0)<|.v 21 (vI x9)<|.cons [22] (qr (λu13=>.pointer (some ⟨XR p_a0,XV p_a0+x9.toNat*2,none⟩)) 22 (hv:=λ_ _=>Qe (t:=48) (k:=.i64) (i:=x9) (p:=p_a0) (n:=a0.length) (cap:=c_a0) (x:=a0) P16 rfl b14 (by kernel_rfl)))<|.cons [23] (qL 32 (qy ql 2 p_a0 c_a0 a0 qa) (.agg #[vI t15.Lo,vI t15.Hi]) 23 λ_ w h=>Y4 qa (qj h).2 qe ht15 0 2 [vI t15.Lo,vI t15.Hi])<|.v 24 (.slice p_a1 a1.length c_a1)<|.v 25 (vI x9)<|.cons [26] (qr (λu13=>.pointer (some ⟨XR p_a1,XV p_a1+x9.toNat*2,none⟩)) 26 (hv:=λ_ _=>Qe (t:=48) (k:=.i64) (i:=x9) (p:=p_a1) (n:=a1.length) (cap:=c_a1) (x:=a1) P19 rfl b17 (by kernel_rfl)))<|.cons [27] (qL 33 (qy ql 2 p_a1 c_a1 a1 qa) (.agg #[vI t18.Lo,vI t18.Hi]) 27 λ_ w h=>Y4 qa (qj h).2 qe ht18 0 2 [vI t18.Lo,vI t18.Hi])<|.cons [28] (qm 114 _ _ 28 [] (λu13 w _=>ZR.calls t15 t18 t20 w ht20))<|.cons [29] (qr (λu13=>.pointer (some ⟨XR p_x8,XV p_x8+x9.toNat*2,none⟩)) 29 (hv:=λ_ _=>Qe (t:=48) (k:=.i64) (i:=x9) (p:=p_x8) (n:=x8.length) (cap:=c_x8) (x:=x8) P23 rfl b21 (by kernel_rfl)))<|.cons [900011,900011] (Xt [] [] (λu13=>[]) 900011 (λu13=>Ql 46 2 p_x8 c_x8 x8 qa) none (λu13 g=>.nilFunc) (λu13 g=>XP 46 2 p_x8 x8.length c_x8 ((x8.set x9.toNat t20).flatMap qa)) (λu13 w hF hK=>ZG (XG (Qx hK) qe (y:=t20) (vs:=[vI t20.Lo,vI t20.Hi]) ht22 0 (by simp) (by simp) rfl (by kernel_rfl))))<|.nil) [0,1,2,7,13,14,32,33,900011] λu13 a w' H=>?_
    refine Qq qd H (.v 30 (vI (qc (x9+1)))<|.v 14 (vI (qc (x9+1)))<|.nil) [0,1,2,7,13,14,32,33,900011] λu24 a w' H=>?_
    exact ⟨k,Nat.lt_succ_self k,_,_,G,p_x8,c_x8,x8.length,by simp,H.toM _⟩
   ·rw [if_neg (nt c25)] at G
    refine Yx rfl ?_
    obtain rfl:=sj G
    replace H:=H.move (K:=Ql 46 2 p_x8 c_x8 x8 qa) 900011 900010 (by kernel_rfl) (by intro _ _ h; cases h)
    exact ⟨p_x8,c_x8,x8.length,rfl,H.toM _⟩
theorem Qd.ok (k0:Nat)(q0:List qb)(q1:QE)(q2:Q0)(b_q0:Nat)(p_q0:Option Addr)(c_q0:Nat)(b_q1:Nat)(p_q1_L:Option Addr)(c_q1_L:Nat)(p_q1_Out:Option Addr)(c_q1_Out:Nat)(b_q2:Nat)(fq:Nat->Prop)(kb kd lo:Nat)(hfq:∀ j,lo<=j->fq j)(r:List (List qb×List qb))(G:Qd k0 q0 q1 q2=some r) :
  qdR (γ:=Option Addr×Nat×Option Addr×Nat) Tryz.prog 111 #[vP b_q0 0,vP b_q1 0,vP b_q2 0] (λx z=>#[.slice z.1 x.1.length z.2.1,.slice z.2.2.1 x.2.length z.2.2.2]) (λx z=>[(kb,YI fq 2 z.1 x.1.length z.2.1 (x.1.flatMap qa)),(kd,YI fq 2 z.2.2.1 x.2.length z.2.2.2 (x.2.flatMap qa))]) r (λ_:Nat=>False) (λw=>Xp [qy ql 2 p_q0 c_q0 q0 qa,Xf b_q0 [.slice p_q0 q0.length c_q0] 48,qy ql 5 p_q1_L c_q1_L q1.L qi,qy ql 1 p_q1_Out c_q1_Out q1.Out q6,Xf b_q1 [vI q1.N,.slice p_q1_L q1.L.length c_q1_L,.slice p_q1_Out q1.Out.length c_q1_Out] 38,Xf b_q2 [vI q2.T,vI q2.H] 53,gk] w) (λ_=>True) lo:=by
 intro l J JX base hJ hJX hF w hJc hXc hOl hlo hY W h0 hOx hsz
 have hB:=hF _ _ h0
 obtain ⟨fr,hfr⟩:∃ fr:Nat->Prop,∀ j,fr j:=⟨λ_=>True,λ_=>trivial⟩
 have hBf:∀ j,w.heap.size<=j->fr j:=λj _=>hfr j
 have hFB:∀ x ∈ ([(44,qy ql 2 p_q0 c_q0 q0 qa),(43,Xf b_q0 [.slice p_q0 q0.length c_q0] 48),(46,qy ql 5 p_q1_L c_q1_L q1.L qi),(47,qy ql 1 p_q1_Out c_q1_Out q1.Out q6),(45,Xf b_q1 [vI q1.N,.slice p_q1_L q1.L.length c_q1_L,.slice p_q1_Out q1.Out.length c_q1_Out] 38),(48,Xf b_q2 [vI q2.T,vI q2.H] 53),(999999,gk)]:List (Nat×KV)),(∃ fp F,x.2 = .fact fp F)∧x.2.holds W ∧ ∀ i,x.2.fp i->i<W.heap.size:=by
  intro x hx
  simp only [List.mem_cons,List.not_mem_nil,or_false] at hx
  rcases hx with rfl | rfl | rfl | rfl | rfl | rfl | rfl
  ·exact qv (qj hB.1) (λ_ _=>trivial) (by decide) _
  ·exact QH (hB.2.1 W (agree.refl _ _)) _
  ·exact qv (qj hB.2.2.1) (λ_ _=>trivial) (by decide) _
  ·exact qv (qj hB.2.2.2.1) (λ_ _=>trivial) (by decide) _
  ·exact QH (hB.2.2.2.2.1 W (agree.refl _ _)) _
  ·exact QH (hB.2.2.2.2.2.1 W (agree.refl _ _)) _
  ·exact ⟨⟨_,_,rfl⟩,hB.2.2.2.2.2.2.1,Yc (Qy hB.2.2.2.2.2.2.1)⟩
 have hFX:∀ x ∈ ([(44,qy ql 2 p_q0 c_q0 q0 qa),(43,Xf b_q0 [.slice p_q0 q0.length c_q0] 48),(46,qy ql 5 p_q1_L c_q1_L q1.L qi),(47,qy ql 1 p_q1_Out c_q1_Out q1.Out q6),(45,Xf b_q1 [vI q1.N,.slice p_q1_L q1.L.length c_q1_L,.slice p_q1_Out q1.Out.length c_q1_Out] 38),(48,Xf b_q2 [vI q2.T,vI q2.H] 53),(999999,gk)]:List (Nat×KV)),(∃ fp F,x.2 = .fact fp F) ∧ ∀ i,x.2.fp i->i<base ∧ ¬ (λ_:Nat=>False) i:=λx hx=>⟨(hFB x hx).1,λi hi=>⟨by rw [<- hsz]; exact (hFB x hx).2.2 i hi,λh=>h⟩⟩
 have hFJ:∀ s W,J s W -> ∀ x ∈ ([(44,qy ql 2 p_q0 c_q0 q0 qa),(43,Xf b_q0 [.slice p_q0 q0.length c_q0] 48),(46,qy ql 5 p_q1_L c_q1_L q1.L qi),(47,qy ql 1 p_q1_Out c_q1_Out q1.Out q6),(45,Xf b_q1 [vI q1.N,.slice p_q1_L q1.L.length c_q1_L,.slice p_q1_Out q1.Out.length c_q1_Out] 38),(48,Xf b_q2 [vI q2.T,vI q2.H] 53),(999999,gk)]:List (Nat×KV)),x.2.holds W:=λs W h=>qap _ (hF _ _ h)
 have hbase:0<base:=Nat.lt_of_le_of_lt (Nat.zero_le _) ((hFX _ (.tail _ (.head _))).2 b_q0 rfl).1
 refine qak (args:=[.func (.yield l) #[] #[],vP b_q0 0,vP b_q1 0,vP b_q2 0]) 43 Tryz.func111 rfl λa H=>?_
 replace H:=(H.again W (hJc _ _ h0) (Nat.zero_le _) ([(44,qy ql 2 p_q0 c_q0 q0 qa),(43,Xf b_q0 [.slice p_q0 q0.length c_q0] 48),(46,qy ql 5 p_q1_L c_q1_L q1.L qi),(47,qy ql 1 p_q1_Out c_q1_Out q1.Out q6),(45,Xf b_q1 [vI q1.N,.slice p_q1_L q1.L.length c_q1_L,.slice p_q1_Out q1.Out.length c_q1_Out] 38),(48,Xf b_q2 [vI q2.T,vI q2.H] 53),(999999,gk)]++[(49,jO (λ_:Nat=>False) base w (J r))]) (λx hx=>(List.mem_append.1 hx).elim (hFB x) λhx=>by
  rw [List.mem_singleton.1 hx]
  exact ⟨⟨_,_,rfl⟩,qar hbase hOl (Nat.le_of_eq hsz.symm) (λW' hs=>hJ _ _ _ h0 hs) (hJc _ _ h0),λi hi=>by rw [hsz]; exact hi.1⟩)).toL [(0,.slot true (.func (.yield l) #[] #[])),(1,sP b_q0 0),(2,sP b_q1 0),(3,sP b_q2 0),(44,qy ql 2 p_q0 c_q0 q0 qa),(46,qy ql 5 p_q1_L c_q1_L q1.L qi),(47,qy ql 1 p_q1_Out c_q1_Out q1.Out q6),(43,Xf b_q0 [.slice p_q0 q0.length c_q0] 48),(45,Xf b_q1 [vI q1.N,.slice p_q1_L q1.L.length c_q1_L,.slice p_q1_Out q1.Out.length c_q1_Out] 38),(48,Xf b_q2 [vI q2.T,vI q2.H] 53),(999999,gk),(49,jO (λ_:Nat=>False) base w (J r))] (by kernel_rfl)
 clear hB hFB h0 hsz
 unfold Qd at G
 refine XJ ?_
 replace G:=qO G; obtain ⟨t2,ht2,G⟩:=G
 replace G:=qO G; obtain ⟨t3,ht3,G⟩:=G
 refine qhs qd H (.cons [7] (QV (λu1=>.slice p_q0 q0.length c_q0) 7 43 (Xf b_q0 [.slice p_q0 q0.length c_q0] 48) b_q0 0 1 [.slice p_q0 q0.length c_q0] (λw h=>Za h))<|.cons [8] (QV (λu1=>.agg #[vI q1.N,.slice p_q1_L q1.L.length c_q1_L,.slice p_q1_Out q1.Out.length c_q1_Out]) 8 45 (Xf b_q1 [vI q1.N,.slice p_q1_L q1.L.length c_q1_L,.slice p_q1_Out q1.Out.length c_q1_Out] 38) b_q1 0 3 [vI q1.N,.slice p_q1_L q1.L.length c_q1_L,.slice p_q1_Out q1.Out.length c_q1_Out] (λw h=>Za h))<|.cons [9] (QV (λu1=>.slice p_q0 q0.length c_q0) 9 43 (Xf b_q0 [.slice p_q0 q0.length c_q0] 48) b_q0 0 1 [.slice p_q0 q0.length c_q0] (λw h=>Za h))<|.cons [10] (QV (λu1=>.slice p_q0 q0.length c_q0) 10 43 (Xf b_q0 [.slice p_q0 q0.length c_q0] 48) b_q0 0 1 [.slice p_q0 q0.length c_q0] (λw h=>Za h))<|.cons [11] (QV (λu1=>.agg #[vI q2.T,vI q2.H]) 11 48 (Xf b_q2 [vI q2.T,vI q2.H] 53) b_q2 0 2 [vI q2.T,vI q2.H] (λw h=>Za h))<|.cons [12,50] (Qp false fr [] [46,47,44,999999] (λu1=>[qy ql 5 p_q1_L c_q1_L q1.L qi,qy ql 1 p_q1_Out c_q1_Out q1.Out q6,qy ql 2 p_q0 c_q0 q0 qa,gk]) [] (λu1=>[]) 113 _ _ _ _ _ [50] 12 (λu1 w hB hF hM=>YT.calls k0 (⟨q1.N,q1.L,q1.Out⟩:QE) q0 q0 q2 p_q1_L c_q1_L p_q1_Out c_q1_Out p_q0 c_q0 p_q0 c_q0 t2 w hB ht2) (λu1 w hF=>⟨⟨qP (qj hF.1) (λj h=>⟨_,(.head _),h⟩),qP (qj hF.2.1) (λj h=>⟨_,(.tail _ (.head _)),h⟩),qP (qj hF.2.2.1) (λj h=>⟨_,(.tail _ (.tail _ (.head _))),h⟩),qP (qj hF.2.2.1) (λj h=>⟨_,(.tail _ (.tail _ (.head _))),h⟩),Je hF.2.2.2.1 (.tail _ (.tail _ (.tail _ (.head _)))),trivial⟩,trivial⟩) (λu1 g=>(qk Qf qx)) (.inr (λu1 g=>(Qg trivial (λK h=>by cases h)))) (λh=>by cases h))<|.cons [13,51] (Qp false fr [5] [44,50] (λu1=>[qy ql 2 p_q0 c_q0 q0 qa,Ql 46 2 ((u1 5).o 0) (nn u1 5) t2 qa]) [] (λu1=>[]) 112 _ _ _ _ _ [51] 13 (λu1 w hB hF hM=>qX.calls k0 q0 t2 p_q0 c_q0 ((u1 5).o 0) (nn u1 5) t3 w hB ht3) (λu1 w hF=>⟨⟨qP (qj hF.1) (λj h=>⟨_,(.head _),h⟩),qP (qH (Qx hF.2.1)) (λj h=>⟨_,(.tail _ (.head _)),(YC h)⟩),trivial⟩,trivial⟩) (λu1 g=>(qk Qf qx)) (.inr (λu1 g=>(Qg trivial (λK h=>by cases h)))) (λh=>by cases h) (hloc:=λu u' h=>by refine ⟨?_,?_,?_,?_,?_,?_⟩ <;> first | rfl | simp only [nn, h 5 (by decide)]))<|.cons [5] (qr (λu1=>.slice ((u1 6).o 0) t3.length (nn u1 6)) 5)<|.nil) (by kernel_rfl) (by kernel_rfl) λu1 a w' H=>?_
 replace H:=H.kp [0,1,2,3,5,44,46,47,51,43,45,48,999999,49]
 refine XJ ?_
 refine X0 qd H (.v 14 (vI 0)<|.nil) (by kernel_rfl) (by kernel_rfl) λu4 a w' H=>?_
 replace H:=H.kp [0,1,2,3,5,14,44,46,47,51,43,45,48,999999,49]
 refine ZT ?_
 replace H:=H.move (K:=Ql 46 2 ((u1 6).o 0) (nn u1 6) t3 qa) 51 900012 (by kernel_rfl) (by intro _ _ h; cases h)
 refine qan (λm a w'=>∃ r,∃ x5:List qb,∃ x6:Int,Qd.l7 k0 q0 q1 q2 t2 t3 m x5 x6=some r ∧ ∃ (p_x5:Option Addr) (c_x5 np_x5:Nat),np_x5=x5.length∧QB 0 w 43 (Jf [(0,.slot true (.func (.yield l) #[] #[])),(1,sP b_q0 0),(2,sP b_q1 0),(3,sP b_q2 0),(5,sS p_x5 np_x5 c_x5),(14,sI x6),(44,qy ql 2 p_q0 c_q0 q0 qa),(46,qy ql 5 p_q1_L c_q1_L q1.L qi),(47,qy ql 1 p_q1_Out c_q1_Out q1.Out q6),(900012,XP 46 2 p_x5 np_x5 c_x5 (x5.flatMap qa)),(43,Xf b_q0 [.slice p_q0 q0.length c_q0] 48),(45,Xf b_q1 [vI q1.N,.slice p_q1_L q1.L.length c_q1_L,.slice p_q1_Out q1.Out.length c_q1_Out] 38),(48,Xf b_q2 [vI q2.T,vI q2.H] 53),(999999,gk),(49,jO (λ_:Nat=>False) base w (J r))]) a w') k0 ⟨_,_,_,G,((u1 6).o 0),(nn u1 6),t3.length,rfl,H.toM _⟩ ?_
 clear H G
 rintro (_ | k1) a w' ⟨r,x5,x6,G,p_x5,c_x5,_,rfl,H⟩
 ·exact absurd G (by unfold Qd.l7; exact λh=>by cases h)
 ·unfold Qd.l7 at G
  refine XJ ?_
  refine X0 qd H (.v 15 (.bool (decide (x6<8)))<|.nil) (by kernel_rfl) (by kernel_rfl) λu8 a w' H=>?_
  replace H:=H.kp [0,1,2,3,5,14,15,44,46,47,900012,43,45,48,999999,49]
  refine XJ ?_
  refine JO H (by kernel_rfl) (t:=decide (x6<8)) (by kernel_rfl) (λc27=>?_) (λc27=>?_)
  ·rw [if_pos c27] at G
   refine Z7 ?_
   refine XJ ?_
   refine ZT ?_
   refine XJ ?_
   refine XJ ?_
   replace G:=qO G; obtain ⟨t10,ht10,G⟩:=G
   refine X0 qd H (.v 16 (.slice p_x5 x5.length c_x5)<|.cons [17] (Q6 [900012] (λu9=>[Ql 46 2 p_x5 c_x5 x5 qa]) 115 _ _ 17 (λu9 w hF=>XI.calls k0 x5 p_x5 c_x5 t10 w ⟨(JU (qH (Qx hF.1))),trivial⟩ ht10))<|.v 18 (.bool (!t10))<|.nil) (by kernel_rfl) (by kernel_rfl) λu9 a w' H=>?_
   replace H:=H.kp [0,1,2,3,5,14,18,44,46,47,900012,43,45,48,999999,49]
   refine JO H (by kernel_rfl) (t:=(!t10)) (by kernel_rfl) (λc26=>?_) (λc26=>?_)
   ·rw [if_pos c26] at G
    refine J1 ?_
    obtain rfl:=sj G
    exact ⟨H.defers,_,XE H (.tuple #[]) [] (by kernel_rfl) (by simp) (by kernel_rfl),⟨_,rfl⟩,.inl ((show (jO (λ_:Nat=>False) base w (J [])).holds _ from H.holds 49) _ (agree.refl _ _) H.below)⟩
   ·rw [if_neg (nt c26)] at G
    refine Z7 ?_
    refine XJ ?_
    replace G:=qO G; obtain ⟨t12,ht12,G⟩:=G
    refine X0 qd H (.v 19 (.slice p_x5 x5.length c_x5)<|.cons [20,52] (Qp false fr [] [900012] (λu11=>[Ql 46 2 p_x5 c_x5 x5 qa]) [] (λu11=>[]) 116 _ _ _ _ _ [52] 20 (λu11 w hB hF hM=>Q4.calls k0 x5 p_x5 c_x5 t12 w hB ht12) (λu11 w hF=>⟨⟨qP (qH (Qx hF.1)) (λj h=>⟨_,(.head _),(YC h)⟩),trivial⟩,trivial⟩) (λu11 g=>(qk Qf qx)) (.inr (λu11 g=>(Qg trivial (λK h=>by cases h)))) (λh=>by cases h))<|.cons [5] (qr (λu11=>.slice ((u11 1).o 0) t12.length (nn u11 1)) 5)<|.nil) (by kernel_rfl) (by kernel_rfl) λu11 a w' H=>?_
    replace H:=H.kp [0,1,2,3,5,14,44,46,47,52,43,45,48,999999,49]
    refine XJ ?_
    refine XJ ?_
    replace G:=qO G; obtain ⟨t14,ht14,G⟩:=G
    refine X0 qd H (.v 21 (.slice ((u11 1).o 0) t12.length (nn u11 1))<|.cons [22] (Q6 [52] (λu13=>[Ql 46 2 ((u11 1).o 0) (nn u11 1) t12 qa]) 115 _ _ 22 (λu13 w hF=>XI.calls k0 t12 ((u11 1).o 0) (nn u11 1) t14 w ⟨(JU (qH (Qx hF.1))),trivial⟩ ht14))<|.v 23 (.bool (!t14))<|.nil) (by kernel_rfl) (by kernel_rfl) λu13 a w' H=>?_
    replace H:=H.kp [0,1,2,3,5,14,23,44,46,47,52,43,45,48,999999,49]
    refine JO H (by kernel_rfl) (t:=(!t14)) (by kernel_rfl) (λc25=>?_) (λc25=>?_)
    ·rw [if_pos c25] at G
     refine J1 ?_
     obtain rfl:=sj G
     exact ⟨H.defers,_,XE H (.tuple #[]) [] (by kernel_rfl) (by simp) (by kernel_rfl),⟨_,rfl⟩,.inl ((show (jO (λ_:Nat=>False) base w (J [])).holds _ from H.holds 49) _ (agree.refl _ _) H.below)⟩
    ·rw [if_neg (nt c25)] at G
     refine Z7 ?_
     refine XJ ?_
     replace G:=qO G; obtain ⟨t16,ht16,G⟩:=G
     refine X0 qd H (.cons [24] (QV (λu15=>.agg #[vI q1.N,.slice p_q1_L q1.L.length c_q1_L,.slice p_q1_Out q1.Out.length c_q1_Out]) 24 45 (Xf b_q1 [vI q1.N,.slice p_q1_L q1.L.length c_q1_L,.slice p_q1_Out q1.Out.length c_q1_Out] 38) b_q1 0 3 [vI q1.N,.slice p_q1_L q1.L.length c_q1_L,.slice p_q1_Out q1.Out.length c_q1_Out] (λw h=>Za h))<|.cons [25] (QV (λu15=>.slice p_q0 q0.length c_q0) 25 43 (Xf b_q0 [.slice p_q0 q0.length c_q0] 48) b_q0 0 1 [.slice p_q0 q0.length c_q0] (λw h=>Za h))<|.v 26 (.slice ((u11 1).o 0) t12.length (nn u11 1))<|.cons [27] (QV (λu15=>.agg #[vI q2.T,vI q2.H]) 27 48 (Xf b_q2 [vI q2.T,vI q2.H] 53) b_q2 0 2 [vI q2.T,vI q2.H] (λw h=>Za h))<|.cons [28,53] (Qp false fr [] [46,47,44,52,999999] (λu15=>[qy ql 5 p_q1_L c_q1_L q1.L qi,qy ql 1 p_q1_Out c_q1_Out q1.Out q6,qy ql 2 p_q0 c_q0 q0 qa,Ql 46 2 ((u11 1).o 0) (nn u11 1) t12 qa,gk]) [] (λu15=>[]) 113 _ _ _ _ _ [53] 28 (λu15 w hB hF hM=>YT.calls k0 (⟨q1.N,q1.L,q1.Out⟩:QE) q0 t12 q2 p_q1_L c_q1_L p_q1_Out c_q1_Out p_q0 c_q0 ((u11 1).o 0) (nn u11 1) t16 w hB ht16) (λu15 w hF=>⟨⟨qP (qj hF.1) (λj h=>⟨_,(.head _),h⟩),qP (qj hF.2.1) (λj h=>⟨_,(.tail _ (.head _)),h⟩),qP (qj hF.2.2.1) (λj h=>⟨_,(.tail _ (.tail _ (.head _))),h⟩),qP (qH (Qx hF.2.2.2.1)) (λj h=>⟨_,(.tail _ (.tail _ (.tail _ (.head _)))),(YC h)⟩),Je hF.2.2.2.2.1 (.tail _ (.tail _ (.tail _ (.tail _ (.head _))))),trivial⟩,trivial⟩) (λu15 g=>(qk Qf qx)) (.inr (λu15 g=>(Qg trivial (λK h=>by cases h)))) (λh=>by cases h))<|.cons [6] (qr (λu15=>.slice ((u15 4).o 0) t16.length (nn u15 4)) 6)<|.nil) (by kernel_rfl) (by kernel_rfl) λu15 a w' H=>?_
     replace H:=H.kp [0,1,2,3,5,6,14,44,46,47,52,53,43,45,48,999999,49]
     refine XJ ?_
     refine XJ ?_
     replace G:=qO G; obtain ⟨t18,ht18,G⟩:=G
     replace G:=qO G; obtain ⟨z19,hz19,G⟩:=G
     replace hz19:=Option.some.inj hz19
     by_cases c23:z19=true
     ·rw [if_pos c23] at G; subst c23
      refine X0 qd H (.v 29 (.slice ((u15 4).o 0) t16.length (nn u15 4))<|.cons [30] (Q6 [53] (λu17=>[Ql 46 2 ((u15 4).o 0) (nn u15 4) t16 qa]) 115 _ _ 30 (λu17 w hF=>XI.calls k0 t16 ((u15 4).o 0) (nn u15 4) t18 w ⟨(JU (qH (Qx hF.1))),trivial⟩ ht18))<|.v 31 (.bool (!t18))<|.cons [32] (QF (u':=λu17=>[(32,sB true)]) (qr (λu17=>.bool (!t18)) 32) (λ_=>by rw [hz19]))<|.cons [33] (Y9 33)<|.cons [34] (Y9 34)<|.cons [35] (Y9 35)<|.cons [36] (Y9 36)<|.cons [37] (Y9 37)<|.cons [38] (JK (λu17=>.bool true) 38)<|.nil) (by kernel_rfl) (by kernel_rfl) λu17 a w' H=>?_
      replace H:=H.kp [0,1,2,3,5,6,14,33,34,35,36,37,38,44,46,47,52,53,43,45,48,999999,49]
      refine JW H (by kernel_rfl) (by kernel_rfl) ?_
      refine J1 ?_
      obtain rfl:=sj G
      exact ⟨H.defers,_,XE H (.tuple #[]) [] (by kernel_rfl) (by simp) (by kernel_rfl),⟨_,rfl⟩,.inl ((show (jO (λ_:Nat=>False) base w (J [])).holds _ from H.holds 49) _ (agree.refl _ _) H.below)⟩
     rw [if_neg c23] at G
     by_cases c24:z19=false
     ·rw [if_pos c24] at G; subst c24
      have hgb:=H.geRow (base:=base) (J:=J r) (e:=46) (sz:=2) (m:=t12.length) (cap:=(nn u11 1)) (p:=((u11 1).o 0)) (xs:=t12.flatMap qa) 49 52 (by kernel_rfl) (by kernel_rfl) (by rfl)
      have hgd:=H.geRow (base:=base) (J:=J r) (e:=46) (sz:=2) (m:=t16.length) (cap:=(nn u15 4)) (p:=((u15 4).o 0)) (xs:=t16.flatMap qa) 49 53 (by kernel_rfl) (by kernel_rfl) (by rfl)
      replace G:=qO G; obtain ⟨r,hr,G⟩:=G; obtain rfl:=sj G; replace G:=hr; clear hr
      refine qgG (qd7 (Rp:=qez (λ_:Nat=>False) 49 [44,43,46,47,45,48,999999] [52,53] base w 43) qd ⟨H.toM [(0,.slot true (.func (.yield l) #[] #[])),(1,sP b_q0 0),(2,sP b_q1 0),(3,sP b_q2 0),(5,(sS ((u11 1).o 0) t12.length (nn u11 1))),(6,(sS ((u15 4).o 0) t16.length (nn u15 4))),(14,sI x6),(44,qy ql 2 p_q0 c_q0 q0 qa),(46,qy ql 5 p_q1_L c_q1_L q1.L qi),(47,qy ql 1 p_q1_Out c_q1_Out q1.Out q6),(52,Ql 46 2 ((u11 1).o 0) (nn u11 1) t12 qa),(53,Ql 46 2 ((u15 4).o 0) (nn u15 4) t16 qa),(43,Xf b_q0 [.slice p_q0 q0.length c_q0] 48),(45,Xf b_q1 [vI q1.N,.slice p_q1_L q1.L.length c_q1_L,.slice p_q1_Out q1.Out.length c_q1_Out] 38),(48,Xf b_q2 [vI q2.T,vI q2.H] 53),(999999,gk),(49,jO (λ_:Nat=>False) base w (J ((t12,t16) :: r)))] (by kernel_rfl),qaN _ (by kernel_rfl)⟩ (.cons [29] (okg (qr (λu17=>.slice ((u15 4).o 0) t16.length (nn u15 4)) 29))<|.cons [30] (okg (Q6 [53] (λu17=>[Ql 46 2 ((u15 4).o 0) (nn u15 4) t16 qa]) 115 _ _ 30 (λu17 w hF=>XI.calls k0 t16 ((u15 4).o 0) (nn u15 4) t18 w ⟨(JU (qH (Qx hF.1))),trivial⟩ ht18)))<|.cons [31] (okg (qr (λu17=>.bool (!t18)) 31))<|.cons [32] (okg (QF (u':=λu17=>[(32,sB false)]) (qr (λu17=>.bool (!t18)) 32) (λ_=>by rw [hz19])))<|.cons [33] (okg (Vw (qr (λu17=>.func (.yield l) #[] #[]) 33) (by intro _; kernel_rfl)))<|.cons [34] (okg (Vw (qr (λu17=>.slice ((u11 1).o 0) t12.length (nn u11 1)) 34) (by intro _; kernel_rfl)))<|.cons [35] (okg (Vw (qr (λu17=>.slice ((u15 4).o 0) t16.length (nn u15 4)) 35) (by intro _; kernel_rfl)))<|.cons [36,49,44,43,46,47,45,48,999999,52,53] (WR (O:=(λ_:Nat=>False)) (base:=base) 49 [44,43,46,47,45,48,999999] [52,53] l (λu17=>#[.slice ((u11 1).o 0) t12.length (nn u11 1),.slice ((u15 4).o 0) t16.length (nn u15 4)]) (J ((t12,t16) :: r)) (J r) JX 36 hbase hOl (by intro _; kernel_rfl) (λu17 W1 h1 hb1 hk1=>hY (t12,t16) (((u11 1).o 0),(nn u11 1),((u15 4).o 0),(nn u15 4)) r W1 h1 hb1 (λx hx=>by
   simp only [List.mem_cons,List.not_mem_nil,or_false] at hx
   rcases hx with rfl | rfl
   ·exact qbv kb (by decide) (λj h=>hfq j (Nat.le_trans hlo h)) hgb (qH (Qx (show (Ql 46 2 ((u11 1).o 0) (nn u11 1) t12 qa).holds _ from (hk1 52 (by decide)).1)))
   ·exact qbv kd (by decide) (λj h=>hfq j (Nat.le_trans hlo h)) hgd (qH (Qx (show (Ql 46 2 ((u15 4).o 0) (nn u15 4) t16 qa).holds _ from (hk1 53 (by decide)).1))))) (λW1 W2 h1 h2=>hJ _ _ _ h1 h2) hJX (λW1 h1=>hJc _ _ h1) hXc (by rfl) (by rfl) (by rfl))<|.cons [37] (okg (Vw (qr (λu17=>.bool (!(decide (nn u17 7=1)))) 37) (by intro _; kernel_rfl)))<|.cons [38] (okg (JK (λu17=>.bool (!(decide (nn u17 7=1)))) 38))<|(.nil)) (by kernel_rfl) (λS a w1 h=>⟨h.1.world ⟨rfl,rfl,rfl,Nat.le_refl _,λ_ _=>rfl⟩,h.2⟩) λu17 a w' H=>?_)
      replace H:=H.1.toL [(0,.slot true (.func (.yield l) #[] #[])),(1,sP b_q0 0),(2,sP b_q1 0),(3,sP b_q2 0),(5,(sS ((u11 1).o 0) t12.length (nn u11 1))),(6,(sS ((u15 4).o 0) t16.length (nn u15 4))),(14,sI x6),(33,.slot true (.func (.yield l) #[] #[])),(34,(sS ((u11 1).o 0) t12.length (nn u11 1))),(35,(sS ((u15 4).o 0) t16.length (nn u15 4))),(36,(sB (decide (nn u17 7=1)))),(37,(sB (!(decide (nn u17 7=1))))),(38,(sB (!(decide (nn u17 7=1))))),(52,bif decide (nn u17 7=1) then Ql 46 2 ((u11 1).o 0) (nn u11 1) t12 qa else .none),(53,bif decide (nn u17 7=1) then Ql 46 2 ((u15 4).o 0) (nn u15 4) t16 qa else .none),(49,bif decide (nn u17 7=1) then jO (λ_:Nat=>False) base w (J r) else jK ((u17 7).n 1) w JX)] (by kernel_rfl)
      rcases Bool.eq_false_or_eq_true (decide (nn u17 7=1)) with hb | hb
      ·rw [hb] at H
       replace H:=H.kp [0,1,2,3,5,6,14,33,34,35,36,37,38,52,53,49]
       replace H:=(QB.readdO (O:=(λ_:Nat=>False)) (J:=J r) 49 [(44,qy ql 2 p_q0 c_q0 q0 qa),(43,Xf b_q0 [.slice p_q0 q0.length c_q0] 48),(46,qy ql 5 p_q1_L c_q1_L q1.L qi),(47,qy ql 1 p_q1_Out c_q1_Out q1.Out q6),(45,Xf b_q1 [vI q1.N,.slice p_q1_L q1.L.length c_q1_L,.slice p_q1_Out q1.Out.length c_q1_Out] 38),(48,Xf b_q2 [vI q2.T,vI q2.H] 53),(999999,gk)] _ H hFX (λW1 h1=>hFJ _ _ h1) (by kernel_rfl) (qaw (O:=(λ_:Nat=>False)) (J:=J r) hbase hOl 49 H (by kernel_rfl)) (by rfl)).toL [(0,.slot true (.func (.yield l) #[] #[])),(1,sP b_q0 0),(2,sP b_q1 0),(3,sP b_q2 0),(5,(sS ((u11 1).o 0) t12.length (nn u11 1))),(6,(sS ((u15 4).o 0) t16.length (nn u15 4))),(14,sI x6),(33,.slot true (.func (.yield l) #[] #[])),(34,(sS ((u11 1).o 0) t12.length (nn u11 1))),(35,(sS ((u15 4).o 0) t16.length (nn u15 4))),(36,sB true),(37,sB false),(38,sB false),(44,qy ql 2 p_q0 c_q0 q0 qa),(46,qy ql 5 p_q1_L c_q1_L q1.L qi),(47,qy ql 1 p_q1_Out c_q1_Out q1.Out q6),(52,Ql 46 2 ((u11 1).o 0) (nn u11 1) t12 qa),(53,Ql 46 2 ((u15 4).o 0) (nn u15 4) t16 qa),(43,Xf b_q0 [.slice p_q0 q0.length c_q0] 48),(45,Xf b_q1 [vI q1.N,.slice p_q1_L q1.L.length c_q1_L,.slice p_q1_Out q1.Out.length c_q1_Out] 38),(48,Xf b_q2 [vI q2.T,vI q2.H] 53),(999999,gk),(49,jO (λ_:Nat=>False) base w (J r))] (by kernel_rfl)
       refine JD H (by kernel_rfl) (by kernel_rfl) ?_
       refine Z7 ?_
       replace G:=qO G; obtain ⟨t21,ht21,G⟩:=G
       refine X0 qd H (.v 39 (.slice ((u11 1).o 0) t12.length (nn u11 1))<|.v 40 (.slice ((u15 4).o 0) t16.length (nn u15 4))<|.cons [41,54] (Qp false fr [] [52,53] (λu20=>[Ql 46 2 ((u11 1).o 0) (nn u11 1) t12 qa,Ql 46 2 ((u15 4).o 0) (nn u15 4) t16 qa]) [] (λu20=>[]) 112 _ _ _ _ _ [54] 41 (λu20 w hB hF hM=>qX.calls k0 t12 t16 ((u11 1).o 0) (nn u11 1) ((u15 4).o 0) (nn u15 4) t21 w hB ht21) (λu20 w hF=>⟨⟨qP (qH (Qx hF.1)) (λj h=>⟨_,(.head _),(YC h)⟩),qP (qH (Qx hF.2.1)) (λj h=>⟨_,(.tail _ (.head _)),(YC h)⟩),trivial⟩,trivial⟩) (λu20 g=>(qk Qf qx)) (.inr (λu20 g=>(Qg trivial (λK h=>by cases h)))) (λh=>by cases h))<|.cons [5] (qr (λu20=>.slice ((u20 2).o 0) t21.length (nn u20 2)) 5)<|.nil) (by kernel_rfl) (by kernel_rfl) λu20 a w' H=>?_
       replace H:=H.kp [0,1,2,3,5,14,33,34,35,36,37,44,46,47,52,53,54,43,45,48,999999,49]
       refine X0 qd H (.v 42 (vI (qc (x6+1)))<|.v 14 (vI (qc (x6+1)))<|.nil) (by kernel_rfl) (by kernel_rfl) λu22 a w' H=>?_
       replace H:=H.kp [0,1,2,3,5,14,33,34,35,36,37,44,46,47,52,53,54,43,45,48,999999,49]
       replace H:=H.move (K:=Ql 46 2 ((u20 2).o 0) (nn u20 2) t21 qa) 54 900012 (by kernel_rfl) (by intro _ _ h; cases h)
       exact ⟨k1,Nat.lt_succ_self k1,_,_,_,G,((u20 2).o 0),(nn u20 2),t21.length,rfl,H.toM _⟩
      ·clear G; rw [hb] at H
       replace H:=H.kp [0,1,2,3,5,6,14,33,34,35,36,37,38,49]
       refine JW H (by kernel_rfl) (by kernel_rfl) ?_
       refine J1 ?_
       exact ⟨H.defers,_,XE H (.tuple #[]) [] (by kernel_rfl) (by simp) (by kernel_rfl),⟨_,rfl⟩,.inr ((show (jK ((u17 7).n 1) w JX).holds _ from H.holds 49) _ (agree.refl _ _) H.below)⟩
     rw [if_neg c24] at G
     cases G
  ·rw [if_neg (nt c27)] at G
   refine We rfl ?_
   obtain rfl:=sj G
   exact ⟨H.defers,_,XE H (.tuple #[]) [] (by kernel_rfl) (by simp) (by kernel_rfl),⟨_,rfl⟩,.inl ((show (jO (λ_:Nat=>False) base w (J [])).holds _ from H.holds 49) _ (agree.refl _ _) H.below)⟩
theorem QT.calls (k0:Nat)(a0:QE)(a1:List qb)(a2:Q0)(p_a0_L:Option Addr)(c_a0_L:Nat)(p_a0_Out:Option Addr)(c_a0_Out:Nat)(p_a1:Option Addr)(c_a1:Nat)(r:List qb×Bool)(w:World)(hB:Xp [qy ql 5 p_a0_L c_a0_L a0.L qi,qy ql 1 p_a0_Out c_a0_Out a0.Out q6,qy ql 2 p_a1 c_a1 a1 qa,gk] w)(G:QT k0 a0 a1 a2=some r) :
  Calls Tryz.prog 78 #[.agg #[vI a0.N,.slice p_a0_L a0.L.length c_a0_L,.slice p_a0_Out a0.Out.length c_a0_Out],.slice p_a1 a1.length c_a1,.agg #[vI a2.T,vI a2.H]] w λe w'=>∃ g:Gh,e = .returned (.tuple #[.slice (g.o 0) r.1.length (g.n 0),.bool r.2])∧Zj (YR []) w w'∧Ye w.heap.size (YR []) (JS w.heap.size []) [λfr=>YI fr 2 (g.o 0) r.1.length (g.n 0) (r.1.flatMap qa)] w':=by
 obtain ⟨fr,hfr,hBf⟩:=VT w []
 refine Wu (args:=[.agg #[vI a0.N,.slice p_a0_L a0.L.length c_a0_L,.slice p_a0_Out a0.Out.length c_a0_Out],.slice p_a1 a1.length c_a1,.agg #[vI a2.T,vI a2.H]]) 24 [(24,qy ql 5 p_a0_L c_a0_L a0.L qi),(25,qy ql 1 p_a0_Out c_a0_Out a0.Out q6),(26,qy ql 2 p_a1 c_a1 a1 qa),(999999,gk)] (by
  intro x hx
  simp only [List.mem_cons,List.not_mem_nil,or_false] at hx
  rcases hx with rfl | rfl | rfl | rfl
  ·exact qv (qj hB.1) (λ_ _=>trivial) (by decide) _
  ·exact qv (qj hB.2.1) (λ_ _=>trivial) (by decide) _
  ·exact qv (qj hB.2.2.1) (λ_ _=>trivial) (by decide) _
  ·exact ⟨⟨_,_,rfl⟩,hB.2.2.2.1,Yc (Qy hB.2.2.2.1)⟩) Tryz.func78 rfl λa H=>?_
 unfold QT at G
 refine qg qd H (.cons [3,27] (qn (λb=>vP b 0) (λu1=>[vI a0.N,.slice p_a0_L a0.L.length c_a0_L,.slice p_a0_Out a0.Out.length c_a0_Out]) 38 3 27)<|.cons [5,28] (qn (λb=>vP b 0) (λu1=>[vI a2.T,vI a2.H]) 53 5 28)<|.v 6 (.slice none 0 0)<|.v 7 (.bool false)<|.nil) [1,3,5,6,7,24,25,26,27,28,999999] λu1 a w' H=>?_
 refine qdz ?_
 refine qg qd H (.cons [8,29] (qn (λb=>vP b 0) (λu2=>[.slice none 0 0]) 48 8 29)<|.nil) [1,3,5,6,7,8,24,25,26,27,28,29,999999] λu2 a w' H=>?_
 refine qs ?_
 refine qdC ?_
 refine qs ?_
 refine qg qd H (.cons [11] (qf (.agg #[vI a0.N,.slice p_a0_L a0.L.length c_a0_L,.slice p_a0_Out a0.Out.length c_a0_Out]) 11 27 0 3 (nn u1 0) [vI a0.N,.slice p_a0_L a0.L.length c_a0_L,.slice p_a0_Out a0.Out.length c_a0_Out] 38)<|.v 12 (.slice p_a1 a1.length c_a1)<|.cons [13] (qf (.agg #[vI a2.T,vI a2.H]) 13 28 0 2 (nn u1 1) [vI a2.T,vI a2.H] 53)<|.cons [14,30,31,32] (qeo 95 (λu3=>#[.agg #[vI a0.N,.slice p_a0_L a0.L.length c_a0_L,.slice p_a0_Out a0.Out.length c_a0_Out],.slice p_a1 a1.length c_a1,.agg #[vI a2.T,vI a2.H]]) (λb1 b2 b3=>.func (.func 111) #[] #[vP b2 0,vP b1 0,vP b3 0]) [vI a0.N,.slice p_a0_L a0.L.length c_a0_L,.slice p_a0_Out a0.Out.length c_a0_Out] [.slice p_a1 a1.length c_a1] [vI a2.T,vI a2.H] 38 48 53 14 30 31 32 (λ_ w=>picard_candidates.calls (⟨a0.N,a0.L,a0.Out⟩:QE) p_a0_L a0.L.length c_a0_L p_a0_Out a0.Out.length c_a0_Out a1 p_a1 a1.length c_a1 a2 w))<|.nil) [6,7,8,14,24,25,26,29,30,31,32,999999] λu3 a w' H=>?_
 refine qV ?_
 replace G:=qO G; obtain ⟨t5,ht5,G⟩:=G
 refine qaM (γ:=Option Addr×Nat×Option Addr×Nat) (λx z=>#[.slice z.1 x.1.length z.2.1,.slice z.2.2.1 x.2.length z.2.2.2]) (λx z=>[(36,qy fr 2 z.1 z.2.1 x.1 qa),(37,qy fr 2 z.2.2.1 z.2.2.2 x.2 qa)]) (λx z=>[(15,sS z.1 x.1.length z.2.1),(16,sS z.2.2.1 x.2.length z.2.2.2)]) t5 (λ_:Nat=>False) [] (λw=>Xp [qy ql 2 p_a1 c_a1 a1 qa,Xf ((u3 3).n 1) [.slice p_a1 a1.length c_a1] 48,qy ql 5 p_a0_L c_a0_L a0.L qi,qy ql 1 p_a0_Out c_a0_Out a0.Out q6,Xf (nn u3 3) [vI a0.N,.slice p_a0_L a0.L.length c_a0_L,.slice p_a0_Out a0.Out.length c_a0_Out] 38,Xf ((u3 3).n 2) [vI a2.T,vI a2.H] 53,gk] w) (λ_=>True) 33 34 35 0 _ (λzs L=>QT.l6 k0 a0 a1 a2 zs=some r∧L=[(24,qy ql 5 p_a0_L c_a0_L a0.L qi),(25,qy ql 1 p_a0_Out c_a0_Out a0.Out q6),(26,qy ql 2 p_a1 c_a1 a1 qa),(29,.blk (nn u2 0) [.slice none 0 0] 48),(30,.blk (nn u3 3) [vI a0.N,.slice p_a0_L a0.L.length c_a0_L,.slice p_a0_Out a0.Out.length c_a0_Out] 38),(31,.blk ((u3 3).n 1) [.slice p_a1 a1.length c_a1] 48),(32,.blk ((u3 3).n 2) [vI a2.T,vI a2.H] 53),(999999,gk)]) (λ_=>False) (λL=>∃ x7:List qb,QT.l8 k0 a0 a1 a2 x7=some r ∧ ∃ (p_x7:Option Addr) (c_x7 np_x7:Nat),np_x7=x7.length∧L=[(24,qy ql 5 p_a0_L c_a0_L a0.L qi),(25,qy ql 1 p_a0_Out c_a0_Out a0.Out q6),(26,qy ql 2 p_a1 c_a1 a1 qa),(29,.blk (nn u2 0) [.slice p_x7 np_x7 c_x7] 48),(30,.blk (nn u3 3) [vI a0.N,.slice p_a0_L a0.L.length c_a0_L,.slice p_a0_Out a0.Out.length c_a0_Out] 38),(31,.blk ((u3 3).n 1) [.slice p_a1 a1.length c_a1] 48),(32,.blk ((u3 3).n 2) [vI a2.T,vI a2.H] 53),(900013,YI fr 2 p_x7 np_x7 c_x7 (x7.flatMap qa)),(999999,gk)]) [(24,qy ql 5 p_a0_L c_a0_L a0.L qi),(25,qy ql 1 p_a0_Out c_a0_Out a0.Out q6),(26,qy ql 2 p_a1 c_a1 a1 qa),(29,.blk (nn u2 0) [.slice none 0 0] 48),(30,.blk (nn u3 3) [vI a0.N,.slice p_a0_L a0.L.length c_a0_L,.slice p_a0_Out a0.Out.length c_a0_Out] 38),(31,.blk ((u3 3).n 1) [.slice p_a1 a1.length c_a1] 48),(32,.blk ((u3 3).n 2) [vI a2.T,vI a2.H] 53),(999999,gk)] H (by kernel_rfl) (by kernel_rfl) (VU Tryz.func111 (by kernel_rfl) rfl) (Qd.ok k0 a1 (⟨a0.N,a0.L,a0.Out⟩:QE) a2 ((u3 3).n 1) p_a1 c_a1 (nn u3 3) p_a0_L c_a0_L p_a0_Out c_a0_Out ((u3 3).n 2) fr 36 37 _ hBf t5 ht5) (λx=>qg9 15 16 (λz:Option Addr×Nat×Option Addr×Nat=>.slice z.1 x.1.length z.2.1) (λz:Option Addr×Nat×Option Addr×Nat=>.slice z.2.2.1 x.2.length z.2.2.2) (by rfl) (by rfl)) rfl (λi hi=>hi.elim) (λ_ _=>trivial) ⟨G,rfl⟩ (by kernel_rfl) (by kernel_rfl) (by kernel_rfl) (by kernel_rfl) (by kernel_rfl) (by kernel_rfl) (by rintro zs L ⟨G,rfl⟩ x hx; simp only [List.mem_cons,List.not_mem_nil,or_false] at hx; rcases hx with rfl | rfl | rfl | rfl | rfl | rfl | rfl | rfl; all_goals exact ⟨by simp,λi hi=>hi⟩) (by rintro zs L a w ⟨G,rfl⟩ h; have hF:Xp [qy ql 2 p_a1 c_a1 a1 qa,.blk ((u3 3).n 1) [.slice p_a1 a1.length c_a1] 48,qy ql 5 p_a0_L c_a0_L a0.L qi,qy ql 1 p_a0_Out c_a0_Out a0.Out q6,.blk (nn u3 3) [vI a0.N,.slice p_a0_L a0.L.length c_a0_L,.slice p_a0_Out a0.Out.length c_a0_Out] 38,.blk ((u3 3).n 2) [vI a2.T,vI a2.H] 53,gk] w:=⟨h.at (K:=qy ql 2 p_a1 c_a1 a1 qa) 26 (by kernel_rfl),h.at (K:=.blk ((u3 3).n 1) [.slice p_a1 a1.length c_a1] 48) 31 (by kernel_rfl),h.at (K:=qy ql 5 p_a0_L c_a0_L a0.L qi) 24 (by kernel_rfl),h.at (K:=qy ql 1 p_a0_Out c_a0_Out a0.Out q6) 25 (by kernel_rfl),h.at (K:=.blk (nn u3 3) [vI a0.N,.slice p_a0_L a0.L.length c_a0_L,.slice p_a0_Out a0.Out.length c_a0_Out] 38) 30 (by kernel_rfl),h.at (K:=.blk ((u3 3).n 2) [vI a2.T,vI a2.H] 53) 32 (by kernel_rfl),h.at (K:=gk) 999999 (by kernel_rfl),trivial⟩; exact ⟨(JU (qj hF.1)),(QH hF.2.1 0).2.1,(JU (qj hF.2.2.1)),(JU (qj hF.2.2.2.1)),(QH hF.2.2.2.2.1 0).2.1,(QH hF.2.2.2.2.2.1 0).2.1,hF.2.2.2.2.2.2.1,trivial⟩) ?_ ?_ ?_ ?_
 ·clear H G; rintro li Di bi oR oD Wi x z zs L a w' hbi ⟨G,rfl⟩ H
  unfold QT.l6 at G
  replace H:=H.kp [6,7,8,14,15,16,24,25,26,29,30,31,32,36,37,999999,33,34,35]
  refine XJ ?_
  refine X0 qd H (.v 9 (.slice z.1 x.1.length z.2.1)<|.nil) (by kernel_rfl) (by kernel_rfl) λu11 a w' H=>?_
  replace H:=H.kp [6,7,8,9,14,16,24,25,26,29,30,31,32,36,37,999999,33,34,35]
  refine X0 qd H (.v 10 (.slice z.2.2.1 x.2.length z.2.2.2)<|.nil) (by kernel_rfl) (by kernel_rfl) λu12 a w' H=>?_
  replace H:=H.kp [6,7,8,9,10,14,24,25,26,29,30,31,32,36,37,999999,33,34,35]
  refine ⟨_,H,by kernel_rfl,λoB w' H=>?_⟩
  replace H:=H.kp [6,7,8,9,10,14,24,25,26,29,30,31,32,36,37,999999,33,34,35]
  refine ZT ?_
  refine XJ ?_
  replace G:=qO G; obtain ⟨t14,ht14,G⟩:=G
  refine X0 qd H (.v 17 (.slice z.2.2.1 x.2.length z.2.2.2)<|.v 18 (.slice z.1 x.1.length z.2.1)<|.cons [19] (Q6 [37,36] (λu13=>[qy fr 2 z.2.2.1 z.2.2.2 x.2 qa,qy fr 2 z.1 z.2.1 x.1 qa]) 96 _ _ 19 (λu13 w hF=>XH.calls k0 x.2 x.1 z.2.2.1 z.2.2.2 z.1 z.2.1 t14 w ⟨(JU (qj hF.1)),(JU (qj hF.2.1)),trivial⟩ ht14))<|.nil) (by kernel_rfl) (by kernel_rfl) λu13 a w' H=>?_
  replace H:=H.kp [6,7,8,10,14,19,24,25,26,29,30,31,32,37,999999,33,34,35]
  refine JO H (by kernel_rfl) (t:=t14) (by kernel_rfl) (λc16=>?_) (λc16=>?_)
  ·rw [if_pos c16] at G
   refine XJ ?_
   refine X0 qd H (.v 20 (.slice z.2.2.1 x.2.length z.2.2.2)<|.cons [29] (qQ 29 0 (nn u2 0) [.slice none 0 0] [.slice z.2.2.1 x.2.length z.2.2.2] 48 [.slice z.2.2.1 x.2.length z.2.2.2])<|.nil) (by kernel_rfl) (by kernel_rfl) λu15 a w' H=>?_
   replace H:=H.kp [6,7,8,14,24,25,26,29,30,31,32,37,999999,33,34,35]
   refine We rfl ?_
   replace H:=H.dup (K:=qy fr 2 z.2.2.1 z.2.2.2 x.2 qa) 37 900013 (by kernel_rfl) (λh=>h) (by intro _ _ h; cases h)
   exact ⟨_,⟨_,G,z.2.2.1,z.2.2.2,x.2.length,rfl,rfl⟩,by kernel_rfl,H.toM _⟩
  ·rw [if_neg (nt c16)] at G
   refine Z7 ?_
   exact ⟨_,⟨G,rfl⟩,by kernel_rfl,H.toM _⟩
 ·clear H G; rintro Di L W ⟨G,rfl⟩ H
  unfold QT.l6 at G
  replace H:=H.kp [6,7,8,14,24,25,26,29,30,31,32,999999,34]
  refine Wn ?_
  refine XJ ?_
  refine X0 qd H (.cons [21] (qf (.slice none 0 0) 21 29 0 1 (nn u2 0) [.slice none 0 0] 48)<|.cons [22] (qf (.slice none 0 0) 22 29 0 1 (nn u2 0) [.slice none 0 0] 48)<|.v 23 (.bool false)<|.v 6 (.slice none 0 0)<|.v 7 (.bool false)<|.nil) (by kernel_rfl) (by kernel_rfl) λu17 a w' H=>?_
  replace H:=H.kp [6,7,999999,34]
  refine J1 ?_
  obtain rfl:=sj G
  replace H:=H.nil_row 39 46 2
  replace H:=H.demote fr 39 46 2 none 0 0 (([]:List qb).flatMap qa) (by kernel_rfl) (by decide) hBf
  obtain ⟨g,o0,n0⟩:=ZS none 0
  refine VJ 34 H (by kernel_rfl) λw' H=>?_
  refine Qz H _ g _ _ _ fr [39] [] (.tuple #[.slice none 0 0,.bool false]) [λfr=>YI fr 2 none 0 0 (([]:List qb).flatMap qa)] (by simp only [Ql,o0,n0,List.length_set,List.length_cons,List.length_nil,Nat.zero_add,Nat.reduceAdd]) (by simp only [Ql,o0,n0,List.length_set,List.length_cons,List.length_nil,Nat.zero_add,Nat.reduceAdd]) hfr (.inl ⟨rfl,rfl⟩) (qk (QP (by decide)) qx) (by simp)
 ·clear H G; rintro Di L W h H; exact h.elim
 ·clear H G; rintro Di L W ⟨x7,G,p_x7,c_x7,_,rfl,rfl⟩ H
  unfold QT.l8 at G
  replace H:=H.kp [6,7,8,14,24,25,26,29,30,31,32,900013,999999,34]
  refine Wn ?_
  refine XJ ?_
  replace G:=gd G; obtain ⟨b10,G⟩:=G
  refine X0 qd H (.cons [21] (qf (.slice p_x7 x7.length c_x7) 21 29 0 1 (nn u2 0) [.slice p_x7 x7.length c_x7] 48)<|.cons [22] (qf (.slice p_x7 x7.length c_x7) 22 29 0 1 (nn u2 0) [.slice p_x7 x7.length c_x7] 48)<|.cons [23] (Zb [900013] (λu9=>[qy fr 2 p_x7 c_x7 x7 qa]) (λu9=>.bool true) (λu9=>true) [true,true] 23 (λu9 w _ hF=>qgg (qj hF.1).2 (by have:=(qj hF.1).2.len qe (by decide); omega) (λa e=>by subst e; kernel_rfl)))<|.v 6 (.slice p_x7 x7.length c_x7)<|.v 7 (.bool true)<|.nil) (by kernel_rfl) (by kernel_rfl) λu9 a w' H=>?_
  replace H:=H.kp [6,7,900013,999999,34]
  refine J1 ?_
  obtain rfl:=sj G
  obtain ⟨g,o0,n0⟩:=ZS p_x7 c_x7
  refine VJ 34 H (by kernel_rfl) λw' H=>?_
  refine Qz H _ g _ _ _ fr [900013] [] (.tuple #[.slice p_x7 x7.length c_x7,.bool true]) [λfr=>qy fr 2 p_x7 c_x7 x7 qa] (by simp only [Ql,o0,n0]) (by simp only [Ql,o0,n0]) hfr (.inl ⟨rfl,rfl⟩) (qk (QP (by decide)) qx) (by simp)
theorem YE.calls (a0:Int)(r:qb)(w:World)(G:YE a0=some r) :
  Calls Tryz.prog 46 #[vI a0] w λe w'=>e = .returned (.agg #[vI r.Lo,vI r.Hi])∧Below w.heap.size w w':=by
 refine Qs (args:=[vI a0]) 6 Tryz.func46 rfl λa H=>?_
 unfold YE at G
 refine qg qd H (.cons [2,6] (qn (λb=>vP b 0) (λu1=>[vI 0,vI 0]) 46 2 6)<|.nil) [0,2,6] λu1 a w' H=>?_
 obtain ⟨t3,ht3,G⟩:=qO G
 refine qg qd H (.v 3 (vI a0)<|.v 4 (vI a0)<|.cons [5] (qm 68 _ _ 5 [] (λu2 w _=>qD.calls a0 a0 t3 w ht3))<|.cons [6] (qQ 6 0 (nn u1 0) [vI 0,vI 0] [vI t3.Lo,vI t3.Hi] 46 [vI t3.Lo,vI t3.Hi])<|.nil) [2,6] λu2 a w' H=>?_
 refine qB ?_
 obtain rfl:=sj G
 exact qY H _ 6 (nn u1 0) [vI t3.Lo,vI t3.Hi] 46 0 2
theorem Yh.calls (a0:qb)(r:qb)(w:World)(G:Yh a0=some r) :
  Calls Tryz.prog 130 #[.agg #[vI a0.Lo,vI a0.Hi]] w λe w'=>e = .returned (.agg #[vI r.Lo,vI r.Hi])∧Below w.heap.size w w':=by
 refine Qs (args:=[.agg #[vI a0.Lo,vI a0.Hi]]) 4 Tryz.func130 rfl λa H=>?_
 unfold Yh at G
 refine qg qd H (.cons [1,4] (qn (λb=>vP b 0) (λu1=>[vI a0.Lo,vI a0.Hi]) 46 1 4)<|.cons [2,5] (qn (λb=>vP b 0) (λu1=>[vI 0,vI 0]) 46 2 5)<|.nil) [1,2,4,5] λu1 a w' H=>?_
 refine qg qd H (.cons [3] (qf (.agg #[vI a0.Lo,vI a0.Hi]) 3 4 0 2 (nn u1 0) [vI a0.Lo,vI a0.Hi] 46)<|.cons [5] (qQ 5 0 (nn u1 1) [vI 0,vI 0] [vI a0.Lo,vI a0.Hi] 46 [vI a0.Lo,vI a0.Hi])<|.nil) [2,5] λu2 a w' H=>?_
 refine qB ?_
 obtain rfl:=sj G
 exact qY H _ 5 (nn u1 1) [vI a0.Lo,vI a0.Hi] 46 0 2
theorem Qw.calls (k0:Nat)(a0:List qb)(a1:List qb)(a2:List qb)(p_a0:Option Addr)(c_a0:Nat)(p_a1:Option Addr)(c_a1:Nat)(p_a2:Option Addr)(c_a2:Nat)(r:qb)(w:World)(hB:Xp [qy ql 2 p_a0 c_a0 a0 qa,qy ql 2 p_a1 c_a1 a1 qa,qy ql 2 p_a2 c_a2 a2 qa,gk] w)(G:Qw k0 a0 a1 a2=some r) :
  Calls Tryz.prog 131 #[.slice p_a0 a0.length c_a0,.slice p_a1 a1.length c_a1,.slice p_a2 a2.length c_a2] w λe w'=>e = .returned (.agg #[vI r.Lo,vI r.Hi])∧Below w.heap.size w w':=by
 obtain ⟨fr,hfr⟩:∃ fr:Nat->Prop,∀ j,fr j:=⟨λ_=>True,λ_=>trivial⟩
 have hBf:∀ j,w.heap.size<=j->fr j:=λj _=>hfr j
 refine QA (args:=[.slice p_a0 a0.length c_a0,.slice p_a1 a1.length c_a1,.slice p_a2 a2.length c_a2]) 54 [(54,qy ql 2 p_a0 c_a0 a0 qa),(55,qy ql 2 p_a1 c_a1 a1 qa),(56,qy ql 2 p_a2 c_a2 a2 qa),(999999,gk)] (by
  intro x hx
  simp only [List.mem_cons,List.not_mem_nil,or_false] at hx
  rcases hx with rfl | rfl | rfl | rfl
  ·exact qv (qj hB.1) (λ_ _=>trivial) (by decide) _
  ·exact qv (qj hB.2.1) (λ_ _=>trivial) (by decide) _
  ·exact qv (qj hB.2.2.1) (λ_ _=>trivial) (by decide) _
  ·exact ⟨⟨_,_,rfl⟩,hB.2.2.2.1,Yc (Qy hB.2.2.2.1)⟩) Tryz.func131 rfl λa H=>?_
 unfold Qw at G
 refine qg qd H (.cons [6,57] (qn (λb=>vP b 0) (λu1=>[vI 0,vI 0]) 46 6 57)<|.nil) [0,1,2,6,54,55,56,57,999999] λu1 a w' H=>?_
 refine qg qd H (.v 11 (.slice p_a2 a2.length c_a2)<|.v 12 (vI (a2.length:Int))<|.v 7 (vI (a2.length:Int))<|.nil) [0,1,2,6,7,54,55,56,57,999999] λu2 a w' H=>?_
 refine qs ?_
 refine qg qd H (.v 13 (vI (a2.length:Int))<|.v 14 (.bool ((a2.length:Int)==0))<|.nil) [0,1,2,6,7,14,54,55,56,57,999999] λu3 a w' H=>?_
 refine Qu H ((a2.length:Int)==0) (λc49=>?_) λc49=>?_
 ·rw [if_pos c49] at G
  refine qs ?_
  replace G:=gd G; obtain ⟨b5,G⟩:=G
  obtain ⟨t6,ht6,G⟩:=qO G
  have P7:=Xm (en:=qa) (l:=a0) (qj (H.at (K:=qy ql 2 p_a0 c_a0 a0 qa) 54 (by kernel_rfl))).2 qe
  replace G:=gd G; obtain ⟨b8,G⟩:=G
  obtain ⟨t9,ht9,G⟩:=qO G
  have P10:=Xm (en:=qa) (l:=a1) (qj (H.at (K:=qy ql 2 p_a1 c_a1 a1 qa) 55 (by kernel_rfl))).2 qe
  obtain ⟨t11,ht11,G⟩:=qO G
  refine Qq qd H (.v 15 (.slice p_a0 a0.length c_a0)<|.cons [16] (qr (λu4=>.pointer (some ⟨XR p_a0,XV p_a0+((0:Int).toNat)*2,none⟩)) 16 (hv:=λ_ _=>Qe (t:=48) (k:=.i64) (i:=(0:Int)) (p:=p_a0) (n:=a0.length) (cap:=c_a0) (x:=a0) P7 rfl b5 (by kernel_rfl)))<|.cons [17] (qL 54 (qy ql 2 p_a0 c_a0 a0 qa) (.agg #[vI t6.Lo,vI t6.Hi]) 17 λ_ w h=>Y4 qa (qj h).2 qe ht6 0 2 [vI t6.Lo,vI t6.Hi])<|.v 18 (.slice p_a1 a1.length c_a1)<|.cons [19] (qr (λu4=>.pointer (some ⟨XR p_a1,XV p_a1+((0:Int).toNat)*2,none⟩)) 19 (hv:=λ_ _=>Qe (t:=48) (k:=.i64) (i:=(0:Int)) (p:=p_a1) (n:=a1.length) (cap:=c_a1) (x:=a1) P10 rfl b8 (by kernel_rfl)))<|.cons [20] (qL 55 (qy ql 2 p_a1 c_a1 a1 qa) (.agg #[vI t9.Lo,vI t9.Hi]) 20 λ_ w h=>Y4 qa (qj h).2 qe ht9 0 2 [vI t9.Lo,vI t9.Hi])<|.cons [21] (Q6 [999999] (λu4=>[gk]) 137 _ _ 21 (λu4 w hF=>QW.calls t6 t9 t11 w (Qy hF.1) ht11))<|.cons [57] (qQ 57 0 (nn u1 0) [vI 0,vI 0] [vI t11.Lo,vI t11.Hi] 46 [vI t11.Lo,vI t11.Hi])<|.nil) [6,57,999999] λu4 a w' H=>?_
  refine qB ?_
  obtain rfl:=sj G
  exact qY H _ 57 (nn u1 0) [vI t11.Lo,vI t11.Hi] 46 0 2
 ·rw [if_neg (nt c49)] at G
  refine q8 ?_
  refine qg qd H (.cons [8,58] (qn (λb=>vP b 0) (λu12=>[vI 0,vI 0]) 46 8 58)<|.nil) [0,1,2,6,7,8,54,55,56,57,58,999999] λu12 a w' H=>?_
  refine qs ?_
  obtain ⟨j15,hj15,G⟩:=qO G
  refine Xu (λa w'=>RL w 54 [(0,sS p_a0 a0.length c_a0),(1,sS p_a1 a1.length c_a1),(6,(sP (nn u1 0) 0)),(7,(sI (a2.length:Int))),(8,(sP (nn u12 0) 0)),(54,qy ql 2 p_a0 c_a0 a0 qa),(55,qy ql 2 p_a1 c_a1 a1 qa),(57,.blk (nn u1 0) [vI 0,vI 0] 46),(58,.blk (nn u12 0) [vI j15.1,vI j15.2] 46),(999999,gk)] a w') ?_ ?_
  ·clear H; intro a w' H
   refine qs ?_
   replace G:=gd G; obtain ⟨b17,G⟩:=G
   obtain ⟨t18,ht18,G⟩:=qO G
   have P19:=Xm (en:=qa) (l:=a0) (qj (H.at (K:=qy ql 2 p_a0 c_a0 a0 qa) 54 (by kernel_rfl))).2 qe
   obtain ⟨t20,ht20,G⟩:=qO G
   replace G:=gd G; obtain ⟨b21,G⟩:=G
   obtain ⟨t22,ht22,G⟩:=qO G
   have P23:=Xm (en:=qa) (l:=a1) (qj (H.at (K:=qy ql 2 p_a1 c_a1 a1 qa) 55 (by kernel_rfl))).2 qe
   obtain ⟨t24,ht24,G⟩:=qO G
   refine Qq qd H (.v 44 (.slice p_a0 a0.length c_a0)<|.v 45 (vI (a2.length:Int))<|.cons [46] (qr (λu16=>.pointer (some ⟨XR p_a0,XV p_a0+((a2.length:Int).toNat)*2,none⟩)) 46 (hv:=λ_ _=>Qe (t:=48) (k:=.i64) (i:=(a2.length:Int)) (p:=p_a0) (n:=a0.length) (cap:=c_a0) (x:=a0) P19 rfl b17 (by kernel_rfl)))<|.cons [47] (qL 54 (qy ql 2 p_a0 c_a0 a0 qa) (.agg #[vI t18.Lo,vI t18.Hi]) 47 λ_ w h=>Y4 qa (qj h).2 qe ht18 0 2 [vI t18.Lo,vI t18.Hi])<|.cons [48] (qf (.agg #[vI j15.1,vI j15.2]) 48 58 0 2 (nn u12 0) [vI j15.1,vI j15.2] 46)<|.cons [49] (qm 92 _ _ 49 [] (λu16 w _=>Xh.calls t18 (⟨j15.1,j15.2⟩:qb) t20 w ht20))<|.v 50 (.slice p_a1 a1.length c_a1)<|.cons [51] (qr (λu16=>.pointer (some ⟨XR p_a1,XV p_a1+((0:Int).toNat)*2,none⟩)) 51 (hv:=λ_ _=>Qe (t:=48) (k:=.i64) (i:=(0:Int)) (p:=p_a1) (n:=a1.length) (cap:=c_a1) (x:=a1) P23 rfl b21 (by kernel_rfl)))<|.cons [52] (qL 55 (qy ql 2 p_a1 c_a1 a1 qa) (.agg #[vI t22.Lo,vI t22.Hi]) 52 λ_ w h=>Y4 qa (qj h).2 qe ht22 0 2 [vI t22.Lo,vI t22.Hi])<|.cons [53] (Q6 [999999] (λu16=>[gk]) 137 _ _ 53 (λu16 w hF=>QW.calls t20 t22 t24 w (Qy hF.1) ht24))<|.cons [57] (qQ 57 0 (nn u1 0) [vI 0,vI 0] [vI t24.Lo,vI t24.Hi] 46 [vI t24.Lo,vI t24.Hi])<|.nil) [6,57,999999] λu16 a w' H=>?_
   refine qB ?_
   obtain rfl:=sj G
   exact qY H _ 57 (nn u1 0) [vI t24.Lo,vI t24.Hi] 46 0 2
  ·clear G; replace G:=hj15; clear hj15
   refine qg qd H (.v 9 (vI 1)<|.nil) [0,1,2,6,7,8,9,54,55,56,57,58,999999] λu25 a w' H=>?_
   refine qV ?_
   refine XY (λm a w'=>∃ x26:Int,∃ x27:Int,∃ x28:Int,Qw.l29 k0 a0 a1 a2 m x26 x27 x28=some j15∧RL w 54 [(0,sS p_a0 a0.length c_a0),(1,sS p_a1 a1.length c_a1),(2,sS p_a2 a2.length c_a2),(6,(sP (nn u1 0) 0)),(7,(sI (a2.length:Int))),(8,(sP (nn u12 0) 0)),(9,sI x28),(54,qy ql 2 p_a0 c_a0 a0 qa),(55,qy ql 2 p_a1 c_a1 a1 qa),(56,qy ql 2 p_a2 c_a2 a2 qa),(57,.blk (nn u1 0) [vI 0,vI 0] 46),(58,.blk (nn u12 0) [vI x26,vI x27] 46),(999999,gk)] a w') k0 ⟨_,_,_,G,H.toM _⟩ ?_
   clear G H
   rintro (_ | k) a w' ⟨x26,x27,x28,G,H⟩
   ·exact absurd G (by unfold Qw.l29; exact λh=>by cases h)
   ·unfold Qw.l29 at G
    refine qs ?_
    refine qg qd H (.v 22 (vI x28)<|.v 23 (vI (a2.length:Int))<|.v 24 (.bool (decide (x28<=(a2.length:Int))))<|.nil) [0,1,2,6,7,8,9,24,54,55,56,57,58,999999] λu30 a w' H=>?_
    refine Qu H (decide (x28<=(a2.length:Int))) (λc48=>?_) λc48=>?_
    ·rw [if_pos c48] at G
     refine q8 ?_
     refine qs ?_
     refine qV ?_
     refine qs ?_
     replace G:=gd G; obtain ⟨b32,G⟩:=G
     obtain ⟨t33,ht33,G⟩:=qO G
     have P34:=Xm (en:=qa) (l:=a1) (qj (H.at (K:=qy ql 2 p_a1 c_a1 a1 qa) 55 (by kernel_rfl))).2 qe
     replace G:=gd G; obtain ⟨b35,G⟩:=G
     obtain ⟨t36,ht36,G⟩:=qO G
     have P37:=Xm (en:=qa) (l:=a2) (qj (H.at (K:=qy ql 2 p_a2 c_a2 a2 qa) 56 (by kernel_rfl))).2 qe
     obtain ⟨t38,ht38,G⟩:=qO G
     refine Qq qd H (.v 27 (.slice p_a1 a1.length c_a1)<|.v 28 (vI x28)<|.cons [29] (qr (λu31=>.pointer (some ⟨XR p_a1,XV p_a1+x28.toNat*2,none⟩)) 29 (hv:=λ_ _=>Qe (t:=48) (k:=.i64) (i:=x28) (p:=p_a1) (n:=a1.length) (cap:=c_a1) (x:=a1) P34 rfl b32 (by kernel_rfl)))<|.cons [30] (qL 55 (qy ql 2 p_a1 c_a1 a1 qa) (.agg #[vI t33.Lo,vI t33.Hi]) 30 λ_ w h=>Y4 qa (qj h).2 qe ht33 0 2 [vI t33.Lo,vI t33.Hi])<|.v 31 (.slice p_a2 a2.length c_a2)<|.v 32 (vI (a2.length:Int))<|.v 33 (vI x28)<|.v 34 (vI (qc ((a2.length:Int)-x28)))<|.cons [35] (qr (λu31=>.pointer (some ⟨XR p_a2,XV p_a2+((qc ((a2.length:Int)-x28)).toNat)*2,none⟩)) 35 (hv:=λ_ _=>Qe (t:=48) (k:=.i64) (i:=qc ((a2.length:Int)-x28)) (p:=p_a2) (n:=a2.length) (cap:=c_a2) (x:=a2) P37 rfl b35 (by kernel_rfl)))<|.cons [36] (qL 56 (qy ql 2 p_a2 c_a2 a2 qa) (.agg #[vI t36.Lo,vI t36.Hi]) 36 λ_ w h=>Y4 qa (qj h).2 qe ht36 0 2 [vI t36.Lo,vI t36.Hi])<|.cons [37] (Q6 [999999] (λu31=>[gk]) 127 _ _ 37 (λu31 w hF=>Q5.calls t33 t36 t38 w (Qy hF.1) ht38))<|.cons [10,59] (qn (λb=>vP b 0) (λu31=>[vI 0,vI 0]) 46 10 59)<|.cons [59] (QF (u':=λu31=>[(59,.blk (nn u31 11) [vI t38.Lo,vI t38.Hi] 46)]) (qK 59 0 (λu31=>(nn u31 11)) (λu31=>[vI 0,vI 0]) (λu31=>[vI t38.Lo,vI t38.Hi]) 46) (λ_=>by kernel_rfl))<|.nil) [0,1,2,6,7,8,9,10,54,55,56,57,58,59,999999] λu31 a w' H=>?_
     refine qs ?_
     obtain ⟨j41,hj41,G⟩:=qO G
     refine Xu (λa w'=>RL w 54 [(0,sS p_a0 a0.length c_a0),(1,sS p_a1 a1.length c_a1),(2,sS p_a2 a2.length c_a2),(6,(sP (nn u1 0) 0)),(7,(sI (a2.length:Int))),(8,(sP (nn u12 0) 0)),(9,sI x28),(10,(sP (nn u31 11) 0)),(54,qy ql 2 p_a0 c_a0 a0 qa),(55,qy ql 2 p_a1 c_a1 a1 qa),(56,qy ql 2 p_a2 c_a2 a2 qa),(57,.blk (nn u1 0) [vI 0,vI 0] 46),(58,.blk (nn u12 0) [vI x26,vI x27] 46),(59,.blk (nn u31 11) [vI j41.1,vI j41.2] 46),(999999,gk)] a w') ?_ ?_
     ·clear H; intro a w' H
      refine Qq qd H (.cons [43] (qf (.agg #[vI j41.1,vI j41.2]) 43 59 0 2 (nn u31 11) [vI j41.1,vI j41.2] 46)<|.cons [58] (qQ 58 0 (nn u12 0) [vI x26,vI x27] [vI j41.1,vI j41.2] 46 [vI j41.1,vI j41.2])<|.nil) [0,1,2,6,7,8,9,54,55,56,57,58,999999] λu42 a w' H=>?_
      refine Qq qd H (.v 25 (vI x28)<|.v 26 (vI (qc (x28+1)))<|.v 9 (vI (qc (x28+1)))<|.nil) [0,1,2,6,7,8,9,54,55,56,57,58,999999] λu43 a w' H=>?_
      exact ⟨k,Nat.lt_succ_self k,_,_,_,G,H.toM _⟩
     ·clear G; replace G:=hj41; clear hj41
      refine qg qd H (.v 38 (vI x28)<|.v 39 (.bool (decide (x28>1)))<|.nil) [0,1,2,6,7,8,9,10,39,54,55,56,57,58,59,999999] λu44 a w' H=>?_
      refine Qu H (decide (x28>1)) (λc47=>?_) λc47=>?_
      ·rw [if_pos c47] at G
       obtain ⟨t46,ht46,G⟩:=qO G
       refine Qq qd H (.cons [40] (qf (.agg #[vI x26,vI x27]) 40 58 0 2 (nn u12 0) [vI x26,vI x27] 46)<|.cons [41] (qf (.agg #[vI t38.Lo,vI t38.Hi]) 41 59 0 2 (nn u31 11) [vI t38.Lo,vI t38.Hi] 46)<|.cons [42] (qm 90 _ _ 42 [] (λu45 w _=>QM.calls (⟨x26,x27⟩:qb) t38 t46 w ht46))<|.cons [59] (qQ 59 0 (nn u31 11) [vI t38.Lo,vI t38.Hi] [vI t46.Lo,vI t46.Hi] 46 [vI t46.Lo,vI t46.Hi])<|.nil) [0,1,2,6,7,8,9,10,54,55,56,57,58,59,999999] λu45 a w' H=>?_
       obtain rfl:=sj G
       exact H.toM _
      ·rw [if_neg (nt c47)] at G
       refine q8 ?_
       obtain rfl:=sj G
       exact H.toM _
    ·rw [if_neg (nt c48)] at G
     refine Yx rfl ?_
     obtain rfl:=sj G
     exact H.toM _
theorem Yq.calls (a0:Int)(a1:Int)(a2:Int)(r:Int×Int×Int)(w:World)(G:Yq a0 a1 a2=some r) :
  Calls Tryz.prog 140 #[vI a0,vI a1,vI a2] w λe w'=>e = .returned (.tuple #[vI r.1,vI r.2.1,vI r.2.2])∧Below w.heap.size w w':=by
 refine Qs (args:=[vI a0,vI a1,vI a2]) 35 Tryz.func140 rfl λa H=>?_
 unfold Yq at G
 refine qg qd H (.v 6 (vI 0)<|.v 7 (vI 0)<|.v 8 (vI 0)<|.nil) [0,1,2] λu1 a w' H=>?_
 refine qs ?_
 refine qg qd H (.v 11 (vI a1)<|.v 12 (.bool (decide (a1<(-1073741824))))<|.v 13 (.bool (decide (a1<(-1073741824))))<|.cons [14] (qE (λu2=>vI a1) (λu2=>((decide (a1<(-1073741824)))==false)) [true] 14)<|.cons [15] (qE (λu2=>.bool (decide (a1>1073741824))) (λu2=>((decide (a1<(-1073741824)))==false)) [false,true] 15)<|.cons [16] (Zx 13 15 (λu2=>true) (λu2=>true) (λu2=>decide (a1<(-1073741824))) (λu2=>decide (a1>1073741824)) 16)<|.v 17 (.bool ((decide (a1<(-1073741824)))||(decide (a1>1073741824))))<|.cons [18] (qE (λu2=>vI a2) (λu2=>(((decide (a1<(-1073741824)))||(decide (a1>1073741824)))==false)) [true] 18)<|.cons [19] (qE (λu2=>.bool (decide (a2<1))) (λu2=>(((decide (a1<(-1073741824)))||(decide (a1>1073741824)))==false)) [false,true] 19)<|.cons [20] (Zx 17 19 (λu2=>true) (λu2=>true) (λu2=>((decide (a1<(-1073741824)))||(decide (a1>1073741824)))) (λu2=>decide (a2<1)) 20)<|.v 21 (.bool (((decide (a1<(-1073741824)))||(decide (a1>1073741824)))||(decide (a2<1))))<|.cons [22] (qE (λu2=>vI a2) (λu2=>((((decide (a1<(-1073741824)))||(decide (a1>1073741824)))||(decide (a2<1)))==false)) [true] 22)<|.cons [23] (qE (λu2=>.bool (decide (a2>1073741824))) (λu2=>((((decide (a1<(-1073741824)))||(decide (a1>1073741824)))||(decide (a2<1)))==false)) [false,true] 23)<|.cons [24] (Zx 21 23 (λu2=>true) (λu2=>true) (λu2=>(((decide (a1<(-1073741824)))||(decide (a1>1073741824)))||(decide (a2<1)))) (λu2=>decide (a2>1073741824)) 24)<|.nil) [0,1,2,24] λu2 a w' H=>?_
 refine Qu H ((((decide (a1<(-1073741824)))||(decide (a1>1073741824)))||(decide (a2<1)))||(decide (a2>1073741824))) (λc7=>?_) λc7=>?_
 ·rw [if_pos c7] at G
  refine qg qd H (.v 6 (vI 0)<|.v 7 (vI 0)<|.v 8 (vI 1)<|.nil) [6,7,8] λu3 a w' H=>?_
  refine qB ?_
  obtain rfl:=sj G
  exact Qr H _
 ·rw [if_neg (nt c7)] at G
  refine q8 ?_
  obtain ⟨t5,ht5,G⟩:=qO G
  refine qg qd H (.v 26 (vI a0)<|.v 27 (vI a1)<|.v 28 (vI (qc (a0*a1)))<|.v 29 (vI a2)<|.cons [30] (qm 75 _ _ 30 [] (λu4 w _=>XX.calls (qc (a0*a1)) a2 t5 w ht5))<|.v 25 (.tuple #[vI t5.1,vI t5.2])<|.v 31 (vI t5.1)<|.v 32 (vI t5.2)<|.v 9 (vI t5.1)<|.v 10 (vI t5.2)<|.nil) [9,10] λu4 a w' H=>?_
  refine qg qd H (.v 33 (vI t5.1)<|.v 34 (vI t5.2)<|.v 6 (vI t5.1)<|.v 7 (vI t5.2)<|.v 8 (vI 0)<|.nil) [6,7,8] λu6 a w' H=>?_
  refine qB ?_
  obtain rfl:=sj G
  exact Qr H _
theorem Xy.calls (a0:Bool)(a1:Int)(a2:Int)(r:Int)(w:World)(G:Xy a0 a1 a2=some r) :
  Calls Tryz.prog 141 #[.bool a0,vI a1,vI a2] w λe w'=>e = .returned (vI r)∧Below w.heap.size w w':=by
 refine Qs (args:=[.bool a0,vI a1,vI a2]) 10 Tryz.func141 rfl λa H=>?_
 unfold Xy at G
 refine qg qd H (.v 6 (vI 0)<|.nil) [0,1,2] λu1 a w' H=>?_
 refine qs ?_
 refine qg qd H (.v 7 (.bool a0)<|.nil) [1,2,7] λu2 a w' H=>?_
 refine Qu H a0 (λc5=>?_) λc5=>?_
 ·rw [if_pos c5] at G
  refine qg qd H (.v 8 (vI a1)<|.v 6 (vI a1)<|.nil) [6] λu3 a w' H=>?_
  refine qB ?_
  obtain rfl:=sj G
  exact Qr H _
 ·rw [if_neg (nt c5)] at G
  refine q8 ?_
  refine qg qd H (.v 9 (vI a2)<|.v 6 (vI a2)<|.nil) [6] λu4 a w' H=>?_
  refine qB ?_
  obtain rfl:=sj G
  exact Qr H _
theorem XO.calls (a0:qb)(a1:Int)(a2:Int)(r:qb)(w:World)(G:XO a0 a1 a2=some r) :
  Calls Tryz.prog 134 #[.agg #[vI a0.Lo,vI a0.Hi],vI a1,vI a2] w λe w'=>e = .returned (.agg #[vI r.Lo,vI r.Hi])∧Below w.heap.size w w':=by
 refine Qs (args:=[.agg #[vI a0.Lo,vI a0.Hi],vI a1,vI a2]) 47 Tryz.func134 rfl λa H=>?_
 unfold XO at G
 refine qg qd H (.cons [3,47] (qn (λb=>vP b 0) (λu1=>[vI a0.Lo,vI a0.Hi]) 46 3 47)<|.cons [6,48] (qn (λb=>vP b 0) (λu1=>[vI 0,vI 0]) 46 6 48)<|.nil) [1,2,3,6,47,48] λu1 a w' H=>?_
 refine qs ?_
 obtain ⟨t3,ht3,G⟩:=qO G
 refine qg qd H (.cons [13] (qf (.agg #[vI a0.Lo,vI a0.Hi]) 13 47 0 2 (nn u1 0) [vI a0.Lo,vI a0.Hi] 46)<|.cons [14] (qm 21 _ _ 14 [] (λu2 w _=>qN.calls a0 t3 w ht3))<|.nil) [1,2,3,6,14,47,48] λu2 a w' H=>?_
 refine Qu H t3 (λc13=>?_) λc13=>?_
 ·rw [if_pos c13] at G
  refine qg qd H (.cons [15] (qf (.agg #[vI a0.Lo,vI a0.Hi]) 15 47 0 2 (nn u1 0) [vI a0.Lo,vI a0.Hi] 46)<|.cons [48] (qQ 48 0 (nn u1 1) [vI 0,vI 0] [vI a0.Lo,vI a0.Hi] 46 [vI a0.Lo,vI a0.Hi])<|.nil) [6,48] λu4 a w' H=>?_
  refine qB ?_
  obtain rfl:=sj G
  exact qY H _ 48 (nn u1 1) [vI a0.Lo,vI a0.Hi] 46 0 2
 ·rw [if_neg (nt c13)] at G
  refine q8 ?_
  obtain ⟨t6,ht6,G⟩:=qO G
  obtain ⟨t7,ht7,G⟩:=qO G
  refine qg qd H (.v 17 (vI a1)<|.v 18 (.bool (decide (a1<0)))<|.v 19 (vP (nn u1 0) 1)<|.cons [20] (qf (vI a0.Hi) 20 47 1 1 (nn u1 0) [vI a0.Lo,vI a0.Hi] 46)<|.v 21 (vP (nn u1 0) 0)<|.cons [22] (qf (vI a0.Lo) 22 47 0 1 (nn u1 0) [vI a0.Lo,vI a0.Hi] 46)<|.cons [23] (qm 141 _ _ 23 [] (λu5 w _=>Xy.calls (decide (a1<0)) a0.Hi a0.Lo t6 w ht6))<|.v 24 (vI a1)<|.v 25 (vI a2)<|.cons [26] (qm 140 _ _ 26 [] (λu5 w _=>Yq.calls t6 a1 a2 t7 w ht7))<|.v 16 (.tuple #[vI t7.1,vI t7.2.1,vI t7.2.2])<|.v 27 (vI t7.1)<|.v 28 (vI t7.2.1)<|.v 29 (vI t7.2.2)<|.v 7 (vI t7.1)<|.v 8 (vI t7.2.1)<|.v 9 (vI t7.2.2)<|.nil) [1,2,3,6,7,47,48] λu5 a w' H=>?_
  obtain ⟨t9,ht9,G⟩:=qO G
  obtain ⟨t10,ht10,G⟩:=qO G
  refine qg qd H (.v 31 (vI a1)<|.v 32 (.bool (decide (a1<0)))<|.v 33 (vP (nn u1 0) 0)<|.cons [34] (qf (vI a0.Lo) 34 47 0 1 (nn u1 0) [vI a0.Lo,vI a0.Hi] 46)<|.v 35 (vP (nn u1 0) 1)<|.cons [36] (qf (vI a0.Hi) 36 47 1 1 (nn u1 0) [vI a0.Lo,vI a0.Hi] 46)<|.cons [37] (qm 141 _ _ 37 [] (λu8 w _=>Xy.calls (decide (a1<0)) a0.Lo a0.Hi t9 w ht9))<|.v 38 (vI a1)<|.v 39 (vI a2)<|.cons [40] (qm 140 _ _ 40 [] (λu8 w _=>Yq.calls t9 a1 a2 t10 w ht10))<|.v 30 (.tuple #[vI t10.1,vI t10.2.1,vI t10.2.2])<|.v 41 (vI t10.1)<|.v 42 (vI t10.2.1)<|.v 43 (vI t10.2.2)<|.v 10 (vI t10.1)<|.v 11 (vI t10.2.1)<|.v 12 (vI t10.2.2)<|.nil) [6,7,11,48] λu8 a w' H=>?_
  obtain ⟨t12,ht12,G⟩:=qO G
  refine qg qd H (.v 44 (vI t7.1)<|.v 45 (vI t10.2.1)<|.cons [46] (qm 68 _ _ 46 [] (λu11 w _=>qD.calls t7.1 t10.2.1 t12 w ht12))<|.cons [48] (qQ 48 0 (nn u1 1) [vI 0,vI 0] [vI t12.Lo,vI t12.Hi] 46 [vI t12.Lo,vI t12.Hi])<|.nil) [6,48] λu11 a w' H=>?_
  refine qB ?_
  obtain rfl:=sj G
  exact qY H _ 48 (nn u1 1) [vI t12.Lo,vI t12.Hi] 46 0 2
theorem qG.calls (k0:Nat)(a1:List qb)(a2:List qb)(a3:Int)(a4:Int)(a5:Int)(p_a1:Option Addr)(c_a1:Nat)(p_a2:Option Addr)(c_a2:Nat)(r:qb)(w:World)(hB:Xp [qy ql 2 p_a1 c_a1 a1 qa,qy ql 2 p_a2 c_a2 a2 qa,gk] w)(G:qG k0 a1 a2 a3 a4 a5=some r) :
  Calls Tryz.prog 139 #[.agg F9.toArray,.slice p_a1 a1.length c_a1,.slice p_a2 a2.length c_a2,vI a3,vI a4,vI a5] w λe w'=>e = .returned (.agg #[vI r.Lo,vI r.Hi])∧Below w.heap.size w w':=by
 obtain ⟨fr,hfr⟩:∃ fr:Nat->Prop,∀ j,fr j:=⟨λ_=>True,λ_=>trivial⟩
 have hBf:∀ j,w.heap.size<=j->fr j:=λj _=>hfr j
 refine QA (args:=[.agg F9.toArray,.slice p_a1 a1.length c_a1,.slice p_a2 a2.length c_a2,vI a3,vI a4,vI a5]) 49 [(49,qy ql 2 p_a1 c_a1 a1 qa),(50,qy ql 2 p_a2 c_a2 a2 qa),(999999,gk)] (by
  intro x hx
  simp only [List.mem_cons,List.not_mem_nil,or_false] at hx
  rcases hx with rfl | rfl | rfl
  ·exact qv (qj hB.1) (λ_ _=>trivial) (by decide) _
  ·exact qv (qj hB.2.1) (λ_ _=>trivial) (by decide) _
  ·exact ⟨⟨_,_,rfl⟩,hB.2.2.1,Yc (Qy hB.2.2.1)⟩) Tryz.func139 rfl λa H=>?_
 unfold qG at G
 refine qg qd H (.cons [6,51] (qn (λb=>vP b 0) (λu1=>F9) 215 6 51)<|.cons [12,52] (qn (λb=>vP b 0) (λu1=>[vI 0,vI 0]) 46 12 52)<|.nil) [1,2,3,4,5,6,12,49,50,51,52,999999] λu1 a w' H=>?_
 obtain ⟨t3,ht3,G⟩:=qO G
 refine qg qd H (.v 16 (vP (nn u1 0) 0)<|.cons [17] (qf (.func (.func 130) #[] #[]) 17 51 0 1 (nn u1 0) F9 215)<|.v 18 (.agg #[vI 0,vI 0])<|.cons [19] (qm 130 _ _ 19 [] (λu2 w _=>Yh.calls (⟨0,0⟩:qb) t3 w ht3))<|.cons [13,53] (qn (λb=>vP b 0) (λu2=>[vI 0,vI 0]) 46 13 53)<|.cons [53] (QF (u':=λu2=>[(53,.blk (nn u2 4) [vI t3.Lo,vI t3.Hi] 46)]) (qK 53 0 (λu2=>(nn u2 4)) (λu2=>[vI 0,vI 0]) (λu2=>[vI t3.Lo,vI t3.Hi]) 46) (λ_=>by kernel_rfl))<|.nil) [1,2,3,4,5,6,12,13,49,50,51,52,53,999999] λu2 a w' H=>?_
 refine qs ?_
 obtain ⟨j6,hj6,G⟩:=qO G
 refine Xu (λa w'=>RL w 49 [(12,(sP (nn u1 1) 0)),(13,(sP (nn u2 4) 0)),(52,.blk (nn u1 1) [vI 0,vI 0] 46),(53,.blk (nn u2 4) [vI j6.1,vI j6.2] 46),(999999,gk)] a w') ?_ ?_
 ·clear H; intro a w' H
  refine qg qd H (.cons [48] (qf (.agg #[vI j6.1,vI j6.2]) 48 53 0 2 (nn u2 4) [vI j6.1,vI j6.2] 46)<|.cons [52] (qQ 52 0 (nn u1 1) [vI 0,vI 0] [vI j6.1,vI j6.2] 46 [vI j6.1,vI j6.2])<|.nil) [12,52,999999] λu7 a w' H=>?_
  refine qB ?_
  obtain rfl:=sj G
  exact qY H _ 52 (nn u1 1) [vI j6.1,vI j6.2] 46 0 2
 ·clear G; replace G:=hj6; clear hj6
  refine qg qd H (.v 20 (vI a3)<|.v 14 (vI a3)<|.nil) [1,2,3,4,5,6,12,13,14,49,50,51,52,53,999999] λu8 a w' H=>?_
  refine qV ?_
  refine XY (λm a w'=>∃ x9:Int,∃ x10:Int,∃ x11:Int,qG.l12 k0 a1 a2 a3 a4 a5 t3 m x9 x10 x11=some j6∧RL w 49 [(1,sS p_a1 a1.length c_a1),(2,sS p_a2 a2.length c_a2),(3,sI a3),(4,sI a4),(5,sI a5),(6,(sP (nn u1 0) 0)),(12,(sP (nn u1 1) 0)),(13,(sP (nn u2 4) 0)),(14,sI x11),(49,qy ql 2 p_a1 c_a1 a1 qa),(50,qy ql 2 p_a2 c_a2 a2 qa),(51,.blk (nn u1 0) F9 215),(52,.blk (nn u1 1) [vI 0,vI 0] 46),(53,.blk (nn u2 4) [vI x9,vI x10] 46),(999999,gk)] a w') k0 ⟨_,_,_,G,H.toM _⟩ ?_
  clear G H
  rintro (_ | k) a w' ⟨x9,x10,x11,G,H⟩
  ·exact absurd G (by unfold qG.l12; exact λh=>by cases h)
  ·unfold qG.l12 at G
   refine qs ?_
   refine qg qd H (.v 21 (vI x11)<|.v 22 (vI a4)<|.v 23 (.bool (decide (x11<=a4)))<|.nil) [1,2,3,4,5,6,12,13,14,23,49,50,51,52,53,999999] λu13 a w' H=>?_
   refine Qu H (decide (x11<=a4)) (λc31=>?_) λc31=>?_
   ·rw [if_pos c31] at G
    refine q8 ?_
    refine qs ?_
    refine qV ?_
    refine qs ?_
    replace G:=gd G; obtain ⟨b15,G⟩:=G
    obtain ⟨t16,ht16,G⟩:=qO G
    have P17:=Xm (en:=qa) (l:=a1) (qj (H.at (K:=qy ql 2 p_a1 c_a1 a1 qa) 49 (by kernel_rfl))).2 qe
    replace G:=gd G; obtain ⟨b18,G⟩:=G
    obtain ⟨t19,ht19,G⟩:=qO G
    have P20:=Xm (en:=qa) (l:=a2) (qj (H.at (K:=qy ql 2 p_a2 c_a2 a2 qa) 50 (by kernel_rfl))).2 qe
    obtain ⟨t21,ht21,G⟩:=qO G
    refine Qq qd H (.v 26 (vP (nn u1 0) 4)<|.cons [27] (qf (.func (.func 127) #[] #[]) 27 51 4 1 (nn u1 0) F9 215)<|.v 28 (.slice p_a1 a1.length c_a1)<|.v 29 (vI x11)<|.cons [30] (qr (λu14=>.pointer (some ⟨XR p_a1,XV p_a1+x11.toNat*2,none⟩)) 30 (hv:=λ_ _=>Qe (t:=48) (k:=.i64) (i:=x11) (p:=p_a1) (n:=a1.length) (cap:=c_a1) (x:=a1) P17 rfl b15 (by kernel_rfl)))<|.cons [31] (qL 49 (qy ql 2 p_a1 c_a1 a1 qa) (.agg #[vI t16.Lo,vI t16.Hi]) 31 λ_ w h=>Y4 qa (qj h).2 qe ht16 0 2 [vI t16.Lo,vI t16.Hi])<|.v 32 (.slice p_a2 a2.length c_a2)<|.v 33 (vI a5)<|.v 34 (vI x11)<|.v 35 (vI (qc (a5-x11)))<|.cons [36] (qr (λu14=>.pointer (some ⟨XR p_a2,XV p_a2+((qc (a5-x11)).toNat)*2,none⟩)) 36 (hv:=λ_ _=>Qe (t:=48) (k:=.i64) (i:=qc (a5-x11)) (p:=p_a2) (n:=a2.length) (cap:=c_a2) (x:=a2) P20 rfl b18 (by kernel_rfl)))<|.cons [37] (qL 50 (qy ql 2 p_a2 c_a2 a2 qa) (.agg #[vI t19.Lo,vI t19.Hi]) 37 λ_ w h=>Y4 qa (qj h).2 qe ht19 0 2 [vI t19.Lo,vI t19.Hi])<|.cons [38] (Q6 [999999] (λu14=>[gk]) 127 _ _ 38 (λu14 w hF=>Q5.calls t16 t19 t21 w (Qy hF.1) ht21))<|.cons [15,54] (qn (λb=>vP b 0) (λu14=>[vI 0,vI 0]) 46 15 54)<|.cons [54] (QF (u':=λu14=>[(54,.blk (nn u14 13) [vI t21.Lo,vI t21.Hi] 46)]) (qK 54 0 (λu14=>(nn u14 13)) (λu14=>[vI 0,vI 0]) (λu14=>[vI t21.Lo,vI t21.Hi]) 46) (λ_=>by kernel_rfl))<|.nil) [1,2,3,4,5,6,12,13,14,15,49,50,51,52,53,54,999999] λu14 a w' H=>?_
    refine qs ?_
    obtain ⟨j24,hj24,G⟩:=qO G
    refine Xu (λa w'=>RL w 49 [(1,sS p_a1 a1.length c_a1),(2,sS p_a2 a2.length c_a2),(3,sI a3),(4,sI a4),(5,sI a5),(6,(sP (nn u1 0) 0)),(12,(sP (nn u1 1) 0)),(13,(sP (nn u2 4) 0)),(14,sI x11),(15,(sP (nn u14 13) 0)),(49,qy ql 2 p_a1 c_a1 a1 qa),(50,qy ql 2 p_a2 c_a2 a2 qa),(51,.blk (nn u1 0) F9 215),(52,.blk (nn u1 1) [vI 0,vI 0] 46),(53,.blk (nn u2 4) [vI x9,vI x10] 46),(54,.blk (nn u14 13) [vI j24.1,vI j24.2] 46),(999999,gk)] a w') ?_ ?_
    ·clear H; intro a w' H
     refine Qq qd H (.cons [47] (qf (.agg #[vI j24.1,vI j24.2]) 47 54 0 2 (nn u14 13) [vI j24.1,vI j24.2] 46)<|.cons [53] (qQ 53 0 (nn u2 4) [vI x9,vI x10] [vI j24.1,vI j24.2] 46 [vI j24.1,vI j24.2])<|.nil) [1,2,3,4,5,6,12,13,14,49,50,51,52,53,999999] λu25 a w' H=>?_
     refine Qq qd H (.v 24 (vI x11)<|.v 25 (vI (qc (x11+1)))<|.v 14 (vI (qc (x11+1)))<|.nil) [1,2,3,4,5,6,12,13,14,49,50,51,52,53,999999] λu26 a w' H=>?_
     exact ⟨k,Nat.lt_succ_self k,_,_,_,G,H.toM _⟩
    ·clear G; replace G:=hj24; clear hj24
     refine qg qd H (.v 39 (vI x11)<|.v 40 (vI a3)<|.v 41 (.bool (decide (x11>a3)))<|.nil) [1,2,3,4,5,6,12,13,14,15,41,49,50,51,52,53,54,999999] λu27 a w' H=>?_
     refine Qu H (decide (x11>a3)) (λc30=>?_) λc30=>?_
     ·rw [if_pos c30] at G
      obtain ⟨t29,ht29,G⟩:=qO G
      refine Qq qd H (.v 42 (vP (nn u1 0) 2)<|.cons [43] (qf (.func (.func 90) #[] #[]) 43 51 2 1 (nn u1 0) F9 215)<|.cons [44] (qf (.agg #[vI x9,vI x10]) 44 53 0 2 (nn u2 4) [vI x9,vI x10] 46)<|.cons [45] (qf (.agg #[vI t21.Lo,vI t21.Hi]) 45 54 0 2 (nn u14 13) [vI t21.Lo,vI t21.Hi] 46)<|.cons [46] (qm 90 _ _ 46 [] (λu28 w _=>QM.calls (⟨x9,x10⟩:qb) t21 t29 w ht29))<|.cons [54] (qQ 54 0 (nn u14 13) [vI t21.Lo,vI t21.Hi] [vI t29.Lo,vI t29.Hi] 46 [vI t29.Lo,vI t29.Hi])<|.nil) [1,2,3,4,5,6,12,13,14,15,49,50,51,52,53,54,999999] λu28 a w' H=>?_
      obtain rfl:=sj G
      exact H.toM _
     ·rw [if_neg (nt c30)] at G
      refine q8 ?_
      obtain rfl:=sj G
      exact H.toM _
   ·rw [if_neg (nt c31)] at G
    refine Yx rfl ?_
    obtain rfl:=sj G
    exact H.toM _
theorem Yd.calls (k0:Nat)(a0:List qb)(a1:List qb)(p_a0:Option Addr)(c_a0:Nat)(p_a1:Option Addr)(c_a1:Nat)(r:qb)(w:World)(hB:Xp [qy ql 2 p_a0 c_a0 a0 qa,qy ql 2 p_a1 c_a1 a1 qa,gk] w)(G:Yd k0 a0 a1=some r) :
  Calls Tryz.prog 132 #[.slice p_a0 a0.length c_a0,.slice p_a1 a1.length c_a1] w λe w'=>e = .returned (.agg #[vI r.Lo,vI r.Hi])∧Below w.heap.size w w':=by
 obtain ⟨fr,hfr⟩:∃ fr:Nat->Prop,∀ j,fr j:=⟨λ_=>True,λ_=>trivial⟩
 have hBf:∀ j,w.heap.size<=j->fr j:=λj _=>hfr j
 refine QA (args:=[.slice p_a0 a0.length c_a0,.slice p_a1 a1.length c_a1]) 45 [(45,qy ql 2 p_a0 c_a0 a0 qa),(46,qy ql 2 p_a1 c_a1 a1 qa),(999999,gk)] (by
  intro x hx
  simp only [List.mem_cons,List.not_mem_nil,or_false] at hx
  rcases hx with rfl | rfl | rfl
  ·exact qv (qj hB.1) (λ_ _=>trivial) (by decide) _
  ·exact qv (qj hB.2.1) (λ_ _=>trivial) (by decide) _
  ·exact ⟨⟨_,_,rfl⟩,hB.2.2.1,Yc (Qy hB.2.2.1)⟩) Tryz.func132 rfl λa H=>?_
 unfold Yd at G
 refine qg qd H (.cons [4,47] (qn (λb=>vP b 0) (λu1=>[vI 0,vI 0]) 46 4 47)<|.nil) [0,1,4,45,46,47,999999] λu1 a w' H=>?_
 refine qg qd H (.v 9 (.slice p_a1 a1.length c_a1)<|.v 10 (vI (a1.length:Int))<|.v 5 (vI (a1.length:Int))<|.nil) [0,1,4,5,45,46,47,999999] λu2 a w' H=>?_
 refine qs ?_
 refine qg qd H (.v 11 (vI (a1.length:Int))<|.v 12 (.bool ((a1.length:Int)==0))<|.nil) [0,1,4,5,12,45,46,47,999999] λu3 a w' H=>?_
 refine Qu H ((a1.length:Int)==0) (λc27=>?_) λc27=>?_
 ·rw [if_pos c27] at G
  refine qs ?_
  refine qs ?_
  replace G:=gd G; obtain ⟨b5,G⟩:=G
  obtain ⟨t6,ht6,G⟩:=qO G
  obtain ⟨t7,ht7,G⟩:=qO G
  refine Qq qd H (.v 14 (.slice p_a0 a0.length c_a0)<|.cons [15] (qL 45 (qy ql 2 p_a0 c_a0 a0 qa) (.pointer (some ⟨XR p_a0,XV p_a0+((0:Int).toNat)*2,none⟩)) 15 λ_ w h=>JT 48 .i64 (0:Int) p_a0 a0.length c_a0 a0 qa (qj h).2 qe rfl b5)<|.cons [16] (qL 45 (qy ql 2 p_a0 c_a0 a0 qa) (.agg #[vI t6.Lo,vI t6.Hi]) 16 λ_ w h=>Y4 qa (qj h).2 qe ht6 0 2 [vI t6.Lo,vI t6.Hi])<|.cons [17] (qm 138 _ _ 17 [] (λu4 w _=>XD.calls k0 t6 t7 w ht7))<|.v 13 (.tuple #[.agg #[vI t7.1.Lo,vI t7.1.Hi],.bool t7.2])<|.v 18 (.agg #[vI t7.1.Lo,vI t7.1.Hi])<|.v 19 (.bool t7.2)<|.cons [6,48] (qn (λb=>vP b 0) (λu4=>[vI 0,vI 0]) 46 6 48)<|.cons [48] (QF (u':=λu4=>[(48,.blk (nn u4 7) [vI t7.1.Lo,vI t7.1.Hi] 46)]) (qK 48 0 (λu4=>(nn u4 7)) (λu4=>[vI 0,vI 0]) (λu4=>[vI t7.1.Lo,vI t7.1.Hi]) 46) (λ_=>by kernel_rfl))<|.v 7 (.bool t7.2)<|.nil) [0,4,6,45,47,48,999999] λu4 a w' H=>?_
  refine qs ?_
  replace G:=gd G; obtain ⟨b9,G⟩:=G
  obtain ⟨t10,ht10,G⟩:=qO G
  refine Qq qd H (.v 20 (.slice p_a0 a0.length c_a0)<|.cons [21] (qL 45 (qy ql 2 p_a0 c_a0 a0 qa) (.pointer (some ⟨XR p_a0,XV p_a0+((0:Int).toNat)*2,none⟩)) 21 λ_ w h=>JT 48 .i64 (0:Int) p_a0 a0.length c_a0 a0 qa (qj h).2 qe rfl b9)<|.v 22 (.pointer (some ⟨XR p_a0,XV p_a0+((0:Int).toNat)*2+0,none⟩))<|.cons [23] (qL 45 (qy ql 2 p_a0 c_a0 a0 qa) (vI t10.Lo) 23 λ_ w h=>Y4 qa (qj h).2 qe ht10 0 1 [vI t10.Lo])<|.v 24 (.bool (decide (t10.Lo>=0)))<|.nil) [4,6,24,47,48,999999] λu8 a w' H=>?_
  refine Qu H (decide (t10.Lo>=0)) (λc14=>?_) λc14=>?_
  ·rw [if_pos c14] at G
   refine qg qd H (.cons [25] (qf (.agg #[vI t7.1.Lo,vI t7.1.Hi]) 25 48 0 2 (nn u4 7) [vI t7.1.Lo,vI t7.1.Hi] 46)<|.cons [47] (qQ 47 0 (nn u1 0) [vI 0,vI 0] [vI t7.1.Lo,vI t7.1.Hi] 46 [vI t7.1.Lo,vI t7.1.Hi])<|.nil) [4,47,999999] λu11 a w' H=>?_
   refine qB ?_
   obtain rfl:=sj G
   exact qY H _ 47 (nn u1 0) [vI t7.1.Lo,vI t7.1.Hi] 46 0 2
  ·rw [if_neg (nt c14)] at G
   refine q8 ?_
   obtain ⟨t13,ht13,G⟩:=qO G
   refine qg qd H (.cons [26] (qm 48 _ _ 26 [] (λu12 w _=>QG.calls t13 w ht13))<|.cons [47] (qQ 47 0 (nn u1 0) [vI 0,vI 0] [vI t13.Lo,vI t13.Hi] 46 [vI t13.Lo,vI t13.Hi])<|.nil) [4,47,999999] λu12 a w' H=>?_
   refine qB ?_
   obtain rfl:=sj G
   exact qY H _ 47 (nn u1 0) [vI t13.Lo,vI t13.Hi] 46 0 2
 ·rw [if_neg (nt c27)] at G
  refine q8 ?_
  obtain ⟨t16,ht16,G⟩:=qO G
  refine qg qd H (.cons [27] (qm 120 _ _ 27 [] (λu15 w _=>series_intervals.calls w))<|.v 28 (.slice p_a1 a1.length c_a1)<|.v 29 (.slice p_a1 a1.length c_a1)<|.v 30 (vI (a1.length:Int))<|.v 31 (vI (qc ((a1.length:Int)-1)))<|.v 32 (vI (a1.length:Int))<|.cons [33] (Q6 [46,999999] (λu15=>[qy ql 2 p_a1 c_a1 a1 qa,gk]) 139 _ _ 33 (λu15 w hF=>qG.calls k0 a1 a1 1 (qc ((a1.length:Int)-1)) (a1.length:Int) p_a1 c_a1 p_a1 c_a1 t16 w ⟨(JU (qj hF.1)),(JU (qj hF.1)),hF.2.1,trivial⟩ ht16))<|.cons [8,49] (qn (λb=>vP b 0) (λu15=>[vI 0,vI 0]) 46 8 49)<|.cons [49] (QF (u':=λu15=>[(49,.blk (nn u15 7) [vI t16.Lo,vI t16.Hi] 46)]) (qK 49 0 (λu15=>(nn u15 7)) (λu15=>[vI 0,vI 0]) (λu15=>[vI t16.Lo,vI t16.Hi]) 46) (λ_=>by kernel_rfl))<|.nil) [0,1,4,5,8,45,46,47,49,999999] λu15 a w' H=>?_
  refine qs ?_
  replace G:=gd G; obtain ⟨b18,G⟩:=G
  obtain ⟨t19,ht19,G⟩:=qO G
  have P20:=Xm (en:=qa) (l:=a0) (qj (H.at (K:=qy ql 2 p_a0 c_a0 a0 qa) 45 (by kernel_rfl))).2 qe
  obtain ⟨t21,ht21,G⟩:=qO G
  replace G:=gd G; obtain ⟨b22,G⟩:=G
  obtain ⟨t23,ht23,G⟩:=qO G
  have P24:=Xm (en:=qa) (l:=a1) (qj (H.at (K:=qy ql 2 p_a1 c_a1 a1 qa) 46 (by kernel_rfl))).2 qe
  obtain ⟨t25,ht25,G⟩:=qO G
  obtain ⟨t26,ht26,G⟩:=qO G
  refine Qq qd H (.v 34 (.slice p_a0 a0.length c_a0)<|.v 35 (vI (a1.length:Int))<|.cons [36] (qr (λu17=>.pointer (some ⟨XR p_a0,XV p_a0+((a1.length:Int).toNat)*2,none⟩)) 36 (hv:=λ_ _=>Qe (t:=48) (k:=.i64) (i:=(a1.length:Int)) (p:=p_a0) (n:=a0.length) (cap:=c_a0) (x:=a0) P20 rfl b18 (by kernel_rfl)))<|.cons [37] (qL 45 (qy ql 2 p_a0 c_a0 a0 qa) (.agg #[vI t19.Lo,vI t19.Hi]) 37 λ_ w h=>Y4 qa (qj h).2 qe ht19 0 2 [vI t19.Lo,vI t19.Hi])<|.cons [38] (qf (.agg #[vI t16.Lo,vI t16.Hi]) 38 49 0 2 (nn u15 7) [vI t16.Lo,vI t16.Hi] 46)<|.cons [39] (qm 92 _ _ 39 [] (λu17 w _=>Xh.calls t19 t16 t21 w ht21))<|.v 40 (.slice p_a1 a1.length c_a1)<|.cons [41] (qr (λu17=>.pointer (some ⟨XR p_a1,XV p_a1+((0:Int).toNat)*2,none⟩)) 41 (hv:=λ_ _=>Qe (t:=48) (k:=.i64) (i:=(0:Int)) (p:=p_a1) (n:=a1.length) (cap:=c_a1) (x:=a1) P24 rfl b22 (by kernel_rfl)))<|.cons [42] (qL 46 (qy ql 2 p_a1 c_a1 a1 qa) (.agg #[vI t23.Lo,vI t23.Hi]) 42 λ_ w h=>Y4 qa (qj h).2 qe ht23 0 2 [vI t23.Lo,vI t23.Hi])<|.cons [43] (qm 134 _ _ 43 [] (λu17 w _=>XO.calls t23 2 1 t25 w ht25))<|.cons [44] (Q6 [999999] (λu17=>[gk]) 137 _ _ 44 (λu17 w hF=>QW.calls t21 t25 t26 w (Qy hF.1) ht26))<|.cons [47] (qQ 47 0 (nn u1 0) [vI 0,vI 0] [vI t26.Lo,vI t26.Hi] 46 [vI t26.Lo,vI t26.Hi])<|.nil) [4,47,999999] λu17 a w' H=>?_
  refine qB ?_
  obtain rfl:=sj G
  exact qY H _ 47 (nn u1 0) [vI t26.Lo,vI t26.Hi] 46 0 2
theorem Yg.calls (a0:qb)(a1:Int)(r:qb)(w:World)(G:Yg a0 a1=some r) :
  Calls Tryz.prog 133 #[.agg #[vI a0.Lo,vI a0.Hi],vI a1] w λe w'=>e = .returned (.agg #[vI r.Lo,vI r.Hi])∧Below w.heap.size w w':=by
 refine Qs (args:=[.agg #[vI a0.Lo,vI a0.Hi],vI a1]) 8 Tryz.func133 rfl λa H=>?_
 unfold Yg at G
 refine qg qd H (.cons [2,8] (qn (λb=>vP b 0) (λu1=>[vI a0.Lo,vI a0.Hi]) 46 2 8)<|.cons [4,9] (qn (λb=>vP b 0) (λu1=>[vI 0,vI 0]) 46 4 9)<|.nil) [1,2,4,8,9] λu1 a w' H=>?_
 obtain ⟨t3,ht3,G⟩:=qO G
 refine qg qd H (.cons [5] (qf (.agg #[vI a0.Lo,vI a0.Hi]) 5 8 0 2 (nn u1 0) [vI a0.Lo,vI a0.Hi] 46)<|.v 6 (vI a1)<|.cons [7] (qm 134 _ _ 7 [] (λu2 w _=>XO.calls a0 1 a1 t3 w ht3))<|.cons [9] (qQ 9 0 (nn u1 1) [vI 0,vI 0] [vI t3.Lo,vI t3.Hi] 46 [vI t3.Lo,vI t3.Hi])<|.nil) [4,9] λu2 a w' H=>?_
 refine qB ?_
 obtain rfl:=sj G
 exact qY H _ 9 (nn u1 1) [vI t3.Lo,vI t3.Hi] 46 0 2
theorem Jt.calls (r:qb)(w:World)(G:Jt=some r) :
  Calls Tryz.prog 142 #[] w λe w'=>e = .returned (.agg #[vI r.Lo,vI r.Hi])∧Below w.heap.size w w':=by
 refine Qs (args:=[]) 2 Tryz.func142 rfl λa H=>?_
 unfold Jt at G
 refine qg qd H (.cons [0,2] (qn (λb=>vP b 0) (λu1=>[vI 0,vI 0]) 46 0 2)<|.nil) [0,2] λu1 a w' H=>?_
 obtain ⟨t3,ht3,G⟩:=qO G
 refine qg qd H (.cons [1] (qm 46 _ _ 1 [] (λu2 w _=>YE.calls 65536 t3 w ht3))<|.cons [2] (qQ 2 0 (nn u1 0) [vI 0,vI 0] [vI t3.Lo,vI t3.Hi] 46 [vI t3.Lo,vI t3.Hi])<|.nil) [0,2] λu2 a w' H=>?_
 refine qB ?_
 obtain rfl:=sj G
 exact qY H _ 2 (nn u1 0) [vI t3.Lo,vI t3.Hi] 46 0 2
end Go.Proofs.YtpmgpcklieincaaGreatDoor
