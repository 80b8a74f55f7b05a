/- Each function of the program answers as the plain Lean function of its name (part 1). Printed by a program of this session. -/
import Derived.Test.YtpmgpcklieincaaGreatDoorFn0
set_option linter.unusedVariables false
set_option linter.unusedSimpArgs false
set_option maxRecDepth 100000
set_option maxHeartbeats 4000000
namespace Go.Proofs.YtpmgpcklieincaaGreatDoor
open Go Go.RowKit Go.Sx Go.Proofs
theorem Ql.calls (k0:Nat) (a0:List qb) (a1:List qb) (a2_0:qb) (p_a0:Option Addr) (c_a0:Nat) (p_a1:Option Addr) (c_a1:Nat) (b_a2_0:Nat) (r:List qb) (w:World) (hB:Xx [qB qk 2 p_a0 c_a0 a0 qa,qB qk 2 p_a1 c_a1 a1 qa,Xp b_a2_0 [vI a2_0.Lo,vI a2_0.Hi] 46,gk] w) (G:Ql k0 a0 a1 a2_0=some r) :
  Calls Tryz.prog 112 #[.slice p_a0 a0.length c_a0,.slice p_a1 a1.length c_a1,.func (.func 129) #[] #[vP b_a2_0 0]] w fun e w'=>∃ g:Gh,e = .returned (.slice (g.o 0) r.length (g.n 0))∧Zg (Y4 []) w w'∧Ys w.heap.size (Y4 []) (JH w.heap.size []) [fun _=>Qm 46 2 (g.o 0) (g.n 0) r qa] w':=by
 obtain ⟨fr,hfr,hBf⟩:=VE w []
 refine QO (args:=[.slice p_a0 a0.length c_a0,.slice p_a1 a1.length c_a1,.func (.func 129) #[] #[vP b_a2_0 0]]) 32 [(32,qB qk 2 p_a0 c_a0 a0 qa),(33,qB qk 2 p_a1 c_a1 a1 qa),(34,Xp b_a2_0 [vI a2_0.Lo,vI a2_0.Hi] 46),(999999,gk)] (by
  intro x hx
  simp only [List.mem_cons,List.not_mem_nil,or_false] at hx
  rcases hx with rfl | rfl | rfl | rfl
  ·exact qy (qj hB.1) (fun _ _=>trivial) (by decide) _
  ·exact qy (qj hB.2.1) (fun _ _=>trivial) (by decide) _
  ·exact QV (hB.2.2.1 w (agree.refl _ _)) _
  ·exact ⟨⟨_,_,rfl⟩,hB.2.2.2.1,Yl (QM hB.2.2.2.1)⟩) Tryz.func112 rfl (by kernel_rfl) (by kernel_rfl) fun a H=>?_
 unfold Ql at G
 refine qg qd H (.v 6 (.slice none 0 0)<|.nil) [0,1,2,32,33,34,999999] fun u1 a w' H=>?_
 refine qv ?_
 replace G:=gd G; obtain ⟨b3,G⟩:=G
 refine Qt qd H (.v 9 (.slice p_a0 a0.length c_a0) <|
 .v 10 (vI (a0.length:Int)) <|
 .cons [11,35] (Z7 [] (fun u2=>[]) 46 2 (List.replicate (a0.length:Int).toNat (⟨0,0⟩:qb)).length ((List.replicate (a0.length:Int).toNat (⟨0,0⟩:qb)).flatMap qa) 11 35 (fun _=>.none) (fun u2 w hF=>Yw (t:=48) (k:=.i64) (m:=(a0.length:Int)) (en:=qa) (z:=(⟨0,0⟩:qb)) qe JT rfl b3 (by kernel_rfl)) (fun _=>.inl rfl)) <|
 .cons [7] (qn (fun u2=>.slice ((u2 2).o 0) ((List.replicate (a0.length:Int).toNat (⟨0,0⟩:qb)).length) ((u2 2).n 0)) 7)<|.nil) [0,1,2,7,32,33,35,34,999999] fun u2 a w' H=>?_
 refine qv ?_
 obtain ⟨j5,hj5,G⟩:=qP G
 refine Xq (fun a w'=>∃ (p_j4:Option Addr) (c_j4 np_j4:Nat),np_j4=j5.length∧RL w 32 [(7,sS p_j4 np_j4 c_j4),(900006,X6 46 2 p_j4 np_j4 c_j4 (j5.flatMap qa)),(34,Xp b_a2_0 [vI a2_0.Lo,vI a2_0.Hi] 46),(999999,gk)] a w') ?_ ?_
 ·clear H; rintro a w' ⟨p_j4,c_j4,_,rfl,H⟩
  refine qg qd H (.v 31 (.slice p_j4 j5.length c_j4) <|
 .v 6 (.slice p_j4 j5.length c_j4)<|.nil) [6,900006,34,999999] fun u6 a w' H=>?_
  refine qF ?_
  obtain rfl:=sj G
  obtain ⟨g,o0,n0⟩:=ZX p_j4 c_j4
  refine QR H _ g _ _ _ fr [900006] [] (.slice p_j4 j5.length c_j4) [fun _=>Qm 46 2 p_j4 c_j4 j5 qa] (by simp only [Qm,o0,n0]) (by simp only [Qm,o0,n0]) hfr (.inl ⟨rfl,rfl⟩) (ql Qw qC) (by simp)
 ·clear G; replace G:=hj5; clear hj5
  refine qg qd H (.v 12 (.slice p_a0 a0.length c_a0) <|
 .v 13 (vI (a0.length:Int)) <|
 .v 14 (vI 0)<|.nil) [0,1,2,7,13,14,32,33,35,34,999999] fun u7 a w' H=>?_
  refine q6 ?_
  replace H:=H.move (K:=Qm 46 2 ((u2 2).o 0) ((u2 2).n 0) (List.replicate (a0.length:Int).toNat (⟨0,0⟩:qb)) qa) 35 900007 (by kernel_rfl) (by intro _ _ h; cases h)
  refine XP (fun m a w'=>∃ x8:List qb,∃ x9:Int,Ql.l10 k0 a0 a1 a2_0 m x8 x9=some j5 ∧ ∃ (p_x8:Option Addr) (c_x8 np_x8:Nat),np_x8=x8.length∧RL w 32 [(0,sS p_a0 a0.length c_a0),(1,sS p_a1 a1.length c_a1),(2,.slot true (.func (.func 129) #[] #[vP b_a2_0 0])),(7,sS p_x8 np_x8 c_x8),(13,(sI (a0.length:Int))),(14,sI x9),(32,qB qk 2 p_a0 c_a0 a0 qa),(33,qB qk 2 p_a1 c_a1 a1 qa),(900007,X6 46 2 p_x8 np_x8 c_x8 (x8.flatMap qa)),(34,Xp b_a2_0 [vI a2_0.Lo,vI a2_0.Hi] 46),(999999,gk)] a w') k0 ⟨_,_,G,((u2 2).o 0),((u2 2).n 0),(List.replicate (a0.length:Int).toNat (⟨0,0⟩:qb)).length,rfl,H.toM _⟩ ?_
  clear G H
  rintro (_ | k) a w' ⟨x8,x9,G,p_x8,c_x8,_,rfl,H⟩
  ·exact absurd G (by unfold Ql.l10; exact fun h=>by cases h)
  ·unfold Ql.l10 at G
   refine qg qd H (.v 15 (.bool (decide (x9<(a0.length:Int))))<|.nil) [0,1,2,7,13,14,15,32,33,900007,34,999999] fun u11 a w' H=>?_
   refine qv ?_
   refine Qx H (decide (x9<(a0.length:Int))) (fun c25=>?_) fun c25=>?_
   ·rw [if_pos c25] at G
    refine Qf ?_
    refine qv ?_
    refine q6 ?_
    refine qg qd H (.v 16 (vI x9) <|
 .v 8 (vI x9)<|.nil) [0,1,2,7,8,13,14,32,33,900007,34,999999] fun u12 a w' H=>?_
    replace G:=gd G; obtain ⟨b14,G⟩:=G
    obtain ⟨t15,ht15,G⟩:=qP G
    have P16:=Xh (en:=qa) (l:=a0) (qj (H.at (K:=qB qk 2 p_a0 c_a0 a0 qa) 32 (by kernel_rfl))).2 qe
    replace G:=gd G; obtain ⟨b17,G⟩:=G
    obtain ⟨t18,ht18,G⟩:=qP G
    have P19:=Xh (en:=qa) (l:=a1) (qj (H.at (K:=qB qk 2 p_a1 c_a1 a1 qa) 33 (by kernel_rfl))).2 qe
    obtain ⟨t20,ht20,G⟩:=qP G
    replace G:=gd G; obtain ⟨b21,G⟩:=G
    obtain ⟨t22,ht22,G⟩:=qP G
    have P23:=Xh (en:=qa) (l:=x8) (qw (Qe (H.at (K:=Qm 46 2 p_x8 c_x8 x8 qa) 900007 (by kernel_rfl)))).2 qe
    refine Qt qd H (.v 17 (.slice p_x8 x8.length c_x8) <|
 .v 18 (vI x9) <|
 .v 19 (.func (.func 129) #[] #[vP b_a2_0 0]) <|
 .v 20 (.slice p_a0 a0.length c_a0) <|
 .v 21 (vI x9) <|
 .cons [22] (qn (fun u13=>.pointer (some ⟨Xf p_a0,Xg p_a0+x9.toNat * 2,none⟩)) 22 (hv:=fun _ _=>qM (t:=48) (k:=.i64) (i:=x9) (p:=p_a0) (n:=a0.length) (cap:=c_a0) (x:=a0) P16 rfl b14 (by kernel_rfl))) <|
 .cons [23] (qG 32 (qB qk 2 p_a0 c_a0 a0 qa) (.agg #[vI t15.Lo,vI t15.Hi]) 23 fun _ w h=>Ym qa (qj h).2 qe ht15 0 2 [vI t15.Lo,vI t15.Hi]) <|
 .v 24 (.slice p_a1 a1.length c_a1) <|
 .v 25 (vI x9) <|
 .cons [26] (qn (fun u13=>.pointer (some ⟨Xf p_a1,Xg p_a1+x9.toNat * 2,none⟩)) 26 (hv:=fun _ _=>qM (t:=48) (k:=.i64) (i:=x9) (p:=p_a1) (n:=a1.length) (cap:=c_a1) (x:=a1) P19 rfl b17 (by kernel_rfl))) <|
 .cons [27] (qG 33 (qB qk 2 p_a1 c_a1 a1 qa) (.agg #[vI t18.Lo,vI t18.Hi]) 27 fun _ w h=>Ym qa (qj h).2 qe ht18 0 2 [vI t18.Lo,vI t18.Hi]) <|
 .cons [28] (QX [34,999999] (fun u13=>[Xp b_a2_0 [vI a2_0.Lo,vI a2_0.Hi] 46,gk]) 129 _ _ 28 (fun u13 w hF=>YI.calls t15 t18 a2_0 b_a2_0 t20 w  ⟨(QV (hF.1 w (agree.refl _ _)) 0).2.1,hF.2.1,trivial⟩ ht20)) <|
 .cons [29] (qn (fun u13=>.pointer (some ⟨Xf p_x8,Xg p_x8+x9.toNat * 2,none⟩)) 29 (hv:=fun _ _=>qM (t:=48) (k:=.i64) (i:=x9) (p:=p_x8) (n:=x8.length) (cap:=c_x8) (x:=x8) P23 rfl b21 (by kernel_rfl))) <|
 .cons [900007,900007] (XC [] [] (fun u13=>[]) 900007 (fun u13=>Qm 46 2 p_x8 c_x8 x8 qa) none (fun u13 g=>.nilFunc) (fun u13 g=>X6 46 2 p_x8 x8.length c_x8 ((x8.set x9.toNat t20).flatMap qa)) (fun u13 w hF hK=>ZA (XK (Qe hK) qe (y:=t20) (vs:=[vI t20.Lo,vI t20.Hi]) ht22 0 (by simp) (by simp) rfl (by kernel_rfl))))<|.nil) [0,1,2,7,13,14,32,33,900007,34,999999] fun u13 a w' H=>?_
    refine Qt qd H (.v 30 (vI (qc (x9+1))) <|
 .v 14 (vI (qc (x9+1)))<|.nil) [0,1,2,7,13,14,32,33,900007,34,999999] fun u24 a w' H=>?_
    exact ⟨k,Nat.lt_succ_self k,_,_,G,p_x8,c_x8,x8.length,by simp,H.toM _⟩
   ·rw [if_neg (nt c25)] at G
    refine Yk rfl ?_
    obtain rfl:=sj G
    replace H:=H.move (K:=Qm 46 2 p_x8 c_x8 x8 qa) 900007 900006 (by kernel_rfl) (by intro _ _ h; cases h)
    exact ⟨p_x8,c_x8,x8.length,rfl,H.toM _⟩
theorem Yb.calls (k0:Nat) (a0:QE) (a1:List qb) (a2:List qb) (a3:Q6) (p_a0_L:Option Addr) (c_a0_L:Nat) (p_a0_Out:Option Addr) (c_a0_Out:Nat) (p_a1:Option Addr) (c_a1:Nat) (p_a2:Option Addr) (c_a2:Nat) (r:List qb) (w:World) (hB:Xx [qB qk 5 p_a0_L c_a0_L a0.L qi,qB qk 1 p_a0_Out c_a0_Out a0.Out Qn,qB qk 2 p_a1 c_a1 a1 qa,qB qk 2 p_a2 c_a2 a2 qa,gk] w) (G:Yb k0 a0 a1 a2 a3=some r) :
  Calls Tryz.prog 113 #[.agg #[vI a0.N,.slice p_a0_L a0.L.length c_a0_L,.slice p_a0_Out a0.Out.length c_a0_Out],.slice p_a1 a1.length c_a1,.slice p_a2 a2.length c_a2,.agg #[vI a3.T,vI a3.H]] w fun e w'=>∃ g:Gh,e = .returned (.slice (g.o 0) r.length (g.n 0))∧Zg (Y4 []) w w'∧Ys w.heap.size (Y4 []) (JH w.heap.size []) [fun _=>Qm 46 2 (g.o 0) (g.n 0) r qa] w':=by
 obtain ⟨fr,hfr,hBf⟩:=VE w []
 refine QO (args:=[.agg #[vI a0.N,.slice p_a0_L a0.L.length c_a0_L,.slice p_a0_Out a0.Out.length c_a0_Out],.slice p_a1 a1.length c_a1,.slice p_a2 a2.length c_a2,.agg #[vI a3.T,vI a3.H]]) 29 [(29,qB qk 5 p_a0_L c_a0_L a0.L qi),(30,qB qk 1 p_a0_Out c_a0_Out a0.Out Qn),(31,qB qk 2 p_a1 c_a1 a1 qa),(32,qB qk 2 p_a2 c_a2 a2 qa),(999999,gk)] (by
  intro x hx
  simp only [List.mem_cons,List.not_mem_nil,or_false] at hx
  rcases hx with rfl | rfl | rfl | rfl | rfl
  ·exact qy (qj hB.1) (fun _ _=>trivial) (by decide) _
  ·exact qy (qj hB.2.1) (fun _ _=>trivial) (by decide) _
  ·exact qy (qj hB.2.2.1) (fun _ _=>trivial) (by decide) _
  ·exact qy (qj hB.2.2.2.1) (fun _ _=>trivial) (by decide) _
  ·exact ⟨⟨_,_,rfl⟩,hB.2.2.2.2.1,Yl (QM hB.2.2.2.2.1)⟩) Tryz.func113 rfl (by kernel_rfl) (by kernel_rfl) fun a H=>?_
 unfold Yb at G
 refine qg qd H (.cons [4,33] (qs (fun b=>vP b 0) (fun u1=>[vI a0.N,.slice p_a0_L a0.L.length c_a0_L,.slice p_a0_Out a0.Out.length c_a0_Out]) 38 4 33) <|
 .cons [7,34] (qs (fun b=>vP b 0) (fun u1=>[vI a3.T,vI a3.H]) 53 7 34) <|
 .v 8 (.slice none 0 0)<|.nil) [1,2,4,7,29,30,31,32,33,34,999999] fun u1 a w' H=>?_
 obtain ⟨t3,ht3,G⟩:=qP G
 refine qg qd H (.v 11 (vP ((u1 1).n 0) 1) <|
 .cons [12] (qf (vI a3.H) 12 34 1 1 ((u1 1).n 0) [vI a3.T,vI a3.H] 53) <|
 .cons [13] (qq 68 _ _ 13 [] (fun u2 w _=>qI.calls 0 a3.H  t3 w  ht3)) <|
 .cons [9,35] (qs (fun b=>vP b 0) (fun u2=>[vI 0,vI 0]) 46 9 35) <|
 .cons [35] (QL (u':=fun u2=>[(35,.blk ((u2 3).n 0) [vI t3.Lo,vI t3.Hi] 46)]) (qW 35 0 (fun u2=>((u2 3).n 0)) (fun u2=>[vI 0,vI 0]) (fun u2=>[vI t3.Lo,vI t3.Hi]) 46) (fun _=>by kernel_rfl))<|.nil) [1,2,4,7,9,29,30,31,32,33,34,35,999999] fun u2 a w' H=>?_
 refine qv ?_
 obtain ⟨t5,ht5,G⟩:=qP G
 obtain ⟨t6,ht6,G⟩:=qP G
 refine ZC qd H (.cons [14] (qf (.agg #[vI a0.N,.slice p_a0_L a0.L.length c_a0_L,.slice p_a0_Out a0.Out.length c_a0_Out]) 14 33 0 3 ((u1 0).n 0) [vI a0.N,.slice p_a0_L a0.L.length c_a0_L,.slice p_a0_Out a0.Out.length c_a0_Out] 38) <|
 .v 15 (.slice p_a2 a2.length c_a2) <|
 .v 16 (vP ((u1 1).n 0) 0) <|
 .cons [17] (qf (vI a3.T) 17 34 0 1 ((u1 1).n 0) [vI a3.T,vI a3.H] 53) <|
 .v 18 (vP ((u1 1).n 0) 0) <|
 .cons [19] (qf (vI a3.T) 19 34 0 1 ((u1 1).n 0) [vI a3.T,vI a3.H] 53) <|
 .v 20 (vP ((u1 1).n 0) 1) <|
 .cons [21] (qf (vI a3.H) 21 34 1 1 ((u1 1).n 0) [vI a3.T,vI a3.H] 53) <|
 .v 22 (vI (qc (a3.T+a3.H))) <|
 .cons [23] (qq 68 _ _ 23 [] (fun u4 w _=>qI.calls a3.T (qc (a3.T+a3.H))  t5 w  ht5)) <|
 .cons [24,36] (QI false fr [] [29,30,32,999999] (fun u4=>[qB qk 5 p_a0_L c_a0_L a0.L qi,qB qk 1 p_a0_Out c_a0_Out a0.Out Qn,qB qk 2 p_a2 c_a2 a2 qa,gk]) [] (fun u4=>[]) 128 _ _ _ _ _ [36] 24 (fun u4 w hB hF hM=>QP.calls k0 (⟨a0.N,a0.L,a0.Out⟩:QE) a2 t5 p_a0_L c_a0_L p_a0_Out c_a0_Out p_a2 c_a2 t6 w  hB ht6) (fun u4 w hF=>⟨⟨q9 (qj hF.1) (fun j h=>⟨_,(.head _),h⟩),q9 (qj hF.2.1) (fun j h=>⟨_,(.tail _ (.head _)),h⟩),q9 (qj hF.2.2.1) (fun j h=>⟨_,(.tail _ (.tail _ (.head _))),h⟩),Z6 hF.2.2.2.1 (.tail _ (.tail _ (.tail _ (.head _)))),trivial⟩,trivial⟩) (fun u4 g=>(ql Qw qC)) (.inr (fun u4 g=>(Qv trivial (fun K h=>by cases h)))) (fun h=>by cases h)) <|
 .cons [10] (qn (fun u4=>.slice ((u4 10).o 0) t6.length ((u4 10).n 0)) 10)<|.nil) (by kernel_rfl) fun u4 a w' H=>?_
 replace H:=H.kp [1,9,10,31,35,36,999999]
 obtain ⟨t8,ht8,G⟩:=qP G
 refine qg qd H (.v 25 (.slice p_a1 a1.length c_a1) <|
 .v 26 (.slice ((u4 10).o 0) t6.length ((u4 10).n 0)) <|
 .v 27 (.func (.func 129) #[] #[vP ((u2 3).n 0) 0]) <|
 .cons [28,37] (QI false fr [] [31,36,35,999999] (fun u7=>[qB qk 2 p_a1 c_a1 a1 qa,Qm 46 2 ((u4 10).o 0) ((u4 10).n 0) t6 qa,.blk ((u2 3).n 0) [vI t3.Lo,vI t3.Hi] 46,gk]) [] (fun u7=>[]) 112 _ _ _ _ _ [37] 28 (fun u7 w hB hF hM=>Ql.calls k0 a1 t6 t3 p_a1 c_a1 ((u4 10).o 0) ((u4 10).n 0) ((u2 3).n 0) t8 w  hB ht8) (fun u7 w hF=>⟨⟨q9 (qj hF.1) (fun j h=>⟨_,(.head _),h⟩),q9 (qw (Qe hF.2.1)) (fun j h=>⟨_,(.tail _ (.head _)),(YT h)⟩),Ze hF.2.2.1 (.tail _ (.tail _ (.head _))) rfl,Z6 hF.2.2.2.1 (.tail _ (.tail _ (.tail _ (.head _)))),trivial⟩,trivial⟩) (fun u7 g=>(ql Qw qC)) (.inr (fun u7 g=>(Qv trivial (fun K h=>by cases h)))) (fun h=>by cases h)) <|
 .cons [8] (qn (fun u7=>.slice ((u7 3).o 0) t8.length ((u7 3).n 0)) 8)<|.nil) [8,37,999999] fun u7 a w' H=>?_
 refine qF ?_
 obtain rfl:=sj G
 obtain ⟨g,o0,n0⟩:=ZX ((u7 3).o 0) ((u7 3).n 0)
 refine QR H _ g _ _ _ fr [37] [] (.slice ((u7 3).o 0) t8.length ((u7 3).n 0)) [fun _=>Qm 46 2 ((u7 3).o 0) ((u7 3).n 0) t8 qa] (by simp only [Qm,o0,n0]) (by simp only [Qm,o0,n0]) hfr (.inl ⟨rfl,rfl⟩) (ql Qw qC) (by simp)
theorem ZP.calls (a0:qb) (a1:qb) (r:qb) (w:World) (G:ZP a0 a1=some r) :
  Calls Tryz.prog 114 #[.agg #[vI a0.Lo,vI a0.Hi],.agg #[vI a1.Lo,vI a1.Hi]] w fun e w'=>e = .returned (.agg #[vI r.Lo,vI r.Hi])∧Below w.heap.size w w':=by
 refine QD (args:=[.agg #[vI a0.Lo,vI a0.Hi],.agg #[vI a1.Lo,vI a1.Hi]]) 16 Tryz.func114 rfl (by kernel_rfl) (by kernel_rfl) fun a H=>?_
 unfold ZP at G
 refine qg qd H (.cons [2,16] (qs (fun b=>vP b 0) (fun u1=>[vI a0.Lo,vI a0.Hi]) 46 2 16) <|
 .cons [3,17] (qs (fun b=>vP b 0) (fun u1=>[vI a1.Lo,vI a1.Hi]) 46 3 17) <|
 .cons [4,18] (qs (fun b=>vP b 0) (fun u1=>[vI 0,vI 0]) 46 4 18)<|.nil) [2,3,4,16,17,18] fun u1 a w' H=>?_
 refine qg qd H (.v 5 (vP ((u1 0).n 0) 0) <|
 .cons [6] (qf (vI a0.Lo) 6 16 0 1 ((u1 0).n 0) [vI a0.Lo,vI a0.Hi] 46) <|
 .v 7 (vP ((u1 1).n 0) 0) <|
 .cons [8] (qf (vI a1.Lo) 8 17 0 1 ((u1 1).n 0) [vI a1.Lo,vI a1.Hi] 46) <|
 .v 9 (vI (mn a0.Lo a1.Lo)) <|
 .v 10 (vP ((u1 0).n 0) 1) <|
 .cons [11] (qf (vI a0.Hi) 11 16 1 1 ((u1 0).n 0) [vI a0.Lo,vI a0.Hi] 46) <|
 .v 12 (vP ((u1 1).n 0) 1) <|
 .cons [13] (qf (vI a1.Hi) 13 17 1 1 ((u1 1).n 0) [vI a1.Lo,vI a1.Hi] 46) <|
 .v 14 (vI (mx a0.Hi a1.Hi)) <|
 .v 15 (.agg #[vI (mn a0.Lo a1.Lo),vI (mx a0.Hi a1.Hi)]) <|
 .cons [18] (Qa 18 0 ((u1 2).n 0) [vI 0,vI 0] [vI (mn a0.Lo a1.Lo),vI (mx a0.Hi a1.Hi)] 46 [vI (mn a0.Lo a1.Lo),vI (mx a0.Hi a1.Hi)])<|.nil) [4,18] fun u2 a w' H=>?_
 refine qF ?_
 obtain rfl:=sj G
 exact Qj H _ 18 ((u1 2).n 0) [vI (mn a0.Lo a1.Lo),vI (mx a0.Hi a1.Hi)] 46 0 2 (by kernel_rfl) (by kernel_rfl) (by kernel_rfl) (by kernel_rfl)
theorem QG.calls (k0:Nat) (a0:List qb) (p_a0:Option Addr) (c_a0:Nat) (r:Int) (w:World) (hB:Xx [qB qk 2 p_a0 c_a0 a0 qa] w) (G:QG k0 a0=some r) :
  Calls Tryz.prog 103 #[.slice p_a0 a0.length c_a0,.func (.func 21) #[] #[]] w fun e w'=>e = .returned (vI r)∧Below w.heap.size w w':=by
 obtain ⟨fr,hfr⟩:∃ fr:Nat→Prop,∀ j,fr j:=⟨fun _=>True,fun _=>trivial⟩
 have hBf:∀ j,w.heap.size≤j→fr j:=fun j _=>hfr j
 refine QO (args:=[.slice p_a0 a0.length c_a0,.func (.func 21) #[] #[]]) 19 [(19,qB qk 2 p_a0 c_a0 a0 qa)] (by
  intro x hx
  simp only [List.mem_cons,List.not_mem_nil,or_false] at hx
  rcases hx with rfl
  exact qy (qj hB.1) (fun _ _=>trivial) (by decide) _) Tryz.func103 rfl (by kernel_rfl) (by kernel_rfl) fun a H=>?_
 unfold QG at G
 refine qg qd H (.v 4 (vI 0)<|.nil) [0,1,19] fun u1 a w' H=>?_
 refine qv ?_
 obtain ⟨j2,hj2,Gj2⟩:=qP G
 refine Xq (fun a w'=>∃ j2v,j2=Sum.inr j2v∧RL w 19 [] a w') ?_ ?_
 ·clear H; rintro a w' ⟨j2v,rfl,H⟩; have G:=Gj2; clear Gj2; dsimp only at G
  refine qg qd H (.v 4 (vI (-1))<|.nil) [4] fun u3 a w' H=>?_
  refine qF ?_
  obtain rfl:=sj G
  exact Qr H _ (by kernel_rfl) (by kernel_rfl)
 ·have G:=hj2; clear hj2
  refine qg qd H (.v 6 (.slice p_a0 a0.length c_a0) <|
 .v 7 (vI (a0.length:Int)) <|
 .v 8 (vI 0)<|.nil) [0,1,7,8,19] fun u4 a w' H=>?_
  refine q6 ?_
  refine XP (fun m a w'=>∃ x5:Int,QG.l6 k0 a0 m x5=some j2∧RL w 19 [(0,sS p_a0 a0.length c_a0),(1,.slot true (.func (.func 21) #[] #[])),(7,(sI (a0.length:Int))),(8,sI x5),(19,qB qk 2 p_a0 c_a0 a0 qa)] a w') k0 ⟨_,G,H.toM _⟩ ?_
  clear G H
  rintro (_ | k) a w' ⟨x5,G,H⟩
  ·exact absurd G (by unfold QG.l6; exact fun h=>by cases h)
  ·unfold QG.l6 at G
   refine qg qd H (.v 9 (.bool (decide (x5<(a0.length:Int))))<|.nil) [0,1,7,8,9,19] fun u7 a w' H=>?_
   refine qv ?_
   refine Qx H (decide (x5<(a0.length:Int))) (fun c16=>?_) fun c16=>?_
   ·rw [if_pos c16] at G
    refine Qf ?_
    refine qv ?_
    refine q6 ?_
    refine qg qd H (.v 10 (vI x5) <|
 .v 5 (vI x5)<|.nil) [0,1,5,7,8,19] fun u8 a w' H=>?_
    refine qv ?_
    replace G:=gd G; obtain ⟨b10,G⟩:=G
    obtain ⟨t11,ht11,G⟩:=qP G
    obtain ⟨t12,ht12,G⟩:=qP G
    refine Qt qd H (.v 11 (.func (.func 21) #[] #[]) <|
 .v 12 (.slice p_a0 a0.length c_a0) <|
 .v 13 (vI x5) <|
 .cons [14] (qG 19 (qB qk 2 p_a0 c_a0 a0 qa) (.pointer (some ⟨Xf p_a0,Xg p_a0+x5.toNat * 2,none⟩)) 14 fun _ w h=>Jo 48 .i64 x5 p_a0 a0.length c_a0 a0 qa (qj h).2 qe rfl b10) <|
 .cons [15] (qG 19 (qB qk 2 p_a0 c_a0 a0 qa) (.agg #[vI t11.Lo,vI t11.Hi]) 15 fun _ w h=>Ym qa (qj h).2 qe ht11 0 2 [vI t11.Lo,vI t11.Hi]) <|
 .cons [16] (qq 21 _ _ 16 [] (fun u9 w _=>qV.calls t11  t12 w  ht12))<|.nil) [0,1,5,7,8,16,19] fun u9 a w' H=>?_
    refine Qx H t12 (fun c15=>?_) fun c15=>?_
    ·rw [if_pos c15] at G
     refine qg qd H (.v 17 (vI x5) <|
 .v 4 (vI x5)<|.nil) [4] fun u13 a w' H=>?_
     refine qF ?_
     obtain rfl:=sj G
     replace G:=Gj2
     obtain rfl:=sj G
     exact Qr H _ (by kernel_rfl) (by kernel_rfl)
    ·rw [if_neg (nt c15)] at G
     refine Qf ?_
     refine Qt qd H (.v 18 (vI (qc (x5+1))) <|
 .v 8 (vI (qc (x5+1)))<|.nil) [0,1,7,8,19] fun u14 a w' H=>?_
     exact ⟨k,Nat.lt_succ_self k,_,G,H.toM _⟩
   ·rw [if_neg (nt c16)] at G
    refine Yk rfl ?_
    obtain rfl:=sj G
    exact ⟨_,rfl,H.toM _⟩
theorem Q1.calls (k0:Nat) (a0:List qb) (p_a0:Option Addr) (c_a0:Nat) (r:Bool) (w:World) (hB:Xx [qB qk 2 p_a0 c_a0 a0 qa] w) (G:Q1 k0 a0=some r) :
  Calls Tryz.prog 84 #[.slice p_a0 a0.length c_a0,.func (.func 21) #[] #[]] w fun e w'=>e = .returned (.bool r)∧Below w.heap.size w w':=by
 obtain ⟨fr,hfr⟩:∃ fr:Nat→Prop,∀ j,fr j:=⟨fun _=>True,fun _=>trivial⟩
 have hBf:∀ j,w.heap.size≤j→fr j:=fun j _=>hfr j
 refine QO (args:=[.slice p_a0 a0.length c_a0,.func (.func 21) #[] #[]]) 9 [(9,qB qk 2 p_a0 c_a0 a0 qa)] (by
  intro x hx
  simp only [List.mem_cons,List.not_mem_nil,or_false] at hx
  rcases hx with rfl
  exact qy (qj hB.1) (fun _ _=>trivial) (by decide) _) Tryz.func84 rfl (by kernel_rfl) (by kernel_rfl) fun a H=>?_
 unfold Q1 at G
 refine qg qd H (.v 4 (.bool false)<|.nil) [0,1,9] fun u1 a w' H=>?_
 obtain ⟨t3,ht3,G⟩:=qP G
 refine qg qd H (.v 5 (.slice p_a0 a0.length c_a0) <|
 .v 6 (.func (.func 21) #[] #[]) <|
 .cons [7] (QX [9] (fun u2=>[qB qk 2 p_a0 c_a0 a0 qa]) 103 _ _ 7 (fun u2 w hF=>QG.calls k0 a0 p_a0 c_a0 t3 w  ⟨(Z9 (qj hF.1)),trivial⟩ ht3)) <|
 .v 8 (.bool (decide (t3 ≥ 0))) <|
 .v 4 (.bool (decide (t3 ≥ 0)))<|.nil) [4] fun u2 a w' H=>?_
 refine qF ?_
 obtain rfl:=sj G
 exact Qr H _ (by kernel_rfl) (by kernel_rfl)
theorem XR.calls (k0:Nat) (a0:List qb) (p_a0:Option Addr) (c_a0:Nat) (r:Bool) (w:World) (hB:Xx [qB qk 2 p_a0 c_a0 a0 qa] w) (G:XR k0 a0=some r) :
  Calls Tryz.prog 115 #[.slice p_a0 a0.length c_a0] w fun e w'=>e = .returned (.bool r)∧Below w.heap.size w w':=by
 obtain ⟨fr,hfr⟩:∃ fr:Nat→Prop,∀ j,fr j:=⟨fun _=>True,fun _=>trivial⟩
 have hBf:∀ j,w.heap.size≤j→fr j:=fun j _=>hfr j
 refine QO (args:=[.slice p_a0 a0.length c_a0]) 6 [(6,qB qk 2 p_a0 c_a0 a0 qa)] (by
  intro x hx
  simp only [List.mem_cons,List.not_mem_nil,or_false] at hx
  rcases hx with rfl
  exact qy (qj hB.1) (fun _ _=>trivial) (by decide) _) Tryz.func115 rfl (by kernel_rfl) (by kernel_rfl) fun a H=>?_
 unfold XR at G
 refine qg qd H (.v 2 (.bool false)<|.nil) [0,6] fun u1 a w' H=>?_
 obtain ⟨t3,ht3,G⟩:=qP G
 refine qg qd H (.v 3 (.slice p_a0 a0.length c_a0) <|
 .cons [4] (QX [6] (fun u2=>[qB qk 2 p_a0 c_a0 a0 qa]) 84 _ _ 4 (fun u2 w hF=>Q1.calls k0 a0 p_a0 c_a0 t3 w  ⟨(Z9 (qj hF.1)),trivial⟩ ht3)) <|
 .v 5 (.bool (!t3)) <|
 .v 2 (.bool (!t3))<|.nil) [2] fun u2 a w' H=>?_
 refine qF ?_
 obtain rfl:=sj G
 exact Qr H _ (by kernel_rfl) (by kernel_rfl)
theorem Yu.calls (a0:qb) (r:Int) (w:World) (G:Yu a0=some r) :
  Calls Tryz.prog 83 #[.agg #[vI a0.Lo,vI a0.Hi]] w fun e w'=>e = .returned (vI r)∧Below w.heap.size w w':=by
 refine QD (args:=[.agg #[vI a0.Lo,vI a0.Hi]]) 8 Tryz.func83 rfl (by kernel_rfl) (by kernel_rfl) fun a H=>?_
 unfold Yu at G
 refine qg qd H (.cons [1,8] (qs (fun b=>vP b 0) (fun u1=>[vI a0.Lo,vI a0.Hi]) 46 1 8) <|
 .v 2 (vI 0)<|.nil) [1,8] fun u1 a w' H=>?_
 refine qg qd H (.v 3 (vP ((u1 0).n 0) 1) <|
 .cons [4] (qf (vI a0.Hi) 4 8 1 1 ((u1 0).n 0) [vI a0.Lo,vI a0.Hi] 46) <|
 .v 5 (vP ((u1 0).n 0) 0) <|
 .cons [6] (qf (vI a0.Lo) 6 8 0 1 ((u1 0).n 0) [vI a0.Lo,vI a0.Hi] 46) <|
 .v 7 (vI (qc (a0.Hi - a0.Lo))) <|
 .v 2 (vI (qc (a0.Hi - a0.Lo)))<|.nil) [2] fun u2 a w' H=>?_
 refine qF ?_
 obtain rfl:=sj G
 exact Qr H _ (by kernel_rfl) (by kernel_rfl)
theorem Xc.calls (k0:Nat) (a0:List qb) (p_a0:Option Addr) (c_a0:Nat) (r:List qb) (w:World) (hB:Xx [qB qk 2 p_a0 c_a0 a0 qa] w) (G:Xc k0 a0=some r) :
  Calls Tryz.prog 116 #[.slice p_a0 a0.length c_a0] w fun e w'=>∃ g:Gh,e = .returned (.slice (g.o 0) r.length (g.n 0))∧Zg (Y4 []) w w'∧Ys w.heap.size (Y4 []) (JH w.heap.size []) [fun _=>Qm 46 2 (g.o 0) (g.n 0) r qa] w':=by
 obtain ⟨fr,hfr,hBf⟩:=VE w []
 refine QO (args:=[.slice p_a0 a0.length c_a0]) 35 [(35,qB qk 2 p_a0 c_a0 a0 qa)] (by
  intro x hx
  simp only [List.mem_cons,List.not_mem_nil,or_false] at hx
  rcases hx with rfl
  exact qy (qj hB.1) (fun _ _=>trivial) (by decide) _) Tryz.func116 rfl (by kernel_rfl) (by kernel_rfl) fun a H=>?_
 unfold Xc at G
 refine qg qd H (.v 2 (.slice none 0 0)<|.nil) [0,35] fun u1 a w' H=>?_
 refine qv ?_
 replace G:=gd G; obtain ⟨b3,G⟩:=G
 refine Qt qd H (.v 7 (.slice p_a0 a0.length c_a0) <|
 .v 8 (vI (a0.length:Int)) <|
 .cons [9,36] (Z7 [] (fun u2=>[]) 46 2 (List.replicate (a0.length:Int).toNat (⟨0,0⟩:qb)).length ((List.replicate (a0.length:Int).toNat (⟨0,0⟩:qb)).flatMap qa) 9 36 (fun _=>.none) (fun u2 w hF=>Yw (t:=48) (k:=.i64) (m:=(a0.length:Int)) (en:=qa) (z:=(⟨0,0⟩:qb)) qe JT rfl b3 (by kernel_rfl)) (fun _=>.inl rfl)) <|
 .cons [3] (qn (fun u2=>.slice ((u2 2).o 0) ((List.replicate (a0.length:Int).toNat (⟨0,0⟩:qb)).length) ((u2 2).n 0)) 3)<|.nil) [0,3,35,36] fun u2 a w' H=>?_
 refine qv ?_
 obtain ⟨j5,hj5,G⟩:=qP G
 refine Xq (fun a w'=>∃ (p_j4:Option Addr) (c_j4 np_j4:Nat),np_j4=j5.length∧RL w 35 [(3,sS p_j4 np_j4 c_j4),(900008,X6 46 2 p_j4 np_j4 c_j4 (j5.flatMap qa))] a w') ?_ ?_
 ·clear H; rintro a w' ⟨p_j4,c_j4,_,rfl,H⟩
  refine qg qd H (.v 34 (.slice p_j4 j5.length c_j4) <|
 .v 2 (.slice p_j4 j5.length c_j4)<|.nil) [2,900008] fun u6 a w' H=>?_
  refine qF ?_
  obtain rfl:=sj G
  obtain ⟨g,o0,n0⟩:=ZX p_j4 c_j4
  refine QR H _ g _ _ _ fr [900008] [] (.slice p_j4 j5.length c_j4) [fun _=>Qm 46 2 p_j4 c_j4 j5 qa] (by simp only [Qm,o0,n0]) (by simp only [Qm,o0,n0]) hfr (.inl ⟨rfl,rfl⟩) (ql Qw qC) (by simp)
 ·clear G; replace G:=hj5; clear hj5
  refine qg qd H (.v 10 (.slice p_a0 a0.length c_a0) <|
 .v 11 (vI (a0.length:Int)) <|
 .v 12 (vI 0)<|.nil) [3,10,11,12,35,36] fun u7 a w' H=>?_
  refine q6 ?_
  replace H:=H.move (K:=Qm 46 2 ((u2 2).o 0) ((u2 2).n 0) (List.replicate (a0.length:Int).toNat (⟨0,0⟩:qb)) qa) 36 900009 (by kernel_rfl) (by intro _ _ h; cases h)
  refine XP (fun m a w'=>∃ x8:List qb,∃ x9:Int,Xc.l10 k0 a0 m x8 x9=some j5 ∧ ∃ (p_x8:Option Addr) (c_x8 np_x8:Nat),np_x8=x8.length∧RL w 35 [(3,sS p_x8 np_x8 c_x8),(10,sS p_a0 a0.length c_a0),(11,(sI (a0.length:Int))),(12,sI x9),(35,qB qk 2 p_a0 c_a0 a0 qa),(900009,X6 46 2 p_x8 np_x8 c_x8 (x8.flatMap qa))] a w') k0 ⟨_,_,G,((u2 2).o 0),((u2 2).n 0),(List.replicate (a0.length:Int).toNat (⟨0,0⟩:qb)).length,rfl,H.toM _⟩ ?_
  clear G H
  rintro (_ | k) a w' ⟨x8,x9,G,p_x8,c_x8,_,rfl,H⟩
  ·exact absurd G (by unfold Xc.l10; exact fun h=>by cases h)
  ·unfold Xc.l10 at G
   refine qg qd H (.v 13 (.bool (decide (x9<(a0.length:Int))))<|.nil) [3,10,11,12,13,35,900009] fun u11 a w' H=>?_
   refine qv ?_
   refine Qx H (decide (x9<(a0.length:Int))) (fun c22=>?_) fun c22=>?_
   ·rw [if_pos c22] at G
    refine Qf ?_
    refine qv ?_
    refine q6 ?_
    refine qv ?_
    replace G:=gd G; obtain ⟨b13,G⟩:=G
    obtain ⟨t14,ht14,G⟩:=qP G
    refine Qt qd H (.v 14 (vI x9) <|
 .cons [15] (qG 35 (qB qk 2 p_a0 c_a0 a0 qa) (.pointer (some ⟨Xf p_a0,Xg p_a0+x9.toNat * 2,none⟩)) 15 fun _ w h=>Jo 48 .i64 x9 p_a0 a0.length c_a0 a0 qa (qj h).2 qe rfl b13) <|
 .cons [16] (qG 35 (qB qk 2 p_a0 c_a0 a0 qa) (.agg #[vI t14.Lo,vI t14.Hi]) 16 fun _ w h=>Ym qa (qj h).2 qe ht14 0 2 [vI t14.Lo,vI t14.Hi]) <|
 .cons [5,37] (qs (fun b=>vP b 0) (fun u12=>[vI 0,vI 0]) 46 5 37) <|
 .v 4 (vI x9) <|
 .cons [37] (QL (u':=fun u12=>[(37,.blk ((u12 3).n 0) [vI t14.Lo,vI t14.Hi] 46)]) (qW 37 0 (fun u12=>((u12 3).n 0)) (fun u12=>[vI 0,vI 0]) (fun u12=>[vI t14.Lo,vI t14.Hi]) 46) (fun _=>by kernel_rfl))<|.nil) [3,4,5,10,11,12,35,37,900009] fun u12 a w' H=>?_
    obtain ⟨t16,ht16,G⟩:=qP G
    refine qg qd H (.cons [17] (qf (.agg #[vI t14.Lo,vI t14.Hi]) 17 37 0 2 ((u12 3).n 0) [vI t14.Lo,vI t14.Hi] 46) <|
 .cons [18] (qq 83 _ _ 18 [] (fun u15 w _=>Yu.calls t14  t16 w  ht16)) <|
 .v 19 (vI (qc (Int.tdiv t16 16))) <|
 .v 20 (vI (qc ((qc (Int.tdiv t16 16))+1))) <|
 .v 6 (vI (qc ((qc (Int.tdiv t16 16))+1)))<|.nil) [3,4,5,6,10,11,12,35,37,900009] fun u15 a w' H=>?_
    obtain ⟨t18,ht18,G⟩:=qP G
    replace G:=gd G; obtain ⟨b19,G⟩:=G
    obtain ⟨t20,ht20,G⟩:=qP G
    refine Qt qd H (.v 21 (.slice p_x8 x8.length c_x8) <|
 .v 22 (vI x9) <|
 .v 23 (vP ((u12 3).n 0) 0) <|
 .cons [24] (qf (vI t14.Lo) 24 37 0 1 ((u12 3).n 0) [vI t14.Lo,vI t14.Hi] 46) <|
 .v 25 (vI (qc ((qc (Int.tdiv t16 16))+1))) <|
 .v 26 (vI (qc (t14.Lo - (qc ((qc (Int.tdiv t16 16))+1))))) <|
 .v 27 (vP ((u12 3).n 0) 1) <|
 .cons [28] (qf (vI t14.Hi) 28 37 1 1 ((u12 3).n 0) [vI t14.Lo,vI t14.Hi] 46) <|
 .v 29 (vI (qc ((qc (Int.tdiv t16 16))+1))) <|
 .v 30 (vI (qc (t14.Hi+(qc ((qc (Int.tdiv t16 16))+1))))) <|
 .cons [31] (qq 68 _ _ 31 [] (fun u17 w _=>qI.calls (qc (t14.Lo - (qc ((qc (Int.tdiv t16 16))+1)))) (qc (t14.Hi+(qc ((qc (Int.tdiv t16 16))+1))))  t18 w  ht18)) <|
 .cons [32] (qG 900009 (Qm 46 2 p_x8 c_x8 x8 qa) (.pointer (some ⟨Xf p_x8,Xg p_x8+x9.toNat * 2,none⟩)) 32 fun _ w h=>Jo 48 .i64 x9 p_x8 x8.length c_x8 x8 qa (qw (Qe h)).2 qe rfl b19) <|
 .cons [900009,900009] (XC [] [] (fun u17=>[]) 900009 (fun u17=>Qm 46 2 p_x8 c_x8 x8 qa) none (fun u17 g=>.nilFunc) (fun u17 g=>X6 46 2 p_x8 x8.length c_x8 ((x8.set x9.toNat t18).flatMap qa)) (fun u17 w hF hK=>ZA (XK (Qe hK) qe (y:=t18) (vs:=[vI t18.Lo,vI t18.Hi]) ht20 0 (by simp) (by simp) rfl (by kernel_rfl))))<|.nil) [3,10,11,12,35,900009] fun u17 a w' H=>?_
    refine Qt qd H (.v 33 (vI (qc (x9+1))) <|
 .v 12 (vI (qc (x9+1)))<|.nil) [3,10,11,12,35,900009] fun u21 a w' H=>?_
    exact ⟨k,Nat.lt_succ_self k,_,_,G,p_x8,c_x8,x8.length,by simp,H.toM _⟩
   ·rw [if_neg (nt c22)] at G
    refine Yk rfl ?_
    obtain rfl:=sj G
    replace H:=H.move (K:=Qm 46 2 p_x8 c_x8 x8 qa) 900009 900008 (by kernel_rfl) (by intro _ _ h; cases h)
    exact ⟨p_x8,c_x8,x8.length,rfl,H.toM _⟩
theorem YV.calls (a0:qb) (a1:qb) (r:Bool) (w:World) (G:YV a0 a1=some r) :
  Calls Tryz.prog 117 #[.agg #[vI a0.Lo,vI a0.Hi],.agg #[vI a1.Lo,vI a1.Hi]] w fun e w'=>e = .returned (.bool r)∧Below w.heap.size w w':=by
 refine QD (args:=[.agg #[vI a0.Lo,vI a0.Hi],.agg #[vI a1.Lo,vI a1.Hi]]) 17 Tryz.func117 rfl (by kernel_rfl) (by kernel_rfl) fun a H=>?_
 unfold YV at G
 refine qg qd H (.cons [2,17] (qs (fun b=>vP b 0) (fun u1=>[vI a0.Lo,vI a0.Hi]) 46 2 17) <|
 .cons [3,18] (qs (fun b=>vP b 0) (fun u1=>[vI a1.Lo,vI a1.Hi]) 46 3 18) <|
 .v 4 (.bool false)<|.nil) [2,3,17,18] fun u1 a w' H=>?_
 refine qg qd H (.v 5 (vP ((u1 1).n 0) 0) <|
 .cons [6] (qf (vI a1.Lo) 6 18 0 1 ((u1 1).n 0) [vI a1.Lo,vI a1.Hi] 46) <|
 .v 7 (vP ((u1 0).n 0) 0) <|
 .cons [8] (qf (vI a0.Lo) 8 17 0 1 ((u1 0).n 0) [vI a0.Lo,vI a0.Hi] 46) <|
 .v 9 (.bool (decide (a1.Lo≤a0.Lo))) <|
 .v 10 (.bool (decide (a1.Lo≤a0.Lo))) <|
 .cons [11] (qQ (fun u2=>vP ((u1 0).n 0) 1) (fun u2=>((decide (a1.Lo≤a0.Lo)) == true)) [true] 11) <|
 .cons [12] (YS (fun u2=>vI a0.Hi) (fun u2=>((decide (a1.Lo≤a0.Lo)) == true)) [false] 12 17 1 1 (fun u2=>((u1 0).n 0)) (fun u2=>[vI a0.Lo,vI a0.Hi]) 46) <|
 .cons [13] (qQ (fun u2=>vP ((u1 1).n 0) 1) (fun u2=>((decide (a1.Lo≤a0.Lo)) == true)) [true] 13) <|
 .cons [14] (YS (fun u2=>vI a1.Hi) (fun u2=>((decide (a1.Lo≤a0.Lo)) == true)) [false] 14 18 1 1 (fun u2=>((u1 1).n 0)) (fun u2=>[vI a1.Lo,vI a1.Hi]) 46) <|
 .cons [15] (qQ (fun u2=>.bool (decide (a0.Hi≤a1.Hi))) (fun u2=>((decide (a1.Lo≤a0.Lo)) == true)) [false,false] 15) <|
 .cons [16] (YY 10 15 (fun u2=>true) (fun u2=>true) (fun u2=>decide (a1.Lo≤a0.Lo)) (fun u2=>decide (a0.Hi≤a1.Hi)) 16) <|
 .v 4 (.bool ((decide (a1.Lo≤a0.Lo)) && (decide (a0.Hi≤a1.Hi))))<|.nil) [4] fun u2 a w' H=>?_
 refine qF ?_
 obtain rfl:=sj G
 exact Qr H _ (by kernel_rfl) (by kernel_rfl)
abbrev enI (x:qb):Value:=.agg #[vI x.Lo,vI x.Hi]
theorem Xm.ok (k0:Nat) (q0:List qb) (q1:List qb) (b_q0:Nat) (p_q0:Option Addr) (c_q0:Nat) (b_q1:Nat) (p_q1:Option Addr) (c_q1:Nat) (lo:Nat) (r:List (qb × qb)) (G:Xm k0 q0 q1=some r) :
  qcD (γ:=Unit) Tryz.prog 66 #[vP b_q0 0,vP b_q1 0] (fun x _=>#[enI x.1,enI x.2]) (fun _ _=>[]) r (fun _:Nat=>False) (fun w=>Xx [qB qk 2 p_q0 c_q0 q0 qa,Xp b_q0 [.slice p_q0 q0.length c_q0] 48,qB qk 2 p_q1 c_q1 q1 qa,Xp b_q1 [.slice p_q1 q1.length c_q1] 48] w) (fun _=>True) lo:=by
 intro l J JX base hJ hJX hF w hJc hXc hOl hlo hY W h0 hOx hsz
 have hB:=hF _ _ h0
 obtain ⟨fr,hfr⟩:∃ fr:Nat→Prop,∀ j,fr j:=⟨fun _=>True,fun _=>trivial⟩
 have hBf:∀ j,w.heap.size≤j→fr j:=fun j _=>hfr j
 have hFB:∀ x ∈ ([(23,qB qk 2 p_q0 c_q0 q0 qa),(22,Xp b_q0 [.slice p_q0 q0.length c_q0] 48),(25,qB qk 2 p_q1 c_q1 q1 qa),(24,Xp b_q1 [.slice p_q1 q1.length c_q1] 48)]:List (Nat × KV)),(∃ fp F,x.2 = .fact fp F)∧x.2.holds W ∧ ∀ i,x.2.fp i→i<W.heap.size:=by
  intro x hx
  simp only [List.mem_cons,List.not_mem_nil,or_false] at hx
  rcases hx with rfl | rfl | rfl | rfl
  ·exact qy (qj hB.1) (fun _ _=>trivial) (by decide) _
  ·exact QV (hB.2.1 W (agree.refl _ _)) _
  ·exact qy (qj hB.2.2.1) (fun _ _=>trivial) (by decide) _
  ·exact QV (hB.2.2.2.1 W (agree.refl _ _)) _
 have hFX:∀ x ∈ ([(23,qB qk 2 p_q0 c_q0 q0 qa),(22,Xp b_q0 [.slice p_q0 q0.length c_q0] 48),(25,qB qk 2 p_q1 c_q1 q1 qa),(24,Xp b_q1 [.slice p_q1 q1.length c_q1] 48)]:List (Nat × KV)),(∃ fp F,x.2 = .fact fp F) ∧ ∀ i,x.2.fp i→i<base ∧ ¬ (fun _:Nat=>False) i:=fun x hx=>⟨(hFB x hx).1,fun i hi=>⟨by rw [← hsz]; exact (hFB x hx).2.2 i hi,fun h=>h⟩⟩
 have hFJ:∀ s W,J s W → ∀ x ∈ ([(23,qB qk 2 p_q0 c_q0 q0 qa),(22,Xp b_q0 [.slice p_q0 q0.length c_q0] 48),(25,qB qk 2 p_q1 c_q1 q1 qa),(24,Xp b_q1 [.slice p_q1 q1.length c_q1] 48)]:List (Nat × KV)),x.2.holds W:=fun s W h=>W4 _ (hF _ _ h)
 have hbase:0<base:=Nat.lt_of_le_of_lt (Nat.zero_le _) ((hFX _ (.tail _ (.head _))).2 b_q0 rfl).1
 refine qbC (args:=[.func (.yield l) #[] #[],vP b_q0 0,vP b_q1 0]) 22 Tryz.func66 rfl (by kernel_rfl) (by kernel_rfl) fun a H=>?_
 replace H:=(H.again W (hJc _ _ h0) (Nat.zero_le _) ([(23,qB qk 2 p_q0 c_q0 q0 qa),(22,Xp b_q0 [.slice p_q0 q0.length c_q0] 48),(25,qB qk 2 p_q1 c_q1 q1 qa),(24,Xp b_q1 [.slice p_q1 q1.length c_q1] 48)]++[(26,jO (fun _:Nat=>False) base w (J r))]) (fun x hx=>(List.mem_append.1 hx).elim (hFB x) fun hx=>by
  rw [List.mem_singleton.1 hx]
  exact ⟨⟨_,_,rfl⟩,W5 hbase hOl (Nat.le_of_eq hsz.symm) (fun W' hs=>hJ _ _ _ h0 hs) (hJc _ _ h0),fun i hi=>by rw [hsz]; exact hi.1⟩)).toL [(0,.slot true (.func (.yield l) #[] #[])),(1,sP b_q0 0),(2,sP b_q1 0),(23,qB qk 2 p_q0 c_q0 q0 qa),(25,qB qk 2 p_q1 c_q1 q1 qa),(22,Xp b_q0 [.slice p_q0 q0.length c_q0] 48),(24,Xp b_q1 [.slice p_q1 q1.length c_q1] 48),(26,jO (fun _:Nat=>False) base w (J r))] (by kernel_rfl)
 clear hB hFB h0 hsz
 unfold Xm at G
 refine YA ?_
 refine YQ qd H (.cons [6] (Q8 (fun u1=>.slice p_q0 q0.length c_q0) 6 22 (Xp b_q0 [.slice p_q0 q0.length c_q0] 48) b_q0 0 1 [.slice p_q0 q0.length c_q0] (fun w h=>Zf h)) <|
 .v 7 (vI (q0.length:Int)) <|
 .v 8 (vI 0)<|.nil) (by kernel_rfl) (by kernel_rfl) fun u1 a w' H=>?_
 replace H:=H.kp [0,2,6,7,8,23,25,22,24,26]
 refine Jr ?_
 refine qbi (fun m a w'=>∃ r,∃ x2:Int,Xm.l3 k0 q0 q1 m x2=some r∧QS 0 w 22 (Jl [(0,.slot true (.func (.yield l) #[] #[])),(2,sP b_q1 0),(6,sS p_q0 q0.length c_q0),(7,(sI (q0.length:Int))),(8,sI x2),(23,qB qk 2 p_q0 c_q0 q0 qa),(25,qB qk 2 p_q1 c_q1 q1 qa),(22,Xp b_q0 [.slice p_q0 q0.length c_q0] 48),(24,Xp b_q1 [.slice p_q1 q1.length c_q1] 48),(26,jO (fun _:Nat=>False) base w (J r))]) a w') k0 ⟨_,_,G,H.toM _⟩ ?_
 clear H G
 rintro (_ | k1) a w' ⟨r,x2,G,H⟩
 ·exact absurd G (by unfold Xm.l3; exact fun h=>by cases h)
 ·unfold Xm.l3 at G
  refine YA ?_
  refine YQ qd H (.v 9 (.bool (decide (x2<(q0.length:Int))))<|.nil) (by kernel_rfl) (by kernel_rfl) fun u4 a w' H=>?_
  replace H:=H.kp [0,2,6,7,8,9,23,25,22,24,26]
  refine YA ?_
  refine Ve H (by kernel_rfl) (t:=decide (x2<(q0.length:Int))) (by kernel_rfl) (fun c13=>?_) (fun c13=>?_)
  ·rw [if_pos c13] at G
   refine JB ?_
   refine YA ?_
   refine Jr ?_
   refine YA ?_
   replace G:=gd G; obtain ⟨b6,G⟩:=G
   obtain ⟨t7,ht7,G⟩:=qP G
   refine YQ qd H (.v 10 (vI x2) <|
 .cons [11] (qG 23 (qB qk 2 p_q0 c_q0 q0 qa) (.pointer (some ⟨Xf p_q0,Xg p_q0+x2.toNat * 2,none⟩)) 11 fun _ w h=>Jo 48 .i64 x2 p_q0 q0.length c_q0 q0 qa (qj h).2 qe rfl b6) <|
 .cons [12] (qG 23 (qB qk 2 p_q0 c_q0 q0 qa) (.agg #[vI t7.Lo,vI t7.Hi]) 12 fun _ w h=>Ym qa (qj h).2 qe ht7 0 2 [vI t7.Lo,vI t7.Hi]) <|
 .cons [5,27] (qs (fun b=>vP b 0) (fun u5=>[vI 0,vI 0]) 46 5 27) <|
 .v 4 (vI x2) <|
 .cons [27] (QL (u':=fun u5=>[(27,.blk ((u5 3).n 0) [vI t7.Lo,vI t7.Hi] 46)]) (qW 27 0 (fun u5=>((u5 3).n 0)) (fun u5=>[vI 0,vI 0]) (fun u5=>[vI t7.Lo,vI t7.Hi]) 46) (fun _=>by kernel_rfl))<|.nil) (by kernel_rfl) (by kernel_rfl) fun u5 a w' H=>?_
   replace H:=H.kp [0,2,4,5,6,7,8,23,25,27,22,24,26]
   refine YA ?_
   replace G:=gd G; obtain ⟨b9,G⟩:=G
   obtain ⟨t10,ht10,G⟩:=qP G
   have P11:=Xh (en:=qa) (l:=q1) (qj (H.at (K:=qB qk 2 p_q1 c_q1 q1 qa) 25 (by kernel_rfl))).2 qe
   obtain ⟨r,hr,G⟩:=qP G; obtain rfl:=sj G; replace G:=hr; clear hr
   refine qfR (qei (Rp:=qdf (fun _:Nat=>False) 26 [23,22,25,24] [27] base w 22) qd ⟨H.toM [(0,.slot true (.func (.yield l) #[] #[])),(2,sP b_q1 0),(4,sI x2),(5,(sP ((u5 3).n 0) 0)),(6,sS p_q0 q0.length c_q0),(7,(sI (q0.length:Int))),(8,sI x2),(23,qB qk 2 p_q0 c_q0 q0 qa),(25,qB qk 2 p_q1 c_q1 q1 qa),(27,.blk ((u5 3).n 0) [vI t7.Lo,vI t7.Hi] 46),(22,Xp b_q0 [.slice p_q0 q0.length c_q0] 48),(24,Xp b_q1 [.slice p_q1 q1.length c_q1] 48),(26,jO (fun _:Nat=>False) base w (J ((t7,t10) :: r)))] (by kernel_rfl),W7 _ (by kernel_rfl)⟩ (.cons [13] (okg (qn (fun u8=>.func (.yield l) #[] #[]) 13)) <|
 .cons [14] (okg (qf (.agg #[vI t7.Lo,vI t7.Hi]) 14 27 0 2 ((u5 3).n 0) [vI t7.Lo,vI t7.Hi] 46)) <|
 .cons [15] (okg (Q8 (fun u8=>.slice p_q1 q1.length c_q1) 15 24 (Xp b_q1 [.slice p_q1 q1.length c_q1] 48) b_q1 0 1 [.slice p_q1 q1.length c_q1] (fun w h=>Zf h))) <|
 .cons [16] (okg (qn (fun u8=>vI x2) 16)) <|
 .cons [17] (okg (qn (fun u8=>.pointer (some ⟨Xf p_q1,Xg p_q1+x2.toNat * 2,none⟩)) 17 (hv:=fun _ _=>qM (t:=48) (k:=.i64) (i:=x2) (p:=p_q1) (n:=q1.length) (cap:=c_q1) (x:=q1) P11 rfl b9 (by kernel_rfl)))) <|
 .cons [18] (okg (qG 25 (qB qk 2 p_q1 c_q1 q1 qa) (.agg #[vI t10.Lo,vI t10.Hi]) 18 fun _ w h=>Ym qa (qj h).2 qe ht10 0 2 [vI t10.Lo,vI t10.Hi])) <|
 .cons [19,26,23,22,25,24,27] (Wm (O:=(fun _:Nat=>False)) (base:=base) 26 [23,22,25,24] [27] l (fun u8=>#[.agg #[vI t7.Lo,vI t7.Hi],.agg #[vI t10.Lo,vI t10.Hi]]) (J ((t7,t10) :: r)) (J r) JX 19 hbase hOl (by intro _; kernel_rfl) (fun u8 W1 h1 hb1 hk1=>hY (t7,t10) () r W1 h1 hb1 (fun x hx=>by cases hx)) (fun W1 W2 h1 h2=>hJ _ _ _ h1 h2) hJX (fun W1 h1=>hJc _ _ h1) hXc (by rfl) (by rfl) (by rfl)) <|
 .cons [20] (okg (qn (fun u8=>.bool (!(decide ((u8 6).n 0=1)))) 20))<|(.nil)) (by kernel_rfl) (fun S a w1 h=>⟨h.1.world ⟨rfl,rfl,rfl,Nat.le_refl _,fun _ _=>rfl⟩,h.2⟩) fun u8 a w' H=>?_)
   replace H:=H.1.toL [(0,.slot true (.func (.yield l) #[] #[])),(2,sP b_q1 0),(6,sS p_q0 q0.length c_q0),(7,(sI (q0.length:Int))),(8,sI x2),(20,(sB (!(decide ((u8 6).n 0=1))))),(26,bif decide ((u8 6).n 0=1) then jO (fun _:Nat=>False) base w (J r) else jK ((u8 6).n 1) w JX)] (by kernel_rfl)
   rcases Bool.eq_false_or_eq_true (decide ((u8 6).n 0=1)) with hb | hb
   ·rw [hb] at H
    replace H:=H.kp [0,2,6,7,8,20,26]
    replace H:=(QS.readdO (O:=(fun _:Nat=>False)) (J:=J r) 26 [(23,qB qk 2 p_q0 c_q0 q0 qa),(22,Xp b_q0 [.slice p_q0 q0.length c_q0] 48),(25,qB qk 2 p_q1 c_q1 q1 qa),(24,Xp b_q1 [.slice p_q1 q1.length c_q1] 48)] _ H hFX (fun W1 h1=>hFJ _ _ h1) (by kernel_rfl) (WS (O:=(fun _:Nat=>False)) (J:=J r) hbase hOl 26 H (by kernel_rfl)) (by rfl)).toL [(0,.slot true (.func (.yield l) #[] #[])),(2,sP b_q1 0),(6,sS p_q0 q0.length c_q0),(7,(sI (q0.length:Int))),(8,sI x2),(20,sB false),(23,qB qk 2 p_q0 c_q0 q0 qa),(25,qB qk 2 p_q1 c_q1 q1 qa),(22,Xp b_q0 [.slice p_q0 q0.length c_q0] 48),(24,Xp b_q1 [.slice p_q1 q1.length c_q1] 48),(26,jO (fun _:Nat=>False) base w (J r))] (by kernel_rfl)
    refine Jt H (by kernel_rfl) (by kernel_rfl) ?_
    refine JB ?_
    refine YQ qd H (.v 21 (vI (qc (x2+1))) <|
 .v 8 (vI (qc (x2+1)))<|.nil) (by kernel_rfl) (by kernel_rfl) fun u12 a w' H=>?_
    replace H:=H.kp [0,2,6,7,8,23,25,22,24,26]
    exact ⟨k1,Nat.lt_succ_self k1,_,_,G,H.toM _⟩
   ·clear G; rw [hb] at H
    replace H:=H.kp [0,2,6,7,8,20,26]
    refine JI H (by kernel_rfl) (by kernel_rfl) ?_
    refine Vn ?_
    exact ⟨H.defers,_,XZ H (.tuple #[]) [] (by kernel_rfl) (by simp) (by kernel_rfl),⟨_,rfl⟩,.inr ((show (jK ((u8 6).n 1) w JX).holds _ from H.holds 26) _ (agree.refl _ _) H.below)⟩
  ·rw [if_neg (nt c13)] at G
   refine Wr rfl ?_
   obtain rfl:=sj G
   exact ⟨H.defers,_,XZ H (.tuple #[]) [] (by kernel_rfl) (by simp) (by kernel_rfl),⟨_,rfl⟩,.inl ((show (jO (fun _:Nat=>False) base w (J [])).holds _ from H.holds 26) _ (agree.refl _ _) H.below)⟩
theorem XN.calls (k0:Nat) (a0:List qb) (a1:List qb) (p_a0:Option Addr) (c_a0:Nat) (p_a1:Option Addr) (c_a1:Nat) (r:Bool) (w:World) (hB:Xx [qB qk 2 p_a0 c_a0 a0 qa,qB qk 2 p_a1 c_a1 a1 qa] w) (G:XN k0 a0 a1=some r) :
  Calls Tryz.prog 96 #[.slice p_a0 a0.length c_a0,.slice p_a1 a1.length c_a1] w fun e w'=>e = .returned (.bool r)∧Below w.heap.size w w':=by
 obtain ⟨fr,hfr⟩:∃ fr:Nat→Prop,∀ j,fr j:=⟨fun _=>True,fun _=>trivial⟩
 have hBf:∀ j,w.heap.size≤j→fr j:=fun j _=>hfr j
 refine qax (args:=[.slice p_a0 a0.length c_a0,.slice p_a1 a1.length c_a1]) 16 [(16,qB qk 2 p_a0 c_a0 a0 qa),(17,qB qk 2 p_a1 c_a1 a1 qa)] (by
  intro x hx
  simp only [List.mem_cons,List.not_mem_nil,or_false] at hx
  rcases hx with rfl | rfl
  ·exact qy (qj hB.1) (fun _ _=>trivial) (by decide) _
  ·exact qy (qj hB.2.1) (fun _ _=>trivial) (by decide) _) Tryz.func96 rfl (by kernel_rfl) (by kernel_rfl) fun a H=>?_
 unfold XN at G
 refine qg qd H (.cons [4,18] (qs (fun b=>vP b 0) (fun u1=>[.bool false]) 4 4 18)<|.nil) [0,1,4,16,17,18] fun u1 a w' H=>?_
 refine qv ?_
 refine qg qd H (.v 7 (.slice p_a0 a0.length c_a0) <|
 .v 8 (.slice p_a1 a1.length c_a1) <|
 .cons [9,19,20] (qaS 43 (fun u2=>#[.slice p_a0 a0.length c_a0,.slice p_a1 a1.length c_a1]) (fun b1 b2=>.func (.func 66) #[] #[vP b1 0,vP b2 0]) [.slice p_a0 a0.length c_a0] [.slice p_a1 a1.length c_a1] 48 48 9 19 20 (fun _ w=>box_pairs.calls a0 p_a0 a0.length c_a0 a1 p_a1 a1.length c_a1 w))<|.nil) [4,9,16,17,18,19,20] fun u2 a w' H=>?_
 refine q6 ?_
 obtain ⟨t4,ht4,G⟩:=qP G
 refine qbQ ?_
 refine qai (γ:=Unit) (fun x _=>#[enI x.1,enI x.2]) (fun _ _=>[]) (fun x z=>[(10,.slot true (.agg #[vI x.1.Lo,vI x.1.Hi])),(11,.slot true (.agg #[vI x.2.Lo,vI x.2.Hi]))]) t4 (fun _:Nat=>False) [] (fun w=>Xx [qB qk 2 p_a0 c_a0 a0 qa,Xp ((u2 2).n 0) [.slice p_a0 a0.length c_a0] 48,qB qk 2 p_a1 c_a1 a1 qa,Xp ((u2 2).n 1) [.slice p_a1 a1.length c_a1] 48] w) (fun _=>True) 21 22 23 0 _ (fun zs L=>XN.l5 k0 a0 a1 zs=some r∧L=[(16,qB qk 2 p_a0 c_a0 a0 qa),(17,qB qk 2 p_a1 c_a1 a1 qa),(18,.blk ((u1 0).n 0) [.bool false] 4),(19,.blk ((u2 2).n 0) [.slice p_a0 a0.length c_a0] 48),(20,.blk ((u2 2).n 1) [.slice p_a1 a1.length c_a1] 48)]) (fun L=>L=[(18,.blk ((u1 0).n 0) [.bool r] 4)]) (fun _=>False) [(16,qB qk 2 p_a0 c_a0 a0 qa),(17,qB qk 2 p_a1 c_a1 a1 qa),(18,.blk ((u1 0).n 0) [.bool false] 4),(19,.blk ((u2 2).n 0) [.slice p_a0 a0.length c_a0] 48),(20,.blk ((u2 2).n 1) [.slice p_a1 a1.length c_a1] 48)] H (by kernel_rfl) (by kernel_rfl) (Wn Tryz.func66 (by kernel_rfl) rfl) (Xm.ok k0 a0 a1 ((u2 2).n 0) p_a0 c_a0 ((u2 2).n 1) p_a1 c_a1 _ t4  ht4) (fun x=>qfw 10 11 (fun z:Unit=>.agg #[vI x.1.Lo,vI x.1.Hi]) (fun z:Unit=>.agg #[vI x.2.Lo,vI x.2.Hi]) (by rfl) (by rfl)) rfl (fun i hi=>hi.elim) (fun _ _=>trivial) ⟨G,rfl⟩ (by kernel_rfl) (by kernel_rfl) (by kernel_rfl) (by kernel_rfl) (by kernel_rfl) (by kernel_rfl) (by rintro zs L ⟨G,rfl⟩ x hx; simp only [List.mem_cons,List.not_mem_nil,or_false] at hx; rcases hx with rfl | rfl | rfl | rfl | rfl; all_goals exact ⟨by simp,fun i hi=>hi⟩) (by rintro zs L a w ⟨G,rfl⟩ h; have hF:Xx [qB qk 2 p_a0 c_a0 a0 qa,.blk ((u2 2).n 0) [.slice p_a0 a0.length c_a0] 48,qB qk 2 p_a1 c_a1 a1 qa,.blk ((u2 2).n 1) [.slice p_a1 a1.length c_a1] 48] w:=⟨h.at (K:=qB qk 2 p_a0 c_a0 a0 qa) 16 (by kernel_rfl),h.at (K:=.blk ((u2 2).n 0) [.slice p_a0 a0.length c_a0] 48) 19 (by kernel_rfl),h.at (K:=qB qk 2 p_a1 c_a1 a1 qa) 17 (by kernel_rfl),h.at (K:=.blk ((u2 2).n 1) [.slice p_a1 a1.length c_a1] 48) 20 (by kernel_rfl),trivial⟩; exact ⟨(Z9 (qj hF.1)),(QV hF.2.1 0).2.1,(Z9 (qj hF.2.2.1)),(QV hF.2.2.2.1 0).2.1,trivial⟩) ?_ ?_ ?_ ?_
 ·clear H G; rintro li Di bi oR oD Wi x z zs L a w' hbi ⟨G,rfl⟩ H
  unfold XN.l5 at G
  replace H:=H.kp [4,9,10,11,16,17,18,19,20,21,22,23]
  refine YA ?_
  refine YQ qd H (.cons [5,26] (qs (fun b=>vP b 0) (fun u6=>[vI 0,vI 0]) 46 5 26) <|
 .cons [26] (QL (u':=fun u6=>[(26,.blk ((u6 0).n 0) [vI x.1.Lo,vI x.1.Hi] 46)]) (qW 26 0 (fun u6=>((u6 0).n 0)) (fun u6=>[vI 0,vI 0]) (fun u6=>[vI x.1.Lo,vI x.1.Hi]) 46) (fun _=>by kernel_rfl))<|.nil) (by kernel_rfl) (by kernel_rfl) fun u6 a w' H=>?_
  replace H:=H.kp [4,5,9,11,16,17,18,19,20,26,21,22,23]
  refine YQ qd H (.cons [6,27] (qs (fun b=>vP b 0) (fun u7=>[vI 0,vI 0]) 46 6 27) <|
 .cons [27] (QL (u':=fun u7=>[(27,.blk ((u7 0).n 0) [vI x.2.Lo,vI x.2.Hi] 46)]) (qW 27 0 (fun u7=>((u7 0).n 0)) (fun u7=>[vI 0,vI 0]) (fun u7=>[vI x.2.Lo,vI x.2.Hi]) 46) (fun _=>by kernel_rfl))<|.nil) (by kernel_rfl) (by kernel_rfl) fun u7 a w' H=>?_
  replace H:=H.kp [4,5,6,9,16,17,18,19,20,26,27,21,22,23]
  refine ⟨_,H,by kernel_rfl,fun oB w' H=>?_⟩
  replace H:=H.kp [4,5,6,9,16,17,18,19,20,26,27,21,22,23]
  refine Jr ?_
  refine YA ?_
  obtain ⟨t9,ht9,G⟩:=qP G
  refine YQ qd H (.cons [12] (qf (.agg #[vI x.1.Lo,vI x.1.Hi]) 12 26 0 2 ((u6 0).n 0) [vI x.1.Lo,vI x.1.Hi] 46) <|
 .cons [13] (qf (.agg #[vI x.2.Lo,vI x.2.Hi]) 13 27 0 2 ((u7 0).n 0) [vI x.2.Lo,vI x.2.Hi] 46) <|
 .cons [14] (qq 117 _ _ 14 [] (fun u8 w _=>YV.calls (⟨x.1.Lo,x.1.Hi⟩:qb) (⟨x.2.Lo,x.2.Hi⟩:qb)  t9 w  ht9)) <|
 .v 15 (.bool (!t9))<|.nil) (by kernel_rfl) (by kernel_rfl) fun u8 a w' H=>?_
  replace H:=H.kp [4,9,15,16,17,18,19,20,21,22,23]
  refine Ve H (by kernel_rfl) (t:=(!t9)) (by kernel_rfl) (fun c11=>?_) (fun c11=>?_)
  ·rw [if_pos c11] at G
   refine YA ?_
   refine YQ qd H (.cons [18] (Qa 18 0 ((u1 0).n 0) [.bool false] [.bool false] 4 [.bool false])<|.nil) (by kernel_rfl) (by kernel_rfl) fun u10 a w' H=>?_
   replace H:=H.kp [4,9,16,17,18,19,20,21,22,23]
   refine Vn ?_
   obtain rfl:=sj G
   exact ⟨_,rfl,by kernel_rfl,H.toM _⟩
  ·rw [if_neg (nt c11)] at G
   refine JB ?_
   exact ⟨_,⟨G,rfl⟩,by kernel_rfl,H.toM _⟩
 ·clear H G; rintro Di L W ⟨G,rfl⟩ H
  unfold XN.l5 at G
  replace H:=H.kp [4,9,16,17,18,19,20,22]
  refine WR ?_
  refine YA ?_
  refine YQ qd H (.cons [18] (Qa 18 0 ((u1 0).n 0) [.bool false] [.bool true] 4 [.bool true])<|.nil) (by kernel_rfl) (by kernel_rfl) fun u12 a w' H=>?_
  replace H:=H.kp [4,18,22]
  refine Vn ?_
  obtain rfl:=sj G
  refine Wo 22 H (by kernel_rfl) fun w' H=>?_
  exact Qj H _ 18 ((u1 0).n 0) [.bool true] 4 0 1 (by kernel_rfl) (by kernel_rfl) (by kernel_rfl) (by kernel_rfl)
 ·clear H G; rintro Di L W rfl H
  replace H:=H.kp [4,18,22]
  refine Wo 22 H (by kernel_rfl) fun w' H=>?_
  exact Qj H _ 18 ((u1 0).n 0) [.bool r] 4 0 1 (by kernel_rfl) (by kernel_rfl) (by kernel_rfl) (by kernel_rfl)
 ·clear H G; rintro Di L W h H; exact h.elim
theorem Qi.calls (k0:Nat) (a0:List qb) (a1:List qb) (p_a0:Option Addr) (c_a0:Nat) (p_a1:Option Addr) (c_a1:Nat) (r:List qb) (w:World) (hB:Xx [qB qk 2 p_a0 c_a0 a0 qa,qB qk 2 p_a1 c_a1 a1 qa] w) (G:Qi k0 a0 a1=some r) :
  Calls Tryz.prog 112 #[.slice p_a0 a0.length c_a0,.slice p_a1 a1.length c_a1,.func (.func 114) #[] #[]] w fun e w'=>∃ g:Gh,e = .returned (.slice (g.o 0) r.length (g.n 0))∧Zg (Y4 []) w w'∧Ys w.heap.size (Y4 []) (JH w.heap.size []) [fun _=>Qm 46 2 (g.o 0) (g.n 0) r qa] w':=by
 obtain ⟨fr,hfr,hBf⟩:=VE w []
 refine QO (args:=[.slice p_a0 a0.length c_a0,.slice p_a1 a1.length c_a1,.func (.func 114) #[] #[]]) 32 [(32,qB qk 2 p_a0 c_a0 a0 qa),(33,qB qk 2 p_a1 c_a1 a1 qa)] (by
  intro x hx
  simp only [List.mem_cons,List.not_mem_nil,or_false] at hx
  rcases hx with rfl | rfl
  ·exact qy (qj hB.1) (fun _ _=>trivial) (by decide) _
  ·exact qy (qj hB.2.1) (fun _ _=>trivial) (by decide) _) Tryz.func112 rfl (by kernel_rfl) (by kernel_rfl) fun a H=>?_
 unfold Qi at G
 refine qg qd H (.v 6 (.slice none 0 0)<|.nil) [0,1,2,32,33] fun u1 a w' H=>?_
 refine qv ?_
 replace G:=gd G; obtain ⟨b3,G⟩:=G
 refine Qt qd H (.v 9 (.slice p_a0 a0.length c_a0) <|
 .v 10 (vI (a0.length:Int)) <|
 .cons [11,34] (Z7 [] (fun u2=>[]) 46 2 (List.replicate (a0.length:Int).toNat (⟨0,0⟩:qb)).length ((List.replicate (a0.length:Int).toNat (⟨0,0⟩:qb)).flatMap qa) 11 34 (fun _=>.none) (fun u2 w hF=>Yw (t:=48) (k:=.i64) (m:=(a0.length:Int)) (en:=qa) (z:=(⟨0,0⟩:qb)) qe JT rfl b3 (by kernel_rfl)) (fun _=>.inl rfl)) <|
 .cons [7] (qn (fun u2=>.slice ((u2 2).o 0) ((List.replicate (a0.length:Int).toNat (⟨0,0⟩:qb)).length) ((u2 2).n 0)) 7)<|.nil) [0,1,2,7,32,33,34] fun u2 a w' H=>?_
 refine qv ?_
 obtain ⟨j5,hj5,G⟩:=qP G
 refine Xq (fun a w'=>∃ (p_j4:Option Addr) (c_j4 np_j4:Nat),np_j4=j5.length∧RL w 32 [(7,sS p_j4 np_j4 c_j4),(900010,X6 46 2 p_j4 np_j4 c_j4 (j5.flatMap qa))] a w') ?_ ?_
 ·clear H; rintro a w' ⟨p_j4,c_j4,_,rfl,H⟩
  refine qg qd H (.v 31 (.slice p_j4 j5.length c_j4) <|
 .v 6 (.slice p_j4 j5.length c_j4)<|.nil) [6,900010] fun u6 a w' H=>?_
  refine qF ?_
  obtain rfl:=sj G
  obtain ⟨g,o0,n0⟩:=ZX p_j4 c_j4
  refine QR H _ g _ _ _ fr [900010] [] (.slice p_j4 j5.length c_j4) [fun _=>Qm 46 2 p_j4 c_j4 j5 qa] (by simp only [Qm,o0,n0]) (by simp only [Qm,o0,n0]) hfr (.inl ⟨rfl,rfl⟩) (ql Qw qC) (by simp)
 ·clear G; replace G:=hj5; clear hj5
  refine qg qd H (.v 12 (.slice p_a0 a0.length c_a0) <|
 .v 13 (vI (a0.length:Int)) <|
 .v 14 (vI 0)<|.nil) [0,1,2,7,13,14,32,33,34] fun u7 a w' H=>?_
  refine q6 ?_
  replace H:=H.move (K:=Qm 46 2 ((u2 2).o 0) ((u2 2).n 0) (List.replicate (a0.length:Int).toNat (⟨0,0⟩:qb)) qa) 34 900011 (by kernel_rfl) (by intro _ _ h; cases h)
  refine XP (fun m a w'=>∃ x8:List qb,∃ x9:Int,Qi.l10 k0 a0 a1 m x8 x9=some j5 ∧ ∃ (p_x8:Option Addr) (c_x8 np_x8:Nat),np_x8=x8.length∧RL w 32 [(0,sS p_a0 a0.length c_a0),(1,sS p_a1 a1.length c_a1),(2,.slot true (.func (.func 114) #[] #[])),(7,sS p_x8 np_x8 c_x8),(13,(sI (a0.length:Int))),(14,sI x9),(32,qB qk 2 p_a0 c_a0 a0 qa),(33,qB qk 2 p_a1 c_a1 a1 qa),(900011,X6 46 2 p_x8 np_x8 c_x8 (x8.flatMap qa))] a w') k0 ⟨_,_,G,((u2 2).o 0),((u2 2).n 0),(List.replicate (a0.length:Int).toNat (⟨0,0⟩:qb)).length,rfl,H.toM _⟩ ?_
  clear G H
  rintro (_ | k) a w' ⟨x8,x9,G,p_x8,c_x8,_,rfl,H⟩
  ·exact absurd G (by unfold Qi.l10; exact fun h=>by cases h)
  ·unfold Qi.l10 at G
   refine qg qd H (.v 15 (.bool (decide (x9<(a0.length:Int))))<|.nil) [0,1,2,7,13,14,15,32,33,900011] fun u11 a w' H=>?_
   refine qv ?_
   refine Qx H (decide (x9<(a0.length:Int))) (fun c25=>?_) fun c25=>?_
   ·rw [if_pos c25] at G
    refine Qf ?_
    refine qv ?_
    refine q6 ?_
    refine qg qd H (.v 16 (vI x9) <|
 .v 8 (vI x9)<|.nil) [0,1,2,7,8,13,14,32,33,900011] fun u12 a w' H=>?_
    replace G:=gd G; obtain ⟨b14,G⟩:=G
    obtain ⟨t15,ht15,G⟩:=qP G
    have P16:=Xh (en:=qa) (l:=a0) (qj (H.at (K:=qB qk 2 p_a0 c_a0 a0 qa) 32 (by kernel_rfl))).2 qe
    replace G:=gd G; obtain ⟨b17,G⟩:=G
    obtain ⟨t18,ht18,G⟩:=qP G
    have P19:=Xh (en:=qa) (l:=a1) (qj (H.at (K:=qB qk 2 p_a1 c_a1 a1 qa) 33 (by kernel_rfl))).2 qe
    obtain ⟨t20,ht20,G⟩:=qP G
    replace G:=gd G; obtain ⟨b21,G⟩:=G
    obtain ⟨t22,ht22,G⟩:=qP G
    have P23:=Xh (en:=qa) (l:=x8) (qw (Qe (H.at (K:=Qm 46 2 p_x8 c_x8 x8 qa) 900011 (by kernel_rfl)))).2 qe
    refine Qt qd H (.v 17 (.slice p_x8 x8.length c_x8) <|
 .v 18 (vI x9) <|
 .v 19 (.func (.func 114) #[] #[]) <|
 .v 20 (.slice p_a0 a0.length c_a0) <|
 .v 21 (vI x9) <|
 .cons [22] (qn (fun u13=>.pointer (some ⟨Xf p_a0,Xg p_a0+x9.toNat * 2,none⟩)) 22 (hv:=fun _ _=>qM (t:=48) (k:=.i64) (i:=x9) (p:=p_a0) (n:=a0.length) (cap:=c_a0) (x:=a0) P16 rfl b14 (by kernel_rfl))) <|
 .cons [23] (qG 32 (qB qk 2 p_a0 c_a0 a0 qa) (.agg #[vI t15.Lo,vI t15.Hi]) 23 fun _ w h=>Ym qa (qj h).2 qe ht15 0 2 [vI t15.Lo,vI t15.Hi]) <|
 .v 24 (.slice p_a1 a1.length c_a1) <|
 .v 25 (vI x9) <|
 .cons [26] (qn (fun u13=>.pointer (some ⟨Xf p_a1,Xg p_a1+x9.toNat * 2,none⟩)) 26 (hv:=fun _ _=>qM (t:=48) (k:=.i64) (i:=x9) (p:=p_a1) (n:=a1.length) (cap:=c_a1) (x:=a1) P19 rfl b17 (by kernel_rfl))) <|
 .cons [27] (qG 33 (qB qk 2 p_a1 c_a1 a1 qa) (.agg #[vI t18.Lo,vI t18.Hi]) 27 fun _ w h=>Ym qa (qj h).2 qe ht18 0 2 [vI t18.Lo,vI t18.Hi]) <|
 .cons [28] (qq 114 _ _ 28 [] (fun u13 w _=>ZP.calls t15 t18  t20 w  ht20)) <|
 .cons [29] (qn (fun u13=>.pointer (some ⟨Xf p_x8,Xg p_x8+x9.toNat * 2,none⟩)) 29 (hv:=fun _ _=>qM (t:=48) (k:=.i64) (i:=x9) (p:=p_x8) (n:=x8.length) (cap:=c_x8) (x:=x8) P23 rfl b21 (by kernel_rfl))) <|
 .cons [900011,900011] (XC [] [] (fun u13=>[]) 900011 (fun u13=>Qm 46 2 p_x8 c_x8 x8 qa) none (fun u13 g=>.nilFunc) (fun u13 g=>X6 46 2 p_x8 x8.length c_x8 ((x8.set x9.toNat t20).flatMap qa)) (fun u13 w hF hK=>ZA (XK (Qe hK) qe (y:=t20) (vs:=[vI t20.Lo,vI t20.Hi]) ht22 0 (by simp) (by simp) rfl (by kernel_rfl))))<|.nil) [0,1,2,7,13,14,32,33,900011] fun u13 a w' H=>?_
    refine Qt qd H (.v 30 (vI (qc (x9+1))) <|
 .v 14 (vI (qc (x9+1)))<|.nil) [0,1,2,7,13,14,32,33,900011] fun u24 a w' H=>?_
    exact ⟨k,Nat.lt_succ_self k,_,_,G,p_x8,c_x8,x8.length,by simp,H.toM _⟩
   ·rw [if_neg (nt c25)] at G
    refine Yk rfl ?_
    obtain rfl:=sj G
    replace H:=H.move (K:=Qm 46 2 p_x8 c_x8 x8 qa) 900011 900010 (by kernel_rfl) (by intro _ _ h; cases h)
    exact ⟨p_x8,c_x8,x8.length,rfl,H.toM _⟩
theorem qO.ok (k0:Nat) (q0:List qb) (q1:QE) (q2:Q6) (b_q0:Nat) (p_q0:Option Addr) (c_q0:Nat) (b_q1:Nat) (p_q1_L:Option Addr) (c_q1_L:Nat) (p_q1_Out:Option Addr) (c_q1_Out:Nat) (b_q2:Nat) (fq:Nat→Prop) (kb kd lo:Nat) (hfq:∀ j,lo≤j→fq j) (r:List (List qb × List qb)) (G:qO k0 q0 q1 q2=some r) :
  qcD (γ:=Option Addr × Nat × Option Addr × Nat) Tryz.prog 111 #[vP b_q0 0,vP b_q1 0,vP b_q2 0] (fun x z=>#[.slice z.1 x.1.length z.2.1,.slice z.2.2.1 x.2.length z.2.2.2]) (fun x z=>[(kb,YZ fq 2 z.1 x.1.length z.2.1 (x.1.flatMap qa)),(kd,YZ fq 2 z.2.2.1 x.2.length z.2.2.2 (x.2.flatMap qa))]) r (fun _:Nat=>False) (fun w=>Xx [qB qk 2 p_q0 c_q0 q0 qa,Xp b_q0 [.slice p_q0 q0.length c_q0] 48,qB qk 5 p_q1_L c_q1_L q1.L qi,qB qk 1 p_q1_Out c_q1_Out q1.Out Qn,Xp b_q1 [vI q1.N,.slice p_q1_L q1.L.length c_q1_L,.slice p_q1_Out q1.Out.length c_q1_Out] 38,Xp b_q2 [vI q2.T,vI q2.H] 53,gk] w) (fun _=>True) lo:=by
 intro l J JX base hJ hJX hF w hJc hXc hOl hlo hY W h0 hOx hsz
 have hB:=hF _ _ h0
 obtain ⟨fr,hfr⟩:∃ fr:Nat→Prop,∀ j,fr j:=⟨fun _=>True,fun _=>trivial⟩
 have hBf:∀ j,w.heap.size≤j→fr j:=fun j _=>hfr j
 have hFB:∀ x ∈ ([(44,qB qk 2 p_q0 c_q0 q0 qa),(43,Xp b_q0 [.slice p_q0 q0.length c_q0] 48),(46,qB qk 5 p_q1_L c_q1_L q1.L qi),(47,qB qk 1 p_q1_Out c_q1_Out q1.Out Qn),(45,Xp b_q1 [vI q1.N,.slice p_q1_L q1.L.length c_q1_L,.slice p_q1_Out q1.Out.length c_q1_Out] 38),(48,Xp b_q2 [vI q2.T,vI q2.H] 53),(999999,gk)]:List (Nat × KV)),(∃ fp F,x.2 = .fact fp F)∧x.2.holds W ∧ ∀ i,x.2.fp i→i<W.heap.size:=by
  intro x hx
  simp only [List.mem_cons,List.not_mem_nil,or_false] at hx
  rcases hx with rfl | rfl | rfl | rfl | rfl | rfl | rfl
  ·exact qy (qj hB.1) (fun _ _=>trivial) (by decide) _
  ·exact QV (hB.2.1 W (agree.refl _ _)) _
  ·exact qy (qj hB.2.2.1) (fun _ _=>trivial) (by decide) _
  ·exact qy (qj hB.2.2.2.1) (fun _ _=>trivial) (by decide) _
  ·exact QV (hB.2.2.2.2.1 W (agree.refl _ _)) _
  ·exact QV (hB.2.2.2.2.2.1 W (agree.refl _ _)) _
  ·exact ⟨⟨_,_,rfl⟩,hB.2.2.2.2.2.2.1,Yl (QM hB.2.2.2.2.2.2.1)⟩
 have hFX:∀ x ∈ ([(44,qB qk 2 p_q0 c_q0 q0 qa),(43,Xp b_q0 [.slice p_q0 q0.length c_q0] 48),(46,qB qk 5 p_q1_L c_q1_L q1.L qi),(47,qB qk 1 p_q1_Out c_q1_Out q1.Out Qn),(45,Xp b_q1 [vI q1.N,.slice p_q1_L q1.L.length c_q1_L,.slice p_q1_Out q1.Out.length c_q1_Out] 38),(48,Xp b_q2 [vI q2.T,vI q2.H] 53),(999999,gk)]:List (Nat × KV)),(∃ fp F,x.2 = .fact fp F) ∧ ∀ i,x.2.fp i→i<base ∧ ¬ (fun _:Nat=>False) i:=fun x hx=>⟨(hFB x hx).1,fun i hi=>⟨by rw [← hsz]; exact (hFB x hx).2.2 i hi,fun h=>h⟩⟩
 have hFJ:∀ s W,J s W → ∀ x ∈ ([(44,qB qk 2 p_q0 c_q0 q0 qa),(43,Xp b_q0 [.slice p_q0 q0.length c_q0] 48),(46,qB qk 5 p_q1_L c_q1_L q1.L qi),(47,qB qk 1 p_q1_Out c_q1_Out q1.Out Qn),(45,Xp b_q1 [vI q1.N,.slice p_q1_L q1.L.length c_q1_L,.slice p_q1_Out q1.Out.length c_q1_Out] 38),(48,Xp b_q2 [vI q2.T,vI q2.H] 53),(999999,gk)]:List (Nat × KV)),x.2.holds W:=fun s W h=>W4 _ (hF _ _ h)
 have hbase:0<base:=Nat.lt_of_le_of_lt (Nat.zero_le _) ((hFX _ (.tail _ (.head _))).2 b_q0 rfl).1
 refine qbC (args:=[.func (.yield l) #[] #[],vP b_q0 0,vP b_q1 0,vP b_q2 0]) 43 Tryz.func111 rfl (by kernel_rfl) (by kernel_rfl) fun a H=>?_
 replace H:=(H.again W (hJc _ _ h0) (Nat.zero_le _) ([(44,qB qk 2 p_q0 c_q0 q0 qa),(43,Xp b_q0 [.slice p_q0 q0.length c_q0] 48),(46,qB qk 5 p_q1_L c_q1_L q1.L qi),(47,qB qk 1 p_q1_Out c_q1_Out q1.Out Qn),(45,Xp b_q1 [vI q1.N,.slice p_q1_L q1.L.length c_q1_L,.slice p_q1_Out q1.Out.length c_q1_Out] 38),(48,Xp b_q2 [vI q2.T,vI q2.H] 53),(999999,gk)]++[(49,jO (fun _:Nat=>False) base w (J r))]) (fun x hx=>(List.mem_append.1 hx).elim (hFB x) fun hx=>by
  rw [List.mem_singleton.1 hx]
  exact ⟨⟨_,_,rfl⟩,W5 hbase hOl (Nat.le_of_eq hsz.symm) (fun W' hs=>hJ _ _ _ h0 hs) (hJc _ _ h0),fun i hi=>by rw [hsz]; exact hi.1⟩)).toL [(0,.slot true (.func (.yield l) #[] #[])),(1,sP b_q0 0),(2,sP b_q1 0),(3,sP b_q2 0),(44,qB qk 2 p_q0 c_q0 q0 qa),(46,qB qk 5 p_q1_L c_q1_L q1.L qi),(47,qB qk 1 p_q1_Out c_q1_Out q1.Out Qn),(43,Xp b_q0 [.slice p_q0 q0.length c_q0] 48),(45,Xp b_q1 [vI q1.N,.slice p_q1_L q1.L.length c_q1_L,.slice p_q1_Out q1.Out.length c_q1_Out] 38),(48,Xp b_q2 [vI q2.T,vI q2.H] 53),(999999,gk),(49,jO (fun _:Nat=>False) base w (J r))] (by kernel_rfl)
 clear hB hFB h0 hsz
 unfold qO at G
 refine YA ?_
 replace G:=qP G; obtain ⟨t2,ht2,G⟩:=G
 replace G:=qP G; obtain ⟨t3,ht3,G⟩:=G
 refine qfz qd H (.cons [7] (Q8 (fun u1=>.slice p_q0 q0.length c_q0) 7 43 (Xp b_q0 [.slice p_q0 q0.length c_q0] 48) b_q0 0 1 [.slice p_q0 q0.length c_q0] (fun w h=>Zf h)) <|
 .cons [8] (Q8 (fun u1=>.agg #[vI q1.N,.slice p_q1_L q1.L.length c_q1_L,.slice p_q1_Out q1.Out.length c_q1_Out]) 8 45 (Xp b_q1 [vI q1.N,.slice p_q1_L q1.L.length c_q1_L,.slice p_q1_Out q1.Out.length c_q1_Out] 38) b_q1 0 3 [vI q1.N,.slice p_q1_L q1.L.length c_q1_L,.slice p_q1_Out q1.Out.length c_q1_Out] (fun w h=>Zf h)) <|
 .cons [9] (Q8 (fun u1=>.slice p_q0 q0.length c_q0) 9 43 (Xp b_q0 [.slice p_q0 q0.length c_q0] 48) b_q0 0 1 [.slice p_q0 q0.length c_q0] (fun w h=>Zf h)) <|
 .cons [10] (Q8 (fun u1=>.slice p_q0 q0.length c_q0) 10 43 (Xp b_q0 [.slice p_q0 q0.length c_q0] 48) b_q0 0 1 [.slice p_q0 q0.length c_q0] (fun w h=>Zf h)) <|
 .cons [11] (Q8 (fun u1=>.agg #[vI q2.T,vI q2.H]) 11 48 (Xp b_q2 [vI q2.T,vI q2.H] 53) b_q2 0 2 [vI q2.T,vI q2.H] (fun w h=>Zf h)) <|
 .cons [12,50] (QI false fr [] [46,47,44,999999] (fun u1=>[qB qk 5 p_q1_L c_q1_L q1.L qi,qB qk 1 p_q1_Out c_q1_Out q1.Out Qn,qB qk 2 p_q0 c_q0 q0 qa,gk]) [] (fun u1=>[]) 113 _ _ _ _ _ [50] 12 (fun u1 w hB hF hM=>Yb.calls k0 (⟨q1.N,q1.L,q1.Out⟩:QE) q0 q0 q2 p_q1_L c_q1_L p_q1_Out c_q1_Out p_q0 c_q0 p_q0 c_q0 t2 w  hB ht2) (fun u1 w hF=>⟨⟨q9 (qj hF.1) (fun j h=>⟨_,(.head _),h⟩),q9 (qj hF.2.1) (fun j h=>⟨_,(.tail _ (.head _)),h⟩),q9 (qj hF.2.2.1) (fun j h=>⟨_,(.tail _ (.tail _ (.head _))),h⟩),q9 (qj hF.2.2.1) (fun j h=>⟨_,(.tail _ (.tail _ (.head _))),h⟩),Z6 hF.2.2.2.1 (.tail _ (.tail _ (.tail _ (.head _)))),trivial⟩,trivial⟩) (fun u1 g=>(ql Qw qC)) (.inr (fun u1 g=>(Qv trivial (fun K h=>by cases h)))) (fun h=>by cases h)) <|
 .cons [13,51] (QI false fr [5] [44,50] (fun u1=>[qB qk 2 p_q0 c_q0 q0 qa,Qm 46 2 ((u1 5).o 0) ((u1 5).n 0) t2 qa]) [] (fun u1=>[]) 112 _ _ _ _ _ [51] 13 (fun u1 w hB hF hM=>Qi.calls k0 q0 t2 p_q0 c_q0 ((u1 5).o 0) ((u1 5).n 0) t3 w  hB ht3) (fun u1 w hF=>⟨⟨q9 (qj hF.1) (fun j h=>⟨_,(.head _),h⟩),q9 (qw (Qe hF.2.1)) (fun j h=>⟨_,(.tail _ (.head _)),(YT h)⟩),trivial⟩,trivial⟩) (fun u1 g=>(ql Qw qC)) (.inr (fun u1 g=>(Qv trivial (fun K h=>by cases h)))) (fun h=>by cases h) (hloc:=fun u u' h=>⟨by first | rfl | simp only [h 5 (by decide)],by first | rfl | simp only [h 5 (by decide)],by first | rfl | simp only [h 5 (by decide)],by first | rfl | simp only [h 5 (by decide)],by first | rfl | simp only [h 5 (by decide)],by first | rfl | simp only [h 5 (by decide)]⟩)) <|
 .cons [5] (qn (fun u1=>.slice ((u1 6).o 0) t3.length ((u1 6).n 0)) 5)<|.nil) (by kernel_rfl) (by kernel_rfl) fun u1 a w' H=>?_
 replace H:=H.kp [0,1,2,3,5,44,46,47,51,43,45,48,999999,49]
 refine YA ?_
 refine YQ qd H (.v 14 (vI 0)<|.nil) (by kernel_rfl) (by kernel_rfl) fun u4 a w' H=>?_
 replace H:=H.kp [0,1,2,3,5,14,44,46,47,51,43,45,48,999999,49]
 refine Jr ?_
 replace H:=H.move (K:=Qm 46 2 ((u1 6).o 0) ((u1 6).n 0) t3 qa) 51 900012 (by kernel_rfl) (by intro _ _ h; cases h)
 refine qbi (fun m a w'=>∃ r,∃ x5:List qb,∃ x6:Int,qO.l7 k0 q0 q1 q2 t2 t3 m x5 x6=some r ∧ ∃ (p_x5:Option Addr) (c_x5 np_x5:Nat),np_x5=x5.length∧QS 0 w 43 (Jl [(0,.slot true (.func (.yield l) #[] #[])),(1,sP b_q0 0),(2,sP b_q1 0),(3,sP b_q2 0),(5,sS p_x5 np_x5 c_x5),(14,sI x6),(44,qB qk 2 p_q0 c_q0 q0 qa),(46,qB qk 5 p_q1_L c_q1_L q1.L qi),(47,qB qk 1 p_q1_Out c_q1_Out q1.Out Qn),(900012,X6 46 2 p_x5 np_x5 c_x5 (x5.flatMap qa)),(43,Xp b_q0 [.slice p_q0 q0.length c_q0] 48),(45,Xp b_q1 [vI q1.N,.slice p_q1_L q1.L.length c_q1_L,.slice p_q1_Out q1.Out.length c_q1_Out] 38),(48,Xp b_q2 [vI q2.T,vI q2.H] 53),(999999,gk),(49,jO (fun _:Nat=>False) base w (J r))]) a w') k0 ⟨_,_,_,G,((u1 6).o 0),((u1 6).n 0),t3.length,rfl,H.toM _⟩ ?_
 clear H G
 rintro (_ | k1) a w' ⟨r,x5,x6,G,p_x5,c_x5,_,rfl,H⟩
 ·exact absurd G (by unfold qO.l7; exact fun h=>by cases h)
 ·unfold qO.l7 at G
  refine YA ?_
  refine YQ qd H (.v 15 (.bool (decide (x6<8)))<|.nil) (by kernel_rfl) (by kernel_rfl) fun u8 a w' H=>?_
  replace H:=H.kp [0,1,2,3,5,14,15,44,46,47,900012,43,45,48,999999,49]
  refine YA ?_
  refine Ve H (by kernel_rfl) (t:=decide (x6<8)) (by kernel_rfl) (fun c27=>?_) (fun c27=>?_)
  ·rw [if_pos c27] at G
   refine JB ?_
   refine YA ?_
   refine Jr ?_
   refine YA ?_
   refine YA ?_
   replace G:=qP G; obtain ⟨t10,ht10,G⟩:=G
   refine YQ qd H (.v 16 (.slice p_x5 x5.length c_x5) <|
 .cons [17] (QX [900012] (fun u9=>[Qm 46 2 p_x5 c_x5 x5 qa]) 115 _ _ 17 (fun u9 w hF=>XR.calls k0 x5 p_x5 c_x5 t10 w  ⟨(Z9 (qw (Qe hF.1))),trivial⟩ ht10)) <|
 .v 18 (.bool (!t10))<|.nil) (by kernel_rfl) (by kernel_rfl) fun u9 a w' H=>?_
   replace H:=H.kp [0,1,2,3,5,14,18,44,46,47,900012,43,45,48,999999,49]
   refine Ve H (by kernel_rfl) (t:=(!t10)) (by kernel_rfl) (fun c26=>?_) (fun c26=>?_)
   ·rw [if_pos c26] at G
    refine Vn ?_
    obtain rfl:=sj G
    exact ⟨H.defers,_,XZ H (.tuple #[]) [] (by kernel_rfl) (by simp) (by kernel_rfl),⟨_,rfl⟩,.inl ((show (jO (fun _:Nat=>False) base w (J [])).holds _ from H.holds 49) _ (agree.refl _ _) H.below)⟩
   ·rw [if_neg (nt c26)] at G
    refine JB ?_
    refine YA ?_
    replace G:=qP G; obtain ⟨t12,ht12,G⟩:=G
    refine YQ qd H (.v 19 (.slice p_x5 x5.length c_x5) <|
 .cons [20,52] (QI false fr [] [900012] (fun u11=>[Qm 46 2 p_x5 c_x5 x5 qa]) [] (fun u11=>[]) 116 _ _ _ _ _ [52] 20 (fun u11 w hB hF hM=>Xc.calls k0 x5 p_x5 c_x5 t12 w  hB ht12) (fun u11 w hF=>⟨⟨q9 (qw (Qe hF.1)) (fun j h=>⟨_,(.head _),(YT h)⟩),trivial⟩,trivial⟩) (fun u11 g=>(ql Qw qC)) (.inr (fun u11 g=>(Qv trivial (fun K h=>by cases h)))) (fun h=>by cases h)) <|
 .cons [5] (qn (fun u11=>.slice ((u11 1).o 0) t12.length ((u11 1).n 0)) 5)<|.nil) (by kernel_rfl) (by kernel_rfl) fun u11 a w' H=>?_
    replace H:=H.kp [0,1,2,3,5,14,44,46,47,52,43,45,48,999999,49]
    refine YA ?_
    refine YA ?_
    replace G:=qP G; obtain ⟨t14,ht14,G⟩:=G
    refine YQ qd H (.v 21 (.slice ((u11 1).o 0) t12.length ((u11 1).n 0)) <|
 .cons [22] (QX [52] (fun u13=>[Qm 46 2 ((u11 1).o 0) ((u11 1).n 0) t12 qa]) 115 _ _ 22 (fun u13 w hF=>XR.calls k0 t12 ((u11 1).o 0) ((u11 1).n 0) t14 w  ⟨(Z9 (qw (Qe hF.1))),trivial⟩ ht14)) <|
 .v 23 (.bool (!t14))<|.nil) (by kernel_rfl) (by kernel_rfl) fun u13 a w' H=>?_
    replace H:=H.kp [0,1,2,3,5,14,23,44,46,47,52,43,45,48,999999,49]
    refine Ve H (by kernel_rfl) (t:=(!t14)) (by kernel_rfl) (fun c25=>?_) (fun c25=>?_)
    ·rw [if_pos c25] at G
     refine Vn ?_
     obtain rfl:=sj G
     exact ⟨H.defers,_,XZ H (.tuple #[]) [] (by kernel_rfl) (by simp) (by kernel_rfl),⟨_,rfl⟩,.inl ((show (jO (fun _:Nat=>False) base w (J [])).holds _ from H.holds 49) _ (agree.refl _ _) H.below)⟩
    ·rw [if_neg (nt c25)] at G
     refine JB ?_
     refine YA ?_
     replace G:=qP G; obtain ⟨t16,ht16,G⟩:=G
     refine YQ qd H (.cons [24] (Q8 (fun u15=>.agg #[vI q1.N,.slice p_q1_L q1.L.length c_q1_L,.slice p_q1_Out q1.Out.length c_q1_Out]) 24 45 (Xp b_q1 [vI q1.N,.slice p_q1_L q1.L.length c_q1_L,.slice p_q1_Out q1.Out.length c_q1_Out] 38) b_q1 0 3 [vI q1.N,.slice p_q1_L q1.L.length c_q1_L,.slice p_q1_Out q1.Out.length c_q1_Out] (fun w h=>Zf h)) <|
 .cons [25] (Q8 (fun u15=>.slice p_q0 q0.length c_q0) 25 43 (Xp b_q0 [.slice p_q0 q0.length c_q0] 48) b_q0 0 1 [.slice p_q0 q0.length c_q0] (fun w h=>Zf h)) <|
 .v 26 (.slice ((u11 1).o 0) t12.length ((u11 1).n 0)) <|
 .cons [27] (Q8 (fun u15=>.agg #[vI q2.T,vI q2.H]) 27 48 (Xp b_q2 [vI q2.T,vI q2.H] 53) b_q2 0 2 [vI q2.T,vI q2.H] (fun w h=>Zf h)) <|
 .cons [28,53] (QI false fr [] [46,47,44,52,999999] (fun u15=>[qB qk 5 p_q1_L c_q1_L q1.L qi,qB qk 1 p_q1_Out c_q1_Out q1.Out Qn,qB qk 2 p_q0 c_q0 q0 qa,Qm 46 2 ((u11 1).o 0) ((u11 1).n 0) t12 qa,gk]) [] (fun u15=>[]) 113 _ _ _ _ _ [53] 28 (fun u15 w hB hF hM=>Yb.calls k0 (⟨q1.N,q1.L,q1.Out⟩:QE) q0 t12 q2 p_q1_L c_q1_L p_q1_Out c_q1_Out p_q0 c_q0 ((u11 1).o 0) ((u11 1).n 0) t16 w  hB ht16) (fun u15 w hF=>⟨⟨q9 (qj hF.1) (fun j h=>⟨_,(.head _),h⟩),q9 (qj hF.2.1) (fun j h=>⟨_,(.tail _ (.head _)),h⟩),q9 (qj hF.2.2.1) (fun j h=>⟨_,(.tail _ (.tail _ (.head _))),h⟩),q9 (qw (Qe hF.2.2.2.1)) (fun j h=>⟨_,(.tail _ (.tail _ (.tail _ (.head _)))),(YT h)⟩),Z6 hF.2.2.2.2.1 (.tail _ (.tail _ (.tail _ (.tail _ (.head _))))),trivial⟩,trivial⟩) (fun u15 g=>(ql Qw qC)) (.inr (fun u15 g=>(Qv trivial (fun K h=>by cases h)))) (fun h=>by cases h)) <|
 .cons [6] (qn (fun u15=>.slice ((u15 4).o 0) t16.length ((u15 4).n 0)) 6)<|.nil) (by kernel_rfl) (by kernel_rfl) fun u15 a w' H=>?_
     replace H:=H.kp [0,1,2,3,5,6,14,44,46,47,52,53,43,45,48,999999,49]
     refine YA ?_
     refine YA ?_
     replace G:=qP G; obtain ⟨t18,ht18,G⟩:=G
     replace G:=qP G; obtain ⟨z19,hz19,G⟩:=G
     replace hz19:=Option.some.inj hz19
     by_cases c23:z19=true
     ·rw [if_pos c23] at G; subst c23
      refine YQ qd H (.v 29 (.slice ((u15 4).o 0) t16.length ((u15 4).n 0)) <|
 .cons [30] (QX [53] (fun u17=>[Qm 46 2 ((u15 4).o 0) ((u15 4).n 0) t16 qa]) 115 _ _ 30 (fun u17 w hF=>XR.calls k0 t16 ((u15 4).o 0) ((u15 4).n 0) t18 w  ⟨(Z9 (qw (Qe hF.1))),trivial⟩ ht18)) <|
 .v 31 (.bool (!t18)) <|
 .cons [32] (QL (u':=fun u17=>[(32,sB true)]) (qn (fun u17=>.bool (!t18)) 32) (fun _=>by rw [hz19])) <|
 .cons [33] (qA 33) <|
 .cons [34] (qA 34) <|
 .cons [35] (qA 35) <|
 .cons [36] (qA 36) <|
 .cons [37] (qA 37) <|
 .cons [38] (XJ (fun u17=>.bool true) 38)<|.nil) (by kernel_rfl) (by kernel_rfl) fun u17 a w' H=>?_
      replace H:=H.kp [0,1,2,3,5,6,14,33,34,35,36,37,38,44,46,47,52,53,43,45,48,999999,49]
      refine JI H (by kernel_rfl) (by kernel_rfl) ?_
      refine Vn ?_
      obtain rfl:=sj G
      exact ⟨H.defers,_,XZ H (.tuple #[]) [] (by kernel_rfl) (by simp) (by kernel_rfl),⟨_,rfl⟩,.inl ((show (jO (fun _:Nat=>False) base w (J [])).holds _ from H.holds 49) _ (agree.refl _ _) H.below)⟩
     rw [if_neg c23] at G
     by_cases c24:z19=false
     ·rw [if_pos c24] at G; subst c24
      have hgb:=H.geRow (base:=base) (J:=J r) (e:=46) (sz:=2) (m:=t12.length) (cap:=((u11 1).n 0)) (p:=((u11 1).o 0)) (xs:=t12.flatMap qa) 49 52 (by kernel_rfl) (by kernel_rfl) (by rfl)
      have hgd:=H.geRow (base:=base) (J:=J r) (e:=46) (sz:=2) (m:=t16.length) (cap:=((u15 4).n 0)) (p:=((u15 4).o 0)) (xs:=t16.flatMap qa) 49 53 (by kernel_rfl) (by kernel_rfl) (by rfl)
      replace G:=qP G; obtain ⟨r,hr,G⟩:=G; obtain rfl:=sj G; replace G:=hr; clear hr
      refine qfR (qei (Rp:=qdf (fun _:Nat=>False) 49 [44,43,46,47,45,48,999999] [52,53] base w 43) qd ⟨H.toM [(0,.slot true (.func (.yield l) #[] #[])),(1,sP b_q0 0),(2,sP b_q1 0),(3,sP b_q2 0),(5,(sS ((u11 1).o 0) t12.length ((u11 1).n 0))),(6,(sS ((u15 4).o 0) t16.length ((u15 4).n 0))),(14,sI x6),(44,qB qk 2 p_q0 c_q0 q0 qa),(46,qB qk 5 p_q1_L c_q1_L q1.L qi),(47,qB qk 1 p_q1_Out c_q1_Out q1.Out Qn),(52,Qm 46 2 ((u11 1).o 0) ((u11 1).n 0) t12 qa),(53,Qm 46 2 ((u15 4).o 0) ((u15 4).n 0) t16 qa),(43,Xp b_q0 [.slice p_q0 q0.length c_q0] 48),(45,Xp b_q1 [vI q1.N,.slice p_q1_L q1.L.length c_q1_L,.slice p_q1_Out q1.Out.length c_q1_Out] 38),(48,Xp b_q2 [vI q2.T,vI q2.H] 53),(999999,gk),(49,jO (fun _:Nat=>False) base w (J ((t12,t16) :: r)))] (by kernel_rfl),W7 _ (by kernel_rfl)⟩ (.cons [29] (okg (qn (fun u17=>.slice ((u15 4).o 0) t16.length ((u15 4).n 0)) 29)) <|
 .cons [30] (okg (QX [53] (fun u17=>[Qm 46 2 ((u15 4).o 0) ((u15 4).n 0) t16 qa]) 115 _ _ 30 (fun u17 w hF=>XR.calls k0 t16 ((u15 4).o 0) ((u15 4).n 0) t18 w  ⟨(Z9 (qw (Qe hF.1))),trivial⟩ ht18))) <|
 .cons [31] (okg (qn (fun u17=>.bool (!t18)) 31)) <|
 .cons [32] (okg (QL (u':=fun u17=>[(32,sB false)]) (qn (fun u17=>.bool (!t18)) 32) (fun _=>by rw [hz19]))) <|
 .cons [33] (okg (Qh (qn (fun u17=>.func (.yield l) #[] #[]) 33) (by intro _; kernel_rfl))) <|
 .cons [34] (okg (Qh (qn (fun u17=>.slice ((u11 1).o 0) t12.length ((u11 1).n 0)) 34) (by intro _; kernel_rfl))) <|
 .cons [35] (okg (Qh (qn (fun u17=>.slice ((u15 4).o 0) t16.length ((u15 4).n 0)) 35) (by intro _; kernel_rfl))) <|
 .cons [36,49,44,43,46,47,45,48,999999,52,53] (Wm (O:=(fun _:Nat=>False)) (base:=base) 49 [44,43,46,47,45,48,999999] [52,53] l (fun u17=>#[.slice ((u11 1).o 0) t12.length ((u11 1).n 0),.slice ((u15 4).o 0) t16.length ((u15 4).n 0)]) (J ((t12,t16) :: r)) (J r) JX 36 hbase hOl (by intro _; kernel_rfl) (fun u17 W1 h1 hb1 hk1=>hY (t12,t16) (((u11 1).o 0),((u11 1).n 0),((u15 4).o 0),((u15 4).n 0)) r W1 h1 hb1 (fun x hx=>by
   simp only [List.mem_cons,List.not_mem_nil,or_false] at hx
   rcases hx with rfl | rfl
   ·exact qaI kb (by decide) (fun j h=>hfq j (Nat.le_trans hlo h)) hgb (qw (Qe (show (Qm 46 2 ((u11 1).o 0) ((u11 1).n 0) t12 qa).holds _ from (hk1 52 (by decide)).1)))
   ·exact qaI kd (by decide) (fun j h=>hfq j (Nat.le_trans hlo h)) hgd (qw (Qe (show (Qm 46 2 ((u15 4).o 0) ((u15 4).n 0) t16 qa).holds _ from (hk1 53 (by decide)).1))))) (fun W1 W2 h1 h2=>hJ _ _ _ h1 h2) hJX (fun W1 h1=>hJc _ _ h1) hXc (by rfl) (by rfl) (by rfl)) <|
 .cons [37] (okg (Qh (qn (fun u17=>.bool (!(decide ((u17 7).n 0=1)))) 37) (by intro _; kernel_rfl))) <|
 .cons [38] (okg (XJ (fun u17=>.bool (!(decide ((u17 7).n 0=1)))) 38))<|(.nil)) (by kernel_rfl) (fun S a w1 h=>⟨h.1.world ⟨rfl,rfl,rfl,Nat.le_refl _,fun _ _=>rfl⟩,h.2⟩) fun u17 a w' H=>?_)
      replace H:=H.1.toL [(0,.slot true (.func (.yield l) #[] #[])),(1,sP b_q0 0),(2,sP b_q1 0),(3,sP b_q2 0),(5,(sS ((u11 1).o 0) t12.length ((u11 1).n 0))),(6,(sS ((u15 4).o 0) t16.length ((u15 4).n 0))),(14,sI x6),(33,.slot true (.func (.yield l) #[] #[])),(34,(sS ((u11 1).o 0) t12.length ((u11 1).n 0))),(35,(sS ((u15 4).o 0) t16.length ((u15 4).n 0))),(36,(sB (decide ((u17 7).n 0=1)))),(37,(sB (!(decide ((u17 7).n 0=1))))),(38,(sB (!(decide ((u17 7).n 0=1))))),(52,bif decide ((u17 7).n 0=1) then Qm 46 2 ((u11 1).o 0) ((u11 1).n 0) t12 qa else .none),(53,bif decide ((u17 7).n 0=1) then Qm 46 2 ((u15 4).o 0) ((u15 4).n 0) t16 qa else .none),(49,bif decide ((u17 7).n 0=1) then jO (fun _:Nat=>False) base w (J r) else jK ((u17 7).n 1) w JX)] (by kernel_rfl)
      rcases Bool.eq_false_or_eq_true (decide ((u17 7).n 0=1)) with hb | hb
      ·rw [hb] at H
       replace H:=H.kp [0,1,2,3,5,6,14,33,34,35,36,37,38,52,53,49]
       replace H:=(QS.readdO (O:=(fun _:Nat=>False)) (J:=J r) 49 [(44,qB qk 2 p_q0 c_q0 q0 qa),(43,Xp b_q0 [.slice p_q0 q0.length c_q0] 48),(46,qB qk 5 p_q1_L c_q1_L q1.L qi),(47,qB qk 1 p_q1_Out c_q1_Out q1.Out Qn),(45,Xp b_q1 [vI q1.N,.slice p_q1_L q1.L.length c_q1_L,.slice p_q1_Out q1.Out.length c_q1_Out] 38),(48,Xp b_q2 [vI q2.T,vI q2.H] 53),(999999,gk)] _ H hFX (fun W1 h1=>hFJ _ _ h1) (by kernel_rfl) (WS (O:=(fun _:Nat=>False)) (J:=J r) hbase hOl 49 H (by kernel_rfl)) (by rfl)).toL [(0,.slot true (.func (.yield l) #[] #[])),(1,sP b_q0 0),(2,sP b_q1 0),(3,sP b_q2 0),(5,(sS ((u11 1).o 0) t12.length ((u11 1).n 0))),(6,(sS ((u15 4).o 0) t16.length ((u15 4).n 0))),(14,sI x6),(33,.slot true (.func (.yield l) #[] #[])),(34,(sS ((u11 1).o 0) t12.length ((u11 1).n 0))),(35,(sS ((u15 4).o 0) t16.length ((u15 4).n 0))),(36,sB true),(37,sB false),(38,sB false),(44,qB qk 2 p_q0 c_q0 q0 qa),(46,qB qk 5 p_q1_L c_q1_L q1.L qi),(47,qB qk 1 p_q1_Out c_q1_Out q1.Out Qn),(52,Qm 46 2 ((u11 1).o 0) ((u11 1).n 0) t12 qa),(53,Qm 46 2 ((u15 4).o 0) ((u15 4).n 0) t16 qa),(43,Xp b_q0 [.slice p_q0 q0.length c_q0] 48),(45,Xp b_q1 [vI q1.N,.slice p_q1_L q1.L.length c_q1_L,.slice p_q1_Out q1.Out.length c_q1_Out] 38),(48,Xp b_q2 [vI q2.T,vI q2.H] 53),(999999,gk),(49,jO (fun _:Nat=>False) base w (J r))] (by kernel_rfl)
       refine Jt H (by kernel_rfl) (by kernel_rfl) ?_
       refine JB ?_
       replace G:=qP G; obtain ⟨t21,ht21,G⟩:=G
       refine YQ qd H (.v 39 (.slice ((u11 1).o 0) t12.length ((u11 1).n 0)) <|
 .v 40 (.slice ((u15 4).o 0) t16.length ((u15 4).n 0)) <|
 .cons [41,54] (QI false fr [] [52,53] (fun u20=>[Qm 46 2 ((u11 1).o 0) ((u11 1).n 0) t12 qa,Qm 46 2 ((u15 4).o 0) ((u15 4).n 0) t16 qa]) [] (fun u20=>[]) 112 _ _ _ _ _ [54] 41 (fun u20 w hB hF hM=>Qi.calls k0 t12 t16 ((u11 1).o 0) ((u11 1).n 0) ((u15 4).o 0) ((u15 4).n 0) t21 w  hB ht21) (fun u20 w hF=>⟨⟨q9 (qw (Qe hF.1)) (fun j h=>⟨_,(.head _),(YT h)⟩),q9 (qw (Qe hF.2.1)) (fun j h=>⟨_,(.tail _ (.head _)),(YT h)⟩),trivial⟩,trivial⟩) (fun u20 g=>(ql Qw qC)) (.inr (fun u20 g=>(Qv trivial (fun K h=>by cases h)))) (fun h=>by cases h)) <|
 .cons [5] (qn (fun u20=>.slice ((u20 2).o 0) t21.length ((u20 2).n 0)) 5)<|.nil) (by kernel_rfl) (by kernel_rfl) fun u20 a w' H=>?_
       replace H:=H.kp [0,1,2,3,5,14,33,34,35,36,37,44,46,47,52,53,54,43,45,48,999999,49]
       refine YQ qd H (.v 42 (vI (qc (x6+1))) <|
 .v 14 (vI (qc (x6+1)))<|.nil) (by kernel_rfl) (by kernel_rfl) fun u22 a w' H=>?_
       replace H:=H.kp [0,1,2,3,5,14,33,34,35,36,37,44,46,47,52,53,54,43,45,48,999999,49]
       replace H:=H.move (K:=Qm 46 2 ((u20 2).o 0) ((u20 2).n 0) t21 qa) 54 900012 (by kernel_rfl) (by intro _ _ h; cases h)
       exact ⟨k1,Nat.lt_succ_self k1,_,_,_,G,((u20 2).o 0),((u20 2).n 0),t21.length,rfl,H.toM _⟩
      ·clear G; rw [hb] at H
       replace H:=H.kp [0,1,2,3,5,6,14,33,34,35,36,37,38,49]
       refine JI H (by kernel_rfl) (by kernel_rfl) ?_
       refine Vn ?_
       exact ⟨H.defers,_,XZ H (.tuple #[]) [] (by kernel_rfl) (by simp) (by kernel_rfl),⟨_,rfl⟩,.inr ((show (jK ((u17 7).n 1) w JX).holds _ from H.holds 49) _ (agree.refl _ _) H.below)⟩
     rw [if_neg c24] at G
     cases G
  ·rw [if_neg (nt c27)] at G
   refine Wr rfl ?_
   obtain rfl:=sj G
   exact ⟨H.defers,_,XZ H (.tuple #[]) [] (by kernel_rfl) (by simp) (by kernel_rfl),⟨_,rfl⟩,.inl ((show (jO (fun _:Nat=>False) base w (J [])).holds _ from H.holds 49) _ (agree.refl _ _) H.below)⟩
theorem Qy.calls (k0:Nat) (a0:QE) (a1:List qb) (a2:Q6) (p_a0_L:Option Addr) (c_a0_L:Nat) (p_a0_Out:Option Addr) (c_a0_Out:Nat) (p_a1:Option Addr) (c_a1:Nat) (r:List qb × Bool) (w:World) (hB:Xx [qB qk 5 p_a0_L c_a0_L a0.L qi,qB qk 1 p_a0_Out c_a0_Out a0.Out Qn,qB qk 2 p_a1 c_a1 a1 qa,gk] w) (G:Qy k0 a0 a1 a2=some r) :
  Calls Tryz.prog 78 #[.agg #[vI a0.N,.slice p_a0_L a0.L.length c_a0_L,.slice p_a0_Out a0.Out.length c_a0_Out],.slice p_a1 a1.length c_a1,.agg #[vI a2.T,vI a2.H]] w fun e w'=>∃ g:Gh,e = .returned (.tuple #[.slice (g.o 0) r.1.length (g.n 0),.bool r.2])∧Zg (Y4 []) w w'∧Ys w.heap.size (Y4 []) (JH w.heap.size []) [fun fr=>YZ fr 2 (g.o 0) r.1.length (g.n 0) (r.1.flatMap qa)] w':=by
 obtain ⟨fr,hfr,hBf⟩:=VE w []
 refine qax (args:=[.agg #[vI a0.N,.slice p_a0_L a0.L.length c_a0_L,.slice p_a0_Out a0.Out.length c_a0_Out],.slice p_a1 a1.length c_a1,.agg #[vI a2.T,vI a2.H]]) 24 [(24,qB qk 5 p_a0_L c_a0_L a0.L qi),(25,qB qk 1 p_a0_Out c_a0_Out a0.Out Qn),(26,qB qk 2 p_a1 c_a1 a1 qa),(999999,gk)] (by
  intro x hx
  simp only [List.mem_cons,List.not_mem_nil,or_false] at hx
  rcases hx with rfl | rfl | rfl | rfl
  ·exact qy (qj hB.1) (fun _ _=>trivial) (by decide) _
  ·exact qy (qj hB.2.1) (fun _ _=>trivial) (by decide) _
  ·exact qy (qj hB.2.2.1) (fun _ _=>trivial) (by decide) _
  ·exact ⟨⟨_,_,rfl⟩,hB.2.2.2.1,Yl (QM hB.2.2.2.1)⟩) Tryz.func78 rfl (by kernel_rfl) (by kernel_rfl) fun a H=>?_
 unfold Qy at G
 refine qg qd H (.cons [3,27] (qs (fun b=>vP b 0) (fun u1=>[vI a0.N,.slice p_a0_L a0.L.length c_a0_L,.slice p_a0_Out a0.Out.length c_a0_Out]) 38 3 27) <|
 .cons [5,28] (qs (fun b=>vP b 0) (fun u1=>[vI a2.T,vI a2.H]) 53 5 28) <|
 .v 6 (.slice none 0 0) <|
 .v 7 (.bool false)<|.nil) [1,3,5,6,7,24,25,26,27,28,999999] fun u1 a w' H=>?_
 refine qcK ?_
 refine qg qd H (.cons [8,29] (qs (fun b=>vP b 0) (fun u2=>[.slice none 0 0]) 48 8 29)<|.nil) [1,3,5,6,7,8,24,25,26,27,28,29,999999] fun u2 a w' H=>?_
 refine qv ?_
 refine qc1 ?_
 refine qv ?_
 refine qg qd H (.cons [11] (qf (.agg #[vI a0.N,.slice p_a0_L a0.L.length c_a0_L,.slice p_a0_Out a0.Out.length c_a0_Out]) 11 27 0 3 ((u1 0).n 0) [vI a0.N,.slice p_a0_L a0.L.length c_a0_L,.slice p_a0_Out a0.Out.length c_a0_Out] 38) <|
 .v 12 (.slice p_a1 a1.length c_a1) <|
 .cons [13] (qf (.agg #[vI a2.T,vI a2.H]) 13 28 0 2 ((u1 1).n 0) [vI a2.T,vI a2.H] 53) <|
 .cons [14,30,31,32] (qdt 95 (fun u3=>#[.agg #[vI a0.N,.slice p_a0_L a0.L.length c_a0_L,.slice p_a0_Out a0.Out.length c_a0_Out],.slice p_a1 a1.length c_a1,.agg #[vI a2.T,vI a2.H]]) (fun b1 b2 b3=>.func (.func 111) #[] #[vP b2 0,vP b1 0,vP b3 0]) [vI a0.N,.slice p_a0_L a0.L.length c_a0_L,.slice p_a0_Out a0.Out.length c_a0_Out] [.slice p_a1 a1.length c_a1] [vI a2.T,vI a2.H] 38 48 53 14 30 31 32 (fun _ w=>picard_candidates.calls (⟨a0.N,a0.L,a0.Out⟩:QE) p_a0_L a0.L.length c_a0_L p_a0_Out a0.Out.length c_a0_Out a1 p_a1 a1.length c_a1 a2 w))<|.nil) [6,7,8,14,24,25,26,29,30,31,32,999999] fun u3 a w' H=>?_
 refine q6 ?_
 replace G:=qP G; obtain ⟨t5,ht5,G⟩:=G
 refine qai (γ:=Option Addr × Nat × Option Addr × Nat) (fun x z=>#[.slice z.1 x.1.length z.2.1,.slice z.2.2.1 x.2.length z.2.2.2]) (fun x z=>[(36,qB fr 2 z.1 z.2.1 x.1 qa),(37,qB fr 2 z.2.2.1 z.2.2.2 x.2 qa)]) (fun x z=>[(15,sS z.1 x.1.length z.2.1),(16,sS z.2.2.1 x.2.length z.2.2.2)]) t5 (fun _:Nat=>False) [] (fun w=>Xx [qB qk 2 p_a1 c_a1 a1 qa,Xp ((u3 3).n 1) [.slice p_a1 a1.length c_a1] 48,qB qk 5 p_a0_L c_a0_L a0.L qi,qB qk 1 p_a0_Out c_a0_Out a0.Out Qn,Xp ((u3 3).n 0) [vI a0.N,.slice p_a0_L a0.L.length c_a0_L,.slice p_a0_Out a0.Out.length c_a0_Out] 38,Xp ((u3 3).n 2) [vI a2.T,vI a2.H] 53,gk] w) (fun _=>True) 33 34 35 0 _ (fun zs L=>Qy.l6 k0 a0 a1 a2 zs=some r∧L=[(24,qB qk 5 p_a0_L c_a0_L a0.L qi),(25,qB qk 1 p_a0_Out c_a0_Out a0.Out Qn),(26,qB qk 2 p_a1 c_a1 a1 qa),(29,.blk ((u2 0).n 0) [.slice none 0 0] 48),(30,.blk ((u3 3).n 0) [vI a0.N,.slice p_a0_L a0.L.length c_a0_L,.slice p_a0_Out a0.Out.length c_a0_Out] 38),(31,.blk ((u3 3).n 1) [.slice p_a1 a1.length c_a1] 48),(32,.blk ((u3 3).n 2) [vI a2.T,vI a2.H] 53),(999999,gk)]) (fun _=>False) (fun L=>∃ x7:List qb,Qy.l8 k0 a0 a1 a2 x7=some r ∧ ∃ (p_x7:Option Addr) (c_x7 np_x7:Nat),np_x7=x7.length∧L=[(24,qB qk 5 p_a0_L c_a0_L a0.L qi),(25,qB qk 1 p_a0_Out c_a0_Out a0.Out Qn),(26,qB qk 2 p_a1 c_a1 a1 qa),(29,.blk ((u2 0).n 0) [.slice p_x7 np_x7 c_x7] 48),(30,.blk ((u3 3).n 0) [vI a0.N,.slice p_a0_L a0.L.length c_a0_L,.slice p_a0_Out a0.Out.length c_a0_Out] 38),(31,.blk ((u3 3).n 1) [.slice p_a1 a1.length c_a1] 48),(32,.blk ((u3 3).n 2) [vI a2.T,vI a2.H] 53),(900013,YZ fr 2 p_x7 np_x7 c_x7 (x7.flatMap qa)),(999999,gk)]) [(24,qB qk 5 p_a0_L c_a0_L a0.L qi),(25,qB qk 1 p_a0_Out c_a0_Out a0.Out Qn),(26,qB qk 2 p_a1 c_a1 a1 qa),(29,.blk ((u2 0).n 0) [.slice none 0 0] 48),(30,.blk ((u3 3).n 0) [vI a0.N,.slice p_a0_L a0.L.length c_a0_L,.slice p_a0_Out a0.Out.length c_a0_Out] 38),(31,.blk ((u3 3).n 1) [.slice p_a1 a1.length c_a1] 48),(32,.blk ((u3 3).n 2) [vI a2.T,vI a2.H] 53),(999999,gk)] H (by kernel_rfl) (by kernel_rfl) (Wn Tryz.func111 (by kernel_rfl) rfl) (qO.ok k0 a1 (⟨a0.N,a0.L,a0.Out⟩:QE) a2 ((u3 3).n 1) p_a1 c_a1 ((u3 3).n 0) p_a0_L c_a0_L p_a0_Out c_a0_Out ((u3 3).n 2) fr 36 37 _ hBf t5  ht5) (fun x=>qfw 15 16 (fun z:Option Addr × Nat × Option Addr × Nat=>.slice z.1 x.1.length z.2.1) (fun z:Option Addr × Nat × Option Addr × Nat=>.slice z.2.2.1 x.2.length z.2.2.2) (by rfl) (by rfl)) rfl (fun i hi=>hi.elim) (fun _ _=>trivial) ⟨G,rfl⟩ (by kernel_rfl) (by kernel_rfl) (by kernel_rfl) (by kernel_rfl) (by kernel_rfl) (by kernel_rfl) (by rintro zs L ⟨G,rfl⟩ x hx; simp only [List.mem_cons,List.not_mem_nil,or_false] at hx; rcases hx with rfl | rfl | rfl | rfl | rfl | rfl | rfl | rfl; all_goals exact ⟨by simp,fun i hi=>hi⟩) (by rintro zs L a w ⟨G,rfl⟩ h; have hF:Xx [qB qk 2 p_a1 c_a1 a1 qa,.blk ((u3 3).n 1) [.slice p_a1 a1.length c_a1] 48,qB qk 5 p_a0_L c_a0_L a0.L qi,qB qk 1 p_a0_Out c_a0_Out a0.Out Qn,.blk ((u3 3).n 0) [vI a0.N,.slice p_a0_L a0.L.length c_a0_L,.slice p_a0_Out a0.Out.length c_a0_Out] 38,.blk ((u3 3).n 2) [vI a2.T,vI a2.H] 53,gk] w:=⟨h.at (K:=qB qk 2 p_a1 c_a1 a1 qa) 26 (by kernel_rfl),h.at (K:=.blk ((u3 3).n 1) [.slice p_a1 a1.length c_a1] 48) 31 (by kernel_rfl),h.at (K:=qB qk 5 p_a0_L c_a0_L a0.L qi) 24 (by kernel_rfl),h.at (K:=qB qk 1 p_a0_Out c_a0_Out a0.Out Qn) 25 (by kernel_rfl),h.at (K:=.blk ((u3 3).n 0) [vI a0.N,.slice p_a0_L a0.L.length c_a0_L,.slice p_a0_Out a0.Out.length c_a0_Out] 38) 30 (by kernel_rfl),h.at (K:=.blk ((u3 3).n 2) [vI a2.T,vI a2.H] 53) 32 (by kernel_rfl),h.at (K:=gk) 999999 (by kernel_rfl),trivial⟩; exact ⟨(Z9 (qj hF.1)),(QV hF.2.1 0).2.1,(Z9 (qj hF.2.2.1)),(Z9 (qj hF.2.2.2.1)),(QV hF.2.2.2.2.1 0).2.1,(QV hF.2.2.2.2.2.1 0).2.1,hF.2.2.2.2.2.2.1,trivial⟩) ?_ ?_ ?_ ?_
 ·clear H G; rintro li Di bi oR oD Wi x z zs L a w' hbi ⟨G,rfl⟩ H
  unfold Qy.l6 at G
  replace H:=H.kp [6,7,8,14,15,16,24,25,26,29,30,31,32,36,37,999999,33,34,35]
  refine YA ?_
  refine YQ qd H (.v 9 (.slice z.1 x.1.length z.2.1)<|.nil) (by kernel_rfl) (by kernel_rfl) fun u11 a w' H=>?_
  replace H:=H.kp [6,7,8,9,14,16,24,25,26,29,30,31,32,36,37,999999,33,34,35]
  refine YQ qd H (.v 10 (.slice z.2.2.1 x.2.length z.2.2.2)<|.nil) (by kernel_rfl) (by kernel_rfl) fun u12 a w' H=>?_
  replace H:=H.kp [6,7,8,9,10,14,24,25,26,29,30,31,32,36,37,999999,33,34,35]
  refine ⟨_,H,by kernel_rfl,fun oB w' H=>?_⟩
  replace H:=H.kp [6,7,8,9,10,14,24,25,26,29,30,31,32,36,37,999999,33,34,35]
  refine Jr ?_
  refine YA ?_
  replace G:=qP G; obtain ⟨t14,ht14,G⟩:=G
  refine YQ qd H (.v 17 (.slice z.2.2.1 x.2.length z.2.2.2) <|
 .v 18 (.slice z.1 x.1.length z.2.1) <|
 .cons [19] (QX [37,36] (fun u13=>[qB fr 2 z.2.2.1 z.2.2.2 x.2 qa,qB fr 2 z.1 z.2.1 x.1 qa]) 96 _ _ 19 (fun u13 w hF=>XN.calls k0 x.2 x.1 z.2.2.1 z.2.2.2 z.1 z.2.1 t14 w  ⟨(Z9 (qj hF.1)),(Z9 (qj hF.2.1)),trivial⟩ ht14))<|.nil) (by kernel_rfl) (by kernel_rfl) fun u13 a w' H=>?_
  replace H:=H.kp [6,7,8,10,14,19,24,25,26,29,30,31,32,37,999999,33,34,35]
  refine Ve H (by kernel_rfl) (t:=t14) (by kernel_rfl) (fun c16=>?_) (fun c16=>?_)
  ·rw [if_pos c16] at G
   refine YA ?_
   refine YQ qd H (.v 20 (.slice z.2.2.1 x.2.length z.2.2.2) <|
 .cons [29] (Qa 29 0 ((u2 0).n 0) [.slice none 0 0] [.slice z.2.2.1 x.2.length z.2.2.2] 48 [.slice z.2.2.1 x.2.length z.2.2.2])<|.nil) (by kernel_rfl) (by kernel_rfl) fun u15 a w' H=>?_
   replace H:=H.kp [6,7,8,14,24,25,26,29,30,31,32,37,999999,33,34,35]
   refine Wr rfl ?_
   replace H:=H.dup (K:=qB fr 2 z.2.2.1 z.2.2.2 x.2 qa) 37 900013 (by kernel_rfl) (fun h=>h) (by intro _ _ h; cases h)
   exact ⟨_,⟨_,G,z.2.2.1,z.2.2.2,x.2.length,rfl,rfl⟩,by kernel_rfl,H.toM _⟩
  ·rw [if_neg (nt c16)] at G
   refine JB ?_
   exact ⟨_,⟨G,rfl⟩,by kernel_rfl,H.toM _⟩
 ·clear H G; rintro Di L W ⟨G,rfl⟩ H
  unfold Qy.l6 at G
  replace H:=H.kp [6,7,8,14,24,25,26,29,30,31,32,999999,34]
  refine WR ?_
  refine YA ?_
  refine YQ qd H (.cons [21] (qf (.slice none 0 0) 21 29 0 1 ((u2 0).n 0) [.slice none 0 0] 48) <|
 .cons [22] (qf (.slice none 0 0) 22 29 0 1 ((u2 0).n 0) [.slice none 0 0] 48) <|
 .v 23 (.bool false) <|
 .v 6 (.slice none 0 0) <|
 .v 7 (.bool false)<|.nil) (by kernel_rfl) (by kernel_rfl) fun u17 a w' H=>?_
  replace H:=H.kp [6,7,999999,34]
  refine Vn ?_
  obtain rfl:=sj G
  replace H:=H.nil_row 39 46 2
  replace H:=H.demote fr 39 46 2 none 0 0 (([]:List qb).flatMap qa) (by kernel_rfl) (by decide) hBf
  obtain ⟨g,o0,n0⟩:=ZX none 0
  refine Wo 34 H (by kernel_rfl) fun w' H=>?_
  refine QR H _ g _ _ _ fr [39] [] (.tuple #[.slice none 0 0,.bool false]) [fun fr=>YZ fr 2 none 0 0 (([]:List qb).flatMap qa)] (by simp only [Qm,o0,n0,List.length_set,List.length_cons,List.length_nil,Nat.zero_add,Nat.reduceAdd]) (by simp only [Qm,o0,n0,List.length_set,List.length_cons,List.length_nil,Nat.zero_add,Nat.reduceAdd]) hfr (.inl ⟨rfl,rfl⟩) (ql (QZ (by decide)) qC) (by simp)
 ·clear H G; rintro Di L W h H; exact h.elim
 ·clear H G; rintro Di L W ⟨x7,G,p_x7,c_x7,_,rfl,rfl⟩ H
  unfold Qy.l8 at G
  replace H:=H.kp [6,7,8,14,24,25,26,29,30,31,32,900013,999999,34]
  refine WR ?_
  refine YA ?_
  replace G:=gd G; obtain ⟨b10,G⟩:=G
  refine YQ qd H (.cons [21] (qf (.slice p_x7 x7.length c_x7) 21 29 0 1 ((u2 0).n 0) [.slice p_x7 x7.length c_x7] 48) <|
 .cons [22] (qf (.slice p_x7 x7.length c_x7) 22 29 0 1 ((u2 0).n 0) [.slice p_x7 x7.length c_x7] 48) <|
 .cons [23] (Zq [900013] (fun u9=>[qB fr 2 p_x7 c_x7 x7 qa]) (fun u9=>.bool true) (fun u9=>true) [true,true] 23 (fun u9 w _ hF=>qe4 (qj hF.1).2 (by have:=(qj hF.1).2.len qe (by decide); omega) (fun a e=>by subst e; kernel_rfl))) <|
 .v 6 (.slice p_x7 x7.length c_x7) <|
 .v 7 (.bool true)<|.nil) (by kernel_rfl) (by kernel_rfl) fun u9 a w' H=>?_
  replace H:=H.kp [6,7,900013,999999,34]
  refine Vn ?_
  obtain rfl:=sj G
  obtain ⟨g,o0,n0⟩:=ZX p_x7 c_x7
  refine Wo 34 H (by kernel_rfl) fun w' H=>?_
  refine QR H _ g _ _ _ fr [900013] [] (.tuple #[.slice p_x7 x7.length c_x7,.bool true]) [fun fr=>qB fr 2 p_x7 c_x7 x7 qa] (by simp only [Qm,o0,n0]) (by simp only [Qm,o0,n0]) hfr (.inl ⟨rfl,rfl⟩) (ql (QZ (by decide)) qC) (by simp)
theorem Yz.calls (a0:Int) (r:qb) (w:World) (G:Yz a0=some r) :
  Calls Tryz.prog 46 #[vI a0] w fun e w'=>e = .returned (.agg #[vI r.Lo,vI r.Hi])∧Below w.heap.size w w':=by
 refine QD (args:=[vI a0]) 6 Tryz.func46 rfl (by kernel_rfl) (by kernel_rfl) fun a H=>?_
 unfold Yz at G
 refine qg qd H (.cons [2,6] (qs (fun b=>vP b 0) (fun u1=>[vI 0,vI 0]) 46 2 6)<|.nil) [0,2,6] fun u1 a w' H=>?_
 obtain ⟨t3,ht3,G⟩:=qP G
 refine qg qd H (.v 3 (vI a0) <|
 .v 4 (vI a0) <|
 .cons [5] (qq 68 _ _ 5 [] (fun u2 w _=>qI.calls a0 a0  t3 w  ht3)) <|
 .cons [6] (Qa 6 0 ((u1 0).n 0) [vI 0,vI 0] [vI t3.Lo,vI t3.Hi] 46 [vI t3.Lo,vI t3.Hi])<|.nil) [2,6] fun u2 a w' H=>?_
 refine qF ?_
 obtain rfl:=sj G
 exact Qj H _ 6 ((u1 0).n 0) [vI t3.Lo,vI t3.Hi] 46 0 2 (by kernel_rfl) (by kernel_rfl) (by kernel_rfl) (by kernel_rfl)
theorem Yq.calls (a0:qb) (r:qb) (w:World) (G:Yq a0=some r) :
  Calls Tryz.prog 130 #[.agg #[vI a0.Lo,vI a0.Hi]] w fun e w'=>e = .returned (.agg #[vI r.Lo,vI r.Hi])∧Below w.heap.size w w':=by
 refine QD (args:=[.agg #[vI a0.Lo,vI a0.Hi]]) 4 Tryz.func130 rfl (by kernel_rfl) (by kernel_rfl) fun a H=>?_
 unfold Yq at G
 refine qg qd H (.cons [1,4] (qs (fun b=>vP b 0) (fun u1=>[vI a0.Lo,vI a0.Hi]) 46 1 4) <|
 .cons [2,5] (qs (fun b=>vP b 0) (fun u1=>[vI 0,vI 0]) 46 2 5)<|.nil) [1,2,4,5] fun u1 a w' H=>?_
 refine qg qd H (.cons [3] (qf (.agg #[vI a0.Lo,vI a0.Hi]) 3 4 0 2 ((u1 0).n 0) [vI a0.Lo,vI a0.Hi] 46) <|
 .cons [5] (Qa 5 0 ((u1 1).n 0) [vI 0,vI 0] [vI a0.Lo,vI a0.Hi] 46 [vI a0.Lo,vI a0.Hi])<|.nil) [2,5] fun u2 a w' H=>?_
 refine qF ?_
 obtain rfl:=sj G
 exact Qj H _ 5 ((u1 1).n 0) [vI a0.Lo,vI a0.Hi] 46 0 2 (by kernel_rfl) (by kernel_rfl) (by kernel_rfl) (by kernel_rfl)
theorem QF.calls (k0:Nat) (a0:List qb) (a1:List qb) (a2:List qb) (p_a0:Option Addr) (c_a0:Nat) (p_a1:Option Addr) (c_a1:Nat) (p_a2:Option Addr) (c_a2:Nat) (r:qb) (w:World) (hB:Xx [qB qk 2 p_a0 c_a0 a0 qa,qB qk 2 p_a1 c_a1 a1 qa,qB qk 2 p_a2 c_a2 a2 qa,gk] w) (G:QF k0 a0 a1 a2=some r) :
  Calls Tryz.prog 131 #[.slice p_a0 a0.length c_a0,.slice p_a1 a1.length c_a1,.slice p_a2 a2.length c_a2] w fun e w'=>e = .returned (.agg #[vI r.Lo,vI r.Hi])∧Below w.heap.size w w':=by
 obtain ⟨fr,hfr⟩:∃ fr:Nat→Prop,∀ j,fr j:=⟨fun _=>True,fun _=>trivial⟩
 have hBf:∀ j,w.heap.size≤j→fr j:=fun j _=>hfr j
 refine QO (args:=[.slice p_a0 a0.length c_a0,.slice p_a1 a1.length c_a1,.slice p_a2 a2.length c_a2]) 54 [(54,qB qk 2 p_a0 c_a0 a0 qa),(55,qB qk 2 p_a1 c_a1 a1 qa),(56,qB qk 2 p_a2 c_a2 a2 qa),(999999,gk)] (by
  intro x hx
  simp only [List.mem_cons,List.not_mem_nil,or_false] at hx
  rcases hx with rfl | rfl | rfl | rfl
  ·exact qy (qj hB.1) (fun _ _=>trivial) (by decide) _
  ·exact qy (qj hB.2.1) (fun _ _=>trivial) (by decide) _
  ·exact qy (qj hB.2.2.1) (fun _ _=>trivial) (by decide) _
  ·exact ⟨⟨_,_,rfl⟩,hB.2.2.2.1,Yl (QM hB.2.2.2.1)⟩) Tryz.func131 rfl (by kernel_rfl) (by kernel_rfl) fun a H=>?_
 unfold QF at G
 refine qg qd H (.cons [6,57] (qs (fun b=>vP b 0) (fun u1=>[vI 0,vI 0]) 46 6 57)<|.nil) [0,1,2,6,54,55,56,57,999999] fun u1 a w' H=>?_
 refine qg qd H (.v 11 (.slice p_a2 a2.length c_a2) <|
 .v 12 (vI (a2.length:Int)) <|
 .v 7 (vI (a2.length:Int))<|.nil) [0,1,2,6,7,54,55,56,57,999999] fun u2 a w' H=>?_
 refine qv ?_
 refine qg qd H (.v 13 (vI (a2.length:Int)) <|
 .v 14 (.bool ((a2.length:Int) == 0))<|.nil) [0,1,2,6,7,14,54,55,56,57,999999] fun u3 a w' H=>?_
 refine Qx H ((a2.length:Int) == 0) (fun c49=>?_) fun c49=>?_
 ·rw [if_pos c49] at G
  refine qv ?_
  replace G:=gd G; obtain ⟨b5,G⟩:=G
  obtain ⟨t6,ht6,G⟩:=qP G
  have P7:=Xh (en:=qa) (l:=a0) (qj (H.at (K:=qB qk 2 p_a0 c_a0 a0 qa) 54 (by kernel_rfl))).2 qe
  replace G:=gd G; obtain ⟨b8,G⟩:=G
  obtain ⟨t9,ht9,G⟩:=qP G
  have P10:=Xh (en:=qa) (l:=a1) (qj (H.at (K:=qB qk 2 p_a1 c_a1 a1 qa) 55 (by kernel_rfl))).2 qe
  obtain ⟨t11,ht11,G⟩:=qP G
  refine Qt qd H (.v 15 (.slice p_a0 a0.length c_a0) <|
 .cons [16] (qn (fun u4=>.pointer (some ⟨Xf p_a0,Xg p_a0+((0:Int).toNat) * 2,none⟩)) 16 (hv:=fun _ _=>qM (t:=48) (k:=.i64) (i:=(0:Int)) (p:=p_a0) (n:=a0.length) (cap:=c_a0) (x:=a0) P7 rfl b5 (by kernel_rfl))) <|
 .cons [17] (qG 54 (qB qk 2 p_a0 c_a0 a0 qa) (.agg #[vI t6.Lo,vI t6.Hi]) 17 fun _ w h=>Ym qa (qj h).2 qe ht6 0 2 [vI t6.Lo,vI t6.Hi]) <|
 .v 18 (.slice p_a1 a1.length c_a1) <|
 .cons [19] (qn (fun u4=>.pointer (some ⟨Xf p_a1,Xg p_a1+((0:Int).toNat) * 2,none⟩)) 19 (hv:=fun _ _=>qM (t:=48) (k:=.i64) (i:=(0:Int)) (p:=p_a1) (n:=a1.length) (cap:=c_a1) (x:=a1) P10 rfl b8 (by kernel_rfl))) <|
 .cons [20] (qG 55 (qB qk 2 p_a1 c_a1 a1 qa) (.agg #[vI t9.Lo,vI t9.Hi]) 20 fun _ w h=>Ym qa (qj h).2 qe ht9 0 2 [vI t9.Lo,vI t9.Hi]) <|
 .cons [21] (QX [999999] (fun u4=>[gk]) 137 _ _ 21 (fun u4 w hF=>QY.calls t6 t9  t11 w  (QM hF.1) ht11)) <|
 .cons [57] (Qa 57 0 ((u1 0).n 0) [vI 0,vI 0] [vI t11.Lo,vI t11.Hi] 46 [vI t11.Lo,vI t11.Hi])<|.nil) [6,57,999999] fun u4 a w' H=>?_
  refine qF ?_
  obtain rfl:=sj G
  exact Qj H _ 57 ((u1 0).n 0) [vI t11.Lo,vI t11.Hi] 46 0 2 (by kernel_rfl) (by kernel_rfl) (by kernel_rfl) (by kernel_rfl)
 ·rw [if_neg (nt c49)] at G
  refine Qf ?_
  refine qg qd H (.cons [8,58] (qs (fun b=>vP b 0) (fun u12=>[vI 0,vI 0]) 46 8 58)<|.nil) [0,1,2,6,7,8,54,55,56,57,58,999999] fun u12 a w' H=>?_
  refine qv ?_
  obtain ⟨j15,hj15,G⟩:=qP G
  refine Xq (fun a w'=>RL w 54 [(0,sS p_a0 a0.length c_a0),(1,sS p_a1 a1.length c_a1),(6,(sP ((u1 0).n 0) 0)),(7,(sI (a2.length:Int))),(8,(sP ((u12 0).n 0) 0)),(54,qB qk 2 p_a0 c_a0 a0 qa),(55,qB qk 2 p_a1 c_a1 a1 qa),(57,.blk ((u1 0).n 0) [vI 0,vI 0] 46),(58,.blk ((u12 0).n 0) [vI j15.1,vI j15.2] 46),(999999,gk)] a w') ?_ ?_
  ·clear H; intro a w' H
   refine qv ?_
   replace G:=gd G; obtain ⟨b17,G⟩:=G
   obtain ⟨t18,ht18,G⟩:=qP G
   have P19:=Xh (en:=qa) (l:=a0) (qj (H.at (K:=qB qk 2 p_a0 c_a0 a0 qa) 54 (by kernel_rfl))).2 qe
   obtain ⟨t20,ht20,G⟩:=qP G
   replace G:=gd G; obtain ⟨b21,G⟩:=G
   obtain ⟨t22,ht22,G⟩:=qP G
   have P23:=Xh (en:=qa) (l:=a1) (qj (H.at (K:=qB qk 2 p_a1 c_a1 a1 qa) 55 (by kernel_rfl))).2 qe
   obtain ⟨t24,ht24,G⟩:=qP G
   refine Qt qd H (.v 44 (.slice p_a0 a0.length c_a0) <|
 .v 45 (vI (a2.length:Int)) <|
 .cons [46] (qn (fun u16=>.pointer (some ⟨Xf p_a0,Xg p_a0+((a2.length:Int).toNat) * 2,none⟩)) 46 (hv:=fun _ _=>qM (t:=48) (k:=.i64) (i:=(a2.length:Int)) (p:=p_a0) (n:=a0.length) (cap:=c_a0) (x:=a0) P19 rfl b17 (by kernel_rfl))) <|
 .cons [47] (qG 54 (qB qk 2 p_a0 c_a0 a0 qa) (.agg #[vI t18.Lo,vI t18.Hi]) 47 fun _ w h=>Ym qa (qj h).2 qe ht18 0 2 [vI t18.Lo,vI t18.Hi]) <|
 .cons [48] (qf (.agg #[vI j15.1,vI j15.2]) 48 58 0 2 ((u12 0).n 0) [vI j15.1,vI j15.2] 46) <|
 .cons [49] (qq 92 _ _ 49 [] (fun u16 w _=>Xj.calls t18 (⟨j15.1,j15.2⟩:qb)  t20 w  ht20)) <|
 .v 50 (.slice p_a1 a1.length c_a1) <|
 .cons [51] (qn (fun u16=>.pointer (some ⟨Xf p_a1,Xg p_a1+((0:Int).toNat) * 2,none⟩)) 51 (hv:=fun _ _=>qM (t:=48) (k:=.i64) (i:=(0:Int)) (p:=p_a1) (n:=a1.length) (cap:=c_a1) (x:=a1) P23 rfl b21 (by kernel_rfl))) <|
 .cons [52] (qG 55 (qB qk 2 p_a1 c_a1 a1 qa) (.agg #[vI t22.Lo,vI t22.Hi]) 52 fun _ w h=>Ym qa (qj h).2 qe ht22 0 2 [vI t22.Lo,vI t22.Hi]) <|
 .cons [53] (QX [999999] (fun u16=>[gk]) 137 _ _ 53 (fun u16 w hF=>QY.calls t20 t22  t24 w  (QM hF.1) ht24)) <|
 .cons [57] (Qa 57 0 ((u1 0).n 0) [vI 0,vI 0] [vI t24.Lo,vI t24.Hi] 46 [vI t24.Lo,vI t24.Hi])<|.nil) [6,57,999999] fun u16 a w' H=>?_
   refine qF ?_
   obtain rfl:=sj G
   exact Qj H _ 57 ((u1 0).n 0) [vI t24.Lo,vI t24.Hi] 46 0 2 (by kernel_rfl) (by kernel_rfl) (by kernel_rfl) (by kernel_rfl)
  ·clear G; replace G:=hj15; clear hj15
   refine qg qd H (.v 9 (vI 1)<|.nil) [0,1,2,6,7,8,9,54,55,56,57,58,999999] fun u25 a w' H=>?_
   refine q6 ?_
   refine XP (fun m a w'=>∃ x26:Int,∃ x27:Int,∃ x28:Int,QF.l29 k0 a0 a1 a2 m x26 x27 x28=some j15∧RL w 54 [(0,sS p_a0 a0.length c_a0),(1,sS p_a1 a1.length c_a1),(2,sS p_a2 a2.length c_a2),(6,(sP ((u1 0).n 0) 0)),(7,(sI (a2.length:Int))),(8,(sP ((u12 0).n 0) 0)),(9,sI x28),(54,qB qk 2 p_a0 c_a0 a0 qa),(55,qB qk 2 p_a1 c_a1 a1 qa),(56,qB qk 2 p_a2 c_a2 a2 qa),(57,.blk ((u1 0).n 0) [vI 0,vI 0] 46),(58,.blk ((u12 0).n 0) [vI x26,vI x27] 46),(999999,gk)] a w') k0 ⟨_,_,_,G,H.toM _⟩ ?_
   clear G H
   rintro (_ | k) a w' ⟨x26,x27,x28,G,H⟩
   ·exact absurd G (by unfold QF.l29; exact fun h=>by cases h)
   ·unfold QF.l29 at G
    refine qv ?_
    refine qg qd H (.v 22 (vI x28) <|
 .v 23 (vI (a2.length:Int)) <|
 .v 24 (.bool (decide (x28≤(a2.length:Int))))<|.nil) [0,1,2,6,7,8,9,24,54,55,56,57,58,999999] fun u30 a w' H=>?_
    refine Qx H (decide (x28≤(a2.length:Int))) (fun c48=>?_) fun c48=>?_
    ·rw [if_pos c48] at G
     refine Qf ?_
     refine qv ?_
     refine q6 ?_
     refine qv ?_
     replace G:=gd G; obtain ⟨b32,G⟩:=G
     obtain ⟨t33,ht33,G⟩:=qP G
     have P34:=Xh (en:=qa) (l:=a1) (qj (H.at (K:=qB qk 2 p_a1 c_a1 a1 qa) 55 (by kernel_rfl))).2 qe
     replace G:=gd G; obtain ⟨b35,G⟩:=G
     obtain ⟨t36,ht36,G⟩:=qP G
     have P37:=Xh (en:=qa) (l:=a2) (qj (H.at (K:=qB qk 2 p_a2 c_a2 a2 qa) 56 (by kernel_rfl))).2 qe
     obtain ⟨t38,ht38,G⟩:=qP G
     refine Qt qd H (.v 27 (.slice p_a1 a1.length c_a1) <|
 .v 28 (vI x28) <|
 .cons [29] (qn (fun u31=>.pointer (some ⟨Xf p_a1,Xg p_a1+x28.toNat * 2,none⟩)) 29 (hv:=fun _ _=>qM (t:=48) (k:=.i64) (i:=x28) (p:=p_a1) (n:=a1.length) (cap:=c_a1) (x:=a1) P34 rfl b32 (by kernel_rfl))) <|
 .cons [30] (qG 55 (qB qk 2 p_a1 c_a1 a1 qa) (.agg #[vI t33.Lo,vI t33.Hi]) 30 fun _ w h=>Ym qa (qj h).2 qe ht33 0 2 [vI t33.Lo,vI t33.Hi]) <|
 .v 31 (.slice p_a2 a2.length c_a2) <|
 .v 32 (vI (a2.length:Int)) <|
 .v 33 (vI x28) <|
 .v 34 (vI (qc ((a2.length:Int) - x28))) <|
 .cons [35] (qn (fun u31=>.pointer (some ⟨Xf p_a2,Xg p_a2+((qc ((a2.length:Int) - x28)).toNat) * 2,none⟩)) 35 (hv:=fun _ _=>qM (t:=48) (k:=.i64) (i:=qc ((a2.length:Int) - x28)) (p:=p_a2) (n:=a2.length) (cap:=c_a2) (x:=a2) P37 rfl b35 (by kernel_rfl))) <|
 .cons [36] (qG 56 (qB qk 2 p_a2 c_a2 a2 qa) (.agg #[vI t36.Lo,vI t36.Hi]) 36 fun _ w h=>Ym qa (qj h).2 qe ht36 0 2 [vI t36.Lo,vI t36.Hi]) <|
 .cons [37] (QX [999999] (fun u31=>[gk]) 127 _ _ 37 (fun u31 w hF=>Q9.calls t33 t36  t38 w  (QM hF.1) ht38)) <|
 .cons [10,59] (qs (fun b=>vP b 0) (fun u31=>[vI 0,vI 0]) 46 10 59) <|
 .cons [59] (QL (u':=fun u31=>[(59,.blk ((u31 11).n 0) [vI t38.Lo,vI t38.Hi] 46)]) (qW 59 0 (fun u31=>((u31 11).n 0)) (fun u31=>[vI 0,vI 0]) (fun u31=>[vI t38.Lo,vI t38.Hi]) 46) (fun _=>by kernel_rfl))<|.nil) [0,1,2,6,7,8,9,10,54,55,56,57,58,59,999999] fun u31 a w' H=>?_
     refine qv ?_
     obtain ⟨j41,hj41,G⟩:=qP G
     refine Xq (fun a w'=>RL w 54 [(0,sS p_a0 a0.length c_a0),(1,sS p_a1 a1.length c_a1),(2,sS p_a2 a2.length c_a2),(6,(sP ((u1 0).n 0) 0)),(7,(sI (a2.length:Int))),(8,(sP ((u12 0).n 0) 0)),(9,sI x28),(10,(sP ((u31 11).n 0) 0)),(54,qB qk 2 p_a0 c_a0 a0 qa),(55,qB qk 2 p_a1 c_a1 a1 qa),(56,qB qk 2 p_a2 c_a2 a2 qa),(57,.blk ((u1 0).n 0) [vI 0,vI 0] 46),(58,.blk ((u12 0).n 0) [vI x26,vI x27] 46),(59,.blk ((u31 11).n 0) [vI j41.1,vI j41.2] 46),(999999,gk)] a w') ?_ ?_
     ·clear H; intro a w' H
      refine Qt qd H (.cons [43] (qf (.agg #[vI j41.1,vI j41.2]) 43 59 0 2 ((u31 11).n 0) [vI j41.1,vI j41.2] 46) <|
 .cons [58] (Qa 58 0 ((u12 0).n 0) [vI x26,vI x27] [vI j41.1,vI j41.2] 46 [vI j41.1,vI j41.2])<|.nil) [0,1,2,6,7,8,9,54,55,56,57,58,999999] fun u42 a w' H=>?_
      refine Qt qd H (.v 25 (vI x28) <|
 .v 26 (vI (qc (x28+1))) <|
 .v 9 (vI (qc (x28+1)))<|.nil) [0,1,2,6,7,8,9,54,55,56,57,58,999999] fun u43 a w' H=>?_
      exact ⟨k,Nat.lt_succ_self k,_,_,_,G,H.toM _⟩
     ·clear G; replace G:=hj41; clear hj41
      refine qg qd H (.v 38 (vI x28) <|
 .v 39 (.bool (decide (x28 > 1)))<|.nil) [0,1,2,6,7,8,9,10,39,54,55,56,57,58,59,999999] fun u44 a w' H=>?_
      refine Qx H (decide (x28 > 1)) (fun c47=>?_) fun c47=>?_
      ·rw [if_pos c47] at G
       obtain ⟨t46,ht46,G⟩:=qP G
       refine Qt qd H (.cons [40] (qf (.agg #[vI x26,vI x27]) 40 58 0 2 ((u12 0).n 0) [vI x26,vI x27] 46) <|
 .cons [41] (qf (.agg #[vI t38.Lo,vI t38.Hi]) 41 59 0 2 ((u31 11).n 0) [vI t38.Lo,vI t38.Hi] 46) <|
 .cons [42] (qq 90 _ _ 42 [] (fun u45 w _=>QU.calls (⟨x26,x27⟩:qb) t38  t46 w  ht46)) <|
 .cons [59] (Qa 59 0 ((u31 11).n 0) [vI t38.Lo,vI t38.Hi] [vI t46.Lo,vI t46.Hi] 46 [vI t46.Lo,vI t46.Hi])<|.nil) [0,1,2,6,7,8,9,10,54,55,56,57,58,59,999999] fun u45 a w' H=>?_
       obtain rfl:=sj G
       exact H.toM _
      ·rw [if_neg (nt c47)] at G
       refine Qf ?_
       obtain rfl:=sj G
       exact H.toM _
    ·rw [if_neg (nt c48)] at G
     refine Yk rfl ?_
     obtain rfl:=sj G
     exact H.toM _
theorem Yv.calls (a0:Int) (a1:Int) (a2:Int) (r:Int × Int × Int) (w:World) (G:Yv a0 a1 a2=some r) :
  Calls Tryz.prog 140 #[vI a0,vI a1,vI a2] w fun e w'=>e = .returned (.tuple #[vI r.1,vI r.2.1,vI r.2.2])∧Below w.heap.size w w':=by
 refine QD (args:=[vI a0,vI a1,vI a2]) 35 Tryz.func140 rfl (by kernel_rfl) (by kernel_rfl) fun a H=>?_
 unfold Yv at G
 refine qg qd H (.v 6 (vI 0) <|
 .v 7 (vI 0) <|
 .v 8 (vI 0)<|.nil) [0,1,2] fun u1 a w' H=>?_
 refine qv ?_
 refine qg qd H (.v 11 (vI a1) <|
 .v 12 (.bool (decide (a1<(-1073741824)))) <|
 .v 13 (.bool (decide (a1<(-1073741824)))) <|
 .cons [14] (qQ (fun u2=>vI a1) (fun u2=>((decide (a1<(-1073741824))) == false)) [true] 14) <|
 .cons [15] (qQ (fun u2=>.bool (decide (a1 > 1073741824))) (fun u2=>((decide (a1<(-1073741824))) == false)) [false,true] 15) <|
 .cons [16] (ZM 13 15 (fun u2=>true) (fun u2=>true) (fun u2=>decide (a1<(-1073741824))) (fun u2=>decide (a1 > 1073741824)) 16) <|
 .v 17 (.bool ((decide (a1<(-1073741824))) || (decide (a1 > 1073741824)))) <|
 .cons [18] (qQ (fun u2=>vI a2) (fun u2=>(((decide (a1<(-1073741824))) || (decide (a1 > 1073741824))) == false)) [true] 18) <|
 .cons [19] (qQ (fun u2=>.bool (decide (a2<1))) (fun u2=>(((decide (a1<(-1073741824))) || (decide (a1 > 1073741824))) == false)) [false,true] 19) <|
 .cons [20] (ZM 17 19 (fun u2=>true) (fun u2=>true) (fun u2=>((decide (a1<(-1073741824))) || (decide (a1 > 1073741824)))) (fun u2=>decide (a2<1)) 20) <|
 .v 21 (.bool (((decide (a1<(-1073741824))) || (decide (a1 > 1073741824))) || (decide (a2<1)))) <|
 .cons [22] (qQ (fun u2=>vI a2) (fun u2=>((((decide (a1<(-1073741824))) || (decide (a1 > 1073741824))) || (decide (a2<1))) == false)) [true] 22) <|
 .cons [23] (qQ (fun u2=>.bool (decide (a2 > 1073741824))) (fun u2=>((((decide (a1<(-1073741824))) || (decide (a1 > 1073741824))) || (decide (a2<1))) == false)) [false,true] 23) <|
 .cons [24] (ZM 21 23 (fun u2=>true) (fun u2=>true) (fun u2=>(((decide (a1<(-1073741824))) || (decide (a1 > 1073741824))) || (decide (a2<1)))) (fun u2=>decide (a2 > 1073741824)) 24)<|.nil) [0,1,2,24] fun u2 a w' H=>?_
 refine Qx H ((((decide (a1<(-1073741824))) || (decide (a1 > 1073741824))) || (decide (a2<1))) || (decide (a2 > 1073741824))) (fun c7=>?_) fun c7=>?_
 ·rw [if_pos c7] at G
  refine qg qd H (.v 6 (vI 0) <|
 .v 7 (vI 0) <|
 .v 8 (vI 1)<|.nil) [6,7,8] fun u3 a w' H=>?_
  refine qF ?_
  obtain rfl:=sj G
  exact Qr H _ (by kernel_rfl) (by kernel_rfl)
 ·rw [if_neg (nt c7)] at G
  refine Qf ?_
  obtain ⟨t5,ht5,G⟩:=qP G
  refine qg qd H (.v 26 (vI a0) <|
 .v 27 (vI a1) <|
 .v 28 (vI (qc (a0 * a1))) <|
 .v 29 (vI a2) <|
 .cons [30] (qq 75 _ _ 30 [] (fun u4 w _=>Ya.calls (qc (a0 * a1)) a2  t5 w  ht5)) <|
 .v 25 (.tuple #[vI t5.1,vI t5.2]) <|
 .v 31 (vI t5.1) <|
 .v 32 (vI t5.2) <|
 .v 9 (vI t5.1) <|
 .v 10 (vI t5.2)<|.nil) [9,10] fun u4 a w' H=>?_
  refine qg qd H (.v 33 (vI t5.1) <|
 .v 34 (vI t5.2) <|
 .v 6 (vI t5.1) <|
 .v 7 (vI t5.2) <|
 .v 8 (vI 0)<|.nil) [6,7,8] fun u6 a w' H=>?_
  refine qF ?_
  obtain rfl:=sj G
  exact Qr H _ (by kernel_rfl) (by kernel_rfl)
theorem XF.calls (a0:Bool) (a1:Int) (a2:Int) (r:Int) (w:World) (G:XF a0 a1 a2=some r) :
  Calls Tryz.prog 141 #[.bool a0,vI a1,vI a2] w fun e w'=>e = .returned (vI r)∧Below w.heap.size w w':=by
 refine QD (args:=[.bool a0,vI a1,vI a2]) 10 Tryz.func141 rfl (by kernel_rfl) (by kernel_rfl) fun a H=>?_
 unfold XF at G
 refine qg qd H (.v 6 (vI 0)<|.nil) [0,1,2] fun u1 a w' H=>?_
 refine qv ?_
 refine qg qd H (.v 7 (.bool a0)<|.nil) [1,2,7] fun u2 a w' H=>?_
 refine Qx H a0 (fun c5=>?_) fun c5=>?_
 ·rw [if_pos c5] at G
  refine qg qd H (.v 8 (vI a1) <|
 .v 6 (vI a1)<|.nil) [6] fun u3 a w' H=>?_
  refine qF ?_
  obtain rfl:=sj G
  exact Qr H _ (by kernel_rfl) (by kernel_rfl)
 ·rw [if_neg (nt c5)] at G
  refine Qf ?_
  refine qg qd H (.v 9 (vI a2) <|
 .v 6 (vI a2)<|.nil) [6] fun u4 a w' H=>?_
  refine qF ?_
  obtain rfl:=sj G
  exact Qr H _ (by kernel_rfl) (by kernel_rfl)
theorem XY.calls (a0:qb) (a1:Int) (a2:Int) (r:qb) (w:World) (G:XY a0 a1 a2=some r) :
  Calls Tryz.prog 134 #[.agg #[vI a0.Lo,vI a0.Hi],vI a1,vI a2] w fun e w'=>e = .returned (.agg #[vI r.Lo,vI r.Hi])∧Below w.heap.size w w':=by
 refine QD (args:=[.agg #[vI a0.Lo,vI a0.Hi],vI a1,vI a2]) 47 Tryz.func134 rfl (by kernel_rfl) (by kernel_rfl) fun a H=>?_
 unfold XY at G
 refine qg qd H (.cons [3,47] (qs (fun b=>vP b 0) (fun u1=>[vI a0.Lo,vI a0.Hi]) 46 3 47) <|
 .cons [6,48] (qs (fun b=>vP b 0) (fun u1=>[vI 0,vI 0]) 46 6 48)<|.nil) [1,2,3,6,47,48] fun u1 a w' H=>?_
 refine qv ?_
 obtain ⟨t3,ht3,G⟩:=qP G
 refine qg qd H (.cons [13] (qf (.agg #[vI a0.Lo,vI a0.Hi]) 13 47 0 2 ((u1 0).n 0) [vI a0.Lo,vI a0.Hi] 46) <|
 .cons [14] (qq 21 _ _ 14 [] (fun u2 w _=>qV.calls a0  t3 w  ht3))<|.nil) [1,2,3,6,14,47,48] fun u2 a w' H=>?_
 refine Qx H t3 (fun c13=>?_) fun c13=>?_
 ·rw [if_pos c13] at G
  refine qg qd H (.cons [15] (qf (.agg #[vI a0.Lo,vI a0.Hi]) 15 47 0 2 ((u1 0).n 0) [vI a0.Lo,vI a0.Hi] 46) <|
 .cons [48] (Qa 48 0 ((u1 1).n 0) [vI 0,vI 0] [vI a0.Lo,vI a0.Hi] 46 [vI a0.Lo,vI a0.Hi])<|.nil) [6,48] fun u4 a w' H=>?_
  refine qF ?_
  obtain rfl:=sj G
  exact Qj H _ 48 ((u1 1).n 0) [vI a0.Lo,vI a0.Hi] 46 0 2 (by kernel_rfl) (by kernel_rfl) (by kernel_rfl) (by kernel_rfl)
 ·rw [if_neg (nt c13)] at G
  refine Qf ?_
  obtain ⟨t6,ht6,G⟩:=qP G
  obtain ⟨t7,ht7,G⟩:=qP G
  refine qg qd H (.v 17 (vI a1) <|
 .v 18 (.bool (decide (a1<0))) <|
 .v 19 (vP ((u1 0).n 0) 1) <|
 .cons [20] (qf (vI a0.Hi) 20 47 1 1 ((u1 0).n 0) [vI a0.Lo,vI a0.Hi] 46) <|
 .v 21 (vP ((u1 0).n 0) 0) <|
 .cons [22] (qf (vI a0.Lo) 22 47 0 1 ((u1 0).n 0) [vI a0.Lo,vI a0.Hi] 46) <|
 .cons [23] (qq 141 _ _ 23 [] (fun u5 w _=>XF.calls (decide (a1<0)) a0.Hi a0.Lo  t6 w  ht6)) <|
 .v 24 (vI a1) <|
 .v 25 (vI a2) <|
 .cons [26] (qq 140 _ _ 26 [] (fun u5 w _=>Yv.calls t6 a1 a2  t7 w  ht7)) <|
 .v 16 (.tuple #[vI t7.1,vI t7.2.1,vI t7.2.2]) <|
 .v 27 (vI t7.1) <|
 .v 28 (vI t7.2.1) <|
 .v 29 (vI t7.2.2) <|
 .v 7 (vI t7.1) <|
 .v 8 (vI t7.2.1) <|
 .v 9 (vI t7.2.2)<|.nil) [1,2,3,6,7,47,48] fun u5 a w' H=>?_
  obtain ⟨t9,ht9,G⟩:=qP G
  obtain ⟨t10,ht10,G⟩:=qP G
  refine qg qd H (.v 31 (vI a1) <|
 .v 32 (.bool (decide (a1<0))) <|
 .v 33 (vP ((u1 0).n 0) 0) <|
 .cons [34] (qf (vI a0.Lo) 34 47 0 1 ((u1 0).n 0) [vI a0.Lo,vI a0.Hi] 46) <|
 .v 35 (vP ((u1 0).n 0) 1) <|
 .cons [36] (qf (vI a0.Hi) 36 47 1 1 ((u1 0).n 0) [vI a0.Lo,vI a0.Hi] 46) <|
 .cons [37] (qq 141 _ _ 37 [] (fun u8 w _=>XF.calls (decide (a1<0)) a0.Lo a0.Hi  t9 w  ht9)) <|
 .v 38 (vI a1) <|
 .v 39 (vI a2) <|
 .cons [40] (qq 140 _ _ 40 [] (fun u8 w _=>Yv.calls t9 a1 a2  t10 w  ht10)) <|
 .v 30 (.tuple #[vI t10.1,vI t10.2.1,vI t10.2.2]) <|
 .v 41 (vI t10.1) <|
 .v 42 (vI t10.2.1) <|
 .v 43 (vI t10.2.2) <|
 .v 10 (vI t10.1) <|
 .v 11 (vI t10.2.1) <|
 .v 12 (vI t10.2.2)<|.nil) [6,7,11,48] fun u8 a w' H=>?_
  obtain ⟨t12,ht12,G⟩:=qP G
  refine qg qd H (.v 44 (vI t7.1) <|
 .v 45 (vI t10.2.1) <|
 .cons [46] (qq 68 _ _ 46 [] (fun u11 w _=>qI.calls t7.1 t10.2.1  t12 w  ht12)) <|
 .cons [48] (Qa 48 0 ((u1 1).n 0) [vI 0,vI 0] [vI t12.Lo,vI t12.Hi] 46 [vI t12.Lo,vI t12.Hi])<|.nil) [6,48] fun u11 a w' H=>?_
  refine qF ?_
  obtain rfl:=sj G
  exact Qj H _ 48 ((u1 1).n 0) [vI t12.Lo,vI t12.Hi] 46 0 2 (by kernel_rfl) (by kernel_rfl) (by kernel_rfl) (by kernel_rfl)
theorem qS.calls (k0:Nat) (a1:List qb) (a2:List qb) (a3:Int) (a4:Int) (a5:Int) (p_a1:Option Addr) (c_a1:Nat) (p_a2:Option Addr) (c_a2:Nat) (r:qb) (w:World) (hB:Xx [qB qk 2 p_a1 c_a1 a1 qa,qB qk 2 p_a2 c_a2 a2 qa,gk] w) (G:qS k0 a1 a2 a3 a4 a5=some r) :
  Calls Tryz.prog 139 #[.agg #[.func (.func 130) #[] #[],.func (.func 110) #[] #[],.func (.func 90) #[] #[],.func (.func 92) #[] #[],.func (.func 127) #[] #[],.func (.func 91) #[] #[],.func (.func 131) #[] #[],.func (.func 132) #[] #[],.func (.func 133) #[] #[]],.slice p_a1 a1.length c_a1,.slice p_a2 a2.length c_a2,vI a3,vI a4,vI a5] w fun e w'=>e = .returned (.agg #[vI r.Lo,vI r.Hi])∧Below w.heap.size w w':=by
 obtain ⟨fr,hfr⟩:∃ fr:Nat→Prop,∀ j,fr j:=⟨fun _=>True,fun _=>trivial⟩
 have hBf:∀ j,w.heap.size≤j→fr j:=fun j _=>hfr j
 refine QO (args:=[.agg #[.func (.func 130) #[] #[],.func (.func 110) #[] #[],.func (.func 90) #[] #[],.func (.func 92) #[] #[],.func (.func 127) #[] #[],.func (.func 91) #[] #[],.func (.func 131) #[] #[],.func (.func 132) #[] #[],.func (.func 133) #[] #[]],.slice p_a1 a1.length c_a1,.slice p_a2 a2.length c_a2,vI a3,vI a4,vI a5]) 49 [(49,qB qk 2 p_a1 c_a1 a1 qa),(50,qB qk 2 p_a2 c_a2 a2 qa),(999999,gk)] (by
  intro x hx
  simp only [List.mem_cons,List.not_mem_nil,or_false] at hx
  rcases hx with rfl | rfl | rfl
  ·exact qy (qj hB.1) (fun _ _=>trivial) (by decide) _
  ·exact qy (qj hB.2.1) (fun _ _=>trivial) (by decide) _
  ·exact ⟨⟨_,_,rfl⟩,hB.2.2.1,Yl (QM hB.2.2.1)⟩) Tryz.func139 rfl (by kernel_rfl) (by kernel_rfl) fun a H=>?_
 unfold qS at G
 refine qg qd H (.cons [6,51] (qs (fun b=>vP b 0) (fun u1=>[.func (.func 130) #[] #[],.func (.func 110) #[] #[],.func (.func 90) #[] #[],.func (.func 92) #[] #[],.func (.func 127) #[] #[],.func (.func 91) #[] #[],.func (.func 131) #[] #[],.func (.func 132) #[] #[],.func (.func 133) #[] #[]]) 215 6 51) <|
 .cons [12,52] (qs (fun b=>vP b 0) (fun u1=>[vI 0,vI 0]) 46 12 52)<|.nil) [1,2,3,4,5,6,12,49,50,51,52,999999] fun u1 a w' H=>?_
 obtain ⟨t3,ht3,G⟩:=qP G
 refine qg qd H (.v 16 (vP ((u1 0).n 0) 0) <|
 .cons [17] (qf (.func (.func 130) #[] #[]) 17 51 0 1 ((u1 0).n 0) [.func (.func 130) #[] #[],.func (.func 110) #[] #[],.func (.func 90) #[] #[],.func (.func 92) #[] #[],.func (.func 127) #[] #[],.func (.func 91) #[] #[],.func (.func 131) #[] #[],.func (.func 132) #[] #[],.func (.func 133) #[] #[]] 215) <|
 .v 18 (.agg #[vI 0,vI 0]) <|
 .cons [19] (qq 130 _ _ 19 [] (fun u2 w _=>Yq.calls (⟨0,0⟩:qb)  t3 w  ht3)) <|
 .cons [13,53] (qs (fun b=>vP b 0) (fun u2=>[vI 0,vI 0]) 46 13 53) <|
 .cons [53] (QL (u':=fun u2=>[(53,.blk ((u2 4).n 0) [vI t3.Lo,vI t3.Hi] 46)]) (qW 53 0 (fun u2=>((u2 4).n 0)) (fun u2=>[vI 0,vI 0]) (fun u2=>[vI t3.Lo,vI t3.Hi]) 46) (fun _=>by kernel_rfl))<|.nil) [1,2,3,4,5,6,12,13,49,50,51,52,53,999999] fun u2 a w' H=>?_
 refine qv ?_
 obtain ⟨j6,hj6,G⟩:=qP G
 refine Xq (fun a w'=>RL w 49 [(12,(sP ((u1 1).n 0) 0)),(13,(sP ((u2 4).n 0) 0)),(52,.blk ((u1 1).n 0) [vI 0,vI 0] 46),(53,.blk ((u2 4).n 0) [vI j6.1,vI j6.2] 46),(999999,gk)] a w') ?_ ?_
 ·clear H; intro a w' H
  refine qg qd H (.cons [48] (qf (.agg #[vI j6.1,vI j6.2]) 48 53 0 2 ((u2 4).n 0) [vI j6.1,vI j6.2] 46) <|
 .cons [52] (Qa 52 0 ((u1 1).n 0) [vI 0,vI 0] [vI j6.1,vI j6.2] 46 [vI j6.1,vI j6.2])<|.nil) [12,52,999999] fun u7 a w' H=>?_
  refine qF ?_
  obtain rfl:=sj G
  exact Qj H _ 52 ((u1 1).n 0) [vI j6.1,vI j6.2] 46 0 2 (by kernel_rfl) (by kernel_rfl) (by kernel_rfl) (by kernel_rfl)
 ·clear G; replace G:=hj6; clear hj6
  refine qg qd H (.v 20 (vI a3) <|
 .v 14 (vI a3)<|.nil) [1,2,3,4,5,6,12,13,14,49,50,51,52,53,999999] fun u8 a w' H=>?_
  refine q6 ?_
  refine XP (fun m a w'=>∃ x9:Int,∃ x10:Int,∃ x11:Int,qS.l12 k0 a1 a2 a3 a4 a5 t3 m x9 x10 x11=some j6∧RL w 49 [(1,sS p_a1 a1.length c_a1),(2,sS p_a2 a2.length c_a2),(3,sI a3),(4,sI a4),(5,sI a5),(6,(sP ((u1 0).n 0) 0)),(12,(sP ((u1 1).n 0) 0)),(13,(sP ((u2 4).n 0) 0)),(14,sI x11),(49,qB qk 2 p_a1 c_a1 a1 qa),(50,qB qk 2 p_a2 c_a2 a2 qa),(51,.blk ((u1 0).n 0) [.func (.func 130) #[] #[],.func (.func 110) #[] #[],.func (.func 90) #[] #[],.func (.func 92) #[] #[],.func (.func 127) #[] #[],.func (.func 91) #[] #[],.func (.func 131) #[] #[],.func (.func 132) #[] #[],.func (.func 133) #[] #[]] 215),(52,.blk ((u1 1).n 0) [vI 0,vI 0] 46),(53,.blk ((u2 4).n 0) [vI x9,vI x10] 46),(999999,gk)] a w') k0 ⟨_,_,_,G,H.toM _⟩ ?_
  clear G H
  rintro (_ | k) a w' ⟨x9,x10,x11,G,H⟩
  ·exact absurd G (by unfold qS.l12; exact fun h=>by cases h)
  ·unfold qS.l12 at G
   refine qv ?_
   refine qg qd H (.v 21 (vI x11) <|
 .v 22 (vI a4) <|
 .v 23 (.bool (decide (x11≤a4)))<|.nil) [1,2,3,4,5,6,12,13,14,23,49,50,51,52,53,999999] fun u13 a w' H=>?_
   refine Qx H (decide (x11≤a4)) (fun c31=>?_) fun c31=>?_
   ·rw [if_pos c31] at G
    refine Qf ?_
    refine qv ?_
    refine q6 ?_
    refine qv ?_
    replace G:=gd G; obtain ⟨b15,G⟩:=G
    obtain ⟨t16,ht16,G⟩:=qP G
    have P17:=Xh (en:=qa) (l:=a1) (qj (H.at (K:=qB qk 2 p_a1 c_a1 a1 qa) 49 (by kernel_rfl))).2 qe
    replace G:=gd G; obtain ⟨b18,G⟩:=G
    obtain ⟨t19,ht19,G⟩:=qP G
    have P20:=Xh (en:=qa) (l:=a2) (qj (H.at (K:=qB qk 2 p_a2 c_a2 a2 qa) 50 (by kernel_rfl))).2 qe
    obtain ⟨t21,ht21,G⟩:=qP G
    refine Qt qd H (.v 26 (vP ((u1 0).n 0) 4) <|
 .cons [27] (qf (.func (.func 127) #[] #[]) 27 51 4 1 ((u1 0).n 0) [.func (.func 130) #[] #[],.func (.func 110) #[] #[],.func (.func 90) #[] #[],.func (.func 92) #[] #[],.func (.func 127) #[] #[],.func (.func 91) #[] #[],.func (.func 131) #[] #[],.func (.func 132) #[] #[],.func (.func 133) #[] #[]] 215) <|
 .v 28 (.slice p_a1 a1.length c_a1) <|
 .v 29 (vI x11) <|
 .cons [30] (qn (fun u14=>.pointer (some ⟨Xf p_a1,Xg p_a1+x11.toNat * 2,none⟩)) 30 (hv:=fun _ _=>qM (t:=48) (k:=.i64) (i:=x11) (p:=p_a1) (n:=a1.length) (cap:=c_a1) (x:=a1) P17 rfl b15 (by kernel_rfl))) <|
 .cons [31] (qG 49 (qB qk 2 p_a1 c_a1 a1 qa) (.agg #[vI t16.Lo,vI t16.Hi]) 31 fun _ w h=>Ym qa (qj h).2 qe ht16 0 2 [vI t16.Lo,vI t16.Hi]) <|
 .v 32 (.slice p_a2 a2.length c_a2) <|
 .v 33 (vI a5) <|
 .v 34 (vI x11) <|
 .v 35 (vI (qc (a5 - x11))) <|
 .cons [36] (qn (fun u14=>.pointer (some ⟨Xf p_a2,Xg p_a2+((qc (a5 - x11)).toNat) * 2,none⟩)) 36 (hv:=fun _ _=>qM (t:=48) (k:=.i64) (i:=qc (a5 - x11)) (p:=p_a2) (n:=a2.length) (cap:=c_a2) (x:=a2) P20 rfl b18 (by kernel_rfl))) <|
 .cons [37] (qG 50 (qB qk 2 p_a2 c_a2 a2 qa) (.agg #[vI t19.Lo,vI t19.Hi]) 37 fun _ w h=>Ym qa (qj h).2 qe ht19 0 2 [vI t19.Lo,vI t19.Hi]) <|
 .cons [38] (QX [999999] (fun u14=>[gk]) 127 _ _ 38 (fun u14 w hF=>Q9.calls t16 t19  t21 w  (QM hF.1) ht21)) <|
 .cons [15,54] (qs (fun b=>vP b 0) (fun u14=>[vI 0,vI 0]) 46 15 54) <|
 .cons [54] (QL (u':=fun u14=>[(54,.blk ((u14 13).n 0) [vI t21.Lo,vI t21.Hi] 46)]) (qW 54 0 (fun u14=>((u14 13).n 0)) (fun u14=>[vI 0,vI 0]) (fun u14=>[vI t21.Lo,vI t21.Hi]) 46) (fun _=>by kernel_rfl))<|.nil) [1,2,3,4,5,6,12,13,14,15,49,50,51,52,53,54,999999] fun u14 a w' H=>?_
    refine qv ?_
    obtain ⟨j24,hj24,G⟩:=qP G
    refine Xq (fun a w'=>RL w 49 [(1,sS p_a1 a1.length c_a1),(2,sS p_a2 a2.length c_a2),(3,sI a3),(4,sI a4),(5,sI a5),(6,(sP ((u1 0).n 0) 0)),(12,(sP ((u1 1).n 0) 0)),(13,(sP ((u2 4).n 0) 0)),(14,sI x11),(15,(sP ((u14 13).n 0) 0)),(49,qB qk 2 p_a1 c_a1 a1 qa),(50,qB qk 2 p_a2 c_a2 a2 qa),(51,.blk ((u1 0).n 0) [.func (.func 130) #[] #[],.func (.func 110) #[] #[],.func (.func 90) #[] #[],.func (.func 92) #[] #[],.func (.func 127) #[] #[],.func (.func 91) #[] #[],.func (.func 131) #[] #[],.func (.func 132) #[] #[],.func (.func 133) #[] #[]] 215),(52,.blk ((u1 1).n 0) [vI 0,vI 0] 46),(53,.blk ((u2 4).n 0) [vI x9,vI x10] 46),(54,.blk ((u14 13).n 0) [vI j24.1,vI j24.2] 46),(999999,gk)] a w') ?_ ?_
    ·clear H; intro a w' H
     refine Qt qd H (.cons [47] (qf (.agg #[vI j24.1,vI j24.2]) 47 54 0 2 ((u14 13).n 0) [vI j24.1,vI j24.2] 46) <|
 .cons [53] (Qa 53 0 ((u2 4).n 0) [vI x9,vI x10] [vI j24.1,vI j24.2] 46 [vI j24.1,vI j24.2])<|.nil) [1,2,3,4,5,6,12,13,14,49,50,51,52,53,999999] fun u25 a w' H=>?_
     refine Qt qd H (.v 24 (vI x11) <|
 .v 25 (vI (qc (x11+1))) <|
 .v 14 (vI (qc (x11+1)))<|.nil) [1,2,3,4,5,6,12,13,14,49,50,51,52,53,999999] fun u26 a w' H=>?_
     exact ⟨k,Nat.lt_succ_self k,_,_,_,G,H.toM _⟩
    ·clear G; replace G:=hj24; clear hj24
     refine qg qd H (.v 39 (vI x11) <|
 .v 40 (vI a3) <|
 .v 41 (.bool (decide (x11 > a3)))<|.nil) [1,2,3,4,5,6,12,13,14,15,41,49,50,51,52,53,54,999999] fun u27 a w' H=>?_
     refine Qx H (decide (x11 > a3)) (fun c30=>?_) fun c30=>?_
     ·rw [if_pos c30] at G
      obtain ⟨t29,ht29,G⟩:=qP G
      refine Qt qd H (.v 42 (vP ((u1 0).n 0) 2) <|
 .cons [43] (qf (.func (.func 90) #[] #[]) 43 51 2 1 ((u1 0).n 0) [.func (.func 130) #[] #[],.func (.func 110) #[] #[],.func (.func 90) #[] #[],.func (.func 92) #[] #[],.func (.func 127) #[] #[],.func (.func 91) #[] #[],.func (.func 131) #[] #[],.func (.func 132) #[] #[],.func (.func 133) #[] #[]] 215) <|
 .cons [44] (qf (.agg #[vI x9,vI x10]) 44 53 0 2 ((u2 4).n 0) [vI x9,vI x10] 46) <|
 .cons [45] (qf (.agg #[vI t21.Lo,vI t21.Hi]) 45 54 0 2 ((u14 13).n 0) [vI t21.Lo,vI t21.Hi] 46) <|
 .cons [46] (qq 90 _ _ 46 [] (fun u28 w _=>QU.calls (⟨x9,x10⟩:qb) t21  t29 w  ht29)) <|
 .cons [54] (Qa 54 0 ((u14 13).n 0) [vI t21.Lo,vI t21.Hi] [vI t29.Lo,vI t29.Hi] 46 [vI t29.Lo,vI t29.Hi])<|.nil) [1,2,3,4,5,6,12,13,14,15,49,50,51,52,53,54,999999] fun u28 a w' H=>?_
      obtain rfl:=sj G
      exact H.toM _
     ·rw [if_neg (nt c30)] at G
      refine Qf ?_
      obtain rfl:=sj G
      exact H.toM _
   ·rw [if_neg (nt c31)] at G
    refine Yk rfl ?_
    obtain rfl:=sj G
    exact H.toM _
theorem YW.calls (k0:Nat) (a0:List qb) (a1:List qb) (p_a0:Option Addr) (c_a0:Nat) (p_a1:Option Addr) (c_a1:Nat) (r:qb) (w:World) (hB:Xx [qB qk 2 p_a0 c_a0 a0 qa,qB qk 2 p_a1 c_a1 a1 qa,gk] w) (G:YW k0 a0 a1=some r) :
  Calls Tryz.prog 132 #[.slice p_a0 a0.length c_a0,.slice p_a1 a1.length c_a1] w fun e w'=>e = .returned (.agg #[vI r.Lo,vI r.Hi])∧Below w.heap.size w w':=by
 obtain ⟨fr,hfr⟩:∃ fr:Nat→Prop,∀ j,fr j:=⟨fun _=>True,fun _=>trivial⟩
 have hBf:∀ j,w.heap.size≤j→fr j:=fun j _=>hfr j
 refine QO (args:=[.slice p_a0 a0.length c_a0,.slice p_a1 a1.length c_a1]) 45 [(45,qB qk 2 p_a0 c_a0 a0 qa),(46,qB qk 2 p_a1 c_a1 a1 qa),(999999,gk)] (by
  intro x hx
  simp only [List.mem_cons,List.not_mem_nil,or_false] at hx
  rcases hx with rfl | rfl | rfl
  ·exact qy (qj hB.1) (fun _ _=>trivial) (by decide) _
  ·exact qy (qj hB.2.1) (fun _ _=>trivial) (by decide) _
  ·exact ⟨⟨_,_,rfl⟩,hB.2.2.1,Yl (QM hB.2.2.1)⟩) Tryz.func132 rfl (by kernel_rfl) (by kernel_rfl) fun a H=>?_
 unfold YW at G
 refine qg qd H (.cons [4,47] (qs (fun b=>vP b 0) (fun u1=>[vI 0,vI 0]) 46 4 47)<|.nil) [0,1,4,45,46,47,999999] fun u1 a w' H=>?_
 refine qg qd H (.v 9 (.slice p_a1 a1.length c_a1) <|
 .v 10 (vI (a1.length:Int)) <|
 .v 5 (vI (a1.length:Int))<|.nil) [0,1,4,5,45,46,47,999999] fun u2 a w' H=>?_
 refine qv ?_
 refine qg qd H (.v 11 (vI (a1.length:Int)) <|
 .v 12 (.bool ((a1.length:Int) == 0))<|.nil) [0,1,4,5,12,45,46,47,999999] fun u3 a w' H=>?_
 refine Qx H ((a1.length:Int) == 0) (fun c27=>?_) fun c27=>?_
 ·rw [if_pos c27] at G
  refine qv ?_
  refine qv ?_
  replace G:=gd G; obtain ⟨b5,G⟩:=G
  obtain ⟨t6,ht6,G⟩:=qP G
  obtain ⟨t7,ht7,G⟩:=qP G
  refine Qt qd H (.v 14 (.slice p_a0 a0.length c_a0) <|
 .cons [15] (qG 45 (qB qk 2 p_a0 c_a0 a0 qa) (.pointer (some ⟨Xf p_a0,Xg p_a0+((0:Int).toNat) * 2,none⟩)) 15 fun _ w h=>Jo 48 .i64 (0:Int) p_a0 a0.length c_a0 a0 qa (qj h).2 qe rfl b5) <|
 .cons [16] (qG 45 (qB qk 2 p_a0 c_a0 a0 qa) (.agg #[vI t6.Lo,vI t6.Hi]) 16 fun _ w h=>Ym qa (qj h).2 qe ht6 0 2 [vI t6.Lo,vI t6.Hi]) <|
 .cons [17] (qq 138 _ _ 17 [] (fun u4 w _=>Xe.calls k0 t6  t7 w  ht7)) <|
 .v 13 (.tuple #[.agg #[vI t7.1.Lo,vI t7.1.Hi],.bool t7.2]) <|
 .v 18 (.agg #[vI t7.1.Lo,vI t7.1.Hi]) <|
 .v 19 (.bool t7.2) <|
 .cons [6,48] (qs (fun b=>vP b 0) (fun u4=>[vI 0,vI 0]) 46 6 48) <|
 .cons [48] (QL (u':=fun u4=>[(48,.blk ((u4 7).n 0) [vI t7.1.Lo,vI t7.1.Hi] 46)]) (qW 48 0 (fun u4=>((u4 7).n 0)) (fun u4=>[vI 0,vI 0]) (fun u4=>[vI t7.1.Lo,vI t7.1.Hi]) 46) (fun _=>by kernel_rfl)) <|
 .v 7 (.bool t7.2)<|.nil) [0,4,6,45,47,48,999999] fun u4 a w' H=>?_
  refine qv ?_
  replace G:=gd G; obtain ⟨b9,G⟩:=G
  obtain ⟨t10,ht10,G⟩:=qP G
  refine Qt qd H (.v 20 (.slice p_a0 a0.length c_a0) <|
 .cons [21] (qG 45 (qB qk 2 p_a0 c_a0 a0 qa) (.pointer (some ⟨Xf p_a0,Xg p_a0+((0:Int).toNat) * 2,none⟩)) 21 fun _ w h=>Jo 48 .i64 (0:Int) p_a0 a0.length c_a0 a0 qa (qj h).2 qe rfl b9) <|
 .v 22 (.pointer (some ⟨Xf p_a0,Xg p_a0+((0:Int).toNat) * 2+0,none⟩)) <|
 .cons [23] (qG 45 (qB qk 2 p_a0 c_a0 a0 qa) (vI t10.Lo) 23 fun _ w h=>Ym qa (qj h).2 qe ht10 0 1 [vI t10.Lo]) <|
 .v 24 (.bool (decide (t10.Lo ≥ 0)))<|.nil) [4,6,24,47,48,999999] fun u8 a w' H=>?_
  refine Qx H (decide (t10.Lo ≥ 0)) (fun c14=>?_) fun c14=>?_
  ·rw [if_pos c14] at G
   refine qg qd H (.cons [25] (qf (.agg #[vI t7.1.Lo,vI t7.1.Hi]) 25 48 0 2 ((u4 7).n 0) [vI t7.1.Lo,vI t7.1.Hi] 46) <|
 .cons [47] (Qa 47 0 ((u1 0).n 0) [vI 0,vI 0] [vI t7.1.Lo,vI t7.1.Hi] 46 [vI t7.1.Lo,vI t7.1.Hi])<|.nil) [4,47,999999] fun u11 a w' H=>?_
   refine qF ?_
   obtain rfl:=sj G
   exact Qj H _ 47 ((u1 0).n 0) [vI t7.1.Lo,vI t7.1.Hi] 46 0 2 (by kernel_rfl) (by kernel_rfl) (by kernel_rfl) (by kernel_rfl)
  ·rw [if_neg (nt c14)] at G
   refine Qf ?_
   obtain ⟨t13,ht13,G⟩:=qP G
   refine qg qd H (.cons [26] (qq 48 _ _ 26 [] (fun u12 w _=>QT.calls   t13 w  ht13)) <|
 .cons [47] (Qa 47 0 ((u1 0).n 0) [vI 0,vI 0] [vI t13.Lo,vI t13.Hi] 46 [vI t13.Lo,vI t13.Hi])<|.nil) [4,47,999999] fun u12 a w' H=>?_
   refine qF ?_
   obtain rfl:=sj G
   exact Qj H _ 47 ((u1 0).n 0) [vI t13.Lo,vI t13.Hi] 46 0 2 (by kernel_rfl) (by kernel_rfl) (by kernel_rfl) (by kernel_rfl)
 ·rw [if_neg (nt c27)] at G
  refine Qf ?_
  obtain ⟨t16,ht16,G⟩:=qP G
  refine qg qd H (.cons [27] (qq 120 _ _ 27 [] (fun u15 w _=>series_intervals.calls w)) <|
 .v 28 (.slice p_a1 a1.length c_a1) <|
 .v 29 (.slice p_a1 a1.length c_a1) <|
 .v 30 (vI (a1.length:Int)) <|
 .v 31 (vI (qc ((a1.length:Int) - 1))) <|
 .v 32 (vI (a1.length:Int)) <|
 .cons [33] (QX [46,999999] (fun u15=>[qB qk 2 p_a1 c_a1 a1 qa,gk]) 139 _ _ 33 (fun u15 w hF=>qS.calls k0 a1 a1 1 (qc ((a1.length:Int) - 1)) (a1.length:Int) p_a1 c_a1 p_a1 c_a1 t16 w  ⟨(Z9 (qj hF.1)),(Z9 (qj hF.1)),hF.2.1,trivial⟩ ht16)) <|
 .cons [8,49] (qs (fun b=>vP b 0) (fun u15=>[vI 0,vI 0]) 46 8 49) <|
 .cons [49] (QL (u':=fun u15=>[(49,.blk ((u15 7).n 0) [vI t16.Lo,vI t16.Hi] 46)]) (qW 49 0 (fun u15=>((u15 7).n 0)) (fun u15=>[vI 0,vI 0]) (fun u15=>[vI t16.Lo,vI t16.Hi]) 46) (fun _=>by kernel_rfl))<|.nil) [0,1,4,5,8,45,46,47,49,999999] fun u15 a w' H=>?_
  refine qv ?_
  replace G:=gd G; obtain ⟨b18,G⟩:=G
  obtain ⟨t19,ht19,G⟩:=qP G
  have P20:=Xh (en:=qa) (l:=a0) (qj (H.at (K:=qB qk 2 p_a0 c_a0 a0 qa) 45 (by kernel_rfl))).2 qe
  obtain ⟨t21,ht21,G⟩:=qP G
  replace G:=gd G; obtain ⟨b22,G⟩:=G
  obtain ⟨t23,ht23,G⟩:=qP G
  have P24:=Xh (en:=qa) (l:=a1) (qj (H.at (K:=qB qk 2 p_a1 c_a1 a1 qa) 46 (by kernel_rfl))).2 qe
  obtain ⟨t25,ht25,G⟩:=qP G
  obtain ⟨t26,ht26,G⟩:=qP G
  refine Qt qd H (.v 34 (.slice p_a0 a0.length c_a0) <|
 .v 35 (vI (a1.length:Int)) <|
 .cons [36] (qn (fun u17=>.pointer (some ⟨Xf p_a0,Xg p_a0+((a1.length:Int).toNat) * 2,none⟩)) 36 (hv:=fun _ _=>qM (t:=48) (k:=.i64) (i:=(a1.length:Int)) (p:=p_a0) (n:=a0.length) (cap:=c_a0) (x:=a0) P20 rfl b18 (by kernel_rfl))) <|
 .cons [37] (qG 45 (qB qk 2 p_a0 c_a0 a0 qa) (.agg #[vI t19.Lo,vI t19.Hi]) 37 fun _ w h=>Ym qa (qj h).2 qe ht19 0 2 [vI t19.Lo,vI t19.Hi]) <|
 .cons [38] (qf (.agg #[vI t16.Lo,vI t16.Hi]) 38 49 0 2 ((u15 7).n 0) [vI t16.Lo,vI t16.Hi] 46) <|
 .cons [39] (qq 92 _ _ 39 [] (fun u17 w _=>Xj.calls t19 t16  t21 w  ht21)) <|
 .v 40 (.slice p_a1 a1.length c_a1) <|
 .cons [41] (qn (fun u17=>.pointer (some ⟨Xf p_a1,Xg p_a1+((0:Int).toNat) * 2,none⟩)) 41 (hv:=fun _ _=>qM (t:=48) (k:=.i64) (i:=(0:Int)) (p:=p_a1) (n:=a1.length) (cap:=c_a1) (x:=a1) P24 rfl b22 (by kernel_rfl))) <|
 .cons [42] (qG 46 (qB qk 2 p_a1 c_a1 a1 qa) (.agg #[vI t23.Lo,vI t23.Hi]) 42 fun _ w h=>Ym qa (qj h).2 qe ht23 0 2 [vI t23.Lo,vI t23.Hi]) <|
 .cons [43] (qq 134 _ _ 43 [] (fun u17 w _=>XY.calls t23 2 1  t25 w  ht25)) <|
 .cons [44] (QX [999999] (fun u17=>[gk]) 137 _ _ 44 (fun u17 w hF=>QY.calls t21 t25  t26 w  (QM hF.1) ht26)) <|
 .cons [47] (Qa 47 0 ((u1 0).n 0) [vI 0,vI 0] [vI t26.Lo,vI t26.Hi] 46 [vI t26.Lo,vI t26.Hi])<|.nil) [4,47,999999] fun u17 a w' H=>?_
  refine qF ?_
  obtain rfl:=sj G
  exact Qj H _ 47 ((u1 0).n 0) [vI t26.Lo,vI t26.Hi] 46 0 2 (by kernel_rfl) (by kernel_rfl) (by kernel_rfl) (by kernel_rfl)
theorem Yp.calls (a0:qb) (a1:Int) (r:qb) (w:World) (G:Yp a0 a1=some r) :
  Calls Tryz.prog 133 #[.agg #[vI a0.Lo,vI a0.Hi],vI a1] w fun e w'=>e = .returned (.agg #[vI r.Lo,vI r.Hi])∧Below w.heap.size w w':=by
 refine QD (args:=[.agg #[vI a0.Lo,vI a0.Hi],vI a1]) 8 Tryz.func133 rfl (by kernel_rfl) (by kernel_rfl) fun a H=>?_
 unfold Yp at G
 refine qg qd H (.cons [2,8] (qs (fun b=>vP b 0) (fun u1=>[vI a0.Lo,vI a0.Hi]) 46 2 8) <|
 .cons [4,9] (qs (fun b=>vP b 0) (fun u1=>[vI 0,vI 0]) 46 4 9)<|.nil) [1,2,4,8,9] fun u1 a w' H=>?_
 obtain ⟨t3,ht3,G⟩:=qP G
 refine qg qd H (.cons [5] (qf (.agg #[vI a0.Lo,vI a0.Hi]) 5 8 0 2 ((u1 0).n 0) [vI a0.Lo,vI a0.Hi] 46) <|
 .v 6 (vI a1) <|
 .cons [7] (qq 134 _ _ 7 [] (fun u2 w _=>XY.calls a0 1 a1  t3 w  ht3)) <|
 .cons [9] (Qa 9 0 ((u1 1).n 0) [vI 0,vI 0] [vI t3.Lo,vI t3.Hi] 46 [vI t3.Lo,vI t3.Hi])<|.nil) [4,9] fun u2 a w' H=>?_
 refine qF ?_
 obtain rfl:=sj G
 exact Qj H _ 9 ((u1 1).n 0) [vI t3.Lo,vI t3.Hi] 46 0 2 (by kernel_rfl) (by kernel_rfl) (by kernel_rfl) (by kernel_rfl)
theorem Jh.calls (r:qb) (w:World) (G:Jh=some r) :
  Calls Tryz.prog 142 #[] w fun e w'=>e = .returned (.agg #[vI r.Lo,vI r.Hi])∧Below w.heap.size w w':=by
 refine QD (args:=[]) 2 Tryz.func142 rfl (by kernel_rfl) (by kernel_rfl) fun a H=>?_
 unfold Jh at G
 refine qg qd H (.cons [0,2] (qs (fun b=>vP b 0) (fun u1=>[vI 0,vI 0]) 46 0 2)<|.nil) [0,2] fun u1 a w' H=>?_
 obtain ⟨t3,ht3,G⟩:=qP G
 refine qg qd H (.cons [1] (qq 46 _ _ 1 [] (fun u2 w _=>Yz.calls 65536  t3 w  ht3)) <|
 .cons [2] (Qa 2 0 ((u1 0).n 0) [vI 0,vI 0] [vI t3.Lo,vI t3.Hi] 46 [vI t3.Lo,vI t3.Hi])<|.nil) [0,2] fun u2 a w' H=>?_
 refine qF ?_
 obtain rfl:=sj G
 exact Qj H _ 2 ((u1 0).n 0) [vI t3.Lo,vI t3.Hi] 46 0 2 (by kernel_rfl) (by kernel_rfl) (by kernel_rfl) (by kernel_rfl)
theorem Xv.calls (k0:Nat) (a1:qh) (a2:List (List qb)) (a3:List qb) (a4:qb) (p_a2:Option Addr) (c_a2:Nat) (L_a2:List (Sl qb)) (p_a3:Option Addr) (c_a3:Nat) (r:qb) (w:World) (h_a2:a2=L_a2.map Sl.l) (hB:Xx [qB qk 1 p_a2 c_a2 L_a2 Qs,X7 qk Qd.toPart L_a2,qB qk 2 p_a3 c_a3 a3 qa,gk] w) (G:Xv k0 a1 a2 a3 a4=some r) :
  Calls Tryz.prog 135 #[.agg #[.func (.func 130) #[] #[],.func (.func 110) #[] #[],.func (.func 90) #[] #[],.func (.func 92) #[] #[],.func (.func 127) #[] #[],.func (.func 91) #[] #[],.func (.func 131) #[] #[],.func (.func 132) #[] #[],.func (.func 133) #[] #[]],.agg #[vI a1.Op,vI a1.A,vI a1.B,vI a1.C.Lo,vI a1.C.Hi],.slice p_a2 L_a2.length c_a2,.slice p_a3 a3.length c_a3,.agg #[vI a4.Lo,vI a4.Hi]] w fun e w'=>e = .returned (.agg #[vI r.Lo,vI r.Hi])∧Below w.heap.size w w':=by
 obtain ⟨fr,hfr⟩:∃ fr:Nat→Prop,∀ j,fr j:=⟨fun _=>True,fun _=>trivial⟩
 have hBf:∀ j,w.heap.size≤j→fr j:=fun j _=>hfr j
 refine QO (args:=[.agg #[.func (.func 130) #[] #[],.func (.func 110) #[] #[],.func (.func 90) #[] #[],.func (.func 92) #[] #[],.func (.func 127) #[] #[],.func (.func 91) #[] #[],.func (.func 131) #[] #[],.func (.func 132) #[] #[],.func (.func 133) #[] #[]],.agg #[vI a1.Op,vI a1.A,vI a1.B,vI a1.C.Lo,vI a1.C.Hi],.slice p_a2 L_a2.length c_a2,.slice p_a3 a3.length c_a3,.agg #[vI a4.Lo,vI a4.Hi]]) 175 [(175,qB qk 1 p_a2 c_a2 L_a2 Qs),(176,X7 qk Qd.toPart L_a2),(177,qB qk 2 p_a3 c_a3 a3 qa),(999999,gk)] (by
  intro x hx
  simp only [List.mem_cons,List.not_mem_nil,or_false] at hx
  rcases hx with rfl | rfl | rfl | rfl
  ·exact qy (qj hB.1) (fun _ _=>trivial) (by decide) _
  ·exact ZQ (Xl hB.2.1) (fun _ _=>trivial) _
  ·exact qy (qj hB.2.2.1) (fun _ _=>trivial) (by decide) _
  ·exact ⟨⟨_,_,rfl⟩,hB.2.2.2.1,Yl (QM hB.2.2.2.1)⟩) Tryz.func135 rfl (by kernel_rfl) (by kernel_rfl) fun a H=>?_
 unfold Xv at G
 refine qg qd H (.cons [5,178] (qs (fun b=>vP b 0) (fun u1=>[.func (.func 130) #[] #[],.func (.func 110) #[] #[],.func (.func 90) #[] #[],.func (.func 92) #[] #[],.func (.func 127) #[] #[],.func (.func 91) #[] #[],.func (.func 131) #[] #[],.func (.func 132) #[] #[],.func (.func 133) #[] #[]]) 215 5 178) <|
 .cons [6,179] (qs (fun b=>vP b 0) (fun u1=>[vI a1.Op,vI a1.A,vI a1.B,vI a1.C.Lo,vI a1.C.Hi]) 110 6 179) <|
 .cons [9,180] (qs (fun b=>vP b 0) (fun u1=>[vI a4.Lo,vI a4.Hi]) 46 9 180) <|
 .cons [10,181] (qs (fun b=>vP b 0) (fun u1=>[vI 0,vI 0]) 46 10 181)<|.nil) [2,3,5,6,9,10,175,176,177,178,179,180,181,999999] fun u1 a w' H=>?_
 refine qg qd H (.v 13 (.slice p_a3 a3.length c_a3) <|
 .v 14 (vI (a3.length:Int)) <|
 .v 11 (vI (a3.length:Int))<|.nil) [2,3,5,6,9,10,11,175,176,177,178,179,180,181,999999] fun u2 a w' H=>?_
 refine qv ?_
 refine qg qd H (.v 15 (vP ((u1 1).n 0) 0) <|
 .cons [16] (qf (vI a1.Op) 16 179 0 1 ((u1 1).n 0) [vI a1.Op,vI a1.A,vI a1.B,vI a1.C.Lo,vI a1.C.Hi] 110)<|.nil) [2,3,5,6,9,10,11,16,175,176,177,178,179,180,181,999999] fun u3 a w' H=>?_
 refine q6 ?_
 refine qg qd H (.v 18 (.bool (a1.Op == 4)) <|
 .v 17 (.bool (a1.Op == 4))<|.nil) [2,3,5,6,9,10,11,16,17,175,176,177,178,179,180,181,999999] fun u4 a w' H=>?_
 refine Qx H (a1.Op == 4) (fun c97=>?_) fun c97=>?_
 ·rw [if_pos c97] at G
  refine qv ?_
  replace G:=gd G; obtain ⟨b6,G⟩:=G
  obtain ⟨t7,ht7,G⟩:=qP G
  obtain ⟨p_t7,c_t7,y_t7⟩:=Yf h_a2 ht7
  have P8:=Xh (en:=Qs) (l:=L_a2) (qj (H.at (K:=qB qk 1 p_a2 c_a2 L_a2 Qs) 175 (by kernel_rfl))).2 qR
  replace G:=gd G; obtain ⟨b9,G⟩:=G
  obtain ⟨t10,ht10,G⟩:=qP G
  obtain ⟨t11,ht11,G⟩:=qP G
  refine Qt qd H (.v 19 (vP ((u1 0).n 0) 1) <|
 .cons [20] (qf (.func (.func 110) #[] #[]) 20 178 1 1 ((u1 0).n 0) [.func (.func 130) #[] #[],.func (.func 110) #[] #[],.func (.func 90) #[] #[],.func (.func 92) #[] #[],.func (.func 127) #[] #[],.func (.func 91) #[] #[],.func (.func 131) #[] #[],.func (.func 132) #[] #[],.func (.func 133) #[] #[]] 215) <|
 .v 21 (.slice p_a2 L_a2.length c_a2) <|
 .v 22 (vP ((u1 1).n 0) 1) <|
 .cons [23] (qf (vI a1.A) 23 179 1 1 ((u1 1).n 0) [vI a1.Op,vI a1.A,vI a1.B,vI a1.C.Lo,vI a1.C.Hi] 110) <|
 .cons [24] (qn (fun u5=>.pointer (some ⟨Xf p_a2,Xg p_a2+a1.A.toNat * 1,none⟩)) 24 (hv:=fun _ _=>qM (t:=195) (k:=.i64) (i:=a1.A) (p:=p_a2) (n:=L_a2.length) (cap:=c_a2) (x:=a2) P8 (qT h_a2) b6 (by kernel_rfl))) <|
 .cons [25] (qG 175 (qB qk 1 p_a2 c_a2 L_a2 Qs) (.slice p_t7 t7.length c_t7) 25 fun _ w h=>Ym Qs (qj h).2 qR y_t7 0 1 [.slice p_t7 t7.length c_t7]) <|
 .v 26 (vI (a3.length:Int)) <|
 .cons [27] (qG 176 (X7 qk Qd.toPart L_a2) (.pointer (some ⟨Xf p_t7,Xg p_t7+((a3.length:Int).toNat) * 2,none⟩)) 27 fun _ w h=>Jo 48 .i64 (a3.length:Int) p_t7 t7.length c_t7 t7 qa (show XO _ 2 p_t7 t7.length c_t7 (t7.flatMap qa) from ((Xl h) _ (List.mem_of_getElem? y_t7)).1).2 qe rfl b9) <|
 .cons [28] (qG 176 (X7 qk Qd.toPart L_a2) (.agg #[vI t10.Lo,vI t10.Hi]) 28 fun _ w h=>Ym qa (show XO _ 2 p_t7 t7.length c_t7 (t7.flatMap qa) from ((Xl h) _ (List.mem_of_getElem? y_t7)).1).2 qe ht10 0 2 [vI t10.Lo,vI t10.Hi]) <|
 .cons [29] (qq 110 _ _ 29 [] (fun u5 w _=>XQ.calls t10  t11 w  ht11)) <|
 .cons [181] (Qa 181 0 ((u1 3).n 0) [vI 0,vI 0] [vI t11.Lo,vI t11.Hi] 46 [vI t11.Lo,vI t11.Hi])<|.nil) [10,181,999999] fun u5 a w' H=>?_
  refine qF ?_
  obtain rfl:=sj G
  exact Qj H _ 181 ((u1 3).n 0) [vI t11.Lo,vI t11.Hi] 46 0 2 (by kernel_rfl) (by kernel_rfl) (by kernel_rfl) (by kernel_rfl)
 ·rw [if_neg (nt c97)] at G
  refine qg qd H (.v 31 (.bool (a1.Op == 7)) <|
 .v 30 (.bool (a1.Op == 7))<|.nil) [2,3,5,6,9,10,11,16,30,175,176,177,178,179,180,181,999999] fun u12 a w' H=>?_
  refine Qx H (a1.Op == 7) (fun c96=>?_) fun c96=>?_
  ·rw [if_pos c96] at G
   refine qv ?_
   replace G:=gd G; obtain ⟨b14,G⟩:=G
   obtain ⟨t15,ht15,G⟩:=qP G
   obtain ⟨p_t15,c_t15,y_t15⟩:=Yf h_a2 ht15
   have P16:=Xh (en:=Qs) (l:=L_a2) (qj (H.at (K:=qB qk 1 p_a2 c_a2 L_a2 Qs) 175 (by kernel_rfl))).2 qR
   replace G:=gd G; obtain ⟨b17,G⟩:=G
   obtain ⟨t18,ht18,G⟩:=qP G
   replace G:=gd G; obtain ⟨b19,G⟩:=G
   obtain ⟨t20,ht20,G⟩:=qP G
   obtain ⟨p_t20,c_t20,y_t20⟩:=Yf h_a2 ht20
   replace G:=gd G; obtain ⟨b21,G⟩:=G
   obtain ⟨t22,ht22,G⟩:=qP G
   obtain ⟨t23,ht23,G⟩:=qP G
   refine Qt qd H (.v 32 (vP ((u1 0).n 0) 2) <|
 .cons [33] (qf (.func (.func 90) #[] #[]) 33 178 2 1 ((u1 0).n 0) [.func (.func 130) #[] #[],.func (.func 110) #[] #[],.func (.func 90) #[] #[],.func (.func 92) #[] #[],.func (.func 127) #[] #[],.func (.func 91) #[] #[],.func (.func 131) #[] #[],.func (.func 132) #[] #[],.func (.func 133) #[] #[]] 215) <|
 .v 34 (.slice p_a2 L_a2.length c_a2) <|
 .v 35 (vP ((u1 1).n 0) 1) <|
 .cons [36] (qf (vI a1.A) 36 179 1 1 ((u1 1).n 0) [vI a1.Op,vI a1.A,vI a1.B,vI a1.C.Lo,vI a1.C.Hi] 110) <|
 .cons [37] (qn (fun u13=>.pointer (some ⟨Xf p_a2,Xg p_a2+a1.A.toNat * 1,none⟩)) 37 (hv:=fun _ _=>qM (t:=195) (k:=.i64) (i:=a1.A) (p:=p_a2) (n:=L_a2.length) (cap:=c_a2) (x:=a2) P16 (qT h_a2) b14 (by kernel_rfl))) <|
 .cons [38] (qG 175 (qB qk 1 p_a2 c_a2 L_a2 Qs) (.slice p_t15 t15.length c_t15) 38 fun _ w h=>Ym Qs (qj h).2 qR y_t15 0 1 [.slice p_t15 t15.length c_t15]) <|
 .v 39 (vI (a3.length:Int)) <|
 .cons [40] (qG 176 (X7 qk Qd.toPart L_a2) (.pointer (some ⟨Xf p_t15,Xg p_t15+((a3.length:Int).toNat) * 2,none⟩)) 40 fun _ w h=>Jo 48 .i64 (a3.length:Int) p_t15 t15.length c_t15 t15 qa (show XO _ 2 p_t15 t15.length c_t15 (t15.flatMap qa) from ((Xl h) _ (List.mem_of_getElem? y_t15)).1).2 qe rfl b17) <|
 .cons [41] (qG 176 (X7 qk Qd.toPart L_a2) (.agg #[vI t18.Lo,vI t18.Hi]) 41 fun _ w h=>Ym qa (show XO _ 2 p_t15 t15.length c_t15 (t15.flatMap qa) from ((Xl h) _ (List.mem_of_getElem? y_t15)).1).2 qe ht18 0 2 [vI t18.Lo,vI t18.Hi]) <|
 .v 42 (.slice p_a2 L_a2.length c_a2) <|
 .v 43 (vP ((u1 1).n 0) 2) <|
 .cons [44] (qf (vI a1.B) 44 179 2 1 ((u1 1).n 0) [vI a1.Op,vI a1.A,vI a1.B,vI a1.C.Lo,vI a1.C.Hi] 110) <|
 .cons [45] (qn (fun u13=>.pointer (some ⟨Xf p_a2,Xg p_a2+a1.B.toNat * 1,none⟩)) 45 (hv:=fun _ _=>qM (t:=195) (k:=.i64) (i:=a1.B) (p:=p_a2) (n:=L_a2.length) (cap:=c_a2) (x:=a2) P16 (qT h_a2) b19 (by kernel_rfl))) <|
 .cons [46] (qG 175 (qB qk 1 p_a2 c_a2 L_a2 Qs) (.slice p_t20 t20.length c_t20) 46 fun _ w h=>Ym Qs (qj h).2 qR y_t20 0 1 [.slice p_t20 t20.length c_t20]) <|
 .v 47 (vI (a3.length:Int)) <|
 .cons [48] (qG 176 (X7 qk Qd.toPart L_a2) (.pointer (some ⟨Xf p_t20,Xg p_t20+((a3.length:Int).toNat) * 2,none⟩)) 48 fun _ w h=>Jo 48 .i64 (a3.length:Int) p_t20 t20.length c_t20 t20 qa (show XO _ 2 p_t20 t20.length c_t20 (t20.flatMap qa) from ((Xl h) _ (List.mem_of_getElem? y_t20)).1).2 qe rfl b21) <|
 .cons [49] (qG 176 (X7 qk Qd.toPart L_a2) (.agg #[vI t22.Lo,vI t22.Hi]) 49 fun _ w h=>Ym qa (show XO _ 2 p_t20 t20.length c_t20 (t20.flatMap qa) from ((Xl h) _ (List.mem_of_getElem? y_t20)).1).2 qe ht22 0 2 [vI t22.Lo,vI t22.Hi]) <|
 .cons [50] (qq 90 _ _ 50 [] (fun u13 w _=>QU.calls t18 t22  t23 w  ht23)) <|
 .cons [181] (Qa 181 0 ((u1 3).n 0) [vI 0,vI 0] [vI t23.Lo,vI t23.Hi] 46 [vI t23.Lo,vI t23.Hi])<|.nil) [10,181,999999] fun u13 a w' H=>?_
   refine qF ?_
   obtain rfl:=sj G
   exact Qj H _ 181 ((u1 3).n 0) [vI t23.Lo,vI t23.Hi] 46 0 2 (by kernel_rfl) (by kernel_rfl) (by kernel_rfl) (by kernel_rfl)
  ·rw [if_neg (nt c96)] at G
   refine qg qd H (.v 52 (.bool (a1.Op == 8)) <|
 .v 51 (.bool (a1.Op == 8))<|.nil) [2,3,5,6,9,10,11,16,51,175,176,177,178,179,180,181,999999] fun u24 a w' H=>?_
   refine Qx H (a1.Op == 8) (fun c95=>?_) fun c95=>?_
   ·rw [if_pos c95] at G
    refine qv ?_
    replace G:=gd G; obtain ⟨b26,G⟩:=G
    obtain ⟨t27,ht27,G⟩:=qP G
    obtain ⟨p_t27,c_t27,y_t27⟩:=Yf h_a2 ht27
    have P28:=Xh (en:=Qs) (l:=L_a2) (qj (H.at (K:=qB qk 1 p_a2 c_a2 L_a2 Qs) 175 (by kernel_rfl))).2 qR
    replace G:=gd G; obtain ⟨b29,G⟩:=G
    obtain ⟨t30,ht30,G⟩:=qP G
    replace G:=gd G; obtain ⟨b31,G⟩:=G
    obtain ⟨t32,ht32,G⟩:=qP G
    obtain ⟨p_t32,c_t32,y_t32⟩:=Yf h_a2 ht32
    replace G:=gd G; obtain ⟨b33,G⟩:=G
    obtain ⟨t34,ht34,G⟩:=qP G
    obtain ⟨t35,ht35,G⟩:=qP G
    refine Qt qd H (.v 53 (vP ((u1 0).n 0) 3) <|
 .cons [54] (qf (.func (.func 92) #[] #[]) 54 178 3 1 ((u1 0).n 0) [.func (.func 130) #[] #[],.func (.func 110) #[] #[],.func (.func 90) #[] #[],.func (.func 92) #[] #[],.func (.func 127) #[] #[],.func (.func 91) #[] #[],.func (.func 131) #[] #[],.func (.func 132) #[] #[],.func (.func 133) #[] #[]] 215) <|
 .v 55 (.slice p_a2 L_a2.length c_a2) <|
 .v 56 (vP ((u1 1).n 0) 1) <|
 .cons [57] (qf (vI a1.A) 57 179 1 1 ((u1 1).n 0) [vI a1.Op,vI a1.A,vI a1.B,vI a1.C.Lo,vI a1.C.Hi] 110) <|
 .cons [58] (qn (fun u25=>.pointer (some ⟨Xf p_a2,Xg p_a2+a1.A.toNat * 1,none⟩)) 58 (hv:=fun _ _=>qM (t:=195) (k:=.i64) (i:=a1.A) (p:=p_a2) (n:=L_a2.length) (cap:=c_a2) (x:=a2) P28 (qT h_a2) b26 (by kernel_rfl))) <|
 .cons [59] (qG 175 (qB qk 1 p_a2 c_a2 L_a2 Qs) (.slice p_t27 t27.length c_t27) 59 fun _ w h=>Ym Qs (qj h).2 qR y_t27 0 1 [.slice p_t27 t27.length c_t27]) <|
 .v 60 (vI (a3.length:Int)) <|
 .cons [61] (qG 176 (X7 qk Qd.toPart L_a2) (.pointer (some ⟨Xf p_t27,Xg p_t27+((a3.length:Int).toNat) * 2,none⟩)) 61 fun _ w h=>Jo 48 .i64 (a3.length:Int) p_t27 t27.length c_t27 t27 qa (show XO _ 2 p_t27 t27.length c_t27 (t27.flatMap qa) from ((Xl h) _ (List.mem_of_getElem? y_t27)).1).2 qe rfl b29) <|
 .cons [62] (qG 176 (X7 qk Qd.toPart L_a2) (.agg #[vI t30.Lo,vI t30.Hi]) 62 fun _ w h=>Ym qa (show XO _ 2 p_t27 t27.length c_t27 (t27.flatMap qa) from ((Xl h) _ (List.mem_of_getElem? y_t27)).1).2 qe ht30 0 2 [vI t30.Lo,vI t30.Hi]) <|
 .v 63 (.slice p_a2 L_a2.length c_a2) <|
 .v 64 (vP ((u1 1).n 0) 2) <|
 .cons [65] (qf (vI a1.B) 65 179 2 1 ((u1 1).n 0) [vI a1.Op,vI a1.A,vI a1.B,vI a1.C.Lo,vI a1.C.Hi] 110) <|
 .cons [66] (qn (fun u25=>.pointer (some ⟨Xf p_a2,Xg p_a2+a1.B.toNat * 1,none⟩)) 66 (hv:=fun _ _=>qM (t:=195) (k:=.i64) (i:=a1.B) (p:=p_a2) (n:=L_a2.length) (cap:=c_a2) (x:=a2) P28 (qT h_a2) b31 (by kernel_rfl))) <|
 .cons [67] (qG 175 (qB qk 1 p_a2 c_a2 L_a2 Qs) (.slice p_t32 t32.length c_t32) 67 fun _ w h=>Ym Qs (qj h).2 qR y_t32 0 1 [.slice p_t32 t32.length c_t32]) <|
 .v 68 (vI (a3.length:Int)) <|
 .cons [69] (qG 176 (X7 qk Qd.toPart L_a2) (.pointer (some ⟨Xf p_t32,Xg p_t32+((a3.length:Int).toNat) * 2,none⟩)) 69 fun _ w h=>Jo 48 .i64 (a3.length:Int) p_t32 t32.length c_t32 t32 qa (show XO _ 2 p_t32 t32.length c_t32 (t32.flatMap qa) from ((Xl h) _ (List.mem_of_getElem? y_t32)).1).2 qe rfl b33) <|
 .cons [70] (qG 176 (X7 qk Qd.toPart L_a2) (.agg #[vI t34.Lo,vI t34.Hi]) 70 fun _ w h=>Ym qa (show XO _ 2 p_t32 t32.length c_t32 (t32.flatMap qa) from ((Xl h) _ (List.mem_of_getElem? y_t32)).1).2 qe ht34 0 2 [vI t34.Lo,vI t34.Hi]) <|
 .cons [71] (qq 92 _ _ 71 [] (fun u25 w _=>Xj.calls t30 t34  t35 w  ht35)) <|
 .cons [181] (Qa 181 0 ((u1 3).n 0) [vI 0,vI 0] [vI t35.Lo,vI t35.Hi] 46 [vI t35.Lo,vI t35.Hi])<|.nil) [10,181,999999] fun u25 a w' H=>?_
    refine qF ?_
    obtain rfl:=sj G
    exact Qj H _ 181 ((u1 3).n 0) [vI t35.Lo,vI t35.Hi] 46 0 2 (by kernel_rfl) (by kernel_rfl) (by kernel_rfl) (by kernel_rfl)
   ·rw [if_neg (nt c95)] at G
    refine qg qd H (.v 73 (.bool (a1.Op == 9)) <|
 .v 72 (.bool (a1.Op == 9))<|.nil) [2,3,5,6,9,10,11,16,72,175,176,177,178,179,180,181,999999] fun u36 a w' H=>?_
    refine Qx H (a1.Op == 9) (fun c94=>?_) fun c94=>?_
    ·rw [if_pos c94] at G
     refine qv ?_
     replace G:=gd G; obtain ⟨b38,G⟩:=G
     obtain ⟨t39,ht39,G⟩:=qP G
     obtain ⟨p_t39,c_t39,y_t39⟩:=Yf h_a2 ht39
     have P40:=Xh (en:=Qs) (l:=L_a2) (qj (H.at (K:=qB qk 1 p_a2 c_a2 L_a2 Qs) 175 (by kernel_rfl))).2 qR
     replace G:=gd G; obtain ⟨b41,G⟩:=G
     obtain ⟨t42,ht42,G⟩:=qP G
     obtain ⟨p_t42,c_t42,y_t42⟩:=Yf h_a2 ht42
     obtain ⟨t43,ht43,G⟩:=qP G
     refine ZC qd H (.cons [74] (qf (.agg #[.func (.func 130) #[] #[],.func (.func 110) #[] #[],.func (.func 90) #[] #[],.func (.func 92) #[] #[],.func (.func 127) #[] #[],.func (.func 91) #[] #[],.func (.func 131) #[] #[],.func (.func 132) #[] #[],.func (.func 133) #[] #[]]) 74 178 0 9 ((u1 0).n 0) [.func (.func 130) #[] #[],.func (.func 110) #[] #[],.func (.func 90) #[] #[],.func (.func 92) #[] #[],.func (.func 127) #[] #[],.func (.func 91) #[] #[],.func (.func 131) #[] #[],.func (.func 132) #[] #[],.func (.func 133) #[] #[]] 215) <|
 .v 75 (.slice p_a2 L_a2.length c_a2) <|
 .v 76 (vP ((u1 1).n 0) 1) <|
 .cons [77] (qf (vI a1.A) 77 179 1 1 ((u1 1).n 0) [vI a1.Op,vI a1.A,vI a1.B,vI a1.C.Lo,vI a1.C.Hi] 110) <|
 .cons [78] (qn (fun u37=>.pointer (some ⟨Xf p_a2,Xg p_a2+a1.A.toNat * 1,none⟩)) 78 (hv:=fun _ _=>qM (t:=195) (k:=.i64) (i:=a1.A) (p:=p_a2) (n:=L_a2.length) (cap:=c_a2) (x:=a2) P40 (qT h_a2) b38 (by kernel_rfl))) <|
 .cons [79] (qG 175 (qB qk 1 p_a2 c_a2 L_a2 Qs) (.slice p_t39 t39.length c_t39) 79 fun _ w h=>Ym Qs (qj h).2 qR y_t39 0 1 [.slice p_t39 t39.length c_t39]) <|
 .v 80 (.slice p_a2 L_a2.length c_a2) <|
 .v 81 (vP ((u1 1).n 0) 2) <|
 .cons [82] (qf (vI a1.B) 82 179 2 1 ((u1 1).n 0) [vI a1.Op,vI a1.A,vI a1.B,vI a1.C.Lo,vI a1.C.Hi] 110) <|
 .cons [83] (qn (fun u37=>.pointer (some ⟨Xf p_a2,Xg p_a2+a1.B.toNat * 1,none⟩)) 83 (hv:=fun _ _=>qM (t:=195) (k:=.i64) (i:=a1.B) (p:=p_a2) (n:=L_a2.length) (cap:=c_a2) (x:=a2) P40 (qT h_a2) b41 (by kernel_rfl))) <|
 .cons [84] (qG 175 (qB qk 1 p_a2 c_a2 L_a2 Qs) (.slice p_t42 t42.length c_t42) 84 fun _ w h=>Ym Qs (qj h).2 qR y_t42 0 1 [.slice p_t42 t42.length c_t42]) <|
 .v 85 (vI (a3.length:Int)) <|
 .v 86 (vI (a3.length:Int)) <|
 .cons [87] (QX [176,999999] (fun u37=>[X7 qk Qd.toPart L_a2,gk]) 139 _ _ 87 (fun u37 w hF=>qS.calls k0 t39 t42 0 (a3.length:Int) (a3.length:Int) p_t39 c_t39 p_t42 c_t42 t43 w  ⟨(Z9 (show XO _ 2 p_t39 t39.length c_t39 (t39.flatMap qa) from ((Xl hF.1) _ (List.mem_of_getElem? y_t39)).1)),(Z9 (show XO _ 2 p_t42 t42.length c_t42 (t42.flatMap qa) from ((Xl hF.1) _ (List.mem_of_getElem? y_t42)).1)),hF.2.1,trivial⟩ ht43)) <|
 .cons [181] (Qa 181 0 ((u1 3).n 0) [vI 0,vI 0] [vI t43.Lo,vI t43.Hi] 46 [vI t43.Lo,vI t43.Hi])<|.nil) (by kernel_rfl) fun u37 a w' H=>?_
     replace H:=H.kp [10,181,999999]
     refine qF ?_
     obtain rfl:=sj G
     exact Qj H _ 181 ((u1 3).n 0) [vI t43.Lo,vI t43.Hi] 46 0 2 (by kernel_rfl) (by kernel_rfl) (by kernel_rfl) (by kernel_rfl)
    ·rw [if_neg (nt c94)] at G
     refine qg qd H (.v 89 (.bool (a1.Op == 5)) <|
 .v 88 (.bool (a1.Op == 5))<|.nil) [2,3,5,6,9,10,11,16,88,175,176,177,178,179,180,181,999999] fun u44 a w' H=>?_
     refine Qx H (a1.Op == 5) (fun c93=>?_) fun c93=>?_
     ·rw [if_pos c93] at G
      refine qv ?_
      refine qg qd H (.v 90 (vI (a3.length:Int)) <|
 .v 91 (.bool ((a3.length:Int) == 0))<|.nil) [2,5,6,10,11,91,175,176,178,179,181,999999] fun u45 a w' H=>?_
      refine Qx H ((a3.length:Int) == 0) (fun c60=>?_) fun c60=>?_
      ·rw [if_pos c60] at G
       refine qv ?_
       replace G:=gd G; obtain ⟨b47,G⟩:=G
       obtain ⟨t48,ht48,G⟩:=qP G
       obtain ⟨p_t48,c_t48,y_t48⟩:=Yf h_a2 ht48
       have P49:=Xh (en:=Qs) (l:=L_a2) (qj (H.at (K:=qB qk 1 p_a2 c_a2 L_a2 Qs) 175 (by kernel_rfl))).2 qR
       replace G:=gd G; obtain ⟨b50,G⟩:=G
       obtain ⟨t51,ht51,G⟩:=qP G
       obtain ⟨t52,ht52,G⟩:=qP G
       refine Qt qd H (.v 92 (vP ((u1 0).n 0) 5) <|
 .cons [93] (qf (.func (.func 91) #[] #[]) 93 178 5 1 ((u1 0).n 0) [.func (.func 130) #[] #[],.func (.func 110) #[] #[],.func (.func 90) #[] #[],.func (.func 92) #[] #[],.func (.func 127) #[] #[],.func (.func 91) #[] #[],.func (.func 131) #[] #[],.func (.func 132) #[] #[],.func (.func 133) #[] #[]] 215) <|
 .v 94 (.slice p_a2 L_a2.length c_a2) <|
 .v 95 (vP ((u1 1).n 0) 1) <|
 .cons [96] (qf (vI a1.A) 96 179 1 1 ((u1 1).n 0) [vI a1.Op,vI a1.A,vI a1.B,vI a1.C.Lo,vI a1.C.Hi] 110) <|
 .cons [97] (qn (fun u46=>.pointer (some ⟨Xf p_a2,Xg p_a2+a1.A.toNat * 1,none⟩)) 97 (hv:=fun _ _=>qM (t:=195) (k:=.i64) (i:=a1.A) (p:=p_a2) (n:=L_a2.length) (cap:=c_a2) (x:=a2) P49 (qT h_a2) b47 (by kernel_rfl))) <|
 .cons [98] (qG 175 (qB qk 1 p_a2 c_a2 L_a2 Qs) (.slice p_t48 t48.length c_t48) 98 fun _ w h=>Ym Qs (qj h).2 qR y_t48 0 1 [.slice p_t48 t48.length c_t48]) <|
 .cons [99] (qG 176 (X7 qk Qd.toPart L_a2) (.pointer (some ⟨Xf p_t48,Xg p_t48+((0:Int).toNat) * 2,none⟩)) 99 fun _ w h=>Jo 48 .i64 (0:Int) p_t48 t48.length c_t48 t48 qa (show XO _ 2 p_t48 t48.length c_t48 (t48.flatMap qa) from ((Xl h) _ (List.mem_of_getElem? y_t48)).1).2 qe rfl b50) <|
 .cons [100] (qG 176 (X7 qk Qd.toPart L_a2) (.agg #[vI t51.Lo,vI t51.Hi]) 100 fun _ w h=>Ym qa (show XO _ 2 p_t48 t48.length c_t48 (t48.flatMap qa) from ((Xl h) _ (List.mem_of_getElem? y_t48)).1).2 qe ht51 0 2 [vI t51.Lo,vI t51.Hi]) <|
 .cons [101] (qq 91 _ _ 101 [] (fun u46 w _=>Xz.calls t51  t52 w  ht52)) <|
 .cons [181] (Qa 181 0 ((u1 3).n 0) [vI 0,vI 0] [vI t52.Lo,vI t52.Hi] 46 [vI t52.Lo,vI t52.Hi])<|.nil) [10,181,999999] fun u46 a w' H=>?_
       refine qF ?_
       obtain rfl:=sj G
       exact Qj H _ 181 ((u1 3).n 0) [vI t52.Lo,vI t52.Hi] 46 0 2 (by kernel_rfl) (by kernel_rfl) (by kernel_rfl) (by kernel_rfl)
      ·rw [if_neg (nt c60)] at G
       refine Qf ?_
       refine qv ?_
       replace G:=gd G; obtain ⟨b54,G⟩:=G
       obtain ⟨t55,ht55,G⟩:=qP G
       obtain ⟨p_t55,c_t55,y_t55⟩:=Yf h_a2 ht55
       have P56:=Xh (en:=Qs) (l:=L_a2) (qj (H.at (K:=qB qk 1 p_a2 c_a2 L_a2 Qs) 175 (by kernel_rfl))).2 qR
       replace G:=gd G; obtain ⟨b57,G⟩:=G
       obtain ⟨t58,ht58,G⟩:=qP G
       obtain ⟨p_t58,c_t58,y_t58⟩:=Yf h_a2 ht58
       obtain ⟨t59,ht59,G⟩:=qP G
       refine ZC qd H (.cons [102] (qf (.agg #[.func (.func 130) #[] #[],.func (.func 110) #[] #[],.func (.func 90) #[] #[],.func (.func 92) #[] #[],.func (.func 127) #[] #[],.func (.func 91) #[] #[],.func (.func 131) #[] #[],.func (.func 132) #[] #[],.func (.func 133) #[] #[]]) 102 178 0 9 ((u1 0).n 0) [.func (.func 130) #[] #[],.func (.func 110) #[] #[],.func (.func 90) #[] #[],.func (.func 92) #[] #[],.func (.func 127) #[] #[],.func (.func 91) #[] #[],.func (.func 131) #[] #[],.func (.func 132) #[] #[],.func (.func 133) #[] #[]] 215) <|
 .v 103 (.slice p_a2 L_a2.length c_a2) <|
 .v 104 (vP ((u1 1).n 0) 1) <|
 .cons [105] (qf (vI a1.A) 105 179 1 1 ((u1 1).n 0) [vI a1.Op,vI a1.A,vI a1.B,vI a1.C.Lo,vI a1.C.Hi] 110) <|
 .cons [106] (qn (fun u53=>.pointer (some ⟨Xf p_a2,Xg p_a2+a1.A.toNat * 1,none⟩)) 106 (hv:=fun _ _=>qM (t:=195) (k:=.i64) (i:=a1.A) (p:=p_a2) (n:=L_a2.length) (cap:=c_a2) (x:=a2) P56 (qT h_a2) b54 (by kernel_rfl))) <|
 .cons [107] (qG 175 (qB qk 1 p_a2 c_a2 L_a2 Qs) (.slice p_t55 t55.length c_t55) 107 fun _ w h=>Ym Qs (qj h).2 qR y_t55 0 1 [.slice p_t55 t55.length c_t55]) <|
 .v 108 (.slice p_a2 L_a2.length c_a2) <|
 .v 109 (vP ((u1 1).n 0) 1) <|
 .cons [110] (qf (vI a1.A) 110 179 1 1 ((u1 1).n 0) [vI a1.Op,vI a1.A,vI a1.B,vI a1.C.Lo,vI a1.C.Hi] 110) <|
 .cons [111] (qn (fun u53=>.pointer (some ⟨Xf p_a2,Xg p_a2+a1.A.toNat * 1,none⟩)) 111 (hv:=fun _ _=>qM (t:=195) (k:=.i64) (i:=a1.A) (p:=p_a2) (n:=L_a2.length) (cap:=c_a2) (x:=a2) P56 (qT h_a2) b57 (by kernel_rfl))) <|
 .cons [112] (qG 175 (qB qk 1 p_a2 c_a2 L_a2 Qs) (.slice p_t58 t58.length c_t58) 112 fun _ w h=>Ym Qs (qj h).2 qR y_t58 0 1 [.slice p_t58 t58.length c_t58]) <|
 .v 113 (vI (a3.length:Int)) <|
 .v 114 (vI (a3.length:Int)) <|
 .cons [115] (QX [176,999999] (fun u53=>[X7 qk Qd.toPart L_a2,gk]) 139 _ _ 115 (fun u53 w hF=>qS.calls k0 t55 t58 0 (a3.length:Int) (a3.length:Int) p_t55 c_t55 p_t58 c_t58 t59 w  ⟨(Z9 (show XO _ 2 p_t55 t55.length c_t55 (t55.flatMap qa) from ((Xl hF.1) _ (List.mem_of_getElem? y_t55)).1)),(Z9 (show XO _ 2 p_t58 t58.length c_t58 (t58.flatMap qa) from ((Xl hF.1) _ (List.mem_of_getElem? y_t58)).1)),hF.2.1,trivial⟩ ht59)) <|
 .cons [181] (Qa 181 0 ((u1 3).n 0) [vI 0,vI 0] [vI t59.Lo,vI t59.Hi] 46 [vI t59.Lo,vI t59.Hi])<|.nil) (by kernel_rfl) fun u53 a w' H=>?_
       replace H:=H.kp [10,181,999999]
       refine qF ?_
       obtain rfl:=sj G
       exact Qj H _ 181 ((u1 3).n 0) [vI t59.Lo,vI t59.Hi] 46 0 2 (by kernel_rfl) (by kernel_rfl) (by kernel_rfl) (by kernel_rfl)
     ·rw [if_neg (nt c93)] at G
      refine qg qd H (.v 117 (.bool (a1.Op == 10)) <|
 .v 116 (.bool (a1.Op == 10))<|.nil) [2,3,5,6,9,10,11,16,116,175,176,177,178,179,180,181,999999] fun u61 a w' H=>?_
      refine Qx H (a1.Op == 10) (fun c92=>?_) fun c92=>?_
      ·rw [if_pos c92] at G
       refine qv ?_
       replace G:=gd G; obtain ⟨b63,G⟩:=G
       obtain ⟨t64,ht64,G⟩:=qP G
       obtain ⟨p_t64,c_t64,y_t64⟩:=Yf h_a2 ht64
       have P65:=Xh (en:=Qs) (l:=L_a2) (qj (H.at (K:=qB qk 1 p_a2 c_a2 L_a2 Qs) 175 (by kernel_rfl))).2 qR
       replace G:=gd G; obtain ⟨b66,G⟩:=G
       obtain ⟨t67,ht67,G⟩:=qP G
       obtain ⟨p_t67,c_t67,y_t67⟩:=Yf h_a2 ht67
       obtain ⟨t68,ht68,G⟩:=qP G
       refine ZC qd H (.v 118 (vP ((u1 0).n 0) 6) <|
 .cons [119] (qf (.func (.func 131) #[] #[]) 119 178 6 1 ((u1 0).n 0) [.func (.func 130) #[] #[],.func (.func 110) #[] #[],.func (.func 90) #[] #[],.func (.func 92) #[] #[],.func (.func 127) #[] #[],.func (.func 91) #[] #[],.func (.func 131) #[] #[],.func (.func 132) #[] #[],.func (.func 133) #[] #[]] 215) <|
 .v 120 (.slice p_a2 L_a2.length c_a2) <|
 .v 121 (vP ((u1 1).n 0) 1) <|
 .cons [122] (qf (vI a1.A) 122 179 1 1 ((u1 1).n 0) [vI a1.Op,vI a1.A,vI a1.B,vI a1.C.Lo,vI a1.C.Hi] 110) <|
 .cons [123] (qn (fun u62=>.pointer (some ⟨Xf p_a2,Xg p_a2+a1.A.toNat * 1,none⟩)) 123 (hv:=fun _ _=>qM (t:=195) (k:=.i64) (i:=a1.A) (p:=p_a2) (n:=L_a2.length) (cap:=c_a2) (x:=a2) P65 (qT h_a2) b63 (by kernel_rfl))) <|
 .cons [124] (qG 175 (qB qk 1 p_a2 c_a2 L_a2 Qs) (.slice p_t64 t64.length c_t64) 124 fun _ w h=>Ym Qs (qj h).2 qR y_t64 0 1 [.slice p_t64 t64.length c_t64]) <|
 .v 125 (.slice p_a2 L_a2.length c_a2) <|
 .v 126 (vP ((u1 1).n 0) 2) <|
 .cons [127] (qf (vI a1.B) 127 179 2 1 ((u1 1).n 0) [vI a1.Op,vI a1.A,vI a1.B,vI a1.C.Lo,vI a1.C.Hi] 110) <|
 .cons [128] (qn (fun u62=>.pointer (some ⟨Xf p_a2,Xg p_a2+a1.B.toNat * 1,none⟩)) 128 (hv:=fun _ _=>qM (t:=195) (k:=.i64) (i:=a1.B) (p:=p_a2) (n:=L_a2.length) (cap:=c_a2) (x:=a2) P65 (qT h_a2) b66 (by kernel_rfl))) <|
 .cons [129] (qG 175 (qB qk 1 p_a2 c_a2 L_a2 Qs) (.slice p_t67 t67.length c_t67) 129 fun _ w h=>Ym Qs (qj h).2 qR y_t67 0 1 [.slice p_t67 t67.length c_t67]) <|
 .v 130 (.slice p_a3 a3.length c_a3) <|
 .cons [131] (QX [176,177,999999] (fun u62=>[X7 qk Qd.toPart L_a2,qB qk 2 p_a3 c_a3 a3 qa,gk]) 131 _ _ 131 (fun u62 w hF=>QF.calls k0 t64 t67 a3 p_t64 c_t64 p_t67 c_t67 p_a3 c_a3 t68 w  ⟨(Z9 (show XO _ 2 p_t64 t64.length c_t64 (t64.flatMap qa) from ((Xl hF.1) _ (List.mem_of_getElem? y_t64)).1)),(Z9 (show XO _ 2 p_t67 t67.length c_t67 (t67.flatMap qa) from ((Xl hF.1) _ (List.mem_of_getElem? y_t67)).1)),(Z9 (qj hF.2.1)),hF.2.2.1,trivial⟩ ht68)) <|
 .cons [181] (Qa 181 0 ((u1 3).n 0) [vI 0,vI 0] [vI t68.Lo,vI t68.Hi] 46 [vI t68.Lo,vI t68.Hi])<|.nil) (by kernel_rfl) fun u62 a w' H=>?_
       replace H:=H.kp [10,181,999999]
       refine qF ?_
       obtain rfl:=sj G
       exact Qj H _ 181 ((u1 3).n 0) [vI t68.Lo,vI t68.Hi] 46 0 2 (by kernel_rfl) (by kernel_rfl) (by kernel_rfl) (by kernel_rfl)
      ·rw [if_neg (nt c92)] at G
       refine qg qd H (.v 133 (.bool (a1.Op == 6)) <|
 .v 132 (.bool (a1.Op == 6))<|.nil) [2,3,5,6,9,10,11,132,175,176,177,178,179,180,181,999999] fun u69 a w' H=>?_
       refine Qx H (a1.Op == 6) (fun c91=>?_) fun c91=>?_
       ·rw [if_pos c91] at G
        refine qv ?_
        replace G:=gd G; obtain ⟨b71,G⟩:=G
        obtain ⟨t72,ht72,G⟩:=qP G
        obtain ⟨p_t72,c_t72,y_t72⟩:=Yf h_a2 ht72
        have P73:=Xh (en:=Qs) (l:=L_a2) (qj (H.at (K:=qB qk 1 p_a2 c_a2 L_a2 Qs) 175 (by kernel_rfl))).2 qR
        obtain ⟨t74,ht74,G⟩:=qP G
        refine ZC qd H (.v 134 (vP ((u1 0).n 0) 7) <|
 .cons [135] (qf (.func (.func 132) #[] #[]) 135 178 7 1 ((u1 0).n 0) [.func (.func 130) #[] #[],.func (.func 110) #[] #[],.func (.func 90) #[] #[],.func (.func 92) #[] #[],.func (.func 127) #[] #[],.func (.func 91) #[] #[],.func (.func 131) #[] #[],.func (.func 132) #[] #[],.func (.func 133) #[] #[]] 215) <|
 .v 136 (.slice p_a2 L_a2.length c_a2) <|
 .v 137 (vP ((u1 1).n 0) 1) <|
 .cons [138] (qf (vI a1.A) 138 179 1 1 ((u1 1).n 0) [vI a1.Op,vI a1.A,vI a1.B,vI a1.C.Lo,vI a1.C.Hi] 110) <|
 .cons [139] (qn (fun u70=>.pointer (some ⟨Xf p_a2,Xg p_a2+a1.A.toNat * 1,none⟩)) 139 (hv:=fun _ _=>qM (t:=195) (k:=.i64) (i:=a1.A) (p:=p_a2) (n:=L_a2.length) (cap:=c_a2) (x:=a2) P73 (qT h_a2) b71 (by kernel_rfl))) <|
 .cons [140] (qG 175 (qB qk 1 p_a2 c_a2 L_a2 Qs) (.slice p_t72 t72.length c_t72) 140 fun _ w h=>Ym Qs (qj h).2 qR y_t72 0 1 [.slice p_t72 t72.length c_t72]) <|
 .v 141 (.slice p_a3 a3.length c_a3) <|
 .cons [142] (QX [176,177,999999] (fun u70=>[X7 qk Qd.toPart L_a2,qB qk 2 p_a3 c_a3 a3 qa,gk]) 132 _ _ 142 (fun u70 w hF=>YW.calls k0 t72 a3 p_t72 c_t72 p_a3 c_a3 t74 w  ⟨(Z9 (show XO _ 2 p_t72 t72.length c_t72 (t72.flatMap qa) from ((Xl hF.1) _ (List.mem_of_getElem? y_t72)).1)),(Z9 (qj hF.2.1)),hF.2.2.1,trivial⟩ ht74)) <|
 .cons [181] (Qa 181 0 ((u1 3).n 0) [vI 0,vI 0] [vI t74.Lo,vI t74.Hi] 46 [vI t74.Lo,vI t74.Hi])<|.nil) (by kernel_rfl) fun u70 a w' H=>?_
        replace H:=H.kp [10,181,999999]
        refine qF ?_
        obtain rfl:=sj G
        exact Qj H _ 181 ((u1 3).n 0) [vI t74.Lo,vI t74.Hi] 46 0 2 (by kernel_rfl) (by kernel_rfl) (by kernel_rfl) (by kernel_rfl)
       ·rw [if_neg (nt c91)] at G
        refine Qf ?_
        refine qg qd H (.cons [12,182] (qs (fun b=>vP b 0) (fun u75=>[vI 0,vI 0]) 46 12 182)<|.nil) [5,6,9,10,11,12,178,179,180,181,182,999999] fun u75 a w' H=>?_
        refine qv ?_
        obtain ⟨j78,hj78,G⟩:=qP G
        refine Xq (fun a w'=>RL w 175 [(5,(sP ((u1 0).n 0) 0)),(10,(sP ((u1 3).n 0) 0)),(12,(sP ((u75 0).n 0) 0)),(178,.blk ((u1 0).n 0) [.func (.func 130) #[] #[],.func (.func 110) #[] #[],.func (.func 90) #[] #[],.func (.func 92) #[] #[],.func (.func 127) #[] #[],.func (.func 91) #[] #[],.func (.func 131) #[] #[],.func (.func 132) #[] #[],.func (.func 133) #[] #[]] 215),(181,.blk ((u1 3).n 0) [vI 0,vI 0] 46),(182,.blk ((u75 0).n 0) [vI j78.1,vI j78.2] 46),(999999,gk)] a w') ?_ ?_
        ·clear H; intro a w' H
         obtain ⟨t80,ht80,G⟩:=qP G
         refine qg qd H (.v 171 (vP ((u1 0).n 0) 0) <|
 .cons [172] (qf (.func (.func 130) #[] #[]) 172 178 0 1 ((u1 0).n 0) [.func (.func 130) #[] #[],.func (.func 110) #[] #[],.func (.func 90) #[] #[],.func (.func 92) #[] #[],.func (.func 127) #[] #[],.func (.func 91) #[] #[],.func (.func 131) #[] #[],.func (.func 132) #[] #[],.func (.func 133) #[] #[]] 215) <|
 .cons [173] (qf (.agg #[vI j78.1,vI j78.2]) 173 182 0 2 ((u75 0).n 0) [vI j78.1,vI j78.2] 46) <|
 .cons [174] (qq 130 _ _ 174 [] (fun u79 w _=>Yq.calls (⟨j78.1,j78.2⟩:qb)  t80 w  ht80)) <|
 .cons [181] (Qa 181 0 ((u1 3).n 0) [vI 0,vI 0] [vI t80.Lo,vI t80.Hi] 46 [vI t80.Lo,vI t80.Hi])<|.nil) [10,181,999999] fun u79 a w' H=>?_
         refine qF ?_
         obtain rfl:=sj G
         exact Qj H _ 181 ((u1 3).n 0) [vI t80.Lo,vI t80.Hi] 46 0 2 (by kernel_rfl) (by kernel_rfl) (by kernel_rfl) (by kernel_rfl)
        ·clear G; replace G:=hj78; clear hj78
         refine q6 ?_
         refine qg qd H (.v 144 (vP ((u1 1).n 0) 0) <|
 .cons [145] (qf (vI a1.Op) 145 179 0 1 ((u1 1).n 0) [vI a1.Op,vI a1.A,vI a1.B,vI a1.C.Lo,vI a1.C.Hi] 110) <|
 .v 146 (.bool (a1.Op == 1)) <|
 .v 147 (.bool (a1.Op == 1)) <|
 .cons [148] (qQ (fun u81=>vI (a3.length:Int)) (fun u81=>((a1.Op == 1) == true)) [true] 148) <|
 .cons [149] (qQ (fun u81=>.bool ((a3.length:Int) == 0)) (fun u81=>((a1.Op == 1) == true)) [false,true] 149) <|
 .cons [150] (YY 147 149 (fun u81=>true) (fun u81=>true) (fun u81=>(a1.Op == 1)) (fun u81=>((a3.length:Int) == 0)) 150) <|
 .v 143 (.bool ((a1.Op == 1) && ((a3.length:Int) == 0)))<|.nil) [5,6,9,10,11,12,143,178,179,180,181,182,999999] fun u81 a w' H=>?_
         refine Qx H ((a1.Op == 1) && ((a3.length:Int) == 0)) (fun c90=>?_) fun c90=>?_
         ·rw [if_pos c90] at G
          refine Qt qd H (.v 151 (vP ((u1 1).n 0) 3) <|
 .cons [152] (qf (.agg #[vI a1.C.Lo,vI a1.C.Hi]) 152 179 3 2 ((u1 1).n 0) [vI a1.Op,vI a1.A,vI a1.B,vI a1.C.Lo,vI a1.C.Hi] 110) <|
 .cons [182] (Qa 182 0 ((u75 0).n 0) [vI 0,vI 0] [vI a1.C.Lo,vI a1.C.Hi] 46 [vI a1.C.Lo,vI a1.C.Hi])<|.nil) [5,10,12,178,181,182,999999] fun u82 a w' H=>?_
          obtain rfl:=sj G
          exact H.toM _
         ·rw [if_neg (nt c90)] at G
          refine qg qd H (.v 154 (vP ((u1 1).n 0) 0) <|
 .cons [155] (qf (vI a1.Op) 155 179 0 1 ((u1 1).n 0) [vI a1.Op,vI a1.A,vI a1.B,vI a1.C.Lo,vI a1.C.Hi] 110) <|
 .v 156 (.bool (a1.Op == 3)) <|
 .v 157 (.bool (a1.Op == 3)) <|
 .cons [158] (qQ (fun u83=>vI (a3.length:Int)) (fun u83=>((a1.Op == 3) == true)) [true] 158) <|
 .cons [159] (qQ (fun u83=>.bool ((a3.length:Int) == 0)) (fun u83=>((a1.Op == 3) == true)) [false,true] 159) <|
 .cons [160] (YY 157 159 (fun u83=>true) (fun u83=>true) (fun u83=>(a1.Op == 3)) (fun u83=>((a3.length:Int) == 0)) 160) <|
 .v 153 (.bool ((a1.Op == 3) && ((a3.length:Int) == 0)))<|.nil) [5,6,9,10,11,12,153,178,179,180,181,182,999999] fun u83 a w' H=>?_
          refine Qx H ((a1.Op == 3) && ((a3.length:Int) == 0)) (fun c89=>?_) fun c89=>?_
          ·rw [if_pos c89] at G
           refine Qt qd H (.cons [161] (qf (.agg #[vI a4.Lo,vI a4.Hi]) 161 180 0 2 ((u1 2).n 0) [vI a4.Lo,vI a4.Hi] 46) <|
 .cons [182] (Qa 182 0 ((u75 0).n 0) [vI 0,vI 0] [vI a4.Lo,vI a4.Hi] 46 [vI a4.Lo,vI a4.Hi])<|.nil) [5,10,12,178,181,182,999999] fun u84 a w' H=>?_
           obtain rfl:=sj G
           exact H.toM _
          ·rw [if_neg (nt c89)] at G
           refine qg qd H (.v 163 (vP ((u1 1).n 0) 0) <|
 .cons [164] (qf (vI a1.Op) 164 179 0 1 ((u1 1).n 0) [vI a1.Op,vI a1.A,vI a1.B,vI a1.C.Lo,vI a1.C.Hi] 110) <|
 .v 165 (.bool (a1.Op == 3)) <|
 .v 166 (.bool (a1.Op == 3)) <|
 .cons [167] (qQ (fun u85=>vI (a3.length:Int)) (fun u85=>((a1.Op == 3) == true)) [true] 167) <|
 .cons [168] (qQ (fun u85=>.bool ((a3.length:Int) == 1)) (fun u85=>((a1.Op == 3) == true)) [false,true] 168) <|
 .cons [169] (YY 166 168 (fun u85=>true) (fun u85=>true) (fun u85=>(a1.Op == 3)) (fun u85=>((a3.length:Int) == 1)) 169) <|
 .v 162 (.bool ((a1.Op == 3) && ((a3.length:Int) == 1)))<|.nil) [5,10,12,162,178,181,182,999999] fun u85 a w' H=>?_
           refine Qx H ((a1.Op == 3) && ((a3.length:Int) == 1)) (fun c88=>?_) fun c88=>?_
           ·rw [if_pos c88] at G
            obtain ⟨t87,ht87,G⟩:=qP G
            refine Qt qd H (.cons [170] (qq 142 _ _ 170 [] (fun u86 w _=>Jh.calls   t87 w  ht87)) <|
 .cons [182] (Qa 182 0 ((u75 0).n 0) [vI 0,vI 0] [vI t87.Lo,vI t87.Hi] 46 [vI t87.Lo,vI t87.Hi])<|.nil) [5,10,12,178,181,182,999999] fun u86 a w' H=>?_
            obtain rfl:=sj G
            exact H.toM _
           ·rw [if_neg (nt c88)] at G
            refine Qf ?_
            obtain rfl:=sj G
            exact H.toM _
end Go.Proofs.YtpmgpcklieincaaGreatDoor
