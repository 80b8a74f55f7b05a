/- Each function of the program answers as the plain Lean function of its name (part 3). Printed by a program of this session. -/
import Derived.Test.YtpmgpcklieincaaGreatDoorFn2
set_option linter.unusedVariables false
set_option linter.unusedSimpArgs false
set_option maxRecDepth 100000
set_option maxHeartbeats 4000000
namespace Go.Proofs.YtpmgpcklieincaaGreatDoor
open Go Go.RowKit Go.Sx Go.Proofs
theorem Yt.calls (k0:Nat)(a0:QE)(a1:List qb)(a2:Q0)(a3:Int)(p_a0_L:Option Addr)(c_a0_L:Nat)(p_a0_Out:Option Addr)(c_a0_Out:Nat)(p_a1:Option Addr)(c_a1:Nat)(r:qW×Bool)(w:World)(hB:Xp [qy ql 5 p_a0_L c_a0_L a0.L qi,qy ql 1 p_a0_Out c_a0_Out a0.Out q6,gk] w)(hF:Xp [qy ql 2 p_a1 c_a1 a1 qa] w)(G:Yt k0 a0 a1 a2 a3=some r) :
  Calls Tryz.prog 56 #[.agg #[vI a0.N,.slice p_a0_L a0.L.length c_a0_L,.slice p_a0_Out a0.Out.length c_a0_Out],.slice p_a1 a1.length c_a1,.agg #[vI a2.T,vI a2.H],vI a3] w λe w'=>∃ g:Gh,e = .returned (.tuple #[.agg #[vI r.1.T,vI r.1.H,.slice (g.o 0) r.1.From.length (g.n 0),.slice (g.o 1) r.1.Pre.length (g.n 1),.slice (g.o 2) r.1.Tube.length (g.n 2),.slice (g.o 3) r.1.To.length (g.n 3)],.bool r.2])∧Zj (YR []) w w'∧Ye w.heap.size (YR []) (JS w.heap.size [qy ql 2 p_a1 c_a1 a1 qa]) [λfr=>YI fr 2 (g.o 0) r.1.From.length (g.n 0) (r.1.From.flatMap qa),λfr=>YI fr 2 (g.o 1) r.1.Pre.length (g.n 1) (r.1.Pre.flatMap qa),λfr=>YI fr 2 (g.o 2) r.1.Tube.length (g.n 2) (r.1.Tube.flatMap qa),λfr=>YI fr 2 (g.o 3) r.1.To.length (g.n 3) (r.1.To.flatMap qa)] w':=by
 obtain ⟨fr,hfr,hBf⟩:=VT w [qy ql 2 p_a1 c_a1 a1 qa]
 refine QA (args:=[.agg #[vI a0.N,.slice p_a0_L a0.L.length c_a0_L,.slice p_a0_Out a0.Out.length c_a0_Out],.slice p_a1 a1.length c_a1,.agg #[vI a2.T,vI a2.H],vI a3]) 44 [(44,qy ql 5 p_a0_L c_a0_L a0.L qi),(45,qy ql 1 p_a0_Out c_a0_Out a0.Out q6),(999999,gk),(46,qy fr 2 p_a1 c_a1 a1 qa)] (by
  intro x hx
  simp only [List.mem_cons,List.not_mem_nil,or_false] at hx
  rcases hx with rfl | rfl | rfl | rfl
  ·exact qv (qj hB.1) (λ_ _=>trivial) (by decide) _
  ·exact qv (qj hB.2.1) (λ_ _=>trivial) (by decide) _
  ·exact ⟨⟨_,_,rfl⟩,hB.2.2.1,Yc (Qy hB.2.2.1)⟩
  ·exact qv (qj hF.1) (λj h=>by rw [hfr]; exact .inr ⟨_,(.head _),h⟩) (by decide) _) Tryz.func56 rfl λa H=>?_
 unfold Yt at G
 refine qg qd H (.cons [4,47] (qn (λb=>vP b 0) (λu1=>[vI a0.N,.slice p_a0_L a0.L.length c_a0_L,.slice p_a0_Out a0.Out.length c_a0_Out]) 38 4 47)<|.cons [5,48] (qn (λb=>vP b 0) (λu1=>[.slice p_a1 a1.length c_a1]) 48 5 48)<|.cons [6,49] (qn (λb=>vP b 0) (λu1=>[vI a2.T,vI a2.H]) 53 6 49)<|.cons [7,50] (qn (λb=>vP b 0) (λu1=>[vI a3]) 3 7 50)<|.cons [8,51] (qn (λb=>vP b 0) (λu1=>[vI 0,vI 0,.slice none 0 0,.slice none 0 0,.slice none 0 0,.slice none 0 0]) 63 8 51)<|.v 9 (.bool false)<|.nil) [4,5,6,7,8,44,45,46,47,48,49,50,51,999999] λu1 a w' H=>?_
 obtain ⟨t3,ht3,G⟩:=qO G
 refine qg qd H (.cons [14] (qf (.agg #[vI a0.N,.slice p_a0_L a0.L.length c_a0_L,.slice p_a0_Out a0.Out.length c_a0_Out]) 14 47 0 3 (nn u1 0) [vI a0.N,.slice p_a0_L a0.L.length c_a0_L,.slice p_a0_Out a0.Out.length c_a0_Out] 38)<|.cons [15] (qf (.slice p_a1 a1.length c_a1) 15 48 0 1 (nn u1 1) [.slice p_a1 a1.length c_a1] 48)<|.cons [16] (qf (.agg #[vI a2.T,vI a2.H]) 16 49 0 2 (nn u1 2) [vI a2.T,vI a2.H] 53)<|.cons [17,52] (Qp true fr [] [44,45,46,999999] (λu2=>[qy ql 5 p_a0_L c_a0_L a0.L qi,qy ql 1 p_a0_Out c_a0_Out a0.Out q6,qy fr 2 p_a1 c_a1 a1 qa,gk]) [] (λu2=>[]) 78 _ _ _ _ _ [52] 17 (λu2 w hB hF hM=>QT.calls k0 (⟨a0.N,a0.L,a0.Out⟩:QE) a1 a2 p_a0_L c_a0_L p_a0_Out c_a0_Out p_a1 c_a1 t3 w hB ht3) (λu2 w hF=>⟨⟨qP (qj hF.1) (λj h=>⟨_,(.head _),h⟩),qP (qj hF.2.1) (λj h=>⟨_,(.tail _ (.head _)),h⟩),qP (qj hF.2.2.1) (λj h=>⟨_,(.tail _ (.tail _ (.head _))),h⟩),Je hF.2.2.2.1 (.tail _ (.tail _ (.tail _ (.head _)))),trivial⟩,trivial⟩) (λu2 g=>(qk (QP (by decide)) qx)) (.inl rfl) (λ_=>hBf))<|.cons [13] (qr (λu2=>.tuple #[.slice ((u2 3).o 0) t3.1.length (nn u2 3),.bool t3.2]) 13)<|.cons [18] (qr (λu2=>.slice ((u2 3).o 0) t3.1.length (nn u2 3)) 18)<|.v 19 (.bool t3.2)<|.cons [10,53] (qn (λb=>vP b 0) (λu2=>[.slice none 0 0]) 48 10 53)<|.cons [53] (QF (u':=λu2=>[(53,.blk (nn u2 7) [.slice ((u2 3).o 0) t3.1.length (nn u2 3)] 48)]) (qK 53 0 (λu2=>(nn u2 7)) (λu2=>[.slice none 0 0]) (λu2=>[.slice ((u2 3).o 0) t3.1.length (nn u2 3)]) 48) (λ_=>by kernel_rfl))<|.v 11 (.bool t3.2)<|.nil) [4,5,6,7,8,10,11,44,45,46,47,48,49,50,51,52,53,999999] λu2 a w' H=>?_
 refine qs ?_
 refine qg qd H (.v 20 (.bool t3.2)<|.v 21 (.bool (!t3.2))<|.nil) [4,5,6,7,8,10,21,44,45,46,47,48,49,50,51,52,53,999999] λu4 a w' H=>?_
 refine Qu H (!t3.2) (λc11=>?_) λc11=>?_
 ·rw [if_pos c11] at G
  refine qg qd H (.v 22 (.agg #[vI 0,vI 0,.slice none 0 0,.slice none 0 0,.slice none 0 0,.slice none 0 0])<|.cons [51] (qQ 51 0 (nn u1 4) [vI 0,vI 0,.slice none 0 0,.slice none 0 0,.slice none 0 0,.slice none 0 0] [vI 0,vI 0,.slice none 0 0,.slice none 0 0,.slice none 0 0,.slice none 0 0] 63 [vI 0,vI 0,.slice none 0 0,.slice none 0 0,.slice none 0 0,.slice none 0 0])<|.v 9 (.bool false)<|.nil) [8,9,51,999999] λu5 a w' H=>?_
  refine qB ?_
  obtain rfl:=sj G
  replace H:=H.nil_row 54 46 2
  replace H:=H.demote fr 54 46 2 none 0 0 (([]:List qb).flatMap qa) (by kernel_rfl) (by decide) hBf
  replace H:=H.nil_row 55 46 2
  replace H:=H.demote fr 55 46 2 none 0 0 (([]:List qb).flatMap qa) (by kernel_rfl) (by decide) hBf
  replace H:=H.nil_row 56 46 2
  replace H:=H.demote fr 56 46 2 none 0 0 (([]:List qb).flatMap qa) (by kernel_rfl) (by decide) hBf
  replace H:=H.nil_row 57 46 2
  replace H:=H.demote fr 57 46 2 none 0 0 (([]:List qb).flatMap qa) (by kernel_rfl) (by decide) hBf
  obtain ⟨g,o0,n0,o1,n1,o2,n2,o3,n3⟩:∃ g:Gh,g.o 0=none∧g.n 0=0∧g.o 1=none∧g.n 1=0∧g.o 2=none∧g.n 2=0∧g.o 3=none∧g.n 3=0:=⟨⟨λi=>[0,0,0,0].getD i 0,λi=>[none,none,none,none].getD i none,λi=>([⟨Unit,()⟩,⟨Unit,()⟩,⟨Unit,()⟩,⟨Unit,()⟩]:List ((T:Type)×T)).getD i ⟨Unit,()⟩⟩,rfl,rfl,rfl,rfl,rfl,rfl,rfl,rfl⟩
  refine Qz H _ g _ _ _ fr [54,55,56,57] [(51,⟨(nn u1 4),[vI 0,vI 0,.slice none 0 0,.slice none 0 0,.slice none 0 0,.slice none 0 0],0,6⟩)] (.tuple #[.agg #[vI 0,vI 0,.slice none 0 0,.slice none 0 0,.slice none 0 0,.slice none 0 0],.bool false]) [λfr=>YI fr 2 none 0 0 (([]:List qb).flatMap qa),λfr=>YI fr 2 none 0 0 (([]:List qb).flatMap qa),λfr=>YI fr 2 none 0 0 (([]:List qb).flatMap qa),λfr=>YI fr 2 none 0 0 (([]:List qb).flatMap qa)] (by simp only [Ql,o0,n0,o1,n1,o2,n2,o3,n3,List.length_set,List.length_cons,List.length_nil,Nat.zero_add,Nat.reduceAdd]) (by simp only [Ql,o0,n0,o1,n1,o2,n2,o3,n3,List.length_set,List.length_cons,List.length_nil,Nat.zero_add,Nat.reduceAdd]) hfr (.inl ⟨rfl,rfl⟩) (qk (QP (by decide)) (qk (QP (by decide)) (qk (QP (by decide)) (qk (QP (by decide)) qx)))) (by intro p hp; simp only [List.mem_cons,List.not_mem_nil,or_false] at hp; rcases hp with rfl; exact ⟨⟨63,by kernel_rfl⟩,by kernel_rfl⟩)
 ·rw [if_neg (nt c11)] at G
  refine q8 ?_
  refine qg qd H (.v 23 (.func (.func 79) #[] #[vP (nn u1 0) 0,vP (nn u1 1) 0,vP (nn u2 7) 0,vP (nn u1 2) 0,vP (nn u1 3) 0])<|.v 12 (.func (.func 79) #[] #[vP (nn u1 0) 0,vP (nn u1 1) 0,vP (nn u2 7) 0,vP (nn u1 2) 0,vP (nn u1 3) 0])<|.nil) [5,6,8,10,12,44,45,46,47,48,49,50,51,52,53,999999] λu6 a w' H=>?_
  refine qs ?_
  obtain ⟨t8,ht8,G⟩:=qO G
  obtain ⟨t9,ht9,G⟩:=qO G
  obtain ⟨t10,ht10,G⟩:=qO G
  refine Jw qd H (.v 24 (vP (nn u1 2) 0)<|.cons [25] (qf (vI a2.T) 25 49 0 1 (nn u1 2) [vI a2.T,vI a2.H] 53)<|.v 26 (vP (nn u1 2) 1)<|.cons [27] (qf (vI a2.H) 27 49 1 1 (nn u1 2) [vI a2.T,vI a2.H] 53)<|.cons [28] (qf (.slice p_a1 a1.length c_a1) 28 48 0 1 (nn u1 1) [.slice p_a1 a1.length c_a1] 48)<|.cons [29] (qf (.slice ((u2 3).o 0) t3.1.length (nn u2 3)) 29 53 0 1 (nn u2 7) [.slice ((u2 3).o 0) t3.1.length (nn u2 3)] 48)<|.v 30 (.func (.func 79) #[] #[vP (nn u1 0) 0,vP (nn u1 1) 0,vP (nn u2 7) 0,vP (nn u1 2) 0,vP (nn u1 3) 0])<|.v 31 (vP (nn u1 2) 1)<|.cons [32] (qf (vI a2.H) 32 49 1 1 (nn u1 2) [vI a2.T,vI a2.H] 53)<|.cons [33,58,58] (qbU (λu7=>[(58,YI fr 2 ((u7 9).o 0) t8.length (nn u7 9) (t8.flatMap qa))]) (Qp false fr [] [44,45,47,46,48,52,53,49,50,999999] (λu7=>[qy ql 5 p_a0_L c_a0_L a0.L qi,qy ql 1 p_a0_Out c_a0_Out a0.Out q6,.blk (nn u1 0) [vI a0.N,.slice p_a0_L a0.L.length c_a0_L,.slice p_a0_Out a0.Out.length c_a0_Out] 38,qy fr 2 p_a1 c_a1 a1 qa,.blk (nn u1 1) [.slice p_a1 a1.length c_a1] 48,YI fr 2 ((u2 3).o 0) t3.1.length (nn u2 3) (t3.1.flatMap qa),.blk (nn u2 7) [.slice ((u2 3).o 0) t3.1.length (nn u2 3)] 48,.blk (nn u1 2) [vI a2.T,vI a2.H] 53,.blk (nn u1 3) [vI a3] 3,gk]) [] (λu7=>[]) 79 _ _ _ _ _ [58] 33 (λu7 w hB hF hM=>QX.calls k0 0 a2.H (⟨a0.N,a0.L,a0.Out⟩:QE) a1 t3.1 a2 a3 (nn u1 0) p_a0_L c_a0_L p_a0_Out c_a0_Out (nn u1 1) p_a1 c_a1 (nn u2 7) ((u2 3).o 0) (nn u2 3) (nn u1 2) (nn u1 3) t8 w hB ht8) (λu7 w hF=>⟨⟨qP (qj hF.1) (λj h=>⟨_,(.head _),h⟩),qP (qj hF.2.1) (λj h=>⟨_,(.tail _ (.head _)),h⟩),Zf hF.2.2.1 (.tail _ (.tail _ (.head _))) rfl,qP (qj hF.2.2.2.1) (λj h=>⟨_,(.tail _ (.tail _ (.tail _ (.head _)))),h⟩),Zf hF.2.2.2.2.1 (.tail _ (.tail _ (.tail _ (.tail _ (.head _))))) rfl,qP (qj hF.2.2.2.2.2.1) (λj h=>⟨_,(.tail _ (.tail _ (.tail _ (.tail _ (.tail _ (.head _)))))),h⟩),Zf hF.2.2.2.2.2.2.1 (.tail _ (.tail _ (.tail _ (.tail _ (.tail _ (.tail _ (.head _))))))) rfl,Zf hF.2.2.2.2.2.2.2.1 (.tail _ (.tail _ (.tail _ (.tail _ (.tail _ (.tail _ (.tail _ (.head _)))))))) rfl,Zf hF.2.2.2.2.2.2.2.2.1 (.tail _ (.tail _ (.tail _ (.tail _ (.tail _ (.tail _ (.tail _ (.tail _ (.head _))))))))) rfl,Je hF.2.2.2.2.2.2.2.2.2.1 (.tail _ (.tail _ (.tail _ (.tail _ (.tail _ (.tail _ (.tail _ (.tail _ (.tail _ (.head _)))))))))),trivial⟩,trivial⟩) (λu7 g=>(qk Qf qx)) (.inr (λu7 g=>(Qg trivial (λK h=>by cases h)))) (λh=>by cases h)) (λu7 S a w H=>H.demote fr 58 46 2 ((u7 9).o 0) t8.length (nn u7 9) (t8.flatMap qa) (by kernel_rfl) (by decide) hBf))<|.v 34 (.func (.func 79) #[] #[vP (nn u1 0) 0,vP (nn u1 1) 0,vP (nn u2 7) 0,vP (nn u1 2) 0,vP (nn u1 3) 0])<|.v 35 (vP (nn u1 2) 1)<|.cons [36] (qf (vI a2.H) 36 49 1 1 (nn u1 2) [vI a2.T,vI a2.H] 53)<|.v 37 (vP (nn u1 2) 1)<|.cons [38] (qf (vI a2.H) 38 49 1 1 (nn u1 2) [vI a2.T,vI a2.H] 53)<|.cons [39,59,59] (qbU (λu7=>[(59,YI fr 2 ((u7 15).o 0) t9.length (nn u7 15) (t9.flatMap qa))]) (Qp false fr [] [44,45,47,46,48,52,53,49,50,999999] (λu7=>[qy ql 5 p_a0_L c_a0_L a0.L qi,qy ql 1 p_a0_Out c_a0_Out a0.Out q6,.blk (nn u1 0) [vI a0.N,.slice p_a0_L a0.L.length c_a0_L,.slice p_a0_Out a0.Out.length c_a0_Out] 38,qy fr 2 p_a1 c_a1 a1 qa,.blk (nn u1 1) [.slice p_a1 a1.length c_a1] 48,YI fr 2 ((u2 3).o 0) t3.1.length (nn u2 3) (t3.1.flatMap qa),.blk (nn u2 7) [.slice ((u2 3).o 0) t3.1.length (nn u2 3)] 48,.blk (nn u1 2) [vI a2.T,vI a2.H] 53,.blk (nn u1 3) [vI a3] 3,gk]) [] (λu7=>[]) 79 _ _ _ _ _ [59] 39 (λu7 w hB hF hM=>QX.calls k0 a2.H a2.H (⟨a0.N,a0.L,a0.Out⟩:QE) a1 t3.1 a2 a3 (nn u1 0) p_a0_L c_a0_L p_a0_Out c_a0_Out (nn u1 1) p_a1 c_a1 (nn u2 7) ((u2 3).o 0) (nn u2 3) (nn u1 2) (nn u1 3) t9 w hB ht9) (λu7 w hF=>⟨⟨qP (qj hF.1) (λj h=>⟨_,(.head _),h⟩),qP (qj hF.2.1) (λj h=>⟨_,(.tail _ (.head _)),h⟩),Zf hF.2.2.1 (.tail _ (.tail _ (.head _))) rfl,qP (qj hF.2.2.2.1) (λj h=>⟨_,(.tail _ (.tail _ (.tail _ (.head _)))),h⟩),Zf hF.2.2.2.2.1 (.tail _ (.tail _ (.tail _ (.tail _ (.head _))))) rfl,qP (qj hF.2.2.2.2.2.1) (λj h=>⟨_,(.tail _ (.tail _ (.tail _ (.tail _ (.tail _ (.head _)))))),h⟩),Zf hF.2.2.2.2.2.2.1 (.tail _ (.tail _ (.tail _ (.tail _ (.tail _ (.tail _ (.head _))))))) rfl,Zf hF.2.2.2.2.2.2.2.1 (.tail _ (.tail _ (.tail _ (.tail _ (.tail _ (.tail _ (.tail _ (.head _)))))))) rfl,Zf hF.2.2.2.2.2.2.2.2.1 (.tail _ (.tail _ (.tail _ (.tail _ (.tail _ (.tail _ (.tail _ (.tail _ (.head _))))))))) rfl,Je hF.2.2.2.2.2.2.2.2.2.1 (.tail _ (.tail _ (.tail _ (.tail _ (.tail _ (.tail _ (.tail _ (.tail _ (.tail _ (.head _)))))))))),trivial⟩,trivial⟩) (λu7 g=>(qk Qf qx)) (.inr (λu7 g=>(Qg trivial (λK h=>by cases h)))) (λh=>by cases h)) (λu7 S a w H=>H.demote fr 59 46 2 ((u7 15).o 0) t9.length (nn u7 15) (t9.flatMap qa) (by kernel_rfl) (by decide) hBf))<|.cons [40] (qr (λu7=>.agg #[vI a2.T,vI a2.H,.slice p_a1 a1.length c_a1,.slice ((u2 3).o 0) t3.1.length (nn u2 3),.slice ((u7 9).o 0) t8.length (nn u7 9),.slice ((u7 15).o 0) t9.length (nn u7 15)]) 40)<|.cons [41,60,61,62,63] (Qp true fr [9,15] [46,52,58,59] (λu7=>[qy fr 2 p_a1 c_a1 a1 qa,YI fr 2 ((u2 3).o 0) t3.1.length (nn u2 3) (t3.1.flatMap qa),YI fr 2 ((u7 9).o 0) t8.length (nn u7 9) (t8.flatMap qa),YI fr 2 ((u7 15).o 0) t9.length (nn u7 15) (t9.flatMap qa)]) [] (λu7=>[]) 81 _ (λu7=>[]) _ _ _ [60,61,62,63] 41 (λu7 w hB hF hM=>ZJ.calls k0 (⟨a2.T,a2.H,a1,t3.1,t8,t9⟩:qW) p_a1 c_a1 ((u2 3).o 0) (nn u2 3) ((u7 9).o 0) (nn u7 9) ((u7 15).o 0) (nn u7 15) t10 w hF ht10) (λu7 w hF=>⟨trivial,⟨Zv (qj hF.1) (λj h=>Zw (.head _) (λh=>h) h (YV hF.1 _ h)),Zv (qj hF.2.1) (λj h=>Zw (.tail _ (.head _)) (λh=>h) h (YV hF.2.1 _ h)),Zv (qj hF.2.2.1) (λj h=>Zw (.tail _ (.tail _ (.head _))) (λh=>h) h (YV hF.2.2.1 _ h)),Zv (qj hF.2.2.2.1) (λj h=>Zw (.tail _ (.tail _ (.tail _ (.head _)))) (λh=>h) h (YV hF.2.2.2.1 _ h)),trivial⟩⟩) (λu7 g=>(qk (QP (by decide)) (qk (QP (by decide)) (qk (QP (by decide)) (qk (QP (by decide)) qx))))) (.inl rfl) (λ_=>hBf) (hloc:=λu u' h=>by refine ⟨?_,?_,?_,?_,?_,?_⟩ <;> first | rfl | simp only [nn, h 9 (by decide),h 15 (by decide)]))<|.cons [42] (qr (λu7=>.agg #[vI t10.1.T,vI t10.1.H,.slice ((u7 17).o 0) t10.1.From.length (nn u7 17),.slice ((u7 17).o 1) t10.1.Pre.length ((u7 17).n 1),.slice ((u7 17).o 2) t10.1.Tube.length ((u7 17).n 2),.slice ((u7 17).o 3) t10.1.To.length ((u7 17).n 3)]) 42)<|.v 43 (.bool t10.2)<|.cons [51] (QF (u':=λu7=>[(51,.blk (nn u1 4) [vI t10.1.T,vI t10.1.H,.slice ((u7 17).o 0) t10.1.From.length (nn u7 17),.slice ((u7 17).o 1) t10.1.Pre.length ((u7 17).n 1),.slice ((u7 17).o 2) t10.1.Tube.length ((u7 17).n 2),.slice ((u7 17).o 3) t10.1.To.length ((u7 17).n 3)] 63)]) (qK 51 0 (λu7=>(nn u1 4)) (λu7=>[vI 0,vI 0,.slice none 0 0,.slice none 0 0,.slice none 0 0,.slice none 0 0]) (λu7=>[vI t10.1.T,vI t10.1.H,.slice ((u7 17).o 0) t10.1.From.length (nn u7 17),.slice ((u7 17).o 1) t10.1.Pre.length ((u7 17).n 1),.slice ((u7 17).o 2) t10.1.Tube.length ((u7 17).n 2),.slice ((u7 17).o 3) t10.1.To.length ((u7 17).n 3)]) 63) (λ_=>by kernel_rfl))<|.v 9 (.bool t10.2)<|.nil) (by kernel_rfl) λu7 a w' H=>?_
  replace H:=H.kp [8,9,51,60,61,62,63,999999]
  refine qB ?_
  obtain rfl:=sj G
  obtain ⟨g,o0,n0,o1,n1,o2,n2,o3,n3⟩:∃ g:Gh,g.o 0=((u7 17).o 0)∧g.n 0=(nn u7 17)∧g.o 1=((u7 17).o 1)∧g.n 1=((u7 17).n 1)∧g.o 2=((u7 17).o 2)∧g.n 2=((u7 17).n 2)∧g.o 3=((u7 17).o 3)∧g.n 3=((u7 17).n 3):=⟨⟨λi=>[(nn u7 17),((u7 17).n 1),((u7 17).n 2),((u7 17).n 3)].getD i 0,λi=>[((u7 17).o 0),((u7 17).o 1),((u7 17).o 2),((u7 17).o 3)].getD i none,λi=>([⟨Unit,()⟩,⟨Unit,()⟩,⟨Unit,()⟩,⟨Unit,()⟩]:List ((T:Type)×T)).getD i ⟨Unit,()⟩⟩,rfl,rfl,rfl,rfl,rfl,rfl,rfl,rfl⟩
  refine Qz H _ g _ _ _ fr [60,61,62,63] [(51,⟨(nn u1 4),[vI t10.1.T,vI t10.1.H,.slice ((u7 17).o 0) t10.1.From.length (nn u7 17),.slice ((u7 17).o 1) t10.1.Pre.length ((u7 17).n 1),.slice ((u7 17).o 2) t10.1.Tube.length ((u7 17).n 2),.slice ((u7 17).o 3) t10.1.To.length ((u7 17).n 3)],0,6⟩)] (.tuple #[.agg #[vI t10.1.T,vI t10.1.H,.slice ((u7 17).o 0) t10.1.From.length (nn u7 17),.slice ((u7 17).o 1) t10.1.Pre.length ((u7 17).n 1),.slice ((u7 17).o 2) t10.1.Tube.length ((u7 17).n 2),.slice ((u7 17).o 3) t10.1.To.length ((u7 17).n 3)],.bool t10.2]) [λfr=>YI fr 2 ((u7 17).o 0) t10.1.From.length (nn u7 17) (t10.1.From.flatMap qa),λfr=>YI fr 2 ((u7 17).o 1) t10.1.Pre.length ((u7 17).n 1) (t10.1.Pre.flatMap qa),λfr=>YI fr 2 ((u7 17).o 2) t10.1.Tube.length ((u7 17).n 2) (t10.1.Tube.flatMap qa),λfr=>YI fr 2 ((u7 17).o 3) t10.1.To.length ((u7 17).n 3) (t10.1.To.flatMap qa)] (by simp only [Ql,o0,n0,o1,n1,o2,n2,o3,n3]) (by simp only [Ql,o0,n0,o1,n1,o2,n2,o3,n3]) hfr (.inl ⟨rfl,rfl⟩) (qk (QP (by decide)) (qk (QP (by decide)) (qk (QP (by decide)) (qk (QP (by decide)) qx)))) (by intro p hp; simp only [List.mem_cons,List.not_mem_nil,or_false] at hp; rcases hp with rfl; exact ⟨⟨63,by kernel_rfl⟩,by kernel_rfl⟩)
theorem Yi.calls (a0:qb)(q0:qJ)(b_q0:Nat)(r:Bool)(w:World)(hB:Xp [Xf b_q0 [vI q0.Order,vI q0.First,vI q0.Least,vI q0.Most,vI q0.Wide] 27] w)(G:Yi a0 q0=some r) :
  Calls Tryz.prog 82 #[.agg #[vI a0.Lo,vI a0.Hi],vP b_q0 0] w λe w'=>e = .returned (.bool r)∧Below w.heap.size w w':=by
 obtain ⟨fr,hfr⟩:∃ fr:Nat->Prop,∀ j,fr j:=⟨λ_=>True,λ_=>trivial⟩
 have hBf:∀ j,w.heap.size<=j->fr j:=λj _=>hfr j
 refine QA (args:=[.agg #[vI a0.Lo,vI a0.Hi],vP b_q0 0]) 9 [(9,Xf b_q0 [vI q0.Order,vI q0.First,vI q0.Least,vI q0.Most,vI q0.Wide] 27)] (by
  intro x hx
  simp only [List.mem_cons,List.not_mem_nil,or_false] at hx
  rcases hx with rfl
  exact QH (hB.1 w (agree.refl _ _)) _) Tryz.func82 rfl λa H=>?_
 unfold Yi at G
 refine qg qd H (.cons [2,10] (qn (λb=>vP b 0) (λu1=>[vI a0.Lo,vI a0.Hi]) 46 2 10)<|.v 3 (.bool false)<|.nil) [1,2,10,9] λu1 a w' H=>?_
 obtain ⟨t3,ht3,G⟩:=qO G
 refine qg qd H (.cons [4] (qf (.agg #[vI a0.Lo,vI a0.Hi]) 4 10 0 2 (nn u1 0) [vI a0.Lo,vI a0.Hi] 46)<|.cons [5] (qm 83 _ _ 5 [] (λu2 w _=>Ys.calls a0 t3 w ht3))<|.v 6 (vP b_q0 4)<|.cons [7] (QV (λu2=>vI q0.Wide) 7 9 (Xf b_q0 [vI q0.Order,vI q0.First,vI q0.Least,vI q0.Most,vI q0.Wide] 27) b_q0 4 1 [vI q0.Order,vI q0.First,vI q0.Least,vI q0.Most,vI q0.Wide] (λw h=>Za h))<|.v 8 (.bool (decide (t3>q0.Wide)))<|.v 3 (.bool (decide (t3>q0.Wide)))<|.nil) [3,9] λu2 a w' H=>?_
 refine qB ?_
 obtain rfl:=sj G
 exact Qr H _
theorem Qv.calls (k0:Nat)(a0:List qb)(a1_0:qJ)(p_a0:Option Addr)(c_a0:Nat)(b_a1_0:Nat)(r:Int)(w:World)(hB:Xp [qy ql 2 p_a0 c_a0 a0 qa,Xf b_a1_0 [vI a1_0.Order,vI a1_0.First,vI a1_0.Least,vI a1_0.Most,vI a1_0.Wide] 27] w)(G:Qv k0 a0 a1_0=some r) :
  Calls Tryz.prog 103 #[.slice p_a0 a0.length c_a0,.func (.func 82) #[] #[vP b_a1_0 0]] w λe w'=>e = .returned (vI r)∧Below w.heap.size w w':=by
 obtain ⟨fr,hfr⟩:∃ fr:Nat->Prop,∀ j,fr j:=⟨λ_=>True,λ_=>trivial⟩
 have hBf:∀ j,w.heap.size<=j->fr j:=λj _=>hfr j
 refine QA (args:=[.slice p_a0 a0.length c_a0,.func (.func 82) #[] #[vP b_a1_0 0]]) 19 [(19,qy ql 2 p_a0 c_a0 a0 qa),(20,Xf b_a1_0 [vI a1_0.Order,vI a1_0.First,vI a1_0.Least,vI a1_0.Most,vI a1_0.Wide] 27)] (by
  intro x hx
  simp only [List.mem_cons,List.not_mem_nil,or_false] at hx
  rcases hx with rfl | rfl
  ·exact qv (qj hB.1) (λ_ _=>trivial) (by decide) _
  ·exact QH (hB.2.1 w (agree.refl _ _)) _) Tryz.func103 rfl λa H=>?_
 unfold Qv at G
 refine qg qd H (.v 4 (vI 0)<|.nil) [0,1,19,20] λu1 a w' H=>?_
 refine qs ?_
 obtain ⟨j2,hj2,Gj2⟩:=qO G
 refine Xu (λa w'=>∃ j2v,j2=Sum.inr j2v∧RL w 19 [(20,Xf b_a1_0 [vI a1_0.Order,vI a1_0.First,vI a1_0.Least,vI a1_0.Most,vI a1_0.Wide] 27)] a w') ?_ ?_
 ·clear H; rintro a w' ⟨j2v,rfl,H⟩; have G:=Gj2; clear Gj2; dsimp only at G
  refine qg qd H (.v 4 (vI (-1))<|.nil) [4,20] λu3 a w' H=>?_
  refine qB ?_
  obtain rfl:=sj G
  exact Qr H _
 ·have G:=hj2; clear hj2
  refine qg qd H (.v 6 (.slice p_a0 a0.length c_a0)<|.v 7 (vI (a0.length:Int))<|.v 8 (vI 0)<|.nil) [0,1,7,8,19,20] λu4 a w' H=>?_
  refine qV ?_
  refine XY (λm a w'=>∃ x5:Int,Qv.l6 k0 a0 a1_0 m x5=some j2∧RL w 19 [(0,sS p_a0 a0.length c_a0),(1,.slot true (.func (.func 82) #[] #[vP b_a1_0 0])),(7,(sI (a0.length:Int))),(8,sI x5),(19,qy ql 2 p_a0 c_a0 a0 qa),(20,Xf b_a1_0 [vI a1_0.Order,vI a1_0.First,vI a1_0.Least,vI a1_0.Most,vI a1_0.Wide] 27)] a w') k0 ⟨_,G,H.toM _⟩ ?_
  clear G H
  rintro (_ | k) a w' ⟨x5,G,H⟩
  ·exact absurd G (by unfold Qv.l6; exact λh=>by cases h)
  ·unfold Qv.l6 at G
   refine qg qd H (.v 9 (.bool (decide (x5<(a0.length:Int))))<|.nil) [0,1,7,8,9,19,20] λu7 a w' H=>?_
   refine qs ?_
   refine Qu H (decide (x5<(a0.length:Int))) (λc16=>?_) λc16=>?_
   ·rw [if_pos c16] at G
    refine q8 ?_
    refine qs ?_
    refine qV ?_
    refine qg qd H (.v 10 (vI x5)<|.v 5 (vI x5)<|.nil) [0,1,5,7,8,19,20] λu8 a w' H=>?_
    refine qs ?_
    replace G:=gd G; obtain ⟨b10,G⟩:=G
    obtain ⟨t11,ht11,G⟩:=qO G
    obtain ⟨t12,ht12,G⟩:=qO G
    refine Qq qd H (.v 11 (.func (.func 82) #[] #[vP b_a1_0 0])<|.v 12 (.slice p_a0 a0.length c_a0)<|.v 13 (vI x5)<|.cons [14] (qL 19 (qy ql 2 p_a0 c_a0 a0 qa) (.pointer (some ⟨XR p_a0,XV p_a0+x5.toNat*2,none⟩)) 14 λ_ w h=>JT 48 .i64 x5 p_a0 a0.length c_a0 a0 qa (qj h).2 qe rfl b10)<|.cons [15] (qL 19 (qy ql 2 p_a0 c_a0 a0 qa) (.agg #[vI t11.Lo,vI t11.Hi]) 15 λ_ w h=>Y4 qa (qj h).2 qe ht11 0 2 [vI t11.Lo,vI t11.Hi])<|.cons [16] (Q6 [20] (λu9=>[Xf b_a1_0 [vI a1_0.Order,vI a1_0.First,vI a1_0.Least,vI a1_0.Most,vI a1_0.Wide] 27]) 82 _ _ 16 (λu9 w hF=>Yi.calls t11 a1_0 b_a1_0 t12 w ⟨(QH (hF.1 w (agree.refl _ _)) 0).2.1,trivial⟩ ht12))<|.nil) [0,1,5,7,8,16,19,20] λu9 a w' H=>?_
    refine Qu H t12 (λc15=>?_) λc15=>?_
    ·rw [if_pos c15] at G
     refine qg qd H (.v 17 (vI x5)<|.v 4 (vI x5)<|.nil) [4,20] λu13 a w' H=>?_
     refine qB ?_
     obtain rfl:=sj G
     replace G:=Gj2
     obtain rfl:=sj G
     exact Qr H _
    ·rw [if_neg (nt c15)] at G
     refine q8 ?_
     refine Qq qd H (.v 18 (vI (qc (x5+1)))<|.v 8 (vI (qc (x5+1)))<|.nil) [0,1,7,8,19,20] λu14 a w' H=>?_
     exact ⟨k,Nat.lt_succ_self k,_,G,H.toM _⟩
   ·rw [if_neg (nt c16)] at G
    refine Yx rfl ?_
    obtain rfl:=sj G
    exact ⟨_,rfl,H.toM _⟩
theorem Xw.calls (k0:Nat)(a0:List qb)(a1_0:qJ)(p_a0:Option Addr)(c_a0:Nat)(b_a1_0:Nat)(r:Bool)(w:World)(hB:Xp [qy ql 2 p_a0 c_a0 a0 qa,Xf b_a1_0 [vI a1_0.Order,vI a1_0.First,vI a1_0.Least,vI a1_0.Most,vI a1_0.Wide] 27] w)(G:Xw k0 a0 a1_0=some r) :
  Calls Tryz.prog 84 #[.slice p_a0 a0.length c_a0,.func (.func 82) #[] #[vP b_a1_0 0]] w λe w'=>e = .returned (.bool r)∧Below w.heap.size w w':=by
 obtain ⟨fr,hfr⟩:∃ fr:Nat->Prop,∀ j,fr j:=⟨λ_=>True,λ_=>trivial⟩
 have hBf:∀ j,w.heap.size<=j->fr j:=λj _=>hfr j
 refine QA (args:=[.slice p_a0 a0.length c_a0,.func (.func 82) #[] #[vP b_a1_0 0]]) 9 [(9,qy ql 2 p_a0 c_a0 a0 qa),(10,Xf b_a1_0 [vI a1_0.Order,vI a1_0.First,vI a1_0.Least,vI a1_0.Most,vI a1_0.Wide] 27)] (by
  intro x hx
  simp only [List.mem_cons,List.not_mem_nil,or_false] at hx
  rcases hx with rfl | rfl
  ·exact qv (qj hB.1) (λ_ _=>trivial) (by decide) _
  ·exact QH (hB.2.1 w (agree.refl _ _)) _) Tryz.func84 rfl λa H=>?_
 unfold Xw at G
 refine qg qd H (.v 4 (.bool false)<|.nil) [0,1,9,10] λu1 a w' H=>?_
 obtain ⟨t3,ht3,G⟩:=qO G
 refine qg qd H (.v 5 (.slice p_a0 a0.length c_a0)<|.v 6 (.func (.func 82) #[] #[vP b_a1_0 0])<|.cons [7] (Q6 [9,10] (λu2=>[qy ql 2 p_a0 c_a0 a0 qa,Xf b_a1_0 [vI a1_0.Order,vI a1_0.First,vI a1_0.Least,vI a1_0.Most,vI a1_0.Wide] 27]) 103 _ _ 7 (λu2 w hF=>Qv.calls k0 a0 a1_0 p_a0 c_a0 b_a1_0 t3 w ⟨(JU (qj hF.1)),(QH (hF.2.1 w (agree.refl _ _)) 0).2.1,trivial⟩ ht3))<|.v 8 (.bool (decide (t3>=0)))<|.v 4 (.bool (decide (t3>=0)))<|.nil) [4,10] λu2 a w' H=>?_
 refine qB ?_
 obtain rfl:=sj G
 exact Qr H _
theorem Zi.calls (k0:Nat)(a0:qJ)(a1:qW)(p_a1_From:Option Addr)(c_a1_From:Nat)(p_a1_Pre:Option Addr)(c_a1_Pre:Nat)(p_a1_Tube:Option Addr)(c_a1_Tube:Nat)(p_a1_To:Option Addr)(c_a1_To:Nat)(r:Bool)(w:World)(hB:Xp [qy ql 2 p_a1_From c_a1_From a1.From qa,qy ql 2 p_a1_Pre c_a1_Pre a1.Pre qa,qy ql 2 p_a1_Tube c_a1_Tube a1.Tube qa,qy ql 2 p_a1_To c_a1_To a1.To qa] w)(G:Zi k0 a0 a1=some r) :
  Calls Tryz.prog 57 #[.agg #[vI a0.Order,vI a0.First,vI a0.Least,vI a0.Most,vI a0.Wide],.agg #[vI a1.T,vI a1.H,.slice p_a1_From a1.From.length c_a1_From,.slice p_a1_Pre a1.Pre.length c_a1_Pre,.slice p_a1_Tube a1.Tube.length c_a1_Tube,.slice p_a1_To a1.To.length c_a1_To]] w λe w'=>e = .returned (.bool r)∧Below w.heap.size w w':=by
 obtain ⟨fr,hfr⟩:∃ fr:Nat->Prop,∀ j,fr j:=⟨λ_=>True,λ_=>trivial⟩
 have hBf:∀ j,w.heap.size<=j->fr j:=λj _=>hfr j
 refine QA (args:=[.agg #[vI a0.Order,vI a0.First,vI a0.Least,vI a0.Most,vI a0.Wide],.agg #[vI a1.T,vI a1.H,.slice p_a1_From a1.From.length c_a1_From,.slice p_a1_Pre a1.Pre.length c_a1_Pre,.slice p_a1_Tube a1.Tube.length c_a1_Tube,.slice p_a1_To a1.To.length c_a1_To]]) 19 [(19,qy ql 2 p_a1_From c_a1_From a1.From qa),(20,qy ql 2 p_a1_Pre c_a1_Pre a1.Pre qa),(21,qy ql 2 p_a1_Tube c_a1_Tube a1.Tube qa),(22,qy ql 2 p_a1_To c_a1_To a1.To qa)] (by
  intro x hx
  simp only [List.mem_cons,List.not_mem_nil,or_false] at hx
  rcases hx with rfl | rfl | rfl | rfl
  ·exact qv (qj hB.1) (λ_ _=>trivial) (by decide) _
  ·exact qv (qj hB.2.1) (λ_ _=>trivial) (by decide) _
  ·exact qv (qj hB.2.2.1) (λ_ _=>trivial) (by decide) _
  ·exact qv (qj hB.2.2.2.1) (λ_ _=>trivial) (by decide) _) Tryz.func57 rfl λa H=>?_
 unfold Zi at G
 refine qg qd H (.cons [2,23] (qn (λb=>vP b 0) (λu1=>[vI a0.Order,vI a0.First,vI a0.Least,vI a0.Most,vI a0.Wide]) 27 2 23)<|.cons [3,24] (qn (λb=>vP b 0) (λu1=>[vI a1.T,vI a1.H,.slice p_a1_From a1.From.length c_a1_From,.slice p_a1_Pre a1.Pre.length c_a1_Pre,.slice p_a1_Tube a1.Tube.length c_a1_Tube,.slice p_a1_To a1.To.length c_a1_To]) 63 3 24)<|.v 4 (.bool false)<|.nil) [2,3,19,20,21,22,23,24] λu1 a w' H=>?_
 refine qg qd H (.v 6 (.func (.func 82) #[] #[vP (nn u1 0) 0])<|.v 5 (.func (.func 82) #[] #[vP (nn u1 0) 0])<|.nil) [3,5,19,20,21,22,23,24] λu2 a w' H=>?_
 obtain ⟨t4,ht4,G⟩:=qO G
 obtain ⟨t5,ht5,G⟩:=qO G
 refine qg qd H (.v 7 (vP (nn u1 1) 5)<|.cons [8] (qf (.slice p_a1_To a1.To.length c_a1_To) 8 24 5 1 (nn u1 1) [vI a1.T,vI a1.H,.slice p_a1_From a1.From.length c_a1_From,.slice p_a1_Pre a1.Pre.length c_a1_Pre,.slice p_a1_Tube a1.Tube.length c_a1_Tube,.slice p_a1_To a1.To.length c_a1_To] 63)<|.v 9 (.func (.func 82) #[] #[vP (nn u1 0) 0])<|.cons [10] (Q6 [22,23] (λu3=>[qy ql 2 p_a1_To c_a1_To a1.To qa,.blk (nn u1 0) [vI a0.Order,vI a0.First,vI a0.Least,vI a0.Most,vI a0.Wide] 27]) 84 _ _ 10 (λu3 w hF=>Xw.calls k0 a1.To a0 p_a1_To c_a1_To (nn u1 0) t4 w ⟨(JU (qj hF.1)),(QH hF.2.1 0).2.1,trivial⟩ ht4))<|.v 11 (.bool (!t4))<|.v 12 (.bool (!t4))<|.cons [13] (qE (λu3=>vP (nn u1 1) 4) (λu3=>((!t4)==true)) [true] 13)<|.cons [14] (YL (λu3=>.slice p_a1_Tube a1.Tube.length c_a1_Tube) (λu3=>((!t4)==true)) [false] 14 24 4 1 (λu3=>(nn u1 1)) (λu3=>[vI a1.T,vI a1.H,.slice p_a1_From a1.From.length c_a1_From,.slice p_a1_Pre a1.Pre.length c_a1_Pre,.slice p_a1_Tube a1.Tube.length c_a1_Tube,.slice p_a1_To a1.To.length c_a1_To]) 63)<|.cons [15] (qE (λu3=>.func (.func 82) #[] #[vP (nn u1 0) 0]) (λu3=>((!t4)==true)) [true] 15)<|.cons [16] (WU [21,23] (λu3=>[qy ql 2 p_a1_Tube c_a1_Tube a1.Tube qa,.blk (nn u1 0) [vI a0.Order,vI a0.First,vI a0.Least,vI a0.Most,vI a0.Wide] 27]) 84 (λu3=>#[.slice p_a1_Tube a1.Tube.length c_a1_Tube,.func (.func 82) #[] #[vP (nn u1 0) 0]]) (.bool t5) (λu3=>((!t4)==true)) [true,false,false] 16 (λu3 w hg hF=>Xw.calls k0 a1.Tube a0 p_a1_Tube c_a1_Tube (nn u1 0) t5 w ⟨(JU (qj hF.1)),(QH hF.2.1 0).2.1,trivial⟩ (ifp ht5 hg)))<|.cons [17] (qE (λu3=>.bool (!t5)) (λu3=>((!t4)==true)) [false] 17)<|.cons [18] (YH 12 17 (λu3=>true) (λu3=>true) (λu3=>(!t4)) (λu3=>(!t5)) 18)<|.v 4 (.bool ((!t4)&&(!t5)))<|.nil) [4] λu3 a w' H=>?_
 refine qB ?_
 obtain rfl:=sj G
 exact Qr H _
theorem Z9.calls (a0:qJ)(a1:Int)(r:Int)(w:World)(G:Z9 a0 a1=some r) :
  Calls Tryz.prog 58 #[.agg #[vI a0.Order,vI a0.First,vI a0.Least,vI a0.Most,vI a0.Wide],vI a1] w λe w'=>e = .returned (vI r)∧Below w.heap.size w w':=by
 refine Qs (args:=[.agg #[vI a0.Order,vI a0.First,vI a0.Least,vI a0.Most,vI a0.Wide],vI a1]) 10 Tryz.func58 rfl λa H=>?_
 unfold Z9 at G
 refine qg qd H (.cons [2,10] (qn (λb=>vP b 0) (λu1=>[vI a0.Order,vI a0.First,vI a0.Least,vI a0.Most,vI a0.Wide]) 27 2 10)<|.v 4 (vI 0)<|.nil) [1,2,10] λu1 a w' H=>?_
 refine qg qd H (.v 5 (vI a1)<|.v 6 (vI (qc (2*a1)))<|.v 7 (vP (nn u1 0) 3)<|.cons [8] (qf (vI a0.Most) 8 10 3 1 (nn u1 0) [vI a0.Order,vI a0.First,vI a0.Least,vI a0.Most,vI a0.Wide] 27)<|.v 9 (vI (mn (qc (2*a1)) a0.Most))<|.v 4 (vI (mn (qc (2*a1)) a0.Most))<|.nil) [4] λu2 a w' H=>?_
 refine qB ?_
 obtain rfl:=sj G
 exact Qr H _
theorem q7.ok (k0:Nat)(q0:Int)(q1:qJ)(b_q0:Nat)(b_q1:Nat)(lo:Nat)(hne_b_q1:b_q1≠b_q0)(r:List (Int))(G:q7 k0 q0 q1=some r) :
  qdR (γ:=Unit) Tryz.prog 76 #[vP b_q0 0,vP b_q1 0] (λx _=>#[vI x]) (λ_ _=>[]) r (· = b_q0) (λw=>Xp [Xf b_q1 [vI q1.Order,vI q1.First,vI q1.Least,vI q1.Most,vI q1.Wide] 27] w) (λW=>W.heap[b_q0]?=some (.cells [vI q0].toArray 2 (0,0))) lo:=by
 intro l J JX base hJ hJX hF w hJc hXc hOl hlo hY W h0 hOx hsz
 have hB:=hF _ _ h0
 obtain ⟨fr,hfr⟩:∃ fr:Nat->Prop,∀ j,fr j:=⟨λ_=>True,λ_=>trivial⟩
 have hBf:∀ j,w.heap.size<=j->fr j:=λj _=>hfr j
 have hFB:∀ x ∈ ([(19,Xf b_q1 [vI q1.Order,vI q1.First,vI q1.Least,vI q1.Most,vI q1.Wide] 27)]:List (Nat×KV)),(∃ fp F,x.2 = .fact fp F)∧x.2.holds W ∧ ∀ i,x.2.fp i->i<W.heap.size:=by
  intro x hx
  simp only [List.mem_cons,List.not_mem_nil,or_false] at hx
  rcases hx with rfl
  ·exact QH (hB.1 W (agree.refl _ _)) _
 have hFX:∀ x ∈ ([(19,Xf b_q1 [vI q1.Order,vI q1.First,vI q1.Least,vI q1.Most,vI q1.Wide] 27)]:List (Nat×KV)),(∃ fp F,x.2 = .fact fp F) ∧ ∀ i,x.2.fp i->i<base ∧ ¬ (· = b_q0) i:=λx hx=>⟨(hFB x hx).1,λi hi=>⟨by rw [<- hsz]; exact (hFB x hx).2.2 i hi,by
  simp only [List.mem_cons,List.not_mem_nil,or_false] at hx
  rcases hx with rfl
  ·exact λhe=>(λi hi he=>hne_b_q1 ((show i=b_q1 from hi) ▸ he)) i hi he⟩⟩
 have hFJ:∀ s W,J s W -> ∀ x ∈ ([(19,Xf b_q1 [vI q1.Order,vI q1.First,vI q1.Least,vI q1.Most,vI q1.Wide] 27)]:List (Nat×KV)),x.2.holds W:=λs W h=>qap _ (hF _ _ h)
 have hbase:0<base:=Nat.lt_of_le_of_lt (Nat.zero_le _) ((hFX _ (.head _)).2 b_q1 rfl).1
 refine qak (args:=[.func (.yield l) #[] #[],vP b_q0 0,vP b_q1 0]) 18 Tryz.func76 rfl λa H=>?_
 replace H:=(H.again W (hJc _ _ h0) (Nat.zero_le _) ([(19,Xf b_q1 [vI q1.Order,vI q1.First,vI q1.Least,vI q1.Most,vI q1.Wide] 27)]++[(20,jO (· = b_q0) base w (J r))]) (λx hx=>(List.mem_append.1 hx).elim (hFB x) λhx=>by
  rw [List.mem_singleton.1 hx]
  exact ⟨⟨_,_,rfl⟩,qar hbase hOl (Nat.le_of_eq hsz.symm) (λW' hs=>hJ _ _ _ h0 hs) (hJc _ _ h0),λi hi=>by rw [hsz]; exact hi.1⟩)).toL [(0,.slot true (.func (.yield l) #[] #[])),(1,sP b_q0 0),(2,sP b_q1 0),(19,Xf b_q1 [vI q1.Order,vI q1.First,vI q1.Least,vI q1.Most,vI q1.Wide] 27),(20,jO (· = b_q0) base w (J r))] (by kernel_rfl)
 replace H:=(H.lent (cs:=[vI q0]) 18 hOx (qeY _ (by
  intro x hx hi
  simp only [List.mem_cons,List.not_mem_nil,or_false] at hx
  rcases hx with rfl | rfl | rfl | rfl | rfl
  all_goals first | exact hi | exact hi.2 rfl | exact hne_b_q1 (show b_q0=b_q1 from hi).symm))).toL [(0,.slot true (.func (.yield l) #[] #[])),(1,sP b_q0 0),(2,sP b_q1 0),(18,.blk b_q0 [vI q0] 2),(19,Xf b_q1 [vI q1.Order,vI q1.First,vI q1.Least,vI q1.Most,vI q1.Wide] 27),(20,jO (· = b_q0) base w (J r))] (by kernel_rfl)
 clear hB hFB h0 hsz
 unfold q7 at G
 refine XJ ?_
 refine X0 qd H (.v 4 (vI 0)<|.nil) (by kernel_rfl) (by kernel_rfl) λu1 a w' H=>?_
 replace H:=H.kp [0,1,2,4,18,19,20]
 refine ZT ?_
 refine qan (λm a w'=>∃ r,∃ x2:Int,∃ x3:Int,q7.l4 k0 q0 q1 m x2 x3=some r∧QB 0 w 18 (Jf [(0,.slot true (.func (.yield l) #[] #[])),(1,sP b_q0 0),(2,sP b_q1 0),(4,sI x2),(18,.blk b_q0 [vI x3] 2),(19,Xf b_q1 [vI q1.Order,vI q1.First,vI q1.Least,vI q1.Most,vI q1.Wide] 27),(20,jO (· = b_q0) base w (J r))]) a w') k0 ⟨_,_,_,G,H.toM _⟩ ?_
 clear H G
 rintro (_ | k1) a w' ⟨r,x2,x3,G,H⟩
 ·exact absurd G (by unfold q7.l4; exact λh=>by cases h)
 ·unfold q7.l4 at G
  refine XJ ?_
  refine XJ ?_
  replace G:=qO G; obtain ⟨z6,hz6,G⟩:=G
  replace hz6:=Option.some.inj hz6
  by_cases c7:z6=true
  ·rw [if_pos c7] at G; subst c7
   replace G:=qO G; obtain ⟨r,hr,G⟩:=G; obtain rfl:=sj G; replace G:=hr; clear hr
   refine qgG (qd7 (Rp:=qez (· = b_q0) 20 [19] [18] base w 18) qd ⟨H.toM [(0,.slot true (.func (.yield l) #[] #[])),(1,sP b_q0 0),(2,sP b_q1 0),(4,sI x2),(18,.blk b_q0 [vI x3] 2),(19,Xf b_q1 [vI q1.Order,vI q1.First,vI q1.Least,vI q1.Most,vI q1.Wide] 27),(20,jO (· = b_q0) base w (J (x3 :: r)))] (by kernel_rfl),qaN _ (by kernel_rfl)⟩ (.cons [5] (okg (qr (λu5=>vI x2) 5))<|.cons [6] (okg (qr (λu5=>.bool (x2==0)) 6))<|.cons [7] (okg (QF (u':=λu5=>[(7,sB true)]) (qr (λu5=>.bool (x2==0)) 7) (λ_=>by rw [hz6])))<|.cons [8] (okg (Vw (qr (λu5=>.func (.yield l) #[] #[]) 8) (by intro _; kernel_rfl)))<|.cons [9] (okg (Vw (qf (vI x3) 9 18 0 1 b_q0 [vI x3] 2) (by intro _; kernel_rfl)))<|.cons [10,20,19,18] (WR (O:=(· = b_q0)) (base:=base) 20 [19] [18] l (λu5=>#[vI x3]) (J (x3 :: r)) (J r) JX 10 hbase hOl (by intro _; kernel_rfl) (λu5 W1 h1 hb1 hk1=>hY x3 () r W1 h1 hb1 (λx hx=>by cases hx)) (λW1 W2 h1 h2=>hJ _ _ _ h1 h2) hJX (λW1 h1=>hJc _ _ h1) hXc (by rfl) (by rfl) (by rfl))<|.cons [11] (okg (JK (λu5=>.bool (decide (nn u5 5=1))) 11))<|(.nil)) (by kernel_rfl) (λS a w1 h=>⟨h.1.world ⟨rfl,rfl,rfl,Nat.le_refl _,λ_ _=>rfl⟩,h.2⟩) λu5 a w' H=>?_)
   replace H:=H.1.toL [(0,.slot true (.func (.yield l) #[] #[])),(1,sP b_q0 0),(2,sP b_q1 0),(8,.slot true (.func (.yield l) #[] #[])),(9,sI x3),(10,(sB (decide (nn u5 5=1)))),(11,(sB (decide (nn u5 5=1)))),(18,bif decide (nn u5 5=1) then .blk b_q0 [vI x3] 2 else .none),(20,bif decide (nn u5 5=1) then jO (· = b_q0) base w (J r) else jK ((u5 5).n 1) w JX)] (by kernel_rfl)
   rcases Bool.eq_false_or_eq_true (decide (nn u5 5=1)) with hb | hb
   ·rw [hb] at H
    replace H:=H.kp [0,1,2,8,9,10,11,18,20]
    replace H:=(QB.readdO (O:=(· = b_q0)) (J:=J r) 20 [(19,Xf b_q1 [vI q1.Order,vI q1.First,vI q1.Least,vI q1.Most,vI q1.Wide] 27)] _ H hFX (λW1 h1=>hFJ _ _ h1) (by kernel_rfl) (qaw (O:=(· = b_q0)) (J:=J r) hbase hOl 20 H (by kernel_rfl)) (by rfl)).toL [(0,.slot true (.func (.yield l) #[] #[])),(1,sP b_q0 0),(2,sP b_q1 0),(8,.slot true (.func (.yield l) #[] #[])),(9,sI x3),(10,sB true),(11,sB true),(18,.blk b_q0 [vI x3] 2),(19,Xf b_q1 [vI q1.Order,vI q1.First,vI q1.Least,vI q1.Most,vI q1.Wide] 27),(20,jO (· = b_q0) base w (J r))] (by kernel_rfl)
    refine JW H (by kernel_rfl) (by kernel_rfl) ?_
    refine Z7 ?_
    refine ZT ?_
    replace G:=qO G; obtain ⟨t8,ht8,G⟩:=G
    refine X0 qd H (.cons [13] (QV (λu7=>.agg #[vI q1.Order,vI q1.First,vI q1.Least,vI q1.Most,vI q1.Wide]) 13 19 (Xf b_q1 [vI q1.Order,vI q1.First,vI q1.Least,vI q1.Most,vI q1.Wide] 27) b_q1 0 5 [vI q1.Order,vI q1.First,vI q1.Least,vI q1.Most,vI q1.Wide] (λw h=>Za h))<|.cons [14] (qf (vI x3) 14 18 0 1 b_q0 [vI x3] 2)<|.cons [15] (qm 77 _ _ 15 [] (λu7 w _=>YZ.calls q1 x3 t8 w ht8))<|.v 12 (.tuple #[vI t8.1,vI t8.2])<|.v 16 (vI t8.1)<|.v 17 (vI t8.2)<|.cons [18] (qQ 18 0 b_q0 [vI x3] [vI t8.1] 2 [vI t8.1])<|.v 4 (vI t8.2)<|.nil) (by kernel_rfl) (by kernel_rfl) λu7 a w' H=>?_
    replace H:=H.kp [0,1,2,4,8,9,10,18,19,20]
    exact ⟨k1,Nat.lt_succ_self k1,_,_,_,G,H.toM _⟩
   ·clear G; rw [hb] at H
    replace H:=H.kp [0,1,2,8,9,10,11,20]
    refine JD H (by kernel_rfl) (by kernel_rfl) ?_
    refine We rfl ?_
    exact ⟨H.defers,_,XE H (.tuple #[]) [] (by kernel_rfl) (by simp) (by kernel_rfl),⟨_,rfl⟩,.inr ((show (jK ((u5 5).n 1) w JX).holds _ from H.holds 20) _ (agree.refl _ _) H.below)⟩
  rw [if_neg c7] at G
  by_cases c8:z6=false
  ·rw [if_pos c8] at G; subst c8
   refine X0 qd H (.v 5 (vI x2)<|.v 6 (.bool (x2==0))<|.cons [7] (QF (u':=λu5=>[(7,sB false)]) (qr (λu5=>.bool (x2==0)) 7) (λ_=>by rw [hz6]))<|.cons [8] (Y9 8)<|.cons [9] (Y9 9)<|.cons [10] (Y9 10)<|.cons [11] (JK (λu5=>.bool false) 11)<|.nil) (by kernel_rfl) (by kernel_rfl) λu5 a w' H=>?_
   replace H:=H.kp [0,1,2,8,9,10,11,18,19,20]
   refine JD H (by kernel_rfl) (by kernel_rfl) ?_
   refine We rfl ?_
   obtain rfl:=sj G
   exact ⟨H.defers,_,XE H (.tuple #[]) [] (by kernel_rfl) (by simp) (by kernel_rfl),⟨_,rfl⟩,.inl ((show (jO (· = b_q0) base w (J [])).holds _ from H.holds 20) _ (agree.refl _ _) H.below)⟩
  rw [if_neg c8] at G
  cases G
theorem Q7.calls (k0:Nat)(a0:QE)(a1:List qb)(a2:Jc)(p_a0_L:Option Addr)(c_a0_L:Nat)(p_a0_Out:Option Addr)(c_a0_Out:Nat)(p_a1:Option Addr)(c_a1:Nat)(r:qW×Int×Int)(w:World)(hB:Xp [qy ql 5 p_a0_L c_a0_L a0.L qi,qy ql 1 p_a0_Out c_a0_Out a0.Out q6,gk] w)(hF:Xp [qy ql 2 p_a1 c_a1 a1 qa] w)(G:Q7 k0 a0 a1 a2=some r) :
  Calls Tryz.prog 33 #[.agg #[vI a0.N,.slice p_a0_L a0.L.length c_a0_L,.slice p_a0_Out a0.Out.length c_a0_Out],.slice p_a1 a1.length c_a1,.agg #[vI a2.Ctrl.Order,vI a2.Ctrl.First,vI a2.Ctrl.Least,vI a2.Ctrl.Most,vI a2.Ctrl.Wide,vI a2.T,vI a2.Last,vI a2.H]] w λe w'=>∃ g:Gh,e = .returned (.tuple #[.agg #[vI r.1.T,vI r.1.H,.slice (g.o 0) r.1.From.length (g.n 0),.slice (g.o 1) r.1.Pre.length (g.n 1),.slice (g.o 2) r.1.Tube.length (g.n 2),.slice (g.o 3) r.1.To.length (g.n 3)],vI r.2.1,vI r.2.2])∧Zj (YR []) w w'∧Ye w.heap.size (YR []) (JS w.heap.size [qy ql 2 p_a1 c_a1 a1 qa]) [λfr=>YI fr 2 (g.o 0) r.1.From.length (g.n 0) (r.1.From.flatMap qa),λfr=>YI fr 2 (g.o 1) r.1.Pre.length (g.n 1) (r.1.Pre.flatMap qa),λfr=>YI fr 2 (g.o 2) r.1.Tube.length (g.n 2) (r.1.Tube.flatMap qa),λfr=>YI fr 2 (g.o 3) r.1.To.length (g.n 3) (r.1.To.flatMap qa)] w':=by
 obtain ⟨fr,hfr,hBf⟩:=VT w [qy ql 2 p_a1 c_a1 a1 qa]
 refine Wu (args:=[.agg #[vI a0.N,.slice p_a0_L a0.L.length c_a0_L,.slice p_a0_Out a0.Out.length c_a0_Out],.slice p_a1 a1.length c_a1,.agg #[vI a2.Ctrl.Order,vI a2.Ctrl.First,vI a2.Ctrl.Least,vI a2.Ctrl.Most,vI a2.Ctrl.Wide,vI a2.T,vI a2.Last,vI a2.H]]) 59 [(59,qy ql 5 p_a0_L c_a0_L a0.L qi),(60,qy ql 1 p_a0_Out c_a0_Out a0.Out q6),(999999,gk),(61,qy fr 2 p_a1 c_a1 a1 qa)] (by
  intro x hx
  simp only [List.mem_cons,List.not_mem_nil,or_false] at hx
  rcases hx with rfl | rfl | rfl | rfl
  ·exact qv (qj hB.1) (λ_ _=>trivial) (by decide) _
  ·exact qv (qj hB.2.1) (λ_ _=>trivial) (by decide) _
  ·exact ⟨⟨_,_,rfl⟩,hB.2.2.1,Yc (Qy hB.2.2.1)⟩
  ·exact qv (qj hF.1) (λj h=>by rw [hfr]; exact .inr ⟨_,(.head _),h⟩) (by decide) _) Tryz.func33 rfl λa H=>?_
 unfold Q7 at G
 refine qg qd H (.cons [3,62] (qn (λb=>vP b 0) (λu1=>[vI a0.N,.slice p_a0_L a0.L.length c_a0_L,.slice p_a0_Out a0.Out.length c_a0_Out]) 38 3 62)<|.cons [4,63] (qn (λb=>vP b 0) (λu1=>[.slice p_a1 a1.length c_a1]) 48 4 63)<|.cons [5,64] (qn (λb=>vP b 0) (λu1=>[vI a2.Ctrl.Order,vI a2.Ctrl.First,vI a2.Ctrl.Least,vI a2.Ctrl.Most,vI a2.Ctrl.Wide,vI a2.T,vI a2.Last,vI a2.H]) 100 5 64)<|.cons [6,65] (qn (λb=>vP b 0) (λu1=>[vI 0,vI 0,.slice none 0 0,.slice none 0 0,.slice none 0 0,.slice none 0 0]) 63 6 65)<|.cons [7,66] (qn (λb=>vP b 0) (λu1=>[vI 0]) 2 7 66)<|.cons [8,67] (qn (λb=>vP b 0) (λu1=>[vI 0]) 32 8 67)<|.nil) [3,4,5,6,7,8,59,60,61,62,63,64,65,66,67,999999] λu1 a w' H=>?_
 refine qg qd H (.v 13 (vP (nn u1 2) 7)<|.cons [14] (qf (vI a2.H) 14 64 7 1 (nn u1 2) [vI a2.Ctrl.Order,vI a2.Ctrl.First,vI a2.Ctrl.Least,vI a2.Ctrl.Most,vI a2.Ctrl.Wide,vI a2.T,vI a2.Last,vI a2.H] 100)<|.v 15 (vP (nn u1 2) 6)<|.cons [16] (qf (vI a2.Last) 16 64 6 1 (nn u1 2) [vI a2.Ctrl.Order,vI a2.Ctrl.First,vI a2.Ctrl.Least,vI a2.Ctrl.Most,vI a2.Ctrl.Wide,vI a2.T,vI a2.Last,vI a2.H] 100)<|.v 17 (vP (nn u1 2) 5)<|.cons [18] (qf (vI a2.T) 18 64 5 1 (nn u1 2) [vI a2.Ctrl.Order,vI a2.Ctrl.First,vI a2.Ctrl.Least,vI a2.Ctrl.Most,vI a2.Ctrl.Wide,vI a2.T,vI a2.Last,vI a2.H] 100)<|.v 19 (vI (qc (a2.Last-a2.T)))<|.v 20 (vI (mn a2.H (qc (a2.Last-a2.T))))<|.cons [9,68] (qn (λb=>vP b 0) (λu2=>[vI 0]) 2 9 68)<|.cons [68] (QF (u':=λu2=>[(68,.blk (nn u2 8) [vI (mn a2.H (qc (a2.Last-a2.T)))] 2)]) (qK 68 0 (λu2=>(nn u2 8)) (λu2=>[vI 0]) (λu2=>[vI (mn a2.H (qc (a2.Last-a2.T)))]) 2) (λ_=>by kernel_rfl))<|.nil) [3,4,5,6,7,8,9,59,60,61,62,63,64,65,66,67,68,999999] λu2 a w' H=>?_
 refine qs ?_
 refine qg qd H (.v 21 (vP (nn u1 2) 0)<|.cons [22] (qf (.agg #[vI a2.Ctrl.Order,vI a2.Ctrl.First,vI a2.Ctrl.Least,vI a2.Ctrl.Most,vI a2.Ctrl.Wide]) 22 64 0 5 (nn u1 2) [vI a2.Ctrl.Order,vI a2.Ctrl.First,vI a2.Ctrl.Least,vI a2.Ctrl.Most,vI a2.Ctrl.Wide,vI a2.T,vI a2.Last,vI a2.H] 100)<|.cons [23] (qf (vI (mn a2.H (qc (a2.Last-a2.T)))) 23 68 0 1 (nn u2 8) [vI (mn a2.H (qc (a2.Last-a2.T)))] 2)<|.cons [24,69,70] (WL 55 (λu3=>#[.agg #[vI a2.Ctrl.Order,vI a2.Ctrl.First,vI a2.Ctrl.Least,vI a2.Ctrl.Most,vI a2.Ctrl.Wide],vI (mn a2.H (qc (a2.Last-a2.T)))]) (λb1 b2=>.func (.func 76) #[] #[vP b2 0,vP b1 0]) [vI a2.Ctrl.Order,vI a2.Ctrl.First,vI a2.Ctrl.Least,vI a2.Ctrl.Most,vI a2.Ctrl.Wide] [vI (mn a2.H (qc (a2.Last-a2.T)))] 27 2 24 69 70 (λ_ w=>control_candidates.calls (⟨a2.Ctrl.Order,a2.Ctrl.First,a2.Ctrl.Least,a2.Ctrl.Most,a2.Ctrl.Wide⟩:qJ) (mn a2.H (qc (a2.Last-a2.T))) w))<|.nil) [3,4,5,6,7,8,9,24,59,60,61,62,63,64,65,66,67,68,69,70,999999] λu3 a w' H=>?_
 refine qV ?_
 obtain ⟨t5,ht5,G⟩:=qO G
 refine qcy ?_
 refine qaM (γ:=Unit) (λx _=>#[vI x]) (λ_ _=>[]) (λx z=>[(25,sI x)]) t5 (· = ((u3 3).n 1)) [70] (λw=>Xp [Xf (nn u3 3) [vI a2.Ctrl.Order,vI a2.Ctrl.First,vI a2.Ctrl.Least,vI a2.Ctrl.Most,vI a2.Ctrl.Wide] 27] w) (λW=>W.heap[((u3 3).n 1)]?=some (.cells [vI (mn a2.H (qc (a2.Last-a2.T)))].toArray 2 (0,0))) 71 72 73 0 _ (λzs L=>Q7.l6 k0 a0 a1 a2 zs=some r∧L=[(59,qy ql 5 p_a0_L c_a0_L a0.L qi),(60,qy ql 1 p_a0_Out c_a0_Out a0.Out q6),(61,qy fr 2 p_a1 c_a1 a1 qa),(62,.blk (nn u1 0) [vI a0.N,.slice p_a0_L a0.L.length c_a0_L,.slice p_a0_Out a0.Out.length c_a0_Out] 38),(63,.blk (nn u1 1) [.slice p_a1 a1.length c_a1] 48),(64,.blk (nn u1 2) [vI a2.Ctrl.Order,vI a2.Ctrl.First,vI a2.Ctrl.Least,vI a2.Ctrl.Most,vI a2.Ctrl.Wide,vI a2.T,vI a2.Last,vI a2.H] 100),(65,.blk (nn u1 3) [vI 0,vI 0,.slice none 0 0,.slice none 0 0,.slice none 0 0,.slice none 0 0] 63),(66,.blk (nn u1 4) [vI 0] 2),(67,.blk (nn u1 5) [vI 0] 32),(68,.blk (nn u2 8) [vI (mn a2.H (qc (a2.Last-a2.T)))] 2),(69,.blk (nn u3 3) [vI a2.Ctrl.Order,vI a2.Ctrl.First,vI a2.Ctrl.Least,vI a2.Ctrl.Most,vI a2.Ctrl.Wide] 27),(999999,gk)]) (λL=>∃ (p_r_1_From:Option Addr) (c_r_1_From np_r_1_From:Nat),np_r_1_From=r.1.From.length ∧ ∃ (p_r_1_Pre:Option Addr) (c_r_1_Pre np_r_1_Pre:Nat),np_r_1_Pre=r.1.Pre.length ∧ ∃ (p_r_1_Tube:Option Addr) (c_r_1_Tube np_r_1_Tube:Nat),np_r_1_Tube=r.1.Tube.length ∧ ∃ (p_r_1_To:Option Addr) (c_r_1_To np_r_1_To:Nat),np_r_1_To=r.1.To.length∧L=[(65,.blk (nn u1 3) [vI r.1.T,vI r.1.H,.slice p_r_1_From np_r_1_From c_r_1_From,.slice p_r_1_Pre np_r_1_Pre c_r_1_Pre,.slice p_r_1_Tube np_r_1_Tube c_r_1_Tube,.slice p_r_1_To np_r_1_To c_r_1_To] 63),(66,.blk (nn u1 4) [vI r.2.1] 2),(67,.blk (nn u1 5) [vI r.2.2] 32),(76,YI fr 2 p_r_1_From np_r_1_From c_r_1_From (r.1.From.flatMap qa)),(77,YI fr 2 p_r_1_Pre np_r_1_Pre c_r_1_Pre (r.1.Pre.flatMap qa)),(78,YI fr 2 p_r_1_Tube np_r_1_Tube c_r_1_Tube (r.1.Tube.flatMap qa)),(79,YI fr 2 p_r_1_To np_r_1_To c_r_1_To (r.1.To.flatMap qa)),(999999,gk)]) (λ_=>False) [(59,qy ql 5 p_a0_L c_a0_L a0.L qi),(60,qy ql 1 p_a0_Out c_a0_Out a0.Out q6),(61,qy fr 2 p_a1 c_a1 a1 qa),(62,.blk (nn u1 0) [vI a0.N,.slice p_a0_L a0.L.length c_a0_L,.slice p_a0_Out a0.Out.length c_a0_Out] 38),(63,.blk (nn u1 1) [.slice p_a1 a1.length c_a1] 48),(64,.blk (nn u1 2) [vI a2.Ctrl.Order,vI a2.Ctrl.First,vI a2.Ctrl.Least,vI a2.Ctrl.Most,vI a2.Ctrl.Wide,vI a2.T,vI a2.Last,vI a2.H] 100),(65,.blk (nn u1 3) [vI 0,vI 0,.slice none 0 0,.slice none 0 0,.slice none 0 0,.slice none 0 0] 63),(66,.blk (nn u1 4) [vI 0] 2),(67,.blk (nn u1 5) [vI 0] 32),(68,.blk (nn u2 8) [vI (mn a2.H (qc (a2.Last-a2.T)))] 2),(69,.blk (nn u3 3) [vI a2.Ctrl.Order,vI a2.Ctrl.First,vI a2.Ctrl.Least,vI a2.Ctrl.Most,vI a2.Ctrl.Wide] 27),(999999,gk)] H (by kernel_rfl) (by kernel_rfl) (VU Tryz.func76 (by kernel_rfl) rfl) (q7.ok k0 (mn a2.H (qc (a2.Last-a2.T))) (⟨a2.Ctrl.Order,a2.Ctrl.First,a2.Ctrl.Least,a2.Ctrl.Most,a2.Ctrl.Wide⟩:qJ) ((u3 3).n 1) (nn u3 3) _ (λe=>H.disj 69 70 _ (by decide) trivial rfl e) t5 ht5) (λx=>qh4 25 (λz:Unit=>vI x) (by rfl)) rfl (λi hi=>⟨70,by simp,trivial,hi⟩) (λW h=>h.holds 70) ⟨G,rfl⟩ (by kernel_rfl) (by kernel_rfl) (by kernel_rfl) (by kernel_rfl) (by kernel_rfl) (by kernel_rfl) (by rintro zs L ⟨G,rfl⟩ x hx; simp only [List.mem_cons,List.not_mem_nil,or_false] at hx; rcases hx with rfl | rfl | rfl | rfl | rfl | rfl | rfl | rfl | rfl | rfl | rfl | rfl; all_goals exact ⟨by simp,λi hi=>hi⟩) (by rintro zs L a w ⟨G,rfl⟩ h; have hF:Xp [.blk (nn u3 3) [vI a2.Ctrl.Order,vI a2.Ctrl.First,vI a2.Ctrl.Least,vI a2.Ctrl.Most,vI a2.Ctrl.Wide] 27] w:=⟨h.at (K:=.blk (nn u3 3) [vI a2.Ctrl.Order,vI a2.Ctrl.First,vI a2.Ctrl.Least,vI a2.Ctrl.Most,vI a2.Ctrl.Wide] 27) 69 (by kernel_rfl),trivial⟩; exact ⟨(QH hF.1 0).2.1,trivial⟩) ?_ ?_ ?_ ?_
 ·clear H G; rintro li Di bi oR oD Wi x z zs L a w' hbi ⟨G,rfl⟩ H
  unfold Q7.l6 at G
  replace H:=H.kp [3,4,5,6,7,8,9,25,59,60,61,62,63,64,65,66,67,68,69,999999,71,72,73]
  refine X0 qd H (.v 10 (vI x)<|.nil) (by kernel_rfl) (by kernel_rfl) λu7 a w' H=>?_
  replace H:=H.kp [3,4,5,6,7,8,9,10,59,60,61,62,63,64,65,66,67,68,69,999999,71,72,73]
  refine ⟨_,H,by kernel_rfl,λoB w' H=>?_⟩
  replace H:=H.kp [3,4,5,6,7,8,9,10,59,60,61,62,63,64,65,66,67,68,69,999999,71,72,73]
  refine ZT ?_
  refine XJ ?_
  obtain ⟨t9,ht9,G⟩:=qO G
  refine X0 qd H (.cons [27] (qf (.agg #[vI a0.N,.slice p_a0_L a0.L.length c_a0_L,.slice p_a0_Out a0.Out.length c_a0_Out]) 27 62 0 3 (nn u1 0) [vI a0.N,.slice p_a0_L a0.L.length c_a0_L,.slice p_a0_Out a0.Out.length c_a0_Out] 38)<|.cons [28] (qf (.slice p_a1 a1.length c_a1) 28 63 0 1 (nn u1 1) [.slice p_a1 a1.length c_a1] 48)<|.v 29 (vP (nn u1 2) 5)<|.cons [30] (qf (vI a2.T) 30 64 5 1 (nn u1 2) [vI a2.Ctrl.Order,vI a2.Ctrl.First,vI a2.Ctrl.Least,vI a2.Ctrl.Most,vI a2.Ctrl.Wide,vI a2.T,vI a2.Last,vI a2.H] 100)<|.v 31 (vI x)<|.v 32 (.agg #[vI a2.T,vI x])<|.v 33 (vP (nn u1 2) 0)<|.v 34 (vP (nn u1 2) 0)<|.cons [35] (qf (vI a2.Ctrl.Order) 35 64 0 1 (nn u1 2) [vI a2.Ctrl.Order,vI a2.Ctrl.First,vI a2.Ctrl.Least,vI a2.Ctrl.Most,vI a2.Ctrl.Wide,vI a2.T,vI a2.Last,vI a2.H] 100)<|.cons [36,80,81,82,83] (Qp true fr [] [59,60,61,999999] (λu8=>[qy ql 5 p_a0_L c_a0_L a0.L qi,qy ql 1 p_a0_Out c_a0_Out a0.Out q6,qy fr 2 p_a1 c_a1 a1 qa,gk]) [] (λu8=>[]) 56 _ _ _ _ _ [80,81,82,83] 36 (λu8 w hB hF hM=>Yt.calls k0 (⟨a0.N,a0.L,a0.Out⟩:QE) a1 (⟨a2.T,x⟩:Q0) a2.Ctrl.Order p_a0_L c_a0_L p_a0_Out c_a0_Out p_a1 c_a1 t9 w hB hF ht9) (λu8 w hF=>⟨⟨qP (qj hF.1) (λj h=>⟨_,(.head _),h⟩),qP (qj hF.2.1) (λj h=>⟨_,(.tail _ (.head _)),h⟩),Je hF.2.2.2.1 (.tail _ (.tail _ (.tail _ (.head _)))),trivial⟩,⟨Zv (qj hF.2.2.1) (λj h=>Zw (.tail _ (.tail _ (.head _))) (λh=>h) h (YV hF.2.2.1 _ h)),trivial⟩⟩) (λu8 g=>(qk (QP (by decide)) (qk (QP (by decide)) (qk (QP (by decide)) (qk (QP (by decide)) qx))))) (.inl rfl) (λ_=>hBf))<|.cons [26] (qr (λu8=>.tuple #[.agg #[vI t9.1.T,vI t9.1.H,.slice ((u8 9).o 0) t9.1.From.length (nn u8 9),.slice ((u8 9).o 1) t9.1.Pre.length ((u8 9).n 1),.slice ((u8 9).o 2) t9.1.Tube.length ((u8 9).n 2),.slice ((u8 9).o 3) t9.1.To.length ((u8 9).n 3)],.bool t9.2]) 26)<|.cons [37] (qr (λu8=>.agg #[vI t9.1.T,vI t9.1.H,.slice ((u8 9).o 0) t9.1.From.length (nn u8 9),.slice ((u8 9).o 1) t9.1.Pre.length ((u8 9).n 1),.slice ((u8 9).o 2) t9.1.Tube.length ((u8 9).n 2),.slice ((u8 9).o 3) t9.1.To.length ((u8 9).n 3)]) 37)<|.v 38 (.bool t9.2)<|.cons [11,84] (qn (λb=>vP b 0) (λu8=>[vI 0,vI 0,.slice none 0 0,.slice none 0 0,.slice none 0 0,.slice none 0 0]) 63 11 84)<|.cons [84] (QF (u':=λu8=>[(84,.blk (nn u8 13) [vI t9.1.T,vI t9.1.H,.slice ((u8 9).o 0) t9.1.From.length (nn u8 9),.slice ((u8 9).o 1) t9.1.Pre.length ((u8 9).n 1),.slice ((u8 9).o 2) t9.1.Tube.length ((u8 9).n 2),.slice ((u8 9).o 3) t9.1.To.length ((u8 9).n 3)] 63)]) (qK 84 0 (λu8=>(nn u8 13)) (λu8=>[vI 0,vI 0,.slice none 0 0,.slice none 0 0,.slice none 0 0,.slice none 0 0]) (λu8=>[vI t9.1.T,vI t9.1.H,.slice ((u8 9).o 0) t9.1.From.length (nn u8 9),.slice ((u8 9).o 1) t9.1.Pre.length ((u8 9).n 1),.slice ((u8 9).o 2) t9.1.Tube.length ((u8 9).n 2),.slice ((u8 9).o 3) t9.1.To.length ((u8 9).n 3)]) 63) (λ_=>by kernel_rfl))<|.v 12 (.bool t9.2)<|.nil) (by kernel_rfl) (by kernel_rfl) λu8 a w' H=>?_
  replace H:=H.kp [3,4,5,6,7,8,9,10,11,12,59,60,61,62,63,64,65,66,67,68,69,80,81,82,83,84,999999,71,72,73]
  refine XJ ?_
  refine XJ ?_
  obtain ⟨t11,ht11,G⟩:=qO G
  refine X0 qd H (.v 39 (.bool t9.2)<|.v 40 (.bool (!t9.2))<|.v 41 (.bool (!t9.2))<|.cons [42] (qE (λu10=>vP (nn u1 2) 0) (λu10=>((!t9.2)==false)) [true] 42)<|.cons [43] (YL (λu10=>.agg #[vI a2.Ctrl.Order,vI a2.Ctrl.First,vI a2.Ctrl.Least,vI a2.Ctrl.Most,vI a2.Ctrl.Wide]) (λu10=>((!t9.2)==false)) [false] 43 64 0 5 (λu10=>(nn u1 2)) (λu10=>[vI a2.Ctrl.Order,vI a2.Ctrl.First,vI a2.Ctrl.Least,vI a2.Ctrl.Most,vI a2.Ctrl.Wide,vI a2.T,vI a2.Last,vI a2.H]) 100)<|.cons [44] (YL (λu10=>.agg #[vI t9.1.T,vI t9.1.H,.slice ((u8 9).o 0) t9.1.From.length (nn u8 9),.slice ((u8 9).o 1) t9.1.Pre.length ((u8 9).n 1),.slice ((u8 9).o 2) t9.1.Tube.length ((u8 9).n 2),.slice ((u8 9).o 3) t9.1.To.length ((u8 9).n 3)]) (λu10=>((!t9.2)==false)) [true] 44 84 0 6 (λu10=>(nn u8 13)) (λu10=>[vI t9.1.T,vI t9.1.H,.slice ((u8 9).o 0) t9.1.From.length (nn u8 9),.slice ((u8 9).o 1) t9.1.Pre.length ((u8 9).n 1),.slice ((u8 9).o 2) t9.1.Tube.length ((u8 9).n 2),.slice ((u8 9).o 3) t9.1.To.length ((u8 9).n 3)]) 63)<|.cons [45] (WU [80,81,82,83] (λu10=>[YI fr 2 ((u8 9).o 0) t9.1.From.length (nn u8 9) (t9.1.From.flatMap qa),YI fr 2 ((u8 9).o 1) t9.1.Pre.length ((u8 9).n 1) (t9.1.Pre.flatMap qa),YI fr 2 ((u8 9).o 2) t9.1.Tube.length ((u8 9).n 2) (t9.1.Tube.flatMap qa),YI fr 2 ((u8 9).o 3) t9.1.To.length ((u8 9).n 3) (t9.1.To.flatMap qa)]) 57 (λu10=>#[.agg #[vI a2.Ctrl.Order,vI a2.Ctrl.First,vI a2.Ctrl.Least,vI a2.Ctrl.Most,vI a2.Ctrl.Wide],.agg #[vI t9.1.T,vI t9.1.H,.slice ((u8 9).o 0) t9.1.From.length (nn u8 9),.slice ((u8 9).o 1) t9.1.Pre.length ((u8 9).n 1),.slice ((u8 9).o 2) t9.1.Tube.length ((u8 9).n 2),.slice ((u8 9).o 3) t9.1.To.length ((u8 9).n 3)]]) (.bool t11) (λu10=>((!t9.2)==false)) [true,false,false] 45 (λu10 w hg hF=>Zi.calls k0 (⟨a2.Ctrl.Order,a2.Ctrl.First,a2.Ctrl.Least,a2.Ctrl.Most,a2.Ctrl.Wide⟩:qJ) (⟨t9.1.T,t9.1.H,t9.1.From,t9.1.Pre,t9.1.Tube,t9.1.To⟩:qW) ((u8 9).o 0) (nn u8 9) ((u8 9).o 1) ((u8 9).n 1) ((u8 9).o 2) ((u8 9).n 2) ((u8 9).o 3) ((u8 9).n 3) t11 w ⟨(JU (qj hF.1)),(JU (qj hF.2.1)),(JU (qj hF.2.2.1)),(JU (qj hF.2.2.2.1)),trivial⟩ (ifp ht11 hg)))<|.cons [46] (qE (λu10=>.bool (!t11)) (λu10=>((!t9.2)==false)) [false] 46)<|.cons [47] (Zx 41 46 (λu10=>true) (λu10=>true) (λu10=>(!t9.2)) (λu10=>(!t11)) 47)<|.nil) (by kernel_rfl) (by kernel_rfl) λu10 a w' H=>?_
  replace H:=H.kp [3,4,5,6,7,8,9,10,11,47,59,60,61,62,63,64,65,66,67,68,69,80,81,82,83,84,999999,71,72,73]
  refine JO H (by kernel_rfl) (t:=((!t9.2)||(!t11))) (by kernel_rfl) (λc19=>?_) (λc19=>?_)
  ·rw [if_pos c19] at G
   refine We rfl ?_
   exact ⟨_,⟨G,rfl⟩,by kernel_rfl,H.toM _⟩
  ·rw [if_neg (nt c19)] at G
   refine Z7 ?_
   refine XJ ?_
   obtain ⟨j13,hj13,G⟩:=qO G
   refine qhK (λa w'=>RL w 59 [(3,(sP (nn u1 0) 0)),(4,(sP (nn u1 1) 0)),(5,(sP (nn u1 2) 0)),(6,(sP (nn u1 3) 0)),(7,(sP (nn u1 4) 0)),(8,(sP (nn u1 5) 0)),(9,(sP (nn u2 8) 0)),(10,sI j13),(11,(sP (nn u8 13) 0)),(59,qy ql 5 p_a0_L c_a0_L a0.L qi),(60,qy ql 1 p_a0_Out c_a0_Out a0.Out q6),(61,qy fr 2 p_a1 c_a1 a1 qa),(62,.blk (nn u1 0) [vI a0.N,.slice p_a0_L a0.L.length c_a0_L,.slice p_a0_Out a0.Out.length c_a0_Out] 38),(63,.blk (nn u1 1) [.slice p_a1 a1.length c_a1] 48),(64,.blk (nn u1 2) [vI a2.Ctrl.Order,vI a2.Ctrl.First,vI a2.Ctrl.Least,vI a2.Ctrl.Most,vI a2.Ctrl.Wide,vI a2.T,vI a2.Last,vI a2.H] 100),(65,.blk (nn u1 3) [vI 0,vI 0,.slice none 0 0,.slice none 0 0,.slice none 0 0,.slice none 0 0] 63),(66,.blk (nn u1 4) [vI 0] 2),(67,.blk (nn u1 5) [vI 0] 32),(68,.blk (nn u2 8) [vI (mn a2.H (qc (a2.Last-a2.T)))] 2),(69,.blk (nn u3 3) [vI a2.Ctrl.Order,vI a2.Ctrl.First,vI a2.Ctrl.Least,vI a2.Ctrl.Most,vI a2.Ctrl.Wide] 27),(80,YI fr 2 ((u8 9).o 0) t9.1.From.length (nn u8 9) (t9.1.From.flatMap qa)),(81,YI fr 2 ((u8 9).o 1) t9.1.Pre.length ((u8 9).n 1) (t9.1.Pre.flatMap qa)),(82,YI fr 2 ((u8 9).o 2) t9.1.Tube.length ((u8 9).n 2) (t9.1.Tube.flatMap qa)),(83,YI fr 2 ((u8 9).o 3) t9.1.To.length ((u8 9).n 3) (t9.1.To.flatMap qa)),(84,.blk (nn u8 13) [vI t9.1.T,vI t9.1.H,.slice ((u8 9).o 0) t9.1.From.length (nn u8 9),.slice ((u8 9).o 1) t9.1.Pre.length ((u8 9).n 1),.slice ((u8 9).o 2) t9.1.Tube.length ((u8 9).n 2),.slice ((u8 9).o 3) t9.1.To.length ((u8 9).n 3)] 63),(999999,gk),(71,ZZ li oB),(72,ZZ Di oD),(73,keO (· = ((u3 3).n 1)) bi Wi)] a w') ?_ ?_
   ·clear H; intro a w' H
    refine XJ ?_
    obtain ⟨t15,ht15,G⟩:=qO G
    refine X0 qd H (.cons [53] (qf (.agg #[vI t9.1.T,vI t9.1.H,.slice ((u8 9).o 0) t9.1.From.length (nn u8 9),.slice ((u8 9).o 1) t9.1.Pre.length ((u8 9).n 1),.slice ((u8 9).o 2) t9.1.Tube.length ((u8 9).n 2),.slice ((u8 9).o 3) t9.1.To.length ((u8 9).n 3)]) 53 84 0 6 (nn u8 13) [vI t9.1.T,vI t9.1.H,.slice ((u8 9).o 0) t9.1.From.length (nn u8 9),.slice ((u8 9).o 1) t9.1.Pre.length ((u8 9).n 1),.slice ((u8 9).o 2) t9.1.Tube.length ((u8 9).n 2),.slice ((u8 9).o 3) t9.1.To.length ((u8 9).n 3)] 63)<|.v 54 (vP (nn u1 2) 0)<|.cons [55] (qf (.agg #[vI a2.Ctrl.Order,vI a2.Ctrl.First,vI a2.Ctrl.Least,vI a2.Ctrl.Most,vI a2.Ctrl.Wide]) 55 64 0 5 (nn u1 2) [vI a2.Ctrl.Order,vI a2.Ctrl.First,vI a2.Ctrl.Least,vI a2.Ctrl.Most,vI a2.Ctrl.Wide,vI a2.T,vI a2.Last,vI a2.H] 100)<|.v 56 (vI j13)<|.cons [57] (qm 58 _ _ 57 [] (λu14 w _=>Z9.calls (⟨a2.Ctrl.Order,a2.Ctrl.First,a2.Ctrl.Least,a2.Ctrl.Most,a2.Ctrl.Wide⟩:qJ) j13 t15 w ht15))<|.cons [65] (qQ 65 0 (nn u1 3) [vI 0,vI 0,.slice none 0 0,.slice none 0 0,.slice none 0 0,.slice none 0 0] [vI t9.1.T,vI t9.1.H,.slice ((u8 9).o 0) t9.1.From.length (nn u8 9),.slice ((u8 9).o 1) t9.1.Pre.length ((u8 9).n 1),.slice ((u8 9).o 2) t9.1.Tube.length ((u8 9).n 2),.slice ((u8 9).o 3) t9.1.To.length ((u8 9).n 3)] 63 [vI t9.1.T,vI t9.1.H,.slice ((u8 9).o 0) t9.1.From.length (nn u8 9),.slice ((u8 9).o 1) t9.1.Pre.length ((u8 9).n 1),.slice ((u8 9).o 2) t9.1.Tube.length ((u8 9).n 2),.slice ((u8 9).o 3) t9.1.To.length ((u8 9).n 3)])<|.cons [66] (qQ 66 0 (nn u1 4) [vI 0] [vI t15] 2 [vI t15])<|.cons [67] (qQ 67 0 (nn u1 5) [vI 0] [vI 0] 32 [vI 0])<|.nil) (by kernel_rfl) (by kernel_rfl) λu14 a w' H=>?_
    replace H:=H.kp [3,4,5,6,7,8,9,59,60,61,62,63,64,65,66,67,68,69,80,81,82,83,999999,71,72,73]
    refine J1 ?_
    obtain rfl:=sj G
    replace H:=H.dup (K:=YI fr 2 ((u8 9).o 0) t9.1.From.length (nn u8 9) (t9.1.From.flatMap qa)) 80 76 (by kernel_rfl) (λh=>h) (by intro _ _ h; cases h)
    replace H:=H.dup (K:=YI fr 2 ((u8 9).o 1) t9.1.Pre.length ((u8 9).n 1) (t9.1.Pre.flatMap qa)) 81 77 (by kernel_rfl) (λh=>h) (by intro _ _ h; cases h)
    replace H:=H.dup (K:=YI fr 2 ((u8 9).o 2) t9.1.Tube.length ((u8 9).n 2) (t9.1.Tube.flatMap qa)) 82 78 (by kernel_rfl) (λh=>h) (by intro _ _ h; cases h)
    replace H:=H.dup (K:=YI fr 2 ((u8 9).o 3) t9.1.To.length ((u8 9).n 3) (t9.1.To.flatMap qa)) 83 79 (by kernel_rfl) (λh=>h) (by intro _ _ h; cases h)
    exact ⟨_,⟨((u8 9).o 0),(nn u8 9),t9.1.From.length,rfl,((u8 9).o 1),((u8 9).n 1),t9.1.Pre.length,rfl,((u8 9).o 2),((u8 9).n 2),t9.1.Tube.length,rfl,((u8 9).o 3),((u8 9).n 3),t9.1.To.length,rfl,rfl⟩,by kernel_rfl,H.toM _⟩
   ·clear G; replace G:=hj13; clear hj13
    refine XJ ?_
    refine X0 qd H (.v 48 (vI x)<|.cons [49] (qf (vI (mn a2.H (qc (a2.Last-a2.T)))) 49 68 0 1 (nn u2 8) [vI (mn a2.H (qc (a2.Last-a2.T)))] 2)<|.v 50 (.bool (x==(mn a2.H (qc (a2.Last-a2.T)))))<|.nil) (by kernel_rfl) (by kernel_rfl) λu16 a w' H=>?_
    replace H:=H.kp [3,4,5,6,7,8,9,10,11,50,59,60,61,62,63,64,65,66,67,68,69,80,81,82,83,84,999999,71,72,73]
    refine JO H (by kernel_rfl) (t:=(x==(mn a2.H (qc (a2.Last-a2.T))))) (by kernel_rfl) (λc18=>?_) (λc18=>?_)
    ·rw [if_pos c18] at G
     refine X0 qd H (.v 51 (vP (nn u1 2) 7)<|.cons [52] (qf (vI a2.H) 52 64 7 1 (nn u1 2) [vI a2.Ctrl.Order,vI a2.Ctrl.First,vI a2.Ctrl.Least,vI a2.Ctrl.Most,vI a2.Ctrl.Wide,vI a2.T,vI a2.Last,vI a2.H] 100)<|.v 10 (vI a2.H)<|.nil) (by kernel_rfl) (by kernel_rfl) λu17 a w' H=>?_
     replace H:=H.kp [3,4,5,6,7,8,9,10,11,59,60,61,62,63,64,65,66,67,68,69,80,81,82,83,84,999999,71,72,73]
     obtain rfl:=sj G
     exact H.toM _
    ·rw [if_neg (nt c18)] at G
     refine Z7 ?_
     obtain rfl:=sj G
     exact H.toM _
 ·clear H G; rintro Di L W ⟨G,rfl⟩ H
  unfold Q7.l6 at G
  replace H:=H.kp [3,4,5,6,7,8,9,59,60,61,62,63,64,65,66,67,68,69,999999,72]
  refine Wn ?_
  refine XJ ?_
  refine X0 qd H (.v 58 (.agg #[vI 0,vI 0,.slice none 0 0,.slice none 0 0,.slice none 0 0,.slice none 0 0])<|.cons [65] (qQ 65 0 (nn u1 3) [vI 0,vI 0,.slice none 0 0,.slice none 0 0,.slice none 0 0,.slice none 0 0] [vI 0,vI 0,.slice none 0 0,.slice none 0 0,.slice none 0 0,.slice none 0 0] 63 [vI 0,vI 0,.slice none 0 0,.slice none 0 0,.slice none 0 0,.slice none 0 0])<|.cons [66] (qQ 66 0 (nn u1 4) [vI 0] [vI 0] 2 [vI 0])<|.cons [67] (qQ 67 0 (nn u1 5) [vI 0] [vI 130] 32 [vI 130])<|.nil) (by kernel_rfl) (by kernel_rfl) λu20 a w' H=>?_
  replace H:=H.kp [6,7,8,65,66,67,999999,72]
  refine J1 ?_
  obtain rfl:=sj G
  replace H:=H.nil_row 89 46 2
  replace H:=H.demote fr 89 46 2 none 0 0 (([]:List qb).flatMap qa) (by kernel_rfl) (by decide) hBf
  replace H:=H.nil_row 90 46 2
  replace H:=H.demote fr 90 46 2 none 0 0 (([]:List qb).flatMap qa) (by kernel_rfl) (by decide) hBf
  replace H:=H.nil_row 91 46 2
  replace H:=H.demote fr 91 46 2 none 0 0 (([]:List qb).flatMap qa) (by kernel_rfl) (by decide) hBf
  replace H:=H.nil_row 92 46 2
  replace H:=H.demote fr 92 46 2 none 0 0 (([]:List qb).flatMap qa) (by kernel_rfl) (by decide) hBf
  obtain ⟨g,o0,n0,o1,n1,o2,n2,o3,n3⟩:∃ g:Gh,g.o 0=none∧g.n 0=0∧g.o 1=none∧g.n 1=0∧g.o 2=none∧g.n 2=0∧g.o 3=none∧g.n 3=0:=⟨⟨λi=>[0,0,0,0].getD i 0,λi=>[none,none,none,none].getD i none,λi=>([⟨Unit,()⟩,⟨Unit,()⟩,⟨Unit,()⟩,⟨Unit,()⟩]:List ((T:Type)×T)).getD i ⟨Unit,()⟩⟩,rfl,rfl,rfl,rfl,rfl,rfl,rfl,rfl⟩
  refine VJ 72 H (by kernel_rfl) λw' H=>?_
  refine Qz H _ g _ _ _ fr [89,90,91,92] [(65,⟨(nn u1 3),[vI 0,vI 0,.slice none 0 0,.slice none 0 0,.slice none 0 0,.slice none 0 0],0,6⟩),(66,⟨(nn u1 4),[vI 0],0,1⟩),(67,⟨(nn u1 5),[vI 130],0,1⟩)] (.tuple #[.agg #[vI 0,vI 0,.slice none 0 0,.slice none 0 0,.slice none 0 0,.slice none 0 0],vI 0,vI 130]) [λfr=>YI fr 2 none 0 0 (([]:List qb).flatMap qa),λfr=>YI fr 2 none 0 0 (([]:List qb).flatMap qa),λfr=>YI fr 2 none 0 0 (([]:List qb).flatMap qa),λfr=>YI fr 2 none 0 0 (([]:List qb).flatMap qa)] (by simp only [Ql,o0,n0,o1,n1,o2,n2,o3,n3,List.length_set,List.length_cons,List.length_nil,Nat.zero_add,Nat.reduceAdd]) (by simp only [Ql,o0,n0,o1,n1,o2,n2,o3,n3,List.length_set,List.length_cons,List.length_nil,Nat.zero_add,Nat.reduceAdd]) hfr (.inl ⟨rfl,rfl⟩) (qk (QP (by decide)) (qk (QP (by decide)) (qk (QP (by decide)) (qk (QP (by decide)) qx)))) (by intro p hp; simp only [List.mem_cons,List.not_mem_nil,or_false] at hp; rcases hp with rfl | rfl | rfl; exact ⟨⟨63,by kernel_rfl⟩,by kernel_rfl⟩; exact ⟨⟨2,by kernel_rfl⟩,by kernel_rfl⟩; exact ⟨⟨32,by kernel_rfl⟩,by kernel_rfl⟩)
 ·clear H G; rintro Di L W ⟨p_r_1_From,c_r_1_From,_,rfl,p_r_1_Pre,c_r_1_Pre,_,rfl,p_r_1_Tube,c_r_1_Tube,_,rfl,p_r_1_To,c_r_1_To,_,rfl,rfl⟩ H
  replace H:=H.kp [6,7,8,65,66,67,76,77,78,79,999999,72]
  obtain ⟨g,o0,n0,o1,n1,o2,n2,o3,n3⟩:∃ g:Gh,g.o 0=p_r_1_From∧g.n 0=c_r_1_From∧g.o 1=p_r_1_Pre∧g.n 1=c_r_1_Pre∧g.o 2=p_r_1_Tube∧g.n 2=c_r_1_Tube∧g.o 3=p_r_1_To∧g.n 3=c_r_1_To:=⟨⟨λi=>[c_r_1_From,c_r_1_Pre,c_r_1_Tube,c_r_1_To].getD i 0,λi=>[p_r_1_From,p_r_1_Pre,p_r_1_Tube,p_r_1_To].getD i none,λi=>([⟨Unit,()⟩,⟨Unit,()⟩,⟨Unit,()⟩,⟨Unit,()⟩]:List ((T:Type)×T)).getD i ⟨Unit,()⟩⟩,rfl,rfl,rfl,rfl,rfl,rfl,rfl,rfl⟩
  refine VJ 72 H (by kernel_rfl) λw' H=>?_
  refine Qz H _ g _ _ _ fr [76,77,78,79] [(65,⟨(nn u1 3),[vI r.1.T,vI r.1.H,.slice p_r_1_From r.1.From.length c_r_1_From,.slice p_r_1_Pre r.1.Pre.length c_r_1_Pre,.slice p_r_1_Tube r.1.Tube.length c_r_1_Tube,.slice p_r_1_To r.1.To.length c_r_1_To],0,6⟩),(66,⟨(nn u1 4),[vI r.2.1],0,1⟩),(67,⟨(nn u1 5),[vI r.2.2],0,1⟩)] (.tuple #[.agg #[vI r.1.T,vI r.1.H,.slice p_r_1_From r.1.From.length c_r_1_From,.slice p_r_1_Pre r.1.Pre.length c_r_1_Pre,.slice p_r_1_Tube r.1.Tube.length c_r_1_Tube,.slice p_r_1_To r.1.To.length c_r_1_To],vI r.2.1,vI r.2.2]) [λfr=>qy fr 2 p_r_1_From c_r_1_From r.1.From qa,λfr=>qy fr 2 p_r_1_Pre c_r_1_Pre r.1.Pre qa,λfr=>qy fr 2 p_r_1_Tube c_r_1_Tube r.1.Tube qa,λfr=>qy fr 2 p_r_1_To c_r_1_To r.1.To qa] (by simp only [Ql,o0,n0,o1,n1,o2,n2,o3,n3]) (by simp only [Ql,o0,n0,o1,n1,o2,n2,o3,n3]) hfr (.inl ⟨rfl,rfl⟩) (qk (QP (by decide)) (qk (QP (by decide)) (qk (QP (by decide)) (qk (QP (by decide)) qx)))) (by intro p hp; simp only [List.mem_cons,List.not_mem_nil,or_false] at hp; rcases hp with rfl | rfl | rfl; exact ⟨⟨63,by kernel_rfl⟩,by kernel_rfl⟩; exact ⟨⟨2,by kernel_rfl⟩,by kernel_rfl⟩; exact ⟨⟨32,by kernel_rfl⟩,by kernel_rfl⟩)
 ·clear H G; rintro Di L W h H; exact h.elim
theorem QK.calls (k0:Nat)(a0:QE)(a1:List qb)(a2:ZQ)(p_a0_L:Option Addr)(c_a0_L:Nat)(p_a0_Out:Option Addr)(c_a0_Out:Nat)(p_a1:Option Addr)(c_a1:Nat)(r:List qW×Int)(w:World)(hB:Xp [qy ql 5 p_a0_L c_a0_L a0.L qi,qy ql 1 p_a0_Out c_a0_Out a0.Out q6,gk] w)(hF:Xp [qy ql 2 p_a1 c_a1 a1 qa] w)(G:QK k0 a0 a1 a2=some r) :
  Calls Tryz.prog 11 #[.agg #[vI a0.N,.slice p_a0_L a0.L.length c_a0_L,.slice p_a0_Out a0.Out.length c_a0_Out],.slice p_a1 a1.length c_a1,.agg #[vI a2.Ctrl.Order,vI a2.Ctrl.First,vI a2.Ctrl.Least,vI a2.Ctrl.Most,vI a2.Ctrl.Wide,vI a2.T,vI a2.Last]] w λe w'=>∃ g:Gh,e = .returned (.tuple #[slgd_TSegment g 0 r.1,vI r.2])∧Zj (YR []) w w'∧Ye w.heap.size (YR []) (JS w.heap.size [qy ql 2 p_a1 c_a1 a1 qa]) [λ_=>Ql 63 6 (g.o 0) (g.n 0) (dlgd_TSegment g 0 r.1) qC,λfr=>Yk fr Qj.toPart (dlgd_TSegment g 0 r.1)] w':=by
 obtain ⟨fr,hfr,hBf⟩:=VT w [qy ql 2 p_a1 c_a1 a1 qa]
 refine QA (args:=[.agg #[vI a0.N,.slice p_a0_L a0.L.length c_a0_L,.slice p_a0_Out a0.Out.length c_a0_Out],.slice p_a1 a1.length c_a1,.agg #[vI a2.Ctrl.Order,vI a2.Ctrl.First,vI a2.Ctrl.Least,vI a2.Ctrl.Most,vI a2.Ctrl.Wide,vI a2.T,vI a2.Last]]) 90 [(90,qy ql 5 p_a0_L c_a0_L a0.L qi),(91,qy ql 1 p_a0_Out c_a0_Out a0.Out q6),(999999,gk),(92,qy fr 2 p_a1 c_a1 a1 qa)] (by
  intro x hx
  simp only [List.mem_cons,List.not_mem_nil,or_false] at hx
  rcases hx with rfl | rfl | rfl | rfl
  ·exact qv (qj hB.1) (λ_ _=>trivial) (by decide) _
  ·exact qv (qj hB.2.1) (λ_ _=>trivial) (by decide) _
  ·exact ⟨⟨_,_,rfl⟩,hB.2.2.1,Yc (Qy hB.2.2.1)⟩
  ·exact qv (qj hF.1) (λj h=>by rw [hfr]; exact .inr ⟨_,(.head _),h⟩) (by decide) _) Tryz.func11 rfl λa H=>?_
 unfold QK at G
 refine qg qd H (.cons [3,93] (qn (λb=>vP b 0) (λu1=>[vI a0.N,.slice p_a0_L a0.L.length c_a0_L,.slice p_a0_Out a0.Out.length c_a0_Out]) 38 3 93)<|.cons [5,94] (qn (λb=>vP b 0) (λu1=>[vI a2.Ctrl.Order,vI a2.Ctrl.First,vI a2.Ctrl.Least,vI a2.Ctrl.Most,vI a2.Ctrl.Wide,vI a2.T,vI a2.Last]) 29 5 94)<|.v 6 (.slice none 0 0)<|.v 7 (vI 0)<|.nil) [1,3,5,90,91,92,93,94,999999] λu1 a w' H=>?_
 refine qs ?_
 obtain ⟨t3,ht3,G⟩:=qO G
 obtain ⟨t4,ht4,G⟩:=qO G
 obtain ⟨t5,ht5,G⟩:=qO G
 refine qg qd H (.v 13 (vP (nn u1 1) 0)<|.cons [14] (qf (.agg #[vI a2.Ctrl.Order,vI a2.Ctrl.First,vI a2.Ctrl.Least,vI a2.Ctrl.Most,vI a2.Ctrl.Wide]) 14 94 0 5 (nn u1 1) [vI a2.Ctrl.Order,vI a2.Ctrl.First,vI a2.Ctrl.Least,vI a2.Ctrl.Most,vI a2.Ctrl.Wide,vI a2.T,vI a2.Last] 29)<|.cons [15] (qm 30 _ _ 15 [] (λu2 w _=>Ze.calls (⟨a2.Ctrl.Order,a2.Ctrl.First,a2.Ctrl.Least,a2.Ctrl.Most,a2.Ctrl.Wide⟩:qJ) t3 w ht3))<|.v 16 (.bool (!t3))<|.v 17 (.bool (!t3))<|.cons [18] (qE (λu2=>vP (nn u1 1) 5) (λu2=>((!t3)==false)) [true] 18)<|.cons [19] (YL (λu2=>vI a2.T) (λu2=>((!t3)==false)) [false] 19 94 5 1 (λu2=>(nn u1 1)) (λu2=>[vI a2.Ctrl.Order,vI a2.Ctrl.First,vI a2.Ctrl.Least,vI a2.Ctrl.Most,vI a2.Ctrl.Wide,vI a2.T,vI a2.Last]) 29)<|.cons [20] (ZU 31 (λu2=>#[vI a2.T]) (.bool t4) (λu2=>((!t3)==false)) [true,false] 20 [] (λu2 w hg _=>YG.calls a2.T t4 w (ifp ht4 hg)))<|.cons [21] (qE (λu2=>.bool (!t4)) (λu2=>((!t3)==false)) [false] 21)<|.cons [22] (Zx 17 21 (λu2=>true) (λu2=>true) (λu2=>(!t3)) (λu2=>(!t4)) 22)<|.v 23 (.bool ((!t3)||(!t4)))<|.cons [24] (qE (λu2=>vP (nn u1 1) 6) (λu2=>(((!t3)||(!t4))==false)) [true] 24)<|.cons [25] (YL (λu2=>vI a2.Last) (λu2=>(((!t3)||(!t4))==false)) [false] 25 94 6 1 (λu2=>(nn u1 1)) (λu2=>[vI a2.Ctrl.Order,vI a2.Ctrl.First,vI a2.Ctrl.Least,vI a2.Ctrl.Most,vI a2.Ctrl.Wide,vI a2.T,vI a2.Last]) 29)<|.cons [26] (ZU 31 (λu2=>#[vI a2.Last]) (.bool t5) (λu2=>(((!t3)||(!t4))==false)) [true,false] 26 [] (λu2 w hg _=>YG.calls a2.Last t5 w (ifp ht5 hg)))<|.cons [27] (qE (λu2=>.bool (!t5)) (λu2=>(((!t3)||(!t4))==false)) [false] 27)<|.cons [28] (Zx 23 27 (λu2=>true) (λu2=>true) (λu2=>((!t3)||(!t4))) (λu2=>(!t5)) 28)<|.v 29 (.bool (((!t3)||(!t4))||(!t5)))<|.cons [30] (qE (λu2=>vP (nn u1 1) 5) (λu2=>((((!t3)||(!t4))||(!t5))==false)) [true] 30)<|.cons [31] (YL (λu2=>vI a2.T) (λu2=>((((!t3)||(!t4))||(!t5))==false)) [false] 31 94 5 1 (λu2=>(nn u1 1)) (λu2=>[vI a2.Ctrl.Order,vI a2.Ctrl.First,vI a2.Ctrl.Least,vI a2.Ctrl.Most,vI a2.Ctrl.Wide,vI a2.T,vI a2.Last]) 29)<|.cons [32] (qE (λu2=>vP (nn u1 1) 6) (λu2=>((((!t3)||(!t4))||(!t5))==false)) [true] 32)<|.cons [33] (YL (λu2=>vI a2.Last) (λu2=>((((!t3)||(!t4))||(!t5))==false)) [false] 33 94 6 1 (λu2=>(nn u1 1)) (λu2=>[vI a2.Ctrl.Order,vI a2.Ctrl.First,vI a2.Ctrl.Least,vI a2.Ctrl.Most,vI a2.Ctrl.Wide,vI a2.T,vI a2.Last]) 29)<|.cons [34] (qE (λu2=>.bool (decide (a2.T>=a2.Last))) (λu2=>((((!t3)||(!t4))||(!t5))==false)) [false,false] 34)<|.cons [35] (Zx 29 34 (λu2=>true) (λu2=>true) (λu2=>(((!t3)||(!t4))||(!t5))) (λu2=>decide (a2.T>=a2.Last)) 35)<|.nil) [1,3,5,35,90,91,92,93,94,999999] λu2 a w' H=>?_
 refine Qu H ((((!t3)||(!t4))||(!t5))||(decide (a2.T>=a2.Last))) (λc31=>?_) λc31=>?_
 ·rw [if_pos c31] at G
  refine qg qd H (.v 6 (.slice none 0 0)<|.v 7 (vI 1)<|.nil) [6,7,999999] λu6 a w' H=>?_
  refine qB ?_
  obtain rfl:=sj G
  replace H:=H.nil_row 95 63 6
  replace H:=H.add0 96 (Yk fr Qj.toPart ([]:List qR)) (by intro _ _ h; cases h) (Jd WH (λj h=>by obtain ⟨_,hy,_⟩:=h; cases hy)) (λj h=>by obtain ⟨_,hy,_⟩:=h; cases hy)
  obtain ⟨g,o0,n0,d0⟩:=qcr Z1 none 0 (show ([]:List qW)=List.map Yw ([]:List qR) from rfl)
  refine Qz H _ g _ _ _ fr [95,96] [] (.tuple #[.slice none 0 0,vI 1]) [λ_=>XP 63 6 none 0 0 (([]:List qR).flatMap qC),λfr=>Yk fr Qj.toPart ([]:List qR)] (by simp only [slgd_TSegment,dlgd_TSegment,Ql,o0,n0,d0,List.length_set,List.length_cons,List.length_nil,Nat.zero_add,Nat.reduceAdd]) (by simp only [slgd_TSegment,dlgd_TSegment,Ql,o0,n0,d0,List.length_set,List.length_cons,List.length_nil,Nat.zero_add,Nat.reduceAdd]) hfr (.inl ⟨rfl,rfl⟩) (qk Qf (qk Vv qx)) (by simp)
 ·rw [if_neg (nt c31)] at G
  refine q8 ?_
  refine qg qd H (.v 8 (.slice none 0 0)<|.nil) [1,3,5,8,90,91,92,93,94,999999] λu7 a w' H=>?_
  obtain ⟨t9,ht9,G⟩:=qO G
  refine qg qd H (.v 36 (vP (nn u1 1) 0)<|.cons [37] (qf (.agg #[vI a2.Ctrl.Order,vI a2.Ctrl.First,vI a2.Ctrl.Least,vI a2.Ctrl.Most,vI a2.Ctrl.Wide]) 37 94 0 5 (nn u1 1) [vI a2.Ctrl.Order,vI a2.Ctrl.First,vI a2.Ctrl.Least,vI a2.Ctrl.Most,vI a2.Ctrl.Wide,vI a2.T,vI a2.Last] 29)<|.v 38 (vP (nn u1 1) 5)<|.cons [39] (qf (vI a2.T) 39 94 5 1 (nn u1 1) [vI a2.Ctrl.Order,vI a2.Ctrl.First,vI a2.Ctrl.Least,vI a2.Ctrl.Most,vI a2.Ctrl.Wide,vI a2.T,vI a2.Last] 29)<|.v 40 (vP (nn u1 1) 6)<|.cons [41] (qf (vI a2.Last) 41 94 6 1 (nn u1 1) [vI a2.Ctrl.Order,vI a2.Ctrl.First,vI a2.Ctrl.Least,vI a2.Ctrl.Most,vI a2.Ctrl.Wide,vI a2.T,vI a2.Last] 29)<|.v 42 (vP (nn u1 1) 0)<|.cons [43] (qf (.agg #[vI a2.Ctrl.Order,vI a2.Ctrl.First,vI a2.Ctrl.Least,vI a2.Ctrl.Most,vI a2.Ctrl.Wide]) 43 94 0 5 (nn u1 1) [vI a2.Ctrl.Order,vI a2.Ctrl.First,vI a2.Ctrl.Least,vI a2.Ctrl.Most,vI a2.Ctrl.Wide,vI a2.T,vI a2.Last] 29)<|.v 44 (vP (nn u1 1) 6)<|.cons [45] (qf (vI a2.Last) 45 94 6 1 (nn u1 1) [vI a2.Ctrl.Order,vI a2.Ctrl.First,vI a2.Ctrl.Least,vI a2.Ctrl.Most,vI a2.Ctrl.Wide,vI a2.T,vI a2.Last] 29)<|.v 46 (vP (nn u1 1) 5)<|.cons [47] (qf (vI a2.T) 47 94 5 1 (nn u1 1) [vI a2.Ctrl.Order,vI a2.Ctrl.First,vI a2.Ctrl.Least,vI a2.Ctrl.Most,vI a2.Ctrl.Wide,vI a2.T,vI a2.Last] 29)<|.v 48 (vI (qc (a2.Last-a2.T)))<|.cons [49] (qm 32 _ _ 49 [] (λu8 w _=>Y6.calls (⟨a2.Ctrl.Order,a2.Ctrl.First,a2.Ctrl.Least,a2.Ctrl.Most,a2.Ctrl.Wide⟩:qJ) (qc (a2.Last-a2.T)) t9 w ht9))<|.v 50 (.agg #[vI a2.Ctrl.Order,vI a2.Ctrl.First,vI a2.Ctrl.Least,vI a2.Ctrl.Most,vI a2.Ctrl.Wide,vI a2.T,vI a2.Last,vI t9])<|.cons [9,97] (qn (λb=>vP b 0) (λu8=>[vI 0,vI 0,vI 0,vI 0,vI 0,vI 0,vI 0,vI 0]) 100 9 97)<|.cons [97] (QF (u':=λu8=>[(97,.blk (nn u8 15) [vI a2.Ctrl.Order,vI a2.Ctrl.First,vI a2.Ctrl.Least,vI a2.Ctrl.Most,vI a2.Ctrl.Wide,vI a2.T,vI a2.Last,vI t9] 100)]) (qK 97 0 (λu8=>(nn u8 15)) (λu8=>[vI 0,vI 0,vI 0,vI 0,vI 0,vI 0,vI 0,vI 0]) (λu8=>[vI a2.Ctrl.Order,vI a2.Ctrl.First,vI a2.Ctrl.Least,vI a2.Ctrl.Most,vI a2.Ctrl.Wide,vI a2.T,vI a2.Last,vI t9]) 100) (λ_=>by kernel_rfl))<|.nil) [1,3,5,8,9,90,91,92,93,94,97,999999] λu8 a w' H=>?_
  refine qs ?_
  obtain ⟨j11,hj11,Gj11⟩:=qO G
  refine Xu (λa w'=>∃ j11v,j11=Sum.inr j11v ∧ ∃ (p_j10:Option Addr) (c_j10 np_j10:Nat) (L_j10:List qR),np_j10=L_j10.length∧j11v=L_j10.map Yw∧RL w 90 [(8,sS p_j10 np_j10 c_j10),(900052,XP 63 6 p_j10 np_j10 c_j10 (L_j10.flatMap qC)),(900053,Yk fr Qj.toPart L_j10),(999999,gk)] a w') ?_ ?_
  ·clear H; rintro a w' ⟨j11v,rfl,p_j10,c_j10,_,L_j10,rfl,h_j10,H⟩; have G:=Gj11; clear Gj11; dsimp only at G
   refine qg qd H (.v 89 (.slice p_j10 L_j10.length c_j10)<|.v 6 (.slice p_j10 L_j10.length c_j10)<|.v 7 (vI 0)<|.nil) [6,7,900052,900053,999999] λu12 a w' H=>?_
   refine qB ?_
   obtain rfl:=sj G
   obtain ⟨g,o0,n0,d0⟩:=qcr Z1 p_j10 c_j10 h_j10
   refine Qz H _ g _ _ _ fr [900052,900053] [] (.tuple #[.slice p_j10 L_j10.length c_j10,vI 0]) [λ_=>Ql 63 6 p_j10 c_j10 L_j10 qC,λfr=>Yk fr Qj.toPart L_j10] (by simp only [slgd_TSegment,dlgd_TSegment,Ql,o0,n0,d0]) (by simp only [slgd_TSegment,dlgd_TSegment,Ql,o0,n0,d0]) hfr (.inl ⟨rfl,rfl⟩) (qk Qf (qk Vv qx)) (by simp)
  ·have G:=hj11; clear hj11
   refine qV ?_
   replace H:=H.nil_row 115 63 6
   replace H:=H.add0 116 (Yk fr Qj.toPart ([]:List qR)) (by intro _ _ h; cases h) (Jd WH (λj h=>by obtain ⟨_,hy,_⟩:=h; cases hy)) (λj h=>by obtain ⟨_,hy,_⟩:=h; cases hy)
   replace H:=H.dup (K:=qy fr 2 p_a1 c_a1 a1 qa) 92 900054 (by kernel_rfl) (λh=>h) (by intro _ _ h; cases h)
   replace H:=H.move (K:=XP 63 6 none 0 0 (([]:List qR).flatMap qC)) 115 900055 (by kernel_rfl) (by intro _ _ h; cases h)
   replace H:=H.dup (K:=Yk fr Qj.toPart ([]:List qR)) 116 900056 (by kernel_rfl) (λh=>h) (by intro _ _ h; cases h)
   refine XY (λm a w'=>∃ x13:Int,∃ x14:Int,∃ x15:List qb,∃ x16:List qW,QK.l17 k0 a0 a1 a2 t3 t4 t5 t9 m x13 x14 x15 x16=some j11 ∧ ∃ (p_x15:Option Addr) (c_x15 np_x15:Nat),np_x15=x15.length ∧ ∃ (p_x16:Option Addr) (c_x16 np_x16:Nat) (L_x16:List qR),np_x16=L_x16.length∧x16=L_x16.map Yw∧RL w 90 [(1,sS p_x15 np_x15 c_x15),(3,(sP (nn u1 0) 0)),(5,(sP (nn u1 1) 0)),(8,sS p_x16 np_x16 c_x16),(9,(sP (nn u8 15) 0)),(90,qy ql 5 p_a0_L c_a0_L a0.L qi),(91,qy ql 1 p_a0_Out c_a0_Out a0.Out q6),(93,.blk (nn u1 0) [vI a0.N,.slice p_a0_L a0.L.length c_a0_L,.slice p_a0_Out a0.Out.length c_a0_Out] 38),(94,.blk (nn u1 1) [vI a2.Ctrl.Order,vI a2.Ctrl.First,vI a2.Ctrl.Least,vI a2.Ctrl.Most,vI a2.Ctrl.Wide,vI a2.T,vI a2.Last] 29),(97,.blk (nn u8 15) [vI a2.Ctrl.Order,vI a2.Ctrl.First,vI a2.Ctrl.Least,vI a2.Ctrl.Most,vI a2.Ctrl.Wide,vI x13,vI a2.Last,vI x14] 100),(900054,YI fr 2 p_x15 np_x15 c_x15 (x15.flatMap qa)),(900055,XP 63 6 p_x16 np_x16 c_x16 (L_x16.flatMap qC)),(900056,Yk fr Qj.toPart L_x16),(999999,gk)] a w') k0 ⟨_,_,_,_,G,p_a1,c_a1,a1.length,rfl,none,0,0,([]:List qR),rfl,rfl,H.toM _⟩ ?_
   clear G H
   rintro (_ | k) a w' ⟨x13,x14,x15,x16,G,p_x15,c_x15,_,rfl,p_x16,c_x16,_,L_x16,rfl,h_x16,H⟩
   ·exact absurd G (by unfold QK.l17; exact λh=>by cases h)
   ·unfold QK.l17 at G
    refine qs ?_
    refine qg qd H (.v 51 (vP (nn u8 15) 5)<|.cons [52] (qf (vI x13) 52 97 5 1 (nn u8 15) [vI a2.Ctrl.Order,vI a2.Ctrl.First,vI a2.Ctrl.Least,vI a2.Ctrl.Most,vI a2.Ctrl.Wide,vI x13,vI a2.Last,vI x14] 100)<|.v 53 (vP (nn u1 1) 6)<|.cons [54] (qf (vI a2.Last) 54 94 6 1 (nn u1 1) [vI a2.Ctrl.Order,vI a2.Ctrl.First,vI a2.Ctrl.Least,vI a2.Ctrl.Most,vI a2.Ctrl.Wide,vI a2.T,vI a2.Last] 29)<|.v 55 (.bool (decide (x13<a2.Last)))<|.nil) [1,3,5,8,9,55,90,91,93,94,97,900054,900055,900056,999999] λu18 a w' H=>?_
    refine Qu H (decide (x13<a2.Last)) (λc30=>?_) λc30=>?_
    ·rw [if_pos c30] at G
     refine q8 ?_
     refine qV ?_
     obtain ⟨t20,ht20,G⟩:=qO G
     refine qg qd H (.cons [57] (qf (.agg #[vI a0.N,.slice p_a0_L a0.L.length c_a0_L,.slice p_a0_Out a0.Out.length c_a0_Out]) 57 93 0 3 (nn u1 0) [vI a0.N,.slice p_a0_L a0.L.length c_a0_L,.slice p_a0_Out a0.Out.length c_a0_Out] 38)<|.v 58 (.slice p_x15 x15.length c_x15)<|.cons [59] (qf (.agg #[vI a2.Ctrl.Order,vI a2.Ctrl.First,vI a2.Ctrl.Least,vI a2.Ctrl.Most,vI a2.Ctrl.Wide,vI x13,vI a2.Last,vI x14]) 59 97 0 8 (nn u8 15) [vI a2.Ctrl.Order,vI a2.Ctrl.First,vI a2.Ctrl.Least,vI a2.Ctrl.Most,vI a2.Ctrl.Wide,vI x13,vI a2.Last,vI x14] 100)<|.cons [60,98,99,100,101] (Qp true fr [] [90,91,900054,999999] (λu19=>[qy ql 5 p_a0_L c_a0_L a0.L qi,qy ql 1 p_a0_Out c_a0_Out a0.Out q6,qy fr 2 p_x15 c_x15 x15 qa,gk]) [] (λu19=>[]) 33 _ _ _ _ _ [98,99,100,101] 60 (λu19 w hB hF hM=>Q7.calls k0 (⟨a0.N,a0.L,a0.Out⟩:QE) x15 (⟨(⟨a2.Ctrl.Order,a2.Ctrl.First,a2.Ctrl.Least,a2.Ctrl.Most,a2.Ctrl.Wide⟩:qJ),x13,a2.Last,x14⟩:Jc) p_a0_L c_a0_L p_a0_Out c_a0_Out p_x15 c_x15 t20 w hB hF ht20) (λu19 w hF=>⟨⟨qP (qj hF.1) (λj h=>⟨_,(.head _),h⟩),qP (qj hF.2.1) (λj h=>⟨_,(.tail _ (.head _)),h⟩),Je hF.2.2.2.1 (.tail _ (.tail _ (.tail _ (.head _)))),trivial⟩,⟨Zv (qj hF.2.2.1) (λj h=>Zw (.tail _ (.tail _ (.head _))) (λh=>h) h (YV hF.2.2.1 _ h)),trivial⟩⟩) (λu19 g=>(qk (QP (by decide)) (qk (QP (by decide)) (qk (QP (by decide)) (qk (QP (by decide)) qx))))) (.inl rfl) (λ_=>hBf))<|.cons [56] (qr (λu19=>.tuple #[.agg #[vI t20.1.T,vI t20.1.H,.slice ((u19 3).o 0) t20.1.From.length (nn u19 3),.slice ((u19 3).o 1) t20.1.Pre.length ((u19 3).n 1),.slice ((u19 3).o 2) t20.1.Tube.length ((u19 3).n 2),.slice ((u19 3).o 3) t20.1.To.length ((u19 3).n 3)],vI t20.2.1,vI t20.2.2]) 56)<|.cons [61] (qr (λu19=>.agg #[vI t20.1.T,vI t20.1.H,.slice ((u19 3).o 0) t20.1.From.length (nn u19 3),.slice ((u19 3).o 1) t20.1.Pre.length ((u19 3).n 1),.slice ((u19 3).o 2) t20.1.Tube.length ((u19 3).n 2),.slice ((u19 3).o 3) t20.1.To.length ((u19 3).n 3)]) 61)<|.v 62 (vI t20.2.1)<|.v 63 (vI t20.2.2)<|.cons [10,102] (qn (λb=>vP b 0) (λu19=>[vI 0,vI 0,.slice none 0 0,.slice none 0 0,.slice none 0 0,.slice none 0 0]) 63 10 102)<|.cons [102] (QF (u':=λu19=>[(102,.blk (nn u19 8) [vI t20.1.T,vI t20.1.H,.slice ((u19 3).o 0) t20.1.From.length (nn u19 3),.slice ((u19 3).o 1) t20.1.Pre.length ((u19 3).n 1),.slice ((u19 3).o 2) t20.1.Tube.length ((u19 3).n 2),.slice ((u19 3).o 3) t20.1.To.length ((u19 3).n 3)] 63)]) (qK 102 0 (λu19=>(nn u19 8)) (λu19=>[vI 0,vI 0,.slice none 0 0,.slice none 0 0,.slice none 0 0,.slice none 0 0]) (λu19=>[vI t20.1.T,vI t20.1.H,.slice ((u19 3).o 0) t20.1.From.length (nn u19 3),.slice ((u19 3).o 1) t20.1.Pre.length ((u19 3).n 1),.slice ((u19 3).o 2) t20.1.Tube.length ((u19 3).n 2),.slice ((u19 3).o 3) t20.1.To.length ((u19 3).n 3)]) 63) (λ_=>by kernel_rfl))<|.v 11 (vI t20.2.1)<|.v 12 (vI t20.2.2)<|.nil) [3,5,8,9,10,11,12,90,91,93,94,97,98,99,100,101,102,900055,900056,999999] λu19 a w' H=>?_
     refine qs ?_
     refine qV ?_
     refine qg qd H (.v 65 (vI t20.2.2)<|.v 66 (.iface 32 (vI t20.2.2))<|.v 67 (.iface 32 (vI 0))<|.cons [68] (qm 34 _ _ 68 [] (λu21 w _=>qhz t20.2.2 w))<|.v 69 (.bool (!(t20.2.2==0)))<|.v 64 (.bool (!(t20.2.2==0)))<|.nil) [3,5,8,9,10,11,12,64,90,91,93,94,97,98,99,100,101,102,900055,900056,999999] λu21 a w' H=>?_
     refine Qu H (!(t20.2.2==0)) (λc29=>?_) λc29=>?_
     ·rw [if_pos c29] at G
      refine qg qd H (.v 70 (vI t20.2.2)<|.v 6 (.slice none 0 0)<|.v 7 (vI t20.2.2)<|.nil) [6,7,999999] λu22 a w' H=>?_
      refine qB ?_
      obtain rfl:=sj G
      replace G:=Gj11
      obtain rfl:=sj G
      replace H:=H.nil_row 103 63 6
      replace H:=H.add0 104 (Yk fr Qj.toPart ([]:List qR)) (by intro _ _ h; cases h) (Jd WH (λj h=>by obtain ⟨_,hy,_⟩:=h; cases hy)) (λj h=>by obtain ⟨_,hy,_⟩:=h; cases hy)
      obtain ⟨g,o0,n0,d0⟩:=qcr Z1 none 0 (show ([]:List qW)=List.map Yw ([]:List qR) from rfl)
      refine Qz H _ g _ _ _ fr [103,104] [] (.tuple #[.slice none 0 0,vI t20.2.2]) [λ_=>XP 63 6 none 0 0 (([]:List qR).flatMap qC),λfr=>Yk fr Qj.toPart ([]:List qR)] (by simp only [slgd_TSegment,dlgd_TSegment,Ql,o0,n0,d0,List.length_set,List.length_cons,List.length_nil,Nat.zero_add,Nat.reduceAdd]) (by simp only [slgd_TSegment,dlgd_TSegment,Ql,o0,n0,d0,List.length_set,List.length_cons,List.length_nil,Nat.zero_add,Nat.reduceAdd]) hfr (.inl ⟨rfl,rfl⟩) (qk Qf (qk Vv qx)) (by simp)
     ·rw [if_neg (nt c29)] at G
      refine qg qd H (.v 72 (.slice p_x16 L_x16.length c_x16)<|.cons [73] (qL 900055 (Ql 63 6 p_x16 c_x16 L_x16 qC) (vI (x16.length:Int)) 73 λ_ w h=>Y0 (((qH (Qx h)).2.len QQ (by decide)).trans (QD h_x16).symm) (by kernel_rfl))<|.v 74 (.bool ((x16.length:Int)==256))<|.v 71 (.bool ((x16.length:Int)==256))<|.nil) [3,5,8,9,10,11,71,90,91,93,94,97,98,99,100,101,102,900055,900056,999999] λu23 a w' H=>?_
      refine Qu H ((x16.length:Int)==256) (λc28=>?_) λc28=>?_
      ·rw [if_pos c28] at G
       refine qg qd H (.v 6 (.slice none 0 0)<|.v 7 (vI 140)<|.nil) [6,7,999999] λu24 a w' H=>?_
       refine qB ?_
       obtain rfl:=sj G
       replace G:=Gj11
       obtain rfl:=sj G
       replace H:=H.nil_row 105 63 6
       replace H:=H.add0 106 (Yk fr Qj.toPart ([]:List qR)) (by intro _ _ h; cases h) (Jd WH (λj h=>by obtain ⟨_,hy,_⟩:=h; cases hy)) (λj h=>by obtain ⟨_,hy,_⟩:=h; cases hy)
       obtain ⟨g,o0,n0,d0⟩:=qcr Z1 none 0 (show ([]:List qW)=List.map Yw ([]:List qR) from rfl)
       refine Qz H _ g _ _ _ fr [105,106] [] (.tuple #[.slice none 0 0,vI 140]) [λ_=>XP 63 6 none 0 0 (([]:List qR).flatMap qC),λfr=>Yk fr Qj.toPart ([]:List qR)] (by simp only [slgd_TSegment,dlgd_TSegment,Ql,o0,n0,d0,List.length_set,List.length_cons,List.length_nil,Nat.zero_add,Nat.reduceAdd]) (by simp only [slgd_TSegment,dlgd_TSegment,Ql,o0,n0,d0,List.length_set,List.length_cons,List.length_nil,Nat.zero_add,Nat.reduceAdd]) hfr (.inl ⟨rfl,rfl⟩) (qk Qf (qk Vv qx)) (by simp)
      ·rw [if_neg (nt c28)] at G
       refine q8 ?_
       refine qs ?_
       replace G:=gd G; obtain ⟨b26,G⟩:=G
       refine Qq qd H (.v 75 (.slice p_x16 L_x16.length c_x16)<|.cons [76] (qf (.agg #[vI t20.1.T,vI t20.1.H,.slice ((u19 3).o 0) t20.1.From.length (nn u19 3),.slice ((u19 3).o 1) t20.1.Pre.length ((u19 3).n 1),.slice ((u19 3).o 2) t20.1.Tube.length ((u19 3).n 2),.slice ((u19 3).o 3) t20.1.To.length ((u19 3).n 3)]) 76 102 0 6 (nn u19 8) [vI t20.1.T,vI t20.1.H,.slice ((u19 3).o 0) t20.1.From.length (nn u19 3),.slice ((u19 3).o 1) t20.1.Pre.length ((u19 3).n 1),.slice ((u19 3).o 2) t20.1.Tube.length ((u19 3).n 2),.slice ((u19 3).o 3) t20.1.To.length ((u19 3).n 3)] 63)<|.cons [77,107] (qn (λb=>.slice (some ⟨b,0,none⟩) 1 1) (λu25=>[vI t20.1.T,vI t20.1.H,.slice ((u19 3).o 0) t20.1.From.length (nn u19 3),.slice ((u19 3).o 1) t20.1.Pre.length ((u19 3).n 1),.slice ((u19 3).o 2) t20.1.Tube.length ((u19 3).n 2),.slice ((u19 3).o 3) t20.1.To.length ((u19 3).n 3)]) 63 77 107)<|.cons [78,900055,900055,108] (qdU [2] [900056,107,98,99,100,101] (λu25=>[Yk fr Qj.toPart L_x16,.blk (nn u25 2) [vI t20.1.T,vI t20.1.H,.slice ((u19 3).o 0) t20.1.From.length (nn u19 3),.slice ((u19 3).o 1) t20.1.Pre.length ((u19 3).n 1),.slice ((u19 3).o 2) t20.1.Tube.length ((u19 3).n 2),.slice ((u19 3).o 3) t20.1.To.length ((u19 3).n 3)] 63,YI fr 2 ((u19 3).o 0) t20.1.From.length (nn u19 3) (t20.1.From.flatMap qa),YI fr 2 ((u19 3).o 1) t20.1.Pre.length ((u19 3).n 1) (t20.1.Pre.flatMap qa),YI fr 2 ((u19 3).o 2) t20.1.Tube.length ((u19 3).n 2) (t20.1.Tube.flatMap qa),YI fr 2 ((u19 3).o 3) t20.1.To.length ((u19 3).n 3) (t20.1.To.flatMap qa)]) 900055 108 (λu25=>Ql 63 6 p_x16 c_x16 L_x16 qC) (some 78) (λu25 g=>.slice (g.o 0) (L_x16++[((⟨t20.1.T,t20.1.H,⟨((u19 3).o 0),(nn u19 3),t20.1.From⟩,⟨((u19 3).o 1),((u19 3).n 1),t20.1.Pre⟩,⟨((u19 3).o 2),((u19 3).n 2),t20.1.Tube⟩,⟨((u19 3).o 3),((u19 3).n 3),t20.1.To⟩⟩:qR):qR)]).length (g.n 0)) (λu25 g=>Ql 63 6 (g.o 0) (g.n 0) (L_x16++[((⟨t20.1.T,t20.1.H,⟨((u19 3).o 0),(nn u19 3),t20.1.From⟩,⟨((u19 3).o 1),((u19 3).n 1),t20.1.Pre⟩,⟨((u19 3).o 2),((u19 3).n 2),t20.1.Tube⟩,⟨((u19 3).o 3),((u19 3).n 3),t20.1.To⟩⟩:qR):qR)]) qC) (λu25 g=>Yk fr Qj.toPart (L_x16++[((⟨t20.1.T,t20.1.H,⟨((u19 3).o 0),(nn u19 3),t20.1.From⟩,⟨((u19 3).o 1),((u19 3).n 1),t20.1.Pre⟩,⟨((u19 3).o 2),((u19 3).n 2),t20.1.Tube⟩,⟨((u19 3).o 3),((u19 3).n 3),t20.1.To⟩⟩:qR):qR)])) (λu25 w hF hK=>qdO (Yb (t:=31) (ty:=31) (en:=qC) QQ qhT (Qx hK) hF.2.1 (news:=[((⟨t20.1.T,t20.1.H,⟨((u19 3).o 0),(nn u19 3),t20.1.From⟩,⟨((u19 3).o 1),((u19 3).n 1),t20.1.Pre⟩,⟨((u19 3).o 2),((u19 3).n 2),t20.1.Tube⟩,⟨((u19 3).o 3),((u19 3).n 3),t20.1.To⟩⟩:qR):qR)]) rfl (by simp) (by kernel_rfl) (by rw [<- QD h_x16]; exact b26)) (qe6 hF.1 (.head _) ⟨⟨(qj hF.2.2.1),λ_ _=>trivial⟩,⟨⟨(qj hF.2.2.2.1),λ_ _=>trivial⟩,⟨⟨(qj hF.2.2.2.2.1),λ_ _=>trivial⟩,⟨(qj hF.2.2.2.2.2.1),λ_ _=>trivial⟩⟩⟩⟩ (λj h=>(h.elim (λh=>(h.elim (λh=>Zw (.tail _ (.tail _ (.head _))) (λh=>h) h (YV hF.2.2.1 _ h)) (λ⟨_,_,hz⟩=>hz.elim))) (λh=>(h.elim (λh=>(h.elim (λh=>Zw (.tail _ (.tail _ (.tail _ (.head _)))) (λh=>h) h (YV hF.2.2.2.1 _ h)) (λ⟨_,_,hz⟩=>hz.elim))) (λh=>(h.elim (λh=>(h.elim (λh=>Zw (.tail _ (.tail _ (.tail _ (.tail _ (.head _))))) (λh=>h) h (YV hF.2.2.2.2.1 _ h)) (λ⟨_,_,hz⟩=>hz.elim))) (λh=>(h.elim (λh=>Zw (.tail _ (.tail _ (.tail _ (.tail _ (.tail _ (.head _)))))) (λh=>h) h (YV hF.2.2.2.2.2.1 _ h)) (λ⟨_,_,hz⟩=>hz.elim))))))))))) (hloc:=λu u' h=>by refine ⟨?_,?_,?_,?_,?_⟩ <;> first | rfl | simp only [nn, h 2 (by decide)]))<|.cons [8] (qr (λu25=>.slice ((u25 3).o 0) ((L_x16++[((⟨t20.1.T,t20.1.H,⟨((u19 3).o 0),(nn u19 3),t20.1.From⟩,⟨((u19 3).o 1),((u19 3).n 1),t20.1.Pre⟩,⟨((u19 3).o 2),((u19 3).n 2),t20.1.Tube⟩,⟨((u19 3).o 3),((u19 3).n 3),t20.1.To⟩⟩:qR):qR)]).length) (nn u25 3)) 8)<|.nil) [3,5,8,9,10,11,90,91,93,94,97,98,99,100,101,102,108,900055,999999] λu25 a w' H=>?_
       refine Qq qd H (.v 79 (vP (nn u19 8) 0)<|.cons [80] (qf (vI t20.1.T) 80 102 0 1 (nn u19 8) [vI t20.1.T,vI t20.1.H,.slice ((u19 3).o 0) t20.1.From.length (nn u19 3),.slice ((u19 3).o 1) t20.1.Pre.length ((u19 3).n 1),.slice ((u19 3).o 2) t20.1.Tube.length ((u19 3).n 2),.slice ((u19 3).o 3) t20.1.To.length ((u19 3).n 3)] 63)<|.v 81 (vP (nn u19 8) 1)<|.cons [82] (qf (vI t20.1.H) 82 102 1 1 (nn u19 8) [vI t20.1.T,vI t20.1.H,.slice ((u19 3).o 0) t20.1.From.length (nn u19 3),.slice ((u19 3).o 1) t20.1.Pre.length ((u19 3).n 1),.slice ((u19 3).o 2) t20.1.Tube.length ((u19 3).n 2),.slice ((u19 3).o 3) t20.1.To.length ((u19 3).n 3)] 63)<|.v 83 (vI (qc (t20.1.T+t20.1.H)))<|.v 84 (vI t20.2.1)<|.v 85 (vP (nn u19 8) 5)<|.cons [86] (qf (.slice ((u19 3).o 3) t20.1.To.length ((u19 3).n 3)) 86 102 5 1 (nn u19 8) [vI t20.1.T,vI t20.1.H,.slice ((u19 3).o 0) t20.1.From.length (nn u19 3),.slice ((u19 3).o 1) t20.1.Pre.length ((u19 3).n 1),.slice ((u19 3).o 2) t20.1.Tube.length ((u19 3).n 2),.slice ((u19 3).o 3) t20.1.To.length ((u19 3).n 3)] 63)<|.v 87 (vP (nn u8 15) 5)<|.cons [97] (qQ 97 5 (nn u8 15) [vI a2.Ctrl.Order,vI a2.Ctrl.First,vI a2.Ctrl.Least,vI a2.Ctrl.Most,vI a2.Ctrl.Wide,vI x13,vI a2.Last,vI x14] [vI (qc (t20.1.T+t20.1.H))] 100 [vI a2.Ctrl.Order,vI a2.Ctrl.First,vI a2.Ctrl.Least,vI a2.Ctrl.Most,vI a2.Ctrl.Wide,vI (qc (t20.1.T+t20.1.H)),vI a2.Last,vI x14])<|.v 88 (vP (nn u8 15) 7)<|.cons [97] (qQ 97 7 (nn u8 15) [vI a2.Ctrl.Order,vI a2.Ctrl.First,vI a2.Ctrl.Least,vI a2.Ctrl.Most,vI a2.Ctrl.Wide,vI (qc (t20.1.T+t20.1.H)),vI a2.Last,vI x14] [vI t20.2.1] 100 [vI a2.Ctrl.Order,vI a2.Ctrl.First,vI a2.Ctrl.Least,vI a2.Ctrl.Most,vI a2.Ctrl.Wide,vI (qc (t20.1.T+t20.1.H)),vI a2.Last,vI t20.2.1])<|.v 1 (.slice ((u19 3).o 3) t20.1.To.length ((u19 3).n 3))<|.nil) [1,3,5,8,9,90,91,93,94,97,101,108,900055,999999] λu27 a w' H=>?_
       replace H:=H.dup (K:=YI fr 2 ((u19 3).o 3) t20.1.To.length ((u19 3).n 3) (t20.1.To.flatMap qa)) 101 900054 (by kernel_rfl) (λh=>h) (by intro _ _ h; cases h)
       replace H:=H.dup (K:=Yk fr Qj.toPart (L_x16++[((⟨t20.1.T,t20.1.H,⟨((u19 3).o 0),(nn u19 3),t20.1.From⟩,⟨((u19 3).o 1),((u19 3).n 1),t20.1.Pre⟩,⟨((u19 3).o 2),((u19 3).n 2),t20.1.Tube⟩,⟨((u19 3).o 3),((u19 3).n 3),t20.1.To⟩⟩:qR):qR)])) 108 900056 (by kernel_rfl) (λh=>h) (by intro _ _ h; cases h)
       exact ⟨k,Nat.lt_succ_self k,_,_,_,_,G,((u19 3).o 3),((u19 3).n 3),t20.1.To.length,rfl,((u25 3).o 0),(nn u25 3),(L_x16++[((⟨t20.1.T,t20.1.H,⟨((u19 3).o 0),(nn u19 3),t20.1.From⟩,⟨((u19 3).o 1),((u19 3).n 1),t20.1.Pre⟩,⟨((u19 3).o 2),((u19 3).n 2),t20.1.Tube⟩,⟨((u19 3).o 3),((u19 3).n 3),t20.1.To⟩⟩:qR):qR)]).length,(L_x16++[((⟨t20.1.T,t20.1.H,⟨((u19 3).o 0),(nn u19 3),t20.1.From⟩,⟨((u19 3).o 1),((u19 3).n 1),t20.1.Pre⟩,⟨((u19 3).o 2),((u19 3).n 2),t20.1.Tube⟩,⟨((u19 3).o 3),((u19 3).n 3),t20.1.To⟩⟩:qR):qR)]),rfl,(qbP h_x16 ((⟨t20.1.T,t20.1.H,⟨((u19 3).o 0),(nn u19 3),t20.1.From⟩,⟨((u19 3).o 1),((u19 3).n 1),t20.1.Pre⟩,⟨((u19 3).o 2),((u19 3).n 2),t20.1.Tube⟩,⟨((u19 3).o 3),((u19 3).n 3),t20.1.To⟩⟩:qR):qR)),H.toM _⟩
    ·rw [if_neg (nt c30)] at G
     refine Yx rfl ?_
     obtain rfl:=sj G
     replace H:=H.move (K:=Ql 63 6 p_x16 c_x16 L_x16 qC) 900055 900052 (by kernel_rfl) (by intro _ _ h; cases h)
     replace H:=H.dup (K:=Yk fr Qj.toPart L_x16) 900056 900053 (by kernel_rfl) (λh=>h) (by intro _ _ h; cases h)
     exact ⟨_,rfl,p_x16,c_x16,L_x16.length,L_x16,rfl,h_x16,H.toM _⟩
theorem ZK.calls (a0:Int)(r:Int)(w:World)(G:ZK a0=some r) :
  Calls Tryz.prog 61 #[vI a0] w λe w'=>e = .returned (vI r)∧Below w.heap.size w w':=by
 refine Qs (args:=[vI a0]) 24 Tryz.func61 rfl λa H=>?_
 unfold ZK at G
 refine qg qd H (.v 2 (vI 0)<|.nil) [0] λu1 a w' H=>?_
 refine qs ?_
 refine qV ?_
 refine qg qd H (.v 4 (vI a0)<|.v 5 (.bool (decide (a0>=1)))<|.v 6 (.bool (decide (a0>=1)))<|.cons [7] (qE (λu2=>vI a0) (λu2=>((decide (a0>=1))==true)) [true] 7)<|.cons [8] (qE (λu2=>.bool (decide (a0<=3))) (λu2=>((decide (a0>=1))==true)) [false,true] 8)<|.cons [9] (YH 6 8 (λu2=>true) (λu2=>true) (λu2=>decide (a0>=1)) (λu2=>decide (a0<=3)) 9)<|.v 3 (.bool ((decide (a0>=1))&&(decide (a0<=3))))<|.nil) [0,3] λu2 a w' H=>?_
 refine Qu H ((decide (a0>=1))&&(decide (a0<=3))) (λc11=>?_) λc11=>?_
 ·rw [if_pos c11] at G
  refine qg qd H (.v 2 (vI 0)<|.nil) [2] λu3 a w' H=>?_
  refine qB ?_
  obtain rfl:=sj G
  exact Qr H _
 ·rw [if_neg (nt c11)] at G
  refine qg qd H (.v 11 (vI a0)<|.v 12 (.bool (decide (a0>=4)))<|.v 13 (.bool (decide (a0>=4)))<|.cons [14] (qE (λu4=>vI a0) (λu4=>((decide (a0>=4))==true)) [true] 14)<|.cons [15] (qE (λu4=>.bool (decide (a0<=6))) (λu4=>((decide (a0>=4))==true)) [false,true] 15)<|.cons [16] (YH 13 15 (λu4=>true) (λu4=>true) (λu4=>decide (a0>=4)) (λu4=>decide (a0<=6)) 16)<|.v 10 (.bool ((decide (a0>=4))&&(decide (a0<=6))))<|.nil) [0,10] λu4 a w' H=>?_
  refine Qu H ((decide (a0>=4))&&(decide (a0<=6))) (λc10=>?_) λc10=>?_
  ·rw [if_pos c10] at G
   refine qg qd H (.v 2 (vI 1)<|.nil) [2] λu5 a w' H=>?_
   refine qB ?_
   obtain rfl:=sj G
   exact Qr H _
  ·rw [if_neg (nt c10)] at G
   refine qg qd H (.v 18 (vI a0)<|.v 19 (.bool (decide (a0>=7)))<|.v 20 (.bool (decide (a0>=7)))<|.cons [21] (qE (λu6=>vI a0) (λu6=>((decide (a0>=7))==true)) [true] 21)<|.cons [22] (qE (λu6=>.bool (decide (a0<=10))) (λu6=>((decide (a0>=7))==true)) [false,true] 22)<|.cons [23] (YH 20 22 (λu6=>true) (λu6=>true) (λu6=>decide (a0>=7)) (λu6=>decide (a0<=10)) 23)<|.v 17 (.bool ((decide (a0>=7))&&(decide (a0<=10))))<|.nil) [17] λu6 a w' H=>?_
   refine Qu H ((decide (a0>=7))&&(decide (a0<=10))) (λc9=>?_) λc9=>?_
   ·rw [if_pos c9] at G
    refine qg qd H (.v 2 (vI 2)<|.nil) [2] λu7 a w' H=>?_
    refine qB ?_
    obtain rfl:=sj G
    exact Qr H _
   ·rw [if_neg (nt c9)] at G
    refine q8 ?_
    refine qg qd H (.v 2 (vI (-1))<|.nil) [2] λu8 a w' H=>?_
    refine qB ?_
    obtain rfl:=sj G
    exact Qr H _
theorem XF.calls (k0:Nat)(a0:List qt)(p_a0:Option Addr)(c_a0:Nat)(r:Int)(w:World)(hB:Xp [qy ql 4 p_a0 c_a0 a0 qp] w)(G:XF k0 a0=some r) :
  Calls Tryz.prog 62 #[.slice p_a0 a0.length c_a0] w λe w'=>e = .returned (vI r)∧Below w.heap.size w w':=by
 obtain ⟨fr,hfr⟩:∃ fr:Nat->Prop,∀ j,fr j:=⟨λ_=>True,λ_=>trivial⟩
 have hBf:∀ j,w.heap.size<=j->fr j:=λj _=>hfr j
 refine QA (args:=[.slice p_a0 a0.length c_a0]) 27 [(27,qy ql 4 p_a0 c_a0 a0 qp)] (by
  intro x hx
  simp only [List.mem_cons,List.not_mem_nil,or_false] at hx
  rcases hx with rfl
  exact qv (qj hB.1) (λ_ _=>trivial) (by decide) _) Tryz.func62 rfl λa H=>?_
 unfold XF at G
 refine qg qd H (.v 2 (vI 0)<|.nil) [0,27] λu1 a w' H=>?_
 refine qg qd H (.v 3 (vI 1)<|.nil) [0,3,27] λu2 a w' H=>?_
 refine qs ?_
 obtain ⟨j3,hj3,Gj3⟩:=qO G
 refine Xu (λa w'=>∃ j3v,j3=Sum.inr j3v∧RL w 27 [(0,sS p_a0 a0.length c_a0),(27,qy ql 4 p_a0 c_a0 a0 qp)] a w') ?_ ?_
 ·clear H; rintro a w' ⟨j3v,rfl,H⟩; have G:=Gj3; clear Gj3; dsimp only at G
  refine qg qd H (.v 24 (.slice p_a0 a0.length c_a0)<|.v 25 (vI (a0.length:Int))<|.v 26 (vI (qc ((a0.length:Int)+1)))<|.v 2 (vI (qc ((a0.length:Int)+1)))<|.nil) [2] λu4 a w' H=>?_
  refine qB ?_
  obtain rfl:=sj G
  exact Qr H _
 ·have G:=hj3; clear hj3
  refine qg qd H (.v 6 (.slice p_a0 a0.length c_a0)<|.v 7 (vI (a0.length:Int))<|.v 8 (vI 0)<|.nil) [0,3,6,7,8,27] λu5 a w' H=>?_
  refine qV ?_
  refine XY (λm a w'=>∃ x6:Int,∃ x7:Int,XF.l8 k0 a0 m x6 x7=some j3∧RL w 27 [(0,sS p_a0 a0.length c_a0),(3,sI x6),(6,sS p_a0 a0.length c_a0),(7,(sI (a0.length:Int))),(8,sI x7),(27,qy ql 4 p_a0 c_a0 a0 qp)] a w') k0 ⟨_,_,G,H.toM _⟩ ?_
  clear G H
  rintro (_ | k) a w' ⟨x6,x7,G,H⟩
  ·exact absurd G (by unfold XF.l8; exact λh=>by cases h)
  ·unfold XF.l8 at G
   refine qg qd H (.v 9 (.bool (decide (x7<(a0.length:Int))))<|.nil) [0,3,6,7,8,9,27] λu9 a w' H=>?_
   refine qs ?_
   refine Qu H (decide (x7<(a0.length:Int))) (λc19=>?_) λc19=>?_
   ·rw [if_pos c19] at G
    refine q8 ?_
    refine qs ?_
    refine qV ?_
    refine qs ?_
    replace G:=gd G; obtain ⟨b11,G⟩:=G
    obtain ⟨t12,ht12,G⟩:=qO G
    refine Qq qd H (.v 10 (vI x7)<|.cons [11] (qL 27 (qy ql 4 p_a0 c_a0 a0 qp) (.pointer (some ⟨XR p_a0,XV p_a0+x7.toNat*4,none⟩)) 11 λ_ w h=>JT 59 .i64 x7 p_a0 a0.length c_a0 a0 qp (qj h).2 QI rfl b11)<|.cons [12] (qL 27 (qy ql 4 p_a0 c_a0 a0 qp) (.agg #[vI t12.Op,vI t12.N,vI t12.C.Lo,vI t12.C.Hi]) 12 λ_ w h=>Y4 qp (qj h).2 QI ht12 0 4 [vI t12.Op,vI t12.N,vI t12.C.Lo,vI t12.C.Hi])<|.cons [5,28] (qn (λb=>vP b 0) (λu10=>[vI 0,vI 0,vI 0,vI 0]) 61 5 28)<|.v 4 (vI x7)<|.cons [28] (QF (u':=λu10=>[(28,.blk (nn u10 3) [vI t12.Op,vI t12.N,vI t12.C.Lo,vI t12.C.Hi] 61)]) (qK 28 0 (λu10=>(nn u10 3)) (λu10=>[vI 0,vI 0,vI 0,vI 0]) (λu10=>[vI t12.Op,vI t12.N,vI t12.C.Lo,vI t12.C.Hi]) 61) (λ_=>by kernel_rfl))<|.nil) [0,3,4,5,6,7,8,27,28] λu10 a w' H=>?_
    obtain ⟨t14,ht14,G⟩:=qO G
    refine qg qd H (.v 13 (vI x6)<|.v 14 (vP (nn u10 3) 0)<|.cons [15] (qf (vI t12.Op) 15 28 0 1 (nn u10 3) [vI t12.Op,vI t12.N,vI t12.C.Lo,vI t12.C.Hi] 61)<|.cons [16] (qm 61 _ _ 16 [] (λu13 w _=>ZK.calls t12.Op t14 w ht14))<|.v 17 (vI (qc (t14-1)))<|.v 18 (vI (qc (x6+(qc (t14-1)))))<|.v 3 (vI (qc (x6+(qc (t14-1)))))<|.nil) [0,3,4,6,7,8,27] λu13 a w' H=>?_
    refine qg qd H (.v 19 (vI (qc (x6+(qc (t14-1)))))<|.v 20 (.bool ((qc (x6+(qc (t14-1))))==0))<|.nil) [0,3,4,6,7,8,20,27] λu15 a w' H=>?_
    refine Qu H ((qc (x6+(qc (t14-1))))==0) (λc18=>?_) λc18=>?_
    ·rw [if_pos c18] at G
     refine qg qd H (.v 21 (vI x7)<|.v 22 (vI (qc (x7+1)))<|.v 2 (vI (qc (x7+1)))<|.nil) [2] λu16 a w' H=>?_
     refine qB ?_
     obtain rfl:=sj G
     replace G:=Gj3
     obtain rfl:=sj G
     exact Qr H _
    ·rw [if_neg (nt c18)] at G
     refine q8 ?_
     refine Qq qd H (.v 23 (vI (qc (x7+1)))<|.v 8 (vI (qc (x7+1)))<|.nil) [0,3,6,7,8,27] λu17 a w' H=>?_
     exact ⟨k,Nat.lt_succ_self k,_,_,G,H.toM _⟩
   ·rw [if_neg (nt c19)] at G
    refine Yx rfl ?_
    obtain rfl:=sj G
    exact ⟨_,rfl,H.toM _⟩
theorem Xx.calls (k0:Nat)(a0:List qt)(p_a0:Option Addr)(c_a0:Nat)(r:List (List qt))(w:World)(hF:Xp [qy ql 4 p_a0 c_a0 a0 qp] w)(G:Xx k0 a0=some r) :
  Calls Tryz.prog 36 #[.slice p_a0 a0.length c_a0] w λe w'=>∃ g:Gh,e = .returned (slgd_S_TNode g 0 r)∧Zj (YR []) w w'∧Ye w.heap.size (YR []) (JS w.heap.size [qy ql 4 p_a0 c_a0 a0 qp]) [λ_=>Ql 59 1 (g.o 0) (g.n 0) (dlgd_S_TNode g 0 r) Qo,λfr=>Yk fr QL.toPart (dlgd_S_TNode g 0 r)] w':=by
 obtain ⟨fr,hfr,hBf⟩:=VT w [qy ql 4 p_a0 c_a0 a0 qp]
 refine QA (args:=[.slice p_a0 a0.length c_a0]) 30 [(30,qy fr 4 p_a0 c_a0 a0 qp)] (by
  intro x hx
  simp only [List.mem_cons,List.not_mem_nil,or_false] at hx
  rcases hx with rfl
  exact qv (qj hF.1) (λj h=>by rw [hfr]; exact .inr ⟨_,(.head _),h⟩) (by decide) _) Tryz.func36 rfl λa H=>?_
 unfold Xx at G
 refine qg qd H (.v 2 (.slice none 0 0)<|.nil) [0,30] λu1 a w' H=>?_
 refine qg qd H (.v 3 (.slice none 0 0)<|.nil) [0,3,30] λu2 a w' H=>?_
 refine qg qd H (.v 4 (vI 1)<|.nil) [0,3,4,30] λu3 a w' H=>?_
 refine qs ?_
 obtain ⟨j5,hj5,G⟩:=qO G
 refine Xu (λa w'=>∃ (p_j4:Option Addr) (c_j4 np_j4:Nat) (L_j4:List (Sl qt)),np_j4=L_j4.length∧j5=L_j4.map Sl.l∧RL w 30 [(3,sS p_j4 np_j4 c_j4),(900059,XP 59 1 p_j4 np_j4 c_j4 (L_j4.flatMap Qo)),(900060,Yk fr QL.toPart L_j4)] a w') ?_ ?_
 ·clear H; rintro a w' ⟨p_j4,c_j4,_,L_j4,rfl,h_j4,H⟩
  refine qg qd H (.v 29 (.slice p_j4 L_j4.length c_j4)<|.v 2 (.slice p_j4 L_j4.length c_j4)<|.nil) [2,900059,900060] λu6 a w' H=>?_
  refine qB ?_
  obtain rfl:=sj G
  obtain ⟨g,o0,n0,d0⟩:=qcr q9 p_j4 c_j4 h_j4
  refine Qz H _ g _ _ _ fr [900059,900060] [] (.slice p_j4 L_j4.length c_j4) [λ_=>Ql 59 1 p_j4 c_j4 L_j4 Qo,λfr=>Yk fr QL.toPart L_j4] (by simp only [slgd_S_TNode,dlgd_S_TNode,ns_en_TNodeg,WC,qae,Ql,o0,n0,d0]) (by simp only [slgd_S_TNode,dlgd_S_TNode,ns_en_TNodeg,WC,qae,Ql,o0,n0,d0]) hfr (.inl ⟨rfl,rfl⟩) (qk Qf (qk Vv qx)) (by simp)
 ·clear G; replace G:=hj5; clear hj5
  refine qs ?_
  replace G:=gd G; obtain ⟨b8,G⟩:=G
  obtain ⟨t9,ht9,G⟩:=qO G
  obtain ⟨t10,ht10,G⟩:=qO G
  refine Qq qd H (.v 6 (.slice p_a0 a0.length c_a0)<|.cons [7] (qL 30 (qy fr 4 p_a0 c_a0 a0 qp) (.pointer (some ⟨XR p_a0,XV p_a0+((0:Int).toNat)*4,none⟩)) 7 λ_ w h=>JT 59 .i64 (0:Int) p_a0 a0.length c_a0 a0 qp (qj h).2 QI rfl b8)<|.v 8 (.pointer (some ⟨XR p_a0,XV p_a0+((0:Int).toNat)*4+0,none⟩))<|.cons [9] (qL 30 (qy fr 4 p_a0 c_a0 a0 qp) (vI t9.Op) 9 λ_ w h=>Y4 qp (qj h).2 QI ht9 0 1 [vI t9.Op])<|.cons [10] (qm 61 _ _ 10 [] (λu7 w _=>ZK.calls t9.Op t10 w ht10))<|.v 11 (vI 0)<|.nil) [0,3,4,10,11,30] λu7 a w' H=>?_
  refine qV ?_
  replace H:=H.nil_row 37 59 1
  replace H:=H.add0 38 (Yk fr QL.toPart ([]:List (Sl qt))) (by intro _ _ h; cases h) (Jd WH (λj h=>by obtain ⟨_,hy,_⟩:=h; cases hy)) (λj h=>by obtain ⟨_,hy,_⟩:=h; cases hy)
  replace H:=H.move (K:=XP 59 1 none 0 0 (([]:List (Sl qt)).flatMap Qo)) 37 900061 (by kernel_rfl) (by intro _ _ h; cases h)
  replace H:=H.dup (K:=Yk fr QL.toPart ([]:List (Sl qt))) 38 900062 (by kernel_rfl) (λh=>h) (by intro _ _ h; cases h)
  refine XY (λm a w'=>∃ x11:List (List qt),∃ x12:Int,∃ x13:Int,Xx.l14 k0 a0 t9 t10 m x11 x12 x13=some j5 ∧ ∃ (p_x11:Option Addr) (c_x11 np_x11:Nat) (L_x11:List (Sl qt)),np_x11=L_x11.length∧x11=L_x11.map Sl.l∧RL w 30 [(0,sS p_a0 a0.length c_a0),(3,sS p_x11 np_x11 c_x11),(4,sI x12),(10,sI t10),(11,sI x13),(30,qy fr 4 p_a0 c_a0 a0 qp),(900061,XP 59 1 p_x11 np_x11 c_x11 (L_x11.flatMap Qo)),(900062,Yk fr QL.toPart L_x11)] a w') k0 ⟨_,_,_,G,none,0,0,([]:List (Sl qt)),rfl,rfl,H.toM _⟩ ?_
  clear G H
  rintro (_ | k) a w' ⟨x11,x12,x13,G,p_x11,c_x11,_,L_x11,rfl,h_x11,H⟩
  ·exact absurd G (by unfold Xx.l14; exact λh=>by cases h)
  ·unfold Xx.l14 at G
   refine qg qd H (.v 12 (.bool (decide (x13<t10)))<|.nil) [0,3,4,10,11,12,30,900061,900062] λu15 a w' H=>?_
   refine qs ?_
   refine Qu H (decide (x13<t10)) (λc24=>?_) λc24=>?_
   ·rw [if_pos c24] at G
    refine q8 ?_
    refine qs ?_
    refine qV ?_
    refine qs ?_
    replace G:=gd G; obtain ⟨b17,G⟩:=G
    obtain ⟨t18,ht18,G⟩:=qO G
    refine Qq qd H (.v 13 (vI x12)<|.v 14 (.slice p_a0 a0.length c_a0)<|.v 15 (vI x12)<|.cons [16] (Zb [30] (λu16=>[qy fr 4 p_a0 c_a0 a0 qp]) (λu16=>.slice (XW p_a0 x12.toNat 4 c_a0) ((a0.drop x12.toNat).length) (c_a0-x12.toNat)) (λu16=>true) [true,true] 16 (λu16 w _ hF=>Zt (by kernel_rfl) (qd3 (t:=59) (sz:=4) (l:=a0) (k:=.i64) rfl b17)))<|.cons [17] (Q6 [30] (λu16=>[qy fr 4 p_a0 c_a0 a0 qp]) 62 _ _ 17 (λu16 w hF=>XF.calls k0 (a0.drop x12.toNat) (XW p_a0 x12.toNat 4 c_a0) (c_a0-x12.toNat) t18 w ⟨(JU (X3.low (en:=qp) (qj hF.1) QI b17)),trivial⟩ ht18))<|.v 18 (vI (qc (x12+t18)))<|.v 5 (vI (qc (x12+t18)))<|.nil) [0,3,4,5,10,11,30,900061,900062] λu16 a w' H=>?_
    refine qs ?_
    replace G:=gd G; obtain ⟨b20,G⟩:=G
    replace G:=gd G; obtain ⟨b21,G⟩:=G
    refine Qq qd H (.v 19 (.slice p_x11 L_x11.length c_x11)<|.v 20 (.slice p_a0 a0.length c_a0)<|.v 21 (vI x12)<|.v 22 (vI (qc (x12+t18)))<|.v 23 (vI (qc (x12+t18)))<|.cons [24] (Zb [30] (λu19=>[qy fr 4 p_a0 c_a0 a0 qp]) (λu19=>.slice (XW p_a0 x12.toNat 4 ((qc (x12+t18)).toNat)) (((a0.take (qc (x12+t18)).toNat).drop x12.toNat).length) ((qc (x12+t18)).toNat-x12.toNat)) (λu19=>true) [true,true,true,true] 24 (λu19 w _ hF=>Zt (by kernel_rfl) (qei (t:=59) (sz:=4) (l:=a0) (k:=.i64) (k':=.i64) (k2:=.i64) rfl b20 (qj hF.1).1)))<|.cons [25,31] (qn (λb=>.slice (some ⟨b,0,none⟩) 1 1) (λu19=>[.slice (XW p_a0 x12.toNat 4 ((qc (x12+t18)).toNat)) (((a0.take (qc (x12+t18)).toNat).drop x12.toNat).length) ((qc (x12+t18)).toNat-x12.toNat)]) 59 25 31)<|.cons [26,900061,900061,32] (qdU [6] [900062,31,30] (λu19=>[Yk fr QL.toPart L_x11,.blk (nn u19 6) [.slice (XW p_a0 x12.toNat 4 ((qc (x12+t18)).toNat)) (((a0.take (qc (x12+t18)).toNat).drop x12.toNat).length) ((qc (x12+t18)).toNat-x12.toNat)] 59,qy fr 4 p_a0 c_a0 a0 qp]) 900061 32 (λu19=>Ql 59 1 p_x11 c_x11 L_x11 Qo) (some 26) (λu19 g=>.slice (g.o 0) (L_x11++[(⟨(XW p_a0 x12.toNat 4 ((qc (x12+t18)).toNat)),((qc (x12+t18)).toNat-x12.toNat),((a0.take (qc (x12+t18)).toNat).drop x12.toNat)⟩:Sl qt)]).length (g.n 0)) (λu19 g=>Ql 59 1 (g.o 0) (g.n 0) (L_x11++[(⟨(XW p_a0 x12.toNat 4 ((qc (x12+t18)).toNat)),((qc (x12+t18)).toNat-x12.toNat),((a0.take (qc (x12+t18)).toNat).drop x12.toNat)⟩:Sl qt)]) Qo) (λu19 g=>Yk fr QL.toPart (L_x11++[(⟨(XW p_a0 x12.toNat 4 ((qc (x12+t18)).toNat)),((qc (x12+t18)).toNat-x12.toNat),((a0.take (qc (x12+t18)).toNat).drop x12.toNat)⟩:Sl qt)])) (λu19 w hF hK=>qdO (Yb (t:=41) (ty:=41) (en:=Qo) qT qg6 (Qx hK) hF.2.1 (news:=[(⟨(XW p_a0 x12.toNat 4 ((qc (x12+t18)).toNat)),((qc (x12+t18)).toNat-x12.toNat),((a0.take (qc (x12+t18)).toNat).drop x12.toNat)⟩:Sl qt)]) rfl (by simp) (by kernel_rfl) (by rw [<- QD h_x11]; exact b21)) (qe6 hF.1 (.head _) ⟨(X3.lohim (en:=qp) (qj hF.2.2.1) QI b20),λ_ _=>trivial⟩ (λj h=>(h.elim (λh=>Zw (.tail _ (.tail _ (.head _))) (λh=>h) (Y8 (by simp only [List.length_drop,List.length_take]; omega) h) (YV hF.2.2.1 _ (Y8 (by simp only [List.length_drop,List.length_take]; omega) h))) (λ⟨_,_,hz⟩=>hz.elim))))) (hloc:=λu u' h=>by refine ⟨?_,?_,?_,?_,?_⟩ <;> first | rfl | simp only [nn, h 6 (by decide)]))<|.cons [3] (qr (λu19=>.slice ((u19 7).o 0) ((L_x11++[(⟨(XW p_a0 x12.toNat 4 ((qc (x12+t18)).toNat)),((qc (x12+t18)).toNat-x12.toNat),((a0.take (qc (x12+t18)).toNat).drop x12.toNat)⟩:Sl qt)]).length) (nn u19 7)) 3)<|.nil) [0,3,5,10,11,30,32,900061] λu19 a w' H=>?_
    refine Qq qd H (.v 27 (vI (qc (x12+t18)))<|.v 4 (vI (qc (x12+t18)))<|.nil) [0,3,4,10,11,30,32,900061] λu22 a w' H=>?_
    refine Qq qd H (.v 28 (vI (qc (x13+1)))<|.v 11 (vI (qc (x13+1)))<|.nil) [0,3,4,10,11,30,32,900061] λu23 a w' H=>?_
    replace H:=H.dup (K:=Yk fr QL.toPart (L_x11++[(⟨(XW p_a0 x12.toNat 4 ((qc (x12+t18)).toNat)),((qc (x12+t18)).toNat-x12.toNat),((a0.take (qc (x12+t18)).toNat).drop x12.toNat)⟩:Sl qt)])) 32 900062 (by kernel_rfl) (λh=>h) (by intro _ _ h; cases h)
    exact ⟨k,Nat.lt_succ_self k,_,_,_,G,((u19 7).o 0),(nn u19 7),(L_x11++[(⟨(XW p_a0 x12.toNat 4 ((qc (x12+t18)).toNat)),((qc (x12+t18)).toNat-x12.toNat),((a0.take (qc (x12+t18)).toNat).drop x12.toNat)⟩:Sl qt)]).length,(L_x11++[(⟨(XW p_a0 x12.toNat 4 ((qc (x12+t18)).toNat)),((qc (x12+t18)).toNat-x12.toNat),((a0.take (qc (x12+t18)).toNat).drop x12.toNat)⟩:Sl qt)]),rfl,(qbP h_x11 (⟨(XW p_a0 x12.toNat 4 ((qc (x12+t18)).toNat)),((qc (x12+t18)).toNat-x12.toNat),((a0.take (qc (x12+t18)).toNat).drop x12.toNat)⟩:Sl qt)),H.toM _⟩
   ·rw [if_neg (nt c24)] at G
    refine Yx rfl ?_
    obtain rfl:=sj G
    replace H:=H.move (K:=Ql 59 1 p_x11 c_x11 L_x11 Qo) 900061 900059 (by kernel_rfl) (by intro _ _ h; cases h)
    replace H:=H.dup (K:=Yk fr QL.toPart L_x11) 900062 900060 (by kernel_rfl) (λh=>h) (by intro _ _ h; cases h)
    exact ⟨p_x11,c_x11,L_x11.length,L_x11,rfl,h_x11,H.toM _⟩
theorem Xa.calls (a0_0:List qh)(a0_1:List (qh×Int))(a1:qh)(b_a0:Nat)(p_a0_0:Option Addr)(c_a0_0:Nat)(b_a0_1:Nat)(r:Int×List qh×(List (qh×Int)))(w:World)(hM:V9 [Ql 110 5 p_a0_0 c_a0_0 a0_0 qi,Wf b_a0_1 qM .i64 a0_1,.blk b_a0 [.slice p_a0_0 a0_0.length c_a0_0,.map (some b_a0_1)] 107] ([]++[]) w)(G:Xa a0_0 a0_1 a1=some r) :
  Calls Tryz.prog 37 #[vP b_a0 0,.agg #[vI a1.Op,vI a1.A,vI a1.B,vI a1.C.Lo,vI a1.C.Hi]] w λe w'=>∃ g:Gh,e = .returned (vI r.1)∧Zj (YR [Ql 110 5 p_a0_0 c_a0_0 a0_0 qi,Wf b_a0_1 qM .i64 a0_1,.blk b_a0 [.slice p_a0_0 a0_0.length c_a0_0,.map (some b_a0_1)] 107]) w w'∧Ye w.heap.size (YR [Ql 110 5 p_a0_0 c_a0_0 a0_0 qi,Wf b_a0_1 qM .i64 a0_1,.blk b_a0 [.slice p_a0_0 a0_0.length c_a0_0,.map (some b_a0_1)] 107]) (JS w.heap.size []) [λ_=>Ql 110 5 (g.o 0) (g.n 0) r.2.1 qi,λ_=>.blk b_a0 [.slice (g.o 0) r.2.1.length (g.n 0),.map (some b_a0_1)] 107,λ_=>Wf b_a0_1 qM .i64 r.2.2] w':=by
 obtain ⟨fr,hfr,hBf⟩:=VT w []
 refine VH (args:=[vP b_a0 0,.agg #[vI a1.Op,vI a1.A,vI a1.B,vI a1.C.Lo,vI a1.C.Hi]]) 43 [] [(44,Ql 110 5 p_a0_0 c_a0_0 a0_0 qi),(45,Wf b_a0_1 qM .i64 a0_1),(43,.blk b_a0 [.slice p_a0_0 a0_0.length c_a0_0,.map (some b_a0_1)] 107)] (VC hM (by rfl)) (λx hx=>by cases hx) (by rfl) Tryz.func37 rfl (by kernel_rfl) (by kernel_rfl) λa H=>?_
 unfold Xa at G
 refine qg qd H (.cons [3,46] (qn (λb=>vP b 0) (λu1=>[vI a1.Op,vI a1.A,vI a1.B,vI a1.C.Lo,vI a1.C.Hi]) 110 3 46)<|.v 4 (vI 0)<|.nil) [0,3,43,44,45,46,999998] λu1 a w' H=>?_
 refine qs ?_
 obtain ⟨z3,hz3,G⟩:=qO G
 replace hz3:=Option.some.inj hz3
 refine qg qd H (.v 9 (vP b_a0 0)<|.v 10 (vP b_a0 0)<|.v 11 (vP b_a0 1)<|.cons [12] (qf (.map (some b_a0_1)) 12 43 1 1 b_a0 [.slice p_a0_0 a0_0.length c_a0_0,.map (some b_a0_1)] 107)<|.cons [13] (qf (.agg #[vI a1.Op,vI a1.A,vI a1.B,vI a1.C.Lo,vI a1.C.Hi]) 13 46 0 5 (nn u1 0) [vI a1.Op,vI a1.A,vI a1.B,vI a1.C.Lo,vI a1.C.Hi] 110)<|.cons [14] (qL 45 (Wf b_a0_1 qM .i64 a0_1) (.tuple #[vI ((Jg a0_1 (⟨a1.Op,a1.A,a1.B,(⟨a1.C.Lo,a1.C.Hi⟩:qb)⟩:qh)).getD 0),.bool ((Jg a0_1 (⟨a1.Op,a1.A,a1.B,(⟨a1.C.Lo,a1.C.Hi⟩:qb)⟩:qh)).isSome)]) 14 λ_ w h=>qgU (t:=105) (e:=3) (x:=(⟨a1.Op,a1.A,a1.B,(⟨a1.C.Lo,a1.C.Hi⟩:qb)⟩:qh)) Vf (Ji h))<|.v 8 (.tuple #[vI ((Jg a0_1 (⟨a1.Op,a1.A,a1.B,(⟨a1.C.Lo,a1.C.Hi⟩:qb)⟩:qh)).getD 0),.bool ((Jg a0_1 (⟨a1.Op,a1.A,a1.B,(⟨a1.C.Lo,a1.C.Hi⟩:qb)⟩:qh)).isSome)])<|.cons [15] (QF (u':=λu2=>[(15,sI z3)]) (qr (λu2=>vI ((Jg a0_1 (⟨a1.Op,a1.A,a1.B,(⟨a1.C.Lo,a1.C.Hi⟩:qb)⟩:qh)).getD 0)) 15) (λ_=>by rw [<- hz3]))<|.v 16 (.bool ((Jg a0_1 (⟨a1.Op,a1.A,a1.B,(⟨a1.C.Lo,a1.C.Hi⟩:qb)⟩:qh)).isSome))<|.v 5 (vI z3)<|.v 6 (.bool ((Jg a0_1 (⟨a1.Op,a1.A,a1.B,(⟨a1.C.Lo,a1.C.Hi⟩:qb)⟩:qh)).isSome))<|.nil) [0,3,5,6,43,44,45,46,999998] λu2 a w' H=>?_
 refine qg qd H (.v 17 (.bool ((Jg a0_1 (⟨a1.Op,a1.A,a1.B,(⟨a1.C.Lo,a1.C.Hi⟩:qb)⟩:qh)).isSome))<|.nil) [0,3,5,17,43,44,45,46,999998] λu4 a w' H=>?_
 refine Qu H (Jg a0_1 (⟨a1.Op,a1.A,a1.B,(⟨a1.C.Lo,a1.C.Hi⟩:qb)⟩:qh)).isSome (λc11=>?_) λc11=>?_
 ·rw [if_pos c11] at G
  refine qg qd H (.v 18 (vI z3)<|.v 4 (vI z3)<|.nil) [4,43,44,45,999998] λu5 a w' H=>?_
  refine qB ?_
  obtain rfl:=sj G
  obtain ⟨g,o0,n0⟩:=ZS p_a0_0 c_a0_0
  refine Qz H _ g _ _ _ fr [44,43,45] [] (vI z3) [λ_=>Ql 110 5 p_a0_0 c_a0_0 a0_0 qi,λ_=>.blk b_a0 [.slice p_a0_0 a0_0.length c_a0_0,.map (some b_a0_1)] 107,λ_=>Wf b_a0_1 qM .i64 a0_1] (by simp only [Ql,o0,n0]) (by simp only [Ql,o0,n0]) hfr (.inr (by kernel_rfl)) (qk Qf (qk Zg (qk WT qx))) (by simp)
 ·rw [if_neg (nt c11)] at G
  refine q8 ?_
  refine qg qd H (.v 19 (vP b_a0 0)<|.v 20 (vP b_a0 0)<|.v 21 (vP b_a0 0)<|.cons [22] (qf (.slice p_a0_0 a0_0.length c_a0_0) 22 43 0 1 b_a0 [.slice p_a0_0 a0_0.length c_a0_0,.map (some b_a0_1)] 107)<|.v 23 (vI (a0_0.length:Int))<|.v 7 (vI (a0_0.length:Int))<|.nil) [0,3,7,43,44,45,46,999998] λu6 a w' H=>?_
  refine qs ?_
  replace G:=gd G; obtain ⟨b8,G⟩:=G
  replace G:=gd G; obtain ⟨b9,G⟩:=G
  refine Qq qd H (.v 24 (vP b_a0 0)<|.v 25 (vP b_a0 0)<|.v 26 (vP b_a0 0)<|.v 27 (vP b_a0 1)<|.cons [28] (qf (.map (some b_a0_1)) 28 43 1 1 b_a0 [.slice p_a0_0 a0_0.length c_a0_0,.map (some b_a0_1)] 107)<|.cons [29] (qf (.agg #[vI a1.Op,vI a1.A,vI a1.B,vI a1.C.Lo,vI a1.C.Hi]) 29 46 0 5 (nn u1 0) [vI a1.Op,vI a1.A,vI a1.B,vI a1.C.Lo,vI a1.C.Hi] 110)<|.v 30 (vP b_a0 0)<|.v 31 (vP b_a0 0)<|.v 32 (vP b_a0 0)<|.cons [33] (qf (.slice p_a0_0 a0_0.length c_a0_0) 33 43 0 1 b_a0 [.slice p_a0_0 a0_0.length c_a0_0,.map (some b_a0_1)] 107)<|.cons [34] (qf (.agg #[vI a1.Op,vI a1.A,vI a1.B,vI a1.C.Lo,vI a1.C.Hi]) 34 46 0 5 (nn u1 0) [vI a1.Op,vI a1.A,vI a1.B,vI a1.C.Lo,vI a1.C.Hi] 110)<|.cons [35,47] (qn (λb=>.slice (some ⟨b,0,none⟩) 1 1) (λu7=>[vI a1.Op,vI a1.A,vI a1.B,vI a1.C.Lo,vI a1.C.Hi]) 110 35 47)<|.cons [36,44,44] (Xt [11] [47] (λu7=>[.blk (nn u7 11) [vI a1.Op,vI a1.A,vI a1.B,vI a1.C.Lo,vI a1.C.Hi] 110]) 44 (λu7=>Ql 110 5 p_a0_0 c_a0_0 a0_0 qi) (some 36) (λu7 g=>.slice (g.o 0) (a0_0++[(⟨a1.Op,a1.A,a1.B,(⟨a1.C.Lo,a1.C.Hi⟩:qb)⟩:qh)]).length (g.n 0)) (λu7 g=>Ql 110 5 (g.o 0) (g.n 0) (a0_0++[(⟨a1.Op,a1.A,a1.B,(⟨a1.C.Lo,a1.C.Hi⟩:qb)⟩:qh)]) qi) (λu7 w hF hK=>Vb (Yb (t:=35) (ty:=35) (en:=qi) YQ qhA (Qx hK) hF.1 (news:=[(⟨a1.Op,a1.A,a1.B,(⟨a1.C.Lo,a1.C.Hi⟩:qb)⟩:qh)]) rfl (by simp) (by kernel_rfl) b8)) (hloc:=λu u' h=>by refine ⟨?_,?_,?_,?_⟩ <;> first | rfl | simp only [nn, h 11 (by decide)]))<|.v 37 (vI (a0_0.length:Int))<|.v 38 (vP b_a0 0)<|.v 39 (vP b_a0 0)<|.cons [43] (QF (u':=λu7=>[(43,.blk b_a0 [.slice ((u7 12).o 0) ((a0_0++[(⟨a1.Op,a1.A,a1.B,(⟨a1.C.Lo,a1.C.Hi⟩:qb)⟩:qh)]).length) (nn u7 12),.map (some b_a0_1)] 107)]) (qK 43 0 (λu7=>b_a0) (λu7=>[.slice p_a0_0 a0_0.length c_a0_0,.map (some b_a0_1)]) (λu7=>[.slice ((u7 12).o 0) ((a0_0++[(⟨a1.Op,a1.A,a1.B,(⟨a1.C.Lo,a1.C.Hi⟩:qb)⟩:qh)]).length) (nn u7 12)]) 107) (λ_=>by kernel_rfl))<|.cons [40,45,45] (Xt [] [] (λu7=>[]) 45 (λu7=>Wf b_a0_1 qM .i64 a0_1) (some 40) (λu7 g=>.tuple #[vI 0,vI (a0_1.length:Int)]) (λu7 g=>Wf b_a0_1 qM .i64 (a0_1++[((⟨a1.Op,a1.A,a1.B,(⟨a1.C.Lo,a1.C.Hi⟩:qb)⟩:qh),0)])) (λu7 w hF hK=>qgY hK (qhc (t:=105) (e:=3) (x:=(⟨a1.Op,a1.A,a1.B,(⟨a1.C.Lo,a1.C.Hi⟩:qb)⟩:qh)) Vf (Ji hK) b9)))<|.v 41 (vI (a0_1.length:Int))<|.cons [45,45] (Xt [] [] (λu7=>[]) 45 (λu7=>Wf b_a0_1 qM .i64 (a0_1++[((⟨a1.Op,a1.A,a1.B,(⟨a1.C.Lo,a1.C.Hi⟩:qb)⟩:qh),0)])) none (λu7 g=>.nilFunc) (λu7 g=>Wf b_a0_1 qM .i64 (a0_1++[((⟨a1.Op,a1.A,a1.B,(⟨a1.C.Lo,a1.C.Hi⟩:qb)⟩:qh),(a0_0.length:Int))])) (λu7 w hF hK=>qgY hK (qhB (t:=105) (l:=a0_1) (x:=(⟨a1.Op,a1.A,a1.B,(⟨a1.C.Lo,a1.C.Hi⟩:qb)⟩:qh)) (Ji hK))))<|.nil) [7,43,44,45,999998] λu7 a w' H=>?_
  refine qg qd H (.v 42 (vI (a0_0.length:Int))<|.v 4 (vI (a0_0.length:Int))<|.nil) [4,43,44,45,999998] λu10 a w' H=>?_
  refine qB ?_
  obtain rfl:=sj G
  obtain ⟨g,o0,n0⟩:=ZS ((u7 12).o 0) (nn u7 12)
  refine Qz H _ g _ _ _ fr [44,43,45] [] (vI (a0_0.length:Int)) [λ_=>Ql 110 5 ((u7 12).o 0) (nn u7 12) (a0_0++[(⟨a1.Op,a1.A,a1.B,(⟨a1.C.Lo,a1.C.Hi⟩:qb)⟩:qh)]) qi,λ_=>.blk b_a0 [.slice ((u7 12).o 0) ((a0_0++[(⟨a1.Op,a1.A,a1.B,(⟨a1.C.Lo,a1.C.Hi⟩:qb)⟩:qh)]).length) (nn u7 12),.map (some b_a0_1)] 107,λ_=>Wf b_a0_1 qM .i64 (a0_1++[((⟨a1.Op,a1.A,a1.B,(⟨a1.C.Lo,a1.C.Hi⟩:qb)⟩:qh),(a0_0.length:Int))])] (by simp only [Ql,o0,n0]) (by simp only [Ql,o0,n0]) hfr (.inr (by kernel_rfl)) (qk Qf (qk Zg (qk WT qx))) (by simp)
theorem qw.calls:∀ (k0:Nat) (a0:List qt) (q1_0_0:List qh) (q1_0_1:List (qh×Int)) (p_a0:Option Addr) (c_a0:Nat) (b_q0:Nat) (b_q1:Nat) (b_q1_0:Nat) (p_q1_0_0:Option Addr) (c_q1_0_0:Nat) (b_q1_0_1:Nat) (r:Int×List qh×(List (qh×Int))) (w:World) (hB:Xp [Xf b_q0 [.func (.func 35) #[] #[vP b_q0 0,vP b_q1 0]] 108,Xf b_q1 [vP b_q1_0 0] 104] w) (hF:Xp [qy ql 4 p_a0 c_a0 a0 qp] w) (hM:V9 [Ql 110 5 p_q1_0_0 c_q1_0_0 q1_0_0 qi,Wf b_q1_0_1 qM .i64 q1_0_1,.blk b_q1_0 [.slice p_q1_0_0 q1_0_0.length c_q1_0_0,.map (some b_q1_0_1)] 107] ([Xf b_q0 [.func (.func 35) #[] #[vP b_q0 0,vP b_q1 0]] 108,Xf b_q1 [vP b_q1_0 0] 104]++[qy ql 4 p_a0 c_a0 a0 qp]) w) (G:qw k0 a0 q1_0_0 q1_0_1=some r),
  Calls Tryz.prog 35 #[.slice p_a0 a0.length c_a0,vP b_q0 0,vP b_q1 0] w λe w'=>∃ g:Gh,e = .returned (vI r.1)∧Zj (YR [Ql 110 5 p_q1_0_0 c_q1_0_0 q1_0_0 qi,Wf b_q1_0_1 qM .i64 q1_0_1,.blk b_q1_0 [.slice p_q1_0_0 q1_0_0.length c_q1_0_0,.map (some b_q1_0_1)] 107]) w w'∧Ye w.heap.size (YR [Ql 110 5 p_q1_0_0 c_q1_0_0 q1_0_0 qi,Wf b_q1_0_1 qM .i64 q1_0_1,.blk b_q1_0 [.slice p_q1_0_0 q1_0_0.length c_q1_0_0,.map (some b_q1_0_1)] 107]) (JS w.heap.size [qy ql 4 p_a0 c_a0 a0 qp]) [λ_=>Ql 110 5 (g.o 0) (g.n 0) r.2.1 qi,λ_=>.blk b_q1_0 [.slice (g.o 0) r.2.1.length (g.n 0),.map (some b_q1_0_1)] 107,λ_=>Wf b_q1_0_1 qM .i64 r.2.2] w':=by
 intro k0
 induction k0 with
 | zero=>intros; rename_i G; exact absurd G (by unfold qw; exact λh=>by cases h)
 | succ k0 IH=>?_
 intro a0 q1_0_0 q1_0_1 p_a0 c_a0 b_q0 b_q1 b_q1_0 p_q1_0_0 c_q1_0_0 b_q1_0_1 r w hB hF hM G
 obtain ⟨fr,hfr,hBf⟩:=VT w [qy ql 4 p_a0 c_a0 a0 qp]
 refine VH (args:=[.slice p_a0 a0.length c_a0,vP b_q0 0,vP b_q1 0]) 47 [(48,Xf b_q0 [.func (.func 35) #[] #[vP b_q0 0,vP b_q1 0]] 108),(49,Xf b_q1 [vP b_q1_0 0] 104),(47,qy fr 4 p_a0 c_a0 a0 qp)] [(51,Ql 110 5 p_q1_0_0 c_q1_0_0 q1_0_0 qi),(52,Wf b_q1_0_1 qM .i64 q1_0_1),(50,.blk b_q1_0 [.slice p_q1_0_0 q1_0_0.length c_q1_0_0,.map (some b_q1_0_1)] 107)] (VC hM (by rfl)) (by
  intro x hx
  simp only [List.mem_cons,List.not_mem_nil,or_false] at hx
  rcases hx with rfl | rfl | rfl
  ·exact QH (hB.1 w (agree.refl _ _)) _
  ·exact QH (hB.2.1 w (agree.refl _ _)) _
  ·exact qv (qj hF.1) (λj h=>by rw [hfr]; exact .inr ⟨_,(.head _),h⟩) (by decide) _) (by rfl) Tryz.func35 rfl (by kernel_rfl) (by kernel_rfl) λa H=>?_
 unfold qw at G
 generalize qw k0=rec at G IH
 unfold qw.body at G
 refine qg qd H (.v 4 (vI 0)<|.nil) [0,1,2,47,50,51,52,48,49,999998] λu1 a w' H=>?_
 refine qs ?_
 replace G:=gd G; obtain ⟨b3,G⟩:=G
 obtain ⟨t4,ht4,G⟩:=qO G
 have P5:=Xm (en:=qp) (l:=a0) (qj (H.at (K:=qy fr 4 p_a0 c_a0 a0 qp) 47 (by kernel_rfl))).2 QI
 replace G:=gd G; obtain ⟨b6,G⟩:=G
 obtain ⟨t7,ht7,G⟩:=qO G
 refine Qq qd H (.v 9 (.slice p_a0 a0.length c_a0)<|.cons [10] (qr (λu2=>.pointer (some ⟨XR p_a0,XV p_a0+((0:Int).toNat)*4,none⟩)) 10 (hv:=λ_ _=>Qe (t:=59) (k:=.i64) (i:=(0:Int)) (p:=p_a0) (n:=a0.length) (cap:=c_a0) (x:=a0) P5 rfl b3 (by kernel_rfl)))<|.v 11 (.pointer (some ⟨XR p_a0,XV p_a0+((0:Int).toNat)*4+0,none⟩))<|.cons [12] (qL 47 (qy fr 4 p_a0 c_a0 a0 qp) (vI t4.Op) 12 λ_ w h=>Y4 qp (qj h).2 QI ht4 0 1 [vI t4.Op])<|.v 13 (.slice p_a0 a0.length c_a0)<|.cons [14] (qr (λu2=>.pointer (some ⟨XR p_a0,XV p_a0+((0:Int).toNat)*4,none⟩)) 14 (hv:=λ_ _=>Qe (t:=59) (k:=.i64) (i:=(0:Int)) (p:=p_a0) (n:=a0.length) (cap:=c_a0) (x:=a0) P5 rfl b6 (by kernel_rfl)))<|.v 15 (.pointer (some ⟨XR p_a0,XV p_a0+((0:Int).toNat)*4+2,none⟩))<|.cons [16] (qL 47 (qy fr 4 p_a0 c_a0 a0 qp) (.agg #[vI t7.C.Lo,vI t7.C.Hi]) 16 λ_ w h=>Y4 qp (qj h).2 QI ht7 2 2 [vI t7.C.Lo,vI t7.C.Hi])<|.v 17 (.agg #[vI t4.Op,vI 0,vI 0,vI t7.C.Lo,vI t7.C.Hi])<|.cons [5,53] (qn (λb=>vP b 0) (λu2=>[vI 0,vI 0,vI 0,vI 0,vI 0]) 110 5 53)<|.cons [53] (QF (u':=λu2=>[(53,.blk (nn u2 9) [vI t4.Op,vI 0,vI 0,vI t7.C.Lo,vI t7.C.Hi] 110)]) (qK 53 0 (λu2=>(nn u2 9)) (λu2=>[vI 0,vI 0,vI 0,vI 0,vI 0]) (λu2=>[vI t4.Op,vI 0,vI 0,vI t7.C.Lo,vI t7.C.Hi]) 110) (λ_=>by kernel_rfl))<|.nil) [0,1,2,5,47,50,51,52,53,48,49,999998] λu2 a w' H=>?_
 refine qs ?_
 obtain ⟨j9,hj9,G⟩:=qO G
 refine Xu (λa w'=>QB 0 w 47 (Jf [(0,sS p_a0 a0.length c_a0),(1,sP b_q0 0),(2,sP b_q1 0),(5,(sP (nn u2 9) 0)),(47,qy fr 4 p_a0 c_a0 a0 qp),(50,.blk b_q1_0 [.slice p_q1_0_0 q1_0_0.length c_q1_0_0,.map (some b_q1_0_1)] 107),(51,Ql 110 5 p_q1_0_0 c_q1_0_0 q1_0_0 qi),(52,Wf b_q1_0_1 qM .i64 q1_0_1),(53,.blk (nn u2 9) [vI t4.Op,vI j9,vI 0,vI t7.C.Lo,vI t7.C.Hi] 110),(48,Xf b_q0 [.func (.func 35) #[] #[vP b_q0 0,vP b_q1 0]] 108),(49,Xf b_q1 [vP b_q1_0 0] 104),(999998,frM [Ql 110 5 p_q1_0_0 c_q1_0_0 q1_0_0 qi,Wf b_q1_0_1 qM .i64 q1_0_1,.blk b_q1_0 [.slice p_q1_0_0 q1_0_0.length c_q1_0_0,.map (some b_q1_0_1)] 107] w)]) a w') ?_ ?_
 ·clear H; intro a w' H
  refine qs ?_
  obtain ⟨j14,hj14,G⟩:=qO G
  refine Xu (λa w'=>∃ (p_j10:Option Addr) (c_j10 np_j10:Nat),np_j10=j14.1.length∧QB 0 w 47 (Jf [(2,sP b_q1 0),(5,(sP (nn u2 9) 0)),(50,.blk b_q1_0 [.slice p_j10 np_j10 c_j10,.map (some b_q1_0_1)] 107),(52,Wf b_q1_0_1 qM .i64 j14.2.2.2),(53,.blk (nn u2 9) [vI t4.Op,vI j14.2.1,vI j14.2.2.1,vI t7.C.Lo,vI t7.C.Hi] 110),(900064,XP 110 5 p_j10 np_j10 c_j10 (j14.1.flatMap qi)),(48,Xf b_q0 [.func (.func 35) #[] #[vP b_q0 0,vP b_q1 0]] 108),(49,Xf b_q1 [vP b_q1_0 0] 104),(999998,frM [Ql 110 5 p_q1_0_0 c_q1_0_0 q1_0_0 qi,Wf b_q1_0_1 qM .i64 q1_0_1,.blk b_q1_0 [.slice p_q1_0_0 q1_0_0.length c_q1_0_0,.map (some b_q1_0_1)] 107] w)]) a w') ?_ ?_
  ·clear H; rintro a w' ⟨p_j10,c_j10,_,rfl,H⟩
   obtain ⟨t16,ht16,G⟩:=qO G
   refine qg qd H (.cons [44] (QV (λu15=>vP b_q1_0 0) 44 49 (Xf b_q1 [vP b_q1_0 0] 104) b_q1 0 1 [vP b_q1_0 0] (λw h=>Za h))<|.cons [45] (qf (.agg #[vI t4.Op,vI j14.2.1,vI j14.2.2.1,vI t7.C.Lo,vI t7.C.Hi]) 45 53 0 5 (nn u2 9) [vI t4.Op,vI j14.2.1,vI j14.2.2.1,vI t7.C.Lo,vI t7.C.Hi] 110)<|.cons [46,900064,52,50,54,50,52] (Qp false fr [] [] (λu15=>[]) [900064,52,50] (λu15=>[Ql 110 5 p_j10 c_j10 j14.1 qi,Wf b_q1_0_1 qM .i64 j14.2.2.2,.blk b_q1_0 [.slice p_j10 j14.1.length c_j10,.map (some b_q1_0_1)] 107]) 37 _ (λu15=>[]) _ _ _ [54,50,52] 46 (λu15 w hB hF hM=>Xa.calls j14.1 j14.2.2.2 (⟨t4.Op,j14.2.1,j14.2.2.1,(⟨t7.C.Lo,t7.C.Hi⟩:qb)⟩:qh) b_q1_0 p_j10 c_j10 b_q1_0_1 t16 w hM ht16) (λu15 w hF=>⟨trivial,trivial⟩) (λu15 g=>(qk Qf (qk Zg (qk WT qx)))) (.inr (λu15 g=>(Qg trivial (Qg trivial (Qg trivial (λK h=>by cases h)))))) (λh=>by cases h))<|.v 4 (vI t16.1)<|.nil) [4,50,52,54,48,49,999998] λu15 a w' H=>?_
   refine qB ?_
   obtain rfl:=sj G
   obtain ⟨g,o0,n0⟩:=ZS ((u15 2).o 0) (nn u15 2)
   refine Qz H _ g _ _ _ fr [54,50,52] [] (vI t16.1) [λ_=>Ql 110 5 ((u15 2).o 0) (nn u15 2) t16.2.1 qi,λ_=>.blk b_q1_0 [.slice ((u15 2).o 0) t16.2.1.length (nn u15 2),.map (some b_q1_0_1)] 107,λ_=>Wf b_q1_0_1 qM .i64 t16.2.2] (by simp only [Ql,o0,n0]) (by simp only [Ql,o0,n0]) hfr (.inr (by kernel_rfl)) (qk Qf (qk Zg (qk WT qx))) (by simp)
  ·clear G; replace G:=hj14; clear hj14
   obtain ⟨t18,ht18,G⟩:=qO G
   refine qg qd H (.v 26 (.slice p_a0 a0.length c_a0)<|.cons [27,55,56] (Qp true fr [] [47] (λu17=>[qy fr 4 p_a0 c_a0 a0 qp]) [] (λu17=>[]) 36 _ (λu17=>[]) _ _ _ [55,56] 27 (λu17 w hB hF hM=>Xx.calls k0 a0 p_a0 c_a0 t18 w hF ht18) (λu17 w hF=>⟨trivial,⟨Zv (qj hF.1) (λj h=>Zw (.head _) (λh=>h) h (YV hF.1 _ h)),trivial⟩⟩) (λu17 g=>(qk Qf (qk Vv qx))) (.inl rfl) (λ_=>hBf))<|.cons [28] (Zb [55] (λu17=>[Ql 59 1 ((u17 1).o 0) (nn u17 1) (dlgd_S_TNode (u17 1) 0 t18) Qo]) (λu17=>vI (t18.length:Int)) (λu17=>true) [true] 28 (λu17 w hg hF=>Y0 (((qH (Qx hF.1)).2.len qT (by decide)).trans (QD (J5 ZM (u17 1) 0 t18)).symm) (by kernel_rfl)))<|.v 29 (vI 0)<|.nil) [1,2,5,27,28,29,50,51,52,53,55,56,48,49,999998] λu17 a w' H=>?_
   refine qV ?_
   replace H:=H.move (K:=Ql 110 5 p_q1_0_0 c_q1_0_0 q1_0_0 qi) 51 900065 (by kernel_rfl) (by intro _ _ h; cases h)
   refine XY (λm a w'=>∃ x19:List qh,∃ x20:Int,∃ x21:Int,∃ x22:List (qh×Int),∃ x23:Int,qw.l24 k0 rec a0 q1_0_0 q1_0_1 t4 t7 j9 t18 m x19 x20 x21 x22 x23=some j14 ∧ ∃ (p_x19:Option Addr) (c_x19 np_x19:Nat),np_x19=x19.length∧QB 0 w 47 (Jf [(1,sP b_q0 0),(2,sP b_q1 0),(5,(sP (nn u2 9) 0)),(27,(sS ((u17 1).o 0) ((dlgd_S_TNode (u17 1) 0 t18).length) (nn u17 1))),(28,(sI (t18.length:Int))),(29,sI x23),(50,.blk b_q1_0 [.slice p_x19 np_x19 c_x19,.map (some b_q1_0_1)] 107),(52,Wf b_q1_0_1 qM .i64 x22),(53,.blk (nn u2 9) [vI t4.Op,vI x20,vI x21,vI t7.C.Lo,vI t7.C.Hi] 110),(55,Ql 59 1 ((u17 1).o 0) (nn u17 1) (dlgd_S_TNode (u17 1) 0 t18) Qo),(56,Yk fr QL.toPart (dlgd_S_TNode (u17 1) 0 t18)),(900065,XP 110 5 p_x19 np_x19 c_x19 (x19.flatMap qi)),(48,Xf b_q0 [.func (.func 35) #[] #[vP b_q0 0,vP b_q1 0]] 108),(49,Xf b_q1 [vP b_q1_0 0] 104),(999998,frM [Ql 110 5 p_q1_0_0 c_q1_0_0 q1_0_0 qi,Wf b_q1_0_1 qM .i64 q1_0_1,.blk b_q1_0 [.slice p_q1_0_0 q1_0_0.length c_q1_0_0,.map (some b_q1_0_1)] 107] w)]) a w') k0 ⟨_,_,_,_,_,G,p_q1_0_0,c_q1_0_0,q1_0_0.length,rfl,H.toM _⟩ ?_
   clear G H
   rintro (_ | k) a w' ⟨x19,x20,x21,x22,x23,G,p_x19,c_x19,_,rfl,H⟩
   ·exact absurd G (by unfold qw.l24; exact λh=>by cases h)
   ·unfold qw.l24 at G
    refine qg qd H (.v 30 (.bool (decide (x23<(t18.length:Int))))<|.nil) [1,2,5,27,28,29,30,50,52,53,55,56,900065,48,49,999998] λu25 a w' H=>?_
    refine qs ?_
    refine Qu H (decide (x23<(t18.length:Int))) (λc41=>?_) λc41=>?_
    ·rw [if_pos c41] at G
     refine q8 ?_
     refine qs ?_
     obtain ⟨j30,hj30,G⟩:=qO G
     refine Xu (λa w'=>∃ (p_j26:Option Addr) (c_j26 np_j26:Nat),np_j26=j30.1.length∧QB 0 w 47 (Jf [(1,sP b_q0 0),(2,sP b_q1 0),(5,(sP (nn u2 9) 0)),(27,(sS ((u17 1).o 0) ((dlgd_S_TNode (u17 1) 0 t18).length) (nn u17 1))),(28,(sI (t18.length:Int))),(29,sI x23),(50,.blk b_q1_0 [.slice p_j26 np_j26 c_j26,.map (some b_q1_0_1)] 107),(52,Wf b_q1_0_1 qM .i64 j30.2.2.2),(53,.blk (nn u2 9) [vI t4.Op,vI j30.2.1,vI j30.2.2.1,vI t7.C.Lo,vI t7.C.Hi] 110),(55,Ql 59 1 ((u17 1).o 0) (nn u17 1) (dlgd_S_TNode (u17 1) 0 t18) Qo),(56,Yk fr QL.toPart (dlgd_S_TNode (u17 1) 0 t18)),(900066,XP 110 5 p_j26 np_j26 c_j26 (j30.1.flatMap qi)),(48,Xf b_q0 [.func (.func 35) #[] #[vP b_q0 0,vP b_q1 0]] 108),(49,Xf b_q1 [vP b_q1_0 0] 104),(999998,frM [Ql 110 5 p_q1_0_0 c_q1_0_0 q1_0_0 qi,Wf b_q1_0_1 qM .i64 q1_0_1,.blk b_q1_0 [.slice p_q1_0_0 q1_0_0.length c_q1_0_0,.map (some b_q1_0_1)] 107] w)]) a w') ?_ ?_
     ·clear H; rintro a w' ⟨p_j26,c_j26,_,rfl,H⟩
      refine Qq qd H (.v 43 (vI (qc (x23+1)))<|.v 29 (vI (qc (x23+1)))<|.nil) [1,2,5,27,28,29,50,52,53,55,56,900066,48,49,999998] λu31 a w' H=>?_
      replace H:=H.move (K:=Ql 110 5 p_j26 c_j26 j30.1 qi) 900066 900065 (by kernel_rfl) (by intro _ _ h; cases h)
      exact ⟨k,Nat.lt_succ_self k,_,_,_,_,_,G,p_j26,c_j26,j30.1.length,rfl,H.toM _⟩
     ·clear G; replace G:=hj30; clear hj30
      refine qV ?_
      refine qs ?_
      replace G:=gd G; obtain ⟨b33,G⟩:=G
      obtain ⟨t34,ht34,G⟩:=qO G
      obtain ⟨p_t34,c_t34,y_t34⟩:=Yl (J5 ZM (u17 1) 0 t18) ht34
      refine Qq qd H (.v 31 (vI x23)<|.cons [32] (qL 55 (Ql 59 1 ((u17 1).o 0) (nn u17 1) (dlgd_S_TNode (u17 1) 0 t18) Qo) (.pointer (some ⟨XR ((u17 1).o 0),XV ((u17 1).o 0)+x23.toNat*1,none⟩)) 32 λ_ w h=>qbS (t:=41) (k:=.i64) (i:=x23) (p:=((u17 1).o 0)) (n:=(dlgd_S_TNode (u17 1) 0 t18).length) (cap:=(nn u17 1)) (x:=t18) (en:=Qo) (qH (Qx h)).2 qT (QD (J5 ZM (u17 1) 0 t18)) b33 (by kernel_rfl))<|.cons [33] (qL 55 (Ql 59 1 ((u17 1).o 0) (nn u17 1) (dlgd_S_TNode (u17 1) 0 t18) Qo) (.slice p_t34 t34.length c_t34) 33 λ_ w h=>Y4 Qo (qH (Qx h)).2 qT y_t34 0 1 [.slice p_t34 t34.length c_t34])<|.v 6 (vI x23)<|.v 7 (.slice p_t34 t34.length c_t34)<|.nil) [1,2,5,6,7,27,28,29,50,52,53,55,56,900065,48,49,999998] λu32 a w' H=>?_
      obtain ⟨t36,ht36,G⟩:=qO G
      refine qg qd H (.cons [34] (QV (λu35=>.func (.func 35) #[] #[vP b_q0 0,vP b_q1 0]) 34 48 (Xf b_q0 [.func (.func 35) #[] #[vP b_q0 0,vP b_q1 0]] 108) b_q0 0 1 [.func (.func 35) #[] #[vP b_q0 0,vP b_q1 0]] (λw h=>Za h))<|.v 35 (.slice p_t34 t34.length c_t34)<|.cons [36,900065,52,50,58,50,52] (Qp false fr [] [56,48,49] (λu35=>[Yk fr QL.toPart (dlgd_S_TNode (u17 1) 0 t18),Xf b_q0 [.func (.func 35) #[] #[vP b_q0 0,vP b_q1 0]] 108,Xf b_q1 [vP b_q1_0 0] 104]) [900065,52,50] (λu35=>[Ql 110 5 p_x19 c_x19 x19 qi,Wf b_q1_0_1 qM .i64 x22,.blk b_q1_0 [.slice p_x19 x19.length c_x19,.map (some b_q1_0_1)] 107]) 35 _ _ _ _ _ [58,50,52] 36 (λu35 w hB hF hM=>IH t34 x19 x22 p_t34 c_t34 b_q0 b_q1 b_q1_0 p_x19 c_x19 b_q1_0_1 t36 w hB hF hM ht36) (λu35 w hF=>⟨⟨Zf (hF.2.1 w (agree.refl _ _)) (.tail _ (.head _)) rfl,Zf (hF.2.2.1 w (agree.refl _ _)) (.tail _ (.tail _ (.head _))) rfl,trivial⟩,⟨qP (show X3 _ 4 p_t34 t34.length c_t34 (t34.flatMap qp) from ((XB hF.1) _ (List.mem_of_getElem? y_t34)).1) (λj h=>⟨_,(.head _),⟨_,(List.mem_of_getElem? y_t34),(.inl h)⟩⟩),trivial⟩⟩) (λu35 g=>(qk Qf (qk Zg (qk WT qx)))) (.inr (λu35 g=>(Qg trivial (Qg trivial (Qg trivial (λK h=>by cases h)))))) (λh=>by cases h))<|.v 8 (vI t36.1)<|.nil) [1,2,5,6,8,27,28,29,50,52,53,55,56,58,48,49,999998] λu35 a w' H=>?_
      refine qg qd H (.v 37 (vI x23)<|.v 38 (.bool (x23==0))<|.nil) [1,2,5,8,27,28,29,38,50,52,53,55,56,58,48,49,999998] λu37 a w' H=>?_
      refine Qu H (x23==0) (λc40=>?_) λc40=>?_
      ·rw [if_pos c40] at G
       refine Qq qd H (.v 39 (vI t36.1)<|.v 40 (vP (nn u2 9) 1)<|.cons [53] (qQ 53 1 (nn u2 9) [vI t4.Op,vI x20,vI x21,vI t7.C.Lo,vI t7.C.Hi] [vI t36.1] 110 [vI t4.Op,vI t36.1,vI x21,vI t7.C.Lo,vI t7.C.Hi])<|.nil) [1,2,5,27,28,29,50,52,53,55,56,58,48,49,999998] λu38 a w' H=>?_
       obtain rfl:=sj G
       replace H:=H.move (K:=Ql 110 5 ((u35 2).o 0) (nn u35 2) t36.2.1 qi) 58 900066 (by kernel_rfl) (by intro _ _ h; cases h)
       exact ⟨((u35 2).o 0),(nn u35 2),t36.2.1.length,rfl,H.toM _⟩
      ·rw [if_neg (nt c40)] at G
       refine Qq qd H (.v 41 (vI t36.1)<|.v 42 (vP (nn u2 9) 2)<|.cons [53] (qQ 53 2 (nn u2 9) [vI t4.Op,vI x20,vI x21,vI t7.C.Lo,vI t7.C.Hi] [vI t36.1] 110 [vI t4.Op,vI x20,vI t36.1,vI t7.C.Lo,vI t7.C.Hi])<|.nil) [1,2,5,27,28,29,50,52,53,55,56,58,48,49,999998] λu39 a w' H=>?_
       obtain rfl:=sj G
       replace H:=H.move (K:=Ql 110 5 ((u35 2).o 0) (nn u35 2) t36.2.1 qi) 58 900066 (by kernel_rfl) (by intro _ _ h; cases h)
       exact ⟨((u35 2).o 0),(nn u35 2),t36.2.1.length,rfl,H.toM _⟩
    ·rw [if_neg (nt c41)] at G
     refine Yx rfl ?_
     obtain rfl:=sj G
     replace H:=H.move (K:=Ql 110 5 p_x19 c_x19 x19 qi) 900065 900064 (by kernel_rfl) (by intro _ _ h; cases h)
     exact ⟨p_x19,c_x19,x19.length,rfl,H.toM _⟩
 ·clear G; replace G:=hj9; clear hj9
  refine qg qd H (.v 18 (vP (nn u2 9) 0)<|.cons [19] (qf (vI t4.Op) 19 53 0 1 (nn u2 9) [vI t4.Op,vI 0,vI 0,vI t7.C.Lo,vI t7.C.Hi] 110)<|.v 20 (.bool (t4.Op==2))<|.nil) [0,1,2,5,20,47,50,51,52,53,48,49,999998] λu42 a w' H=>?_
  refine Qu H (t4.Op==2) (λc46=>?_) λc46=>?_
  ·rw [if_pos c46] at G
   replace G:=gd G; obtain ⟨b44,G⟩:=G
   obtain ⟨t45,ht45,G⟩:=qO G
   refine Qq qd H (.v 21 (.slice p_a0 a0.length c_a0)<|.cons [22] (qL 47 (qy fr 4 p_a0 c_a0 a0 qp) (.pointer (some ⟨XR p_a0,XV p_a0+((0:Int).toNat)*4,none⟩)) 22 λ_ w h=>JT 59 .i64 (0:Int) p_a0 a0.length c_a0 a0 qp (qj h).2 QI rfl b44)<|.v 23 (.pointer (some ⟨XR p_a0,XV p_a0+((0:Int).toNat)*4+1,none⟩))<|.cons [24] (qL 47 (qy fr 4 p_a0 c_a0 a0 qp) (vI t45.N) 24 λ_ w h=>Y4 qp (qj h).2 QI ht45 1 1 [vI t45.N])<|.v 25 (vP (nn u2 9) 1)<|.cons [53] (qQ 53 1 (nn u2 9) [vI t4.Op,vI 0,vI 0,vI t7.C.Lo,vI t7.C.Hi] [vI t45.N] 110 [vI t4.Op,vI t45.N,vI 0,vI t7.C.Lo,vI t7.C.Hi])<|.nil) [0,1,2,5,47,50,51,52,53,48,49,999998] λu43 a w' H=>?_
   obtain rfl:=sj G
   exact H.toM _
  ·rw [if_neg (nt c46)] at G
   refine q8 ?_
   obtain rfl:=sj G
   exact H.toM _
theorem Xc.calls (k0:Nat)(a0:Zc)(p_a0_Names:Option Addr)(c_a0_Names:Nat)(p_a0_F:Option Addr)(c_a0_F:Nat)(L_a0_F:List (Sl qt))(r:QE)(w:World)(h_a0_F:a0.F=L_a0_F.map Sl.l)(hB:Xp [qy ql 1 p_a0_Names c_a0_Names a0.Names Y1,qy ql 1 p_a0_F c_a0_F L_a0_F Qo,Yk ql QL.toPart L_a0_F] w)(G:Xc k0 a0=some r) :
  Calls Tryz.prog 12 #[.agg #[.slice p_a0_Names a0.Names.length c_a0_Names,.slice p_a0_F L_a0_F.length c_a0_F]] w λe w'=>∃ g:Gh,e = .returned (.agg #[vI r.N,.slice (g.o 0) r.L.length (g.n 0),.slice (g.o 1) r.Out.length (g.n 1)])∧Zj (YR []) w w'∧Ye w.heap.size (YR []) (JS w.heap.size []) [λ_=>Ql 110 5 (g.o 0) (g.n 0) r.L qi,λ_=>Ql 3 1 (g.o 1) (g.n 1) r.Out q6] w':=by
 obtain ⟨fr,hfr,hBf⟩:=VT w []
 refine QA (args:=[.agg #[.slice p_a0_Names a0.Names.length c_a0_Names,.slice p_a0_F L_a0_F.length c_a0_F]]) 45 [(45,qy ql 1 p_a0_Names c_a0_Names a0.Names Y1),(46,qy ql 1 p_a0_F c_a0_F L_a0_F Qo),(47,Yk ql QL.toPart L_a0_F)] (by
  intro x hx
  simp only [List.mem_cons,List.not_mem_nil,or_false] at hx
  rcases hx with rfl | rfl | rfl
  ·exact qv (qj hB.1) (λ_ _=>trivial) (by decide) _
  ·exact qv (qj hB.2.1) (λ_ _=>trivial) (by decide) _
  ·exact ZV (XB hB.2.2.1) (λ_ _=>trivial) _) Tryz.func12 rfl λa H=>?_
 unfold Xc at G
 refine qg qd H (.cons [1,48] (qn (λb=>vP b 0) (λu1=>[.slice p_a0_Names a0.Names.length c_a0_Names,.slice p_a0_F L_a0_F.length c_a0_F]) 43 1 48)<|.cons [2,49] (qn (λb=>vP b 0) (λu1=>[vI 0,.slice none 0 0,.slice none 0 0]) 38 2 49)<|.nil) [1,2,45,46,47,48,49] λu1 a w' H=>?_
 refine qg qd H (.cons [8,50] (qfo 8 50)<|.cons [9] (qr (λu2=>.agg #[.slice none 0 0,.map (some (nn u2 0))]) 9)<|.cons [10,51] (qn (λb=>vP b 0) (λu2=>[.slice none 0 0,.map (some (nn u2 0))]) 107 10 51)<|.cons [3,52] (qn (λb=>vP b 0) (λu2=>[.pointer none]) 104 3 52)<|.cons [52] (QF (u':=λu2=>[(52,.blk (nn u2 3) [vP (nn u2 2) 0] 104)]) (qK 52 0 (λu2=>(nn u2 3)) (λu2=>[.pointer none]) (λu2=>[vP (nn u2 2) 0]) 104) (λ_=>by kernel_rfl))<|.nil) [1,2,3,45,46,47,48,49,50,51,52] λu2 a w' H=>?_
 refine qg qd H (.v 11 (vP (nn u1 0) 1)<|.cons [12] (qf (.slice p_a0_F L_a0_F.length c_a0_F) 12 48 1 1 (nn u1 0) [.slice p_a0_Names a0.Names.length c_a0_Names,.slice p_a0_F L_a0_F.length c_a0_F] 43)<|.cons [13] (qL 46 (qy ql 1 p_a0_F c_a0_F L_a0_F Qo) (vI (a0.F.length:Int)) 13 λ_ w h=>Y0 (((qj h).2.len qT (by decide)).trans (QD h_a0_F).symm) (by kernel_rfl))<|.v 14 (.agg #[vI (a0.F.length:Int),.slice none 0 0,.slice none 0 0])<|.cons [4,53] (qn (λb=>vP b 0) (λu3=>[vI 0,.slice none 0 0,.slice none 0 0]) 38 4 53)<|.cons [53] (QF (u':=λu3=>[(53,.blk (nn u3 4) [vI (a0.F.length:Int),.slice none 0 0,.slice none 0 0] 38)]) (qK 53 0 (λu3=>(nn u3 4)) (λu3=>[vI 0,.slice none 0 0,.slice none 0 0]) (λu3=>[vI (a0.F.length:Int),.slice none 0 0,.slice none 0 0]) 38) (λ_=>by kernel_rfl))<|.nil) [1,2,3,4,45,46,47,48,49,50,51,52,53] λu3 a w' H=>?_
 refine qg qd H (.cons [5,54] (qn (λb=>vP b 0) (λu4=>[.nilFunc]) 108 5 54)<|.nil) [1,2,3,4,5,45,46,47,48,49,50,51,52,53,54] λu4 a w' H=>?_
 refine qg qd H (.v 15 (.func (.func 35) #[] #[vP (nn u4 0) 0,vP (nn u2 3) 0])<|.cons [54] (qQ 54 0 (nn u4 0) [.nilFunc] [.func (.func 35) #[] #[vP (nn u4 0) 0,vP (nn u2 3) 0]] 108 [.func (.func 35) #[] #[vP (nn u4 0) 0,vP (nn u2 3) 0]])<|.nil) [1,2,3,4,5,45,46,47,48,49,50,51,52,53,54] λu5 a w' H=>?_
 refine qs ?_
 obtain ⟨j9,hj9,G⟩:=qO G
 refine Xu (λa w'=>∃ (p_j6:Option Addr) (c_j6 np_j6:Nat),np_j6=j9.1.length ∧ ∃ (p_j7:Option Addr) (c_j7 np_j7:Nat),np_j7=j9.2.1.length∧RL w 45 [(2,(sP (nn u1 1) 0)),(3,(sP (nn u2 3) 0)),(4,(sP (nn u3 4) 0)),(49,.blk (nn u1 1) [vI 0,.slice none 0 0,.slice none 0 0] 38),(50,Wf (nn u2 0) qM .i64 j9.2.2),(51,.blk (nn u2 2) [.slice p_j6 np_j6 c_j6,.map (some (nn u2 0))] 107),(52,.blk (nn u2 3) [vP (nn u2 2) 0] 104),(53,.blk (nn u3 4) [vI (a0.F.length:Int),.slice none 0 0,.slice p_j7 np_j7 c_j7] 38),(900067,XP 110 5 p_j6 np_j6 c_j6 (j9.1.flatMap qi)),(900068,XP 3 1 p_j7 np_j7 c_j7 (j9.2.1.flatMap q6))] a w') ?_ ?_
 ·clear H; rintro a w' ⟨p_j6,c_j6,_,rfl,p_j7,c_j7,_,rfl,H⟩
  refine qs ?_
  refine qg qd H (.cons [32] (qf (vP (nn u2 2) 0) 32 52 0 1 (nn u2 3) [vP (nn u2 2) 0] 104)<|.v 33 (vP (nn u2 2) 0)<|.v 34 (vP (nn u2 2) 0)<|.cons [35] (qf (.slice p_j6 j9.1.length c_j6) 35 51 0 1 (nn u2 2) [.slice p_j6 j9.1.length c_j6,.map (some (nn u2 0))] 107)<|.v 36 (vI (j9.1.length:Int))<|.v 37 (.bool (decide ((j9.1.length:Int)>400)))<|.nil) [2,3,4,37,49,50,51,52,53,900067,900068] λu10 a w' H=>?_
  refine Qu H (decide ((j9.1.length:Int)>400)) (λc14=>?_) λc14=>?_
  ·rw [if_pos c14] at G
   refine qg qd H (.v 38 (.agg #[vI 0,.slice none 0 0,.slice none 0 0])<|.cons [49] (qQ 49 0 (nn u1 1) [vI 0,.slice none 0 0,.slice none 0 0] [vI 0,.slice none 0 0,.slice none 0 0] 38 [vI 0,.slice none 0 0,.slice none 0 0])<|.nil) [2,49] λu11 a w' H=>?_
   refine qB ?_
   obtain rfl:=sj G
   replace H:=H.nil_row 55 110 5
   replace H:=H.nil_row 56 3 1
   obtain ⟨g,o0,n0,o1,n1⟩:∃ g:Gh,g.o 0=none∧g.n 0=0∧g.o 1=none∧g.n 1=0:=⟨⟨λi=>[0,0].getD i 0,λi=>[none,none].getD i none,λi=>([⟨Unit,()⟩,⟨Unit,()⟩]:List ((T:Type)×T)).getD i ⟨Unit,()⟩⟩,rfl,rfl,rfl,rfl⟩
   refine Qz H _ g _ _ _ fr [55,56] [(49,⟨(nn u1 1),[vI 0,.slice none 0 0,.slice none 0 0],0,3⟩)] (.agg #[vI 0,.slice none 0 0,.slice none 0 0]) [λ_=>XP 110 5 none 0 0 (([]:List qh).flatMap qi),λ_=>XP 3 1 none 0 0 (([]:List Int).flatMap q6)] (by simp only [Ql,o0,n0,o1,n1,List.length_set,List.length_cons,List.length_nil,Nat.zero_add,Nat.reduceAdd]) (by simp only [Ql,o0,n0,o1,n1,List.length_set,List.length_cons,List.length_nil,Nat.zero_add,Nat.reduceAdd]) hfr (.inl ⟨rfl,rfl⟩) (qk Qf (qk Qf qx)) (by intro p hp; simp only [List.mem_cons,List.not_mem_nil,or_false] at hp; rcases hp with rfl; exact ⟨⟨38,by kernel_rfl⟩,by kernel_rfl⟩)
  ·rw [if_neg (nt c14)] at G
   refine q8 ?_
   refine qg qd H (.cons [39] (qf (vP (nn u2 2) 0) 39 52 0 1 (nn u2 3) [vP (nn u2 2) 0] 104)<|.v 40 (vP (nn u2 2) 0)<|.v 41 (vP (nn u2 2) 0)<|.cons [42] (qf (.slice p_j6 j9.1.length c_j6) 42 51 0 1 (nn u2 2) [.slice p_j6 j9.1.length c_j6,.map (some (nn u2 0))] 107)<|.v 43 (vP (nn u3 4) 1)<|.cons [53] (qQ 53 1 (nn u3 4) [vI (a0.F.length:Int),.slice none 0 0,.slice p_j7 j9.2.1.length c_j7] [.slice p_j6 j9.1.length c_j6] 38 [vI (a0.F.length:Int),.slice p_j6 j9.1.length c_j6,.slice p_j7 j9.2.1.length c_j7])<|.nil) [2,4,49,53,900067,900068] λu12 a w' H=>?_
   refine qg qd H (.cons [44] (qf (.agg #[vI (a0.F.length:Int),.slice p_j6 j9.1.length c_j6,.slice p_j7 j9.2.1.length c_j7]) 44 53 0 3 (nn u3 4) [vI (a0.F.length:Int),.slice p_j6 j9.1.length c_j6,.slice p_j7 j9.2.1.length c_j7] 38)<|.cons [49] (qQ 49 0 (nn u1 1) [vI 0,.slice none 0 0,.slice none 0 0] [vI (a0.F.length:Int),.slice p_j6 j9.1.length c_j6,.slice p_j7 j9.2.1.length c_j7] 38 [vI (a0.F.length:Int),.slice p_j6 j9.1.length c_j6,.slice p_j7 j9.2.1.length c_j7])<|.nil) [2,49,900067,900068] λu13 a w' H=>?_
   refine qB ?_
   obtain rfl:=sj G
   obtain ⟨g,o0,n0,o1,n1⟩:∃ g:Gh,g.o 0=p_j6∧g.n 0=c_j6∧g.o 1=p_j7∧g.n 1=c_j7:=⟨⟨λi=>[c_j6,c_j7].getD i 0,λi=>[p_j6,p_j7].getD i none,λi=>([⟨Unit,()⟩,⟨Unit,()⟩]:List ((T:Type)×T)).getD i ⟨Unit,()⟩⟩,rfl,rfl,rfl,rfl⟩
   refine Qz H _ g _ _ _ fr [900067,900068] [(49,⟨(nn u1 1),[vI (a0.F.length:Int),.slice p_j6 j9.1.length c_j6,.slice p_j7 j9.2.1.length c_j7],0,3⟩)] (.agg #[vI (a0.F.length:Int),.slice p_j6 j9.1.length c_j6,.slice p_j7 j9.2.1.length c_j7]) [λ_=>Ql 110 5 p_j6 c_j6 j9.1 qi,λ_=>Ql 3 1 p_j7 c_j7 j9.2.1 q6] (by simp only [Ql,o0,n0,o1,n1]) (by simp only [Ql,o0,n0,o1,n1]) hfr (.inl ⟨rfl,rfl⟩) (qk Qf (qk Qf qx)) (by intro p hp; simp only [List.mem_cons,List.not_mem_nil,or_false] at hp; rcases hp with rfl; exact ⟨⟨38,by kernel_rfl⟩,by kernel_rfl⟩)
 ·clear G; replace G:=hj9; clear hj9
  refine qg qd H (.v 16 (vP (nn u1 0) 1)<|.cons [17] (qf (.slice p_a0_F L_a0_F.length c_a0_F) 17 48 1 1 (nn u1 0) [.slice p_a0_Names a0.Names.length c_a0_Names,.slice p_a0_F L_a0_F.length c_a0_F] 43)<|.cons [18] (qL 46 (qy ql 1 p_a0_F c_a0_F L_a0_F Qo) (vI (a0.F.length:Int)) 18 λ_ w h=>Y0 (((qj h).2.len qT (by decide)).trans (QD h_a0_F).symm) (by kernel_rfl))<|.v 19 (vI 0)<|.nil) [2,3,4,5,17,18,19,46,47,49,50,51,52,53,54] λu15 a w' H=>?_
  refine qV ?_
  replace H:=H.nil_row 63 110 5
  replace H:=H.nil_row 65 3 1
  replace H:=H.move (K:=XP 110 5 none 0 0 (([]:List qh).flatMap qi)) 63 900069 (by kernel_rfl) (by intro _ _ h; cases h)
  replace H:=H.move (K:=XP 3 1 none 0 0 (([]:List Int).flatMap q6)) 65 900070 (by kernel_rfl) (by intro _ _ h; cases h)
  refine XY (λm a w'=>∃ x16:List qh,∃ x17:List Int,∃ x18:List (qh×Int),∃ x19:Int,Xc.l20 k0 a0 m x16 x17 x18 x19=some j9 ∧ ∃ (p_x16:Option Addr) (c_x16 np_x16:Nat),np_x16=x16.length ∧ ∃ (p_x17:Option Addr) (c_x17 np_x17:Nat),np_x17=x17.length∧RL w 45 [(2,(sP (nn u1 1) 0)),(3,(sP (nn u2 3) 0)),(4,(sP (nn u3 4) 0)),(5,(sP (nn u4 0) 0)),(17,sS p_a0_F L_a0_F.length c_a0_F),(18,(sI (a0.F.length:Int))),(19,sI x19),(46,qy ql 1 p_a0_F c_a0_F L_a0_F Qo),(47,Yk ql QL.toPart L_a0_F),(49,.blk (nn u1 1) [vI 0,.slice none 0 0,.slice none 0 0] 38),(50,Wf (nn u2 0) qM .i64 x18),(51,.blk (nn u2 2) [.slice p_x16 np_x16 c_x16,.map (some (nn u2 0))] 107),(52,.blk (nn u2 3) [vP (nn u2 2) 0] 104),(53,.blk (nn u3 4) [vI (a0.F.length:Int),.slice none 0 0,.slice p_x17 np_x17 c_x17] 38),(54,.blk (nn u4 0) [.func (.func 35) #[] #[vP (nn u4 0) 0,vP (nn u2 3) 0]] 108),(900069,XP 110 5 p_x16 np_x16 c_x16 (x16.flatMap qi)),(900070,XP 3 1 p_x17 np_x17 c_x17 (x17.flatMap q6))] a w') k0 ⟨_,_,_,_,G,none,0,0,rfl,none,0,0,rfl,H.toM _⟩ ?_
  clear G H
  rintro (_ | k) a w' ⟨x16,x17,x18,x19,G,p_x16,c_x16,_,rfl,p_x17,c_x17,_,rfl,H⟩
  ·exact absurd G (by unfold Xc.l20; exact λh=>by cases h)
  ·unfold Xc.l20 at G
   refine qg qd H (.v 20 (.bool (decide (x19<(a0.F.length:Int))))<|.nil) [2,3,4,5,17,18,19,20,46,47,49,50,51,52,53,54,900069,900070] λu21 a w' H=>?_
   refine qs ?_
   refine Qu H (decide (x19<(a0.F.length:Int))) (λc29=>?_) λc29=>?_
   ·rw [if_pos c29] at G
    refine q8 ?_
    refine qs ?_
    refine qV ?_
    refine qs ?_
    replace G:=gd G; obtain ⟨b23,G⟩:=G
    obtain ⟨t24,ht24,G⟩:=qO G
    obtain ⟨p_t24,c_t24,y_t24⟩:=Yl h_a0_F ht24
    refine Qq qd H (.cons [21] (qL 46 (qy ql 1 p_a0_F c_a0_F L_a0_F Qo) (.pointer (some ⟨XR p_a0_F,XV p_a0_F+x19.toNat*1,none⟩)) 21 λ_ w h=>JT 41 .i64 x19 p_a0_F L_a0_F.length c_a0_F a0.F Qo (qj h).2 qT (QD h_a0_F) b23)<|.cons [22] (qL 46 (qy ql 1 p_a0_F c_a0_F L_a0_F Qo) (.slice p_t24 t24.length c_t24) 22 λ_ w h=>Y4 Qo (qj h).2 qT y_t24 0 1 [.slice p_t24 t24.length c_t24])<|.v 7 (.slice p_t24 t24.length c_t24)<|.nil) [2,3,4,5,7,17,18,19,46,47,49,50,51,52,53,54,900069,900070] λu22 a w' H=>?_
    obtain ⟨t26,ht26,G⟩:=qO G
    replace G:=gd G; obtain ⟨b27,G⟩:=G
    refine Jw qd H (.v 23 (vP (nn u3 4) 2)<|.cons [24] (qf (.slice p_x17 x17.length c_x17) 24 53 2 1 (nn u3 4) [vI (a0.F.length:Int),.slice none 0 0,.slice p_x17 x17.length c_x17] 38)<|.cons [25] (qf (.func (.func 35) #[] #[vP (nn u4 0) 0,vP (nn u2 3) 0]) 25 54 0 1 (nn u4 0) [.func (.func 35) #[] #[vP (nn u4 0) 0,vP (nn u2 3) 0]] 108)<|.v 26 (.slice p_t24 t24.length c_t24)<|.cons [27,900069,50,51,57,51,50] (Qp false fr [] [47,54,52] (λu25=>[Yk ql QL.toPart L_a0_F,.blk (nn u4 0) [.func (.func 35) #[] #[vP (nn u4 0) 0,vP (nn u2 3) 0]] 108,.blk (nn u2 3) [vP (nn u2 2) 0] 104]) [900069,50,51] (λu25=>[Ql 110 5 p_x16 c_x16 x16 qi,Wf (nn u2 0) qM .i64 x18,.blk (nn u2 2) [.slice p_x16 x16.length c_x16,.map (some (nn u2 0))] 107]) 35 _ _ _ _ _ [57,51,50] 27 (λu25 w hB hF hM=>qw.calls k0 t24 x16 x18 p_t24 c_t24 (nn u4 0) (nn u2 3) (nn u2 2) p_x16 c_x16 (nn u2 0) t26 w hB hF hM ht26) (λu25 w hF=>⟨⟨Zf hF.2.1 (.tail _ (.head _)) rfl,Zf hF.2.2.1 (.tail _ (.tail _ (.head _))) rfl,trivial⟩,⟨qP (show X3 _ 4 p_t24 t24.length c_t24 (t24.flatMap qp) from ((XB hF.1) _ (List.mem_of_getElem? y_t24)).1) (λj h=>⟨_,(.head _),⟨_,(List.mem_of_getElem? y_t24),(.inl h)⟩⟩),trivial⟩⟩) (λu25 g=>(qk Qf (qk Zg (qk WT qx)))) (.inr (λu25 g=>(Qg trivial (Qg trivial (Qg trivial (λK h=>by cases h)))))) (λh=>by cases h))<|.cons [28,58] (qn (λb=>.slice (some ⟨b,0,none⟩) 1 1) (λu25=>[vI t26.1]) 3 28 58)<|.cons [29,900070,900070] (Xt [5] [58] (λu25=>[.blk (nn u25 5) [vI t26.1] 3]) 900070 (λu25=>Ql 3 1 p_x17 c_x17 x17 q6) (some 29) (λu25 g=>.slice (g.o 0) (x17++[t26.1]).length (g.n 0)) (λu25 g=>Ql 3 1 (g.o 0) (g.n 0) (x17++[t26.1]) q6) (λu25 w hF hK=>Vb (Yb (t:=36) (ty:=36) (en:=q6) JP qik (Qx hK) hF.1 (news:=[t26.1]) rfl (by simp) (by kernel_rfl) b27)) (hloc:=λu u' h=>by refine ⟨?_,?_,?_,?_⟩ <;> first | rfl | simp only [nn, h 5 (by decide)]))<|.v 30 (vP (nn u3 4) 2)<|.cons [53] (QF (u':=λu25=>[(53,.blk (nn u3 4) [vI (a0.F.length:Int),.slice none 0 0,.slice ((u25 6).o 0) ((x17++[t26.1]).length) (nn u25 6)] 38)]) (qK 53 2 (λu25=>(nn u3 4)) (λu25=>[vI (a0.F.length:Int),.slice none 0 0,.slice p_x17 x17.length c_x17]) (λu25=>[.slice ((u25 6).o 0) ((x17++[t26.1]).length) (nn u25 6)]) 38) (λ_=>by kernel_rfl))<|.nil) (by kernel_rfl) λu25 a w' H=>?_
    replace H:=H.kp [2,3,4,5,17,18,19,46,47,49,50,51,52,53,54,57,900070]
    refine Qq qd H (.v 31 (vI (qc (x19+1)))<|.v 19 (vI (qc (x19+1)))<|.nil) [2,3,4,5,17,18,19,46,47,49,50,51,52,53,54,57,900070] λu28 a w' H=>?_
    replace H:=H.move (K:=Ql 110 5 ((u25 4).o 0) (nn u25 4) t26.2.1 qi) 57 900069 (by kernel_rfl) (by intro _ _ h; cases h)
    exact ⟨k,Nat.lt_succ_self k,_,_,_,_,G,((u25 4).o 0),(nn u25 4),t26.2.1.length,rfl,((u25 6).o 0),(nn u25 6),(x17++[t26.1]).length,rfl,H.toM _⟩
   ·rw [if_neg (nt c29)] at G
    refine Yx rfl ?_
    obtain rfl:=sj G
    replace H:=H.move (K:=Ql 110 5 p_x16 c_x16 x16 qi) 900069 900067 (by kernel_rfl) (by intro _ _ h; cases h)
    replace H:=H.move (K:=Ql 3 1 p_x17 c_x17 x17 q6) 900070 900068 (by kernel_rfl) (by intro _ _ h; cases h)
    exact ⟨p_x16,c_x16,x16.length,rfl,p_x17,c_x17,x17.length,rfl,H.toM _⟩
theorem YW.calls (a0:qb)(r:Zc)(w:World)(G:YW a0=some r) :
  Calls Tryz.prog 13 #[.agg #[vI a0.Lo,vI a0.Hi]] w λe w'=>∃ g:Gh,e = .returned (.agg #[.slice (g.o 0) r.Names.length (g.n 0),.slice (g.o 1) ((g.dl Sl.l q9 1 r.F).length) (g.n 1)])∧Zj (YR []) w w'∧Ye w.heap.size (YR []) (JS w.heap.size []) [λ_=>XP 9 1 (g.o 0) r.Names.length (g.n 0) (r.Names.flatMap Y1),λ_=>Zz 59 61 4 qp (g.o 1) ((g.dl Sl.l q9 1 r.F).length) (g.n 1) (g.dl Sl.l q9 1 r.F) (g.dl Sl.l q9 1 r.F)] w':=by
 obtain ⟨fr,hfr⟩:∃ fr:Nat->Prop,fr=JS w.heap.size []:=⟨_,rfl⟩
 have hBf:∀ j,w.heap.size<=j->fr j:=λj h=>by rw [hfr]; exact .inl h
 refine Qs (args:=[.agg #[vI a0.Lo,vI a0.Hi]]) 9 Tryz.func13 rfl λa H=>?_
 unfold YW at G
 refine qs ?_
 refine JG qd H (.cons [1,9] (qn (λb=>vP b 0) (λu1=>[vI a0.Lo,vI a0.Hi]) 46 1 9)<|.cons [2,10] (qn (λb=>vP b 0) (λu1=>[.slice none 0 0,.slice none 0 0]) 43 2 10)<|.nil) λu1 a w' H=>?_
 replace H:=H.kp [1,2,9,10]
 refine qs ?_
 refine JG qd H (.cons [3,11] (qn (λb=>.slice (some ⟨b,0,none⟩) 1 1) (λu2=>[.string (⟨#[120]⟩:ByteArray)]) 9 3 11)<|.cons [4] (VD (λu2=>.agg #[vI a0.Lo,vI a0.Hi]) 4 9 0 2 (λu2=>(nn u1 0)) (λu2=>[vI a0.Lo,vI a0.Hi]) 46)<|.v 5 (.agg #[vI 1,vI 0,vI a0.Lo,vI a0.Hi])<|.cons [6,12] (qn (λb=>.slice (some ⟨b,0,none⟩) 1 1) (λu2=>[vI 1,vI 0,vI a0.Lo,vI a0.Hi]) 61 6 12)<|.cons [7,13] (qn (λb=>.slice (some ⟨b,0,none⟩) 1 1) (λu2=>[.slice (some ⟨(nn u2 3),0,none⟩) 1 1]) 59 7 13)<|.cons [8] (qr (λu2=>.agg #[.slice (some ⟨(nn u2 0),0,none⟩) 1 1,.slice (some ⟨(nn u2 4),0,none⟩) 1 1]) 8)<|.cons [10] (QF (u':=λu2=>[(10,.blk (nn u1 1) [.slice (some ⟨(nn u2 0),0,none⟩) 1 1,.slice (some ⟨(nn u2 4),0,none⟩) 1 1] 43)]) (qK 10 0 (λu2=>(nn u1 1)) (λu2=>[.slice none 0 0,.slice none 0 0]) (λu2=>[.slice (some ⟨(nn u2 0),0,none⟩) 1 1,.slice (some ⟨(nn u2 4),0,none⟩) 1 1]) 43) (λ_=>by kernel_rfl))<|.nil) λu2 a w' H=>?_
 replace H:=H.kp [2,10,11,12,13]
 refine qB ?_
 obtain rfl:=Option.some.inj G
 replace H:=H.blk_row 11 (nn u2 0) [.string (⟨#[120]⟩:ByteArray)] 9 1 1 (by kernel_rfl) (by kernel_rfl) (by decide)
 replace H:=H.blk_row 12 (nn u2 3) [vI 1,vI 0,vI a0.Lo,vI a0.Hi] 61 4 1 (by kernel_rfl) (by kernel_rfl) (by decide)
 replace H:=H.blk_row 13 (nn u2 4) [.slice (some ⟨(nn u2 3),0,none⟩) 1 1] 59 1 1 (by kernel_rfl) (by kernel_rfl) (by decide)
 replace H:=H.nestOpen (e:=59) (m:=1) (cap:=1) (p:=(some ⟨(nn u2 4),0,none⟩)) (H:=([⟨(some ⟨(nn u2 3),0,none⟩),1,([(⟨1,0,a0⟩:qt)]:List qt)⟩]:List (Sl qt))) 13 61 4 qp (by kernel_rfl)
 replace H:=H.nestTake (e:=59) (e2:=61) (m:=1) (cap:=1) (p:=(some ⟨(nn u2 4),0,none⟩)) (H:=([⟨(some ⟨(nn u2 3),0,none⟩),1,([(⟨1,0,a0⟩:qt)]:List qt)⟩]:List (Sl qt))) (L:=([]:List (Sl qt))) (n2:=1) (c:=1) (q:=(some ⟨(nn u2 3),0,none⟩)) (en:=qp) (l:=([(⟨1,0,a0⟩:qt)]:List qt)) 13 12 (by kernel_rfl) (by kernel_rfl) (by rfl) QI (by decide)
 obtain ⟨g,o0,n0,o1,n1,d1⟩:∃ g:Gh,g.o 0=(some ⟨(nn u2 0),0,none⟩)∧g.n 0=1∧g.o 1=(some ⟨(nn u2 4),0,none⟩)∧g.n 1=1∧g.dl Sl.l q9 1 ([([(⟨1,0,a0⟩:qt)]:List qt)]:List (List qt))=([⟨(some ⟨(nn u2 3),0,none⟩),1,([(⟨1,0,a0⟩:qt)]:List qt)⟩]:List (Sl qt)):=⟨⟨λi=>[1,1].getD i 0,λi=>[(some ⟨(nn u2 0),0,none⟩),(some ⟨(nn u2 4),0,none⟩)].getD i none,λi=>([⟨Unit,()⟩,⟨List (Sl qt),([⟨(some ⟨(nn u2 3),0,none⟩),1,([(⟨1,0,a0⟩:qt)]:List qt)⟩]:List (Sl qt))⟩]:List ((T:Type)×T)).getD i ⟨Unit,()⟩⟩,rfl,rfl,rfl,rfl,qdZ rfl rfl⟩
 refine Qz H (λg=>.agg #[.slice (g.o 0) (([(⟨#[120]⟩:ByteArray)]:List ByteArray).length) (g.n 0),.slice (g.o 1) ((g.dl Sl.l q9 1 ([([(⟨1,0,a0⟩:qt)]:List qt)]:List (List qt))).length) (g.n 1)]) g [] [] (λg=>[λ_=>XP 9 1 (g.o 0) (([(⟨#[120]⟩:ByteArray)]:List ByteArray).length) (g.n 0) (([(⟨#[120]⟩:ByteArray)]:List ByteArray).flatMap Y1),λ_=>Zz 59 61 4 qp (g.o 1) ((g.dl Sl.l q9 1 ([([(⟨1,0,a0⟩:qt)]:List qt)]:List (List qt))).length) (g.n 1) (g.dl Sl.l q9 1 ([([(⟨1,0,a0⟩:qt)]:List qt)]:List (List qt))) (g.dl Sl.l q9 1 ([([(⟨1,0,a0⟩:qt)]:List qt)]:List (List qt)))]) fr [11,13] [(10,⟨(nn u1 1),[.slice (some ⟨(nn u2 0),0,none⟩) 1 1,.slice (some ⟨(nn u2 4),0,none⟩) 1 1],0,2⟩)] (.agg #[.slice (some ⟨(nn u2 0),0,none⟩) 1 1,.slice (some ⟨(nn u2 4),0,none⟩) 1 1]) [λ_=>XP 9 1 (some ⟨(nn u2 0),0,none⟩) 1 1 (([(⟨#[120]⟩:ByteArray)]:List ByteArray).flatMap Y1),λ_=>Zz 59 61 4 qp (some ⟨(nn u2 4),0,none⟩) 1 1 ([⟨(some ⟨(nn u2 3),0,none⟩),1,([(⟨1,0,a0⟩:qt)]:List qt)⟩]:List (Sl qt)) ([⟨(some ⟨(nn u2 3),0,none⟩),1,([(⟨1,0,a0⟩:qt)]:List qt)⟩]:List (Sl qt))] (by simp only [o0,n0,o1,n1,d1,List.length_set,List.length_cons,List.length_nil,Nat.zero_add,Nat.reduceAdd]) (by simp only [o0,n0,o1,n1,d1,List.length_set,List.length_cons,List.length_nil,Nat.zero_add,Nat.reduceAdd]) hfr (.inl ⟨rfl,rfl⟩) (qk Qf (qk Jk qx)) (by intro p hp; simp only [List.mem_cons,List.not_mem_nil,or_false] at hp; rcases hp with rfl; exact ⟨⟨43,by kernel_rfl⟩,by kernel_rfl⟩)
theorem Jb.calls (a0:List qW)(p_a0:Option Addr)(c_a0:Nat)(L_a0:List qR)(r:List qb×Int×Bool)(w:World)(h_a0:a0=L_a0.map Yw)(hB:Xp [qy ql 6 p_a0 c_a0 L_a0 qC] w)(hF:Xp [Yk ql Qj.toPart L_a0] w)(G:Jb a0=some r) :
  Calls Tryz.prog 28 #[.slice p_a0 L_a0.length c_a0] w λe w'=>∃ g:Gh,e = .returned (.tuple #[.slice (g.o 0) r.1.length (g.n 0),vI r.2.1,.bool r.2.2])∧Zj (YR []) w w'∧Ye w.heap.size (YR []) (JS w.heap.size [Yk ql Qj.toPart L_a0]) [λfr=>YI fr 2 (g.o 0) r.1.length (g.n 0) (r.1.flatMap qa)] w':=by
 obtain ⟨fr,hfr,hBf⟩:=VT w [Yk ql Qj.toPart L_a0]
 refine QA (args:=[.slice p_a0 L_a0.length c_a0]) 22 [(22,qy ql 6 p_a0 c_a0 L_a0 qC),(23,Yk fr Qj.toPart L_a0)] (by
  intro x hx
  simp only [List.mem_cons,List.not_mem_nil,or_false] at hx
  rcases hx with rfl | rfl
  ·exact qv (qj hB.1) (λ_ _=>trivial) (by decide) _
  ·exact ZV (XB hF.1) (λj h=>by rw [hfr]; exact .inr ⟨_,(.head _),h⟩) _) Tryz.func28 rfl λa H=>?_
 unfold Jb at G
 refine qg qd H (.v 2 (.slice none 0 0)<|.v 3 (vI 0)<|.v 4 (.bool false)<|.nil) [0,22,23] λu1 a w' H=>?_
 refine qs ?_
 refine qg qd H (.v 6 (.slice p_a0 L_a0.length c_a0)<|.cons [7] (qL 22 (qy ql 6 p_a0 c_a0 L_a0 qC) (vI (a0.length:Int)) 7 λ_ w h=>Y0 (((qj h).2.len QQ (by decide)).trans (QD h_a0).symm) (by kernel_rfl))<|.v 8 (.bool ((a0.length:Int)==0))<|.nil) [0,8,22,23] λu2 a w' H=>?_
 refine Qu H ((a0.length:Int)==0) (λc8=>?_) λc8=>?_
 ·rw [if_pos c8] at G
  refine qg qd H (.v 2 (.slice none 0 0)<|.v 3 (vI 0)<|.v 4 (.bool false)<|.nil) [2,3,4] λu3 a w' H=>?_
  refine qB ?_
  obtain rfl:=sj G
  replace H:=H.nil_row 24 46 2
  replace H:=H.demote fr 24 46 2 none 0 0 (([]:List qb).flatMap qa) (by kernel_rfl) (by decide) hBf
  obtain ⟨g,o0,n0⟩:=ZS none 0
  refine Qz H _ g _ _ _ fr [24] [] (.tuple #[.slice none 0 0,vI 0,.bool false]) [λfr=>YI fr 2 none 0 0 (([]:List qb).flatMap qa)] (by simp only [Ql,o0,n0,List.length_set,List.length_cons,List.length_nil,Nat.zero_add,Nat.reduceAdd]) (by simp only [Ql,o0,n0,List.length_set,List.length_cons,List.length_nil,Nat.zero_add,Nat.reduceAdd]) hfr (.inl ⟨rfl,rfl⟩) (qk (QP (by decide)) qx) (by simp)
 ·rw [if_neg (nt c8)] at G
  refine q8 ?_
  refine qs ?_
  replace G:=gd G; obtain ⟨b5,G⟩:=G
  obtain ⟨t6,ht6,G⟩:=qO G
  obtain ⟨p_t6_From,c_t6_From,p_t6_Pre,c_t6_Pre,p_t6_Tube,c_t6_Tube,p_t6_To,c_t6_To,y_t6⟩:=ZN h_a0 ht6
  refine Qq qd H (.v 9 (.slice p_a0 L_a0.length c_a0)<|.v 10 (.slice p_a0 L_a0.length c_a0)<|.cons [11] (qL 22 (qy ql 6 p_a0 c_a0 L_a0 qC) (vI (a0.length:Int)) 11 λ_ w h=>Y0 (((qj h).2.len QQ (by decide)).trans (QD h_a0).symm) (by kernel_rfl))<|.v 12 (vI (qc ((a0.length:Int)-1)))<|.cons [13] (qL 22 (qy ql 6 p_a0 c_a0 L_a0 qC) (.pointer (some ⟨XR p_a0,XV p_a0+((qc ((a0.length:Int)-1)).toNat)*6,none⟩)) 13 λ_ w h=>JT 31 .i64 (qc ((a0.length:Int)-1)) p_a0 L_a0.length c_a0 a0 qC (qj h).2 QQ (QD h_a0) b5)<|.cons [14] (qL 22 (qy ql 6 p_a0 c_a0 L_a0 qC) (.agg #[vI t6.T,vI t6.H,.slice p_t6_From t6.From.length c_t6_From,.slice p_t6_Pre t6.Pre.length c_t6_Pre,.slice p_t6_Tube t6.Tube.length c_t6_Tube,.slice p_t6_To t6.To.length c_t6_To]) 14 λ_ w h=>Y4 qC (qj h).2 QQ y_t6 0 6 [vI t6.T,vI t6.H,.slice p_t6_From t6.From.length c_t6_From,.slice p_t6_Pre t6.Pre.length c_t6_Pre,.slice p_t6_Tube t6.Tube.length c_t6_Tube,.slice p_t6_To t6.To.length c_t6_To])<|.cons [5,25] (qn (λb=>vP b 0) (λu4=>[vI 0,vI 0,.slice none 0 0,.slice none 0 0,.slice none 0 0,.slice none 0 0]) 63 5 25)<|.cons [25] (QF (u':=λu4=>[(25,.blk (nn u4 6) [vI t6.T,vI t6.H,.slice p_t6_From t6.From.length c_t6_From,.slice p_t6_Pre t6.Pre.length c_t6_Pre,.slice p_t6_Tube t6.Tube.length c_t6_Tube,.slice p_t6_To t6.To.length c_t6_To] 63)]) (qK 25 0 (λu4=>(nn u4 6)) (λu4=>[vI 0,vI 0,.slice none 0 0,.slice none 0 0,.slice none 0 0,.slice none 0 0]) (λu4=>[vI t6.T,vI t6.H,.slice p_t6_From t6.From.length c_t6_From,.slice p_t6_Pre t6.Pre.length c_t6_Pre,.slice p_t6_Tube t6.Tube.length c_t6_Tube,.slice p_t6_To t6.To.length c_t6_To]) 63) (λ_=>by kernel_rfl))<|.nil) [5,23,25] λu4 a w' H=>?_
  refine qg qd H (.v 15 (vP (nn u4 6) 5)<|.cons [16] (qf (.slice p_t6_To t6.To.length c_t6_To) 16 25 5 1 (nn u4 6) [vI t6.T,vI t6.H,.slice p_t6_From t6.From.length c_t6_From,.slice p_t6_Pre t6.Pre.length c_t6_Pre,.slice p_t6_Tube t6.Tube.length c_t6_Tube,.slice p_t6_To t6.To.length c_t6_To] 63)<|.v 17 (vP (nn u4 6) 0)<|.cons [18] (qf (vI t6.T) 18 25 0 1 (nn u4 6) [vI t6.T,vI t6.H,.slice p_t6_From t6.From.length c_t6_From,.slice p_t6_Pre t6.Pre.length c_t6_Pre,.slice p_t6_Tube t6.Tube.length c_t6_Tube,.slice p_t6_To t6.To.length c_t6_To] 63)<|.v 19 (vP (nn u4 6) 1)<|.cons [20] (qf (vI t6.H) 20 25 1 1 (nn u4 6) [vI t6.T,vI t6.H,.slice p_t6_From t6.From.length c_t6_From,.slice p_t6_Pre t6.Pre.length c_t6_Pre,.slice p_t6_Tube t6.Tube.length c_t6_Tube,.slice p_t6_To t6.To.length c_t6_To] 63)<|.v 21 (vI (qc (t6.T+t6.H)))<|.v 2 (.slice p_t6_To t6.To.length c_t6_To)<|.v 3 (vI (qc (t6.T+t6.H)))<|.v 4 (.bool true)<|.nil) [2,3,4,23] λu7 a w' H=>?_
  refine qB ?_
  obtain rfl:=sj G
  replace H:=H.addF 26 (qy fr 2 p_t6_To c_t6_To t6.To qa) [23] [Yk fr Qj.toPart L_a0] (by kernel_rfl) (λh=>h) (by intro _ _ h; cases h) (λhF=>(qv (show X3 _ 2 p_t6_To t6.To.length c_t6_To (t6.To.flatMap qa) from ((XB hF.1) _ (List.mem_of_getElem? y_t6)).2.2.2.1) (λj h=>(VA hF.1 _ ⟨_,(List.mem_of_getElem? y_t6),(.inr (.inr (.inr (.inl h))))⟩)) (by decide) 0).2.1) (λhF j h=>⟨_,.head _,(λh=>h),⟨_,(List.mem_of_getElem? y_t6),(.inr (.inr (.inr (.inl h))))⟩⟩)
  obtain ⟨g,o0,n0⟩:=ZS p_t6_To c_t6_To
  refine Qz H _ g _ _ _ fr [26] [] (.tuple #[.slice p_t6_To t6.To.length c_t6_To,vI (qc (t6.T+t6.H)),.bool true]) [λfr=>qy fr 2 p_t6_To c_t6_To t6.To qa] (by simp only [Ql,o0,n0]) (by simp only [Ql,o0,n0]) hfr (.inl ⟨rfl,rfl⟩) (qk (QP (by decide)) qx) (by simp)
theorem Zm.calls (a0:Int)(q0:List qW)(q1:Int)(b_q0:Nat)(p_q0:Option Addr)(c_q0:Nat)(L_q0:List qR)(b_q1:Nat)(r:Bool)(w:World)(h_q0:q0=L_q0.map Yw)(hB:Xp [qy ql 6 p_q0 c_q0 L_q0 qC,Yk ql Qj.toPart L_q0,Xf b_q0 [.slice p_q0 L_q0.length c_q0] 31,Xf b_q1 [vI q1] 2] w)(G:Zm a0 q0 q1=some r) :
  Calls Tryz.prog 40 #[vI a0,vP b_q0 0,vP b_q1 0] w λe w'=>e = .returned (.bool r)∧Below w.heap.size w w':=by
 obtain ⟨fr,hfr⟩:∃ fr:Nat->Prop,∀ j,fr j:=⟨λ_=>True,λ_=>trivial⟩
 have hBf:∀ j,w.heap.size<=j->fr j:=λj _=>hfr j
 refine QA (args:=[vI a0,vP b_q0 0,vP b_q1 0]) 12 [(13,qy ql 6 p_q0 c_q0 L_q0 qC),(14,Yk ql Qj.toPart L_q0),(12,Xf b_q0 [.slice p_q0 L_q0.length c_q0] 31),(15,Xf b_q1 [vI q1] 2)] (by
  intro x hx
  simp only [List.mem_cons,List.not_mem_nil,or_false] at hx
  rcases hx with rfl | rfl | rfl | rfl
  ·exact qv (qj hB.1) (λ_ _=>trivial) (by decide) _
  ·exact ZV (XB hB.2.1) (λ_ _=>trivial) _
  ·exact QH (hB.2.2.1 w (agree.refl _ _)) _
  ·exact QH (hB.2.2.2.1 w (agree.refl _ _)) _) Tryz.func40 rfl λa H=>?_
 unfold Zm at G
 refine qg qd H (.v 4 (.bool false)<|.nil) [0,1,2,13,14,12,15] λu1 a w' H=>?_
 refine qs ?_
 replace G:=gd G; obtain ⟨b3,G⟩:=G
 obtain ⟨t4,ht4,G⟩:=qO G
 obtain ⟨p_t4_From,c_t4_From,p_t4_Pre,c_t4_Pre,p_t4_Tube,c_t4_Tube,p_t4_To,c_t4_To,y_t4⟩:=ZN h_q0 ht4
 have P5:=Xm (en:=qC) (l:=L_q0) (qj (H.at (K:=qy ql 6 p_q0 c_q0 L_q0 qC) 13 (by kernel_rfl))).2 QQ
 refine Qq qd H (.cons [5] (QV (λu2=>.slice p_q0 L_q0.length c_q0) 5 12 (Xf b_q0 [.slice p_q0 L_q0.length c_q0] 31) b_q0 0 1 [.slice p_q0 L_q0.length c_q0] (λw h=>Za h))<|.v 6 (vI a0)<|.cons [7] (qr (λu2=>.pointer (some ⟨XR p_q0,XV p_q0+a0.toNat*6,none⟩)) 7 (hv:=λ_ _=>Qe (t:=31) (k:=.i64) (i:=a0) (p:=p_q0) (n:=L_q0.length) (cap:=c_q0) (x:=q0) P5 (QD h_q0) b3 (by kernel_rfl)))<|.v 8 (.pointer (some ⟨XR p_q0,XV p_q0+a0.toNat*6+0,none⟩))<|.cons [9] (qL 13 (qy ql 6 p_q0 c_q0 L_q0 qC) (vI t4.T) 9 λ_ w h=>Y4 qC (qj h).2 QQ y_t4 0 1 [vI t4.T])<|.cons [10] (QV (λu2=>vI q1) 10 15 (Xf b_q1 [vI q1] 2) b_q1 0 1 [vI q1] (λw h=>Za h))<|.v 11 (.bool (decide (t4.T>q1)))<|.v 4 (.bool (decide (t4.T>q1)))<|.nil) [4,13,14,12,15] λu2 a w' H=>?_
 refine qB ?_
 obtain rfl:=sj G
 exact Qr H _
theorem QJ.calls (k0:Nat)(a0:Int)(a1_0:List qW)(a1_1:Int)(b_a1_0:Nat)(p_a1_0:Option Addr)(c_a1_0:Nat)(L_a1_0:List qR)(b_a1_1:Nat)(r:Int)(w:World)(h_a1_0:a1_0=L_a1_0.map Yw)(hB:Xp [qy ql 6 p_a1_0 c_a1_0 L_a1_0 qC,Yk ql Qj.toPart L_a1_0,Xf b_a1_0 [.slice p_a1_0 L_a1_0.length c_a1_0] 31,Xf b_a1_1 [vI a1_1] 2] w)(G:QJ k0 a0 a1_0 a1_1=some r) :
  Calls Tryz.prog 39 #[vI a0,.func (.func 40) #[] #[vP b_a1_0 0,vP b_a1_1 0]] w λe w'=>e = .returned (vI r)∧Below w.heap.size w w':=by
 obtain ⟨fr,hfr⟩:∃ fr:Nat->Prop,∀ j,fr j:=⟨λ_=>True,λ_=>trivial⟩
 have hBf:∀ j,w.heap.size<=j->fr j:=λj _=>hfr j
 refine QA (args:=[vI a0,.func (.func 40) #[] #[vP b_a1_0 0,vP b_a1_1 0]]) 26 [(27,qy ql 6 p_a1_0 c_a1_0 L_a1_0 qC),(28,Yk ql Qj.toPart L_a1_0),(26,Xf b_a1_0 [.slice p_a1_0 L_a1_0.length c_a1_0] 31),(29,Xf b_a1_1 [vI a1_1] 2)] (by
  intro x hx
  simp only [List.mem_cons,List.not_mem_nil,or_false] at hx
  rcases hx with rfl | rfl | rfl | rfl
  ·exact qv (qj hB.1) (λ_ _=>trivial) (by decide) _
  ·exact ZV (XB hB.2.1) (λ_ _=>trivial) _
  ·exact QH (hB.2.2.1 w (agree.refl _ _)) _
  ·exact QH (hB.2.2.2.1 w (agree.refl _ _)) _) Tryz.func39 rfl λa H=>?_
 unfold QJ at G
 refine qg qd H (.v 4 (vI 0)<|.nil) [0,1,27,28,26,29] λu1 a w' H=>?_
 refine qg qd H (.v 8 (vI a0)<|.v 5 (vI 0)<|.v 6 (vI a0)<|.nil) [1,5,6,27,28,26,29] λu2 a w' H=>?_
 refine qs ?_
 obtain ⟨j4,hj4,G⟩:=qO G
 refine Xu (λa w'=>RL w 26 [(5,sI j4),(27,qy ql 6 p_a1_0 c_a1_0 L_a1_0 qC),(28,Yk ql Qj.toPart L_a1_0),(26,Xf b_a1_0 [.slice p_a1_0 L_a1_0.length c_a1_0] 31),(29,Xf b_a1_1 [vI a1_1] 2)] a w') ?_ ?_
 ·clear H; intro a w' H
  refine qg qd H (.v 25 (vI j4)<|.v 4 (vI j4)<|.nil) [4,27,28,26,29] λu5 a w' H=>?_
  refine qB ?_
  obtain rfl:=sj G
  exact Qr H _
 ·clear G; replace G:=hj4; clear hj4
  refine qV ?_
  refine XY (λm a w'=>∃ x6:Int,∃ x7:Int,QJ.l8 k0 a0 a1_0 a1_1 m x6 x7=some j4∧RL w 26 [(1,.slot true (.func (.func 40) #[] #[vP b_a1_0 0,vP b_a1_1 0])),(5,sI x6),(6,sI x7),(27,qy ql 6 p_a1_0 c_a1_0 L_a1_0 qC),(28,Yk ql Qj.toPart L_a1_0),(26,Xf b_a1_0 [.slice p_a1_0 L_a1_0.length c_a1_0] 31),(29,Xf b_a1_1 [vI a1_1] 2)] a w') k0 ⟨_,_,G,H.toM _⟩ ?_
  clear G H
  rintro (_ | k) a w' ⟨x6,x7,G,H⟩
  ·exact absurd G (by unfold QJ.l8; exact λh=>by cases h)
  ·unfold QJ.l8 at G
   refine qs ?_
   refine qg qd H (.v 9 (vI x6)<|.v 10 (vI x7)<|.v 11 (.bool (decide (x6<x7)))<|.nil) [1,5,6,11,27,28,26,29] λu9 a w' H=>?_
   refine Qu H (decide (x6<x7)) (λc16=>?_) λc16=>?_
   ·rw [if_pos c16] at G
    refine q8 ?_
    refine qV ?_
    refine qg qd H (.v 12 (vI x6)<|.v 13 (vI x7)<|.v 14 (vI (qc (x6+x7)))<|.v 15 (.int .u64 (Z3 (qc (x6+x7))))<|.v 16 (.int .u64 (Int.fdiv (Z3 (qc (x6+x7))) 2))<|.v 17 (vI (qc (Int.fdiv (Z3 (qc (x6+x7))) 2)))<|.v 7 (vI (qc (Int.fdiv (Z3 (qc (x6+x7))) 2)))<|.nil) [1,5,6,7,27,28,26,29] λu10 a w' H=>?_
    obtain ⟨t12,ht12,G⟩:=qO G
    refine qg qd H (.v 18 (.func (.func 40) #[] #[vP b_a1_0 0,vP b_a1_1 0])<|.v 19 (vI (qc (Int.fdiv (Z3 (qc (x6+x7))) 2)))<|.cons [20] (Q6 [27,28,26,29] (λu11=>[qy ql 6 p_a1_0 c_a1_0 L_a1_0 qC,Yk ql Qj.toPart L_a1_0,Xf b_a1_0 [.slice p_a1_0 L_a1_0.length c_a1_0] 31,Xf b_a1_1 [vI a1_1] 2]) 40 _ _ 20 (λu11 w hF=>Zm.calls (qc (Int.fdiv (Z3 (qc (x6+x7))) 2)) a1_0 a1_1 b_a1_0 p_a1_0 c_a1_0 L_a1_0 b_a1_1 t12 w h_a1_0 ⟨(JU (qj hF.1)),(dnA (XB hF.2.1)),(QH (hF.2.2.1 w (agree.refl _ _)) 0).2.1,(QH (hF.2.2.2.1 w (agree.refl _ _)) 0).2.1,trivial⟩ ht12))<|.v 21 (.bool (!t12))<|.nil) [1,5,6,7,21,27,28,26,29] λu11 a w' H=>?_
    refine Qu H (!t12) (λc15=>?_) λc15=>?_
    ·rw [if_pos c15] at G
     refine Qq qd H (.v 22 (vI (qc (Int.fdiv (Z3 (qc (x6+x7))) 2)))<|.v 23 (vI (qc ((qc (Int.fdiv (Z3 (qc (x6+x7))) 2))+1)))<|.v 5 (vI (qc ((qc (Int.fdiv (Z3 (qc (x6+x7))) 2))+1)))<|.nil) [1,5,6,27,28,26,29] λu13 a w' H=>?_
     exact ⟨k,Nat.lt_succ_self k,_,_,G,H.toM _⟩
    ·rw [if_neg (nt c15)] at G
     refine Qq qd H (.v 24 (vI (qc (Int.fdiv (Z3 (qc (x6+x7))) 2)))<|.v 6 (vI (qc (Int.fdiv (Z3 (qc (x6+x7))) 2)))<|.nil) [1,5,6,27,28,26,29] λu14 a w' H=>?_
     exact ⟨k,Nat.lt_succ_self k,_,_,G,H.toM _⟩
   ·rw [if_neg (nt c16)] at G
    refine Yx rfl ?_
    obtain rfl:=sj G
    exact H.toM _
theorem Z5.calls (k0:Nat)(a0:List qW)(a1:Int)(p_a0:Option Addr)(c_a0:Nat)(L_a0:List qR)(r:List qb×Bool)(w:World)(h_a0:a0=L_a0.map Yw)(hB:Xp [qy ql 6 p_a0 c_a0 L_a0 qC] w)(hF:Xp [Yk ql Qj.toPart L_a0] w)(G:Z5 k0 a0 a1=some r) :
  Calls Tryz.prog 15 #[.slice p_a0 L_a0.length c_a0,vI a1] w λe w'=>∃ g:Gh,e = .returned (.tuple #[.slice (g.o 0) r.1.length (g.n 0),.bool r.2])∧Zj (YR []) w w'∧Ye w.heap.size (YR []) (JS w.heap.size [Yk ql Qj.toPart L_a0]) [λfr=>YI fr 2 (g.o 0) r.1.length (g.n 0) (r.1.flatMap qa)] w':=by
 obtain ⟨fr,hfr,hBf⟩:=VT w [Yk ql Qj.toPart L_a0]
 refine QA (args:=[.slice p_a0 L_a0.length c_a0,vI a1]) 59 [(59,qy ql 6 p_a0 c_a0 L_a0 qC),(60,Yk fr Qj.toPart L_a0)] (by
  intro x hx
  simp only [List.mem_cons,List.not_mem_nil,or_false] at hx
  rcases hx with rfl | rfl
  ·exact qv (qj hB.1) (λ_ _=>trivial) (by decide) _
  ·exact ZV (XB hF.1) (λj h=>by rw [hfr]; exact .inr ⟨_,(.head _),h⟩) _) Tryz.func15 rfl λa H=>?_
 unfold Z5 at G
 refine qg qd H (.cons [2,61] (qn (λb=>vP b 0) (λu1=>[.slice p_a0 L_a0.length c_a0]) 31 2 61)<|.cons [3,62] (qn (λb=>vP b 0) (λu1=>[vI a1]) 2 3 62)<|.v 4 (.slice none 0 0)<|.v 5 (.bool false)<|.nil) [2,3,59,60,61,62] λu1 a w' H=>?_
 replace G:=qO G; obtain ⟨t3,ht3,G⟩:=G
 refine qg qd H (.cons [11] (qf (.slice p_a0 L_a0.length c_a0) 11 61 0 1 (nn u1 0) [.slice p_a0 L_a0.length c_a0] 31)<|.cons [12,63] (Qp true fr [] [59,60] (λu2=>[qy ql 6 p_a0 c_a0 L_a0 qC,Yk fr Qj.toPart L_a0]) [] (λu2=>[]) 28 _ _ _ _ _ [63] 12 (λu2 w hB hF hM=>Jb.calls a0 p_a0 c_a0 L_a0 t3 w h_a0 hB hF ht3) (λu2 w hF=>⟨⟨qP (qj hF.1) (λj h=>⟨_,(.head _),h⟩),trivial⟩,⟨Wq (XB hF.2.1) (λj h=>Zw (.tail _ (.head _)) (λh=>h) h (VA hF.2.1 _ h)),trivial⟩⟩) (λu2 g=>(qk (QP (by decide)) qx)) (.inl rfl) (λ_=>hBf))<|.cons [10] (qr (λu2=>.tuple #[.slice ((u2 1).o 0) t3.1.length (nn u2 1),vI t3.2.1,.bool t3.2.2]) 10)<|.cons [13] (qr (λu2=>.slice ((u2 1).o 0) t3.1.length (nn u2 1)) 13)<|.v 14 (vI t3.2.1)<|.v 15 (.bool t3.2.2)<|.cons [6] (qr (λu2=>.slice ((u2 1).o 0) t3.1.length (nn u2 1)) 6)<|.v 7 (vI t3.2.1)<|.v 8 (.bool t3.2.2)<|.nil) [2,3,6,7,8,59,60,61,62,63] λu2 a w' H=>?_
 refine qs ?_
 refine qs ?_
 replace G:=qO G; obtain ⟨z5,hz5,G⟩:=G
 replace hz5:=Option.some.inj hz5
 by_cases c27:z5=true
 ·rw [if_pos c27] at G; subst c27
  refine Qq qd H (.v 16 (.bool t3.2.2)<|.v 17 (.bool (!t3.2.2))<|.cons [18] (QF (u':=λu4=>[(18,sB true)]) (qr (λu4=>.bool (!t3.2.2)) 18) (λ_=>by rw [hz5]))<|.cons [19] (Y9 19)<|.cons [20] (Y9 20)<|.cons [21] (Y9 21)<|.cons [22] (Y9 22)<|.cons [23] (Y9 23)<|.cons [24] (Y9 24)<|.cons [25] (JK (λu4=>.bool true) 25)<|.v 26 (.bool true)<|.cons [27] (Y9 27)<|.cons [28] (Y9 28)<|.cons [29] (Y9 29)<|.cons [30] (JK (λu4=>.bool true) 30)<|.nil) [2,3,6,7,30,59,60,61,62,63] λu4 a w' H=>?_
  refine ZE H (by kernel_rfl) (by kernel_rfl) ?_
  refine qg qd H (.v 4 (.slice none 0 0)<|.v 5 (.bool false)<|.nil) [4,5] λu6 a w' H=>?_
  refine qB ?_
  obtain rfl:=sj G
  replace H:=H.nil_row 64 46 2
  replace H:=H.demote fr 64 46 2 none 0 0 (([]:List qb).flatMap qa) (by kernel_rfl) (by decide) hBf
  obtain ⟨g,o0,n0⟩:=ZS none 0
  refine Qz H _ g _ _ _ fr [64] [] (.tuple #[.slice none 0 0,.bool false]) [λfr=>YI fr 2 none 0 0 (([]:List qb).flatMap qa)] (by simp only [Ql,o0,n0,List.length_set,List.length_cons,List.length_nil,Nat.zero_add,Nat.reduceAdd]) (by simp only [Ql,o0,n0,List.length_set,List.length_cons,List.length_nil,Nat.zero_add,Nat.reduceAdd]) hfr (.inl ⟨rfl,rfl⟩) (qk (QP (by decide)) qx) (by simp)
 rw [if_neg c27] at G
 by_cases c28:z5=false
 ·rw [if_pos c28] at G; subst c28
  replace G:=gd G; obtain ⟨b6,G⟩:=G
  replace G:=qO G; obtain ⟨t7,ht7,G⟩:=G
  obtain ⟨p_t7_From,c_t7_From,p_t7_Pre,c_t7_Pre,p_t7_Tube,c_t7_Tube,p_t7_To,c_t7_To,y_t7⟩:=ZN h_a0 ht7
  have P8:=Xm (en:=qC) (l:=L_a0) (qj (H.at (K:=qy ql 6 p_a0 c_a0 L_a0 qC) 59 (by kernel_rfl))).2 QQ
  refine Qq qd H (.v 16 (.bool t3.2.2)<|.v 17 (.bool (!t3.2.2))<|.cons [18] (QF (u':=λu4=>[(18,sB false)]) (qr (λu4=>.bool (!t3.2.2)) 18) (λ_=>by rw [hz5]))<|.cons [19] (Vw (qf (vI a1) 19 62 0 1 (nn u1 1) [vI a1] 2) (by intro _; kernel_rfl))<|.cons [20] (Vw (qf (.slice p_a0 L_a0.length c_a0) 20 61 0 1 (nn u1 0) [.slice p_a0 L_a0.length c_a0] 31) (by intro _; kernel_rfl))<|.cons [21] (Vw (qr (λu4=>.pointer (some ⟨XR p_a0,XV p_a0+((0:Int).toNat)*6,none⟩)) 21 (hv:=λ_ _=>Qe (t:=31) (k:=.i64) (i:=(0:Int)) (p:=p_a0) (n:=L_a0.length) (cap:=c_a0) (x:=a0) P8 (QD h_a0) b6 (by kernel_rfl))) (by intro _; kernel_rfl))<|.cons [22] (Vw (qr (λu4=>.pointer (some ⟨XR p_a0,XV p_a0+((0:Int).toNat)*6+0,none⟩)) 22) (by intro _; kernel_rfl))<|.cons [23] (Vw (qL 59 (qy ql 6 p_a0 c_a0 L_a0 qC) (vI t7.T) 23 λ_ w h=>Y4 qC (qj h).2 QQ y_t7 0 1 [vI t7.T]) (by intro _; kernel_rfl))<|.cons [24] (Vw (qr (λu4=>.bool (decide (a1<t7.T))) 24) (by intro _; kernel_rfl))<|.cons [25] (JK (λu4=>.bool (decide (a1<t7.T))) 25)<|.v 26 (.bool (decide (a1<t7.T)))<|.cons [27] (YL (λu4=>vI a1) (λu4=>((decide (a1<t7.T))==false)) [true] 27 62 0 1 (λu4=>(nn u1 1)) (λu4=>[vI a1]) 2)<|.cons [28] (qE (λu4=>vI t3.2.1) (λu4=>((decide (a1<t7.T))==false)) [true] 28)<|.cons [29] (qE (λu4=>.bool (decide (a1>t3.2.1))) (λu4=>((decide (a1<t7.T))==false)) [false,false] 29)<|.cons [30] (Zx 26 29 (λu4=>true) (λu4=>true) (λu4=>decide (a1<t7.T)) (λu4=>decide (a1>t3.2.1)) 30)<|.nil) [2,3,6,7,30,59,60,61,62,63] λu4 a w' H=>?_
  refine Qu H ((decide (a1<t7.T))||(decide (a1>t3.2.1))) (λc26=>?_) λc26=>?_
  ·rw [if_pos c26] at G
   refine qg qd H (.v 4 (.slice none 0 0)<|.v 5 (.bool false)<|.nil) [4,5] λu9 a w' H=>?_
   refine qB ?_
   obtain rfl:=sj G
   replace H:=H.nil_row 64 46 2
   replace H:=H.demote fr 64 46 2 none 0 0 (([]:List qb).flatMap qa) (by kernel_rfl) (by decide) hBf
   obtain ⟨g,o0,n0⟩:=ZS none 0
   refine Qz H _ g _ _ _ fr [64] [] (.tuple #[.slice none 0 0,.bool false]) [λfr=>YI fr 2 none 0 0 (([]:List qb).flatMap qa)] (by simp only [Ql,o0,n0,List.length_set,List.length_cons,List.length_nil,Nat.zero_add,Nat.reduceAdd]) (by simp only [Ql,o0,n0,List.length_set,List.length_cons,List.length_nil,Nat.zero_add,Nat.reduceAdd]) hfr (.inl ⟨rfl,rfl⟩) (qk (QP (by decide)) qx) (by simp)
  ·rw [if_neg (nt c26)] at G
   refine q8 ?_
   replace G:=qO G; obtain ⟨t11,ht11,G⟩:=G
   refine qg qd H (.cons [31] (qf (.slice p_a0 L_a0.length c_a0) 31 61 0 1 (nn u1 0) [.slice p_a0 L_a0.length c_a0] 31)<|.cons [32] (qL 59 (qy ql 6 p_a0 c_a0 L_a0 qC) (vI (a0.length:Int)) 32 λ_ w h=>Y0 (((qj h).2.len QQ (by decide)).trans (QD h_a0).symm) (by kernel_rfl))<|.v 33 (.func (.func 40) #[] #[vP (nn u1 0) 0,vP (nn u1 1) 0])<|.cons [34] (Q6 [59,60,61,62] (λu10=>[qy ql 6 p_a0 c_a0 L_a0 qC,Yk fr Qj.toPart L_a0,.blk (nn u1 0) [.slice p_a0 L_a0.length c_a0] 31,.blk (nn u1 1) [vI a1] 2]) 39 _ _ 34 (λu10 w hF=>QJ.calls k0 (a0.length:Int) a0 a1 (nn u1 0) p_a0 c_a0 L_a0 (nn u1 1) t11 w h_a0 ⟨(JU (qj hF.1)),(dnA (XB hF.2.1)),(QH hF.2.2.1 0).2.1,(QH hF.2.2.2.1 0).2.1,trivial⟩ ht11))<|.v 35 (vI (qc (t11-1)))<|.v 9 (vI (qc (t11-1)))<|.nil) [2,3,6,7,9,59,60,61,62,63] λu10 a w' H=>?_
   refine qs ?_
   refine qV ?_
   refine qs ?_
   replace G:=gd G; obtain ⟨b13,G⟩:=G
   replace G:=qO G; obtain ⟨t14,ht14,G⟩:=G
   obtain ⟨p_t14_From,c_t14_From,p_t14_Pre,c_t14_Pre,p_t14_Tube,c_t14_Tube,p_t14_To,c_t14_To,y_t14⟩:=ZN h_a0 ht14
   have P15:=Xm (en:=qC) (l:=L_a0) (qj (H.at (K:=qy ql 6 p_a0 c_a0 L_a0 qC) 59 (by kernel_rfl))).2 QQ
   refine Qq qd H (.cons [37] (qf (.slice p_a0 L_a0.length c_a0) 37 61 0 1 (nn u1 0) [.slice p_a0 L_a0.length c_a0] 31)<|.v 38 (vI (qc (t11-1)))<|.cons [39] (qr (λu12=>.pointer (some ⟨XR p_a0,XV p_a0+((qc (t11-1)).toNat)*6,none⟩)) 39 (hv:=λ_ _=>Qe (t:=31) (k:=.i64) (i:=qc (t11-1)) (p:=p_a0) (n:=L_a0.length) (cap:=c_a0) (x:=a0) P15 (QD h_a0) b13 (by kernel_rfl)))<|.v 40 (.pointer (some ⟨XR p_a0,XV p_a0+((qc (t11-1)).toNat)*6+0,none⟩))<|.cons [41] (qL 59 (qy ql 6 p_a0 c_a0 L_a0 qC) (vI t14.T) 41 λ_ w h=>Y4 qC (qj h).2 QQ y_t14 0 1 [vI t14.T])<|.cons [42] (qf (vI a1) 42 62 0 1 (nn u1 1) [vI a1] 2)<|.v 43 (.bool (t14.T==a1))<|.v 36 (.bool (t14.T==a1))<|.nil) [2,3,6,7,9,36,59,60,61,62,63] λu12 a w' H=>?_
   refine Qu H (t14.T==a1) (λc25=>?_) λc25=>?_
   ·rw [if_pos c25] at G
    refine qs ?_
    replace G:=gd G; obtain ⟨b17,G⟩:=G
    replace G:=qO G; obtain ⟨t18,ht18,G⟩:=G
    obtain ⟨p_t18_From,c_t18_From,p_t18_Pre,c_t18_Pre,p_t18_Tube,c_t18_Tube,p_t18_To,c_t18_To,y_t18⟩:=ZN h_a0 ht18
    refine Qq qd H (.cons [44] (qf (.slice p_a0 L_a0.length c_a0) 44 61 0 1 (nn u1 0) [.slice p_a0 L_a0.length c_a0] 31)<|.v 45 (vI (qc (t11-1)))<|.cons [46] (qL 59 (qy ql 6 p_a0 c_a0 L_a0 qC) (.pointer (some ⟨XR p_a0,XV p_a0+((qc (t11-1)).toNat)*6,none⟩)) 46 λ_ w h=>JT 31 .i64 (qc (t11-1)) p_a0 L_a0.length c_a0 a0 qC (qj h).2 QQ (QD h_a0) b17)<|.v 47 (.pointer (some ⟨XR p_a0,XV p_a0+((qc (t11-1)).toNat)*6+2,none⟩))<|.cons [48] (qL 59 (qy ql 6 p_a0 c_a0 L_a0 qC) (.slice p_t18_From t18.From.length c_t18_From) 48 λ_ w h=>Y4 qC (qj h).2 QQ y_t18 2 1 [.slice p_t18_From t18.From.length c_t18_From])<|.v 4 (.slice p_t18_From t18.From.length c_t18_From)<|.v 5 (.bool true)<|.nil) [4,5,60] λu16 a w' H=>?_
    refine qB ?_
    obtain rfl:=sj G
    replace H:=H.addF 65 (qy fr 2 p_t18_From c_t18_From t18.From qa) [60] [Yk fr Qj.toPart L_a0] (by kernel_rfl) (λh=>h) (by intro _ _ h; cases h) (λhF=>(qv (show X3 _ 2 p_t18_From t18.From.length c_t18_From (t18.From.flatMap qa) from ((XB hF.1) _ (List.mem_of_getElem? y_t18)).1.1) (λj h=>(VA hF.1 _ ⟨_,(List.mem_of_getElem? y_t18),(.inl (.inl h))⟩)) (by decide) 0).2.1) (λhF j h=>⟨_,.head _,(λh=>h),⟨_,(List.mem_of_getElem? y_t18),(.inl (.inl h))⟩⟩)
    obtain ⟨g,o0,n0⟩:=ZS p_t18_From c_t18_From
    refine Qz H _ g _ _ _ fr [65] [] (.tuple #[.slice p_t18_From t18.From.length c_t18_From,.bool true]) [λfr=>qy fr 2 p_t18_From c_t18_From t18.From qa] (by simp only [Ql,o0,n0]) (by simp only [Ql,o0,n0]) hfr (.inl ⟨rfl,rfl⟩) (qk (QP (by decide)) qx) (by simp)
   ·rw [if_neg (nt c25)] at G
    refine qg qd H (.cons [50] (qf (vI a1) 50 62 0 1 (nn u1 1) [vI a1] 2)<|.v 51 (vI t3.2.1)<|.v 52 (.bool (a1==t3.2.1))<|.v 49 (.bool (a1==t3.2.1))<|.nil) [2,6,9,49,59,60,61,63] λu19 a w' H=>?_
    refine Qu H (a1==t3.2.1) (λc24=>?_) λc24=>?_
    ·rw [if_pos c24] at G
     refine qg qd H (.v 53 (.slice ((u2 1).o 0) t3.1.length (nn u2 1))<|.v 4 (.slice ((u2 1).o 0) t3.1.length (nn u2 1))<|.v 5 (.bool true)<|.nil) [4,5,63] λu20 a w' H=>?_
     refine qB ?_
     obtain rfl:=sj G
     obtain ⟨g,o0,n0⟩:=ZS ((u2 1).o 0) (nn u2 1)
     refine Qz H _ g _ _ _ fr [63] [] (.tuple #[.slice ((u2 1).o 0) t3.1.length (nn u2 1),.bool true]) [λfr=>YI fr 2 ((u2 1).o 0) t3.1.length (nn u2 1) (t3.1.flatMap qa)] (by simp only [Ql,o0,n0]) (by simp only [Ql,o0,n0]) hfr (.inl ⟨rfl,rfl⟩) (qk (QP (by decide)) qx) (by simp)
    ·rw [if_neg (nt c24)] at G
     refine q8 ?_
     refine qs ?_
     replace G:=gd G; obtain ⟨b22,G⟩:=G
     replace G:=qO G; obtain ⟨t23,ht23,G⟩:=G
     obtain ⟨p_t23_From,c_t23_From,p_t23_Pre,c_t23_Pre,p_t23_Tube,c_t23_Tube,p_t23_To,c_t23_To,y_t23⟩:=ZN h_a0 ht23
     refine Qq qd H (.cons [54] (qf (.slice p_a0 L_a0.length c_a0) 54 61 0 1 (nn u1 0) [.slice p_a0 L_a0.length c_a0] 31)<|.v 55 (vI (qc (t11-1)))<|.cons [56] (qL 59 (qy ql 6 p_a0 c_a0 L_a0 qC) (.pointer (some ⟨XR p_a0,XV p_a0+((qc (t11-1)).toNat)*6,none⟩)) 56 λ_ w h=>JT 31 .i64 (qc (t11-1)) p_a0 L_a0.length c_a0 a0 qC (qj h).2 QQ (QD h_a0) b22)<|.v 57 (.pointer (some ⟨XR p_a0,XV p_a0+((qc (t11-1)).toNat)*6+4,none⟩))<|.cons [58] (qL 59 (qy ql 6 p_a0 c_a0 L_a0 qC) (.slice p_t23_Tube t23.Tube.length c_t23_Tube) 58 λ_ w h=>Y4 qC (qj h).2 QQ y_t23 4 1 [.slice p_t23_Tube t23.Tube.length c_t23_Tube])<|.v 4 (.slice p_t23_Tube t23.Tube.length c_t23_Tube)<|.v 5 (.bool true)<|.nil) [4,5,60] λu21 a w' H=>?_
     refine qB ?_
     obtain rfl:=sj G
     replace H:=H.addF 66 (qy fr 2 p_t23_Tube c_t23_Tube t23.Tube qa) [60] [Yk fr Qj.toPart L_a0] (by kernel_rfl) (λh=>h) (by intro _ _ h; cases h) (λhF=>(qv (show X3 _ 2 p_t23_Tube t23.Tube.length c_t23_Tube (t23.Tube.flatMap qa) from ((XB hF.1) _ (List.mem_of_getElem? y_t23)).2.2.1.1) (λj h=>(VA hF.1 _ ⟨_,(List.mem_of_getElem? y_t23),(.inr (.inr (.inl (.inl h))))⟩)) (by decide) 0).2.1) (λhF j h=>⟨_,.head _,(λh=>h),⟨_,(List.mem_of_getElem? y_t23),(.inr (.inr (.inl (.inl h))))⟩⟩)
     obtain ⟨g,o0,n0⟩:=ZS p_t23_Tube c_t23_Tube
     refine Qz H _ g _ _ _ fr [66] [] (.tuple #[.slice p_t23_Tube t23.Tube.length c_t23_Tube,.bool true]) [λfr=>qy fr 2 p_t23_Tube c_t23_Tube t23.Tube qa] (by simp only [Ql,o0,n0]) (by simp only [Ql,o0,n0]) hfr (.inl ⟨rfl,rfl⟩) (qk (QP (by decide)) qx) (by simp)
 rw [if_neg c28] at G
 cases G
theorem Q3.calls (a0:Int)(r:qb)(w:World)(G:Q3 a0=some r) :
  Calls Tryz.prog 27 #[vI a0] w λe w'=>e = .returned (.agg #[vI r.Lo,vI r.Hi])∧Below w.heap.size w w':=by
 refine Qs (args:=[vI a0]) 8 Tryz.func27 rfl λa H=>?_
 unfold Q3 at G
 refine qg qd H (.cons [2,8] (qn (λb=>vP b 0) (λu1=>[vI 0,vI 0]) 46 2 8)<|.nil) [0,2,8] λu1 a w' H=>?_
 refine qg qd H (.v 3 (vI a0)<|.v 4 (vI (qc (a0*65536)))<|.v 5 (vI a0)<|.v 6 (vI (qc (a0*65536)))<|.v 7 (.agg #[vI (qc (a0*65536)),vI (qc (a0*65536))])<|.cons [8] (qQ 8 0 (nn u1 0) [vI 0,vI 0] [vI (qc (a0*65536)),vI (qc (a0*65536))] 46 [vI (qc (a0*65536)),vI (qc (a0*65536))])<|.nil) [2,8] λu2 a w' H=>?_
 refine qB ?_
 obtain rfl:=sj G
 exact qY H _ 8 (nn u1 0) [vI (qc (a0*65536)),vI (qc (a0*65536))] 46 0 2
end Go.Proofs.YtpmgpcklieincaaGreatDoor
