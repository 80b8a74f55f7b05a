/- Functions that the law TopFlowFromPoint alone reaches. Printed by a program of this session. -/
import Derived.Test.YtpmgpcklieincaaGreatDoorFn4
set_option linter.unusedVariables false
set_option linter.unusedSimpArgs false
set_option maxRecDepth 100000
set_option maxHeartbeats 4000000
namespace Go.Proofs.YtpmgpcklieincaaGreatDoor
open Go Go.RowKit Go.Sx Go.Proofs
theorem QC.calls (k0:Nat)(a0:List Int)(p_a0:Option Addr)(c_a0:Nat)(r:List qb)(w:World)(hB:Xh [qy qk 1 p_a0 c_a0 a0 qL] w)(G:QC k0 a0=some r) :
  Calls Tryz.prog 45 #[.slice p_a0 a0.length c_a0,.func (.func 46) #[] #[]] w λe w'=>∃ g:Gh,e = .returned (.slice (g.o 0) r.length (g.n 0))∧Zj (YN []) w w'∧X5 w.heap.size (YN []) (JN w.heap.size []) [λ_=>Qf 46 2 (g.o 0) (g.n 0) r qa] w':=by
 obtain ⟨fr,hfr,hBf⟩:=VG w []
 refine Qx (args:=[.slice p_a0 a0.length c_a0,.func (.func 46) #[] #[]]) 26 [(26,qy qk 1 p_a0 c_a0 a0 qL)] (by
  intro x hx
  simp only [List.mem_cons,List.not_mem_nil,or_false] at hx
  rcases hx with rfl
  exact qv (qj hB.1) (λ_ _=>trivial) (by decide) _) Tryz.func45 rfl λa H=>?_
 unfold QC at G
 refine qg qd H (.v 4 (.slice none 0 0)<|.nil) [0,1,26] λu1 a w' H=>?_
 refine qs ?_
 replace G:=gd G; obtain ⟨b3,G⟩:=G
 refine Qj qd H (.v 8 (.slice p_a0 a0.length c_a0)<|.v 9 (vI (a0.length:Int))<|.cons [10,27] (ZZ [] (λu2=>[]) 46 2 (List.replicate (a0.length:Int).toNat (⟨0,0⟩:qb)).length ((List.replicate (a0.length:Int).toNat (⟨0,0⟩:qb)).flatMap qa) 10 27 (λ_=>.none) (λu2 w hF=>Yh (t:=48) (k:=.i64) (m:=(a0.length:Int)) (en:=qa) (z:=(⟨0,0⟩:qb)) qe J1 rfl b3 (by kernel_rfl)) (λ_=>.inl rfl))<|.cons [5] (qq (λu2=>.slice ((u2 2).o 0) ((List.replicate (a0.length:Int).toNat (⟨0,0⟩:qb)).length) (nn u2 2)) 5)<|.nil) [0,1,5,26,27] λu2 a w' H=>?_
 refine qs ?_
 obtain ⟨j5,hj5,G⟩:=qN G
 refine Xq (λa w'=>∃ (p_j4:Option Addr) (c_j4 np_j4:Nat),np_j4=j5.length∧RL w 26 [(5,sS p_j4 np_j4 c_j4),(900082,XP 46 2 p_j4 np_j4 c_j4 (j5.flatMap qa))] a w') ?_ ?_
 ·clear H; rintro a w' ⟨p_j4,c_j4,_,rfl,H⟩
  refine qg qd H (.v 25 (.slice p_j4 j5.length c_j4)<|.v 4 (.slice p_j4 j5.length c_j4)<|.nil) [4,900082] λu6 a w' H=>?_
  refine qB ?_
  obtain rfl:=sj G
  obtain ⟨g,o0,n0⟩:=ZH p_j4 c_j4
  refine QA H _ g _ _ _ fr [900082] [] (.slice p_j4 j5.length c_j4) [λ_=>Qf 46 2 p_j4 c_j4 j5 qa] (by simp only [Qf,o0,n0]) (by simp only [Qf,o0,n0]) hfr (.inl ⟨rfl,rfl⟩) (ql q7 qw) (by simp)
 ·clear G; replace G:=hj5; clear hj5
  refine qg qd H (.v 11 (.slice p_a0 a0.length c_a0)<|.v 12 (vI (a0.length:Int))<|.v 13 (vI 0)<|.nil) [1,5,11,12,13,26,27] λu7 a w' H=>?_
  refine qV ?_
  replace H:=H.move (K:=Qf 46 2 ((u2 2).o 0) (nn u2 2) (List.replicate (a0.length:Int).toNat (⟨0,0⟩:qb)) qa) 27 900083 (by kernel_rfl) (by intro _ _ h; cases h)
  refine XT (λm a w'=>∃ x8:List qb,∃ x9:Int,QC.l10 k0 a0 m x8 x9=some j5 ∧ ∃ (p_x8:Option Addr) (c_x8 np_x8:Nat),np_x8=x8.length∧RL w 26 [(1,.slot true (.func (.func 46) #[] #[])),(5,sS p_x8 np_x8 c_x8),(11,sS p_a0 a0.length c_a0),(12,(sI (a0.length:Int))),(13,sI x9),(26,qy qk 1 p_a0 c_a0 a0 qL),(900083,XP 46 2 p_x8 np_x8 c_x8 (x8.flatMap qa))] a w') k0 ⟨_,_,G,((u2 2).o 0),(nn u2 2),(List.replicate (a0.length:Int).toNat (⟨0,0⟩:qb)).length,rfl,H.toM _⟩ ?_
  clear G H
  rintro (_ | k) a w' ⟨x8,x9,G,p_x8,c_x8,_,rfl,H⟩
  ·exact absurd G (by unfold QC.l10; exact λh=>by cases h)
  ·unfold QC.l10 at G
   refine qg qd H (.v 14 (.bool (decide (x9<(a0.length:Int))))<|.nil) [1,5,11,12,13,14,26,900083] λu11 a w' H=>?_
   refine qs ?_
   refine Qt H (decide (x9<(a0.length:Int))) (λc20=>?_) λc20=>?_
   ·rw [if_pos c20] at G
    refine qZ ?_
    refine qs ?_
    refine qV ?_
    refine qs ?_
    replace G:=gd G; obtain ⟨b13,G⟩:=G
    obtain ⟨t14,ht14,G⟩:=qN G
    refine Qj qd H (.v 15 (vI x9)<|.cons [16] (qI 26 (qy qk 1 p_a0 c_a0 a0 qL) (.pointer (some ⟨XM p_a0,XN p_a0+x9.toNat*1,none⟩)) 16 λ_ w h=>JI 70 .i64 x9 p_a0 a0.length c_a0 a0 qL (qj h).2 Zs rfl b13)<|.cons [17] (qI 26 (qy qk 1 p_a0 c_a0 a0 qL) (vI t14) 17 λ_ w h=>YV qL (qj h).2 Zs ht14 0 1 [vI t14])<|.v 6 (vI x9)<|.v 7 (vI t14)<|.nil) [1,5,6,7,11,12,13,26,900083] λu12 a w' H=>?_
    obtain ⟨t16,ht16,G⟩:=qN G
    replace G:=gd G; obtain ⟨b17,G⟩:=G
    obtain ⟨t18,ht18,G⟩:=qN G
    refine Qj qd H (.v 18 (.slice p_x8 x8.length c_x8)<|.v 19 (vI x9)<|.v 20 (.func (.func 46) #[] #[])<|.v 21 (vI t14)<|.cons [22] (qm 46 _ _ 22 [] (λu15 w _=>X1.calls t14 t16 w ht16))<|.cons [23] (qI 900083 (Qf 46 2 p_x8 c_x8 x8 qa) (.pointer (some ⟨XM p_x8,XN p_x8+x9.toNat*2,none⟩)) 23 λ_ w h=>JI 48 .i64 x9 p_x8 x8.length c_x8 x8 qa (qH (Qv h)).2 qe rfl b17)<|.cons [900083,900083] (Xl [] [] (λu15=>[]) 900083 (λu15=>Qf 46 2 p_x8 c_x8 x8 qa) none (λu15 g=>.nilFunc) (λu15 g=>XP 46 2 p_x8 x8.length c_x8 ((x8.set x9.toNat t16).flatMap qa)) (λu15 w hF hK=>Zy (XF (Qv hK) qe (y:=t16) (vs:=[vI t16.Lo,vI t16.Hi]) ht18 0 (by simp) (by simp) rfl (by kernel_rfl))))<|.nil) [1,5,11,12,13,26,900083] λu15 a w' H=>?_
    refine Qj qd H (.v 24 (vI (qc (x9+1)))<|.v 13 (vI (qc (x9+1)))<|.nil) [1,5,11,12,13,26,900083] λu19 a w' H=>?_
    exact ⟨k,Nat.lt_succ_self k,_,_,G,p_x8,c_x8,x8.length,by simp,H.toM _⟩
   ·rw [if_neg (nt c20)] at G
    refine Yr rfl ?_
    obtain rfl:=sj G
    replace H:=H.move (K:=Qf 46 2 p_x8 c_x8 x8 qa) 900083 900082 (by kernel_rfl) (by intro _ _ h; cases h)
    exact ⟨p_x8,c_x8,x8.length,rfl,H.toM _⟩
theorem Jy.calls (k0:Nat)(a0:List Int)(p_a0:Option Addr)(c_a0:Nat)(r:List qb)(w:World)(hB:Xh [qy qk 1 p_a0 c_a0 a0 qL] w)(G:Jy k0 a0=some r) :
  Calls Tryz.prog 19 #[.slice p_a0 a0.length c_a0] w λe w'=>∃ g:Gh,e = .returned (.slice (g.o 0) r.length (g.n 0))∧Zj (YN []) w w'∧X5 w.heap.size (YN []) (JN w.heap.size []) [λ_=>Qf 46 2 (g.o 0) (g.n 0) r qa] w':=by
 obtain ⟨fr,hfr,hBf⟩:=VG w []
 refine Qx (args:=[.slice p_a0 a0.length c_a0]) 5 [(5,qy qk 1 p_a0 c_a0 a0 qL)] (by
  intro x hx
  simp only [List.mem_cons,List.not_mem_nil,or_false] at hx
  rcases hx with rfl
  exact qv (qj hB.1) (λ_ _=>trivial) (by decide) _) Tryz.func19 rfl λa H=>?_
 unfold Jy at G
 refine qg qd H (.v 2 (.slice none 0 0)<|.nil) [0,5] λu1 a w' H=>?_
 obtain ⟨t3,ht3,G⟩:=qN G
 refine qg qd H (.v 3 (.slice p_a0 a0.length c_a0)<|.cons [4,6] (Qk false fr [] [5] (λu2=>[qy qk 1 p_a0 c_a0 a0 qL]) [] (λu2=>[]) 45 _ _ _ _ _ [6] 4 (λu2 w hB hF hM=>QC.calls k0 a0 p_a0 c_a0 t3 w hB ht3) (λu2 w hF=>⟨⟨qQ (qj hF.1) (λj h=>⟨_,(.head _),h⟩),trivial⟩,trivial⟩) (λu2 g=>(ql q7 qw)) (.inr (λu2 g=>(Qb trivial (λK h=>by cases h)))) (λh=>by cases h))<|.cons [2] (qq (λu2=>.slice ((u2 1).o 0) t3.length (nn u2 1)) 2)<|.nil) [2,6] λu2 a w' H=>?_
 refine qB ?_
 obtain rfl:=sj G
 obtain ⟨g,o0,n0⟩:=ZH ((u2 1).o 0) (nn u2 1)
 refine QA H _ g _ _ _ fr [6] [] (.slice ((u2 1).o 0) t3.length (nn u2 1)) [λ_=>Qf 46 2 ((u2 1).o 0) (nn u2 1) t3 qa] (by simp only [Qf,o0,n0]) (by simp only [Qf,o0,n0]) hfr (.inl ⟨rfl,rfl⟩) (ql q7 qw) (by simp)
theorem XG.calls (a0:qb)(r:Bool)(w:World)(G:XG a0=some r) :
  Calls Tryz.prog 47 #[.agg #[vI a0.Lo,vI a0.Hi]] w λe w'=>e = .returned (.bool r)∧Below w.heap.size w w':=by
 refine Qu (args:=[.agg #[vI a0.Lo,vI a0.Hi]]) 11 Tryz.func47 rfl λa H=>?_
 unfold XG at G
 refine qg qd H (.cons [1,11] (qn (λb=>vP b 0) (λu1=>[vI a0.Lo,vI a0.Hi]) 46 1 11)<|.v 2 (.bool false)<|.nil) [1,11] λu1 a w' H=>?_
 refine qg qd H (.v 3 (vP (nn u1 0) 0)<|.cons [4] (qf (vI a0.Lo) 4 11 0 1 (nn u1 0) [vI a0.Lo,vI a0.Hi] 46)<|.v 5 (.bool (a0.Lo==(-2147483648)))<|.v 6 (.bool (a0.Lo==(-2147483648)))<|.cons [7] (qE (λu2=>vP (nn u1 0) 1) (λu2=>((a0.Lo==(-2147483648))==true)) [true] 7)<|.cons [8] (YJ (λu2=>vI a0.Hi) (λu2=>((a0.Lo==(-2147483648))==true)) [false] 8 11 1 1 (λu2=>(nn u1 0)) (λu2=>[vI a0.Lo,vI a0.Hi]) 46)<|.cons [9] (qE (λu2=>.bool (a0.Hi==2147483648)) (λu2=>((a0.Lo==(-2147483648))==true)) [false,true] 9)<|.cons [10] (YC 6 9 (λu2=>true) (λu2=>true) (λu2=>(a0.Lo==(-2147483648))) (λu2=>(a0.Hi==2147483648)) 10)<|.v 2 (.bool ((a0.Lo==(-2147483648))&&(a0.Hi==2147483648)))<|.nil) [2] λu2 a w' H=>?_
 refine qB ?_
 obtain rfl:=sj G
 exact Qs H _
theorem q9.calls (k0:Nat)(a0:List qb)(a1:List Int)(p_a0:Option Addr)(c_a0:Nat)(p_a1:Option Addr)(c_a1:Nat)(r:List Int)(w:World)(hB:Xh [qy qk 2 p_a0 c_a0 a0 qa,qy qk 1 p_a1 c_a1 a1 Z3] w)(G:q9 k0 a0 a1=some r) :
  Calls Tryz.prog 20 #[.slice p_a0 a0.length c_a0,.slice p_a1 a1.length c_a1] w λe w'=>∃ g:Gh,e = .returned (.slice (g.o 0) r.length (g.n 0))∧Zj (YN []) w w'∧X5 w.heap.size (YN []) (JN w.heap.size []) [λ_=>Qf 2 1 (g.o 0) (g.n 0) r qL] w':=by
 obtain ⟨fr,hfr,hBf⟩:=VG w []
 refine Qx (args:=[.slice p_a0 a0.length c_a0,.slice p_a1 a1.length c_a1]) 57 [(57,qy qk 2 p_a0 c_a0 a0 qa),(58,qy qk 1 p_a1 c_a1 a1 Z3)] (by
  intro x hx
  simp only [List.mem_cons,List.not_mem_nil,or_false] at hx
  rcases hx with rfl | rfl
  ·exact qv (qj hB.1) (λ_ _=>trivial) (by decide) _
  ·exact qv (qj hB.2.1) (λ_ _=>trivial) (by decide) _) Tryz.func20 rfl λa H=>?_
 unfold q9 at G
 refine qg qd H (.v 4 (.slice none 0 0)<|.nil) [0,1,57,58] λu1 a w' H=>?_
 refine qg qd H (.cons [8,59] (qn (λb=>.slice (some ⟨b,0,none⟩) 0 0) (λu2=>[]) 2 8 59)<|.cons [5] (qq (λu2=>.slice (some ⟨(nn u2 0),0,none⟩) 0 0) 5)<|.nil) [0,1,5,57,58,59] λu2 a w' H=>?_
 refine qs ?_
 obtain ⟨j4,hj4,G⟩:=qN G
 refine Xq (λa w'=>∃ (p_j3:Option Addr) (c_j3 np_j3:Nat),np_j3=j4.length∧RL w 57 [(5,sS p_j3 np_j3 c_j3),(900084,XP 2 1 p_j3 np_j3 c_j3 (j4.flatMap qL))] a w') ?_ ?_
 ·clear H; rintro a w' ⟨p_j3,c_j3,_,rfl,H⟩
  refine qg qd H (.v 56 (.slice p_j3 j4.length c_j3)<|.v 4 (.slice p_j3 j4.length c_j3)<|.nil) [4,900084] λu5 a w' H=>?_
  refine qB ?_
  obtain rfl:=sj G
  obtain ⟨g,o0,n0⟩:=ZH p_j3 c_j3
  refine QA H _ g _ _ _ fr [900084] [] (.slice p_j3 j4.length c_j3) [λ_=>Qf 2 1 p_j3 c_j3 j4 qL] (by simp only [Qf,o0,n0]) (by simp only [Qf,o0,n0]) hfr (.inl ⟨rfl,rfl⟩) (ql q7 qw) (by simp)
 ·clear G; replace G:=hj4; clear hj4
  refine qg qd H (.v 6 (vI 0)<|.nil) [0,1,5,6,57,58,59] λu6 a w' H=>?_
  refine qV ?_
  replace H:=H.blk_row 59 (nn u2 0) [] 2 1 0 (by kernel_rfl) (by kernel_rfl) (by decide)
  replace H:=H.move (K:=XP 2 1 (some ⟨(nn u2 0),0,none⟩) 0 0 (([]:List Int).flatMap qL)) 59 900085 (by kernel_rfl) (by intro _ _ h; cases h)
  refine XT (λm a w'=>∃ x7:List Int,∃ x8:Int,q9.l9 k0 a0 a1 m x7 x8=some j4 ∧ ∃ (p_x7:Option Addr) (c_x7 np_x7:Nat),np_x7=x7.length∧RL w 57 [(0,sS p_a0 a0.length c_a0),(1,sS p_a1 a1.length c_a1),(5,sS p_x7 np_x7 c_x7),(6,sI x8),(57,qy qk 2 p_a0 c_a0 a0 qa),(58,qy qk 1 p_a1 c_a1 a1 Z3),(900085,XP 2 1 p_x7 np_x7 c_x7 (x7.flatMap qL))] a w') k0 ⟨_,_,G,(some ⟨(nn u2 0),0,none⟩),0,0,rfl,H.toM _⟩ ?_
  clear G H
  rintro (_ | k) a w' ⟨x7,x8,G,p_x7,c_x7,_,rfl,H⟩
  ·exact absurd G (by unfold q9.l9; exact λh=>by cases h)
  ·unfold q9.l9 at G
   refine qs ?_
   refine qg qd H (.v 9 (vI x8)<|.v 10 (.slice p_a0 a0.length c_a0)<|.v 11 (vI (a0.length:Int))<|.v 12 (.bool (decide (x8<(a0.length:Int))))<|.nil) [0,1,5,6,12,57,58,900085] λu10 a w' H=>?_
   refine Qt H (decide (x8<(a0.length:Int))) (λc38=>?_) λc38=>?_
   ·rw [if_pos c38] at G
    refine qZ ?_
    refine qs ?_
    obtain ⟨j12,hj12,G⟩:=qN G
    refine Xq (λa w'=>∃ (p_j11:Option Addr) (c_j11 np_j11:Nat),np_j11=j12.length∧RL w 57 [(0,sS p_a0 a0.length c_a0),(1,sS p_a1 a1.length c_a1),(5,sS p_j11 np_j11 c_j11),(6,sI x8),(57,qy qk 2 p_a0 c_a0 a0 qa),(58,qy qk 1 p_a1 c_a1 a1 Z3),(900086,XP 2 1 p_j11 np_j11 c_j11 (j12.flatMap qL))] a w') ?_ ?_
    ·clear H; rintro a w' ⟨p_j11,c_j11,_,rfl,H⟩
     refine Qj qd H (.v 13 (vI x8)<|.v 14 (vI (qc (x8+1)))<|.v 6 (vI (qc (x8+1)))<|.nil) [0,1,5,6,57,58,900086] λu13 a w' H=>?_
     replace H:=H.move (K:=Qf 2 1 p_j11 c_j11 j12 qL) 900086 900085 (by kernel_rfl) (by intro _ _ h; cases h)
     exact ⟨k,Nat.lt_succ_self k,_,_,G,p_j11,c_j11,j12.length,rfl,H.toM _⟩
    ·clear G; replace G:=hj12; clear hj12
     refine qV ?_
     refine qg qd H (.v 7 (vI 0)<|.nil) [0,1,5,6,7,57,58,900085] λu14 a w' H=>?_
     refine qs ?_
     obtain ⟨j16,hj16,G⟩:=qN G
     refine Xq (λa w'=>RL w 57 [(0,sS p_a0 a0.length c_a0),(1,sS p_a1 a1.length c_a1),(5,sS p_x7 x7.length c_x7),(6,sI x8),(7,sI j16),(57,qy qk 2 p_a0 c_a0 a0 qa),(58,qy qk 1 p_a1 c_a1 a1 Z3),(900085,Qf 2 1 p_x7 c_x7 x7 qL)] a w') ?_ ?_
     ·clear H; intro a w' H
      refine qs ?_
      replace G:=gd G; obtain ⟨b18,G⟩:=G
      obtain ⟨t19,ht19,G⟩:=qN G
      obtain ⟨t20,ht20,G⟩:=qN G
      refine Qj qd H (.v 24 (.slice p_a0 a0.length c_a0)<|.v 25 (vI x8)<|.cons [26] (qI 57 (qy qk 2 p_a0 c_a0 a0 qa) (.pointer (some ⟨XM p_a0,XN p_a0+x8.toNat*2,none⟩)) 26 λ_ w h=>JI 48 .i64 x8 p_a0 a0.length c_a0 a0 qa (qj h).2 qe rfl b18)<|.cons [27] (qI 57 (qy qk 2 p_a0 c_a0 a0 qa) (.agg #[vI t19.Lo,vI t19.Hi]) 27 λ_ w h=>YV qa (qj h).2 qe ht19 0 2 [vI t19.Lo,vI t19.Hi])<|.cons [28] (qm 47 _ _ 28 [] (λu17 w _=>XG.calls t19 t20 w ht20))<|.nil) [0,1,5,6,7,28,57,58,900085] λu17 a w' H=>?_
      refine Qt H t20 (λc32=>?_) λc32=>?_
      ·rw [if_pos c32] at G
       replace G:=gd G; obtain ⟨b22,G⟩:=G
       refine Qj qd H (.v 29 (.slice p_x7 x7.length c_x7)<|.v 30 (vI j16)<|.cons [31,61] (qn (λb=>.slice (some ⟨b,0,none⟩) 1 1) (λu21=>[vI j16]) 2 31 61)<|.cons [32,900085,900085] (Xl [2] [61] (λu21=>[.blk (nn u21 2) [vI j16] 2]) 900085 (λu21=>Qf 2 1 p_x7 c_x7 x7 qL) (some 32) (λu21 g=>.slice (g.o 0) (x7++[j16]).length (g.n 0)) (λu21 g=>Qf 2 1 (g.o 0) (g.n 0) (x7++[j16]) qL) (λu21 w hF hK=>JF (XV (t:=70) (ty:=70) (en:=qL) Zs qh9 (Qv hK) hF.1 (news:=[j16]) rfl (by simp) (by kernel_rfl) b22)) (hloc:=λu u' h=>by refine ⟨?_,?_,?_,?_⟩ <;> first | rfl | simp only [nn, h 2 (by decide)]))<|.cons [5] (qq (λu21=>.slice ((u21 3).o 0) ((x7++[j16]).length) (nn u21 3)) 5)<|.nil) [0,1,5,6,57,58,900085] λu21 a w' H=>?_
       obtain rfl:=sj G
       replace H:=H.move (K:=Qf 2 1 ((u21 3).o 0) (nn u21 3) (x7++[j16]) qL) 900085 900086 (by kernel_rfl) (by intro _ _ h; cases h)
       exact ⟨((u21 3).o 0),(nn u21 3),(x7++[j16]).length,rfl,H.toM _⟩
      ·rw [if_neg (nt c32)] at G
       replace G:=gd G; obtain ⟨b24,G⟩:=G
       obtain ⟨t25,ht25,G⟩:=qN G
       have P26:=Xj (en:=qa) (l:=a0) (qj (H.at (K:=qy qk 2 p_a0 c_a0 a0 qa) 57 (by kernel_rfl))).2 qe
       replace G:=gd G; obtain ⟨b27,G⟩:=G
       obtain ⟨t28,ht28,G⟩:=qN G
       replace G:=gd G; obtain ⟨b29,G⟩:=G
       obtain ⟨t30,ht30,G⟩:=qN G
       replace G:=gd G; obtain ⟨b31,G⟩:=G
       refine Qj qd H (.v 33 (.slice p_x7 x7.length c_x7)<|.v 34 (.slice p_a0 a0.length c_a0)<|.v 35 (vI x8)<|.cons [36] (qq (λu23=>.pointer (some ⟨XM p_a0,XN p_a0+x8.toNat*2,none⟩)) 36 (hv:=λ_ _=>Qc (t:=48) (k:=.i64) (i:=x8) (p:=p_a0) (n:=a0.length) (cap:=c_a0) (x:=a0) P26 rfl b24 (by kernel_rfl)))<|.v 37 (.pointer (some ⟨XM p_a0,XN p_a0+x8.toNat*2+0,none⟩))<|.cons [38] (qI 57 (qy qk 2 p_a0 c_a0 a0 qa) (vI t25.Lo) 38 λ_ w h=>YV qa (qj h).2 qe ht25 0 1 [vI t25.Lo])<|.v 39 (.slice p_a0 a0.length c_a0)<|.v 40 (vI x8)<|.cons [41] (qq (λu23=>.pointer (some ⟨XM p_a0,XN p_a0+x8.toNat*2,none⟩)) 41 (hv:=λ_ _=>Qc (t:=48) (k:=.i64) (i:=x8) (p:=p_a0) (n:=a0.length) (cap:=c_a0) (x:=a0) P26 rfl b27 (by kernel_rfl)))<|.v 42 (.pointer (some ⟨XM p_a0,XN p_a0+x8.toNat*2+1,none⟩))<|.cons [43] (qI 57 (qy qk 2 p_a0 c_a0 a0 qa) (vI t28.Hi) 43 λ_ w h=>YV qa (qj h).2 qe ht28 1 1 [vI t28.Hi])<|.v 44 (.slice p_a0 a0.length c_a0)<|.v 45 (vI x8)<|.cons [46] (qq (λu23=>.pointer (some ⟨XM p_a0,XN p_a0+x8.toNat*2,none⟩)) 46 (hv:=λ_ _=>Qc (t:=48) (k:=.i64) (i:=x8) (p:=p_a0) (n:=a0.length) (cap:=c_a0) (x:=a0) P26 rfl b29 (by kernel_rfl)))<|.v 47 (.pointer (some ⟨XM p_a0,XN p_a0+x8.toNat*2+0,none⟩))<|.cons [48] (qI 57 (qy qk 2 p_a0 c_a0 a0 qa) (vI t30.Lo) 48 λ_ w h=>YV qa (qj h).2 qe ht30 0 1 [vI t30.Lo])<|.v 49 (vI (qc (t28.Hi-t30.Lo)))<|.v 50 (vI j16)<|.v 51 (vI (qc ((qc (t28.Hi-t30.Lo))*j16)))<|.v 52 (vI (qc (Int.tdiv (qc ((qc (t28.Hi-t30.Lo))*j16)) 65535)))<|.v 53 (vI (qc (t25.Lo+(qc (Int.tdiv (qc ((qc (t28.Hi-t30.Lo))*j16)) 65535)))))<|.cons [54,63] (qn (λb=>.slice (some ⟨b,0,none⟩) 1 1) (λu23=>[vI (qc (t25.Lo+(qc (Int.tdiv (qc ((qc (t28.Hi-t30.Lo))*j16)) 65535))))]) 2 54 63)<|.cons [55,900085,900085] (Xl [21] [63] (λu23=>[.blk (nn u23 21) [vI (qc (t25.Lo+(qc (Int.tdiv (qc ((qc (t28.Hi-t30.Lo))*j16)) 65535))))] 2]) 900085 (λu23=>Qf 2 1 p_x7 c_x7 x7 qL) (some 55) (λu23 g=>.slice (g.o 0) (x7++[qc (t25.Lo+(qc (Int.tdiv (qc ((qc (t28.Hi-t30.Lo))*j16)) 65535)))]).length (g.n 0)) (λu23 g=>Qf 2 1 (g.o 0) (g.n 0) (x7++[qc (t25.Lo+(qc (Int.tdiv (qc ((qc (t28.Hi-t30.Lo))*j16)) 65535)))]) qL) (λu23 w hF hK=>JF (XV (t:=70) (ty:=70) (en:=qL) Zs qh9 (Qv hK) hF.1 (news:=[qc (t25.Lo+(qc (Int.tdiv (qc ((qc (t28.Hi-t30.Lo))*j16)) 65535)))]) rfl (by simp) (by kernel_rfl) b31)) (hloc:=λu u' h=>by refine ⟨?_,?_,?_,?_⟩ <;> first | rfl | simp only [nn, h 21 (by decide)]))<|.cons [5] (qq (λu23=>.slice ((u23 22).o 0) ((x7++[qc (t25.Lo+(qc (Int.tdiv (qc ((qc (t28.Hi-t30.Lo))*j16)) 65535)))]).length) (nn u23 22)) 5)<|.nil) [0,1,5,6,57,58,900085] λu23 a w' H=>?_
       obtain rfl:=sj G
       replace H:=H.move (K:=Qf 2 1 ((u23 22).o 0) (nn u23 22) (x7++[qc (t25.Lo+(qc (Int.tdiv (qc ((qc (t28.Hi-t30.Lo))*j16)) 65535)))]) qL) 900085 900086 (by kernel_rfl) (by intro _ _ h; cases h)
       exact ⟨((u23 22).o 0),(nn u23 22),(x7++[qc (t25.Lo+(qc (Int.tdiv (qc ((qc (t28.Hi-t30.Lo))*j16)) 65535)))]).length,rfl,H.toM _⟩
     ·clear G; replace G:=hj16; clear hj16
      refine qg qd H (.v 15 (vI x8)<|.v 16 (.slice p_a1 a1.length c_a1)<|.v 17 (vI (a1.length:Int))<|.v 18 (.bool (decide (x8<(a1.length:Int))))<|.nil) [0,1,5,6,7,18,57,58,900085] λu33 a w' H=>?_
      refine Qt H (decide (x8<(a1.length:Int))) (λc37=>?_) λc37=>?_
      ·rw [if_pos c37] at G
       replace G:=gd G; obtain ⟨b35,G⟩:=G
       obtain ⟨t36,ht36,G⟩:=qN G
       refine Qj qd H (.v 19 (.slice p_a1 a1.length c_a1)<|.v 20 (vI x8)<|.cons [21] (qI 58 (qy qk 1 p_a1 c_a1 a1 Z3) (.pointer (some ⟨XM p_a1,XN p_a1+x8.toNat*1,none⟩)) 21 λ_ w h=>JI 68 .i64 x8 p_a1 a1.length c_a1 a1 Z3 (qj h).2 qaP rfl b35)<|.cons [22] (qI 58 (qy qk 1 p_a1 c_a1 a1 Z3) (.int .u16 t36) 22 λ_ w h=>YV Z3 (qj h).2 qaP ht36 0 1 [.int .u16 t36])<|.v 23 (vI (qc t36))<|.v 7 (vI (qc t36))<|.nil) [0,1,5,6,7,57,58,900085] λu34 a w' H=>?_
       obtain rfl:=sj G
       exact H.toM _
      ·rw [if_neg (nt c37)] at G
       refine qZ ?_
       obtain rfl:=sj G
       exact H.toM _
   ·rw [if_neg (nt c38)] at G
    refine Yr rfl ?_
    obtain rfl:=sj G
    replace H:=H.move (K:=Qf 2 1 p_x7 c_x7 x7 qL) 900085 900084 (by kernel_rfl) (by intro _ _ h; cases h)
    exact ⟨p_x7,c_x7,x7.length,rfl,H.toM _⟩
end Go.Proofs.YtpmgpcklieincaaGreatDoor
