/- Each function of the program answers as the plain Lean function of its name (part 4). Printed by a program of this session. -/
import Derived.Test.YtpmgpcklieincaaGreatDoorFn3
set_option linter.unusedVariables false
set_option linter.unusedSimpArgs false
set_option maxRecDepth 100000
set_option maxHeartbeats 4000000
namespace Go.Proofs.YtpmgpcklieincaaGreatDoor
open Go Go.RowKit Go.Sx Go.Proofs
theorem XM.calls (k0:Nat)(r:Bool)(w:World)(hg:WM w)(G:XM k0=some r) :
  Calls Tryz.prog 9 #[] w λe w'=>e = .returned (.bool r)∧Below w.heap.size w w':=by
 obtain ⟨fr,hfr⟩:∃ fr:Nat->Prop,∀ j,fr j:=⟨λ_=>True,λ_=>trivial⟩
 have hBf:∀ j,w.heap.size<=j->fr j:=λj _=>hfr j
 refine qaD (args:=[]) 63 999999 WQ WM (Vp hg) (Yc hg) Tryz.func9 rfl λa H=>?_
 unfold XM at G
 refine qg qd H (.v 0 (.bool false)<|.nil) [999999] λu1 a w' H=>?_
 obtain ⟨t3,ht3,G⟩:=qO G
 obtain ⟨t4,ht4,G⟩:=qO G
 obtain ⟨t5,ht5,G⟩:=qO G
 obtain ⟨t6,ht6,G⟩:=qO G
 obtain ⟨t7,ht7,G⟩:=qO G
 obtain ⟨t8,ht8,G⟩:=qO G
 refine qg qd H (.cons [9] (qm 27 _ _ 9 [] (λu2 w _=>Q3.calls 2 t3 w ht3))<|.cons [10,63,64] (Qp false fr [] [] (λu2=>[]) [] (λu2=>[]) 13 _ (λu2=>[]) _ _ _ [63,64] 10 (λu2 w hB hF hM=>YW.calls t3 t4 w ht4) (λu2 w hF=>⟨trivial,trivial⟩) (λu2 g=>(qk Qf (qk Jk qx))) (.inr (λu2 g=>(Qg trivial (Qg trivial (λK h=>by cases h))))) (λh=>by cases h))<|.cons [11,65,66] (Qp false fr [1] [63,64] (λu2=>[Ql 9 1 ((u2 1).o 0) (nn u2 1) t4.Names Y1,ns_en_TNodeg (u2 1) 1 t4.F]) [] (λu2=>[]) 12 _ _ _ _ _ [65,66] 11 (λu2 w hB hF hM=>Xc.calls k0 t4 ((u2 1).o 0) (nn u2 1) ((u2 1).o 1) ((u2 1).n 1) (dlgd_S_TNode (u2 1) 1 t4.F) t5 w (J5 ZM (u2 1) 1 t4.F) hB ht5) (λu2 w hF=>⟨⟨qP (qH (Qx hF.1)) (λj h=>⟨_,(.head _),(YC h)⟩),qP (Ym hF.2.1).row (λj h=>⟨_,(.tail _ (.head _)),(qb6 h)⟩),Vq (Ym hF.2.1).all (λj h=>⟨_,(.tail _ (.head _)),(qbO h)⟩),trivial⟩,trivial⟩) (λu2 g=>(qk Qf (qk Qf qx))) (.inr (λu2 g=>(Qg trivial (Qg trivial (λK h=>by cases h))))) (λh=>by cases h) (hloc:=λu u' h=>by refine ⟨?_,?_,?_,?_,?_,?_⟩ <;> first | rfl | simp only [nn, h 1 (by decide)]))<|.cons [12] (qm 27 _ _ 12 [] (λu2 w _=>Q3.calls 1 t6 w ht6))<|.cons [13,67,67] (qbU (λu2=>[(67,YI fr 2 (some ⟨(nn u2 4),0,none⟩) 1 1 (([t6]:List qb).flatMap qa))]) (qbF 2 1 (qn (λb=>.slice (some ⟨b,0,none⟩) 1 1) (λu2=>[vI t6.Lo,vI t6.Hi]) 46 13 67) (λ_=>rfl) (by decide)) (λu2 S a w H=>H.demote fr 67 46 2 (some ⟨(nn u2 4),0,none⟩) 1 1 (([t6]:List qb).flatMap qa) (by kernel_rfl) (by decide) hBf))<|.cons [14] (qm 10 _ _ 14 [] (λu2 w _=>Q2.calls 2 0 31 t7 w ht7))<|.cons [15,68,69] (Qp true fr [2,4] [65,66,67,999999] (λu2=>[Ql 110 5 ((u2 2).o 0) (nn u2 2) t5.L qi,Ql 3 1 ((u2 2).o 1) ((u2 2).n 1) t5.Out q6,YI fr 2 (some ⟨(nn u2 4),0,none⟩) 1 1 (([t6]:List qb).flatMap qa),gk]) [] (λu2=>[]) 11 _ _ _ _ _ [68,69] 15 (λu2 w hB hF hM=>QK.calls k0 t5 ([t6]:List qb) t7 ((u2 2).o 0) (nn u2 2) ((u2 2).o 1) ((u2 2).n 1) (some ⟨(nn u2 4),0,none⟩) 1 t8 w hB hF ht8) (λu2 w hF=>⟨⟨qP (qH (Qx hF.1)) (λj h=>⟨_,(.head _),(YC h)⟩),qP (qH (Qx hF.2.1)) (λj h=>⟨_,(.tail _ (.head _)),(YC h)⟩),Je hF.2.2.2.1 (.tail _ (.tail _ (.tail _ (.head _)))),trivial⟩,⟨Zv (qj hF.2.2.1) (λj h=>Zw (.tail _ (.tail _ (.head _))) (λh=>h) h (YV hF.2.2.1 _ h)),trivial⟩⟩) (λu2 g=>(qk Qf (qk Vv qx))) (.inl rfl) (λ_=>hBf) (hloc:=λu u' h=>by refine ⟨?_,?_,?_,?_,?_,?_⟩ <;> first | rfl | simp only [nn, h 2 (by decide),h 4 (by decide)]))<|.cons [8] (qr (λu2=>.tuple #[slgd_TSegment (u2 6) 0 t8.1,vI t8.2]) 8)<|.cons [16] (qr (λu2=>slgd_TSegment (u2 6) 0 t8.1) 16)<|.v 17 (vI t8.2)<|.cons [1] (qr (λu2=>slgd_TSegment (u2 6) 0 t8.1) 1)<|.v 2 (vI t8.2)<|.nil) [1,2,68,69,999999] λu2 a w' H=>?_
 obtain ⟨t10,ht10,G⟩:=qO G
 refine qg qd H (.v 19 (slgd_TSegment (u2 6) 0 t8.1)<|.cons [20,70] (Qp true fr [] [68,69] (λu9=>[Ql 63 6 ((u2 6).o 0) (nn u2 6) (dlgd_TSegment (u2 6) 0 t8.1) qC,Yk fr Qj.toPart (dlgd_TSegment (u2 6) 0 t8.1)]) [] (λu9=>[]) 28 _ _ _ _ _ [70] 20 (λu9 w hB hF hM=>Jb.calls t8.1 ((u2 6).o 0) (nn u2 6) (dlgd_TSegment (u2 6) 0 t8.1) t10 w (J5 Jq (u2 6) 0 t8.1) hB hF ht10) (λu9 w hF=>⟨⟨qP (qH (Qx hF.1)) (λj h=>⟨_,(.head _),(YC h)⟩),trivial⟩,⟨Wq (XB hF.2.1) (λj h=>Zw (.tail _ (.head _)) (λh=>h) h (VA hF.2.1 _ h)),trivial⟩⟩) (λu9 g=>(qk (QP (by decide)) qx)) (.inl rfl) (λ_=>hBf))<|.cons [18] (qr (λu9=>.tuple #[.slice ((u9 1).o 0) t10.1.length (nn u9 1),vI t10.2.1,.bool t10.2.2]) 18)<|.cons [21] (qr (λu9=>.slice ((u9 1).o 0) t10.1.length (nn u9 1)) 21)<|.v 22 (vI t10.2.1)<|.v 23 (.bool t10.2.2)<|.cons [3] (qr (λu9=>.slice ((u9 1).o 0) t10.1.length (nn u9 1)) 3)<|.v 4 (vI t10.2.1)<|.v 5 (.bool t10.2.2)<|.nil) [1,2,3,4,5,68,69,70,999999] λu9 a w' H=>?_
 obtain ⟨t12,ht12,G⟩:=qO G
 refine qg qd H (.v 25 (slgd_TSegment (u2 6) 0 t8.1)<|.cons [26,71] (Qp true fr [] [68,69] (λu11=>[Ql 63 6 ((u2 6).o 0) (nn u2 6) (dlgd_TSegment (u2 6) 0 t8.1) qC,Yk fr Qj.toPart (dlgd_TSegment (u2 6) 0 t8.1)]) [] (λu11=>[]) 15 _ _ _ _ _ [71] 26 (λu11 w hB hF hM=>Z5.calls k0 t8.1 131072 ((u2 6).o 0) (nn u2 6) (dlgd_TSegment (u2 6) 0 t8.1) t12 w (J5 Jq (u2 6) 0 t8.1) hB hF ht12) (λu11 w hF=>⟨⟨qP (qH (Qx hF.1)) (λj h=>⟨_,(.head _),(YC h)⟩),trivial⟩,⟨Wq (XB hF.2.1) (λj h=>Zw (.tail _ (.head _)) (λh=>h) h (VA hF.2.1 _ h)),trivial⟩⟩) (λu11 g=>(qk (QP (by decide)) qx)) (.inl rfl) (λ_=>hBf))<|.cons [24] (qr (λu11=>.tuple #[.slice ((u11 1).o 0) t12.1.length (nn u11 1),.bool t12.2]) 24)<|.cons [27] (qr (λu11=>.slice ((u11 1).o 0) t12.1.length (nn u11 1)) 27)<|.v 28 (.bool t12.2)<|.cons [6] (qr (λu11=>.slice ((u11 1).o 0) t12.1.length (nn u11 1)) 6)<|.v 7 (.bool t12.2)<|.nil) [2,3,4,5,6,7,70,71,999999] λu11 a w' H=>?_
 refine qs ?_
 refine qg qd H (.v 29 (.slice ((u9 1).o 0) t10.1.length (nn u9 1))<|.v 30 (vI (t10.1.length:Int))<|.v 31 (.bool ((t10.1.length:Int)!=1))<|.v 32 (.bool ((t10.1.length:Int)!=1))<|.cons [33] (qE (λu13=>.slice ((u11 1).o 0) t12.1.length (nn u11 1)) (λu13=>(((t10.1.length:Int)!=1)==false)) [true] 33)<|.cons [34] (qE (λu13=>vI (t12.1.length:Int)) (λu13=>(((t10.1.length:Int)!=1)==false)) [false] 34)<|.cons [35] (qE (λu13=>.bool ((t12.1.length:Int)!=1)) (λu13=>(((t10.1.length:Int)!=1)==false)) [false,true] 35)<|.cons [36] (Zx 32 35 (λu13=>true) (λu13=>true) (λu13=>((t10.1.length:Int)!=1)) (λu13=>((t12.1.length:Int)!=1)) 36)<|.nil) [2,3,4,5,6,7,36,70,71,999999] λu13 a w' H=>?_
 refine Qu H (((t10.1.length:Int)!=1)||((t12.1.length:Int)!=1)) (λc25=>?_) λc25=>?_
 ·rw [if_pos c25] at G
  refine qg qd H (.v 0 (.bool false)<|.nil) [0,999999] λu14 a w' H=>?_
  refine qB ?_
  obtain rfl:=sj G
  exact Qr H _
 ·rw [if_neg (nt c25)] at G
  refine q8 ?_
  refine qs ?_
  replace G:=gd G; obtain ⟨b16,G⟩:=G
  obtain ⟨t17,ht17,G⟩:=qO G
  have P18:=Xm (en:=qa) (l:=t10.1) (qj (H.at (K:=YI fr 2 ((u9 1).o 0) t10.1.length (nn u9 1) (t10.1.flatMap qa)) 70 (by kernel_rfl))).2 qe
  obtain ⟨t19,ht19,G⟩:=qO G
  obtain ⟨z20,hz20,G⟩:=qO G
  replace hz20:=Option.some.inj hz20
  replace G:=gd G; obtain ⟨b21,G⟩:=G
  obtain ⟨t22,ht22,G⟩:=qO G
  have P23:=Xm (en:=qa) (l:=t12.1) (qj (H.at (K:=YI fr 2 ((u11 1).o 0) t12.1.length (nn u11 1) (t12.1.flatMap qa)) 71 (by kernel_rfl))).2 qe
  obtain ⟨t24,ht24,G⟩:=qO G
  refine Qq qd H (.v 37 (vI t8.2)<|.v 38 (.bool (t8.2==0))<|.v 39 (.bool (t8.2==0))<|.cons [40] (qE (λu15=>.bool t10.2.2) (λu15=>((t8.2==0)==true)) [true] 40)<|.cons [41] (YH 39 40 (λu15=>true) (λu15=>true) (λu15=>(t8.2==0)) (λu15=>t10.2.2) 41)<|.v 42 (.bool ((t8.2==0)&&t10.2.2))<|.cons [43] (qE (λu15=>vI t10.2.1) (λu15=>(((t8.2==0)&&t10.2.2)==true)) [true] 43)<|.cons [44] (qE (λu15=>.bool (t10.2.1==131072)) (λu15=>(((t8.2==0)&&t10.2.2)==true)) [false,true] 44)<|.cons [45] (YH 42 44 (λu15=>true) (λu15=>true) (λu15=>((t8.2==0)&&t10.2.2)) (λu15=>(t10.2.1==131072)) 45)<|.v 46 (.bool (((t8.2==0)&&t10.2.2)&&(t10.2.1==131072)))<|.cons [47] (qE (λu15=>.slice ((u9 1).o 0) t10.1.length (nn u9 1)) (λu15=>((((t8.2==0)&&t10.2.2)&&(t10.2.1==131072))==true)) [true] 47)<|.cons [48] (qcl (λu15=>.pointer (some ⟨XR ((u9 1).o 0),XV ((u9 1).o 0)+((0:Int).toNat)*2,none⟩)) (λu15=>((((t8.2==0)&&t10.2.2)&&(t10.2.1==131072))==true)) [false,true] 48 (λ_ _ hg=>Qe (t:=48) (k:=.i64) (i:=(0:Int)) (p:=((u9 1).o 0)) (n:=t10.1.length) (cap:=(nn u9 1)) (x:=t10.1) P18 rfl (b16 hg) (by kernel_rfl)))<|.cons [49] (Zb [70] (λu15=>[YI fr 2 ((u9 1).o 0) t10.1.length (nn u9 1) (t10.1.flatMap qa)]) (λu15=>.agg #[vI t17.Lo,vI t17.Hi]) (λu15=>((((t8.2==0)&&t10.2.2)&&(t10.2.1==131072))==true)) [false] 49 (λu15 w hg hF=>Y4 qa (qj hF.1).2 qe (ifp ht17 hg) 0 2 [vI t17.Lo,vI t17.Hi]))<|.cons [50] (ZU 27 (λu15=>#[vI 5]) (.agg #[vI t19.Lo,vI t19.Hi]) (λu15=>((((t8.2==0)&&t10.2.2)&&(t10.2.1==131072))==true)) [true,true] 50 [] (λu15 w hg _=>Q3.calls 5 t19 w (ifp ht19 hg)))<|.cons [51] (qE (λu15=>.bool ((t17.Lo==t19.Lo)&&((t17.Hi==t19.Hi)&&true))) (λu15=>((((t8.2==0)&&t10.2.2)&&(t10.2.1==131072))==true)) [false,false] 51 (hv:=λ_ _=>Zt (by kernel_rfl) (VP (t:=46) (x:=(.tmp 49)) (y:=(.tmp 50)) (xs:=#[vI t17.Lo,vI t17.Hi]) (ys:=#[vI t19.Lo,vI t19.Hi]) (b:=((t17.Lo==t19.Lo)&&((t17.Hi==t19.Hi)&&true))) (by kernel_rfl) (by kernel_rfl))))<|.cons [52] (YH 46 51 (λu15=>true) (λu15=>true) (λu15=>(((t8.2==0)&&t10.2.2)&&(t10.2.1==131072))) (λu15=>((t17.Lo==t19.Lo)&&((t17.Hi==t19.Hi)&&true))) 52)<|.cons [53] (QF (u':=λu15=>[(53,sB z20)]) (qr (λu15=>.bool ((((t8.2==0)&&t10.2.2)&&(t10.2.1==131072))&&((t17.Lo==t19.Lo)&&((t17.Hi==t19.Hi)&&true)))) 53) (λ_=>by rw [<- hz20]))<|.cons [54] (qE (λu15=>.bool t12.2) (λu15=>(z20==true)) [true] 54)<|.cons [55] (YH 53 54 (λu15=>true) (λu15=>true) (λu15=>z20) (λu15=>t12.2) 55)<|.v 56 (.bool (z20&&t12.2))<|.cons [57] (qE (λu15=>.slice ((u11 1).o 0) t12.1.length (nn u11 1)) (λu15=>((z20&&t12.2)==true)) [true] 57)<|.cons [58] (qcl (λu15=>.pointer (some ⟨XR ((u11 1).o 0),XV ((u11 1).o 0)+((0:Int).toNat)*2,none⟩)) (λu15=>((z20&&t12.2)==true)) [false,true] 58 (λ_ _ hg=>Qe (t:=48) (k:=.i64) (i:=(0:Int)) (p:=((u11 1).o 0)) (n:=t12.1.length) (cap:=(nn u11 1)) (x:=t12.1) P23 rfl (b21 hg) (by kernel_rfl)))<|.cons [59] (Zb [71] (λu15=>[YI fr 2 ((u11 1).o 0) t12.1.length (nn u11 1) (t12.1.flatMap qa)]) (λu15=>.agg #[vI t22.Lo,vI t22.Hi]) (λu15=>((z20&&t12.2)==true)) [false] 59 (λu15 w hg hF=>Y4 qa (qj hF.1).2 qe (ifp ht22 hg) 0 2 [vI t22.Lo,vI t22.Hi]))<|.cons [60] (ZU 27 (λu15=>#[vI 5]) (.agg #[vI t24.Lo,vI t24.Hi]) (λu15=>((z20&&t12.2)==true)) [true,true] 60 [] (λu15 w hg _=>Q3.calls 5 t24 w (ifp ht24 hg)))<|.cons [61] (qE (λu15=>.bool ((t22.Lo==t24.Lo)&&((t22.Hi==t24.Hi)&&true))) (λu15=>((z20&&t12.2)==true)) [false,false] 61 (hv:=λ_ _=>Zt (by kernel_rfl) (VP (t:=46) (x:=(.tmp 59)) (y:=(.tmp 60)) (xs:=#[vI t22.Lo,vI t22.Hi]) (ys:=#[vI t24.Lo,vI t24.Hi]) (b:=((t22.Lo==t24.Lo)&&((t22.Hi==t24.Hi)&&true))) (by kernel_rfl) (by kernel_rfl))))<|.cons [62] (YH 56 61 (λu15=>true) (λu15=>true) (λu15=>(z20&&t12.2)) (λu15=>((t22.Lo==t24.Lo)&&((t22.Hi==t24.Hi)&&true))) 62)<|.v 0 (.bool ((z20&&t12.2)&&((t22.Lo==t24.Lo)&&((t22.Hi==t24.Hi)&&true))))<|.nil) [0,999999] λu15 a w' H=>?_
  refine qB ?_
  obtain rfl:=sj G
  exact Qr H _
theorem YD.calls (a0:qb)(r:qb)(w:World)(G:YD a0=some r) :
  Calls Tryz.prog 41 #[.agg #[vI a0.Lo,vI a0.Hi]] w λe w'=>e = .returned (.agg #[vI r.Lo,vI r.Hi])∧Below w.heap.size w w':=by
 refine Qs (args:=[.agg #[vI a0.Lo,vI a0.Hi]]) 18 Tryz.func41 rfl λa H=>?_
 unfold YD at G
 refine qg qd H (.cons [1,18] (qn (λb=>vP b 0) (λu1=>[vI a0.Lo,vI a0.Hi]) 46 1 18)<|.cons [2,19] (qn (λb=>vP b 0) (λu1=>[vI 0,vI 0]) 46 2 19)<|.nil) [1,2,18,19] λu1 a w' H=>?_
 refine qg qd H (.v 5 (vP (nn u1 0) 0)<|.cons [6] (qf (vI a0.Lo) 6 18 0 1 (nn u1 0) [vI a0.Lo,vI a0.Hi] 46)<|.v 7 (vI (Int.tmod a0.Lo 16777216))<|.v 8 (vP (nn u1 0) 1)<|.cons [9] (qf (vI a0.Hi) 9 18 1 1 (nn u1 0) [vI a0.Lo,vI a0.Hi] 46)<|.v 10 (vI (Int.tmod a0.Hi 16777216))<|.v 3 (vI (Int.tmod a0.Lo 16777216))<|.v 4 (vI (Int.tmod a0.Hi 16777216))<|.nil) [2,3,4,19] λu2 a w' H=>?_
 refine qg qd H (.v 11 (vI (Int.tmod a0.Lo 16777216))<|.v 12 (vI (Int.tmod a0.Hi 16777216))<|.v 13 (vI (mn (Int.tmod a0.Lo 16777216) (Int.tmod a0.Hi 16777216)))<|.v 14 (vI (Int.tmod a0.Lo 16777216))<|.v 15 (vI (Int.tmod a0.Hi 16777216))<|.v 16 (vI (mx (Int.tmod a0.Lo 16777216) (Int.tmod a0.Hi 16777216)))<|.v 17 (.agg #[vI (mn (Int.tmod a0.Lo 16777216) (Int.tmod a0.Hi 16777216)),vI (mx (Int.tmod a0.Lo 16777216) (Int.tmod a0.Hi 16777216))])<|.cons [19] (qQ 19 0 (nn u1 1) [vI 0,vI 0] [vI (mn (Int.tmod a0.Lo 16777216) (Int.tmod a0.Hi 16777216)),vI (mx (Int.tmod a0.Lo 16777216) (Int.tmod a0.Hi 16777216))] 46 [vI (mn (Int.tmod a0.Lo 16777216) (Int.tmod a0.Hi 16777216)),vI (mx (Int.tmod a0.Lo 16777216) (Int.tmod a0.Hi 16777216))])<|.nil) [2,19] λu3 a w' H=>?_
 refine qB ?_
 obtain rfl:=sj G
 exact qY H _ 19 (nn u1 1) [vI (mn (Int.tmod a0.Lo 16777216) (Int.tmod a0.Hi 16777216)),vI (mx (Int.tmod a0.Lo 16777216) (Int.tmod a0.Hi 16777216))] 46 0 2
theorem XL.calls (a0:Int)(r:Bool)(w:World)(G:XL a0=some r) :
  Calls Tryz.prog 63 #[vI a0] w λe w'=>e = .returned (.bool r)∧Below w.heap.size w w':=by
 refine Qs (args:=[vI a0]) 9 Tryz.func63 rfl λa H=>?_
 unfold XL at G
 refine qg qd H (.v 2 (.bool false)<|.nil) [0] λu1 a w' H=>?_
 refine qg qd H (.v 3 (vI a0)<|.v 4 (.bool (decide (a0>(-2147483648))))<|.v 5 (.bool (decide (a0>(-2147483648))))<|.cons [6] (qE (λu2=>vI a0) (λu2=>((decide (a0>(-2147483648)))==true)) [true] 6)<|.cons [7] (qE (λu2=>.bool (decide (a0<2147483648))) (λu2=>((decide (a0>(-2147483648)))==true)) [false,true] 7)<|.cons [8] (YH 5 7 (λu2=>true) (λu2=>true) (λu2=>decide (a0>(-2147483648))) (λu2=>decide (a0<2147483648)) 8)<|.v 2 (.bool ((decide (a0>(-2147483648)))&&(decide (a0<2147483648))))<|.nil) [2] λu2 a w' H=>?_
 refine qB ?_
 obtain rfl:=sj G
 exact Qr H _
theorem YA.calls (r:qb)(w:World)(G:YA=some r) :
  Calls Tryz.prog 64 #[] w λe w'=>e = .returned (.agg #[vI r.Lo,vI r.Hi])∧Below w.heap.size w w':=by
 refine Qs (args:=[]) 2 Tryz.func64 rfl λa H=>?_
 unfold YA at G
 refine qg qd H (.cons [0,2] (qn (λb=>vP b 0) (λu1=>[vI 0,vI 0]) 46 0 2)<|.nil) [0,2] λu1 a w' H=>?_
 refine qg qd H (.v 1 (.agg #[vI (-2147483648),vI 2147483648])<|.cons [2] (qQ 2 0 (nn u1 0) [vI 0,vI 0] [vI (-2147483648),vI 2147483648] 46 [vI (-2147483648),vI 2147483648])<|.nil) [0,2] λu2 a w' H=>?_
 refine qB ?_
 obtain rfl:=sj G
 exact qY H _ 2 (nn u1 0) [vI (-2147483648),vI 2147483648] 46 0 2
theorem YX.calls (a0:Int)(a1:Int)(r:qb)(w:World)(G:YX a0 a1=some r) :
  Calls Tryz.prog 38 #[vI a0,vI a1] w λe w'=>e = .returned (.agg #[vI r.Lo,vI r.Hi])∧Below w.heap.size w w':=by
 refine Qs (args:=[vI a0,vI a1]) 17 Tryz.func38 rfl λa H=>?_
 unfold YX at G
 refine qg qd H (.cons [4,17] (qn (λb=>vP b 0) (λu1=>[vI 0,vI 0]) 46 4 17)<|.nil) [0,1,4,17] λu1 a w' H=>?_
 refine qs ?_
 obtain ⟨t3,ht3,G⟩:=qO G
 obtain ⟨t4,ht4,G⟩:=qO G
 refine qg qd H (.v 5 (vI a0)<|.cons [6] (qm 63 _ _ 6 [] (λu2 w _=>XL.calls a0 t3 w ht3))<|.v 7 (.bool (!t3))<|.v 8 (.bool (!t3))<|.cons [9] (qE (λu2=>vI a1) (λu2=>((!t3)==false)) [true] 9)<|.cons [10] (ZU 63 (λu2=>#[vI a1]) (.bool t4) (λu2=>((!t3)==false)) [true,false] 10 [] (λu2 w hg _=>XL.calls a1 t4 w (ifp ht4 hg)))<|.cons [11] (qE (λu2=>.bool (!t4)) (λu2=>((!t3)==false)) [false] 11)<|.cons [12] (Zx 8 11 (λu2=>true) (λu2=>true) (λu2=>(!t3)) (λu2=>(!t4)) 12)<|.nil) [0,1,4,12,17] λu2 a w' H=>?_
 refine Qu H ((!t3)||(!t4)) (λc8=>?_) λc8=>?_
 ·rw [if_pos c8] at G
  obtain ⟨t6,ht6,G⟩:=qO G
  refine qg qd H (.cons [13] (qm 64 _ _ 13 [] (λu5 w _=>YA.calls t6 w ht6))<|.cons [17] (qQ 17 0 (nn u1 0) [vI 0,vI 0] [vI t6.Lo,vI t6.Hi] 46 [vI t6.Lo,vI t6.Hi])<|.nil) [4,17] λu5 a w' H=>?_
  refine qB ?_
  obtain rfl:=sj G
  exact qY H _ 17 (nn u1 0) [vI t6.Lo,vI t6.Hi] 46 0 2
 ·rw [if_neg (nt c8)] at G
  refine q8 ?_
  refine qg qd H (.v 14 (vI a0)<|.v 15 (vI a1)<|.v 16 (.agg #[vI a0,vI a1])<|.cons [17] (qQ 17 0 (nn u1 0) [vI 0,vI 0] [vI a0,vI a1] 46 [vI a0,vI a1])<|.nil) [4,17] λu7 a w' H=>?_
  refine qB ?_
  obtain rfl:=sj G
  exact qY H _ 17 (nn u1 0) [vI a0,vI a1] 46 0 2
theorem YF.calls (a0:Int)(r:qb)(w:World)(G:YF a0=some r) :
  Calls Tryz.prog 14 #[vI a0] w λe w'=>e = .returned (.agg #[vI r.Lo,vI r.Hi])∧Below w.heap.size w w':=by
 refine Qs (args:=[vI a0]) 6 Tryz.func14 rfl λa H=>?_
 unfold YF at G
 refine qg qd H (.cons [2,6] (qn (λb=>vP b 0) (λu1=>[vI 0,vI 0]) 46 2 6)<|.nil) [0,2,6] λu1 a w' H=>?_
 obtain ⟨t3,ht3,G⟩:=qO G
 refine qg qd H (.v 3 (vI a0)<|.v 4 (vI a0)<|.cons [5] (qm 38 _ _ 5 [] (λu2 w _=>YX.calls a0 a0 t3 w ht3))<|.cons [6] (qQ 6 0 (nn u1 0) [vI 0,vI 0] [vI t3.Lo,vI t3.Hi] 46 [vI t3.Lo,vI t3.Hi])<|.nil) [2,6] λu2 a w' H=>?_
 refine qB ?_
 obtain rfl:=sj G
 exact qY H _ 6 (nn u1 0) [vI t3.Lo,vI t3.Hi] 46 0 2
theorem XT.calls (a0:qb)(r:List qt)(w:World)(G:XT a0=some r) :
  Calls Tryz.prog 104 #[.agg #[vI a0.Lo,vI a0.Hi]] w λe w'=>∃ g:Gh,e = .returned (.slice (g.o 0) r.length (g.n 0))∧Zj (YR []) w w'∧Ye w.heap.size (YR []) (JS w.heap.size []) [λ_=>Ql 61 4 (g.o 0) (g.n 0) r qp] w':=by
 obtain ⟨fr,hfr,hBf⟩:=VT w []
 refine Qs (args:=[.agg #[vI a0.Lo,vI a0.Hi]]) 6 Tryz.func104 rfl λa H=>?_
 unfold XT at G
 refine qg qd H (.cons [1,6] (qn (λb=>vP b 0) (λu1=>[vI a0.Lo,vI a0.Hi]) 46 1 6)<|.v 2 (.slice none 0 0)<|.nil) [1,6] λu1 a w' H=>?_
 refine qg qd H (.cons [3] (qf (.agg #[vI a0.Lo,vI a0.Hi]) 3 6 0 2 (nn u1 0) [vI a0.Lo,vI a0.Hi] 46)<|.v 4 (.agg #[vI 1,vI 0,vI a0.Lo,vI a0.Hi])<|.cons [5,7] (qn (λb=>.slice (some ⟨b,0,none⟩) 1 1) (λu2=>[vI 1,vI 0,vI a0.Lo,vI a0.Hi]) 61 5 7)<|.cons [2] (qr (λu2=>.slice (some ⟨(nn u2 2),0,none⟩) 1 1) 2)<|.nil) [2,7] λu2 a w' H=>?_
 refine qB ?_
 obtain rfl:=sj G
 replace H:=H.blk_row 7 (nn u2 2) [vI 1,vI 0,vI a0.Lo,vI a0.Hi] 61 4 1 (by kernel_rfl) (by kernel_rfl) (by decide)
 obtain ⟨g,o0,n0⟩:=ZS (some ⟨(nn u2 2),0,none⟩) 1
 refine Qz H _ g _ _ _ fr [7] [] (.slice (some ⟨(nn u2 2),0,none⟩) 1 1) [λ_=>XP 61 4 (some ⟨(nn u2 2),0,none⟩) 1 1 (([(⟨1,0,a0⟩:qt)]:List qt).flatMap qp)] (by simp only [Ql,o0,n0,List.length_set,List.length_cons,List.length_nil,Nat.zero_add,Nat.reduceAdd]) (by simp only [Ql,o0,n0,List.length_set,List.length_cons,List.length_nil,Nat.zero_add,Nat.reduceAdd]) hfr (.inl ⟨rfl,rfl⟩) (qk Qf qx) (by simp)
theorem Xr.calls (a0:Int)(r:Int)(w:World)(G:Xr a0=some r) :
  Calls Tryz.prog 105 #[vI a0] w λe w'=>e = .returned (vI r)∧Below w.heap.size w w':=by
 refine Qs (args:=[vI a0]) 13 Tryz.func105 rfl λa H=>?_
 unfold Xr at G
 refine qg qd H (.v 2 (vI 0)<|.nil) [0] λu1 a w' H=>?_
 refine qs ?_
 refine qg qd H (.v 3 (vI a0)<|.v 4 (.bool (decide (a0<1)))<|.v 5 (.bool (decide (a0<1)))<|.cons [6] (qE (λu2=>vI a0) (λu2=>((decide (a0<1))==false)) [true] 6)<|.cons [7] (qE (λu2=>.bool (decide (a0>10))) (λu2=>((decide (a0<1))==false)) [false,true] 7)<|.cons [8] (Zx 5 7 (λu2=>true) (λu2=>true) (λu2=>decide (a0<1)) (λu2=>decide (a0>10)) 8)<|.nil) [0,8] λu2 a w' H=>?_
 refine Qu H ((decide (a0<1))||(decide (a0>10))) (λc11=>?_) λc11=>?_
 ·rw [if_pos c11] at G
  refine qg qd H (.v 2 (vI (-1))<|.nil) [2] λu3 a w' H=>?_
  refine qB ?_
  obtain rfl:=sj G
  exact Qr H _
 ·rw [if_neg (nt c11)] at G
  refine q8 ?_
  refine qs ?_
  refine qg qd H (.v 9 (vI a0)<|.v 10 (.bool (decide (a0<=3)))<|.nil) [0,10] λu4 a w' H=>?_
  refine Qu H (decide (a0<=3)) (λc10=>?_) λc10=>?_
  ·rw [if_pos c10] at G
   refine qg qd H (.v 2 (vI 0)<|.nil) [2] λu5 a w' H=>?_
   refine qB ?_
   obtain rfl:=sj G
   exact Qr H _
  ·rw [if_neg (nt c10)] at G
   refine q8 ?_
   refine qs ?_
   refine qg qd H (.v 11 (vI a0)<|.v 12 (.bool (decide (a0<=6)))<|.nil) [12] λu6 a w' H=>?_
   refine Qu H (decide (a0<=6)) (λc9=>?_) λc9=>?_
   ·rw [if_pos c9] at G
    refine qg qd H (.v 2 (vI 1)<|.nil) [2] λu7 a w' H=>?_
    refine qB ?_
    obtain rfl:=sj G
    exact Qr H _
   ·rw [if_neg (nt c9)] at G
    refine q8 ?_
    refine qg qd H (.v 2 (vI 2)<|.nil) [2] λu8 a w' H=>?_
    refine qB ?_
    obtain rfl:=sj G
    exact Qr H _
theorem X4.calls (a0:qb)(a1:Int)(r:qb)(w:World)(G:X4 a0 a1=some r) :
  Calls Tryz.prog 106 #[.agg #[vI a0.Lo,vI a0.Hi],vI a1] w λe w'=>e = .returned (.agg #[vI r.Lo,vI r.Hi])∧Below w.heap.size w w':=by
 refine Qs (args:=[.agg #[vI a0.Lo,vI a0.Hi],vI a1]) 23 Tryz.func106 rfl λa H=>?_
 unfold X4 at G
 refine qg qd H (.cons [2,23] (qn (λb=>vP b 0) (λu1=>[vI a0.Lo,vI a0.Hi]) 46 2 23)<|.cons [4,24] (qn (λb=>vP b 0) (λu1=>[vI 0,vI 0]) 46 4 24)<|.nil) [1,2,4,23,24] λu1 a w' H=>?_
 refine qs ?_
 replace G:=gd G; obtain ⟨n3,G⟩:=G
 replace G:=gd G; obtain ⟨n4,G⟩:=G
 refine Qq qd H (.v 7 (vP (nn u1 0) 0)<|.cons [8] (qf (vI a0.Lo) 8 23 0 1 (nn u1 0) [vI a0.Lo,vI a0.Hi] 46)<|.v 9 (vI (Int.tmod a0.Lo 1048576))<|.v 10 (vP (nn u1 0) 1)<|.cons [11] (qf (vI a0.Hi) 11 23 1 1 (nn u1 0) [vI a0.Lo,vI a0.Hi] 46)<|.v 12 (vI a1)<|.cons [13] (qr (λu2=>vI (Int.tmod a0.Hi a1)) 13 (hv:=λ_ _=>Zt (by kernel_rfl) (qax (k:=.i64) (x:=a0.Hi) (y:=a1) n3)))<|.v 14 (vI a1)<|.v 15 (vI (qc ((Int.tmod a0.Hi a1)+a1)))<|.v 16 (vI a1)<|.cons [17] (qr (λu2=>vI (Int.tmod (qc ((Int.tmod a0.Hi a1)+a1)) a1)) 17 (hv:=λ_ _=>Zt (by kernel_rfl) (qax (k:=.i64) (x:=qc ((Int.tmod a0.Hi a1)+a1)) (y:=a1) n4)))<|.v 5 (vI (Int.tmod a0.Lo 1048576))<|.v 6 (vI (Int.tmod (qc ((Int.tmod a0.Hi a1)+a1)) a1))<|.nil) [4,5,6,24] λu2 a w' H=>?_
 refine qg qd H (.v 18 (vI (Int.tmod a0.Lo 1048576))<|.v 19 (vI (Int.tmod a0.Lo 1048576))<|.v 20 (vI (Int.tmod (qc ((Int.tmod a0.Hi a1)+a1)) a1))<|.v 21 (vI (qc ((Int.tmod a0.Lo 1048576)+(Int.tmod (qc ((Int.tmod a0.Hi a1)+a1)) a1))))<|.v 22 (.agg #[vI (Int.tmod a0.Lo 1048576),vI (qc ((Int.tmod a0.Lo 1048576)+(Int.tmod (qc ((Int.tmod a0.Hi a1)+a1)) a1)))])<|.cons [24] (qQ 24 0 (nn u1 1) [vI 0,vI 0] [vI (Int.tmod a0.Lo 1048576),vI (qc ((Int.tmod a0.Lo 1048576)+(Int.tmod (qc ((Int.tmod a0.Hi a1)+a1)) a1)))] 46 [vI (Int.tmod a0.Lo 1048576),vI (qc ((Int.tmod a0.Lo 1048576)+(Int.tmod (qc ((Int.tmod a0.Hi a1)+a1)) a1)))])<|.nil) [4,24] λu5 a w' H=>?_
 refine qB ?_
 obtain rfl:=sj G
 exact qY H _ 24 (nn u1 1) [vI (Int.tmod a0.Lo 1048576),vI (qc ((Int.tmod a0.Lo 1048576)+(Int.tmod (qc ((Int.tmod a0.Hi a1)+a1)) a1)))] 46 0 2
theorem Yj.calls (a0:Int)(a1:List qt)(p_a1:Option Addr)(c_a1:Nat)(r:List qt)(w:World)(hB:Xp [qy ql 4 p_a1 c_a1 a1 qp] w)(G:Yj a0 a1=some r) :
  Calls Tryz.prog 107 #[vI a0,.slice p_a1 a1.length c_a1] w λe w'=>∃ g:Gh,e = .returned (.slice (g.o 0) r.length (g.n 0))∧Zj (YR []) w w'∧Ye w.heap.size (YR []) (JS w.heap.size []) [λ_=>Ql 61 4 (g.o 0) (g.n 0) r qp] w':=by
 obtain ⟨fr,hfr,hBf⟩:=VT w []
 refine QA (args:=[vI a0,.slice p_a1 a1.length c_a1]) 13 [(13,qy ql 4 p_a1 c_a1 a1 qp)] (by
  intro x hx
  simp only [List.mem_cons,List.not_mem_nil,or_false] at hx
  rcases hx with rfl
  exact qv (qj hB.1) (λ_ _=>trivial) (by decide) _) Tryz.func107 rfl λa H=>?_
 unfold Yj at G
 refine qg qd H (.v 4 (.slice none 0 0)<|.nil) [0,1,13] λu1 a w' H=>?_
 refine qg qd H (.v 6 (vI a0)<|.v 7 (.agg #[vI a0,vI 0,vI 0,vI 0])<|.cons [8,14] (qn (λb=>.slice (some ⟨b,0,none⟩) 1 1) (λu2=>[vI a0,vI 0,vI 0,vI 0]) 61 8 14)<|.cons [5] (qr (λu2=>.slice (some ⟨(nn u2 2),0,none⟩) 1 1) 5)<|.nil) [1,5,13,14] λu2 a w' H=>?_
 refine qs ?_
 replace H:=H.blk_row 14 (nn u2 2) [vI a0,vI 0,vI 0,vI 0] 61 4 1 (by kernel_rfl) (by kernel_rfl) (by decide)
 replace G:=gd G; obtain ⟨b4,G⟩:=G
 refine Qq qd H (.v 9 (.slice (some ⟨(nn u2 2),0,none⟩) 1 1)<|.v 10 (.slice p_a1 a1.length c_a1)<|.cons [11,14,14] (Xt [] [13] (λu3=>[qy ql 4 p_a1 c_a1 a1 qp]) 14 (λu3=>XP 61 4 (some ⟨(nn u2 2),0,none⟩) 1 1 (([(⟨a0,0,(⟨0,0⟩:qb)⟩:qt)]:List qt).flatMap qp)) (some 11) (λu3 g=>.slice (g.o 0) (([(⟨a0,0,(⟨0,0⟩:qb)⟩:qt)]:List qt)++a1).length (g.n 0)) (λu3 g=>Ql 61 4 (g.o 0) (g.n 0) (([(⟨a0,0,(⟨0,0⟩:qb)⟩:qt)]:List qt)++a1) qp) (λu3 w hF hK=>Vb (J8 (t:=59) (ty:=59) (en:=qp) (m:=a1) (p2:=p_a1) (n2:=a1.length) (cap2:=c_a1) QI (λ_=>rfl) qe0 (Qx hK) (qj hF.1).2 b4 (by kernel_rfl))))<|.cons [5] (qr (λu3=>.slice ((u3 2).o 0) ((([(⟨a0,0,(⟨0,0⟩:qb)⟩:qt)]:List qt)++a1).length) (nn u3 2)) 5)<|.nil) [5,14] λu3 a w' H=>?_
 refine qg qd H (.v 12 (.slice ((u3 2).o 0) ((([(⟨a0,0,(⟨0,0⟩:qb)⟩:qt)]:List qt)++a1).length) (nn u3 2))<|.v 4 (.slice ((u3 2).o 0) ((([(⟨a0,0,(⟨0,0⟩:qb)⟩:qt)]:List qt)++a1).length) (nn u3 2))<|.nil) [4,14] λu5 a w' H=>?_
 refine qB ?_
 obtain rfl:=sj G
 obtain ⟨g,o0,n0⟩:=ZS ((u3 2).o 0) (nn u3 2)
 refine Qz H _ g _ _ _ fr [14] [] (.slice ((u3 2).o 0) ((([(⟨a0,0,(⟨0,0⟩:qb)⟩:qt)]:List qt)++a1).length) (nn u3 2)) [λ_=>Ql 61 4 ((u3 2).o 0) (nn u3 2) (([(⟨a0,0,(⟨0,0⟩:qb)⟩:qt)]:List qt)++a1) qp] (by simp only [Ql,o0,n0]) (by simp only [Ql,o0,n0]) hfr (.inl ⟨rfl,rfl⟩) (qk Qf qx) (by simp)
theorem X7.calls (a0:Int)(a1:List qt)(a2:List qt)(p_a1:Option Addr)(c_a1:Nat)(p_a2:Option Addr)(c_a2:Nat)(r:List qt)(w:World)(hB:Xp [qy ql 4 p_a1 c_a1 a1 qp,qy ql 4 p_a2 c_a2 a2 qp] w)(G:X7 a0 a1 a2=some r) :
  Calls Tryz.prog 108 #[vI a0,.slice p_a1 a1.length c_a1,.slice p_a2 a2.length c_a2] w λe w'=>∃ g:Gh,e = .returned (.slice (g.o 0) r.length (g.n 0))∧Zj (YR []) w w'∧Ye w.heap.size (YR []) (JS w.heap.size []) [λ_=>Ql 61 4 (g.o 0) (g.n 0) r qp] w':=by
 obtain ⟨fr,hfr,hBf⟩:=VT w []
 refine QA (args:=[vI a0,.slice p_a1 a1.length c_a1,.slice p_a2 a2.length c_a2]) 18 [(18,qy ql 4 p_a1 c_a1 a1 qp),(19,qy ql 4 p_a2 c_a2 a2 qp)] (by
  intro x hx
  simp only [List.mem_cons,List.not_mem_nil,or_false] at hx
  rcases hx with rfl | rfl
  ·exact qv (qj hB.1) (λ_ _=>trivial) (by decide) _
  ·exact qv (qj hB.2.1) (λ_ _=>trivial) (by decide) _) Tryz.func108 rfl λa H=>?_
 unfold X7 at G
 refine qg qd H (.v 6 (.slice none 0 0)<|.nil) [0,1,2,18,19] λu1 a w' H=>?_
 refine qg qd H (.v 8 (vI a0)<|.v 9 (.agg #[vI a0,vI 0,vI 0,vI 0])<|.cons [10,20] (qn (λb=>.slice (some ⟨b,0,none⟩) 1 1) (λu2=>[vI a0,vI 0,vI 0,vI 0]) 61 10 20)<|.cons [7] (qr (λu2=>.slice (some ⟨(nn u2 2),0,none⟩) 1 1) 7)<|.nil) [1,2,7,18,19,20] λu2 a w' H=>?_
 refine qs ?_
 replace H:=H.blk_row 20 (nn u2 2) [vI a0,vI 0,vI 0,vI 0] 61 4 1 (by kernel_rfl) (by kernel_rfl) (by decide)
 replace G:=gd G; obtain ⟨b4,G⟩:=G
 refine Qq qd H (.v 11 (.slice (some ⟨(nn u2 2),0,none⟩) 1 1)<|.v 12 (.slice p_a1 a1.length c_a1)<|.cons [13,20,20] (Xt [] [18] (λu3=>[qy ql 4 p_a1 c_a1 a1 qp]) 20 (λu3=>XP 61 4 (some ⟨(nn u2 2),0,none⟩) 1 1 (([(⟨a0,0,(⟨0,0⟩:qb)⟩:qt)]:List qt).flatMap qp)) (some 13) (λu3 g=>.slice (g.o 0) (([(⟨a0,0,(⟨0,0⟩:qb)⟩:qt)]:List qt)++a1).length (g.n 0)) (λu3 g=>Ql 61 4 (g.o 0) (g.n 0) (([(⟨a0,0,(⟨0,0⟩:qb)⟩:qt)]:List qt)++a1) qp) (λu3 w hF hK=>Vb (J8 (t:=59) (ty:=59) (en:=qp) (m:=a1) (p2:=p_a1) (n2:=a1.length) (cap2:=c_a1) QI (λ_=>rfl) qe0 (Qx hK) (qj hF.1).2 b4 (by kernel_rfl))))<|.cons [7] (qr (λu3=>.slice ((u3 2).o 0) ((([(⟨a0,0,(⟨0,0⟩:qb)⟩:qt)]:List qt)++a1).length) (nn u3 2)) 7)<|.nil) [2,7,19,20] λu3 a w' H=>?_
 refine qs ?_
 replace G:=gd G; obtain ⟨b6,G⟩:=G
 refine Qq qd H (.v 14 (.slice ((u3 2).o 0) ((([(⟨a0,0,(⟨0,0⟩:qb)⟩:qt)]:List qt)++a1).length) (nn u3 2))<|.v 15 (.slice p_a2 a2.length c_a2)<|.cons [16,20,20] (Xt [] [19] (λu5=>[qy ql 4 p_a2 c_a2 a2 qp]) 20 (λu5=>Ql 61 4 ((u3 2).o 0) (nn u3 2) (([(⟨a0,0,(⟨0,0⟩:qb)⟩:qt)]:List qt)++a1) qp) (some 16) (λu5 g=>.slice (g.o 0) ((([(⟨a0,0,(⟨0,0⟩:qb)⟩:qt)]:List qt)++a1)++a2).length (g.n 0)) (λu5 g=>Ql 61 4 (g.o 0) (g.n 0) ((([(⟨a0,0,(⟨0,0⟩:qb)⟩:qt)]:List qt)++a1)++a2) qp) (λu5 w hF hK=>Vb (J8 (t:=59) (ty:=59) (en:=qp) (m:=a2) (p2:=p_a2) (n2:=a2.length) (cap2:=c_a2) QI (λ_=>rfl) qe0 (Qx hK) (qj hF.1).2 b6 (by kernel_rfl))))<|.cons [7] (qr (λu5=>.slice ((u5 2).o 0) (((([(⟨a0,0,(⟨0,0⟩:qb)⟩:qt)]:List qt)++a1)++a2).length) (nn u5 2)) 7)<|.nil) [7,20] λu5 a w' H=>?_
 refine qg qd H (.v 17 (.slice ((u5 2).o 0) (((([(⟨a0,0,(⟨0,0⟩:qb)⟩:qt)]:List qt)++a1)++a2).length) (nn u5 2))<|.v 6 (.slice ((u5 2).o 0) (((([(⟨a0,0,(⟨0,0⟩:qb)⟩:qt)]:List qt)++a1)++a2).length) (nn u5 2))<|.nil) [6,20] λu7 a w' H=>?_
 refine qB ?_
 obtain rfl:=sj G
 obtain ⟨g,o0,n0⟩:=ZS ((u5 2).o 0) (nn u5 2)
 refine Qz H _ g _ _ _ fr [20] [] (.slice ((u5 2).o 0) (((([(⟨a0,0,(⟨0,0⟩:qb)⟩:qt)]:List qt)++a1)++a2).length) (nn u5 2)) [λ_=>Ql 61 4 ((u5 2).o 0) (nn u5 2) ((([(⟨a0,0,(⟨0,0⟩:qb)⟩:qt)]:List qt)++a1)++a2) qp] (by simp only [Ql,o0,n0]) (by simp only [Ql,o0,n0]) hfr (.inl ⟨rfl,rfl⟩) (qk Qf qx) (by simp)
theorem qF.calls:∀ (k0:Nat) (a0:XS) (a1:Int) (b_a0:Nat) (p_a0_raw:Option Addr) (c_a0_raw:Nat) (r:List qt×XS) (w:World) (hF:Xp [qy ql 4 p_a0_raw c_a0_raw a0.raw qp] w) (hM:V9 [.blk b_a0 [.slice p_a0_raw a0.raw.length c_a0_raw,vI a0.n] 184] ([]++[qy ql 4 p_a0_raw c_a0_raw a0.raw qp]) w) (G:qF k0 a0 a1=some r),
  Calls Tryz.prog 85 #[vP b_a0 0,vI a1] w λe w'=>∃ g:Gh,e = .returned (.slice (g.o 0) r.1.length (g.n 0))∧Zj (YR [.blk b_a0 [.slice p_a0_raw a0.raw.length c_a0_raw,vI a0.n] 184]) w w'∧Ye w.heap.size (YR [.blk b_a0 [.slice p_a0_raw a0.raw.length c_a0_raw,vI a0.n] 184]) (JS w.heap.size [qy ql 4 p_a0_raw c_a0_raw a0.raw qp]) [λ_=>Ql 61 4 (g.o 0) (g.n 0) r.1 qp,λfr=>YI fr 4 (g.o 1) r.2.raw.length (g.n 1) (r.2.raw.flatMap qp),λ_=>.blk b_a0 [.slice (g.o 1) r.2.raw.length (g.n 1),vI r.2.n] 184] w':=by
 intro k0
 induction k0 with
 | zero=>intros; rename_i G; exact absurd G (by unfold qF; exact λh=>by cases h)
 | succ k0 IH=>?_
 intro a0 a1 b_a0 p_a0_raw c_a0_raw r w hF hM G
 obtain ⟨fr,hfr,hBf⟩:=VT w [qy ql 4 p_a0_raw c_a0_raw a0.raw qp]
 refine VH (args:=[vP b_a0 0,vI a1]) 94 [(95,qy fr 4 p_a0_raw c_a0_raw a0.raw qp)] [(94,.blk b_a0 [.slice p_a0_raw a0.raw.length c_a0_raw,vI a0.n] 184)] (VC hM (by rfl)) (by
  intro x hx
  simp only [List.mem_cons,List.not_mem_nil,or_false] at hx
  rcases hx with rfl
  exact qv (qj hF.1) (λj h=>by rw [hfr]; exact .inr ⟨_,(.head _),h⟩) (by decide) _) (by rfl) Tryz.func85 rfl (by kernel_rfl) (by kernel_rfl) λa H=>?_
 unfold qF at G
 generalize qF k0=rec at G IH
 unfold qF.body at G
 refine qg qd H (.v 4 (.slice none 0 0)<|.nil) [0,1,94,95,999998] λu1 a w' H=>?_
 refine qs ?_
 refine qg qd H (.v 8 (vP b_a0 0)<|.v 9 (vP b_a0 0)<|.v 10 (vP b_a0 0)<|.cons [11] (qf (.slice p_a0_raw a0.raw.length c_a0_raw) 11 94 0 1 b_a0 [.slice p_a0_raw a0.raw.length c_a0_raw,vI a0.n] 184)<|.v 12 (vI (a0.raw.length:Int))<|.v 13 (.bool ((a0.raw.length:Int)==0))<|.nil) [0,1,13,94,95,999998] λu2 a w' H=>?_
 refine Qu H ((a0.raw.length:Int)==0) (λc36=>?_) λc36=>?_
 ·rw [if_pos c36] at G
  obtain ⟨t4,ht4,G⟩:=qO G
  obtain ⟨t5,ht5,G⟩:=qO G
  refine qg qd H (.cons [14] (qm 14 _ _ 14 [] (λu3 w _=>YF.calls 65536 t4 w ht4))<|.cons [15,96] (Qp false fr [] [] (λu3=>[]) [] (λu3=>[]) 104 _ (λu3=>[]) _ _ _ [96] 15 (λu3 w hB hF hM=>XT.calls t4 t5 w ht5) (λu3 w hF=>⟨trivial,trivial⟩) (λu3 g=>(qk Qf qx)) (.inr (λu3 g=>(Qg trivial (λK h=>by cases h)))) (λh=>by cases h))<|.cons [4] (qr (λu3=>.slice ((u3 1).o 0) t5.length (nn u3 1)) 4)<|.nil) [4,94,95,96,999998] λu3 a w' H=>?_
  refine qB ?_
  obtain rfl:=sj G
  obtain ⟨g,o0,n0,o1,n1⟩:∃ g:Gh,g.o 0=((u3 1).o 0)∧g.n 0=(nn u3 1)∧g.o 1=p_a0_raw∧g.n 1=c_a0_raw:=⟨⟨λi=>[(nn u3 1),c_a0_raw].getD i 0,λi=>[((u3 1).o 0),p_a0_raw].getD i none,λi=>([⟨Unit,()⟩,⟨Unit,()⟩]:List ((T:Type)×T)).getD i ⟨Unit,()⟩⟩,rfl,rfl,rfl,rfl⟩
  refine Qz H _ g _ _ _ fr [96,95,94] [] (.slice ((u3 1).o 0) t5.length (nn u3 1)) [λ_=>Ql 61 4 ((u3 1).o 0) (nn u3 1) t5 qp,λfr=>qy fr 4 p_a0_raw c_a0_raw a0.raw qp,λ_=>.blk b_a0 [.slice p_a0_raw a0.raw.length c_a0_raw,vI a0.n] 184] (by simp only [Ql,o0,n0,o1,n1]) (by simp only [Ql,o0,n0,o1,n1]) hfr (.inr (by kernel_rfl)) (qk Qf (qk (QP (by decide)) (qk Zg qx))) (by simp)
 ·rw [if_neg (nt c36)] at G
  refine q8 ?_
  refine qs ?_
  replace G:=gd G; obtain ⟨b7,G⟩:=G
  obtain ⟨t8,ht8,G⟩:=qO G
  refine Qq qd H (.v 16 (vP b_a0 0)<|.v 17 (vP b_a0 0)<|.v 18 (vP b_a0 0)<|.cons [19] (qf (.slice p_a0_raw a0.raw.length c_a0_raw) 19 94 0 1 b_a0 [.slice p_a0_raw a0.raw.length c_a0_raw,vI a0.n] 184)<|.cons [20] (qL 95 (qy fr 4 p_a0_raw c_a0_raw a0.raw qp) (.pointer (some ⟨XR p_a0_raw,XV p_a0_raw+((0:Int).toNat)*4,none⟩)) 20 λ_ w h=>JT 59 .i64 (0:Int) p_a0_raw a0.raw.length c_a0_raw a0.raw qp (qj h).2 QI rfl b7)<|.cons [21] (qL 95 (qy fr 4 p_a0_raw c_a0_raw a0.raw qp) (.agg #[vI t8.Op,vI t8.N,vI t8.C.Lo,vI t8.C.Hi]) 21 λ_ w h=>Y4 qp (qj h).2 QI ht8 0 4 [vI t8.Op,vI t8.N,vI t8.C.Lo,vI t8.C.Hi])<|.cons [5,97] (qn (λb=>vP b 0) (λu6=>[vI 0,vI 0,vI 0,vI 0]) 61 5 97)<|.cons [97] (QF (u':=λu6=>[(97,.blk (nn u6 6) [vI t8.Op,vI t8.N,vI t8.C.Lo,vI t8.C.Hi] 61)]) (qK 97 0 (λu6=>(nn u6 6)) (λu6=>[vI 0,vI 0,vI 0,vI 0]) (λu6=>[vI t8.Op,vI t8.N,vI t8.C.Lo,vI t8.C.Hi]) 61) (λ_=>by kernel_rfl))<|.nil) [0,1,5,94,95,97,999998] λu6 a w' H=>?_
  refine qs ?_
  replace G:=gd G; obtain ⟨b10,G⟩:=G
  refine Qq qd H (.v 22 (vP b_a0 0)<|.v 23 (vP b_a0 0)<|.v 24 (vP b_a0 0)<|.v 25 (vP b_a0 0)<|.cons [26] (qf (.slice p_a0_raw a0.raw.length c_a0_raw) 26 94 0 1 b_a0 [.slice p_a0_raw a0.raw.length c_a0_raw,vI a0.n] 184)<|.cons [27] (Zb [95] (λu9=>[qy fr 4 p_a0_raw c_a0_raw a0.raw qp]) (λu9=>.slice (XW p_a0_raw (1:Int).toNat 4 c_a0_raw) ((a0.raw.drop (1:Int).toNat).length) (c_a0_raw-(1:Int).toNat)) (λu9=>true) [true,true] 27 (λu9 w _ hF=>Zt (by kernel_rfl) (qd3 (t:=59) (sz:=4) (l:=a0.raw) (k:=.i64) rfl b10)))<|.v 28 (vP b_a0 0)<|.v 29 (vP b_a0 0)<|.cons [94] (qQ 94 0 b_a0 [.slice p_a0_raw a0.raw.length c_a0_raw,vI a0.n] [.slice (XW p_a0_raw (1:Int).toNat 4 c_a0_raw) ((a0.raw.drop (1:Int).toNat).length) (c_a0_raw-(1:Int).toNat)] 184 [.slice (XW p_a0_raw (1:Int).toNat 4 c_a0_raw) ((a0.raw.drop (1:Int).toNat).length) (c_a0_raw-(1:Int).toNat),vI a0.n])<|.nil) [0,1,5,94,95,97,999998] λu9 a w' H=>?_
  refine qg qd H (.v 30 (vP (nn u6 6) 0)<|.cons [31] (qf (vI t8.Op) 31 97 0 1 (nn u6 6) [vI t8.Op,vI t8.N,vI t8.C.Lo,vI t8.C.Hi] 61)<|.v 32 (vI (QO .i64 t8.Op 255))<|.v 33 (vI (Int.tmod (QO .i64 t8.Op 255) 10))<|.v 34 (vI (qc (1+(Int.tmod (QO .i64 t8.Op 255) 10))))<|.v 6 (vI (qc (1+(Int.tmod (QO .i64 t8.Op 255) 10))))<|.nil) [0,1,5,6,94,95,97,999998] λu11 a w' H=>?_
  refine qs ?_
  obtain ⟨t13,ht13,G⟩:=qO G
  refine qg qd H (.v 35 (vI (qc (1+(Int.tmod (QO .i64 t8.Op 255) 10))))<|.v 36 (.bool ((qc (1+(Int.tmod (QO .i64 t8.Op 255) 10)))==1))<|.v 37 (.bool ((qc (1+(Int.tmod (QO .i64 t8.Op 255) 10)))==1))<|.cons [38] (qE (λu12=>vI (qc (1+(Int.tmod (QO .i64 t8.Op 255) 10)))) (λu12=>(((qc (1+(Int.tmod (QO .i64 t8.Op 255) 10)))==1)==false)) [true] 38)<|.cons [39] (ZU 105 (λu12=>#[vI (qc (1+(Int.tmod (QO .i64 t8.Op 255) 10)))]) (vI t13) (λu12=>(((qc (1+(Int.tmod (QO .i64 t8.Op 255) 10)))==1)==false)) [true,false] 39 [] (λu12 w hg _=>Xr.calls (qc (1+(Int.tmod (QO .i64 t8.Op 255) 10))) t13 w (ifp ht13 hg)))<|.cons [40] (qE (λu12=>.bool (decide (t13>0))) (λu12=>(((qc (1+(Int.tmod (QO .i64 t8.Op 255) 10)))==1)==false)) [false,true] 40)<|.cons [41] (qE (λu12=>.bool (decide (t13>0))) (λu12=>(((qc (1+(Int.tmod (QO .i64 t8.Op 255) 10)))==1)==false)) [false] 41)<|.cons [42] (qE (λu12=>vI a1) (λu12=>((((qc (1+(Int.tmod (QO .i64 t8.Op 255) 10)))==1)==false)&&((decide (t13>0))==true))) [true] 42)<|.cons [43] (qE (λu12=>.bool (decide (a1<2))) (λu12=>((((qc (1+(Int.tmod (QO .i64 t8.Op 255) 10)))==1)==false)&&((decide (t13>0))==true))) [false,true] 43)<|.cons [44] (YH 41 43 (λu12=>(((qc (1+(Int.tmod (QO .i64 t8.Op 255) 10)))==1)==false)) (λu12=>(((qc (1+(Int.tmod (QO .i64 t8.Op 255) 10)))==1)==false)) (λu12=>decide (t13>0)) (λu12=>decide (a1<2)) 44)<|.cons [45] (Zx 37 44 (λu12=>true) (λu12=>true) (λu12=>((qc (1+(Int.tmod (QO .i64 t8.Op 255) 10)))==1)) (λu12=>((decide (t13>0))&&(decide (a1<2)))) 45)<|.nil) [0,1,5,6,45,94,95,97,999998] λu12 a w' H=>?_
  refine Qu H (((qc (1+(Int.tmod (QO .i64 t8.Op 255) 10)))==1)||((decide (t13>0))&&(decide (a1<2)))) (λc35=>?_) λc35=>?_
  ·rw [if_pos c35] at G
   obtain ⟨t15,ht15,G⟩:=qO G
   obtain ⟨t16,ht16,G⟩:=qO G
   refine qg qd H (.v 46 (vP (nn u6 6) 2)<|.cons [47] (qf (.agg #[vI t8.C.Lo,vI t8.C.Hi]) 47 97 2 2 (nn u6 6) [vI t8.Op,vI t8.N,vI t8.C.Lo,vI t8.C.Hi] 61)<|.v 48 (vP (nn u6 6) 1)<|.cons [49] (qf (vI t8.N) 49 97 1 1 (nn u6 6) [vI t8.Op,vI t8.N,vI t8.C.Lo,vI t8.C.Hi] 61)<|.v 50 (vI (QO .i64 t8.N 255))<|.v 51 (vP (nn u6 6) 1)<|.cons [52] (qf (vI t8.N) 52 97 1 1 (nn u6 6) [vI t8.Op,vI t8.N,vI t8.C.Lo,vI t8.C.Hi] 61)<|.v 53 (vI (QO .i64 t8.N 1))<|.v 54 (vI (qc ((QO .i64 t8.N 255)*(QO .i64 t8.N 1))))<|.v 55 (vI (qc (1+(qc ((QO .i64 t8.N 255)*(QO .i64 t8.N 1))))))<|.cons [56] (qm 106 _ _ 56 [] (λu14 w _=>X4.calls (⟨t8.C.Lo,t8.C.Hi⟩:qb) (qc (1+(qc ((QO .i64 t8.N 255)*(QO .i64 t8.N 1))))) t15 w ht15))<|.cons [57,98] (Qp false fr [] [] (λu14=>[]) [] (λu14=>[]) 104 _ (λu14=>[]) _ _ _ [98] 57 (λu14 w hB hF hM=>XT.calls t15 t16 w ht16) (λu14 w hF=>⟨trivial,trivial⟩) (λu14 g=>(qk Qf qx)) (.inr (λu14 g=>(Qg trivial (λK h=>by cases h)))) (λh=>by cases h))<|.cons [4] (qr (λu14=>.slice ((u14 11).o 0) t16.length (nn u14 11)) 4)<|.nil) [4,94,95,98,999998] λu14 a w' H=>?_
   refine qB ?_
   obtain rfl:=sj G
   replace H:=H.addF 99 (YI fr 4 (XW p_a0_raw (1:Int).toNat 4 c_a0_raw) ((a0.raw.drop (1:Int).toNat).length) (c_a0_raw-(1:Int).toNat) ((a0.raw.drop (1:Int).toNat).flatMap qp)) [95] [qy fr 4 p_a0_raw c_a0_raw a0.raw qp] (by kernel_rfl) (λh=>h) (by intro _ _ h; cases h) (λhF=>(qv (X3.low (en:=qp) (qj hF.1) QI b10) (λj h=>(YV hF.1 _ (Y8 (by simp) h))) (by decide) 0).2.1) (λhF j h=>⟨_,.head _,(λh=>h),(Y8 (by simp) h)⟩)
   obtain ⟨g,o0,n0,o1,n1⟩:∃ g:Gh,g.o 0=((u14 11).o 0)∧g.n 0=(nn u14 11)∧g.o 1=(XW p_a0_raw (1:Int).toNat 4 c_a0_raw)∧g.n 1=(c_a0_raw-(1:Int).toNat):=⟨⟨λi=>[(nn u14 11),(c_a0_raw-(1:Int).toNat)].getD i 0,λi=>[((u14 11).o 0),(XW p_a0_raw (1:Int).toNat 4 c_a0_raw)].getD i none,λi=>([⟨Unit,()⟩,⟨Unit,()⟩]:List ((T:Type)×T)).getD i ⟨Unit,()⟩⟩,rfl,rfl,rfl,rfl⟩
   refine Qz H _ g _ _ _ fr [98,99,94] [] (.slice ((u14 11).o 0) t16.length (nn u14 11)) [λ_=>Ql 61 4 ((u14 11).o 0) (nn u14 11) t16 qp,λfr=>YI fr 4 (XW p_a0_raw (1:Int).toNat 4 c_a0_raw) ((a0.raw.drop (1:Int).toNat).length) (c_a0_raw-(1:Int).toNat) ((a0.raw.drop (1:Int).toNat).flatMap qp),λ_=>.blk b_a0 [.slice (XW p_a0_raw (1:Int).toNat 4 c_a0_raw) ((a0.raw.drop (1:Int).toNat).length) (c_a0_raw-(1:Int).toNat),vI a0.n] 184] (by simp only [Ql,o0,n0,o1,n1]) (by simp only [Ql,o0,n0,o1,n1]) hfr (.inr (by kernel_rfl)) (qk Qf (qk (QP (by decide)) (qk Zg qx))) (by simp)
  ·rw [if_neg (nt c35)] at G
   refine q8 ?_
   refine qs ?_
   refine qg qd H (.v 58 (vI (qc (1+(Int.tmod (QO .i64 t8.Op 255) 10))))<|.v 59 (.bool ((qc (1+(Int.tmod (QO .i64 t8.Op 255) 10)))==2))<|.nil) [0,1,5,6,59,94,95,97,999998] λu17 a w' H=>?_
   refine Qu H ((qc (1+(Int.tmod (QO .i64 t8.Op 255) 10)))==2) (λc34=>?_) λc34=>?_
   ·rw [if_pos c34] at G
    refine qs ?_
    replace G:=gd G; obtain ⟨n19,G⟩:=G
    refine Qq qd H (.v 60 (vP (nn u6 6) 1)<|.cons [61] (qf (vI t8.N) 61 97 1 1 (nn u6 6) [vI t8.Op,vI t8.N,vI t8.C.Lo,vI t8.C.Hi] 61)<|.v 62 (vI (QO .i64 t8.N 255))<|.v 63 (vP b_a0 0)<|.v 64 (vP b_a0 0)<|.v 65 (vP b_a0 1)<|.cons [66] (qf (vI a0.n) 66 94 1 1 b_a0 [.slice (XW p_a0_raw (1:Int).toNat 4 c_a0_raw) ((a0.raw.drop (1:Int).toNat).length) (c_a0_raw-(1:Int).toNat),vI a0.n] 184)<|.cons [67] (qr (λu18=>vI (Int.tmod (QO .i64 t8.N 255) a0.n)) 67 (hv:=λ_ _=>Zt (by kernel_rfl) (qax (k:=.i64) (x:=QO .i64 t8.N 255) (y:=a0.n) n19)))<|.v 68 (.agg #[vI 2,vI (Int.tmod (QO .i64 t8.N 255) a0.n),vI 0,vI 0])<|.cons [69,100] (qn (λb=>.slice (some ⟨b,0,none⟩) 1 1) (λu18=>[vI 2,vI (Int.tmod (QO .i64 t8.N 255) a0.n),vI 0,vI 0]) 61 69 100)<|.cons [4] (qr (λu18=>.slice (some ⟨(nn u18 9),0,none⟩) 1 1) 4)<|.nil) [4,94,95,100,999998] λu18 a w' H=>?_
    refine qB ?_
    obtain rfl:=sj G
    replace H:=H.blk_row 100 (nn u18 9) [vI 2,vI (Int.tmod (QO .i64 t8.N 255) a0.n),vI 0,vI 0] 61 4 1 (by kernel_rfl) (by kernel_rfl) (by decide)
    replace H:=H.addF 101 (YI fr 4 (XW p_a0_raw (1:Int).toNat 4 c_a0_raw) ((a0.raw.drop (1:Int).toNat).length) (c_a0_raw-(1:Int).toNat) ((a0.raw.drop (1:Int).toNat).flatMap qp)) [95] [qy fr 4 p_a0_raw c_a0_raw a0.raw qp] (by kernel_rfl) (λh=>h) (by intro _ _ h; cases h) (λhF=>(qv (X3.low (en:=qp) (qj hF.1) QI b10) (λj h=>(YV hF.1 _ (Y8 (by simp) h))) (by decide) 0).2.1) (λhF j h=>⟨_,.head _,(λh=>h),(Y8 (by simp) h)⟩)
    obtain ⟨g,o0,n0,o1,n1⟩:∃ g:Gh,g.o 0=(some ⟨(nn u18 9),0,none⟩)∧g.n 0=1∧g.o 1=(XW p_a0_raw (1:Int).toNat 4 c_a0_raw)∧g.n 1=(c_a0_raw-(1:Int).toNat):=⟨⟨λi=>[1,(c_a0_raw-(1:Int).toNat)].getD i 0,λi=>[(some ⟨(nn u18 9),0,none⟩),(XW p_a0_raw (1:Int).toNat 4 c_a0_raw)].getD i none,λi=>([⟨Unit,()⟩,⟨Unit,()⟩]:List ((T:Type)×T)).getD i ⟨Unit,()⟩⟩,rfl,rfl,rfl,rfl⟩
    refine Qz H _ g _ _ _ fr [100,101,94] [] (.slice (some ⟨(nn u18 9),0,none⟩) 1 1) [λ_=>XP 61 4 (some ⟨(nn u18 9),0,none⟩) 1 1 (([(⟨2,Int.tmod (QO .i64 t8.N 255) a0.n,(⟨0,0⟩:qb)⟩:qt)]:List qt).flatMap qp),λfr=>YI fr 4 (XW p_a0_raw (1:Int).toNat 4 c_a0_raw) ((a0.raw.drop (1:Int).toNat).length) (c_a0_raw-(1:Int).toNat) ((a0.raw.drop (1:Int).toNat).flatMap qp),λ_=>.blk b_a0 [.slice (XW p_a0_raw (1:Int).toNat 4 c_a0_raw) ((a0.raw.drop (1:Int).toNat).length) (c_a0_raw-(1:Int).toNat),vI a0.n] 184] (by simp only [Ql,o0,n0,o1,n1,List.length_set,List.length_cons,List.length_nil,Nat.zero_add,Nat.reduceAdd]) (by simp only [Ql,o0,n0,o1,n1,List.length_set,List.length_cons,List.length_nil,Nat.zero_add,Nat.reduceAdd]) hfr (.inr (by kernel_rfl)) (qk Qf (qk (QP (by decide)) (qk Zg qx))) (by simp)
   ·rw [if_neg (nt c34)] at G
    refine q8 ?_
    refine qs ?_
    refine qg qd H (.v 70 (vI (qc (1+(Int.tmod (QO .i64 t8.Op 255) 10))))<|.v 71 (.bool ((qc (1+(Int.tmod (QO .i64 t8.Op 255) 10)))==3))<|.nil) [0,1,6,71,94,95,999998] λu20 a w' H=>?_
    refine Qu H ((qc (1+(Int.tmod (QO .i64 t8.Op 255) 10)))==3) (λc33=>?_) λc33=>?_
    ·rw [if_pos c33] at G
     refine qg qd H (.v 72 (.agg #[vI 3,vI 0,vI 0,vI 0])<|.cons [73,102] (qn (λb=>.slice (some ⟨b,0,none⟩) 1 1) (λu21=>[vI 3,vI 0,vI 0,vI 0]) 61 73 102)<|.cons [4] (qr (λu21=>.slice (some ⟨(nn u21 1),0,none⟩) 1 1) 4)<|.nil) [4,94,95,102,999998] λu21 a w' H=>?_
     refine qB ?_
     obtain rfl:=sj G
     replace H:=H.blk_row 102 (nn u21 1) [vI 3,vI 0,vI 0,vI 0] 61 4 1 (by kernel_rfl) (by kernel_rfl) (by decide)
     replace H:=H.addF 103 (YI fr 4 (XW p_a0_raw (1:Int).toNat 4 c_a0_raw) ((a0.raw.drop (1:Int).toNat).length) (c_a0_raw-(1:Int).toNat) ((a0.raw.drop (1:Int).toNat).flatMap qp)) [95] [qy fr 4 p_a0_raw c_a0_raw a0.raw qp] (by kernel_rfl) (λh=>h) (by intro _ _ h; cases h) (λhF=>(qv (X3.low (en:=qp) (qj hF.1) QI b10) (λj h=>(YV hF.1 _ (Y8 (by simp) h))) (by decide) 0).2.1) (λhF j h=>⟨_,.head _,(λh=>h),(Y8 (by simp) h)⟩)
     obtain ⟨g,o0,n0,o1,n1⟩:∃ g:Gh,g.o 0=(some ⟨(nn u21 1),0,none⟩)∧g.n 0=1∧g.o 1=(XW p_a0_raw (1:Int).toNat 4 c_a0_raw)∧g.n 1=(c_a0_raw-(1:Int).toNat):=⟨⟨λi=>[1,(c_a0_raw-(1:Int).toNat)].getD i 0,λi=>[(some ⟨(nn u21 1),0,none⟩),(XW p_a0_raw (1:Int).toNat 4 c_a0_raw)].getD i none,λi=>([⟨Unit,()⟩,⟨Unit,()⟩]:List ((T:Type)×T)).getD i ⟨Unit,()⟩⟩,rfl,rfl,rfl,rfl⟩
     refine Qz H _ g _ _ _ fr [102,103,94] [] (.slice (some ⟨(nn u21 1),0,none⟩) 1 1) [λ_=>XP 61 4 (some ⟨(nn u21 1),0,none⟩) 1 1 (([(⟨3,0,(⟨0,0⟩:qb)⟩:qt)]:List qt).flatMap qp),λfr=>YI fr 4 (XW p_a0_raw (1:Int).toNat 4 c_a0_raw) ((a0.raw.drop (1:Int).toNat).length) (c_a0_raw-(1:Int).toNat) ((a0.raw.drop (1:Int).toNat).flatMap qp),λ_=>.blk b_a0 [.slice (XW p_a0_raw (1:Int).toNat 4 c_a0_raw) ((a0.raw.drop (1:Int).toNat).length) (c_a0_raw-(1:Int).toNat),vI a0.n] 184] (by simp only [Ql,o0,n0,o1,n1,List.length_set,List.length_cons,List.length_nil,Nat.zero_add,Nat.reduceAdd]) (by simp only [Ql,o0,n0,o1,n1,List.length_set,List.length_cons,List.length_nil,Nat.zero_add,Nat.reduceAdd]) hfr (.inr (by kernel_rfl)) (qk Qf (qk (QP (by decide)) (qk Zg qx))) (by simp)
    ·rw [if_neg (nt c33)] at G
     refine q8 ?_
     refine qs ?_
     obtain ⟨t23,ht23,G⟩:=qO G
     refine qg qd H (.v 74 (vI (qc (1+(Int.tmod (QO .i64 t8.Op 255) 10))))<|.cons [75] (qm 105 _ _ 75 [] (λu22 w _=>Xr.calls (qc (1+(Int.tmod (QO .i64 t8.Op 255) 10))) t23 w ht23))<|.v 76 (.bool (t23==1))<|.nil) [0,1,6,76,94,95,999998] λu22 a w' H=>?_
     refine Qu H (t23==1) (λc32=>?_) λc32=>?_
     ·rw [if_pos c32] at G
      obtain ⟨t25,ht25,G⟩:=qO G
      obtain ⟨t26,ht26,G⟩:=qO G
      refine qg qd H (.v 77 (vI (qc (1+(Int.tmod (QO .i64 t8.Op 255) 10))))<|.v 78 (vP b_a0 0)<|.v 79 (vI a1)<|.v 80 (vI (qc (a1-1)))<|.cons [81,94,104,105,94] (Qp true fr [] [95] (λu24=>[qy fr 4 p_a0_raw c_a0_raw a0.raw qp]) [94] (λu24=>[.blk b_a0 [.slice (XW p_a0_raw (1:Int).toNat 4 c_a0_raw) ((a0.raw.drop (1:Int).toNat).length) (c_a0_raw-(1:Int).toNat),vI a0.n] 184]) 85 _ (λu24=>[]) _ _ _ [104,105,94] 81 (λu24 w hB hF hM=>IH (⟨(a0.raw.drop (1:Int).toNat),a0.n⟩:XS) (qc (a1-1)) b_a0 (XW p_a0_raw (1:Int).toNat 4 c_a0_raw) (c_a0_raw-(1:Int).toNat) t25 w hF hM ht25) (λu24 w hF=>⟨trivial,⟨Zv (X3.low (en:=qp) (qj hF.1) QI b10) (λj h=>Zw (.head _) (λh=>h) (Y8 (by simp) h) (YV hF.1 _ (Y8 (by simp) h))),trivial⟩⟩) (λu24 g=>(qk Qf (qk (QP (by decide)) (qk Zg qx)))) (.inl rfl) (λ_=>hBf))<|.cons [82,106] (Qp false fr [4] [104] (λu24=>[Ql 61 4 ((u24 4).o 0) (nn u24 4) t25.1 qp]) [] (λu24=>[]) 107 _ _ _ _ _ [106] 82 (λu24 w hB hF hM=>Yj.calls (qc (1+(Int.tmod (QO .i64 t8.Op 255) 10))) t25.1 ((u24 4).o 0) (nn u24 4) t26 w hB ht26) (λu24 w hF=>⟨⟨qP (qH (Qx hF.1)) (λj h=>⟨_,(.head _),(YC h)⟩),trivial⟩,trivial⟩) (λu24 g=>(qk Qf qx)) (.inr (λu24 g=>(Qg trivial (λK h=>by cases h)))) (λh=>by cases h) (hloc:=λu u' h=>by refine ⟨?_,?_,?_,?_,?_,?_⟩ <;> first | rfl | simp only [nn, h 4 (by decide)]))<|.cons [4] (qr (λu24=>.slice ((u24 5).o 0) t26.length (nn u24 5)) 4)<|.nil) [4,94,105,106,999998] λu24 a w' H=>?_
      refine qB ?_
      obtain rfl:=sj G
      obtain ⟨g,o0,n0,o1,n1⟩:∃ g:Gh,g.o 0=((u24 5).o 0)∧g.n 0=(nn u24 5)∧g.o 1=((u24 4).o 1)∧g.n 1=((u24 4).n 1):=⟨⟨λi=>[(nn u24 5),((u24 4).n 1)].getD i 0,λi=>[((u24 5).o 0),((u24 4).o 1)].getD i none,λi=>([⟨Unit,()⟩,⟨Unit,()⟩]:List ((T:Type)×T)).getD i ⟨Unit,()⟩⟩,rfl,rfl,rfl,rfl⟩
      refine Qz H _ g _ _ _ fr [106,105,94] [] (.slice ((u24 5).o 0) t26.length (nn u24 5)) [λ_=>Ql 61 4 ((u24 5).o 0) (nn u24 5) t26 qp,λfr=>YI fr 4 ((u24 4).o 1) t25.2.raw.length ((u24 4).n 1) (t25.2.raw.flatMap qp),λ_=>.blk b_a0 [.slice ((u24 4).o 1) t25.2.raw.length ((u24 4).n 1),vI t25.2.n] 184] (by simp only [Ql,o0,n0,o1,n1]) (by simp only [Ql,o0,n0,o1,n1]) hfr (.inr (by kernel_rfl)) (qk Qf (qk (QP (by decide)) (qk Zg qx))) (by simp)
     ·rw [if_neg (nt c32)] at G
      refine q8 ?_
      obtain ⟨t28,ht28,G⟩:=qO G
      refine qg qd H (.v 83 (vP b_a0 0)<|.v 84 (vI a1)<|.v 85 (vI (qc (a1-1)))<|.cons [86,94,107,108,94] (Qp true fr [] [95] (λu27=>[qy fr 4 p_a0_raw c_a0_raw a0.raw qp]) [94] (λu27=>[.blk b_a0 [.slice (XW p_a0_raw (1:Int).toNat 4 c_a0_raw) ((a0.raw.drop (1:Int).toNat).length) (c_a0_raw-(1:Int).toNat),vI a0.n] 184]) 85 _ (λu27=>[]) _ _ _ [107,108,94] 86 (λu27 w hB hF hM=>IH (⟨(a0.raw.drop (1:Int).toNat),a0.n⟩:XS) (qc (a1-1)) b_a0 (XW p_a0_raw (1:Int).toNat 4 c_a0_raw) (c_a0_raw-(1:Int).toNat) t28 w hF hM ht28) (λu27 w hF=>⟨trivial,⟨Zv (X3.low (en:=qp) (qj hF.1) QI b10) (λj h=>Zw (.head _) (λh=>h) (Y8 (by simp) h) (YV hF.1 _ (Y8 (by simp) h))),trivial⟩⟩) (λu27 g=>(qk Qf (qk (QP (by decide)) (qk Zg qx)))) (.inl rfl) (λ_=>hBf))<|.cons [7] (qr (λu27=>.slice ((u27 3).o 0) t28.1.length (nn u27 3)) 7)<|.nil) [0,1,6,7,94,107,108,999998] λu27 a w' H=>?_
      obtain ⟨t30,ht30,G⟩:=qO G
      obtain ⟨t31,ht31,G⟩:=qO G
      refine qg qd H (.v 87 (vI (qc (1+(Int.tmod (QO .i64 t8.Op 255) 10))))<|.v 88 (.slice ((u27 3).o 0) t28.1.length (nn u27 3))<|.v 89 (vP b_a0 0)<|.v 90 (vI a1)<|.v 91 (vI (qc (a1-1)))<|.cons [92,94,109,110,94] (Qp true fr [] [108] (λu29=>[YI fr 4 ((u27 3).o 1) t28.2.raw.length ((u27 3).n 1) (t28.2.raw.flatMap qp)]) [94] (λu29=>[.blk b_a0 [.slice ((u27 3).o 1) t28.2.raw.length ((u27 3).n 1),vI t28.2.n] 184]) 85 _ (λu29=>[]) _ _ _ [109,110,94] 92 (λu29 w hB hF hM=>IH (⟨t28.2.raw,t28.2.n⟩:XS) (qc (a1-1)) b_a0 ((u27 3).o 1) ((u27 3).n 1) t30 w hF hM ht30) (λu29 w hF=>⟨trivial,⟨Zv (qj hF.1) (λj h=>Zw (.head _) (λh=>h) h (YV hF.1 _ h)),trivial⟩⟩) (λu29 g=>(qk Qf (qk (QP (by decide)) (qk Zg qx)))) (.inl rfl) (λ_=>hBf))<|.cons [93,111] (Qp false fr [5] [107,109] (λu29=>[Ql 61 4 ((u27 3).o 0) (nn u27 3) t28.1 qp,Ql 61 4 ((u29 5).o 0) (nn u29 5) t30.1 qp]) [] (λu29=>[]) 108 _ _ _ _ _ [111] 93 (λu29 w hB hF hM=>X7.calls (qc (1+(Int.tmod (QO .i64 t8.Op 255) 10))) t28.1 t30.1 ((u27 3).o 0) (nn u27 3) ((u29 5).o 0) (nn u29 5) t31 w hB ht31) (λu29 w hF=>⟨⟨qP (qH (Qx hF.1)) (λj h=>⟨_,(.head _),(YC h)⟩),qP (qH (Qx hF.2.1)) (λj h=>⟨_,(.tail _ (.head _)),(YC h)⟩),trivial⟩,trivial⟩) (λu29 g=>(qk Qf qx)) (.inr (λu29 g=>(Qg trivial (λK h=>by cases h)))) (λh=>by cases h) (hloc:=λu u' h=>by refine ⟨?_,?_,?_,?_,?_,?_⟩ <;> first | rfl | simp only [nn, h 5 (by decide)]))<|.cons [4] (qr (λu29=>.slice ((u29 6).o 0) t31.length (nn u29 6)) 4)<|.nil) [4,94,110,111,999998] λu29 a w' H=>?_
      refine qB ?_
      obtain rfl:=sj G
      obtain ⟨g,o0,n0,o1,n1⟩:∃ g:Gh,g.o 0=((u29 6).o 0)∧g.n 0=(nn u29 6)∧g.o 1=((u29 5).o 1)∧g.n 1=((u29 5).n 1):=⟨⟨λi=>[(nn u29 6),((u29 5).n 1)].getD i 0,λi=>[((u29 6).o 0),((u29 5).o 1)].getD i none,λi=>([⟨Unit,()⟩,⟨Unit,()⟩]:List ((T:Type)×T)).getD i ⟨Unit,()⟩⟩,rfl,rfl,rfl,rfl⟩
      refine Qz H _ g _ _ _ fr [111,110,94] [] (.slice ((u29 6).o 0) t31.length (nn u29 6)) [λ_=>Ql 61 4 ((u29 6).o 0) (nn u29 6) t31 qp,λfr=>YI fr 4 ((u29 5).o 1) t30.2.raw.length ((u29 5).n 1) (t30.2.raw.flatMap qp),λ_=>.blk b_a0 [.slice ((u29 5).o 1) t30.2.raw.length ((u29 5).n 1),vI t30.2.n] 184] (by simp only [Ql,o0,n0,o1,n1]) (by simp only [Ql,o0,n0,o1,n1]) hfr (.inr (by kernel_rfl)) (qk Qf (qk (QP (by decide)) (qk Zg qx))) (by simp)
theorem X2.calls (k0:Nat)(a0:List qt)(a1:Int)(a2:Int)(p_a0:Option Addr)(c_a0:Nat)(r:List qt)(w:World)(hF:Xp [qy ql 4 p_a0 c_a0 a0 qp] w)(G:X2 k0 a0 a1 a2=some r) :
  Calls Tryz.prog 65 #[.slice p_a0 a0.length c_a0,vI a1,vI a2] w λe w'=>∃ g:Gh,e = .returned (.slice (g.o 0) r.length (g.n 0))∧Zj (YR []) w w'∧Ye w.heap.size (YR []) (JS w.heap.size [qy ql 4 p_a0 c_a0 a0 qp]) [λ_=>Ql 61 4 (g.o 0) (g.n 0) r qp] w':=by
 obtain ⟨fr,hfr,hBf⟩:=VT w [qy ql 4 p_a0 c_a0 a0 qp]
 refine QA (args:=[.slice p_a0 a0.length c_a0,vI a1,vI a2]) 19 [(19,qy fr 4 p_a0 c_a0 a0 qp)] (by
  intro x hx
  simp only [List.mem_cons,List.not_mem_nil,or_false] at hx
  rcases hx with rfl
  exact qv (qj hF.1) (λj h=>by rw [hfr]; exact .inr ⟨_,(.head _),h⟩) (by decide) _) Tryz.func65 rfl λa H=>?_
 unfold X2 at G
 refine qg qd H (.v 6 (.slice none 0 0)<|.nil) [0,1,2,19] λu1 a w' H=>?_
 refine qs ?_
 replace G:=gd G; obtain ⟨b3,G⟩:=G
 refine Qq qd H (.v 8 (.slice p_a0 a0.length c_a0)<|.v 9 (.slice p_a0 a0.length c_a0)<|.v 10 (vI (a0.length:Int))<|.v 11 (vI a1)<|.v 12 (vI (mn (a0.length:Int) a1))<|.cons [13] (Zb [19] (λu2=>[qy fr 4 p_a0 c_a0 a0 qp]) (λu2=>.slice p_a0 ((a0.take (mn (a0.length:Int) a1).toNat).length) c_a0) (λu2=>true) [true,true] 13 (λu2 w _ hF=>Zt (by kernel_rfl) (qf0 (t:=59) (sz:=4) (l:=a0) (k:=.i64) rfl b3 (qj hF.1).1)))<|.v 14 (vI a2)<|.v 15 (.agg #[.slice p_a0 ((a0.take (mn (a0.length:Int) a1).toNat).length) c_a0,vI a2])<|.cons [16,20] (qn (λb=>vP b 0) (λu2=>[.slice p_a0 ((a0.take (mn (a0.length:Int) a1).toNat).length) c_a0,vI a2]) 184 16 20)<|.cons [7] (qr (λu2=>vP (nn u2 8) 0) 7)<|.nil) [7,19,20] λu2 a w' H=>?_
 obtain ⟨t5,ht5,G⟩:=qO G
 refine qg qd H (.v 17 (vP (nn u2 8) 0)<|.cons [18,20,21,22,20] (Qp true fr [] [19] (λu4=>[qy fr 4 p_a0 c_a0 a0 qp]) [20] (λu4=>[.blk (nn u2 8) [.slice p_a0 ((a0.take (mn (a0.length:Int) a1).toNat).length) c_a0,vI a2] 184]) 85 _ (λu4=>[]) _ _ _ [21,22,20] 18 (λu4 w hB hF hM=>qF.calls k0 (⟨(a0.take (mn (a0.length:Int) a1).toNat),a2⟩:XS) 5 (nn u2 8) p_a0 c_a0 t5 w hF hM ht5) (λu4 w hF=>⟨trivial,⟨Zv (X3.high (en:=qp) (qj hF.1) QI b3) (λj h=>Zw (.head _) (λh=>h) (qaO (List.length_take_le_self _ _) h) (YV hF.1 _ (qaO (List.length_take_le_self _ _) h))),trivial⟩⟩) (λu4 g=>(qk Qf (qk (QP (by decide)) (qk Zg qx)))) (.inl rfl) (λ_=>hBf))<|.cons [6] (qr (λu4=>.slice ((u4 1).o 0) t5.1.length (nn u4 1)) 6)<|.nil) [6,21] λu4 a w' H=>?_
 refine qB ?_
 obtain rfl:=sj G
 obtain ⟨g,o0,n0⟩:=ZS ((u4 1).o 0) (nn u4 1)
 refine Qz H _ g _ _ _ fr [21] [] (.slice ((u4 1).o 0) t5.1.length (nn u4 1)) [λ_=>Ql 61 4 ((u4 1).o 0) (nn u4 1) t5.1 qp] (by simp only [Ql,o0,n0]) (by simp only [Ql,o0,n0]) hfr (.inl ⟨rfl,rfl⟩) (qk Qf qx) (by simp)
theorem qS.calls (k0:Nat)(a0:List (List qt))(a1:Int)(a2:Int)(p_a0:Option Addr)(c_a0:Nat)(L_a0:List (Sl qt))(r:Zc)(w:World)(h_a0:a0=L_a0.map Sl.l)(hB:Xp [qy ql 1 p_a0 c_a0 L_a0 Qo] w)(hF:Xp [Yk ql QL.toPart L_a0] w)(G:qS k0 a0 a1 a2=some r) :
  Calls Tryz.prog 42 #[.slice p_a0 L_a0.length c_a0,vI a1,vI a2] w λe w'=>∃ g:Gh,e = .returned (.agg #[.slice (g.o 0) r.Names.length (g.n 0),.slice (g.o 1) ((g.dl Sl.l q9 1 r.F).length) (g.n 1)])∧Zj (YR []) w w'∧Ye w.heap.size (YR []) (JS w.heap.size [Yk ql QL.toPart L_a0]) [λ_=>XP 9 1 (g.o 0) r.Names.length (g.n 0) (r.Names.flatMap Y1),λ_=>Zz 59 61 4 qp (g.o 1) ((g.dl Sl.l q9 1 r.F).length) (g.n 1) (g.dl Sl.l q9 1 r.F) (g.dl Sl.l q9 1 r.F)] w':=by
 obtain ⟨fr,hfr⟩:∃ fr:Nat->Prop,fr=JS w.heap.size [Yk ql QL.toPart L_a0]:=⟨_,rfl⟩
 have hBf:∀ j,w.heap.size<=j->fr j:=λj h=>by rw [hfr]; exact .inl h
 refine QA (args:=[.slice p_a0 L_a0.length c_a0,vI a1,vI a2]) 46 [(46,qy ql 1 p_a0 c_a0 L_a0 Qo),(47,Yk fr QL.toPart L_a0)] (by
  intro x hx
  simp only [List.mem_cons,List.not_mem_nil,or_false] at hx
  rcases hx with rfl | rfl
  ·exact qv (qj hB.1) (λ_ _=>trivial) (by decide) _
  ·exact ZV (XB hF.1) (λj h=>by rw [hfr]; exact .inr ⟨_,(.head _),h⟩) _) Tryz.func42 rfl λa H=>?_
 unfold qS at G
 refine qs ?_
 refine JG qd H (.cons [6,48] (qn (λb=>vP b 0) (λu1=>[.slice none 0 0,.slice none 0 0]) 43 6 48)<|.nil) λu1 a w' H=>?_
 replace H:=H.kp [0,1,2,6,46,47,48]
 refine qs ?_
 refine JG qd H (.v 11 (.agg #[.slice none 0 0,.slice none 0 0])<|.cons [12,49] (qn (λb=>.slice (some ⟨b,0,none⟩) 6 6) (λu2=>[.string (⟨#[120]⟩:ByteArray),.string (⟨#[121]⟩:ByteArray),.string (⟨#[118,120]⟩:ByteArray),.string (⟨#[118,121]⟩:ByteArray),.string (⟨#[97,49]⟩:ByteArray),.string (⟨#[122,122]⟩:ByteArray)]) 9 12 49)<|.cons [7,50] (qn (λb=>vP b 0) (λu2=>[.slice none 0 0,.slice none 0 0]) 43 7 50)<|.cons [50] (QF (u':=λu2=>[(50,.blk (nn u2 2) [.slice none 0 0,.slice none 0 0] 43)]) (qK 50 0 (λu2=>(nn u2 2)) (λu2=>[.slice none 0 0,.slice none 0 0]) (λu2=>[.slice none 0 0,.slice none 0 0]) 43) (λ_=>by kernel_rfl))<|.cons [8] (qr (λu2=>.slice (some ⟨(nn u2 1),0,none⟩) 6 6) 8)<|.nil) λu2 a w' H=>?_
 replace H:=H.kp [0,1,2,6,7,8,46,47,48,49,50]
 refine qs ?_
 replace G:=qO G; obtain ⟨j5,hj5,G⟩:=G
 refine Xu (λa w'=>∃ (p_j3:Option Addr) (c_j3 np_j3:Nat),np_j3=j5.1.length ∧ ∃ (p_j4:Option Addr) (c_j4 np_j4:Nat) (L_j4:List (Sl qt)),np_j4=L_j4.length∧j5.2=L_j4.map Sl.l∧QB w.heap.size w 46 (Jf [(6,(sP (nn u1 0) 0)),(7,(sP (nn u2 2) 0)),(48,.blk (nn u1 0) [.slice none 0 0,.slice none 0 0] 43),(50,.blk (nn u2 2) [.slice p_j3 np_j3 c_j3,.slice p_j4 np_j4 c_j4] 43),(900072,XP 9 1 p_j3 np_j3 c_j3 (j5.1.flatMap Y1)),(900073,Zz 59 61 4 qp p_j4 np_j4 c_j4 L_j4 L_j4)]) a w') ?_ ?_
 ·clear H; rintro a w' ⟨p_j3,c_j3,_,rfl,p_j4,c_j4,_,L_j4,rfl,h_j4,H⟩
  refine qs ?_
  refine JG qd H (.cons [45] (VD (λu6=>.agg #[.slice p_j3 j5.1.length c_j3,.slice p_j4 L_j4.length c_j4]) 45 50 0 2 (λu6=>(nn u2 2)) (λu6=>[.slice p_j3 j5.1.length c_j3,.slice p_j4 L_j4.length c_j4]) 43)<|.cons [48] (QF (u':=λu6=>[(48,.blk (nn u1 0) [.slice p_j3 j5.1.length c_j3,.slice p_j4 L_j4.length c_j4] 43)]) (qK 48 0 (λu6=>(nn u1 0)) (λu6=>[.slice none 0 0,.slice none 0 0]) (λu6=>[.slice p_j3 j5.1.length c_j3,.slice p_j4 L_j4.length c_j4]) 43) (λ_=>by kernel_rfl))<|.nil) λu6 a w' H=>?_
  replace H:=H.kp [6,48,900072,900073]
  refine qB ?_
  obtain rfl:=Option.some.inj G
  obtain ⟨g,o0,n0,o1,n1,d1⟩:∃ g:Gh,g.o 0=p_j3∧g.n 0=c_j3∧g.o 1=p_j4∧g.n 1=c_j4∧g.dl Sl.l q9 1 j5.2=L_j4:=⟨⟨λi=>[c_j3,c_j4].getD i 0,λi=>[p_j3,p_j4].getD i none,λi=>([⟨Unit,()⟩,⟨List (Sl qt),L_j4⟩]:List ((T:Type)×T)).getD i ⟨Unit,()⟩⟩,rfl,rfl,rfl,rfl,qdZ rfl h_j4⟩
  refine Qz H (λg=>.agg #[.slice (g.o 0) j5.1.length (g.n 0),.slice (g.o 1) ((g.dl Sl.l q9 1 j5.2).length) (g.n 1)]) g [] [Yk ql QL.toPart L_a0] (λg=>[λ_=>XP 9 1 (g.o 0) j5.1.length (g.n 0) (j5.1.flatMap Y1),λ_=>Zz 59 61 4 qp (g.o 1) ((g.dl Sl.l q9 1 j5.2).length) (g.n 1) (g.dl Sl.l q9 1 j5.2) (g.dl Sl.l q9 1 j5.2)]) fr [900072,900073] [(48,⟨(nn u1 0),[.slice p_j3 j5.1.length c_j3,.slice p_j4 L_j4.length c_j4],0,2⟩)] (.agg #[.slice p_j3 j5.1.length c_j3,.slice p_j4 L_j4.length c_j4]) [λ_=>XP 9 1 p_j3 j5.1.length c_j3 (j5.1.flatMap Y1),λ_=>Zz 59 61 4 qp p_j4 L_j4.length c_j4 L_j4 L_j4] (by simp only [o0,n0,o1,n1,d1]) (by simp only [o0,n0,o1,n1,d1]) hfr (.inl ⟨rfl,rfl⟩) (qk Qf (qk Jk qx)) (by intro p hp; simp only [List.mem_cons,List.not_mem_nil,or_false] at hp; rcases hp with rfl; exact ⟨⟨43,by kernel_rfl⟩,by kernel_rfl⟩)
 ·clear G; replace G:=hj5; clear hj5
  refine qs ?_
  refine JG qd H (.v 9 (vI 0)<|.nil) λu7 a w' H=>?_
  replace H:=H.kp [0,1,2,6,7,8,9,46,47,48,49,50]
  refine qV ?_
  replace H:=H.nil_row 65 9 1
  replace H:=H.nil_row 67 59 1
  replace H:=H.nest0 (e:=59) (m:=0) (cap:=0) (p:=none) (H:=([]:List (Sl qt))) 67 61 4 qp (by kernel_rfl) (λx h=>by cases h)
  replace H:=H.move (K:=XP 9 1 none 0 0 (([]:List ByteArray).flatMap Y1)) 65 900075 (by kernel_rfl) (by intro _ _ h; cases h)
  replace H:=H.move (K:=Zz 59 61 4 qp none 0 0 ([]:List (Sl qt)) ([]:List (Sl qt))) 67 900076 (by kernel_rfl) (by intro _ _ h; cases h)
  refine XY (λm a w'=>∃ x8:List ByteArray,∃ x9:List (List qt),∃ x10:Int,qS.l11 k0 a0 a1 a2 m x8 x9 x10=some j5 ∧ ∃ (p_x8:Option Addr) (c_x8 np_x8:Nat),np_x8=x8.length ∧ ∃ (p_x9:Option Addr) (c_x9 np_x9:Nat) (L_x9:List (Sl qt)),np_x9=L_x9.length∧x9=L_x9.map Sl.l∧QB w.heap.size w 46 (Jf [(0,sS p_a0 L_a0.length c_a0),(1,sI a1),(2,sI a2),(6,(sP (nn u1 0) 0)),(7,(sP (nn u2 2) 0)),(8,(sS (some ⟨(nn u2 1),0,none⟩) 6 6)),(9,sI x10),(46,qy ql 1 p_a0 c_a0 L_a0 Qo),(47,Yk fr QL.toPart L_a0),(48,.blk (nn u1 0) [.slice none 0 0,.slice none 0 0] 43),(49,.blk (nn u2 1) [.string (⟨#[120]⟩:ByteArray),.string (⟨#[121]⟩:ByteArray),.string (⟨#[118,120]⟩:ByteArray),.string (⟨#[118,121]⟩:ByteArray),.string (⟨#[97,49]⟩:ByteArray),.string (⟨#[122,122]⟩:ByteArray)] 9),(50,.blk (nn u2 2) [.slice p_x8 np_x8 c_x8,.slice p_x9 np_x9 c_x9] 43),(900075,XP 9 1 p_x8 np_x8 c_x8 (x8.flatMap Y1)),(900076,Zz 59 61 4 qp p_x9 np_x9 c_x9 L_x9 L_x9)]) a w') k0 ⟨_,_,_,G,none,0,0,rfl,none,0,0,([]:List (Sl qt)),rfl,rfl,H.toL _ (by kernel_rfl)⟩ ?_
  clear G H
  rintro (_ | k) a w' ⟨x8,x9,x10,G,p_x8,c_x8,_,rfl,p_x9,c_x9,_,L_x9,rfl,h_x9,H⟩
  ·exact absurd G (by unfold qS.l11; exact λh=>by cases h)
  ·unfold qS.l11 at G
   refine qs ?_
   refine qs ?_
   refine JG qd H (.v 13 (vI x10)<|.v 14 (vI a2)<|.v 15 (.bool (decide (x10<a2)))<|.nil) λu12 a w' H=>?_
   replace H:=H.kp [0,1,2,6,7,8,9,15,46,47,48,49,50,900075,900076]
   refine qaT H (by kernel_rfl) (t:=decide (x10<a2)) (by kernel_rfl) (λc29=>?_) (λc29=>?_)
   ·rw [if_pos c29] at G
    refine q8 ?_
    refine qs ?_
    refine qV ?_
    refine qs ?_
    refine JG qd H (.cons [18,51] (qn (λb=>.slice (some ⟨b,0,none⟩) 0 0) (λu13=>[]) 61 18 51)<|.cons [10] (qr (λu13=>.slice (some ⟨(nn u13 0),0,none⟩) 0 0) 10)<|.nil) λu13 a w' H=>?_
    replace H:=H.kp [0,1,2,6,7,8,9,10,46,47,48,49,50,51,900075,900076]
    refine qs ?_
    replace G:=qO G; obtain ⟨j15,hj15,G⟩:=G
    refine Xu (λa w'=>∃ (p_j14:Option Addr) (c_j14 np_j14:Nat),np_j14=j15.length∧QB w.heap.size w 46 (Jf [(0,sS p_a0 L_a0.length c_a0),(1,sI a1),(2,sI a2),(6,(sP (nn u1 0) 0)),(7,(sP (nn u2 2) 0)),(8,(sS (some ⟨(nn u2 1),0,none⟩) 6 6)),(9,sI x10),(10,sS p_j14 np_j14 c_j14),(46,qy ql 1 p_a0 c_a0 L_a0 Qo),(47,Yk fr QL.toPart L_a0),(48,.blk (nn u1 0) [.slice none 0 0,.slice none 0 0] 43),(49,.blk (nn u2 1) [.string (⟨#[120]⟩:ByteArray),.string (⟨#[121]⟩:ByteArray),.string (⟨#[118,120]⟩:ByteArray),.string (⟨#[118,121]⟩:ByteArray),.string (⟨#[97,49]⟩:ByteArray),.string (⟨#[122,122]⟩:ByteArray)] 9),(50,.blk (nn u2 2) [.slice p_x8 x8.length c_x8,.slice p_x9 L_x9.length c_x9] 43),(900075,XP 9 1 p_x8 x8.length c_x8 (x8.flatMap Y1)),(900076,Zz 59 61 4 qp p_x9 L_x9.length c_x9 L_x9 L_x9),(900078,YI fr 4 p_j14 np_j14 c_j14 (j15.flatMap qp))]) a w') ?_ ?_
    ·clear H; rintro a w' ⟨p_j14,c_j14,_,rfl,H⟩
     refine qs ?_
     replace G:=gd G; obtain ⟨b17,G⟩:=G
     replace G:=qO G; obtain ⟨t18,ht18,G⟩:=G
     replace G:=gd G; obtain ⟨b19,G⟩:=G
     refine JG qd H (.v 27 (vP (nn u2 2) 0)<|.cons [28] (VD (λu16=>.slice p_x8 x8.length c_x8) 28 50 0 1 (λu16=>(nn u2 2)) (λu16=>[.slice p_x8 x8.length c_x8,.slice p_x9 L_x9.length c_x9]) 43)<|.v 29 (.slice (some ⟨(nn u2 1),0,none⟩) 6 6)<|.v 30 (vI x10)<|.cons [31] (qr (λu16=>.pointer (some ⟨(nn u2 1),(0+x10.toNat*1),none⟩)) 31 (hv:=λu16 _=>Zt (by kernel_rfl) (Vc (t:=40) (b:=(nn u2 1)) (o:=0) (len:=6) (cap:=6) (k:=.i64) (i:=x10) (sz:=1) (by kernel_rfl) (by kernel_rfl) b17)))<|.cons [32] (qhL (λu16=>.string t18) 32 49 (λu16=>(0+x10.toNat*1)) (λu16=>(nn u2 1)) (λu16=>[.string (⟨#[120]⟩:ByteArray),.string (⟨#[121]⟩:ByteArray),.string (⟨#[118,120]⟩:ByteArray),.string (⟨#[118,121]⟩:ByteArray),.string (⟨#[97,49]⟩:ByteArray),.string (⟨#[122,122]⟩:ByteArray)]) 9 (λu16=>qgj ht18))<|.cons [33,52] (qn (λb=>.slice (some ⟨b,0,none⟩) 1 1) (λu16=>[.string t18]) 9 33 52)<|.cons [34,900075,900075] (Xt [6] [52] (λu16=>[.blk (nn u16 6) [.string t18] 9]) 900075 (λu16=>XP 9 1 p_x8 x8.length c_x8 (x8.flatMap Y1)) (some 34) (λu16 g=>.slice (g.o 0) (x8++[t18]).length (g.n 0)) (λu16 g=>XP 9 1 (g.o 0) ((x8++[t18]).length) (g.n 0) ((x8++[t18]).flatMap Y1)) (λu16 w hF hK=>Vb (Yb (t:=40) (ty:=40) (en:=Y1) qdc qiq (Qx hK) hF.1 (news:=[t18]) rfl (by simp) (by kernel_rfl) b19)) (hloc:=λu u' h=>by refine ⟨?_,?_,?_,?_⟩ <;> first | rfl | simp only [nn, h 6 (by decide)]))<|.v 35 (vP (nn u2 2) 0)<|.cons [50] (QF (u':=λu16=>[(50,.blk (nn u2 2) [.slice ((u16 7).o 0) ((x8++[t18]).length) (nn u16 7),.slice p_x9 L_x9.length c_x9] 43)]) (qK 50 0 (λu16=>(nn u2 2)) (λu16=>[.slice p_x8 x8.length c_x8,.slice p_x9 L_x9.length c_x9]) (λu16=>[.slice ((u16 7).o 0) ((x8++[t18]).length) (nn u16 7)]) 43) (λ_=>by kernel_rfl))<|.nil) λu16 a w' H=>?_
     replace H:=H.kp [0,1,2,6,7,8,9,10,46,47,48,49,50,900075,900076,900078]
     replace H:=H.nil_row 53 59 1
     replace H:=H.nest0 (e:=59) (m:=0) (cap:=0) (p:=none) (H:=([]:List (Sl qt))) 53 61 4 qp (by kernel_rfl) (λx h=>by cases h)
     replace G:=qO G; obtain ⟨t21,ht21,G⟩:=G
     replace G:=gd G; obtain ⟨b22,G⟩:=G
     refine Jw qd H (.v 36 (vP (nn u2 2) 1)<|.cons [37] (VD (λu20=>.slice p_x9 L_x9.length c_x9) 37 50 1 1 (λu20=>(nn u2 2)) (λu20=>[.slice ((u16 7).o 0) ((x8++[t18]).length) (nn u16 7),.slice p_x9 L_x9.length c_x9]) 43)<|.v 38 (.slice p_j14 j15.length c_j14)<|.v 39 (vI a1)<|.v 40 (vI a2)<|.cons [41,54] (Qp false fr [] [900078] (λu20=>[qy fr 4 p_j14 c_j14 j15 qp]) [] (λu20=>[]) 65 (λu20=>#[.slice p_j14 j15.length c_j14,vI a1,vI a2]) (λu20=>[]) (λu20=>[qy ql 4 p_j14 c_j14 j15 qp]) (λu20 g=>.slice (g.o 0) t21.length (g.n 0)) (λu20 g=>[λ_=>XP 61 4 (g.o 0) t21.length (g.n 0) (t21.flatMap qp)]) [54] 41 (λu20 w hB hF hM=>X2.calls k0 j15 a1 a2 p_j14 c_j14 t21 w hF ht21) (λu20 w hF=>⟨trivial,⟨qP (qj hF.1) (λj h=>⟨_,(.head _),h⟩),trivial⟩⟩) (λu20 g=>(qk Qf qx)) (.inr (λu20 g=>(Qg trivial (λK h=>by cases h)))) (λh=>by cases h))<|.cons [42,55] (qn (λb=>.slice (some ⟨b,0,none⟩) 1 1) (λu20=>[.slice ((u20 5).o 0) t21.length (nn u20 5)]) 59 42 55)<|.cons [43,900076,54,900076] (qbZ [5,6] [55] (λu20=>[.blk (nn u20 6) [.slice ((u20 5).o 0) t21.length (nn u20 5)] 59]) 900076 54 (λu20=>Zz 59 61 4 qp p_x9 L_x9.length c_x9 L_x9 L_x9) (λu20=>XP 61 4 ((u20 5).o 0) t21.length (nn u20 5) (t21.flatMap qp)) (some 43) (λu20 g=>.slice (g.o 0) (L_x9++[(⟨((u20 5).o 0),(nn u20 5),t21⟩:Sl qt)]).length (g.n 0)) (λu20 g=>Zz 59 61 4 qp (g.o 0) ((L_x9++[(⟨((u20 5).o 0),(nn u20 5),t21⟩:Sl qt)]).length) (g.n 0) (L_x9++[(⟨((u20 5).o 0),(nn u20 5),t21⟩:Sl qt)]) (L_x9++[(⟨((u20 5).o 0),(nn u20 5),t21⟩:Sl qt)])) (λu20 w hF hK hK2 hd=>qgQ hK hK2 hd QI (by decide) (λhn h=>Yb (t:=41) (ty:=41) (en:=Qo) qT qg6 h hF.1 (news:=[(⟨((u20 5).o 0),(nn u20 5),t21⟩:Sl qt)]) rfl (by simp) (by kernel_rfl) (by rw [<- QD h_x9]; exact b22))) (hloc:=λu u' h=>by refine ⟨?_,?_,?_,?_,?_⟩ <;> first | rfl | simp only [nn, h 5 (by decide),h 6 (by decide)]))<|.v 44 (vP (nn u2 2) 1)<|.cons [50] (QF (u':=λu20=>[(50,.blk (nn u2 2) [.slice ((u16 7).o 0) ((x8++[t18]).length) (nn u16 7),.slice ((u20 7).o 0) ((L_x9++[(⟨((u20 5).o 0),(nn u20 5),t21⟩:Sl qt)]).length) (nn u20 7)] 43)]) (qK 50 1 (λu20=>(nn u2 2)) (λu20=>[.slice ((u16 7).o 0) ((x8++[t18]).length) (nn u16 7),.slice p_x9 L_x9.length c_x9]) (λu20=>[.slice ((u20 7).o 0) ((L_x9++[(⟨((u20 5).o 0),(nn u20 5),t21⟩:Sl qt)]).length) (nn u20 7)]) 43) (λ_=>by kernel_rfl))<|.nil) (by kernel_rfl) λu20 a w' H=>?_
     replace H:=H.kp [0,1,2,6,7,8,9,46,47,48,49,50,53,900075,900076]
     refine JG qd H (.v 16 (vI x10)<|.v 17 (vI (qc (x10+1)))<|.v 9 (vI (qc (x10+1)))<|.nil) λu23 a w' H=>?_
     replace H:=H.kp [0,1,2,6,7,8,9,46,47,48,49,50,53,900075,900076]
     exact ⟨k,Nat.lt_succ_self k,_,_,_,G,((u16 7).o 0),(nn u16 7),(x8++[t18]).length,rfl,((u20 7).o 0),(nn u20 7),(L_x9++[(⟨((u20 5).o 0),(nn u20 5),t21⟩:Sl qt)]).length,(L_x9++[(⟨((u20 5).o 0),(nn u20 5),t21⟩:Sl qt)]),rfl,(qbP h_x9 (⟨((u20 5).o 0),(nn u20 5),t21⟩:Sl qt)),H.toL _ (by kernel_rfl)⟩
    ·clear G; replace G:=hj15; clear hj15
     refine qs ?_
     refine JG qd H (.v 19 (vI x10)<|.v 20 (.slice p_a0 L_a0.length c_a0)<|.cons [21] (Zb [46] (λu24=>[qy ql 1 p_a0 c_a0 L_a0 Qo]) (λu24=>vI (a0.length:Int)) (λu24=>true) [true] 21 (λu24 w hg hF=>Y0 (((qj hF.1).2.len qT (by decide)).trans (QD h_a0).symm) (by kernel_rfl)))<|.v 22 (.bool (decide (x10<(a0.length:Int))))<|.nil) λu24 a w' H=>?_
     replace H:=H.kp [0,1,2,6,7,8,9,10,22,46,47,48,49,50,51,900075,900076]
     refine qaT H (by kernel_rfl) (t:=decide (x10<(a0.length:Int))) (by kernel_rfl) (λc28=>?_) (λc28=>?_)
     ·rw [if_pos c28] at G
      replace G:=gd G; obtain ⟨b26,G⟩:=G
      replace G:=qO G; obtain ⟨t27,ht27,G⟩:=G
      obtain ⟨p_t27,c_t27,y_t27⟩:=Yl h_a0 ht27
      refine JG qd H (.v 23 (.slice p_a0 L_a0.length c_a0)<|.v 24 (vI x10)<|.cons [25] (Zb [46] (λu25=>[qy ql 1 p_a0 c_a0 L_a0 Qo]) (λu25=>.pointer (some ⟨XR p_a0,XV p_a0+x10.toNat*1,none⟩)) (λu25=>true) [true,true] 25 (λu25 w hg hF=>qbS (t:=41) (k:=.i64) (i:=x10) (p:=p_a0) (n:=L_a0.length) (cap:=c_a0) (x:=a0) (en:=Qo) (qj hF.1).2 qT (QD h_a0) b26 (by kernel_rfl)))<|.cons [26] (Zb [46] (λu25=>[qy ql 1 p_a0 c_a0 L_a0 Qo]) (λu25=>.slice p_t27 t27.length c_t27) (λu25=>true) [true] 26 (λu25 w hg hF=>qc8 (en:=Qo) (qj hF.1).2 qT y_t27 0 1 [.slice p_t27 t27.length c_t27] rfl (by kernel_rfl)))<|.v 10 (.slice p_t27 t27.length c_t27)<|.nil) λu25 a w' H=>?_
      replace H:=H.kp [0,1,2,6,7,8,9,10,46,47,48,49,50,900075,900076]
      obtain rfl:=Option.some.inj G
      replace H:=H.addF 59 (qy fr 4 p_t27 c_t27 t27 qp) [47] [Yk fr QL.toPart L_a0] (by kernel_rfl) (λh=>h) (by intro _ _ h; cases h) (λhF=>(qv (show X3 _ 4 p_t27 t27.length c_t27 (t27.flatMap qp) from ((XB hF.1) _ (List.mem_of_getElem? y_t27)).1) (λj h=>(VA hF.1 _ ⟨_,(List.mem_of_getElem? y_t27),(.inl h)⟩)) (by decide) 0).2.1) (λhF j h=>⟨_,.head _,(λh=>h),⟨_,(List.mem_of_getElem? y_t27),(.inl h)⟩⟩)
      replace H:=H.dup (K:=qy fr 4 p_t27 c_t27 t27 qp) 59 900078 (by kernel_rfl) (λh=>h) (by intro _ _ h; cases h)
      exact ⟨p_t27,c_t27,t27.length,rfl,H.toL _ (by kernel_rfl)⟩
     ·rw [if_neg (nt c28)] at G
      refine q8 ?_
      obtain rfl:=Option.some.inj G
      replace H:=H.blk_row 51 (nn u13 0) [] 61 4 0 (by kernel_rfl) (by kernel_rfl) (by decide)
      replace H:=H.demote fr 51 61 4 (some ⟨(nn u13 0),0,none⟩) 0 0 (([]:List qt).flatMap qp) (by kernel_rfl) (by decide) hBf
      replace H:=H.dup (K:=YI fr 4 (some ⟨(nn u13 0),0,none⟩) 0 0 (([]:List qt).flatMap qp)) 51 900078 (by kernel_rfl) (λh=>h) (by intro _ _ h; cases h)
      exact ⟨(some ⟨(nn u13 0),0,none⟩),0,0,rfl,H.toL _ (by kernel_rfl)⟩
   ·rw [if_neg (nt c29)] at G
    refine Yx rfl ?_
    obtain rfl:=Option.some.inj G
    replace H:=H.move (K:=XP 9 1 p_x8 x8.length c_x8 (x8.flatMap Y1)) 900075 900072 (by kernel_rfl) (by intro _ _ h; cases h)
    replace H:=H.move (K:=Zz 59 61 4 qp p_x9 L_x9.length c_x9 L_x9 L_x9) 900076 900073 (by kernel_rfl) (by intro _ _ h; cases h)
    exact ⟨p_x8,c_x8,x8.length,rfl,p_x9,c_x9,L_x9.length,L_x9,rfl,h_x9,H.toL _ (by kernel_rfl)⟩
theorem qZ.calls (k0:Nat)(a0:YM)(p_a0_L:Option Addr)(c_a0_L:Nat)(L_a0_L:List (Sl qt))(p_a0_X:Option Addr)(c_a0_X:Nat)(p_a0_S:Option Addr)(c_a0_S:Nat)(r:Zc×List qb)(w:World)(h_a0_L:a0.L=L_a0_L.map Sl.l)(hB:Xp [qy ql 1 p_a0_L c_a0_L L_a0_L Qo,Yk ql QL.toPart L_a0_L,qy ql 2 p_a0_X c_a0_X a0.X qa,qy ql 1 p_a0_S c_a0_S a0.S V6] w)(G:qZ k0 a0=some r) :
  Calls Tryz.prog 16 #[.agg #[.slice p_a0_L L_a0_L.length c_a0_L,.slice p_a0_X a0.X.length c_a0_X,vI a0.T.Lo,vI a0.T.Hi,vI a0.G.T,vI a0.G.H,.int .u8 a0.N,.int .u8 a0.K,.slice p_a0_S a0.S.length c_a0_S]] w λe w'=>∃ g:Gh,e = .returned (.tuple #[.agg #[.slice (g.o 0) r.1.Names.length (g.n 0),.slice (g.o 1) ((g.dl Sl.l q9 1 r.1.F).length) (g.n 1)],.slice (g.o 2) r.2.length (g.n 2)])∧Zj (YR []) w w'∧Ye w.heap.size (YR []) (JS w.heap.size []) [λ_=>XP 9 1 (g.o 0) r.1.Names.length (g.n 0) (r.1.Names.flatMap Y1),λ_=>Zz 59 61 4 qp (g.o 1) ((g.dl Sl.l q9 1 r.1.F).length) (g.n 1) (g.dl Sl.l q9 1 r.1.F) (g.dl Sl.l q9 1 r.1.F),λ_=>XP 46 2 (g.o 2) r.2.length (g.n 2) (r.2.flatMap qa)] w':=by
 obtain ⟨fr,hfr⟩:∃ fr:Nat->Prop,fr=JS w.heap.size []:=⟨_,rfl⟩
 have hBf:∀ j,w.heap.size<=j->fr j:=λj h=>by rw [hfr]; exact .inl h
 refine QA (args:=[.agg #[.slice p_a0_L L_a0_L.length c_a0_L,.slice p_a0_X a0.X.length c_a0_X,vI a0.T.Lo,vI a0.T.Hi,vI a0.G.T,vI a0.G.H,.int .u8 a0.N,.int .u8 a0.K,.slice p_a0_S a0.S.length c_a0_S]]) 40 [(40,qy ql 1 p_a0_L c_a0_L L_a0_L Qo),(41,Yk ql QL.toPart L_a0_L),(42,qy ql 2 p_a0_X c_a0_X a0.X qa),(43,qy ql 1 p_a0_S c_a0_S a0.S V6)] (by
  intro x hx
  simp only [List.mem_cons,List.not_mem_nil,or_false] at hx
  rcases hx with rfl | rfl | rfl | rfl
  ·exact qv (qj hB.1) (λ_ _=>trivial) (by decide) _
  ·exact ZV (XB hB.2.1) (λ_ _=>trivial) _
  ·exact qv (qj hB.2.2.1) (λ_ _=>trivial) (by decide) _
  ·exact qv (qj hB.2.2.2.1) (λ_ _=>trivial) (by decide) _) Tryz.func16 rfl λa H=>?_
 unfold qZ at G
 refine qs ?_
 refine JG qd H (.cons [1,44] (qn (λb=>vP b 0) (λu1=>[.slice p_a0_L L_a0_L.length c_a0_L,.slice p_a0_X a0.X.length c_a0_X,vI a0.T.Lo,vI a0.T.Hi,vI a0.G.T,vI a0.G.H,.int .u8 a0.N,.int .u8 a0.K,.slice p_a0_S a0.S.length c_a0_S]) 56 1 44)<|.cons [2,45] (qn (λb=>vP b 0) (λu1=>[.slice none 0 0,.slice none 0 0]) 43 2 45)<|.v 3 (.slice none 0 0)<|.nil) λu1 a w' H=>?_
 replace H:=H.kp [1,2,40,41,42,43,44,45]
 refine qs ?_
 refine JG qd H (.v 8 (vP (nn u1 0) 6)<|.cons [9] (VD (λu2=>.int .u8 a0.N) 9 44 6 1 (λu2=>(nn u1 0)) (λu2=>[.slice p_a0_L L_a0_L.length c_a0_L,.slice p_a0_X a0.X.length c_a0_X,vI a0.T.Lo,vI a0.T.Hi,vI a0.G.T,vI a0.G.H,.int .u8 a0.N,.int .u8 a0.K,.slice p_a0_S a0.S.length c_a0_S]) 56)<|.v 10 (.int .u8 (Int.tmod a0.N 3))<|.v 11 (vI (qc (Int.tmod a0.N 3)))<|.v 12 (vI (qc (1+(qc (Int.tmod a0.N 3)))))<|.v 4 (vI (qc (1+(qc (Int.tmod a0.N 3)))))<|.nil) λu2 a w' H=>?_
 replace H:=H.kp [1,2,4,40,41,42,43,44,45]
 refine qs ?_
 refine JG qd H (.cons [13,46] (qn (λb=>.slice (some ⟨b,0,none⟩) 0 0) (λu3=>[]) 46 13 46)<|.cons [5] (qr (λu3=>.slice (some ⟨(nn u3 0),0,none⟩) 0 0) 5)<|.nil) λu3 a w' H=>?_
 replace H:=H.kp [1,2,4,5,40,41,42,43,44,45,46]
 refine qs ?_
 replace G:=qO G; obtain ⟨j5,hj5,G⟩:=G
 refine Xu (λa w'=>∃ (p_j4:Option Addr) (c_j4 np_j4:Nat),np_j4=j5.length∧QB w.heap.size w 40 (Jf [(1,(sP (nn u1 0) 0)),(2,(sP (nn u1 1) 0)),(4,(sI (qc (1+(qc (Int.tmod a0.N 3)))))),(5,sS p_j4 np_j4 c_j4),(40,qy ql 1 p_a0_L c_a0_L L_a0_L Qo),(41,Yk ql QL.toPart L_a0_L),(42,qy ql 2 p_a0_X c_a0_X a0.X qa),(43,qy ql 1 p_a0_S c_a0_S a0.S V6),(44,.blk (nn u1 0) [.slice p_a0_L L_a0_L.length c_a0_L,.slice p_a0_X a0.X.length c_a0_X,vI a0.T.Lo,vI a0.T.Hi,vI a0.G.T,vI a0.G.H,.int .u8 a0.N,.int .u8 a0.K,.slice p_a0_S a0.S.length c_a0_S] 56),(45,.blk (nn u1 1) [.slice none 0 0,.slice none 0 0] 43),(900079,XP 46 2 p_j4 np_j4 c_j4 (j5.flatMap qa))]) a w') ?_ ?_
 ·clear H; rintro a w' ⟨p_j4,c_j4,_,rfl,H⟩
  refine qs ?_
  replace G:=qO G; obtain ⟨t7,ht7,G⟩:=G
  refine JG qd H (.v 35 (vP (nn u1 0) 0)<|.cons [36] (VD (λu6=>.slice p_a0_L L_a0_L.length c_a0_L) 36 44 0 1 (λu6=>(nn u1 0)) (λu6=>[.slice p_a0_L L_a0_L.length c_a0_L,.slice p_a0_X a0.X.length c_a0_X,vI a0.T.Lo,vI a0.T.Hi,vI a0.G.T,vI a0.G.H,.int .u8 a0.N,.int .u8 a0.K,.slice p_a0_S a0.S.length c_a0_S]) 56)<|.v 37 (vI (qc (1+(qc (Int.tmod a0.N 3)))))<|.cons [38,47,48] (Qp false fr [] [40,41] (λu6=>[qy ql 1 p_a0_L c_a0_L L_a0_L Qo,Yk ql QL.toPart L_a0_L]) [] (λu6=>[]) 42 (λu6=>#[.slice p_a0_L L_a0_L.length c_a0_L,vI 7,vI (qc (1+(qc (Int.tmod a0.N 3))))]) (λu6=>[qy ql 1 p_a0_L c_a0_L L_a0_L Qo]) (λu6=>[Yk ql QL.toPart L_a0_L]) (λu6 g=>.agg #[.slice (g.o 0) t7.Names.length (g.n 0),.slice (g.o 1) ((g.dl Sl.l q9 1 t7.F).length) (g.n 1)]) (λu6 g=>[λ_=>XP 9 1 (g.o 0) t7.Names.length (g.n 0) (t7.Names.flatMap Y1),λ_=>Zz 59 61 4 qp (g.o 1) ((g.dl Sl.l q9 1 t7.F).length) (g.n 1) (g.dl Sl.l q9 1 t7.F) (g.dl Sl.l q9 1 t7.F)]) [47,48] 38 (λu6 w hB hF hM=>qS.calls k0 a0.L 7 (qc (1+(qc (Int.tmod a0.N 3)))) p_a0_L c_a0_L L_a0_L t7 w h_a0_L hB hF ht7) (λu6 w hF=>⟨⟨qP (qj hF.1) (λj h=>⟨_,(.head _),h⟩),trivial⟩,⟨Vq (XB hF.2.1) (λj h=>⟨_,(.tail _ (.head _)),h⟩),trivial⟩⟩) (λu6 g=>(qk Qf (qk Jk qx))) (.inr (λu6 g=>(Qg trivial (Qg trivial (λK h=>by cases h))))) (λh=>by cases h))<|.v 39 (.slice p_j4 j5.length c_j4)<|.cons [45] (QF (u':=λu6=>[(45,.blk (nn u1 1) [.slice ((u6 3).o 0) t7.Names.length (nn u6 3),.slice ((u6 3).o 1) (((u6 3).dl Sl.l q9 1 t7.F).length) ((u6 3).n 1)] 43)]) (qK 45 0 (λu6=>(nn u1 1)) (λu6=>[.slice none 0 0,.slice none 0 0]) (λu6=>[.slice ((u6 3).o 0) t7.Names.length (nn u6 3),.slice ((u6 3).o 1) (((u6 3).dl Sl.l q9 1 t7.F).length) ((u6 3).n 1)]) 43) (λ_=>by kernel_rfl))<|.v 3 (.slice p_j4 j5.length c_j4)<|.nil) λu6 a w' H=>?_
  replace H:=H.kp [2,3,45,47,48,900079]
  refine qB ?_
  obtain rfl:=Option.some.inj G
  obtain ⟨g,o0,n0,o1,n1,d1,o2,n2⟩:∃ g:Gh,g.o 0=((u6 3).o 0)∧g.n 0=(nn u6 3)∧g.o 1=((u6 3).o 1)∧g.n 1=((u6 3).n 1)∧g.dl Sl.l q9 1 t7.F=((u6 3).dl Sl.l q9 1 t7.F)∧g.o 2=p_j4∧g.n 2=c_j4:=⟨⟨λi=>[(nn u6 3),((u6 3).n 1),c_j4].getD i 0,λi=>[((u6 3).o 0),((u6 3).o 1),p_j4].getD i none,λi=>([⟨Unit,()⟩,⟨List (Sl qt),((u6 3).dl Sl.l q9 1 t7.F)⟩,⟨Unit,()⟩]:List ((T:Type)×T)).getD i ⟨Unit,()⟩⟩,rfl,rfl,rfl,rfl,qdZ rfl (J5 ZM (u6 3) 1 t7.F),rfl,rfl⟩
  refine Qz H (λg=>.tuple #[.agg #[.slice (g.o 0) t7.Names.length (g.n 0),.slice (g.o 1) ((g.dl Sl.l q9 1 t7.F).length) (g.n 1)],.slice (g.o 2) j5.length (g.n 2)]) g [] [] (λg=>[λ_=>XP 9 1 (g.o 0) t7.Names.length (g.n 0) (t7.Names.flatMap Y1),λ_=>Zz 59 61 4 qp (g.o 1) ((g.dl Sl.l q9 1 t7.F).length) (g.n 1) (g.dl Sl.l q9 1 t7.F) (g.dl Sl.l q9 1 t7.F),λ_=>XP 46 2 (g.o 2) j5.length (g.n 2) (j5.flatMap qa)]) fr [47,48,900079] [(45,⟨(nn u1 1),[.slice ((u6 3).o 0) t7.Names.length (nn u6 3),.slice ((u6 3).o 1) (((u6 3).dl Sl.l q9 1 t7.F).length) ((u6 3).n 1)],0,2⟩)] (.tuple #[.agg #[.slice ((u6 3).o 0) t7.Names.length (nn u6 3),.slice ((u6 3).o 1) (((u6 3).dl Sl.l q9 1 t7.F).length) ((u6 3).n 1)],.slice p_j4 j5.length c_j4]) [λ_=>XP 9 1 ((u6 3).o 0) t7.Names.length (nn u6 3) (t7.Names.flatMap Y1),λ_=>Zz 59 61 4 qp ((u6 3).o 1) (((u6 3).dl Sl.l q9 1 t7.F).length) ((u6 3).n 1) ((u6 3).dl Sl.l q9 1 t7.F) ((u6 3).dl Sl.l q9 1 t7.F),λ_=>XP 46 2 p_j4 j5.length c_j4 (j5.flatMap qa)] (by simp only [o0,n0,o1,n1,d1,o2,n2]) (by simp only [o0,n0,o1,n1,d1,o2,n2]) hfr (.inl ⟨rfl,rfl⟩) (qk Qf (qk Jk (qk Qf qx))) (by intro p hp; simp only [List.mem_cons,List.not_mem_nil,or_false] at hp; rcases hp with rfl; exact ⟨⟨43,by kernel_rfl⟩,by kernel_rfl⟩)
 ·clear G; replace G:=hj5; clear hj5
  refine qs ?_
  refine JG qd H (.v 6 (vI 0)<|.nil) λu8 a w' H=>?_
  replace H:=H.kp [1,2,4,5,6,40,41,42,43,44,45,46]
  refine qV ?_
  replace H:=H.blk_row 46 (nn u3 0) [] 46 2 0 (by kernel_rfl) (by kernel_rfl) (by decide)
  replace H:=H.move (K:=XP 46 2 (some ⟨(nn u3 0),0,none⟩) 0 0 (([]:List qb).flatMap qa)) 46 900080 (by kernel_rfl) (by intro _ _ h; cases h)
  refine XY (λm a w'=>∃ x9:List qb,∃ x10:Int,qZ.l11 k0 a0 m x9 x10=some j5 ∧ ∃ (p_x9:Option Addr) (c_x9 np_x9:Nat),np_x9=x9.length∧QB w.heap.size w 40 (Jf [(1,(sP (nn u1 0) 0)),(2,(sP (nn u1 1) 0)),(4,(sI (qc (1+(qc (Int.tmod a0.N 3)))))),(5,sS p_x9 np_x9 c_x9),(6,sI x10),(40,qy ql 1 p_a0_L c_a0_L L_a0_L Qo),(41,Yk ql QL.toPart L_a0_L),(42,qy ql 2 p_a0_X c_a0_X a0.X qa),(43,qy ql 1 p_a0_S c_a0_S a0.S V6),(44,.blk (nn u1 0) [.slice p_a0_L L_a0_L.length c_a0_L,.slice p_a0_X a0.X.length c_a0_X,vI a0.T.Lo,vI a0.T.Hi,vI a0.G.T,vI a0.G.H,.int .u8 a0.N,.int .u8 a0.K,.slice p_a0_S a0.S.length c_a0_S] 56),(45,.blk (nn u1 1) [.slice none 0 0,.slice none 0 0] 43),(900080,XP 46 2 p_x9 np_x9 c_x9 (x9.flatMap qa))]) a w') k0 ⟨_,_,G,(some ⟨(nn u3 0),0,none⟩),0,0,rfl,H.toL _ (by kernel_rfl)⟩ ?_
  clear G H
  rintro (_ | k) a w' ⟨x9,x10,G,p_x9,c_x9,_,rfl,H⟩
  ·exact absurd G (by unfold qZ.l11; exact λh=>by cases h)
  ·unfold qZ.l11 at G
   refine qs ?_
   refine qs ?_
   refine JG qd H (.v 14 (vI x10)<|.v 15 (vI (qc (1+(qc (Int.tmod a0.N 3)))))<|.v 16 (.bool (decide (x10<(qc (1+(qc (Int.tmod a0.N 3)))))))<|.nil) λu12 a w' H=>?_
   replace H:=H.kp [1,2,4,5,6,16,40,41,42,43,44,45,900080]
   refine qaT H (by kernel_rfl) (t:=decide (x10<(qc (1+(qc (Int.tmod a0.N 3)))))) (by kernel_rfl) (λc26=>?_) (λc26=>?_)
   ·rw [if_pos c26] at G
    refine q8 ?_
    refine qs ?_
    refine qV ?_
    refine qs ?_
    refine JG qd H (.v 19 (.agg #[vI 0,vI 0])<|.cons [7,49] (qn (λb=>vP b 0) (λu13=>[vI 0,vI 0]) 46 7 49)<|.cons [49] (QF (u':=λu13=>[(49,.blk (nn u13 1) [vI 0,vI 0] 46)]) (qK 49 0 (λu13=>(nn u13 1)) (λu13=>[vI 0,vI 0]) (λu13=>[vI 0,vI 0]) 46) (λ_=>by kernel_rfl))<|.nil) λu13 a w' H=>?_
    replace H:=H.kp [1,2,4,5,6,7,40,41,42,43,44,45,49,900080]
    refine qs ?_
    replace G:=qO G; obtain ⟨j16,hj16,G⟩:=G
    refine Xu (λa w'=>QB w.heap.size w 40 (Jf [(1,(sP (nn u1 0) 0)),(2,(sP (nn u1 1) 0)),(4,(sI (qc (1+(qc (Int.tmod a0.N 3)))))),(5,sS p_x9 x9.length c_x9),(6,sI x10),(7,(sP (nn u13 1) 0)),(40,qy ql 1 p_a0_L c_a0_L L_a0_L Qo),(41,Yk ql QL.toPart L_a0_L),(42,qy ql 2 p_a0_X c_a0_X a0.X qa),(43,qy ql 1 p_a0_S c_a0_S a0.S V6),(44,.blk (nn u1 0) [.slice p_a0_L L_a0_L.length c_a0_L,.slice p_a0_X a0.X.length c_a0_X,vI a0.T.Lo,vI a0.T.Hi,vI a0.G.T,vI a0.G.H,.int .u8 a0.N,.int .u8 a0.K,.slice p_a0_S a0.S.length c_a0_S] 56),(45,.blk (nn u1 1) [.slice none 0 0,.slice none 0 0] 43),(49,.blk (nn u13 1) [vI j16.1,vI j16.2] 46),(900080,XP 46 2 p_x9 x9.length c_x9 (x9.flatMap qa))]) a w') ?_ ?_
    ·clear H; intro a w' H
     replace G:=gd G; obtain ⟨b18,G⟩:=G
     refine JG qd H (.v 31 (.slice p_x9 x9.length c_x9)<|.cons [32] (VD (λu17=>.agg #[vI j16.1,vI j16.2]) 32 49 0 2 (λu17=>(nn u13 1)) (λu17=>[vI j16.1,vI j16.2]) 46)<|.cons [33,50] (qn (λb=>.slice (some ⟨b,0,none⟩) 1 1) (λu17=>[vI j16.1,vI j16.2]) 46 33 50)<|.cons [34,900080,900080] (Xt [2] [50] (λu17=>[.blk (nn u17 2) [vI j16.1,vI j16.2] 46]) 900080 (λu17=>XP 46 2 p_x9 x9.length c_x9 (x9.flatMap qa)) (some 34) (λu17 g=>.slice (g.o 0) (x9++[(⟨j16.1,j16.2⟩:qb)]).length (g.n 0)) (λu17 g=>XP 46 2 (g.o 0) ((x9++[(⟨j16.1,j16.2⟩:qb)]).length) (g.n 0) ((x9++[(⟨j16.1,j16.2⟩:qb)]).flatMap qa)) (λu17 w hF hK=>Vb (Yb (t:=48) (ty:=48) (en:=qa) qe JZ (Qx hK) hF.1 (news:=[(⟨j16.1,j16.2⟩:qb)]) rfl (by simp) (by kernel_rfl) b18)) (hloc:=λu u' h=>by refine ⟨?_,?_,?_,?_⟩ <;> first | rfl | simp only [nn, h 2 (by decide)]))<|.cons [5] (qr (λu17=>.slice ((u17 3).o 0) ((x9++[(⟨j16.1,j16.2⟩:qb)]).length) (nn u17 3)) 5)<|.nil) λu17 a w' H=>?_
     replace H:=H.kp [1,2,4,5,6,40,41,42,43,44,45,900080]
     refine JG qd H (.v 17 (vI x10)<|.v 18 (vI (qc (x10+1)))<|.v 6 (vI (qc (x10+1)))<|.nil) λu19 a w' H=>?_
     replace H:=H.kp [1,2,4,5,6,40,41,42,43,44,45,900080]
     exact ⟨k,Nat.lt_succ_self k,_,_,G,((u17 3).o 0),(nn u17 3),(x9++[(⟨j16.1,j16.2⟩:qb)]).length,rfl,H.toL _ (by kernel_rfl)⟩
    ·clear G; replace G:=hj16; clear hj16
     refine qs ?_
     refine JG qd H (.v 20 (vI x10)<|.v 21 (vP (nn u1 0) 1)<|.cons [22] (VD (λu20=>.slice p_a0_X a0.X.length c_a0_X) 22 44 1 1 (λu20=>(nn u1 0)) (λu20=>[.slice p_a0_L L_a0_L.length c_a0_L,.slice p_a0_X a0.X.length c_a0_X,vI a0.T.Lo,vI a0.T.Hi,vI a0.G.T,vI a0.G.H,.int .u8 a0.N,.int .u8 a0.K,.slice p_a0_S a0.S.length c_a0_S]) 56)<|.v 23 (vI (a0.X.length:Int))<|.v 24 (.bool (decide (x10<(a0.X.length:Int))))<|.nil) λu20 a w' H=>?_
     replace H:=H.kp [1,2,4,5,6,7,24,40,41,42,43,44,45,49,900080]
     refine qaT H (by kernel_rfl) (t:=decide (x10<(a0.X.length:Int))) (by kernel_rfl) (λc25=>?_) (λc25=>?_)
     ·rw [if_pos c25] at G
      replace G:=gd G; obtain ⟨b22,G⟩:=G
      replace G:=qO G; obtain ⟨t23,ht23,G⟩:=G
      replace G:=qO G; obtain ⟨t24,ht24,G⟩:=G
      refine JG qd H (.v 25 (vP (nn u1 0) 1)<|.cons [26] (VD (λu21=>.slice p_a0_X a0.X.length c_a0_X) 26 44 1 1 (λu21=>(nn u1 0)) (λu21=>[.slice p_a0_L L_a0_L.length c_a0_L,.slice p_a0_X a0.X.length c_a0_X,vI a0.T.Lo,vI a0.T.Hi,vI a0.G.T,vI a0.G.H,.int .u8 a0.N,.int .u8 a0.K,.slice p_a0_S a0.S.length c_a0_S]) 56)<|.v 27 (vI x10)<|.cons [28] (Zb [42] (λu21=>[qy ql 2 p_a0_X c_a0_X a0.X qa]) (λu21=>.pointer (some ⟨XR p_a0_X,XV p_a0_X+x10.toNat*2,none⟩)) (λu21=>true) [true,true] 28 (λu21 w hg hF=>qbS (t:=48) (k:=.i64) (i:=x10) (p:=p_a0_X) (n:=a0.X.length) (cap:=c_a0_X) (x:=a0.X) (en:=qa) (qj hF.1).2 qe rfl b22 (by kernel_rfl)))<|.cons [29] (Zb [42] (λu21=>[qy ql 2 p_a0_X c_a0_X a0.X qa]) (λu21=>.agg #[vI t23.Lo,vI t23.Hi]) (λu21=>true) [true] 29 (λu21 w hg hF=>qc8 (en:=qa) (qj hF.1).2 qe ht23 0 2 [vI t23.Lo,vI t23.Hi] rfl (by kernel_rfl)))<|.cons [30] (qm 41 (λu21=>#[.agg #[vI t23.Lo,vI t23.Hi]]) (.agg #[vI t24.Lo,vI t24.Hi]) 30 [] (λu21 w _=>YD.calls t23 t24 w ht24))<|.cons [49] (QF (u':=λu21=>[(49,.blk (nn u13 1) [vI t24.Lo,vI t24.Hi] 46)]) (qK 49 0 (λu21=>(nn u13 1)) (λu21=>[vI 0,vI 0]) (λu21=>[vI t24.Lo,vI t24.Hi]) 46) (λ_=>by kernel_rfl))<|.nil) λu21 a w' H=>?_
      replace H:=H.kp [1,2,4,5,6,7,40,41,42,43,44,45,49,900080]
      obtain rfl:=Option.some.inj G
      exact H.toL _ (by kernel_rfl)
     ·rw [if_neg (nt c25)] at G
      refine q8 ?_
      obtain rfl:=Option.some.inj G
      exact H.toL _ (by kernel_rfl)
   ·rw [if_neg (nt c26)] at G
    refine Yx rfl ?_
    obtain rfl:=Option.some.inj G
    replace H:=H.move (K:=XP 46 2 p_x9 x9.length c_x9 (x9.flatMap qa)) 900080 900079 (by kernel_rfl) (by intro _ _ h; cases h)
    exact ⟨p_x9,c_x9,x9.length,rfl,H.toL _ (by kernel_rfl)⟩
theorem Xn.calls (k0:Nat)(a0:List qb)(a1:List qb)(p_a0:Option Addr)(c_a0:Nat)(p_a1:Option Addr)(c_a1:Nat)(r:List qb×Bool)(w:World)(hB:Xp [qy ql 2 p_a0 c_a0 a0 qa,qy ql 2 p_a1 c_a1 a1 qa] w)(G:Xn k0 a0 a1=some r) :
  Calls Tryz.prog 18 #[.slice p_a0 a0.length c_a0,.slice p_a1 a1.length c_a1] w λe w'=>∃ g:Gh,e = .returned (.tuple #[.slice (g.o 0) r.1.length (g.n 0),.bool r.2])∧Zj (YR []) w w'∧Ye w.heap.size (YR []) (JS w.heap.size []) [λ_=>Ql 46 2 (g.o 0) (g.n 0) r.1 qa] w':=by
 obtain ⟨fr,hfr,hBf⟩:=VT w []
 refine Wu (args:=[.slice p_a0 a0.length c_a0,.slice p_a1 a1.length c_a1]) 29 [(29,qy ql 2 p_a0 c_a0 a0 qa),(30,qy ql 2 p_a1 c_a1 a1 qa)] (by
  intro x hx
  simp only [List.mem_cons,List.not_mem_nil,or_false] at hx
  rcases hx with rfl | rfl
  ·exact qv (qj hB.1) (λ_ _=>trivial) (by decide) _
  ·exact qv (qj hB.2.1) (λ_ _=>trivial) (by decide) _) Tryz.func18 rfl λa H=>?_
 unfold Xn at G
 refine qg qd H (.cons [4,31] (qn (λb=>vP b 0) (λu1=>[.slice none 0 0]) 48 4 31)<|.cons [5,32] (qn (λb=>vP b 0) (λu1=>[.bool false]) 4 5 32)<|.nil) [0,1,4,5,29,30,31,32] λu1 a w' H=>?_
 refine qg qd H (.cons [6,33] (qn (λb=>vP b 0) (λu2=>[.slice none 0 0]) 48 6 33)<|.nil) [0,1,4,5,6,29,30,31,32,33] λu2 a w' H=>?_
 refine qs ?_
 refine qg qd H (.v 11 (.slice p_a0 a0.length c_a0)<|.v 12 (.slice p_a1 a1.length c_a1)<|.cons [13,34,35] (WL 43 (λu3=>#[.slice p_a0 a0.length c_a0,.slice p_a1 a1.length c_a1]) (λb1 b2=>.func (.func 66) #[] #[vP b1 0,vP b2 0]) [.slice p_a0 a0.length c_a0] [.slice p_a1 a1.length c_a1] 48 48 13 34 35 (λ_ w=>box_pairs.calls a0 p_a0 a0.length c_a0 a1 p_a1 a1.length c_a1 w))<|.nil) [4,5,6,13,29,30,31,32,33,34,35] λu3 a w' H=>?_
 refine qV ?_
 replace G:=gd G; obtain ⟨b4,G⟩:=G
 replace H:=H.nil_row 46 46 2
 replace H:=H.move (K:=XP 46 2 none 0 0 (([]:List qb).flatMap qa)) 46 900081 (by kernel_rfl) (by intro _ _ h; cases h)
 refine qfZ (α:=qb×qb) (λx=>enI x.1) (λx=>enI x.2) (a0.zip a1) (qdJ (nn u3 2) ((u3 2).n 1) p_a0 p_a1 c_a0 c_a1 a0 a1) 36 37 (λzs L=>∃ x5:List qb,Xn.l6 k0 a0 a1 zs x5=some r ∧ ∃ (p_x5:Option Addr) (c_x5 np_x5:Nat),np_x5=x5.length∧L=[(29,qy ql 2 p_a0 c_a0 a0 qa),(30,qy ql 2 p_a1 c_a1 a1 qa),(31,.blk (nn u1 0) [.slice none 0 0] 48),(32,.blk (nn u1 1) [.bool false] 4),(33,.blk (nn u2 0) [.slice p_x5 np_x5 c_x5] 48),(34,.blk (nn u3 2) [.slice p_a0 a0.length c_a0] 48),(35,.blk ((u3 2).n 1) [.slice p_a1 a1.length c_a1] 48),(900081,XP 46 2 p_x5 np_x5 c_x5 (x5.flatMap qa))]) (λL=>∃ (p_r_1:Option Addr) (c_r_1 np_r_1:Nat),np_r_1=r.1.length∧L=[(31,.blk (nn u1 0) [.slice p_r_1 np_r_1 c_r_1] 48),(32,.blk (nn u1 1) [.bool r.2] 4),(38,XP 46 2 p_r_1 np_r_1 c_r_1 (r.1.flatMap qa))]) _ H (by kernel_rfl) (by kernel_rfl) (VU Tryz.func66 (by kernel_rfl) rfl) (box_pairs_1.ok a0 a1 b4.1 b4.2 (nn u3 2) ((u3 2).n 1) p_a0 p_a1 c_a0 c_a1) (by kernel_rfl) (by kernel_rfl) ⟨([]:List qb),G,none,0,0,rfl,rfl⟩ (by kernel_rfl) (by kernel_rfl) (by kernel_rfl) (by kernel_rfl) (by kernel_rfl) (by rintro zs L a w ⟨x5,G,p_x5,c_x5,_,rfl,rfl⟩ h; exact ⟨h.holds 34,h.holds 35,(qj (h.at (K:=qy ql 2 p_a0 c_a0 a0 qa) 29 (by kernel_rfl))).2,(qj (h.at (K:=qy ql 2 p_a1 c_a1 a1 qa) 30 (by kernel_rfl))).2⟩) ?_ ?_ ?_
 ·clear H G; rintro li Di oR oD x zs L a w' ⟨x5,G,p_x5,c_x5,_,rfl,rfl⟩ H
  unfold Xn.l6 at G
  replace H:=H.kp [4,5,6,13,14,15,29,30,31,32,33,34,35,900081,36,37]
  refine XJ ?_
  refine X0 qd H (.cons [7,39] (qn (λb=>vP b 0) (λu7=>[vI 0,vI 0]) 46 7 39)<|.cons [39] (QF (u':=λu7=>[(39,.blk (nn u7 0) [vI x.1.Lo,vI x.1.Hi] 46)]) (qK 39 0 (λu7=>(nn u7 0)) (λu7=>[vI 0,vI 0]) (λu7=>[vI x.1.Lo,vI x.1.Hi]) 46) (λ_=>by kernel_rfl))<|.nil) (by kernel_rfl) (by kernel_rfl) λu7 a w' H=>?_
  replace H:=H.kp [4,5,6,7,13,15,29,30,31,32,33,34,35,39,900081,36,37]
  refine X0 qd H (.cons [8,40] (qn (λb=>vP b 0) (λu8=>[vI 0,vI 0]) 46 8 40)<|.cons [40] (QF (u':=λu8=>[(40,.blk (nn u8 0) [vI x.2.Lo,vI x.2.Hi] 46)]) (qK 40 0 (λu8=>(nn u8 0)) (λu8=>[vI 0,vI 0]) (λu8=>[vI x.2.Lo,vI x.2.Hi]) 46) (λ_=>by kernel_rfl))<|.nil) (by kernel_rfl) (by kernel_rfl) λu8 a w' H=>?_
  replace H:=H.kp [4,5,6,7,8,13,29,30,31,32,33,34,35,39,40,900081,36,37]
  refine ⟨_,H,by kernel_rfl,λoB w' H=>?_⟩
  replace H:=H.kp [4,5,6,7,8,13,29,30,31,32,33,34,35,39,40,900081,36,37]
  refine ZT ?_
  refine XJ ?_
  obtain ⟨t10,ht10,G⟩:=qO G
  refine X0 qd H (.cons [17] (qf (.agg #[vI x.1.Lo,vI x.1.Hi]) 17 39 0 2 (nn u7 0) [vI x.1.Lo,vI x.1.Hi] 46)<|.cons [18] (qf (.agg #[vI x.2.Lo,vI x.2.Hi]) 18 40 0 2 (nn u8 0) [vI x.2.Lo,vI x.2.Hi] 46)<|.cons [19] (qm 44 _ _ 19 [] (λu9 w _=>Xs.calls (⟨x.1.Lo,x.1.Hi⟩:qb) (⟨x.2.Lo,x.2.Hi⟩:qb) t10 w ht10))<|.v 16 (.tuple #[.agg #[vI t10.1.Lo,vI t10.1.Hi],.bool t10.2])<|.v 20 (.agg #[vI t10.1.Lo,vI t10.1.Hi])<|.v 21 (.bool t10.2)<|.cons [9,41] (qn (λb=>vP b 0) (λu9=>[vI 0,vI 0]) 46 9 41)<|.cons [41] (QF (u':=λu9=>[(41,.blk (nn u9 6) [vI t10.1.Lo,vI t10.1.Hi] 46)]) (qK 41 0 (λu9=>(nn u9 6)) (λu9=>[vI 0,vI 0]) (λu9=>[vI t10.1.Lo,vI t10.1.Hi]) 46) (λ_=>by kernel_rfl))<|.v 10 (.bool t10.2)<|.nil) (by kernel_rfl) (by kernel_rfl) λu9 a w' H=>?_
  replace H:=H.kp [4,5,6,9,10,13,29,30,31,32,33,34,35,41,900081,36,37]
  refine XJ ?_
  refine XJ ?_
  refine X0 qd H (.v 22 (.bool t10.2)<|.v 23 (.bool (!t10.2))<|.nil) (by kernel_rfl) (by kernel_rfl) λu11 a w' H=>?_
  replace H:=H.kp [4,5,6,9,13,23,29,30,31,32,33,34,35,41,900081,36,37]
  refine JO H (by kernel_rfl) (t:=(!t10.2)) (by kernel_rfl) (λc15=>?_) (λc15=>?_)
  ·rw [if_pos c15] at G
   refine XJ ?_
   refine X0 qd H (.cons [31] (qQ 31 0 (nn u1 0) [.slice none 0 0] [.slice none 0 0] 48 [.slice none 0 0])<|.cons [32] (qQ 32 0 (nn u1 1) [.bool false] [.bool false] 4 [.bool false])<|.nil) (by kernel_rfl) (by kernel_rfl) λu12 a w' H=>?_
   replace H:=H.kp [4,5,6,9,13,29,30,31,32,33,34,35,41,900081,36,37]
   refine J1 ?_
   obtain rfl:=sj G
   replace H:=H.nil_row 42 46 2
   replace H:=H.move (K:=XP 46 2 none 0 0 (([]:List qb).flatMap qa)) 42 38 (by kernel_rfl) (by intro _ _ h; cases h)
   exact ⟨_,⟨none,0,0,rfl,rfl⟩,by kernel_rfl,H.toM _⟩
  ·rw [if_neg (nt c15)] at G
   refine Z7 ?_
   replace G:=gd G; obtain ⟨b14,G⟩:=G
   refine X0 qd H (.cons [24] (qf (.slice p_x5 x5.length c_x5) 24 33 0 1 (nn u2 0) [.slice p_x5 x5.length c_x5] 48)<|.cons [25] (qf (.agg #[vI t10.1.Lo,vI t10.1.Hi]) 25 41 0 2 (nn u9 6) [vI t10.1.Lo,vI t10.1.Hi] 46)<|.cons [26,44] (qn (λb=>.slice (some ⟨b,0,none⟩) 1 1) (λu13=>[vI t10.1.Lo,vI t10.1.Hi]) 46 26 44)<|.cons [27,900081,900081] (Xt [2] [44] (λu13=>[.blk (nn u13 2) [vI t10.1.Lo,vI t10.1.Hi] 46]) 900081 (λu13=>Ql 46 2 p_x5 c_x5 x5 qa) (some 27) (λu13 g=>.slice (g.o 0) (x5++[(⟨t10.1.Lo,t10.1.Hi⟩:qb)]).length (g.n 0)) (λu13 g=>Ql 46 2 (g.o 0) (g.n 0) (x5++[(⟨t10.1.Lo,t10.1.Hi⟩:qb)]) qa) (λu13 w hF hK=>Vb (Yb (t:=48) (ty:=48) (en:=qa) qe JZ (Qx hK) hF.1 (news:=[(⟨t10.1.Lo,t10.1.Hi⟩:qb)]) rfl (by simp) (by kernel_rfl) b14)) (hloc:=λu u' h=>by refine ⟨?_,?_,?_,?_⟩ <;> first | rfl | simp only [nn, h 2 (by decide)]))<|.cons [33] (QF (u':=λu13=>[(33,.blk (nn u2 0) [.slice ((u13 3).o 0) ((x5++[(⟨t10.1.Lo,t10.1.Hi⟩:qb)]).length) (nn u13 3)] 48)]) (qK 33 0 (λu13=>(nn u2 0)) (λu13=>[.slice p_x5 x5.length c_x5]) (λu13=>[.slice ((u13 3).o 0) ((x5++[(⟨t10.1.Lo,t10.1.Hi⟩:qb)]).length) (nn u13 3)]) 48) (λ_=>by kernel_rfl))<|.nil) (by kernel_rfl) (by kernel_rfl) λu13 a w' H=>?_
   replace H:=H.kp [4,5,6,13,29,30,31,32,33,34,35,900081,36,37]
   exact ⟨_,⟨_,G,((u13 3).o 0),(nn u13 3),(x5++[(⟨t10.1.Lo,t10.1.Hi⟩:qb)]).length,rfl,rfl⟩,by kernel_rfl,H.toM _⟩
 ·clear H G; rintro Di L W ⟨x5,G,p_x5,c_x5,_,rfl,rfl⟩ H
  unfold Xn.l6 at G
  replace H:=H.kp [4,5,6,13,29,30,31,32,33,34,35,900081,37]
  refine Wn ?_
  refine XJ ?_
  refine X0 qd H (.cons [28] (qf (.slice p_x5 x5.length c_x5) 28 33 0 1 (nn u2 0) [.slice p_x5 x5.length c_x5] 48)<|.cons [31] (qQ 31 0 (nn u1 0) [.slice none 0 0] [.slice p_x5 x5.length c_x5] 48 [.slice p_x5 x5.length c_x5])<|.cons [32] (qQ 32 0 (nn u1 1) [.bool false] [.bool true] 4 [.bool true])<|.nil) (by kernel_rfl) (by kernel_rfl) λu16 a w' H=>?_
  replace H:=H.kp [4,5,31,32,900081,37]
  refine J1 ?_
  obtain rfl:=sj G
  obtain ⟨g,o0,n0⟩:=ZS p_x5 c_x5
  refine VJ 37 H (by kernel_rfl) λw' H=>?_
  refine Qz H _ g _ _ _ fr [900081] [(31,⟨(nn u1 0),[.slice p_x5 x5.length c_x5],0,1⟩),(32,⟨(nn u1 1),[.bool true],0,1⟩)] (.tuple #[.slice p_x5 x5.length c_x5,.bool true]) [λ_=>Ql 46 2 p_x5 c_x5 x5 qa] (by simp only [Ql,o0,n0]) (by simp only [Ql,o0,n0]) hfr (.inl ⟨rfl,rfl⟩) (qk Qf qx) (by intro p hp; simp only [List.mem_cons,List.not_mem_nil,or_false] at hp; rcases hp with rfl | rfl; exact ⟨⟨48,by kernel_rfl⟩,by kernel_rfl⟩; exact ⟨⟨4,by kernel_rfl⟩,by kernel_rfl⟩)
 ·clear H G; rintro Di L W ⟨p_r_1,c_r_1,_,rfl,rfl⟩ H
  replace H:=H.kp [4,5,31,32,38,37]
  obtain ⟨g,o0,n0⟩:=ZS p_r_1 c_r_1
  refine VJ 37 H (by kernel_rfl) λw' H=>?_
  refine Qz H _ g _ _ _ fr [38] [(31,⟨(nn u1 0),[.slice p_r_1 r.1.length c_r_1],0,1⟩),(32,⟨(nn u1 1),[.bool r.2],0,1⟩)] (.tuple #[.slice p_r_1 r.1.length c_r_1,.bool r.2]) [λ_=>Ql 46 2 p_r_1 c_r_1 r.1 qa] (by simp only [Ql,o0,n0]) (by simp only [Ql,o0,n0]) hfr (.inl ⟨rfl,rfl⟩) (qk Qf qx) (by intro p hp; simp only [List.mem_cons,List.not_mem_nil,or_false] at hp; rcases hp with rfl | rfl; exact ⟨⟨48,by kernel_rfl⟩,by kernel_rfl⟩; exact ⟨⟨4,by kernel_rfl⟩,by kernel_rfl⟩)
end Go.Proofs.YtpmgpcklieincaaGreatDoor
