/- Each function of the program answers as the plain Lean function of its name (part 2). Printed by a program of this session. -/
import Derived.Test.YtpmgpcklieincaaGreatDoorFn1
set_option linter.unusedVariables false
set_option linter.unusedSimpArgs false
set_option maxRecDepth 100000
set_option maxHeartbeats 4000000
namespace Go.Proofs.YtpmgpcklieincaaGreatDoor
open Go Go.RowKit Go.Sx Go.Proofs
theorem X5.calls (k0:Nat)(a1:qh)(a2:List (List qb))(a3:List qb)(a4:qb)(p_a2:Option Addr)(c_a2:Nat)(L_a2:List (Sl qb))(p_a3:Option Addr)(c_a3:Nat)(r:qb)(w:World)(h_a2:a2=L_a2.map Sl.l)(hB:Xp [qy ql 1 p_a2 c_a2 L_a2 Qo,Yk ql qU.toPart L_a2,qy ql 2 p_a3 c_a3 a3 qa,gk] w)(G:X5 k0 a1 a2 a3 a4=some r) :
  Calls Tryz.prog 135 #[.agg F9.toArray,.agg #[vI a1.Op,vI a1.A,vI a1.B,vI a1.C.Lo,vI a1.C.Hi],.slice p_a2 L_a2.length c_a2,.slice p_a3 a3.length c_a3,.agg #[vI a4.Lo,vI a4.Hi]] w λe w'=>e = .returned (.agg #[vI r.Lo,vI r.Hi])∧Below w.heap.size w w':=by
 obtain ⟨fr,hfr⟩:∃ fr:Nat->Prop,∀ j,fr j:=⟨λ_=>True,λ_=>trivial⟩
 have hBf:∀ j,w.heap.size<=j->fr j:=λj _=>hfr j
 refine QA (args:=[.agg F9.toArray,.agg #[vI a1.Op,vI a1.A,vI a1.B,vI a1.C.Lo,vI a1.C.Hi],.slice p_a2 L_a2.length c_a2,.slice p_a3 a3.length c_a3,.agg #[vI a4.Lo,vI a4.Hi]]) 175 [(175,qy ql 1 p_a2 c_a2 L_a2 Qo),(176,Yk ql qU.toPart L_a2),(177,qy ql 2 p_a3 c_a3 a3 qa),(999999,gk)] (by
  intro x hx
  simp only [List.mem_cons,List.not_mem_nil,or_false] at hx
  rcases hx with rfl | rfl | rfl | rfl
  ·exact qv (qj hB.1) (λ_ _=>trivial) (by decide) _
  ·exact ZV (XB hB.2.1) (λ_ _=>trivial) _
  ·exact qv (qj hB.2.2.1) (λ_ _=>trivial) (by decide) _
  ·exact ⟨⟨_,_,rfl⟩,hB.2.2.2.1,Yc (Qy hB.2.2.2.1)⟩) Tryz.func135 rfl λa H=>?_
 unfold X5 at G
 refine qg qd H (.cons [5,178] (qn (λb=>vP b 0) (λu1=>F9) 215 5 178)<|.cons [6,179] (qn (λb=>vP b 0) (λu1=>[vI a1.Op,vI a1.A,vI a1.B,vI a1.C.Lo,vI a1.C.Hi]) 110 6 179)<|.cons [9,180] (qn (λb=>vP b 0) (λu1=>[vI a4.Lo,vI a4.Hi]) 46 9 180)<|.cons [10,181] (qn (λb=>vP b 0) (λu1=>[vI 0,vI 0]) 46 10 181)<|.nil) [2,3,5,6,9,10,175,176,177,178,179,180,181,999999] λu1 a w' H=>?_
 refine qg qd H (.v 13 (.slice p_a3 a3.length c_a3)<|.v 14 (vI (a3.length:Int))<|.v 11 (vI (a3.length:Int))<|.nil) [2,3,5,6,9,10,11,175,176,177,178,179,180,181,999999] λu2 a w' H=>?_
 refine qs ?_
 refine qg qd H (.v 15 (vP (nn u1 1) 0)<|.cons [16] (qf (vI a1.Op) 16 179 0 1 (nn u1 1) [vI a1.Op,vI a1.A,vI a1.B,vI a1.C.Lo,vI a1.C.Hi] 110)<|.nil) [2,3,5,6,9,10,11,16,175,176,177,178,179,180,181,999999] λu3 a w' H=>?_
 refine qV ?_
 refine qg qd H (.v 18 (.bool (a1.Op==4))<|.v 17 (.bool (a1.Op==4))<|.nil) [2,3,5,6,9,10,11,16,17,175,176,177,178,179,180,181,999999] λu4 a w' H=>?_
 refine Qu H (a1.Op==4) (λc97=>?_) λc97=>?_
 ·rw [if_pos c97] at G
  refine qs ?_
  replace G:=gd G; obtain ⟨b6,G⟩:=G
  obtain ⟨t7,ht7,G⟩:=qO G
  obtain ⟨p_t7,c_t7,y_t7⟩:=Yl h_a2 ht7
  have P8:=Xm (en:=Qo) (l:=L_a2) (qj (H.at (K:=qy ql 1 p_a2 c_a2 L_a2 Qo) 175 (by kernel_rfl))).2 qT
  replace G:=gd G; obtain ⟨b9,G⟩:=G
  obtain ⟨t10,ht10,G⟩:=qO G
  obtain ⟨t11,ht11,G⟩:=qO G
  refine Qq qd H (.v 19 (vP (nn u1 0) 1)<|.cons [20] (qf (.func (.func 110) #[] #[]) 20 178 1 1 (nn u1 0) F9 215)<|.v 21 (.slice p_a2 L_a2.length c_a2)<|.v 22 (vP (nn u1 1) 1)<|.cons [23] (qf (vI a1.A) 23 179 1 1 (nn u1 1) [vI a1.Op,vI a1.A,vI a1.B,vI a1.C.Lo,vI a1.C.Hi] 110)<|.cons [24] (qr (λu5=>.pointer (some ⟨XR p_a2,XV p_a2+a1.A.toNat*1,none⟩)) 24 (hv:=λ_ _=>Qe (t:=195) (k:=.i64) (i:=a1.A) (p:=p_a2) (n:=L_a2.length) (cap:=c_a2) (x:=a2) P8 (QD h_a2) b6 (by kernel_rfl)))<|.cons [25] (qL 175 (qy ql 1 p_a2 c_a2 L_a2 Qo) (.slice p_t7 t7.length c_t7) 25 λ_ w h=>Y4 Qo (qj h).2 qT y_t7 0 1 [.slice p_t7 t7.length c_t7])<|.v 26 (vI (a3.length:Int))<|.cons [27] (qL 176 (Yk ql qU.toPart L_a2) (.pointer (some ⟨XR p_t7,XV p_t7+((a3.length:Int).toNat)*2,none⟩)) 27 λ_ w h=>JT 48 .i64 (a3.length:Int) p_t7 t7.length c_t7 t7 qa (show X3 _ 2 p_t7 t7.length c_t7 (t7.flatMap qa) from ((XB h) _ (List.mem_of_getElem? y_t7)).1).2 qe rfl b9)<|.cons [28] (qL 176 (Yk ql qU.toPart L_a2) (.agg #[vI t10.Lo,vI t10.Hi]) 28 λ_ w h=>Y4 qa (show X3 _ 2 p_t7 t7.length c_t7 (t7.flatMap qa) from ((XB h) _ (List.mem_of_getElem? y_t7)).1).2 qe ht10 0 2 [vI t10.Lo,vI t10.Hi])<|.cons [29] (qm 110 _ _ 29 [] (λu5 w _=>XN.calls t10 t11 w ht11))<|.cons [181] (qQ 181 0 (nn u1 3) [vI 0,vI 0] [vI t11.Lo,vI t11.Hi] 46 [vI t11.Lo,vI t11.Hi])<|.nil) [10,181,999999] λu5 a w' H=>?_
  refine qB ?_
  obtain rfl:=sj G
  exact qY H _ 181 (nn u1 3) [vI t11.Lo,vI t11.Hi] 46 0 2
 ·rw [if_neg (nt c97)] at G
  refine qg qd H (.v 31 (.bool (a1.Op==7))<|.v 30 (.bool (a1.Op==7))<|.nil) [2,3,5,6,9,10,11,16,30,175,176,177,178,179,180,181,999999] λu12 a w' H=>?_
  refine Qu H (a1.Op==7) (λc96=>?_) λc96=>?_
  ·rw [if_pos c96] at G
   refine qs ?_
   replace G:=gd G; obtain ⟨b14,G⟩:=G
   obtain ⟨t15,ht15,G⟩:=qO G
   obtain ⟨p_t15,c_t15,y_t15⟩:=Yl h_a2 ht15
   have P16:=Xm (en:=Qo) (l:=L_a2) (qj (H.at (K:=qy ql 1 p_a2 c_a2 L_a2 Qo) 175 (by kernel_rfl))).2 qT
   replace G:=gd G; obtain ⟨b17,G⟩:=G
   obtain ⟨t18,ht18,G⟩:=qO G
   replace G:=gd G; obtain ⟨b19,G⟩:=G
   obtain ⟨t20,ht20,G⟩:=qO G
   obtain ⟨p_t20,c_t20,y_t20⟩:=Yl h_a2 ht20
   replace G:=gd G; obtain ⟨b21,G⟩:=G
   obtain ⟨t22,ht22,G⟩:=qO G
   obtain ⟨t23,ht23,G⟩:=qO G
   refine Qq qd H (.v 32 (vP (nn u1 0) 2)<|.cons [33] (qf (.func (.func 90) #[] #[]) 33 178 2 1 (nn u1 0) F9 215)<|.v 34 (.slice p_a2 L_a2.length c_a2)<|.v 35 (vP (nn u1 1) 1)<|.cons [36] (qf (vI a1.A) 36 179 1 1 (nn u1 1) [vI a1.Op,vI a1.A,vI a1.B,vI a1.C.Lo,vI a1.C.Hi] 110)<|.cons [37] (qr (λu13=>.pointer (some ⟨XR p_a2,XV p_a2+a1.A.toNat*1,none⟩)) 37 (hv:=λ_ _=>Qe (t:=195) (k:=.i64) (i:=a1.A) (p:=p_a2) (n:=L_a2.length) (cap:=c_a2) (x:=a2) P16 (QD h_a2) b14 (by kernel_rfl)))<|.cons [38] (qL 175 (qy ql 1 p_a2 c_a2 L_a2 Qo) (.slice p_t15 t15.length c_t15) 38 λ_ w h=>Y4 Qo (qj h).2 qT y_t15 0 1 [.slice p_t15 t15.length c_t15])<|.v 39 (vI (a3.length:Int))<|.cons [40] (qL 176 (Yk ql qU.toPart L_a2) (.pointer (some ⟨XR p_t15,XV p_t15+((a3.length:Int).toNat)*2,none⟩)) 40 λ_ w h=>JT 48 .i64 (a3.length:Int) p_t15 t15.length c_t15 t15 qa (show X3 _ 2 p_t15 t15.length c_t15 (t15.flatMap qa) from ((XB h) _ (List.mem_of_getElem? y_t15)).1).2 qe rfl b17)<|.cons [41] (qL 176 (Yk ql qU.toPart L_a2) (.agg #[vI t18.Lo,vI t18.Hi]) 41 λ_ w h=>Y4 qa (show X3 _ 2 p_t15 t15.length c_t15 (t15.flatMap qa) from ((XB h) _ (List.mem_of_getElem? y_t15)).1).2 qe ht18 0 2 [vI t18.Lo,vI t18.Hi])<|.v 42 (.slice p_a2 L_a2.length c_a2)<|.v 43 (vP (nn u1 1) 2)<|.cons [44] (qf (vI a1.B) 44 179 2 1 (nn u1 1) [vI a1.Op,vI a1.A,vI a1.B,vI a1.C.Lo,vI a1.C.Hi] 110)<|.cons [45] (qr (λu13=>.pointer (some ⟨XR p_a2,XV p_a2+a1.B.toNat*1,none⟩)) 45 (hv:=λ_ _=>Qe (t:=195) (k:=.i64) (i:=a1.B) (p:=p_a2) (n:=L_a2.length) (cap:=c_a2) (x:=a2) P16 (QD h_a2) b19 (by kernel_rfl)))<|.cons [46] (qL 175 (qy ql 1 p_a2 c_a2 L_a2 Qo) (.slice p_t20 t20.length c_t20) 46 λ_ w h=>Y4 Qo (qj h).2 qT y_t20 0 1 [.slice p_t20 t20.length c_t20])<|.v 47 (vI (a3.length:Int))<|.cons [48] (qL 176 (Yk ql qU.toPart L_a2) (.pointer (some ⟨XR p_t20,XV p_t20+((a3.length:Int).toNat)*2,none⟩)) 48 λ_ w h=>JT 48 .i64 (a3.length:Int) p_t20 t20.length c_t20 t20 qa (show X3 _ 2 p_t20 t20.length c_t20 (t20.flatMap qa) from ((XB h) _ (List.mem_of_getElem? y_t20)).1).2 qe rfl b21)<|.cons [49] (qL 176 (Yk ql qU.toPart L_a2) (.agg #[vI t22.Lo,vI t22.Hi]) 49 λ_ w h=>Y4 qa (show X3 _ 2 p_t20 t20.length c_t20 (t20.flatMap qa) from ((XB h) _ (List.mem_of_getElem? y_t20)).1).2 qe ht22 0 2 [vI t22.Lo,vI t22.Hi])<|.cons [50] (qm 90 _ _ 50 [] (λu13 w _=>QM.calls t18 t22 t23 w ht23))<|.cons [181] (qQ 181 0 (nn u1 3) [vI 0,vI 0] [vI t23.Lo,vI t23.Hi] 46 [vI t23.Lo,vI t23.Hi])<|.nil) [10,181,999999] λu13 a w' H=>?_
   refine qB ?_
   obtain rfl:=sj G
   exact qY H _ 181 (nn u1 3) [vI t23.Lo,vI t23.Hi] 46 0 2
  ·rw [if_neg (nt c96)] at G
   refine qg qd H (.v 52 (.bool (a1.Op==8))<|.v 51 (.bool (a1.Op==8))<|.nil) [2,3,5,6,9,10,11,16,51,175,176,177,178,179,180,181,999999] λu24 a w' H=>?_
   refine Qu H (a1.Op==8) (λc95=>?_) λc95=>?_
   ·rw [if_pos c95] at G
    refine qs ?_
    replace G:=gd G; obtain ⟨b26,G⟩:=G
    obtain ⟨t27,ht27,G⟩:=qO G
    obtain ⟨p_t27,c_t27,y_t27⟩:=Yl h_a2 ht27
    have P28:=Xm (en:=Qo) (l:=L_a2) (qj (H.at (K:=qy ql 1 p_a2 c_a2 L_a2 Qo) 175 (by kernel_rfl))).2 qT
    replace G:=gd G; obtain ⟨b29,G⟩:=G
    obtain ⟨t30,ht30,G⟩:=qO G
    replace G:=gd G; obtain ⟨b31,G⟩:=G
    obtain ⟨t32,ht32,G⟩:=qO G
    obtain ⟨p_t32,c_t32,y_t32⟩:=Yl h_a2 ht32
    replace G:=gd G; obtain ⟨b33,G⟩:=G
    obtain ⟨t34,ht34,G⟩:=qO G
    obtain ⟨t35,ht35,G⟩:=qO G
    refine Qq qd H (.v 53 (vP (nn u1 0) 3)<|.cons [54] (qf (.func (.func 92) #[] #[]) 54 178 3 1 (nn u1 0) F9 215)<|.v 55 (.slice p_a2 L_a2.length c_a2)<|.v 56 (vP (nn u1 1) 1)<|.cons [57] (qf (vI a1.A) 57 179 1 1 (nn u1 1) [vI a1.Op,vI a1.A,vI a1.B,vI a1.C.Lo,vI a1.C.Hi] 110)<|.cons [58] (qr (λu25=>.pointer (some ⟨XR p_a2,XV p_a2+a1.A.toNat*1,none⟩)) 58 (hv:=λ_ _=>Qe (t:=195) (k:=.i64) (i:=a1.A) (p:=p_a2) (n:=L_a2.length) (cap:=c_a2) (x:=a2) P28 (QD h_a2) b26 (by kernel_rfl)))<|.cons [59] (qL 175 (qy ql 1 p_a2 c_a2 L_a2 Qo) (.slice p_t27 t27.length c_t27) 59 λ_ w h=>Y4 Qo (qj h).2 qT y_t27 0 1 [.slice p_t27 t27.length c_t27])<|.v 60 (vI (a3.length:Int))<|.cons [61] (qL 176 (Yk ql qU.toPart L_a2) (.pointer (some ⟨XR p_t27,XV p_t27+((a3.length:Int).toNat)*2,none⟩)) 61 λ_ w h=>JT 48 .i64 (a3.length:Int) p_t27 t27.length c_t27 t27 qa (show X3 _ 2 p_t27 t27.length c_t27 (t27.flatMap qa) from ((XB h) _ (List.mem_of_getElem? y_t27)).1).2 qe rfl b29)<|.cons [62] (qL 176 (Yk ql qU.toPart L_a2) (.agg #[vI t30.Lo,vI t30.Hi]) 62 λ_ w h=>Y4 qa (show X3 _ 2 p_t27 t27.length c_t27 (t27.flatMap qa) from ((XB h) _ (List.mem_of_getElem? y_t27)).1).2 qe ht30 0 2 [vI t30.Lo,vI t30.Hi])<|.v 63 (.slice p_a2 L_a2.length c_a2)<|.v 64 (vP (nn u1 1) 2)<|.cons [65] (qf (vI a1.B) 65 179 2 1 (nn u1 1) [vI a1.Op,vI a1.A,vI a1.B,vI a1.C.Lo,vI a1.C.Hi] 110)<|.cons [66] (qr (λu25=>.pointer (some ⟨XR p_a2,XV p_a2+a1.B.toNat*1,none⟩)) 66 (hv:=λ_ _=>Qe (t:=195) (k:=.i64) (i:=a1.B) (p:=p_a2) (n:=L_a2.length) (cap:=c_a2) (x:=a2) P28 (QD h_a2) b31 (by kernel_rfl)))<|.cons [67] (qL 175 (qy ql 1 p_a2 c_a2 L_a2 Qo) (.slice p_t32 t32.length c_t32) 67 λ_ w h=>Y4 Qo (qj h).2 qT y_t32 0 1 [.slice p_t32 t32.length c_t32])<|.v 68 (vI (a3.length:Int))<|.cons [69] (qL 176 (Yk ql qU.toPart L_a2) (.pointer (some ⟨XR p_t32,XV p_t32+((a3.length:Int).toNat)*2,none⟩)) 69 λ_ w h=>JT 48 .i64 (a3.length:Int) p_t32 t32.length c_t32 t32 qa (show X3 _ 2 p_t32 t32.length c_t32 (t32.flatMap qa) from ((XB h) _ (List.mem_of_getElem? y_t32)).1).2 qe rfl b33)<|.cons [70] (qL 176 (Yk ql qU.toPart L_a2) (.agg #[vI t34.Lo,vI t34.Hi]) 70 λ_ w h=>Y4 qa (show X3 _ 2 p_t32 t32.length c_t32 (t32.flatMap qa) from ((XB h) _ (List.mem_of_getElem? y_t32)).1).2 qe ht34 0 2 [vI t34.Lo,vI t34.Hi])<|.cons [71] (qm 92 _ _ 71 [] (λu25 w _=>Xh.calls t30 t34 t35 w ht35))<|.cons [181] (qQ 181 0 (nn u1 3) [vI 0,vI 0] [vI t35.Lo,vI t35.Hi] 46 [vI t35.Lo,vI t35.Hi])<|.nil) [10,181,999999] λu25 a w' H=>?_
    refine qB ?_
    obtain rfl:=sj G
    exact qY H _ 181 (nn u1 3) [vI t35.Lo,vI t35.Hi] 46 0 2
   ·rw [if_neg (nt c95)] at G
    refine qg qd H (.v 73 (.bool (a1.Op==9))<|.v 72 (.bool (a1.Op==9))<|.nil) [2,3,5,6,9,10,11,16,72,175,176,177,178,179,180,181,999999] λu36 a w' H=>?_
    refine Qu H (a1.Op==9) (λc94=>?_) λc94=>?_
    ·rw [if_pos c94] at G
     refine qs ?_
     replace G:=gd G; obtain ⟨b38,G⟩:=G
     obtain ⟨t39,ht39,G⟩:=qO G
     obtain ⟨p_t39,c_t39,y_t39⟩:=Yl h_a2 ht39
     have P40:=Xm (en:=Qo) (l:=L_a2) (qj (H.at (K:=qy ql 1 p_a2 c_a2 L_a2 Qo) 175 (by kernel_rfl))).2 qT
     replace G:=gd G; obtain ⟨b41,G⟩:=G
     obtain ⟨t42,ht42,G⟩:=qO G
     obtain ⟨p_t42,c_t42,y_t42⟩:=Yl h_a2 ht42
     obtain ⟨t43,ht43,G⟩:=qO G
     refine Jw qd H (.cons [74] (qf (.agg F9.toArray) 74 178 0 9 (nn u1 0) F9 215)<|.v 75 (.slice p_a2 L_a2.length c_a2)<|.v 76 (vP (nn u1 1) 1)<|.cons [77] (qf (vI a1.A) 77 179 1 1 (nn u1 1) [vI a1.Op,vI a1.A,vI a1.B,vI a1.C.Lo,vI a1.C.Hi] 110)<|.cons [78] (qr (λu37=>.pointer (some ⟨XR p_a2,XV p_a2+a1.A.toNat*1,none⟩)) 78 (hv:=λ_ _=>Qe (t:=195) (k:=.i64) (i:=a1.A) (p:=p_a2) (n:=L_a2.length) (cap:=c_a2) (x:=a2) P40 (QD h_a2) b38 (by kernel_rfl)))<|.cons [79] (qL 175 (qy ql 1 p_a2 c_a2 L_a2 Qo) (.slice p_t39 t39.length c_t39) 79 λ_ w h=>Y4 Qo (qj h).2 qT y_t39 0 1 [.slice p_t39 t39.length c_t39])<|.v 80 (.slice p_a2 L_a2.length c_a2)<|.v 81 (vP (nn u1 1) 2)<|.cons [82] (qf (vI a1.B) 82 179 2 1 (nn u1 1) [vI a1.Op,vI a1.A,vI a1.B,vI a1.C.Lo,vI a1.C.Hi] 110)<|.cons [83] (qr (λu37=>.pointer (some ⟨XR p_a2,XV p_a2+a1.B.toNat*1,none⟩)) 83 (hv:=λ_ _=>Qe (t:=195) (k:=.i64) (i:=a1.B) (p:=p_a2) (n:=L_a2.length) (cap:=c_a2) (x:=a2) P40 (QD h_a2) b41 (by kernel_rfl)))<|.cons [84] (qL 175 (qy ql 1 p_a2 c_a2 L_a2 Qo) (.slice p_t42 t42.length c_t42) 84 λ_ w h=>Y4 Qo (qj h).2 qT y_t42 0 1 [.slice p_t42 t42.length c_t42])<|.v 85 (vI (a3.length:Int))<|.v 86 (vI (a3.length:Int))<|.cons [87] (Q6 [176,999999] (λu37=>[Yk ql qU.toPart L_a2,gk]) 139 _ _ 87 (λu37 w hF=>qG.calls k0 t39 t42 0 (a3.length:Int) (a3.length:Int) p_t39 c_t39 p_t42 c_t42 t43 w ⟨(JU (show X3 _ 2 p_t39 t39.length c_t39 (t39.flatMap qa) from ((XB hF.1) _ (List.mem_of_getElem? y_t39)).1)),(JU (show X3 _ 2 p_t42 t42.length c_t42 (t42.flatMap qa) from ((XB hF.1) _ (List.mem_of_getElem? y_t42)).1)),hF.2.1,trivial⟩ ht43))<|.cons [181] (qQ 181 0 (nn u1 3) [vI 0,vI 0] [vI t43.Lo,vI t43.Hi] 46 [vI t43.Lo,vI t43.Hi])<|.nil) (by kernel_rfl) λu37 a w' H=>?_
     replace H:=H.kp [10,181,999999]
     refine qB ?_
     obtain rfl:=sj G
     exact qY H _ 181 (nn u1 3) [vI t43.Lo,vI t43.Hi] 46 0 2
    ·rw [if_neg (nt c94)] at G
     refine qg qd H (.v 89 (.bool (a1.Op==5))<|.v 88 (.bool (a1.Op==5))<|.nil) [2,3,5,6,9,10,11,16,88,175,176,177,178,179,180,181,999999] λu44 a w' H=>?_
     refine Qu H (a1.Op==5) (λc93=>?_) λc93=>?_
     ·rw [if_pos c93] at G
      refine qs ?_
      refine qg qd H (.v 90 (vI (a3.length:Int))<|.v 91 (.bool ((a3.length:Int)==0))<|.nil) [2,5,6,10,11,91,175,176,178,179,181,999999] λu45 a w' H=>?_
      refine Qu H ((a3.length:Int)==0) (λc60=>?_) λc60=>?_
      ·rw [if_pos c60] at G
       refine qs ?_
       replace G:=gd G; obtain ⟨b47,G⟩:=G
       obtain ⟨t48,ht48,G⟩:=qO G
       obtain ⟨p_t48,c_t48,y_t48⟩:=Yl h_a2 ht48
       have P49:=Xm (en:=Qo) (l:=L_a2) (qj (H.at (K:=qy ql 1 p_a2 c_a2 L_a2 Qo) 175 (by kernel_rfl))).2 qT
       replace G:=gd G; obtain ⟨b50,G⟩:=G
       obtain ⟨t51,ht51,G⟩:=qO G
       obtain ⟨t52,ht52,G⟩:=qO G
       refine Qq qd H (.v 92 (vP (nn u1 0) 5)<|.cons [93] (qf (.func (.func 91) #[] #[]) 93 178 5 1 (nn u1 0) F9 215)<|.v 94 (.slice p_a2 L_a2.length c_a2)<|.v 95 (vP (nn u1 1) 1)<|.cons [96] (qf (vI a1.A) 96 179 1 1 (nn u1 1) [vI a1.Op,vI a1.A,vI a1.B,vI a1.C.Lo,vI a1.C.Hi] 110)<|.cons [97] (qr (λu46=>.pointer (some ⟨XR p_a2,XV p_a2+a1.A.toNat*1,none⟩)) 97 (hv:=λ_ _=>Qe (t:=195) (k:=.i64) (i:=a1.A) (p:=p_a2) (n:=L_a2.length) (cap:=c_a2) (x:=a2) P49 (QD h_a2) b47 (by kernel_rfl)))<|.cons [98] (qL 175 (qy ql 1 p_a2 c_a2 L_a2 Qo) (.slice p_t48 t48.length c_t48) 98 λ_ w h=>Y4 Qo (qj h).2 qT y_t48 0 1 [.slice p_t48 t48.length c_t48])<|.cons [99] (qL 176 (Yk ql qU.toPart L_a2) (.pointer (some ⟨XR p_t48,XV p_t48+((0:Int).toNat)*2,none⟩)) 99 λ_ w h=>JT 48 .i64 (0:Int) p_t48 t48.length c_t48 t48 qa (show X3 _ 2 p_t48 t48.length c_t48 (t48.flatMap qa) from ((XB h) _ (List.mem_of_getElem? y_t48)).1).2 qe rfl b50)<|.cons [100] (qL 176 (Yk ql qU.toPart L_a2) (.agg #[vI t51.Lo,vI t51.Hi]) 100 λ_ w h=>Y4 qa (show X3 _ 2 p_t48 t48.length c_t48 (t48.flatMap qa) from ((XB h) _ (List.mem_of_getElem? y_t48)).1).2 qe ht51 0 2 [vI t51.Lo,vI t51.Hi])<|.cons [101] (qm 91 _ _ 101 [] (λu46 w _=>Xz.calls t51 t52 w ht52))<|.cons [181] (qQ 181 0 (nn u1 3) [vI 0,vI 0] [vI t52.Lo,vI t52.Hi] 46 [vI t52.Lo,vI t52.Hi])<|.nil) [10,181,999999] λu46 a w' H=>?_
       refine qB ?_
       obtain rfl:=sj G
       exact qY H _ 181 (nn u1 3) [vI t52.Lo,vI t52.Hi] 46 0 2
      ·rw [if_neg (nt c60)] at G
       refine q8 ?_
       refine qs ?_
       replace G:=gd G; obtain ⟨b54,G⟩:=G
       obtain ⟨t55,ht55,G⟩:=qO G
       obtain ⟨p_t55,c_t55,y_t55⟩:=Yl h_a2 ht55
       have P56:=Xm (en:=Qo) (l:=L_a2) (qj (H.at (K:=qy ql 1 p_a2 c_a2 L_a2 Qo) 175 (by kernel_rfl))).2 qT
       replace G:=gd G; obtain ⟨b57,G⟩:=G
       obtain ⟨t58,ht58,G⟩:=qO G
       obtain ⟨p_t58,c_t58,y_t58⟩:=Yl h_a2 ht58
       obtain ⟨t59,ht59,G⟩:=qO G
       refine Jw qd H (.cons [102] (qf (.agg F9.toArray) 102 178 0 9 (nn u1 0) F9 215)<|.v 103 (.slice p_a2 L_a2.length c_a2)<|.v 104 (vP (nn u1 1) 1)<|.cons [105] (qf (vI a1.A) 105 179 1 1 (nn u1 1) [vI a1.Op,vI a1.A,vI a1.B,vI a1.C.Lo,vI a1.C.Hi] 110)<|.cons [106] (qr (λu53=>.pointer (some ⟨XR p_a2,XV p_a2+a1.A.toNat*1,none⟩)) 106 (hv:=λ_ _=>Qe (t:=195) (k:=.i64) (i:=a1.A) (p:=p_a2) (n:=L_a2.length) (cap:=c_a2) (x:=a2) P56 (QD h_a2) b54 (by kernel_rfl)))<|.cons [107] (qL 175 (qy ql 1 p_a2 c_a2 L_a2 Qo) (.slice p_t55 t55.length c_t55) 107 λ_ w h=>Y4 Qo (qj h).2 qT y_t55 0 1 [.slice p_t55 t55.length c_t55])<|.v 108 (.slice p_a2 L_a2.length c_a2)<|.v 109 (vP (nn u1 1) 1)<|.cons [110] (qf (vI a1.A) 110 179 1 1 (nn u1 1) [vI a1.Op,vI a1.A,vI a1.B,vI a1.C.Lo,vI a1.C.Hi] 110)<|.cons [111] (qr (λu53=>.pointer (some ⟨XR p_a2,XV p_a2+a1.A.toNat*1,none⟩)) 111 (hv:=λ_ _=>Qe (t:=195) (k:=.i64) (i:=a1.A) (p:=p_a2) (n:=L_a2.length) (cap:=c_a2) (x:=a2) P56 (QD h_a2) b57 (by kernel_rfl)))<|.cons [112] (qL 175 (qy ql 1 p_a2 c_a2 L_a2 Qo) (.slice p_t58 t58.length c_t58) 112 λ_ w h=>Y4 Qo (qj h).2 qT y_t58 0 1 [.slice p_t58 t58.length c_t58])<|.v 113 (vI (a3.length:Int))<|.v 114 (vI (a3.length:Int))<|.cons [115] (Q6 [176,999999] (λu53=>[Yk ql qU.toPart L_a2,gk]) 139 _ _ 115 (λu53 w hF=>qG.calls k0 t55 t58 0 (a3.length:Int) (a3.length:Int) p_t55 c_t55 p_t58 c_t58 t59 w ⟨(JU (show X3 _ 2 p_t55 t55.length c_t55 (t55.flatMap qa) from ((XB hF.1) _ (List.mem_of_getElem? y_t55)).1)),(JU (show X3 _ 2 p_t58 t58.length c_t58 (t58.flatMap qa) from ((XB hF.1) _ (List.mem_of_getElem? y_t58)).1)),hF.2.1,trivial⟩ ht59))<|.cons [181] (qQ 181 0 (nn u1 3) [vI 0,vI 0] [vI t59.Lo,vI t59.Hi] 46 [vI t59.Lo,vI t59.Hi])<|.nil) (by kernel_rfl) λu53 a w' H=>?_
       replace H:=H.kp [10,181,999999]
       refine qB ?_
       obtain rfl:=sj G
       exact qY H _ 181 (nn u1 3) [vI t59.Lo,vI t59.Hi] 46 0 2
     ·rw [if_neg (nt c93)] at G
      refine qg qd H (.v 117 (.bool (a1.Op==10))<|.v 116 (.bool (a1.Op==10))<|.nil) [2,3,5,6,9,10,11,16,116,175,176,177,178,179,180,181,999999] λu61 a w' H=>?_
      refine Qu H (a1.Op==10) (λc92=>?_) λc92=>?_
      ·rw [if_pos c92] at G
       refine qs ?_
       replace G:=gd G; obtain ⟨b63,G⟩:=G
       obtain ⟨t64,ht64,G⟩:=qO G
       obtain ⟨p_t64,c_t64,y_t64⟩:=Yl h_a2 ht64
       have P65:=Xm (en:=Qo) (l:=L_a2) (qj (H.at (K:=qy ql 1 p_a2 c_a2 L_a2 Qo) 175 (by kernel_rfl))).2 qT
       replace G:=gd G; obtain ⟨b66,G⟩:=G
       obtain ⟨t67,ht67,G⟩:=qO G
       obtain ⟨p_t67,c_t67,y_t67⟩:=Yl h_a2 ht67
       obtain ⟨t68,ht68,G⟩:=qO G
       refine Jw qd H (.v 118 (vP (nn u1 0) 6)<|.cons [119] (qf (.func (.func 131) #[] #[]) 119 178 6 1 (nn u1 0) F9 215)<|.v 120 (.slice p_a2 L_a2.length c_a2)<|.v 121 (vP (nn u1 1) 1)<|.cons [122] (qf (vI a1.A) 122 179 1 1 (nn u1 1) [vI a1.Op,vI a1.A,vI a1.B,vI a1.C.Lo,vI a1.C.Hi] 110)<|.cons [123] (qr (λu62=>.pointer (some ⟨XR p_a2,XV p_a2+a1.A.toNat*1,none⟩)) 123 (hv:=λ_ _=>Qe (t:=195) (k:=.i64) (i:=a1.A) (p:=p_a2) (n:=L_a2.length) (cap:=c_a2) (x:=a2) P65 (QD h_a2) b63 (by kernel_rfl)))<|.cons [124] (qL 175 (qy ql 1 p_a2 c_a2 L_a2 Qo) (.slice p_t64 t64.length c_t64) 124 λ_ w h=>Y4 Qo (qj h).2 qT y_t64 0 1 [.slice p_t64 t64.length c_t64])<|.v 125 (.slice p_a2 L_a2.length c_a2)<|.v 126 (vP (nn u1 1) 2)<|.cons [127] (qf (vI a1.B) 127 179 2 1 (nn u1 1) [vI a1.Op,vI a1.A,vI a1.B,vI a1.C.Lo,vI a1.C.Hi] 110)<|.cons [128] (qr (λu62=>.pointer (some ⟨XR p_a2,XV p_a2+a1.B.toNat*1,none⟩)) 128 (hv:=λ_ _=>Qe (t:=195) (k:=.i64) (i:=a1.B) (p:=p_a2) (n:=L_a2.length) (cap:=c_a2) (x:=a2) P65 (QD h_a2) b66 (by kernel_rfl)))<|.cons [129] (qL 175 (qy ql 1 p_a2 c_a2 L_a2 Qo) (.slice p_t67 t67.length c_t67) 129 λ_ w h=>Y4 Qo (qj h).2 qT y_t67 0 1 [.slice p_t67 t67.length c_t67])<|.v 130 (.slice p_a3 a3.length c_a3)<|.cons [131] (Q6 [176,177,999999] (λu62=>[Yk ql qU.toPart L_a2,qy ql 2 p_a3 c_a3 a3 qa,gk]) 131 _ _ 131 (λu62 w hF=>Qw.calls k0 t64 t67 a3 p_t64 c_t64 p_t67 c_t67 p_a3 c_a3 t68 w ⟨(JU (show X3 _ 2 p_t64 t64.length c_t64 (t64.flatMap qa) from ((XB hF.1) _ (List.mem_of_getElem? y_t64)).1)),(JU (show X3 _ 2 p_t67 t67.length c_t67 (t67.flatMap qa) from ((XB hF.1) _ (List.mem_of_getElem? y_t67)).1)),(JU (qj hF.2.1)),hF.2.2.1,trivial⟩ ht68))<|.cons [181] (qQ 181 0 (nn u1 3) [vI 0,vI 0] [vI t68.Lo,vI t68.Hi] 46 [vI t68.Lo,vI t68.Hi])<|.nil) (by kernel_rfl) λu62 a w' H=>?_
       replace H:=H.kp [10,181,999999]
       refine qB ?_
       obtain rfl:=sj G
       exact qY H _ 181 (nn u1 3) [vI t68.Lo,vI t68.Hi] 46 0 2
      ·rw [if_neg (nt c92)] at G
       refine qg qd H (.v 133 (.bool (a1.Op==6))<|.v 132 (.bool (a1.Op==6))<|.nil) [2,3,5,6,9,10,11,132,175,176,177,178,179,180,181,999999] λu69 a w' H=>?_
       refine Qu H (a1.Op==6) (λc91=>?_) λc91=>?_
       ·rw [if_pos c91] at G
        refine qs ?_
        replace G:=gd G; obtain ⟨b71,G⟩:=G
        obtain ⟨t72,ht72,G⟩:=qO G
        obtain ⟨p_t72,c_t72,y_t72⟩:=Yl h_a2 ht72
        have P73:=Xm (en:=Qo) (l:=L_a2) (qj (H.at (K:=qy ql 1 p_a2 c_a2 L_a2 Qo) 175 (by kernel_rfl))).2 qT
        obtain ⟨t74,ht74,G⟩:=qO G
        refine Jw qd H (.v 134 (vP (nn u1 0) 7)<|.cons [135] (qf (.func (.func 132) #[] #[]) 135 178 7 1 (nn u1 0) F9 215)<|.v 136 (.slice p_a2 L_a2.length c_a2)<|.v 137 (vP (nn u1 1) 1)<|.cons [138] (qf (vI a1.A) 138 179 1 1 (nn u1 1) [vI a1.Op,vI a1.A,vI a1.B,vI a1.C.Lo,vI a1.C.Hi] 110)<|.cons [139] (qr (λu70=>.pointer (some ⟨XR p_a2,XV p_a2+a1.A.toNat*1,none⟩)) 139 (hv:=λ_ _=>Qe (t:=195) (k:=.i64) (i:=a1.A) (p:=p_a2) (n:=L_a2.length) (cap:=c_a2) (x:=a2) P73 (QD h_a2) b71 (by kernel_rfl)))<|.cons [140] (qL 175 (qy ql 1 p_a2 c_a2 L_a2 Qo) (.slice p_t72 t72.length c_t72) 140 λ_ w h=>Y4 Qo (qj h).2 qT y_t72 0 1 [.slice p_t72 t72.length c_t72])<|.v 141 (.slice p_a3 a3.length c_a3)<|.cons [142] (Q6 [176,177,999999] (λu70=>[Yk ql qU.toPart L_a2,qy ql 2 p_a3 c_a3 a3 qa,gk]) 132 _ _ 142 (λu70 w hF=>Yd.calls k0 t72 a3 p_t72 c_t72 p_a3 c_a3 t74 w ⟨(JU (show X3 _ 2 p_t72 t72.length c_t72 (t72.flatMap qa) from ((XB hF.1) _ (List.mem_of_getElem? y_t72)).1)),(JU (qj hF.2.1)),hF.2.2.1,trivial⟩ ht74))<|.cons [181] (qQ 181 0 (nn u1 3) [vI 0,vI 0] [vI t74.Lo,vI t74.Hi] 46 [vI t74.Lo,vI t74.Hi])<|.nil) (by kernel_rfl) λu70 a w' H=>?_
        replace H:=H.kp [10,181,999999]
        refine qB ?_
        obtain rfl:=sj G
        exact qY H _ 181 (nn u1 3) [vI t74.Lo,vI t74.Hi] 46 0 2
       ·rw [if_neg (nt c91)] at G
        refine q8 ?_
        refine qg qd H (.cons [12,182] (qn (λb=>vP b 0) (λu75=>[vI 0,vI 0]) 46 12 182)<|.nil) [5,6,9,10,11,12,178,179,180,181,182,999999] λu75 a w' H=>?_
        refine qs ?_
        obtain ⟨j78,hj78,G⟩:=qO G
        refine Xu (λa w'=>RL w 175 [(5,(sP (nn u1 0) 0)),(10,(sP (nn u1 3) 0)),(12,(sP (nn u75 0) 0)),(178,.blk (nn u1 0) F9 215),(181,.blk (nn u1 3) [vI 0,vI 0] 46),(182,.blk (nn u75 0) [vI j78.1,vI j78.2] 46),(999999,gk)] a w') ?_ ?_
        ·clear H; intro a w' H
         obtain ⟨t80,ht80,G⟩:=qO G
         refine qg qd H (.v 171 (vP (nn u1 0) 0)<|.cons [172] (qf (.func (.func 130) #[] #[]) 172 178 0 1 (nn u1 0) F9 215)<|.cons [173] (qf (.agg #[vI j78.1,vI j78.2]) 173 182 0 2 (nn u75 0) [vI j78.1,vI j78.2] 46)<|.cons [174] (qm 130 _ _ 174 [] (λu79 w _=>Yh.calls (⟨j78.1,j78.2⟩:qb) t80 w ht80))<|.cons [181] (qQ 181 0 (nn u1 3) [vI 0,vI 0] [vI t80.Lo,vI t80.Hi] 46 [vI t80.Lo,vI t80.Hi])<|.nil) [10,181,999999] λu79 a w' H=>?_
         refine qB ?_
         obtain rfl:=sj G
         exact qY H _ 181 (nn u1 3) [vI t80.Lo,vI t80.Hi] 46 0 2
        ·clear G; replace G:=hj78; clear hj78
         refine qV ?_
         refine qg qd H (.v 144 (vP (nn u1 1) 0)<|.cons [145] (qf (vI a1.Op) 145 179 0 1 (nn u1 1) [vI a1.Op,vI a1.A,vI a1.B,vI a1.C.Lo,vI a1.C.Hi] 110)<|.v 146 (.bool (a1.Op==1))<|.v 147 (.bool (a1.Op==1))<|.cons [148] (qE (λu81=>vI (a3.length:Int)) (λu81=>((a1.Op==1)==true)) [true] 148)<|.cons [149] (qE (λu81=>.bool ((a3.length:Int)==0)) (λu81=>((a1.Op==1)==true)) [false,true] 149)<|.cons [150] (YH 147 149 (λu81=>true) (λu81=>true) (λu81=>(a1.Op==1)) (λu81=>((a3.length:Int)==0)) 150)<|.v 143 (.bool ((a1.Op==1)&&((a3.length:Int)==0)))<|.nil) [5,6,9,10,11,12,143,178,179,180,181,182,999999] λu81 a w' H=>?_
         refine Qu H ((a1.Op==1)&&((a3.length:Int)==0)) (λc90=>?_) λc90=>?_
         ·rw [if_pos c90] at G
          refine Qq qd H (.v 151 (vP (nn u1 1) 3)<|.cons [152] (qf (.agg #[vI a1.C.Lo,vI a1.C.Hi]) 152 179 3 2 (nn u1 1) [vI a1.Op,vI a1.A,vI a1.B,vI a1.C.Lo,vI a1.C.Hi] 110)<|.cons [182] (qQ 182 0 (nn u75 0) [vI 0,vI 0] [vI a1.C.Lo,vI a1.C.Hi] 46 [vI a1.C.Lo,vI a1.C.Hi])<|.nil) [5,10,12,178,181,182,999999] λu82 a w' H=>?_
          obtain rfl:=sj G
          exact H.toM _
         ·rw [if_neg (nt c90)] at G
          refine qg qd H (.v 154 (vP (nn u1 1) 0)<|.cons [155] (qf (vI a1.Op) 155 179 0 1 (nn u1 1) [vI a1.Op,vI a1.A,vI a1.B,vI a1.C.Lo,vI a1.C.Hi] 110)<|.v 156 (.bool (a1.Op==3))<|.v 157 (.bool (a1.Op==3))<|.cons [158] (qE (λu83=>vI (a3.length:Int)) (λu83=>((a1.Op==3)==true)) [true] 158)<|.cons [159] (qE (λu83=>.bool ((a3.length:Int)==0)) (λu83=>((a1.Op==3)==true)) [false,true] 159)<|.cons [160] (YH 157 159 (λu83=>true) (λu83=>true) (λu83=>(a1.Op==3)) (λu83=>((a3.length:Int)==0)) 160)<|.v 153 (.bool ((a1.Op==3)&&((a3.length:Int)==0)))<|.nil) [5,6,9,10,11,12,153,178,179,180,181,182,999999] λu83 a w' H=>?_
          refine Qu H ((a1.Op==3)&&((a3.length:Int)==0)) (λc89=>?_) λc89=>?_
          ·rw [if_pos c89] at G
           refine Qq qd H (.cons [161] (qf (.agg #[vI a4.Lo,vI a4.Hi]) 161 180 0 2 (nn u1 2) [vI a4.Lo,vI a4.Hi] 46)<|.cons [182] (qQ 182 0 (nn u75 0) [vI 0,vI 0] [vI a4.Lo,vI a4.Hi] 46 [vI a4.Lo,vI a4.Hi])<|.nil) [5,10,12,178,181,182,999999] λu84 a w' H=>?_
           obtain rfl:=sj G
           exact H.toM _
          ·rw [if_neg (nt c89)] at G
           refine qg qd H (.v 163 (vP (nn u1 1) 0)<|.cons [164] (qf (vI a1.Op) 164 179 0 1 (nn u1 1) [vI a1.Op,vI a1.A,vI a1.B,vI a1.C.Lo,vI a1.C.Hi] 110)<|.v 165 (.bool (a1.Op==3))<|.v 166 (.bool (a1.Op==3))<|.cons [167] (qE (λu85=>vI (a3.length:Int)) (λu85=>((a1.Op==3)==true)) [true] 167)<|.cons [168] (qE (λu85=>.bool ((a3.length:Int)==1)) (λu85=>((a1.Op==3)==true)) [false,true] 168)<|.cons [169] (YH 166 168 (λu85=>true) (λu85=>true) (λu85=>(a1.Op==3)) (λu85=>((a3.length:Int)==1)) 169)<|.v 162 (.bool ((a1.Op==3)&&((a3.length:Int)==1)))<|.nil) [5,10,12,162,178,181,182,999999] λu85 a w' H=>?_
           refine Qu H ((a1.Op==3)&&((a3.length:Int)==1)) (λc88=>?_) λc88=>?_
           ·rw [if_pos c88] at G
            obtain ⟨t87,ht87,G⟩:=qO G
            refine Qq qd H (.cons [170] (qm 142 _ _ 170 [] (λu86 w _=>Jt.calls t87 w ht87))<|.cons [182] (qQ 182 0 (nn u75 0) [vI 0,vI 0] [vI t87.Lo,vI t87.Hi] 46 [vI t87.Lo,vI t87.Hi])<|.nil) [5,10,12,178,181,182,999999] λu86 a w' H=>?_
            obtain rfl:=sj G
            exact H.toM _
           ·rw [if_neg (nt c88)] at G
            refine q8 ?_
            obtain rfl:=sj G
            exact H.toM _
theorem qo.calls (k0:Nat)(a1:QE)(a2:List qb)(a3:qb)(a4:Int)(p_a1_L:Option Addr)(c_a1_L:Nat)(p_a1_Out:Option Addr)(c_a1_Out:Nat)(p_a2:Option Addr)(c_a2:Nat)(r:List (List qb))(w:World)(hB:Xp [qy ql 5 p_a1_L c_a1_L a1.L qi,qy ql 1 p_a1_Out c_a1_Out a1.Out q6,qy ql 2 p_a2 c_a2 a2 qa,gk] w)(G:qo k0 a1 a2 a3 a4=some r) :
  Calls Tryz.prog 121 #[.agg F9.toArray,.agg #[vI a1.N,.slice p_a1_L a1.L.length c_a1_L,.slice p_a1_Out a1.Out.length c_a1_Out],.slice p_a2 a2.length c_a2,.agg #[vI a3.Lo,vI a3.Hi],vI a4] w λe w'=>∃ g:Gh,e = .returned (slgd_S_TInterval g 0 r)∧Zj (YR []) w w'∧Ye w.heap.size (YR []) (JS w.heap.size []) [λ_=>ns_en_TIntervalg g 0 r] w':=by
 obtain ⟨fr,hfr,hBf⟩:=VT w []
 refine QA (args:=[.agg F9.toArray,.agg #[vI a1.N,.slice p_a1_L a1.L.length c_a1_L,.slice p_a1_Out a1.Out.length c_a1_Out],.slice p_a2 a2.length c_a2,.agg #[vI a3.Lo,vI a3.Hi],vI a4]) 123 [(123,qy ql 5 p_a1_L c_a1_L a1.L qi),(124,qy ql 1 p_a1_Out c_a1_Out a1.Out q6),(125,qy ql 2 p_a2 c_a2 a2 qa),(999999,gk)] (by
  intro x hx
  simp only [List.mem_cons,List.not_mem_nil,or_false] at hx
  rcases hx with rfl | rfl | rfl | rfl
  ·exact qv (qj hB.1) (λ_ _=>trivial) (by decide) _
  ·exact qv (qj hB.2.1) (λ_ _=>trivial) (by decide) _
  ·exact qv (qj hB.2.2.1) (λ_ _=>trivial) (by decide) _
  ·exact ⟨⟨_,_,rfl⟩,hB.2.2.2.1,Yc (Qy hB.2.2.2.1)⟩) Tryz.func121 rfl λa H=>?_
 unfold qo at G
 refine qg qd H (.cons [5,126] (qn (λb=>vP b 0) (λu1=>F9) 215 5 126)<|.cons [6,127] (qn (λb=>vP b 0) (λu1=>[vI a1.N,.slice p_a1_L a1.L.length c_a1_L,.slice p_a1_Out a1.Out.length c_a1_Out]) 38 6 127)<|.cons [8,128] (qn (λb=>vP b 0) (λu1=>[vI a3.Lo,vI a3.Hi]) 46 8 128)<|.v 10 (.slice none 0 0)<|.nil) [2,4,5,6,8,123,124,125,126,127,128,999999] λu1 a w' H=>?_
 refine qs ?_
 replace G:=gd G; obtain ⟨b3,G⟩:=G
 replace G:=gd G; obtain ⟨b4,G⟩:=G
 refine Qq qd H (.v 19 (vP (nn u1 1) 0)<|.cons [20] (qf (vI a1.N) 20 127 0 1 (nn u1 1) [vI a1.N,.slice p_a1_L a1.L.length c_a1_L,.slice p_a1_Out a1.Out.length c_a1_Out] 38)<|.cons [21,129] (qaV 46 2 qa (Z8 [] (λu2=>[]) 48 1 (List.replicate a1.N.toNat (⟨none,0,[]⟩:Sl qb)).length ((List.replicate a1.N.toNat (⟨none,0,[]⟩:Sl qb)).flatMap Qo) 21 129 (λ_=>.none) (λu2 w hF=>Yr (t:=195) (k:=.i64) (m:=a1.N) (en:=Qo) (z:=(⟨none,0,[]⟩:Sl qb)) qT qe5 rfl b3 (by kernel_rfl)) (λ_=>.inl rfl)) qaH)<|.v 22 (vP (nn u1 1) 1)<|.cons [23] (qf (.slice p_a1_L a1.L.length c_a1_L) 23 127 1 1 (nn u1 1) [vI a1.N,.slice p_a1_L a1.L.length c_a1_L,.slice p_a1_Out a1.Out.length c_a1_Out] 38)<|.v 24 (vI (a1.L.length:Int))<|.cons [25,130] (qaV 46 2 qa (Z8 [] (λu2=>[]) 48 1 (List.replicate (a1.L.length:Int).toNat (⟨none,0,[]⟩:Sl qb)).length ((List.replicate (a1.L.length:Int).toNat (⟨none,0,[]⟩:Sl qb)).flatMap Qo) 25 130 (λ_=>.none) (λu2 w hF=>Yr (t:=195) (k:=.i64) (m:=(a1.L.length:Int)) (en:=Qo) (z:=(⟨none,0,[]⟩:Sl qb)) qT qe5 rfl b4 (by kernel_rfl)) (λ_=>.inl rfl)) qaH)<|.cons [11] (qr (λu2=>.slice ((u2 2).o 0) ((List.replicate a1.N.toNat (⟨none,0,[]⟩:Sl qb)).length) (nn u2 2)) 11)<|.cons [12] (qr (λu2=>.slice ((u2 6).o 0) ((List.replicate (a1.L.length:Int).toNat (⟨none,0,[]⟩:Sl qb)).length) (nn u2 6)) 12)<|.nil) [2,4,5,6,8,11,12,123,124,125,126,127,128,129,130,999999] λu2 a w' H=>?_
 refine qs ?_
 obtain ⟨j6,hj6,G⟩:=qO G
 refine Xu (λa w'=>∃ (p_j5:Option Addr) (c_j5 np_j5:Nat) (L_j5:List (Sl qb)),np_j5=L_j5.length∧j6=L_j5.map Sl.l∧RL w 123 [(4,sI a4),(5,(sP (nn u1 0) 0)),(6,(sP (nn u1 1) 0)),(8,(sP (nn u1 2) 0)),(11,sS p_j5 np_j5 c_j5),(12,(sS ((u2 6).o 0) ((List.replicate (a1.L.length:Int).toNat (⟨none,0,[]⟩:Sl qb)).length) (nn u2 6))),(123,qy ql 5 p_a1_L c_a1_L a1.L qi),(124,qy ql 1 p_a1_Out c_a1_Out a1.Out q6),(126,.blk (nn u1 0) F9 215),(127,.blk (nn u1 1) [vI a1.N,.slice p_a1_L a1.L.length c_a1_L,.slice p_a1_Out a1.Out.length c_a1_Out] 38),(128,.blk (nn u1 2) [vI a3.Lo,vI a3.Hi] 46),(130,qq ((u2 6).o 0) (nn u2 6) (List.replicate (a1.L.length:Int).toNat (⟨none,0,[]⟩:Sl qb))),(900016,Qa p_j5 np_j5 c_j5 L_j5),(999999,gk)] a w') ?_ ?_
 ·clear H; rintro a w' ⟨p_j5,c_j5,_,L_j5,rfl,h_j5,H⟩
  refine qs ?_
  obtain ⟨j8,hj8,G⟩:=qO G
  refine Xu (λa w'=>∃ (p_j7:Option Addr) (c_j7 np_j7:Nat) (L_j7:List (Sl qb)),np_j7=L_j7.length∧j8=L_j7.map Sl.l∧RL w 123 [(11,sS p_j7 np_j7 c_j7),(900018,Qa p_j7 np_j7 c_j7 L_j7),(999999,gk)] a w') ?_ ?_
  ·clear H; rintro a w' ⟨p_j7,c_j7,_,L_j7,rfl,h_j7,H⟩
   refine qg qd H (.v 122 (.slice p_j7 L_j7.length c_j7)<|.v 10 (.slice p_j7 L_j7.length c_j7)<|.nil) [10,900018,999999] λu9 a w' H=>?_
   refine qB ?_
   obtain rfl:=sj G
   obtain ⟨g,o0,n0,d0⟩:=qcr ZD p_j7 c_j7 h_j7
   refine Qz H _ g _ _ _ fr [900018] [] (.slice p_j7 L_j7.length c_j7) [λ_=>qq p_j7 c_j7 L_j7] (by simp only [slgd_S_TInterval,dlgd_S_TInterval,ns_en_TIntervalg,qq,Qa,Ql,o0,n0,d0]) (by simp only [slgd_S_TInterval,dlgd_S_TInterval,ns_en_TIntervalg,qq,Qa,Ql,o0,n0,d0]) hfr (.inl ⟨rfl,rfl⟩) (qk Jk qx) (by simp)
  ·clear G; replace G:=hj8; clear hj8
   refine qg qd H (.v 40 (vI a4)<|.v 41 (vI 0)<|.nil) [5,6,8,11,12,40,41,123,124,126,127,128,130,900016,999999] λu10 a w' H=>?_
   refine qV ?_
   replace H:=H.move (K:=qq p_j5 c_j5 L_j5) 900016 900020 (by kernel_rfl) (by intro _ _ h; cases h)
   replace H:=H.move (K:=qq ((u2 6).o 0) (nn u2 6) (List.replicate (a1.L.length:Int).toNat (⟨none,0,[]⟩:Sl qb))) 130 900022 (by kernel_rfl) (by intro _ _ h; cases h)
   refine XY (λm a w'=>∃ x11:List (List qb),∃ x12:List (List qb),∃ x13:Int,qo.l14 k0 a1 a2 a3 a4 j6 m x11 x12 x13=some j8 ∧ ∃ (p_x11:Option Addr) (c_x11 np_x11:Nat) (L_x11:List (Sl qb)),np_x11=L_x11.length∧x11=L_x11.map Sl.l ∧ ∃ (p_x12:Option Addr) (c_x12 np_x12:Nat) (L_x12:List (Sl qb)),np_x12=L_x12.length∧x12=L_x12.map Sl.l∧RL w 123 [(5,(sP (nn u1 0) 0)),(6,(sP (nn u1 1) 0)),(8,(sP (nn u1 2) 0)),(11,sS p_x11 np_x11 c_x11),(12,sS p_x12 np_x12 c_x12),(40,sI a4),(41,sI x13),(123,qy ql 5 p_a1_L c_a1_L a1.L qi),(124,qy ql 1 p_a1_Out c_a1_Out a1.Out q6),(126,.blk (nn u1 0) F9 215),(127,.blk (nn u1 1) [vI a1.N,.slice p_a1_L a1.L.length c_a1_L,.slice p_a1_Out a1.Out.length c_a1_Out] 38),(128,.blk (nn u1 2) [vI a3.Lo,vI a3.Hi] 46),(900020,Qa p_x11 np_x11 c_x11 L_x11),(900022,Qa p_x12 np_x12 c_x12 L_x12),(999999,gk)] a w') k0 ⟨_,_,_,G,p_j5,c_j5,L_j5.length,L_j5,rfl,h_j5,((u2 6).o 0),(nn u2 6),(List.replicate (a1.L.length:Int).toNat (⟨none,0,[]⟩:Sl qb)).length,(List.replicate (a1.L.length:Int).toNat (⟨none,0,[]⟩:Sl qb)),rfl,(WB (er:=Sl.l) (a1.L.length:Int).toNat (⟨none,0,[]⟩:Sl qb)),H.toM _⟩ ?_
   clear G H
   rintro (_ | k) a w' ⟨x11,x12,x13,G,p_x11,c_x11,_,L_x11,rfl,h_x11,p_x12,c_x12,_,L_x12,rfl,h_x12,H⟩
   ·exact absurd G (by unfold qo.l14; exact λh=>by cases h)
   ·unfold qo.l14 at G
    refine qg qd H (.v 42 (.bool (decide (x13<a4)))<|.nil) [5,6,8,11,12,40,41,42,123,124,126,127,128,900020,900022,999999] λu15 a w' H=>?_
    refine qs ?_
    refine Qu H (decide (x13<a4)) (λc84=>?_) λc84=>?_
    ·rw [if_pos c84] at G
     refine q8 ?_
     refine qs ?_
     obtain ⟨j18,hj18,G⟩:=qO G
     refine Xu (λa w'=>∃ (p_j16:Option Addr) (c_j16 np_j16:Nat) (L_j16:List (Sl qb)),np_j16=L_j16.length∧j18.1=L_j16.map Sl.l ∧ ∃ (p_j17:Option Addr) (c_j17 np_j17:Nat) (L_j17:List (Sl qb)),np_j17=L_j17.length∧j18.2=L_j17.map Sl.l∧RL w 123 [(5,(sP (nn u1 0) 0)),(6,(sP (nn u1 1) 0)),(8,(sP (nn u1 2) 0)),(11,sS p_j16 np_j16 c_j16),(12,sS p_j17 np_j17 c_j17),(40,sI a4),(41,sI x13),(123,qy ql 5 p_a1_L c_a1_L a1.L qi),(124,qy ql 1 p_a1_Out c_a1_Out a1.Out q6),(126,.blk (nn u1 0) F9 215),(127,.blk (nn u1 1) [vI a1.N,.slice p_a1_L a1.L.length c_a1_L,.slice p_a1_Out a1.Out.length c_a1_Out] 38),(128,.blk (nn u1 2) [vI a3.Lo,vI a3.Hi] 46),(900024,Qa p_j16 np_j16 c_j16 L_j16),(900026,Qa p_j17 np_j17 c_j17 L_j17),(999999,gk)] a w') ?_ ?_
     ·clear H; rintro a w' ⟨p_j16,c_j16,_,L_j16,rfl,h_j16,p_j17,c_j17,_,L_j17,rfl,h_j17,H⟩
      refine Qq qd H (.v 121 (vI (qc (x13+1)))<|.v 41 (vI (qc (x13+1)))<|.nil) [5,6,8,11,12,40,41,123,124,126,127,128,900024,900026,999999] λu19 a w' H=>?_
      replace H:=H.move (K:=qq p_j16 c_j16 L_j16) 900024 900020 (by kernel_rfl) (by intro _ _ h; cases h)
      replace H:=H.move (K:=qq p_j17 c_j17 L_j17) 900026 900022 (by kernel_rfl) (by intro _ _ h; cases h)
      exact ⟨k,Nat.lt_succ_self k,_,_,_,G,p_j16,c_j16,L_j16.length,L_j16,rfl,h_j16,p_j17,c_j17,L_j17.length,L_j17,rfl,h_j17,H.toM _⟩
     ·clear G; replace G:=hj18; clear hj18
      refine qV ?_
      refine qg qd H (.v 43 (vI x13)<|.v 14 (vI x13)<|.nil) [5,6,8,11,12,14,40,41,123,124,126,127,128,900020,900022,999999] λu20 a w' H=>?_
      refine qs ?_
      obtain ⟨j22,hj22,G⟩:=qO G
      refine Xu (λa w'=>∃ (p_j21:Option Addr) (c_j21 np_j21:Nat) (L_j21:List (Sl qb)),np_j21=L_j21.length∧j22=L_j21.map Sl.l∧RL w 123 [(5,(sP (nn u1 0) 0)),(6,(sP (nn u1 1) 0)),(8,(sP (nn u1 2) 0)),(11,sS p_x11 L_x11.length c_x11),(12,sS p_j21 np_j21 c_j21),(14,sI x13),(40,sI a4),(41,sI x13),(123,qy ql 5 p_a1_L c_a1_L a1.L qi),(124,qy ql 1 p_a1_Out c_a1_Out a1.Out q6),(126,.blk (nn u1 0) F9 215),(127,.blk (nn u1 1) [vI a1.N,.slice p_a1_L a1.L.length c_a1_L,.slice p_a1_Out a1.Out.length c_a1_Out] 38),(128,.blk (nn u1 2) [vI a3.Lo,vI a3.Hi] 46),(900020,qq p_x11 c_x11 L_x11),(900028,Qa p_j21 np_j21 c_j21 L_j21),(999999,gk)] a w') ?_ ?_
      ·clear H; rintro a w' ⟨p_j21,c_j21,_,L_j21,rfl,h_j21,H⟩
       refine qg qd H (.v 91 (vP (nn u1 1) 2)<|.cons [92] (qf (.slice p_a1_Out a1.Out.length c_a1_Out) 92 127 2 1 (nn u1 1) [vI a1.N,.slice p_a1_L a1.L.length c_a1_L,.slice p_a1_Out a1.Out.length c_a1_Out] 38)<|.v 93 (vI (a1.Out.length:Int))<|.v 94 (vI 0)<|.nil) [5,6,8,11,12,14,40,41,92,93,94,123,124,126,127,128,900020,900028,999999] λu23 a w' H=>?_
       refine qV ?_
       replace H:=H.move (K:=qq p_x11 c_x11 L_x11) 900020 900030 (by kernel_rfl) (by intro _ _ h; cases h)
       refine XY (λm a w'=>∃ x24:List (List qb),∃ x25:Int,qo.l26 k0 a1 a2 a3 a4 j6 x11 x12 x13 j22 m x24 x25=some j18 ∧ ∃ (p_x24:Option Addr) (c_x24 np_x24:Nat) (L_x24:List (Sl qb)),np_x24=L_x24.length∧x24=L_x24.map Sl.l∧RL w 123 [(5,(sP (nn u1 0) 0)),(6,(sP (nn u1 1) 0)),(8,(sP (nn u1 2) 0)),(11,sS p_x24 np_x24 c_x24),(12,sS p_j21 L_j21.length c_j21),(14,sI x13),(40,sI a4),(41,sI x13),(92,sS p_a1_Out a1.Out.length c_a1_Out),(93,(sI (a1.Out.length:Int))),(94,sI x25),(123,qy ql 5 p_a1_L c_a1_L a1.L qi),(124,qy ql 1 p_a1_Out c_a1_Out a1.Out q6),(126,.blk (nn u1 0) F9 215),(127,.blk (nn u1 1) [vI a1.N,.slice p_a1_L a1.L.length c_a1_L,.slice p_a1_Out a1.Out.length c_a1_Out] 38),(128,.blk (nn u1 2) [vI a3.Lo,vI a3.Hi] 46),(900028,qq p_j21 c_j21 L_j21),(900030,Qa p_x24 np_x24 c_x24 L_x24),(999999,gk)] a w') k0 ⟨_,_,G,p_x11,c_x11,L_x11.length,L_x11,rfl,h_x11,H.toM _⟩ ?_
       clear G H
       rintro (_ | k) a w' ⟨x24,x25,G,p_x24,c_x24,_,L_x24,rfl,h_x24,H⟩
       ·exact absurd G (by unfold qo.l26; exact λh=>by cases h)
       ·unfold qo.l26 at G
        refine qg qd H (.v 95 (.bool (decide (x25<(a1.Out.length:Int))))<|.nil) [5,6,8,11,12,14,40,41,92,93,94,95,123,124,126,127,128,900028,900030,999999] λu27 a w' H=>?_
        refine qs ?_
        refine Qu H (decide (x25<(a1.Out.length:Int))) (λc46=>?_) λc46=>?_
        ·rw [if_pos c46] at G
         refine q8 ?_
         refine qs ?_
         refine qV ?_
         refine qs ?_
         replace G:=gd G; obtain ⟨b29,G⟩:=G
         obtain ⟨t30,ht30,G⟩:=qO G
         refine Qq qd H (.v 96 (vI x25)<|.cons [97] (qL 124 (qy ql 1 p_a1_Out c_a1_Out a1.Out q6) (.pointer (some ⟨XR p_a1_Out,XV p_a1_Out+x25.toNat*1,none⟩)) 97 λ_ w h=>JT 36 .i64 x25 p_a1_Out a1.Out.length c_a1_Out a1.Out q6 (qj h).2 JP rfl b29)<|.cons [98] (qL 124 (qy ql 1 p_a1_Out c_a1_Out a1.Out q6) (vI t30) 98 λ_ w h=>Y4 q6 (qj h).2 JP ht30 0 1 [vI t30])<|.v 17 (vI x25)<|.v 18 (vI t30)<|.nil) [5,6,8,11,12,14,17,18,40,41,92,93,94,123,124,126,127,128,900028,900030,999999] λu28 a w' H=>?_
         replace G:=gd G; obtain ⟨b32,G⟩:=G
         obtain ⟨t33,ht33,G⟩:=qO G
         obtain ⟨p_t33,c_t33,y_t33⟩:=Yl h_x24 ht33
         have P34:=Xm (en:=Qo) (l:=L_x24) (Ym (H.at (K:=qq p_x24 c_x24 L_x24) 900030 (by kernel_rfl))).row.2 qT
         replace G:=gd G; obtain ⟨b35,G⟩:=G
         obtain ⟨t36,ht36,G⟩:=qO G
         obtain ⟨p_t36,c_t36,y_t36⟩:=Yl h_j21 ht36
         have P37:=Xm (en:=Qo) (l:=L_j21) (Ym (H.at (K:=qq p_j21 c_j21 L_j21) 900028 (by kernel_rfl))).row.2 qT
         replace G:=gd G; obtain ⟨b38,G⟩:=G
         obtain ⟨t39,ht39,G⟩:=qO G
         have P40:=Xm (en:=qa) (l:=t36) ((Ym (H.at (K:=qq p_j21 c_j21 L_j21) 900028 (by kernel_rfl))).one y_t36).2 qe
         obtain ⟨t41,ht41,G⟩:=qO G
         replace G:=gd G; obtain ⟨b42,G⟩:=G
         replace G:=gd G; obtain ⟨b43,G⟩:=G
         obtain ⟨t44,ht44,G⟩:=qO G
         obtain ⟨p_t44,c_t44,y_t44⟩:=Yl h_x24 ht44
         refine Qq qd H (.v 99 (.slice p_x24 L_x24.length c_x24)<|.v 100 (vI x25)<|.v 101 (.slice p_x24 L_x24.length c_x24)<|.v 102 (vI x25)<|.cons [103] (qr (λu31=>.pointer (some ⟨XR p_x24,XV p_x24+x25.toNat*1,none⟩)) 103 (hv:=λ_ _=>Qe (t:=195) (k:=.i64) (i:=x25) (p:=p_x24) (n:=L_x24.length) (cap:=c_x24) (x:=x24) P34 (QD h_x24) b32 (by kernel_rfl)))<|.cons [104] (qL 900030 (qq p_x24 c_x24 L_x24) (.slice p_t33 t33.length c_t33) 104 λ_ w h=>Y4 Qo (Ym h).row.2 qT y_t33 0 1 [.slice p_t33 t33.length c_t33])<|.v 105 (vP (nn u1 0) 8)<|.cons [106] (qf (.func (.func 133) #[] #[]) 106 126 8 1 (nn u1 0) F9 215)<|.v 107 (.slice p_j21 L_j21.length c_j21)<|.v 108 (vI t30)<|.cons [109] (qr (λu31=>.pointer (some ⟨XR p_j21,XV p_j21+t30.toNat*1,none⟩)) 109 (hv:=λ_ _=>Qe (t:=195) (k:=.i64) (i:=t30) (p:=p_j21) (n:=L_j21.length) (cap:=c_j21) (x:=j22) P37 (QD h_j21) b35 (by kernel_rfl)))<|.cons [110] (qL 900028 (qq p_j21 c_j21 L_j21) (.slice p_t36 t36.length c_t36) 110 λ_ w h=>Y4 Qo (Ym h).row.2 qT y_t36 0 1 [.slice p_t36 t36.length c_t36])<|.v 111 (vI x13)<|.cons [112] (qr (λu31=>.pointer (some ⟨XR p_t36,XV p_t36+x13.toNat*2,none⟩)) 112 (hv:=λ_ _=>Qe (t:=48) (k:=.i64) (i:=x13) (p:=p_t36) (n:=t36.length) (cap:=c_t36) (x:=t36) P40 rfl b38 (by kernel_rfl)))<|.cons [113] (qL 900028 (qq p_j21 c_j21 L_j21) (.agg #[vI t39.Lo,vI t39.Hi]) 113 λ_ w h=>Y4 qa ((Ym h).one y_t36).2 qe ht39 0 2 [vI t39.Lo,vI t39.Hi])<|.v 114 (vI x13)<|.v 115 (vI (qc (x13+1)))<|.cons [116] (qm 133 _ _ 116 [] (λu31 w _=>Yg.calls t39 (qc (x13+1)) t41 w ht41))<|.cons [117,135] (qn (λb=>.slice (some ⟨b,0,none⟩) 1 1) (λu31=>[vI t41.Lo,vI t41.Hi]) 46 117 135)<|.cons [118,900030,900030] (Xt [18] [135] (λu31=>[.blk (nn u31 18) [vI t41.Lo,vI t41.Hi] 46]) 900030 (λu31=>qq p_x24 c_x24 L_x24) (some 118) (λu31 g=>.slice (g.o 0) (t33++[t41]).length (g.n 0)) (λu31 g=>Zz 48 46 2 qa p_x24 L_x24.length c_x24 L_x24 (L_x24.set x25.toNat (⟨(g.o 0),(g.n 0),(t33++[t41])⟩:Sl qb))) (λu31 w hF hK=>qc3 hK y_t33 (l':=(t33++[t41])) (λh=>Yb (t:=48) (ty:=48) (en:=qa) qe JZ h hF.1 (news:=[t41]) rfl (by simp) (by kernel_rfl) b42)) (hloc:=λu u' h=>by refine ⟨?_,?_,?_,?_⟩ <;> first | rfl | simp only [nn, h 18 (by decide)]))<|.cons [119] (qr (λu31=>.pointer (some ⟨XR p_x24,XV p_x24+x25.toNat*1,none⟩)) 119 (hv:=λ_ _=>Qe (t:=195) (k:=.i64) (i:=x25) (p:=p_x24) (n:=L_x24.length) (cap:=c_x24) (x:=x24) P34 (QD h_x24) b43 (by kernel_rfl)))<|.cons [900030,900030] (Xt [19] [] (λu31=>[]) 900030 (λu31=>Zz 48 46 2 qa p_x24 L_x24.length c_x24 L_x24 (L_x24.set x25.toNat (⟨((u31 19).o 0),(nn u31 19),(t33++[t41])⟩:Sl qb))) none (λu31 g=>.nilFunc) (λu31 g=>Qa p_x24 L_x24.length c_x24 (L_x24.set x25.toNat (⟨((u31 19).o 0),(nn u31 19),(t33++[t41])⟩:Sl qb))) (λu31 w hF hK=>qfp hK (λh=>XG (en:=Qo) h qT (y:=(⟨((u31 19).o 0),(nn u31 19),(t33++[t41])⟩:Sl qb)) (vs:=[.slice ((u31 19).o 0) ((t33++[t41]).length) (nn u31 19)]) y_t44 0 (by simp) (by simp) rfl (by kernel_rfl))) (hloc:=λu u' h=>by refine ⟨?_,?_,?_,?_⟩ <;> first | rfl | simp only [nn, h 19 (by decide)]))<|.nil) [5,6,8,11,12,14,40,41,92,93,94,123,124,126,127,128,900028,900030,999999] λu31 a w' H=>?_
         refine Qq qd H (.v 120 (vI (qc (x25+1)))<|.v 94 (vI (qc (x25+1)))<|.nil) [5,6,8,11,12,14,40,41,92,93,94,123,124,126,127,128,900028,900030,999999] λu45 a w' H=>?_
         exact ⟨k,Nat.lt_succ_self k,_,_,G,p_x24,c_x24,L_x24.length,(L_x24.set x25.toNat (⟨((u31 19).o 0),(nn u31 19),(t33++[t41])⟩:Sl qb)),by simp,(map_set h_x24 x25.toNat (⟨((u31 19).o 0),(nn u31 19),(t33++[t41])⟩:Sl qb)),H.toM _⟩
        ·rw [if_neg (nt c46)] at G
         refine Yx rfl ?_
         obtain rfl:=sj G
         replace H:=H.move (K:=qq p_x24 c_x24 L_x24) 900030 900024 (by kernel_rfl) (by intro _ _ h; cases h)
         replace H:=H.move (K:=qq p_j21 c_j21 L_j21) 900028 900026 (by kernel_rfl) (by intro _ _ h; cases h)
         exact ⟨p_x24,c_x24,L_x24.length,L_x24,rfl,h_x24,p_j21,c_j21,L_j21.length,L_j21,rfl,h_j21,H.toM _⟩
      ·clear G; replace G:=hj22; clear hj22
       refine qg qd H (.v 44 (vP (nn u1 1) 1)<|.cons [45] (qf (.slice p_a1_L a1.L.length c_a1_L) 45 127 1 1 (nn u1 1) [vI a1.N,.slice p_a1_L a1.L.length c_a1_L,.slice p_a1_Out a1.Out.length c_a1_Out] 38)<|.v 46 (vI (a1.L.length:Int))<|.v 47 (vI 0)<|.nil) [5,6,8,11,12,14,40,41,45,46,47,123,124,126,127,128,900020,900022,999999] λu47 a w' H=>?_
       refine qV ?_
       replace H:=H.move (K:=qq p_x12 c_x12 L_x12) 900022 900032 (by kernel_rfl) (by intro _ _ h; cases h)
       refine XY (λm a w'=>∃ x48:List (List qb),∃ x49:Int,qo.l50 k0 a1 a2 a3 a4 j6 x11 x12 x13 m x48 x49=some j22 ∧ ∃ (p_x48:Option Addr) (c_x48 np_x48:Nat) (L_x48:List (Sl qb)),np_x48=L_x48.length∧x48=L_x48.map Sl.l∧RL w 123 [(5,(sP (nn u1 0) 0)),(6,(sP (nn u1 1) 0)),(8,(sP (nn u1 2) 0)),(11,sS p_x11 L_x11.length c_x11),(12,sS p_x48 np_x48 c_x48),(14,sI x13),(40,sI a4),(41,sI x13),(45,sS p_a1_L a1.L.length c_a1_L),(46,(sI (a1.L.length:Int))),(47,sI x49),(123,qy ql 5 p_a1_L c_a1_L a1.L qi),(124,qy ql 1 p_a1_Out c_a1_Out a1.Out q6),(126,.blk (nn u1 0) F9 215),(127,.blk (nn u1 1) [vI a1.N,.slice p_a1_L a1.L.length c_a1_L,.slice p_a1_Out a1.Out.length c_a1_Out] 38),(128,.blk (nn u1 2) [vI a3.Lo,vI a3.Hi] 46),(900020,qq p_x11 c_x11 L_x11),(900032,Qa p_x48 np_x48 c_x48 L_x48),(999999,gk)] a w') k0 ⟨_,_,G,p_x12,c_x12,L_x12.length,L_x12,rfl,h_x12,H.toM _⟩ ?_
       clear G H
       rintro (_ | k) a w' ⟨x48,x49,G,p_x48,c_x48,_,L_x48,rfl,h_x48,H⟩
       ·exact absurd G (by unfold qo.l50; exact λh=>by cases h)
       ·unfold qo.l50 at G
        refine qg qd H (.v 48 (.bool (decide (x49<(a1.L.length:Int))))<|.nil) [5,6,8,11,12,14,40,41,45,46,47,48,123,124,126,127,128,900020,900032,999999] λu51 a w' H=>?_
        refine qs ?_
        refine Qu H (decide (x49<(a1.L.length:Int))) (λc83=>?_) λc83=>?_
        ·rw [if_pos c83] at G
         refine q8 ?_
         refine qs ?_
         obtain ⟨j53,hj53,G⟩:=qO G
         refine Xu (λa w'=>∃ (p_j52:Option Addr) (c_j52 np_j52:Nat) (L_j52:List (Sl qb)),np_j52=L_j52.length∧j53=L_j52.map Sl.l∧RL w 123 [(5,(sP (nn u1 0) 0)),(6,(sP (nn u1 1) 0)),(8,(sP (nn u1 2) 0)),(11,sS p_x11 L_x11.length c_x11),(12,sS p_j52 np_j52 c_j52),(14,sI x13),(40,sI a4),(41,sI x13),(45,sS p_a1_L a1.L.length c_a1_L),(46,(sI (a1.L.length:Int))),(47,sI x49),(123,qy ql 5 p_a1_L c_a1_L a1.L qi),(124,qy ql 1 p_a1_Out c_a1_Out a1.Out q6),(126,.blk (nn u1 0) F9 215),(127,.blk (nn u1 1) [vI a1.N,.slice p_a1_L a1.L.length c_a1_L,.slice p_a1_Out a1.Out.length c_a1_Out] 38),(128,.blk (nn u1 2) [vI a3.Lo,vI a3.Hi] 46),(900020,qq p_x11 c_x11 L_x11),(900034,Qa p_j52 np_j52 c_j52 L_j52),(999999,gk)] a w') ?_ ?_
         ·clear H; rintro a w' ⟨p_j52,c_j52,_,L_j52,rfl,h_j52,H⟩
          refine Qq qd H (.v 90 (vI (qc (x49+1)))<|.v 47 (vI (qc (x49+1)))<|.nil) [5,6,8,11,12,14,40,41,45,46,47,123,124,126,127,128,900020,900034,999999] λu54 a w' H=>?_
          replace H:=H.move (K:=qq p_j52 c_j52 L_j52) 900034 900032 (by kernel_rfl) (by intro _ _ h; cases h)
          exact ⟨k,Nat.lt_succ_self k,_,_,G,p_j52,c_j52,L_j52.length,L_j52,rfl,h_j52,H.toM _⟩
         ·clear G; replace G:=hj53; clear hj53
          refine qV ?_
          refine qs ?_
          replace G:=gd G; obtain ⟨b56,G⟩:=G
          obtain ⟨t57,ht57,G⟩:=qO G
          refine Qq qd H (.v 49 (vI x49)<|.cons [50] (qL 123 (qy ql 5 p_a1_L c_a1_L a1.L qi) (.pointer (some ⟨XR p_a1_L,XV p_a1_L+x49.toNat*5,none⟩)) 50 λ_ w h=>JT 35 .i64 x49 p_a1_L a1.L.length c_a1_L a1.L qi (qj h).2 YQ rfl b56)<|.cons [51] (qL 123 (qy ql 5 p_a1_L c_a1_L a1.L qi) (.agg #[vI t57.Op,vI t57.A,vI t57.B,vI t57.C.Lo,vI t57.C.Hi]) 51 λ_ w h=>Y4 qi (qj h).2 YQ ht57 0 5 [vI t57.Op,vI t57.A,vI t57.B,vI t57.C.Lo,vI t57.C.Hi])<|.cons [16,146] (qn (λb=>vP b 0) (λu55=>[vI 0,vI 0,vI 0,vI 0,vI 0]) 110 16 146)<|.v 15 (vI x49)<|.cons [146] (QF (u':=λu55=>[(146,.blk (nn u55 3) [vI t57.Op,vI t57.A,vI t57.B,vI t57.C.Lo,vI t57.C.Hi] 110)]) (qK 146 0 (λu55=>(nn u55 3)) (λu55=>[vI 0,vI 0,vI 0,vI 0,vI 0]) (λu55=>[vI t57.Op,vI t57.A,vI t57.B,vI t57.C.Lo,vI t57.C.Hi]) 110) (λ_=>by kernel_rfl))<|.nil) [5,6,8,11,12,14,15,16,40,41,45,46,47,123,124,126,127,128,146,900020,900032,999999] λu55 a w' H=>?_
          refine qs ?_
          refine qg qd H (.v 52 (vP (nn u55 3) 0)<|.cons [53] (qf (vI t57.Op) 53 146 0 1 (nn u55 3) [vI t57.Op,vI t57.A,vI t57.B,vI t57.C.Lo,vI t57.C.Hi] 110)<|.v 54 (.bool (t57.Op==2))<|.nil) [5,6,8,11,12,14,15,16,40,41,45,46,47,54,123,124,126,127,128,146,900020,900032,999999] λu58 a w' H=>?_
          refine Qu H (t57.Op==2) (λc82=>?_) λc82=>?_
          ·rw [if_pos c82] at G
           refine qs ?_
           replace G:=gd G; obtain ⟨b60,G⟩:=G
           obtain ⟨t61,ht61,G⟩:=qO G
           obtain ⟨p_t61,c_t61,y_t61⟩:=Yl h_x48 ht61
           have P62:=Xm (en:=Qo) (l:=L_x48) (Ym (H.at (K:=qq p_x48 c_x48 L_x48) 900032 (by kernel_rfl))).row.2 qT
           replace G:=gd G; obtain ⟨b63,G⟩:=G
           obtain ⟨t64,ht64,G⟩:=qO G
           obtain ⟨p_t64,c_t64,y_t64⟩:=Yl h_x11 ht64
           have P65:=Xm (en:=Qo) (l:=L_x11) (Ym (H.at (K:=qq p_x11 c_x11 L_x11) 900020 (by kernel_rfl))).row.2 qT
           replace G:=gd G; obtain ⟨b66,G⟩:=G
           obtain ⟨t67,ht67,G⟩:=qO G
           have P68:=Xm (en:=qa) (l:=t64) ((Ym (H.at (K:=qq p_x11 c_x11 L_x11) 900020 (by kernel_rfl))).one y_t64).2 qe
           replace G:=gd G; obtain ⟨b69,G⟩:=G
           replace G:=gd G; obtain ⟨b70,G⟩:=G
           obtain ⟨t71,ht71,G⟩:=qO G
           obtain ⟨p_t71,c_t71,y_t71⟩:=Yl h_x48 ht71
           refine Qq qd H (.v 55 (.slice p_x48 L_x48.length c_x48)<|.v 56 (vI x49)<|.v 57 (.slice p_x48 L_x48.length c_x48)<|.v 58 (vI x49)<|.cons [59] (qr (λu59=>.pointer (some ⟨XR p_x48,XV p_x48+x49.toNat*1,none⟩)) 59 (hv:=λ_ _=>Qe (t:=195) (k:=.i64) (i:=x49) (p:=p_x48) (n:=L_x48.length) (cap:=c_x48) (x:=x48) P62 (QD h_x48) b60 (by kernel_rfl)))<|.cons [60] (qL 900032 (qq p_x48 c_x48 L_x48) (.slice p_t61 t61.length c_t61) 60 λ_ w h=>Y4 Qo (Ym h).row.2 qT y_t61 0 1 [.slice p_t61 t61.length c_t61])<|.v 61 (.slice p_x11 L_x11.length c_x11)<|.v 62 (vP (nn u55 3) 1)<|.cons [63] (qf (vI t57.A) 63 146 1 1 (nn u55 3) [vI t57.Op,vI t57.A,vI t57.B,vI t57.C.Lo,vI t57.C.Hi] 110)<|.cons [64] (qr (λu59=>.pointer (some ⟨XR p_x11,XV p_x11+t57.A.toNat*1,none⟩)) 64 (hv:=λ_ _=>Qe (t:=195) (k:=.i64) (i:=t57.A) (p:=p_x11) (n:=L_x11.length) (cap:=c_x11) (x:=x11) P65 (QD h_x11) b63 (by kernel_rfl)))<|.cons [65] (qL 900020 (qq p_x11 c_x11 L_x11) (.slice p_t64 t64.length c_t64) 65 λ_ w h=>Y4 Qo (Ym h).row.2 qT y_t64 0 1 [.slice p_t64 t64.length c_t64])<|.v 66 (vI x13)<|.cons [67] (qr (λu59=>.pointer (some ⟨XR p_t64,XV p_t64+x13.toNat*2,none⟩)) 67 (hv:=λ_ _=>Qe (t:=48) (k:=.i64) (i:=x13) (p:=p_t64) (n:=t64.length) (cap:=c_t64) (x:=t64) P68 rfl b66 (by kernel_rfl)))<|.cons [68] (qL 900020 (qq p_x11 c_x11 L_x11) (.agg #[vI t67.Lo,vI t67.Hi]) 68 λ_ w h=>Y4 qa ((Ym h).one y_t64).2 qe ht67 0 2 [vI t67.Lo,vI t67.Hi])<|.cons [69,147] (qn (λb=>.slice (some ⟨b,0,none⟩) 1 1) (λu59=>[vI t67.Lo,vI t67.Hi]) 46 69 147)<|.cons [70,900032,900032] (Xt [14] [147] (λu59=>[.blk (nn u59 14) [vI t67.Lo,vI t67.Hi] 46]) 900032 (λu59=>qq p_x48 c_x48 L_x48) (some 70) (λu59 g=>.slice (g.o 0) (t61++[t67]).length (g.n 0)) (λu59 g=>Zz 48 46 2 qa p_x48 L_x48.length c_x48 L_x48 (L_x48.set x49.toNat (⟨(g.o 0),(g.n 0),(t61++[t67])⟩:Sl qb))) (λu59 w hF hK=>qc3 hK y_t61 (l':=(t61++[t67])) (λh=>Yb (t:=48) (ty:=48) (en:=qa) qe JZ h hF.1 (news:=[t67]) rfl (by simp) (by kernel_rfl) b69)) (hloc:=λu u' h=>by refine ⟨?_,?_,?_,?_⟩ <;> first | rfl | simp only [nn, h 14 (by decide)]))<|.cons [71] (qr (λu59=>.pointer (some ⟨XR p_x48,XV p_x48+x49.toNat*1,none⟩)) 71 (hv:=λ_ _=>Qe (t:=195) (k:=.i64) (i:=x49) (p:=p_x48) (n:=L_x48.length) (cap:=c_x48) (x:=x48) P62 (QD h_x48) b70 (by kernel_rfl)))<|.cons [900032,900032] (Xt [15] [] (λu59=>[]) 900032 (λu59=>Zz 48 46 2 qa p_x48 L_x48.length c_x48 L_x48 (L_x48.set x49.toNat (⟨((u59 15).o 0),(nn u59 15),(t61++[t67])⟩:Sl qb))) none (λu59 g=>.nilFunc) (λu59 g=>Qa p_x48 L_x48.length c_x48 (L_x48.set x49.toNat (⟨((u59 15).o 0),(nn u59 15),(t61++[t67])⟩:Sl qb))) (λu59 w hF hK=>qfp hK (λh=>XG (en:=Qo) h qT (y:=(⟨((u59 15).o 0),(nn u59 15),(t61++[t67])⟩:Sl qb)) (vs:=[.slice ((u59 15).o 0) ((t61++[t67]).length) (nn u59 15)]) y_t71 0 (by simp) (by simp) rfl (by kernel_rfl))) (hloc:=λu u' h=>by refine ⟨?_,?_,?_,?_⟩ <;> first | rfl | simp only [nn, h 15 (by decide)]))<|.nil) [5,6,8,11,12,14,40,41,45,46,47,123,124,126,127,128,900020,900032,999999] λu59 a w' H=>?_
           refine Yx rfl ?_
           obtain rfl:=sj G
           replace H:=H.move (K:=Qa p_x48 L_x48.length c_x48 (L_x48.set x49.toNat (⟨((u59 15).o 0),(nn u59 15),(t61++[t67])⟩:Sl qb))) 900032 900034 (by kernel_rfl) (by intro _ _ h; cases h)
           exact ⟨p_x48,c_x48,L_x48.length,(L_x48.set x49.toNat (⟨((u59 15).o 0),(nn u59 15),(t61++[t67])⟩:Sl qb)),by simp,(map_set h_x48 x49.toNat (⟨((u59 15).o 0),(nn u59 15),(t61++[t67])⟩:Sl qb)),H.toM _⟩
          ·rw [if_neg (nt c82)] at G
           refine q8 ?_
           replace G:=gd G; obtain ⟨b73,G⟩:=G
           obtain ⟨t74,ht74,G⟩:=qO G
           obtain ⟨p_t74,c_t74,y_t74⟩:=Yl h_x48 ht74
           have P75:=Xm (en:=Qo) (l:=L_x48) (Ym (H.at (K:=qq p_x48 c_x48 L_x48) 900032 (by kernel_rfl))).row.2 qT
           replace G:=gd G; obtain ⟨b76,G⟩:=G
           obtain ⟨t77,ht77,G⟩:=qO G
           obtain ⟨p_t77,c_t77,y_t77⟩:=Yl h_x48 ht77
           obtain ⟨t78,ht78,G⟩:=qO G
           replace G:=gd G; obtain ⟨b79,G⟩:=G
           replace G:=gd G; obtain ⟨b80,G⟩:=G
           obtain ⟨t81,ht81,G⟩:=qO G
           obtain ⟨p_t81,c_t81,y_t81⟩:=Yl h_x48 ht81
           refine Jw qd H (.v 72 (.slice p_x48 L_x48.length c_x48)<|.v 73 (vI x49)<|.v 74 (.slice p_x48 L_x48.length c_x48)<|.v 75 (vI x49)<|.cons [76] (qr (λu72=>.pointer (some ⟨XR p_x48,XV p_x48+x49.toNat*1,none⟩)) 76 (hv:=λ_ _=>Qe (t:=195) (k:=.i64) (i:=x49) (p:=p_x48) (n:=L_x48.length) (cap:=c_x48) (x:=x48) P75 (QD h_x48) b73 (by kernel_rfl)))<|.cons [77] (qL 900032 (qq p_x48 c_x48 L_x48) (.slice p_t74 t74.length c_t74) 77 λ_ w h=>Y4 Qo (Ym h).row.2 qT y_t74 0 1 [.slice p_t74 t74.length c_t74])<|.cons [78] (qf (.agg F9.toArray) 78 126 0 9 (nn u1 0) F9 215)<|.cons [79] (qf (.agg #[vI t57.Op,vI t57.A,vI t57.B,vI t57.C.Lo,vI t57.C.Hi]) 79 146 0 5 (nn u55 3) [vI t57.Op,vI t57.A,vI t57.B,vI t57.C.Lo,vI t57.C.Hi] 110)<|.v 80 (.slice p_x48 L_x48.length c_x48)<|.v 81 (.slice p_x48 L_x48.length c_x48)<|.v 82 (vI x49)<|.cons [83] (qr (λu72=>.pointer (some ⟨XR p_x48,XV p_x48+x49.toNat*1,none⟩)) 83 (hv:=λ_ _=>Qe (t:=195) (k:=.i64) (i:=x49) (p:=p_x48) (n:=L_x48.length) (cap:=c_x48) (x:=x48) P75 (QD h_x48) b76 (by kernel_rfl)))<|.cons [84] (qL 900032 (qq p_x48 c_x48 L_x48) (.slice p_t77 t77.length c_t77) 84 λ_ w h=>Y4 Qo (Ym h).row.2 qT y_t77 0 1 [.slice p_t77 t77.length c_t77])<|.cons [85] (qf (.agg #[vI a3.Lo,vI a3.Hi]) 85 128 0 2 (nn u1 2) [vI a3.Lo,vI a3.Hi] 46)<|.cons [86] (Q6 [900032,999999] (λu72=>[qq p_x48 c_x48 L_x48,gk]) 135 _ _ 86 (λu72 w hF=>X5.calls k0 (⟨t57.Op,t57.A,t57.B,(⟨t57.C.Lo,t57.C.Hi⟩:qb)⟩:qh) x48 t77 a3 p_x48 c_x48 L_x48 p_t77 c_t77 t78 w h_x48 ⟨(JU (Ym hF.1).row),(dnA (Ym hF.1).all),(JU ((Ym hF.1).one y_t77)),hF.2.1,trivial⟩ ht78))<|.cons [87,150] (qn (λb=>.slice (some ⟨b,0,none⟩) 1 1) (λu72=>[vI t78.Lo,vI t78.Hi]) 46 87 150)<|.cons [88,900032,900032] (Xt [15] [150] (λu72=>[.blk (nn u72 15) [vI t78.Lo,vI t78.Hi] 46]) 900032 (λu72=>qq p_x48 c_x48 L_x48) (some 88) (λu72 g=>.slice (g.o 0) (t74++[t78]).length (g.n 0)) (λu72 g=>Zz 48 46 2 qa p_x48 L_x48.length c_x48 L_x48 (L_x48.set x49.toNat (⟨(g.o 0),(g.n 0),(t74++[t78])⟩:Sl qb))) (λu72 w hF hK=>qc3 hK y_t74 (l':=(t74++[t78])) (λh=>Yb (t:=48) (ty:=48) (en:=qa) qe JZ h hF.1 (news:=[t78]) rfl (by simp) (by kernel_rfl) b79)) (hloc:=λu u' h=>by refine ⟨?_,?_,?_,?_⟩ <;> first | rfl | simp only [nn, h 15 (by decide)]))<|.cons [89] (qr (λu72=>.pointer (some ⟨XR p_x48,XV p_x48+x49.toNat*1,none⟩)) 89 (hv:=λ_ _=>Qe (t:=195) (k:=.i64) (i:=x49) (p:=p_x48) (n:=L_x48.length) (cap:=c_x48) (x:=x48) P75 (QD h_x48) b80 (by kernel_rfl)))<|.cons [900032,900032] (Xt [16] [] (λu72=>[]) 900032 (λu72=>Zz 48 46 2 qa p_x48 L_x48.length c_x48 L_x48 (L_x48.set x49.toNat (⟨((u72 16).o 0),(nn u72 16),(t74++[t78])⟩:Sl qb))) none (λu72 g=>.nilFunc) (λu72 g=>Qa p_x48 L_x48.length c_x48 (L_x48.set x49.toNat (⟨((u72 16).o 0),(nn u72 16),(t74++[t78])⟩:Sl qb))) (λu72 w hF hK=>qfp hK (λh=>XG (en:=Qo) h qT (y:=(⟨((u72 16).o 0),(nn u72 16),(t74++[t78])⟩:Sl qb)) (vs:=[.slice ((u72 16).o 0) ((t74++[t78]).length) (nn u72 16)]) y_t81 0 (by simp) (by simp) rfl (by kernel_rfl))) (hloc:=λu u' h=>by refine ⟨?_,?_,?_,?_⟩ <;> first | rfl | simp only [nn, h 16 (by decide)]))<|.nil) (by kernel_rfl) λu72 a w' H=>?_
           replace H:=H.kp [5,6,8,11,12,14,40,41,45,46,47,123,124,126,127,128,900020,900032,999999]
           obtain rfl:=sj G
           replace H:=H.move (K:=Qa p_x48 L_x48.length c_x48 (L_x48.set x49.toNat (⟨((u72 16).o 0),(nn u72 16),(t74++[t78])⟩:Sl qb))) 900032 900034 (by kernel_rfl) (by intro _ _ h; cases h)
           exact ⟨p_x48,c_x48,L_x48.length,(L_x48.set x49.toNat (⟨((u72 16).o 0),(nn u72 16),(t74++[t78])⟩:Sl qb)),by simp,(map_set h_x48 x49.toNat (⟨((u72 16).o 0),(nn u72 16),(t74++[t78])⟩:Sl qb)),H.toM _⟩
        ·rw [if_neg (nt c83)] at G
         refine Yx rfl ?_
         obtain rfl:=sj G
         replace H:=H.move (K:=qq p_x48 c_x48 L_x48) 900032 900028 (by kernel_rfl) (by intro _ _ h; cases h)
         exact ⟨p_x48,c_x48,L_x48.length,L_x48,rfl,h_x48,H.toM _⟩
    ·rw [if_neg (nt c84)] at G
     refine Yx rfl ?_
     obtain rfl:=sj G
     replace H:=H.move (K:=qq p_x11 c_x11 L_x11) 900020 900018 (by kernel_rfl) (by intro _ _ h; cases h)
     exact ⟨p_x11,c_x11,L_x11.length,L_x11,rfl,h_x11,H.toM _⟩
 ·clear G; replace G:=hj6; clear hj6
  refine qg qd H (.v 26 (.slice ((u2 2).o 0) ((List.replicate a1.N.toNat (⟨none,0,[]⟩:Sl qb)).length) (nn u2 2))<|.cons [27] (qL 129 (qq ((u2 2).o 0) (nn u2 2) (List.replicate a1.N.toNat (⟨none,0,[]⟩:Sl qb))) (vI ((List.replicate a1.N.toNat ([]:List qb)).length:Int)) 27 λ_ w h=>Y0 (((Ym h).row.2.len qT (by decide)).trans (QD (WB (er:=Sl.l) a1.N.toNat (⟨none,0,[]⟩:Sl qb))).symm) (by kernel_rfl))<|.v 28 (vI 0)<|.nil) [2,4,5,6,8,11,12,27,28,123,124,125,126,127,128,129,130,999999] λu85 a w' H=>?_
  refine qV ?_
  replace H:=H.move (K:=qq ((u2 2).o 0) (nn u2 2) (List.replicate a1.N.toNat (⟨none,0,[]⟩:Sl qb))) 129 900036 (by kernel_rfl) (by intro _ _ h; cases h)
  refine XY (λm a w'=>∃ x86:List (List qb),∃ x87:Int,qo.l88 k0 a1 a2 a3 a4 m x86 x87=some j6 ∧ ∃ (p_x86:Option Addr) (c_x86 np_x86:Nat) (L_x86:List (Sl qb)),np_x86=L_x86.length∧x86=L_x86.map Sl.l∧RL w 123 [(2,sS p_a2 a2.length c_a2),(4,sI a4),(5,(sP (nn u1 0) 0)),(6,(sP (nn u1 1) 0)),(8,(sP (nn u1 2) 0)),(11,sS p_x86 np_x86 c_x86),(12,(sS ((u2 6).o 0) ((List.replicate (a1.L.length:Int).toNat (⟨none,0,[]⟩:Sl qb)).length) (nn u2 6))),(27,(sI ((List.replicate a1.N.toNat ([]:List qb)).length:Int))),(28,sI x87),(123,qy ql 5 p_a1_L c_a1_L a1.L qi),(124,qy ql 1 p_a1_Out c_a1_Out a1.Out q6),(125,qy ql 2 p_a2 c_a2 a2 qa),(126,.blk (nn u1 0) F9 215),(127,.blk (nn u1 1) [vI a1.N,.slice p_a1_L a1.L.length c_a1_L,.slice p_a1_Out a1.Out.length c_a1_Out] 38),(128,.blk (nn u1 2) [vI a3.Lo,vI a3.Hi] 46),(130,qq ((u2 6).o 0) (nn u2 6) (List.replicate (a1.L.length:Int).toNat (⟨none,0,[]⟩:Sl qb))),(900036,Qa p_x86 np_x86 c_x86 L_x86),(999999,gk)] a w') k0 ⟨_,_,G,((u2 2).o 0),(nn u2 2),(List.replicate a1.N.toNat (⟨none,0,[]⟩:Sl qb)).length,(List.replicate a1.N.toNat (⟨none,0,[]⟩:Sl qb)),rfl,(WB (er:=Sl.l) a1.N.toNat (⟨none,0,[]⟩:Sl qb)),H.toM _⟩ ?_
  clear G H
  rintro (_ | k) a w' ⟨x86,x87,G,p_x86,c_x86,_,L_x86,rfl,h_x86,H⟩
  ·exact absurd G (by unfold qo.l88; exact λh=>by cases h)
  ·unfold qo.l88 at G
   refine qg qd H (.v 29 (.bool (decide (x87<((List.replicate a1.N.toNat ([]:List qb)).length:Int))))<|.nil) [2,4,5,6,8,11,12,27,28,29,123,124,125,126,127,128,130,900036,999999] λu89 a w' H=>?_
   refine qs ?_
   refine Qu H (decide (x87<((List.replicate a1.N.toNat ([]:List qb)).length:Int))) (λc97=>?_) λc97=>?_
   ·rw [if_pos c97] at G
    refine q8 ?_
    refine qs ?_
    refine qV ?_
    refine qg qd H (.v 30 (vI x87)<|.v 13 (vI x87)<|.nil) [2,4,5,6,8,11,12,13,27,28,123,124,125,126,127,128,130,900036,999999] λu90 a w' H=>?_
    replace G:=gd G; obtain ⟨b92,G⟩:=G
    obtain ⟨t93,ht93,G⟩:=qO G
    replace G:=gd G; obtain ⟨b94,G⟩:=G
    obtain ⟨t95,ht95,G⟩:=qO G
    obtain ⟨p_t95,c_t95,y_t95⟩:=Yl h_x86 ht95
    refine Qq qd H (.v 31 (.slice p_x86 L_x86.length c_x86)<|.v 32 (vI x87)<|.v 33 (.slice p_a2 a2.length c_a2)<|.v 34 (vI x87)<|.cons [35] (qL 125 (qy ql 2 p_a2 c_a2 a2 qa) (.pointer (some ⟨XR p_a2,XV p_a2+x87.toNat*2,none⟩)) 35 λ_ w h=>JT 48 .i64 x87 p_a2 a2.length c_a2 a2 qa (qj h).2 qe rfl b92)<|.cons [36] (qL 125 (qy ql 2 p_a2 c_a2 a2 qa) (.agg #[vI t93.Lo,vI t93.Hi]) 36 λ_ w h=>Y4 qa (qj h).2 qe ht93 0 2 [vI t93.Lo,vI t93.Hi])<|.cons [37,163] (qbF 2 1 (qn (λb=>.slice (some ⟨b,0,none⟩) 1 1) (λu91=>[vI t93.Lo,vI t93.Hi]) 46 37 163) (λ_=>rfl) (by decide))<|.cons [38] (qL 900036 (qq p_x86 c_x86 L_x86) (.pointer (some ⟨XR p_x86,XV p_x86+x87.toNat*1,none⟩)) 38 λ_ w h=>JT 195 .i64 x87 p_x86 L_x86.length c_x86 x86 Qo (Ym h).row.2 qT (QD h_x86) b94)<|.cons [900036,163,900036] (qbZ [6] [] (λu91=>[]) 900036 163 (λu91=>qq p_x86 c_x86 L_x86) (λu91=>XP 46 2 (some ⟨(nn u91 6),0,none⟩) 1 1 (([t93]:List qb).flatMap qa)) none (λu91 g=>.nilFunc) (λu91 g=>Qa p_x86 L_x86.length c_x86 (L_x86.set x87.toNat (⟨(some ⟨(nn u91 6),0,none⟩),1,([t93]:List qb)⟩:Sl qb))) (λu91 w hF hK hK2 hd=>qdt hK hK2 hd qe (by decide) (λhn h=>XG (en:=Qo) h qT (y:=(⟨(some ⟨(nn u91 6),0,none⟩),1,([t93]:List qb)⟩:Sl qb)) (vs:=[.slice (some ⟨(nn u91 6),0,none⟩) 1 1]) y_t95 0 (by simp) (by simp) rfl (by kernel_rfl))) (hloc:=λu u' h=>by refine ⟨?_,?_,?_,?_,?_⟩ <;> first | rfl | simp only [nn, h 6 (by decide)]))<|.nil) [2,4,5,6,8,11,12,27,28,123,124,125,126,127,128,130,900036,999999] λu91 a w' H=>?_
    refine Qq qd H (.v 39 (vI (qc (x87+1)))<|.v 28 (vI (qc (x87+1)))<|.nil) [2,4,5,6,8,11,12,27,28,123,124,125,126,127,128,130,900036,999999] λu96 a w' H=>?_
    exact ⟨k,Nat.lt_succ_self k,_,_,G,p_x86,c_x86,L_x86.length,(L_x86.set x87.toNat (⟨(some ⟨(nn u91 6),0,none⟩),1,([t93]:List qb)⟩:Sl qb)),by simp,(map_set h_x86 x87.toNat (⟨(some ⟨(nn u91 6),0,none⟩),1,([t93]:List qb)⟩:Sl qb)),H.toM _⟩
   ·rw [if_neg (nt c97)] at G
    refine Yx rfl ?_
    obtain rfl:=sj G
    replace H:=H.move (K:=qq p_x86 c_x86 L_x86) 900036 900016 (by kernel_rfl) (by intro _ _ h; cases h)
    exact ⟨p_x86,c_x86,L_x86.length,L_x86,rfl,h_x86,H.toM _⟩
theorem Xv.calls (k0:Nat)(a0:QE)(a1:List qb)(a2:qb)(a3:Int)(p_a0_L:Option Addr)(c_a0_L:Nat)(p_a0_Out:Option Addr)(c_a0_Out:Nat)(p_a1:Option Addr)(c_a1:Nat)(r:List (List qb))(w:World)(hB:Xp [qy ql 5 p_a0_L c_a0_L a0.L qi,qy ql 1 p_a0_Out c_a0_Out a0.Out q6,qy ql 2 p_a1 c_a1 a1 qa,gk] w)(G:Xv k0 a0 a1 a2 a3=some r) :
  Calls Tryz.prog 99 #[.agg #[vI a0.N,.slice p_a0_L a0.L.length c_a0_L,.slice p_a0_Out a0.Out.length c_a0_Out],.slice p_a1 a1.length c_a1,.agg #[vI a2.Lo,vI a2.Hi],vI a3] w λe w'=>∃ g:Gh,e = .returned (slgd_S_TInterval g 0 r)∧Zj (YR []) w w'∧Ye w.heap.size (YR []) (JS w.heap.size []) [λ_=>ns_en_TIntervalg g 0 r] w':=by
 obtain ⟨fr,hfr,hBf⟩:=VT w []
 refine QA (args:=[.agg #[vI a0.N,.slice p_a0_L a0.L.length c_a0_L,.slice p_a0_Out a0.Out.length c_a0_Out],.slice p_a1 a1.length c_a1,.agg #[vI a2.Lo,vI a2.Hi],vI a3]) 15 [(15,qy ql 5 p_a0_L c_a0_L a0.L qi),(16,qy ql 1 p_a0_Out c_a0_Out a0.Out q6),(17,qy ql 2 p_a1 c_a1 a1 qa),(999999,gk)] (by
  intro x hx
  simp only [List.mem_cons,List.not_mem_nil,or_false] at hx
  rcases hx with rfl | rfl | rfl | rfl
  ·exact qv (qj hB.1) (λ_ _=>trivial) (by decide) _
  ·exact qv (qj hB.2.1) (λ_ _=>trivial) (by decide) _
  ·exact qv (qj hB.2.2.1) (λ_ _=>trivial) (by decide) _
  ·exact ⟨⟨_,_,rfl⟩,hB.2.2.2.1,Yc (Qy hB.2.2.2.1)⟩) Tryz.func99 rfl λa H=>?_
 unfold Xv at G
 refine qg qd H (.cons [4,18] (qn (λb=>vP b 0) (λu1=>[vI a0.N,.slice p_a0_L a0.L.length c_a0_L,.slice p_a0_Out a0.Out.length c_a0_Out]) 38 4 18)<|.cons [6,19] (qn (λb=>vP b 0) (λu1=>[vI a2.Lo,vI a2.Hi]) 46 6 19)<|.v 8 (.slice none 0 0)<|.nil) [1,3,4,6,15,16,17,18,19,999999] λu1 a w' H=>?_
 refine qs ?_
 obtain ⟨t3,ht3,G⟩:=qO G
 refine Jw qd H (.cons [9] (qm 120 _ _ 9 [] (λu2 w _=>series_intervals.calls w))<|.cons [10] (qf (.agg #[vI a0.N,.slice p_a0_L a0.L.length c_a0_L,.slice p_a0_Out a0.Out.length c_a0_Out]) 10 18 0 3 (nn u1 0) [vI a0.N,.slice p_a0_L a0.L.length c_a0_L,.slice p_a0_Out a0.Out.length c_a0_Out] 38)<|.v 11 (.slice p_a1 a1.length c_a1)<|.cons [12] (qf (.agg #[vI a2.Lo,vI a2.Hi]) 12 19 0 2 (nn u1 1) [vI a2.Lo,vI a2.Hi] 46)<|.v 13 (vI a3)<|.cons [14,20] (Qp false fr [] [15,16,17,999999] (λu2=>[qy ql 5 p_a0_L c_a0_L a0.L qi,qy ql 1 p_a0_Out c_a0_Out a0.Out q6,qy ql 2 p_a1 c_a1 a1 qa,gk]) [] (λu2=>[]) 121 _ _ _ _ _ [20] 14 (λu2 w hB hF hM=>qo.calls k0 (⟨a0.N,a0.L,a0.Out⟩:QE) a1 a2 a3 p_a0_L c_a0_L p_a0_Out c_a0_Out p_a1 c_a1 t3 w hB ht3) (λu2 w hF=>⟨⟨qP (qj hF.1) (λj h=>⟨_,(.head _),h⟩),qP (qj hF.2.1) (λj h=>⟨_,(.tail _ (.head _)),h⟩),qP (qj hF.2.2.1) (λj h=>⟨_,(.tail _ (.tail _ (.head _))),h⟩),Je hF.2.2.2.1 (.tail _ (.tail _ (.tail _ (.head _)))),trivial⟩,trivial⟩) (λu2 g=>(qk Jk qx)) (.inr (λu2 g=>(Qg trivial (λK h=>by cases h)))) (λh=>by cases h))<|.cons [8] (qr (λu2=>slgd_S_TInterval (u2 5) 0 t3) 8)<|.nil) (by kernel_rfl) λu2 a w' H=>?_
 replace H:=H.kp [8,20,999999]
 refine qB ?_
 obtain rfl:=sj G
 obtain ⟨g,o0,n0,d0⟩:=qcr ZD ((u2 5).o 0) (nn u2 5) (J5 ZI (u2 5) 0 t3)
 refine Qz H _ g _ _ _ fr [20] [] (slgd_S_TInterval (u2 5) 0 t3) [λ_=>ns_en_TIntervalg (u2 5) 0 t3] (by simp only [slgd_S_TInterval,dlgd_S_TInterval,ns_en_TIntervalg,qq,Qa,Ql,o0,n0,d0]) (by simp only [slgd_S_TInterval,dlgd_S_TInterval,ns_en_TIntervalg,qq,Qa,Ql,o0,n0,d0]) hfr (.inl ⟨rfl,rfl⟩) (qk Jk qx) (by simp)
theorem Yf.calls (a0:Int)(a1:List qb)(q0:Int)(p_a1:Option Addr)(c_a1:Nat)(b_q0:Nat)(r:qb)(w:World)(hB:Xp [qy ql 2 p_a1 c_a1 a1 qa,Xf b_q0 [vI q0] 3] w)(G:Yf a0 a1 q0=some r) :
  Calls Tryz.prog 119 #[vI a0,.slice p_a1 a1.length c_a1,vP b_q0 0] w λe w'=>e = .returned (.agg #[vI r.Lo,vI r.Hi])∧Below w.heap.size w w':=by
 obtain ⟨fr,hfr⟩:∃ fr:Nat->Prop,∀ j,fr j:=⟨λ_=>True,λ_=>trivial⟩
 have hBf:∀ j,w.heap.size<=j->fr j:=λj _=>hfr j
 refine QA (args:=[vI a0,.slice p_a1 a1.length c_a1,vP b_q0 0]) 11 [(11,qy ql 2 p_a1 c_a1 a1 qa),(12,Xf b_q0 [vI q0] 3)] (by
  intro x hx
  simp only [List.mem_cons,List.not_mem_nil,or_false] at hx
  rcases hx with rfl | rfl
  ·exact qv (qj hB.1) (λ_ _=>trivial) (by decide) _
  ·exact QH (hB.2.1 w (agree.refl _ _)) _) Tryz.func119 rfl λa H=>?_
 unfold Yf at G
 refine qg qd H (.cons [5,13] (qn (λb=>vP b 0) (λu1=>[vI 0,vI 0]) 46 5 13)<|.nil) [1,2,5,11,13,12] λu1 a w' H=>?_
 refine qs ?_
 replace G:=gd G; obtain ⟨b3,G⟩:=G
 obtain ⟨t4,ht4,G⟩:=qO G
 refine Qq qd H (.v 6 (.slice p_a1 a1.length c_a1)<|.cons [7] (QV (λu2=>vI q0) 7 12 (Xf b_q0 [vI q0] 3) b_q0 0 1 [vI q0] (λw h=>Za h))<|.v 8 (vI (qc (q0+1)))<|.cons [9] (qL 11 (qy ql 2 p_a1 c_a1 a1 qa) (.pointer (some ⟨XR p_a1,XV p_a1+((qc (q0+1)).toNat)*2,none⟩)) 9 λ_ w h=>JT 48 .i64 (qc (q0+1)) p_a1 a1.length c_a1 a1 qa (qj h).2 qe rfl b3)<|.cons [10] (qL 11 (qy ql 2 p_a1 c_a1 a1 qa) (.agg #[vI t4.Lo,vI t4.Hi]) 10 λ_ w h=>Y4 qa (qj h).2 qe ht4 0 2 [vI t4.Lo,vI t4.Hi])<|.cons [13] (qQ 13 0 (nn u1 0) [vI 0,vI 0] [vI t4.Lo,vI t4.Hi] 46 [vI t4.Lo,vI t4.Hi])<|.nil) [5,13,12] λu2 a w' H=>?_
 refine qB ?_
 obtain rfl:=sj G
 exact qY H _ 13 (nn u1 0) [vI t4.Lo,vI t4.Hi] 46 0 2
theorem Qn.calls (k0:Nat)(a0:List (List qb))(a1_0:Int)(p_a0:Option Addr)(c_a0:Nat)(L_a0:List (Sl qb))(b_a1_0:Nat)(r:List qb)(w:World)(h_a0:a0=L_a0.map Sl.l)(hB:Xp [qy ql 1 p_a0 c_a0 L_a0 Qo,Yk ql qU.toPart L_a0,Xf b_a1_0 [vI a1_0] 3] w)(G:Qn k0 a0 a1_0=some r) :
  Calls Tryz.prog 118 #[.slice p_a0 L_a0.length c_a0,.func (.func 119) #[] #[vP b_a1_0 0]] w λe w'=>∃ g:Gh,e = .returned (.slice (g.o 0) r.length (g.n 0))∧Zj (YR []) w w'∧Ye w.heap.size (YR []) (JS w.heap.size []) [λ_=>Ql 46 2 (g.o 0) (g.n 0) r qa] w':=by
 obtain ⟨fr,hfr,hBf⟩:=VT w []
 refine QA (args:=[.slice p_a0 L_a0.length c_a0,.func (.func 119) #[] #[vP b_a1_0 0]]) 27 [(27,qy ql 1 p_a0 c_a0 L_a0 Qo),(28,Yk ql qU.toPart L_a0),(29,Xf b_a1_0 [vI a1_0] 3)] (by
  intro x hx
  simp only [List.mem_cons,List.not_mem_nil,or_false] at hx
  rcases hx with rfl | rfl | rfl
  ·exact qv (qj hB.1) (λ_ _=>trivial) (by decide) _
  ·exact ZV (XB hB.2.1) (λ_ _=>trivial) _
  ·exact QH (hB.2.2.1 w (agree.refl _ _)) _) Tryz.func118 rfl λa H=>?_
 unfold Qn at G
 refine qg qd H (.v 4 (.slice none 0 0)<|.nil) [0,1,27,28,29] λu1 a w' H=>?_
 refine qs ?_
 replace G:=gd G; obtain ⟨b3,G⟩:=G
 refine Qq qd H (.v 8 (.slice p_a0 L_a0.length c_a0)<|.cons [9] (qL 27 (qy ql 1 p_a0 c_a0 L_a0 Qo) (vI (a0.length:Int)) 9 λ_ w h=>Y0 (((qj h).2.len qT (by decide)).trans (QD h_a0).symm) (by kernel_rfl))<|.cons [10,30] (Z8 [] (λu2=>[]) 46 2 (List.replicate (a0.length:Int).toNat (⟨0,0⟩:qb)).length ((List.replicate (a0.length:Int).toNat (⟨0,0⟩:qb)).flatMap qa) 10 30 (λ_=>.none) (λu2 w hF=>Yr (t:=48) (k:=.i64) (m:=(a0.length:Int)) (en:=qa) (z:=(⟨0,0⟩:qb)) qe JZ rfl b3 (by kernel_rfl)) (λ_=>.inl rfl))<|.cons [5] (qr (λu2=>.slice ((u2 2).o 0) ((List.replicate (a0.length:Int).toNat (⟨0,0⟩:qb)).length) (nn u2 2)) 5)<|.nil) [0,1,5,27,28,30,29] λu2 a w' H=>?_
 refine qs ?_
 obtain ⟨j5,hj5,G⟩:=qO G
 refine Xu (λa w'=>∃ (p_j4:Option Addr) (c_j4 np_j4:Nat),np_j4=j5.length∧RL w 27 [(5,sS p_j4 np_j4 c_j4),(900038,XP 46 2 p_j4 np_j4 c_j4 (j5.flatMap qa)),(29,Xf b_a1_0 [vI a1_0] 3)] a w') ?_ ?_
 ·clear H; rintro a w' ⟨p_j4,c_j4,_,rfl,H⟩
  refine qg qd H (.v 26 (.slice p_j4 j5.length c_j4)<|.v 4 (.slice p_j4 j5.length c_j4)<|.nil) [4,900038,29] λu6 a w' H=>?_
  refine qB ?_
  obtain rfl:=sj G
  obtain ⟨g,o0,n0⟩:=ZS p_j4 c_j4
  refine Qz H _ g _ _ _ fr [900038] [] (.slice p_j4 j5.length c_j4) [λ_=>Ql 46 2 p_j4 c_j4 j5 qa] (by simp only [Ql,o0,n0]) (by simp only [Ql,o0,n0]) hfr (.inl ⟨rfl,rfl⟩) (qk Qf qx) (by simp)
 ·clear G; replace G:=hj5; clear hj5
  refine qg qd H (.v 11 (.slice p_a0 L_a0.length c_a0)<|.cons [12] (qL 27 (qy ql 1 p_a0 c_a0 L_a0 Qo) (vI (a0.length:Int)) 12 λ_ w h=>Y0 (((qj h).2.len qT (by decide)).trans (QD h_a0).symm) (by kernel_rfl))<|.v 13 (vI 0)<|.nil) [1,5,11,12,13,27,28,30,29] λu7 a w' H=>?_
  refine qV ?_
  replace H:=H.move (K:=Ql 46 2 ((u2 2).o 0) (nn u2 2) (List.replicate (a0.length:Int).toNat (⟨0,0⟩:qb)) qa) 30 900039 (by kernel_rfl) (by intro _ _ h; cases h)
  refine XY (λm a w'=>∃ x8:List qb,∃ x9:Int,Qn.l10 k0 a0 a1_0 m x8 x9=some j5 ∧ ∃ (p_x8:Option Addr) (c_x8 np_x8:Nat),np_x8=x8.length∧RL w 27 [(1,.slot true (.func (.func 119) #[] #[vP b_a1_0 0])),(5,sS p_x8 np_x8 c_x8),(11,sS p_a0 L_a0.length c_a0),(12,(sI (a0.length:Int))),(13,sI x9),(27,qy ql 1 p_a0 c_a0 L_a0 Qo),(28,Yk ql qU.toPart L_a0),(900039,XP 46 2 p_x8 np_x8 c_x8 (x8.flatMap qa)),(29,Xf b_a1_0 [vI a1_0] 3)] a w') k0 ⟨_,_,G,((u2 2).o 0),(nn u2 2),(List.replicate (a0.length:Int).toNat (⟨0,0⟩:qb)).length,rfl,H.toM _⟩ ?_
  clear G H
  rintro (_ | k) a w' ⟨x8,x9,G,p_x8,c_x8,_,rfl,H⟩
  ·exact absurd G (by unfold Qn.l10; exact λh=>by cases h)
  ·unfold Qn.l10 at G
   refine qg qd H (.v 14 (.bool (decide (x9<(a0.length:Int))))<|.nil) [1,5,11,12,13,14,27,28,900039,29] λu11 a w' H=>?_
   refine qs ?_
   refine Qu H (decide (x9<(a0.length:Int))) (λc20=>?_) λc20=>?_
   ·rw [if_pos c20] at G
    refine q8 ?_
    refine qs ?_
    refine qV ?_
    refine qs ?_
    replace G:=gd G; obtain ⟨b13,G⟩:=G
    obtain ⟨t14,ht14,G⟩:=qO G
    obtain ⟨p_t14,c_t14,y_t14⟩:=Yl h_a0 ht14
    refine Qq qd H (.v 15 (vI x9)<|.cons [16] (qL 27 (qy ql 1 p_a0 c_a0 L_a0 Qo) (.pointer (some ⟨XR p_a0,XV p_a0+x9.toNat*1,none⟩)) 16 λ_ w h=>JT 195 .i64 x9 p_a0 L_a0.length c_a0 a0 Qo (qj h).2 qT (QD h_a0) b13)<|.cons [17] (qL 27 (qy ql 1 p_a0 c_a0 L_a0 Qo) (.slice p_t14 t14.length c_t14) 17 λ_ w h=>Y4 Qo (qj h).2 qT y_t14 0 1 [.slice p_t14 t14.length c_t14])<|.v 6 (vI x9)<|.v 7 (.slice p_t14 t14.length c_t14)<|.nil) [1,5,6,7,11,12,13,27,28,900039,29] λu12 a w' H=>?_
    obtain ⟨t16,ht16,G⟩:=qO G
    replace G:=gd G; obtain ⟨b17,G⟩:=G
    obtain ⟨t18,ht18,G⟩:=qO G
    refine Qq qd H (.v 18 (.slice p_x8 x8.length c_x8)<|.v 19 (vI x9)<|.v 20 (.func (.func 119) #[] #[vP b_a1_0 0])<|.v 21 (vI x9)<|.v 22 (.slice p_t14 t14.length c_t14)<|.cons [23] (Q6 [28,29] (λu15=>[Yk ql qU.toPart L_a0,Xf b_a1_0 [vI a1_0] 3]) 119 _ _ 23 (λu15 w hF=>Yf.calls x9 t14 a1_0 p_t14 c_t14 b_a1_0 t16 w ⟨(JU (show X3 _ 2 p_t14 t14.length c_t14 (t14.flatMap qa) from ((XB hF.1) _ (List.mem_of_getElem? y_t14)).1)),(QH (hF.2.1 w (agree.refl _ _)) 0).2.1,trivial⟩ ht16))<|.cons [24] (qL 900039 (Ql 46 2 p_x8 c_x8 x8 qa) (.pointer (some ⟨XR p_x8,XV p_x8+x9.toNat*2,none⟩)) 24 λ_ w h=>JT 48 .i64 x9 p_x8 x8.length c_x8 x8 qa (qH (Qx h)).2 qe rfl b17)<|.cons [900039,900039] (Xt [] [] (λu15=>[]) 900039 (λu15=>Ql 46 2 p_x8 c_x8 x8 qa) none (λu15 g=>.nilFunc) (λu15 g=>XP 46 2 p_x8 x8.length c_x8 ((x8.set x9.toNat t16).flatMap qa)) (λu15 w hF hK=>ZG (XG (Qx hK) qe (y:=t16) (vs:=[vI t16.Lo,vI t16.Hi]) ht18 0 (by simp) (by simp) rfl (by kernel_rfl))))<|.nil) [1,5,11,12,13,27,28,900039,29] λu15 a w' H=>?_
    refine Qq qd H (.v 25 (vI (qc (x9+1)))<|.v 13 (vI (qc (x9+1)))<|.nil) [1,5,11,12,13,27,28,900039,29] λu19 a w' H=>?_
    exact ⟨k,Nat.lt_succ_self k,_,_,G,p_x8,c_x8,x8.length,by simp,H.toM _⟩
   ·rw [if_neg (nt c20)] at G
    refine Yx rfl ?_
    obtain rfl:=sj G
    replace H:=H.move (K:=Ql 46 2 p_x8 c_x8 x8 qa) 900039 900038 (by kernel_rfl) (by intro _ _ h; cases h)
    exact ⟨p_x8,c_x8,x8.length,rfl,H.toM _⟩
theorem YY.calls (k0:Nat)(a0:QE)(a1:List qb)(a2:Q0)(a3:Int)(p_a0_L:Option Addr)(c_a0_L:Nat)(p_a0_Out:Option Addr)(c_a0_Out:Nat)(p_a1:Option Addr)(c_a1:Nat)(r:List qb)(w:World)(hB:Xp [qy ql 5 p_a0_L c_a0_L a0.L qi,qy ql 1 p_a0_Out c_a0_Out a0.Out q6,qy ql 2 p_a1 c_a1 a1 qa,gk] w)(G:YY k0 a0 a1 a2 a3=some r) :
  Calls Tryz.prog 97 #[.agg #[vI a0.N,.slice p_a0_L a0.L.length c_a0_L,.slice p_a0_Out a0.Out.length c_a0_Out],.slice p_a1 a1.length c_a1,.agg #[vI a2.T,vI a2.H],vI a3] w λe w'=>∃ g:Gh,e = .returned (.slice (g.o 0) r.length (g.n 0))∧Zj (YR []) w w'∧Ye w.heap.size (YR []) (JS w.heap.size []) [λ_=>Ql 46 2 (g.o 0) (g.n 0) r qa] w':=by
 obtain ⟨fr,hfr,hBf⟩:=VT w []
 refine QA (args:=[.agg #[vI a0.N,.slice p_a0_L a0.L.length c_a0_L,.slice p_a0_Out a0.Out.length c_a0_Out],.slice p_a1 a1.length c_a1,.agg #[vI a2.T,vI a2.H],vI a3]) 26 [(26,qy ql 5 p_a0_L c_a0_L a0.L qi),(27,qy ql 1 p_a0_Out c_a0_Out a0.Out q6),(28,qy ql 2 p_a1 c_a1 a1 qa),(999999,gk)] (by
  intro x hx
  simp only [List.mem_cons,List.not_mem_nil,or_false] at hx
  rcases hx with rfl | rfl | rfl | rfl
  ·exact qv (qj hB.1) (λ_ _=>trivial) (by decide) _
  ·exact qv (qj hB.2.1) (λ_ _=>trivial) (by decide) _
  ·exact qv (qj hB.2.2.1) (λ_ _=>trivial) (by decide) _
  ·exact ⟨⟨_,_,rfl⟩,hB.2.2.2.1,Yc (Qy hB.2.2.2.1)⟩) Tryz.func97 rfl λa H=>?_
 unfold YY at G
 refine qg qd H (.cons [4,29] (qn (λb=>vP b 0) (λu1=>[vI a0.N,.slice p_a0_L a0.L.length c_a0_L,.slice p_a0_Out a0.Out.length c_a0_Out]) 38 4 29)<|.cons [6,30] (qn (λb=>vP b 0) (λu1=>[vI a2.T,vI a2.H]) 53 6 30)<|.cons [7,31] (qn (λb=>vP b 0) (λu1=>[vI a3]) 3 7 31)<|.v 8 (.slice none 0 0)<|.nil) [1,4,6,7,26,27,28,29,30,31,999999] λu1 a w' H=>?_
 obtain ⟨t3,ht3,G⟩:=qO G
 refine qg qd H (.cons [10] (qf (.agg #[vI a0.N,.slice p_a0_L a0.L.length c_a0_L,.slice p_a0_Out a0.Out.length c_a0_Out]) 10 29 0 3 (nn u1 0) [vI a0.N,.slice p_a0_L a0.L.length c_a0_L,.slice p_a0_Out a0.Out.length c_a0_Out] 38)<|.v 11 (.slice p_a1 a1.length c_a1)<|.v 12 (vP (nn u1 1) 0)<|.cons [13] (qf (vI a2.T) 13 30 0 1 (nn u1 1) [vI a2.T,vI a2.H] 53)<|.v 14 (vP (nn u1 1) 0)<|.cons [15] (qf (vI a2.T) 15 30 0 1 (nn u1 1) [vI a2.T,vI a2.H] 53)<|.v 16 (vP (nn u1 1) 1)<|.cons [17] (qf (vI a2.H) 17 30 1 1 (nn u1 1) [vI a2.T,vI a2.H] 53)<|.v 18 (vI (qc (a2.T+a2.H)))<|.v 19 (.agg #[vI a2.T,vI (qc (a2.T+a2.H))])<|.cons [20] (qf (vI a3) 20 31 0 1 (nn u1 2) [vI a3] 3)<|.v 21 (vI (qc (a3+1)))<|.cons [22,32] (Qp false fr [] [26,27,28,999999] (λu2=>[qy ql 5 p_a0_L c_a0_L a0.L qi,qy ql 1 p_a0_Out c_a0_Out a0.Out q6,qy ql 2 p_a1 c_a1 a1 qa,gk]) [] (λu2=>[]) 99 _ _ _ _ _ [32] 22 (λu2 w hB hF hM=>Xv.calls k0 (⟨a0.N,a0.L,a0.Out⟩:QE) a1 (⟨a2.T,qc (a2.T+a2.H)⟩:qb) (qc (a3+1)) p_a0_L c_a0_L p_a0_Out c_a0_Out p_a1 c_a1 t3 w hB ht3) (λu2 w hF=>⟨⟨qP (qj hF.1) (λj h=>⟨_,(.head _),h⟩),qP (qj hF.2.1) (λj h=>⟨_,(.tail _ (.head _)),h⟩),qP (qj hF.2.2.1) (λj h=>⟨_,(.tail _ (.tail _ (.head _))),h⟩),Je hF.2.2.2.1 (.tail _ (.tail _ (.tail _ (.head _)))),trivial⟩,trivial⟩) (λu2 g=>(qk Jk qx)) (.inr (λu2 g=>(Qg trivial (λK h=>by cases h)))) (λh=>by cases h))<|.cons [9] (qr (λu2=>slgd_S_TInterval (u2 12) 0 t3) 9)<|.nil) [7,9,31,32,999999] λu2 a w' H=>?_
 obtain ⟨t5,ht5,G⟩:=qO G
 refine qg qd H (.v 23 (slgd_S_TInterval (u2 12) 0 t3)<|.v 24 (.func (.func 119) #[] #[vP (nn u1 2) 0])<|.cons [25,33] (Qp false fr [] [32,31] (λu4=>[ns_en_TIntervalg (u2 12) 0 t3,.blk (nn u1 2) [vI a3] 3]) [] (λu4=>[]) 118 _ _ _ _ _ [33] 25 (λu4 w hB hF hM=>Qn.calls k0 t3 a3 ((u2 12).o 0) (nn u2 12) (dlgd_S_TInterval (u2 12) 0 t3) (nn u1 2) t5 w (J5 ZI (u2 12) 0 t3) hB ht5) (λu4 w hF=>⟨⟨qP (Ym hF.1).row (λj h=>⟨_,(.head _),(qb6 h)⟩),Vq (Ym hF.1).all (λj h=>⟨_,(.head _),(qbO h)⟩),Zf hF.2.1 (.tail _ (.head _)) rfl,trivial⟩,trivial⟩) (λu4 g=>(qk Qf qx)) (.inr (λu4 g=>(Qg trivial (λK h=>by cases h)))) (λh=>by cases h))<|.cons [8] (qr (λu4=>.slice ((u4 2).o 0) t5.length (nn u4 2)) 8)<|.nil) [8,33,999999] λu4 a w' H=>?_
 refine qB ?_
 obtain rfl:=sj G
 obtain ⟨g,o0,n0⟩:=ZS ((u4 2).o 0) (nn u4 2)
 refine Qz H _ g _ _ _ fr [33] [] (.slice ((u4 2).o 0) t5.length (nn u4 2)) [λ_=>Ql 46 2 ((u4 2).o 0) (nn u4 2) t5 qa] (by simp only [Ql,o0,n0]) (by simp only [Ql,o0,n0]) hfr (.inl ⟨rfl,rfl⟩) (qk Qf qx) (by simp)
theorem Zr.calls (a0:Bool)(a1:qb)(a2:qb)(r:qb)(w:World)(G:Zr a0 a1 a2=some r) :
  Calls Tryz.prog 67 #[.bool a0,.agg #[vI a1.Lo,vI a1.Hi],.agg #[vI a2.Lo,vI a2.Hi]] w λe w'=>e = .returned (.agg #[vI r.Lo,vI r.Hi])∧Below w.heap.size w w':=by
 refine Qs (args:=[.bool a0,.agg #[vI a1.Lo,vI a1.Hi],.agg #[vI a2.Lo,vI a2.Hi]]) 10 Tryz.func67 rfl λa H=>?_
 unfold Zr at G
 refine qg qd H (.cons [4,10] (qn (λb=>vP b 0) (λu1=>[vI a1.Lo,vI a1.Hi]) 46 4 10)<|.cons [5,11] (qn (λb=>vP b 0) (λu1=>[vI a2.Lo,vI a2.Hi]) 46 5 11)<|.cons [6,12] (qn (λb=>vP b 0) (λu1=>[vI 0,vI 0]) 46 6 12)<|.nil) [0,4,5,6,10,11,12] λu1 a w' H=>?_
 refine qs ?_
 refine qg qd H (.v 7 (.bool a0)<|.nil) [4,5,6,7,10,11,12] λu2 a w' H=>?_
 refine Qu H a0 (λc5=>?_) λc5=>?_
 ·rw [if_pos c5] at G
  refine qg qd H (.cons [8] (qf (.agg #[vI a1.Lo,vI a1.Hi]) 8 10 0 2 (nn u1 0) [vI a1.Lo,vI a1.Hi] 46)<|.cons [12] (qQ 12 0 (nn u1 2) [vI 0,vI 0] [vI a1.Lo,vI a1.Hi] 46 [vI a1.Lo,vI a1.Hi])<|.nil) [6,12] λu3 a w' H=>?_
  refine qB ?_
  obtain rfl:=sj G
  exact qY H _ 12 (nn u1 2) [vI a1.Lo,vI a1.Hi] 46 0 2
 ·rw [if_neg (nt c5)] at G
  refine q8 ?_
  refine qg qd H (.cons [9] (qf (.agg #[vI a2.Lo,vI a2.Hi]) 9 11 0 2 (nn u1 1) [vI a2.Lo,vI a2.Hi] 46)<|.cons [12] (qQ 12 0 (nn u1 2) [vI 0,vI 0] [vI a2.Lo,vI a2.Hi] 46 [vI a2.Lo,vI a2.Hi])<|.nil) [6,12] λu4 a w' H=>?_
  refine qB ?_
  obtain rfl:=sj G
  exact qY H _ 12 (nn u1 2) [vI a2.Lo,vI a2.Hi] 46 0 2
theorem Xs.calls (a0:qb)(a1:qb)(r:qb×Bool)(w:World)(G:Xs a0 a1=some r) :
  Calls Tryz.prog 44 #[.agg #[vI a0.Lo,vI a0.Hi],.agg #[vI a1.Lo,vI a1.Hi]] w λe w'=>e = .returned (.tuple #[.agg #[vI r.1.Lo,vI r.1.Hi],.bool r.2])∧Below w.heap.size w w':=by
 refine Qs (args:=[.agg #[vI a0.Lo,vI a0.Hi],.agg #[vI a1.Lo,vI a1.Hi]]) 29 Tryz.func44 rfl λa H=>?_
 unfold Xs at G
 refine qg qd H (.cons [2,29] (qn (λb=>vP b 0) (λu1=>[vI a0.Lo,vI a0.Hi]) 46 2 29)<|.cons [3,30] (qn (λb=>vP b 0) (λu1=>[vI a1.Lo,vI a1.Hi]) 46 3 30)<|.cons [4,31] (qn (λb=>vP b 0) (λu1=>[vI 0,vI 0]) 46 4 31)<|.v 5 (.bool false)<|.nil) [2,3,4,29,30,31] λu1 a w' H=>?_
 refine qg qd H (.v 8 (vP (nn u1 0) 0)<|.cons [9] (qf (vI a0.Lo) 9 29 0 1 (nn u1 0) [vI a0.Lo,vI a0.Hi] 46)<|.v 10 (vP (nn u1 1) 0)<|.cons [11] (qf (vI a1.Lo) 11 30 0 1 (nn u1 1) [vI a1.Lo,vI a1.Hi] 46)<|.v 12 (vI (mx a0.Lo a1.Lo))<|.v 13 (vP (nn u1 0) 1)<|.cons [14] (qf (vI a0.Hi) 14 29 1 1 (nn u1 0) [vI a0.Lo,vI a0.Hi] 46)<|.v 15 (vP (nn u1 1) 1)<|.cons [16] (qf (vI a1.Hi) 16 30 1 1 (nn u1 1) [vI a1.Lo,vI a1.Hi] 46)<|.v 17 (vI (mn a0.Hi a1.Hi))<|.v 18 (.agg #[vI (mx a0.Lo a1.Lo),vI (mn a0.Hi a1.Hi)])<|.cons [6,32] (qn (λb=>vP b 0) (λu2=>[vI 0,vI 0]) 46 6 32)<|.cons [32] (QF (u':=λu2=>[(32,.blk (nn u2 11) [vI (mx a0.Lo a1.Lo),vI (mn a0.Hi a1.Hi)] 46)]) (qK 32 0 (λu2=>(nn u2 11)) (λu2=>[vI 0,vI 0]) (λu2=>[vI (mx a0.Lo a1.Lo),vI (mn a0.Hi a1.Hi)]) 46) (λ_=>by kernel_rfl))<|.nil) [4,6,31,32] λu2 a w' H=>?_
 refine qg qd H (.v 19 (vP (nn u2 11) 0)<|.cons [20] (qf (vI (mx a0.Lo a1.Lo)) 20 32 0 1 (nn u2 11) [vI (mx a0.Lo a1.Lo),vI (mn a0.Hi a1.Hi)] 46)<|.v 21 (vP (nn u2 11) 1)<|.cons [22] (qf (vI (mn a0.Hi a1.Hi)) 22 32 1 1 (nn u2 11) [vI (mx a0.Lo a1.Lo),vI (mn a0.Hi a1.Hi)] 46)<|.v 23 (.bool (decide ((mx a0.Lo a1.Lo)<=(mn a0.Hi a1.Hi))))<|.v 7 (.bool (decide ((mx a0.Lo a1.Lo)<=(mn a0.Hi a1.Hi))))<|.nil) [4,6,7,31,32] λu3 a w' H=>?_
 obtain ⟨t5,ht5,G⟩:=qO G
 refine qg qd H (.v 24 (.bool (decide ((mx a0.Lo a1.Lo)<=(mn a0.Hi a1.Hi))))<|.cons [25] (qf (.agg #[vI (mx a0.Lo a1.Lo),vI (mn a0.Hi a1.Hi)]) 25 32 0 2 (nn u2 11) [vI (mx a0.Lo a1.Lo),vI (mn a0.Hi a1.Hi)] 46)<|.v 26 (.agg #[vI 0,vI 0])<|.cons [27] (qm 67 _ _ 27 [] (λu4 w _=>Zr.calls (decide ((mx a0.Lo a1.Lo)<=(mn a0.Hi a1.Hi))) (⟨mx a0.Lo a1.Lo,mn a0.Hi a1.Hi⟩:qb) (⟨0,0⟩:qb) t5 w ht5))<|.v 28 (.bool (decide ((mx a0.Lo a1.Lo)<=(mn a0.Hi a1.Hi))))<|.cons [31] (qQ 31 0 (nn u1 2) [vI 0,vI 0] [vI t5.Lo,vI t5.Hi] 46 [vI t5.Lo,vI t5.Hi])<|.v 5 (.bool (decide ((mx a0.Lo a1.Lo)<=(mn a0.Hi a1.Hi))))<|.nil) [4,5,31] λu4 a w' H=>?_
 refine qB ?_
 obtain rfl:=sj G
 exact qY H _ 31 (nn u1 2) [vI t5.Lo,vI t5.Hi] 46 0 2
theorem YN.calls (a0:qb)(q0:qb)(b_q0:Nat)(r:qb)(w:World)(hB:Xp [Xf b_q0 [vI q0.Lo,vI q0.Hi] 46,gk] w)(G:YN a0 q0=some r) :
  Calls Tryz.prog 126 #[.agg #[vI a0.Lo,vI a0.Hi],vP b_q0 0] w λe w'=>e = .returned (.agg #[vI r.Lo,vI r.Hi])∧Below w.heap.size w w':=by
 obtain ⟨fr,hfr⟩:∃ fr:Nat->Prop,∀ j,fr j:=⟨λ_=>True,λ_=>trivial⟩
 have hBf:∀ j,w.heap.size<=j->fr j:=λj _=>hfr j
 refine QA (args:=[.agg #[vI a0.Lo,vI a0.Hi],vP b_q0 0]) 7 [(7,Xf b_q0 [vI q0.Lo,vI q0.Hi] 46),(999999,gk)] (by
  intro x hx
  simp only [List.mem_cons,List.not_mem_nil,or_false] at hx
  rcases hx with rfl | rfl
  ·exact QH (hB.1 w (agree.refl _ _)) _
  ·exact ⟨⟨_,_,rfl⟩,hB.2.1,Yc (Qy hB.2.1)⟩) Tryz.func126 rfl λa H=>?_
 unfold YN at G
 refine qg qd H (.cons [2,8] (qn (λb=>vP b 0) (λu1=>[vI a0.Lo,vI a0.Hi]) 46 2 8)<|.cons [3,9] (qn (λb=>vP b 0) (λu1=>[vI 0,vI 0]) 46 3 9)<|.nil) [1,2,3,8,9,7,999999] λu1 a w' H=>?_
 obtain ⟨t3,ht3,G⟩:=qO G
 refine qg qd H (.cons [4] (qf (.agg #[vI a0.Lo,vI a0.Hi]) 4 8 0 2 (nn u1 0) [vI a0.Lo,vI a0.Hi] 46)<|.cons [5] (QV (λu2=>.agg #[vI q0.Lo,vI q0.Hi]) 5 7 (Xf b_q0 [vI q0.Lo,vI q0.Hi] 46) b_q0 0 2 [vI q0.Lo,vI q0.Hi] (λw h=>Za h))<|.cons [6] (Q6 [999999] (λu2=>[gk]) 127 _ _ 6 (λu2 w hF=>Q5.calls a0 q0 t3 w (Qy hF.1) ht3))<|.cons [9] (qQ 9 0 (nn u1 1) [vI 0,vI 0] [vI t3.Lo,vI t3.Hi] 46 [vI t3.Lo,vI t3.Hi])<|.nil) [3,9,7,999999] λu2 a w' H=>?_
 refine qB ?_
 obtain rfl:=sj G
 exact qY H _ 9 (nn u1 1) [vI t3.Lo,vI t3.Hi] 46 0 2
theorem qz.calls (k0:Nat)(a0:List (List qb))(a1_0:qb)(p_a0:Option Addr)(c_a0:Nat)(L_a0:List (Sl qb))(b_a1_0:Nat)(r:List qb)(w:World)(h_a0:a0=L_a0.map Sl.l)(hB:Xp [qy ql 1 p_a0 c_a0 L_a0 Qo,Yk ql qU.toPart L_a0,Xf b_a1_0 [vI a1_0.Lo,vI a1_0.Hi] 46,gk] w)(G:qz k0 a0 a1_0=some r) :
  Calls Tryz.prog 125 #[.slice p_a0 L_a0.length c_a0,.func (.func 126) #[] #[vP b_a1_0 0],.func (.func 90) #[] #[]] w λe w'=>∃ g:Gh,e = .returned (.slice (g.o 0) r.length (g.n 0))∧Zj (YR []) w w'∧Ye w.heap.size (YR []) (JS w.heap.size []) [λ_=>Ql 46 2 (g.o 0) (g.n 0) r qa] w':=by
 obtain ⟨fr,hfr,hBf⟩:=VT w []
 refine QA (args:=[.slice p_a0 L_a0.length c_a0,.func (.func 126) #[] #[vP b_a1_0 0],.func (.func 90) #[] #[]]) 50 [(50,qy ql 1 p_a0 c_a0 L_a0 Qo),(51,Yk ql qU.toPart L_a0),(52,Xf b_a1_0 [vI a1_0.Lo,vI a1_0.Hi] 46),(999999,gk)] (by
  intro x hx
  simp only [List.mem_cons,List.not_mem_nil,or_false] at hx
  rcases hx with rfl | rfl | rfl | rfl
  ·exact qv (qj hB.1) (λ_ _=>trivial) (by decide) _
  ·exact ZV (XB hB.2.1) (λ_ _=>trivial) _
  ·exact QH (hB.2.2.1 w (agree.refl _ _)) _
  ·exact ⟨⟨_,_,rfl⟩,hB.2.2.2.1,Yc (Qy hB.2.2.2.1)⟩) Tryz.func125 rfl λa H=>?_
 unfold qz at G
 refine qg qd H (.v 6 (.slice none 0 0)<|.nil) [0,1,2,50,51,52,999999] λu1 a w' H=>?_
 refine qs ?_
 replace G:=gd G; obtain ⟨b3,G⟩:=G
 refine Qq qd H (.v 12 (.slice p_a0 L_a0.length c_a0)<|.cons [13] (qL 50 (qy ql 1 p_a0 c_a0 L_a0 Qo) (vI (a0.length:Int)) 13 λ_ w h=>Y0 (((qj h).2.len qT (by decide)).trans (QD h_a0).symm) (by kernel_rfl))<|.cons [14,53] (Z8 [] (λu2=>[]) 46 2 (List.replicate (a0.length:Int).toNat (⟨0,0⟩:qb)).length ((List.replicate (a0.length:Int).toNat (⟨0,0⟩:qb)).flatMap qa) 14 53 (λ_=>.none) (λu2 w hF=>Yr (t:=48) (k:=.i64) (m:=(a0.length:Int)) (en:=qa) (z:=(⟨0,0⟩:qb)) qe JZ rfl b3 (by kernel_rfl)) (λ_=>.inl rfl))<|.cons [7] (qr (λu2=>.slice ((u2 2).o 0) ((List.replicate (a0.length:Int).toNat (⟨0,0⟩:qb)).length) (nn u2 2)) 7)<|.nil) [0,1,2,7,50,51,53,52,999999] λu2 a w' H=>?_
 refine qs ?_
 obtain ⟨j5,hj5,G⟩:=qO G
 refine Xu (λa w'=>∃ (p_j4:Option Addr) (c_j4 np_j4:Nat),np_j4=j5.length∧RL w 50 [(7,sS p_j4 np_j4 c_j4),(900040,XP 46 2 p_j4 np_j4 c_j4 (j5.flatMap qa)),(52,Xf b_a1_0 [vI a1_0.Lo,vI a1_0.Hi] 46),(999999,gk)] a w') ?_ ?_
 ·clear H; rintro a w' ⟨p_j4,c_j4,_,rfl,H⟩
  refine qg qd H (.v 49 (.slice p_j4 j5.length c_j4)<|.v 6 (.slice p_j4 j5.length c_j4)<|.nil) [6,900040,52,999999] λu6 a w' H=>?_
  refine qB ?_
  obtain rfl:=sj G
  obtain ⟨g,o0,n0⟩:=ZS p_j4 c_j4
  refine Qz H _ g _ _ _ fr [900040] [] (.slice p_j4 j5.length c_j4) [λ_=>Ql 46 2 p_j4 c_j4 j5 qa] (by simp only [Ql,o0,n0]) (by simp only [Ql,o0,n0]) hfr (.inl ⟨rfl,rfl⟩) (qk Qf qx) (by simp)
 ·clear G; replace G:=hj5; clear hj5
  refine qg qd H (.v 15 (.slice p_a0 L_a0.length c_a0)<|.cons [16] (qL 50 (qy ql 1 p_a0 c_a0 L_a0 Qo) (vI (a0.length:Int)) 16 λ_ w h=>Y0 (((qj h).2.len qT (by decide)).trans (QD h_a0).symm) (by kernel_rfl))<|.v 17 (vI 0)<|.nil) [1,2,7,15,16,17,50,51,53,52,999999] λu7 a w' H=>?_
  refine qV ?_
  replace H:=H.move (K:=Ql 46 2 ((u2 2).o 0) (nn u2 2) (List.replicate (a0.length:Int).toNat (⟨0,0⟩:qb)) qa) 53 900041 (by kernel_rfl) (by intro _ _ h; cases h)
  refine XY (λm a w'=>∃ x8:List qb,∃ x9:Int,qz.l10 k0 a0 a1_0 m x8 x9=some j5 ∧ ∃ (p_x8:Option Addr) (c_x8 np_x8:Nat),np_x8=x8.length∧RL w 50 [(1,.slot true (.func (.func 126) #[] #[vP b_a1_0 0])),(2,.slot true (.func (.func 90) #[] #[])),(7,sS p_x8 np_x8 c_x8),(15,sS p_a0 L_a0.length c_a0),(16,(sI (a0.length:Int))),(17,sI x9),(50,qy ql 1 p_a0 c_a0 L_a0 Qo),(51,Yk ql qU.toPart L_a0),(900041,XP 46 2 p_x8 np_x8 c_x8 (x8.flatMap qa)),(52,Xf b_a1_0 [vI a1_0.Lo,vI a1_0.Hi] 46),(999999,gk)] a w') k0 ⟨_,_,G,((u2 2).o 0),(nn u2 2),(List.replicate (a0.length:Int).toNat (⟨0,0⟩:qb)).length,rfl,H.toM _⟩ ?_
  clear G H
  rintro (_ | k) a w' ⟨x8,x9,G,p_x8,c_x8,_,rfl,H⟩
  ·exact absurd G (by unfold qz.l10; exact λh=>by cases h)
  ·unfold qz.l10 at G
   refine qg qd H (.v 18 (.bool (decide (x9<(a0.length:Int))))<|.nil) [1,2,7,15,16,17,18,50,51,900041,52,999999] λu11 a w' H=>?_
   refine qs ?_
   refine Qu H (decide (x9<(a0.length:Int))) (λc40=>?_) λc40=>?_
   ·rw [if_pos c40] at G
    refine q8 ?_
    refine qs ?_
    obtain ⟨j13,hj13,G⟩:=qO G
    refine Xu (λa w'=>∃ (p_j12:Option Addr) (c_j12 np_j12:Nat),np_j12=j13.length∧RL w 50 [(1,.slot true (.func (.func 126) #[] #[vP b_a1_0 0])),(2,.slot true (.func (.func 90) #[] #[])),(7,sS p_j12 np_j12 c_j12),(15,sS p_a0 L_a0.length c_a0),(16,(sI (a0.length:Int))),(17,sI x9),(50,qy ql 1 p_a0 c_a0 L_a0 Qo),(51,Yk ql qU.toPart L_a0),(900042,XP 46 2 p_j12 np_j12 c_j12 (j13.flatMap qa)),(52,Xf b_a1_0 [vI a1_0.Lo,vI a1_0.Hi] 46),(999999,gk)] a w') ?_ ?_
    ·clear H; rintro a w' ⟨p_j12,c_j12,_,rfl,H⟩
     refine Qq qd H (.v 48 (vI (qc (x9+1)))<|.v 17 (vI (qc (x9+1)))<|.nil) [1,2,7,15,16,17,50,51,900042,52,999999] λu14 a w' H=>?_
     replace H:=H.move (K:=Ql 46 2 p_j12 c_j12 j13 qa) 900042 900041 (by kernel_rfl) (by intro _ _ h; cases h)
     exact ⟨k,Nat.lt_succ_self k,_,_,G,p_j12,c_j12,j13.length,rfl,H.toM _⟩
    ·clear G; replace G:=hj13; clear hj13
     refine qV ?_
     refine qs ?_
     replace G:=gd G; obtain ⟨b16,G⟩:=G
     obtain ⟨t17,ht17,G⟩:=qO G
     obtain ⟨p_t17,c_t17,y_t17⟩:=Yl h_a0 ht17
     refine Qq qd H (.v 19 (vI x9)<|.cons [20] (qL 50 (qy ql 1 p_a0 c_a0 L_a0 Qo) (.pointer (some ⟨XR p_a0,XV p_a0+x9.toNat*1,none⟩)) 20 λ_ w h=>JT 195 .i64 x9 p_a0 L_a0.length c_a0 a0 Qo (qj h).2 qT (QD h_a0) b16)<|.cons [21] (qL 50 (qy ql 1 p_a0 c_a0 L_a0 Qo) (.slice p_t17 t17.length c_t17) 21 λ_ w h=>Y4 Qo (qj h).2 qT y_t17 0 1 [.slice p_t17 t17.length c_t17])<|.v 8 (vI x9)<|.v 9 (.slice p_t17 t17.length c_t17)<|.nil) [1,2,7,8,9,15,16,17,50,51,900041,52,999999] λu15 a w' H=>?_
     refine qs ?_
     replace G:=gd G; obtain ⟨b19,G⟩:=G
     obtain ⟨t20,ht20,G⟩:=qO G
     refine Qq qd H (.v 22 (.slice p_t17 t17.length c_t17)<|.v 23 (.slice p_t17 t17.length c_t17)<|.v 24 (vI (t17.length:Int))<|.v 25 (vI (qc ((t17.length:Int)-1)))<|.cons [26] (qL 51 (Yk ql qU.toPart L_a0) (.pointer (some ⟨XR p_t17,XV p_t17+((qc ((t17.length:Int)-1)).toNat)*2,none⟩)) 26 λ_ w h=>JT 48 .i64 (qc ((t17.length:Int)-1)) p_t17 t17.length c_t17 t17 qa (show X3 _ 2 p_t17 t17.length c_t17 (t17.flatMap qa) from ((XB h) _ (List.mem_of_getElem? y_t17)).1).2 qe rfl b19)<|.cons [27] (qL 51 (Yk ql qU.toPart L_a0) (.agg #[vI t20.Lo,vI t20.Hi]) 27 λ_ w h=>Y4 qa (show X3 _ 2 p_t17 t17.length c_t17 (t17.flatMap qa) from ((XB h) _ (List.mem_of_getElem? y_t17)).1).2 qe ht20 0 2 [vI t20.Lo,vI t20.Hi])<|.cons [10,55] (qn (λb=>vP b 0) (λu18=>[vI 0,vI 0]) 46 10 55)<|.cons [55] (QF (u':=λu18=>[(55,.blk (nn u18 6) [vI t20.Lo,vI t20.Hi] 46)]) (qK 55 0 (λu18=>(nn u18 6)) (λu18=>[vI 0,vI 0]) (λu18=>[vI t20.Lo,vI t20.Hi]) 46) (λ_=>by kernel_rfl))<|.nil) [1,2,7,8,9,10,15,16,17,50,51,55,900041,52,999999] λu18 a w' H=>?_
     refine qs ?_
     obtain ⟨j23,hj23,G⟩:=qO G
     refine Xu (λa w'=>RL w 50 [(1,.slot true (.func (.func 126) #[] #[vP b_a1_0 0])),(2,.slot true (.func (.func 90) #[] #[])),(7,sS p_x8 x8.length c_x8),(8,sI x9),(10,(sP (nn u18 6) 0)),(15,sS p_a0 L_a0.length c_a0),(16,(sI (a0.length:Int))),(17,sI x9),(50,qy ql 1 p_a0 c_a0 L_a0 Qo),(51,Yk ql qU.toPart L_a0),(55,.blk (nn u18 6) [vI j23.1,vI j23.2] 46),(900041,Ql 46 2 p_x8 c_x8 x8 qa),(52,Xf b_a1_0 [vI a1_0.Lo,vI a1_0.Hi] 46),(999999,gk)] a w') ?_ ?_
     ·clear H; intro a w' H
      replace G:=gd G; obtain ⟨b25,G⟩:=G
      obtain ⟨t26,ht26,G⟩:=qO G
      refine Qq qd H (.v 44 (.slice p_x8 x8.length c_x8)<|.v 45 (vI x9)<|.cons [46] (qf (.agg #[vI j23.1,vI j23.2]) 46 55 0 2 (nn u18 6) [vI j23.1,vI j23.2] 46)<|.cons [47] (qL 900041 (Ql 46 2 p_x8 c_x8 x8 qa) (.pointer (some ⟨XR p_x8,XV p_x8+x9.toNat*2,none⟩)) 47 λ_ w h=>JT 48 .i64 x9 p_x8 x8.length c_x8 x8 qa (qH (Qx h)).2 qe rfl b25)<|.cons [900041,900041] (Xt [] [] (λu24=>[]) 900041 (λu24=>Ql 46 2 p_x8 c_x8 x8 qa) none (λu24 g=>.nilFunc) (λu24 g=>XP 46 2 p_x8 x8.length c_x8 ((x8.set x9.toNat (⟨j23.1,j23.2⟩:qb)).flatMap qa)) (λu24 w hF hK=>ZG (XG (Qx hK) qe (y:=(⟨j23.1,j23.2⟩:qb)) (vs:=[vI j23.1,vI j23.2]) ht26 0 (by simp) (by simp) rfl (by kernel_rfl))))<|.nil) [1,2,7,15,16,17,50,51,900041,52,999999] λu24 a w' H=>?_
      obtain rfl:=sj G
      replace H:=H.move (K:=XP 46 2 p_x8 x8.length c_x8 ((x8.set x9.toNat (⟨j23.1,j23.2⟩:qb)).flatMap qa)) 900041 900042 (by kernel_rfl) (by intro _ _ h; cases h)
      exact ⟨p_x8,c_x8,x8.length,by simp,H.toM _⟩
     ·clear G; replace G:=hj23; clear hj23
      refine qg qd H (.v 28 (.slice p_t17 t17.length c_t17)<|.v 29 (vI (t17.length:Int))<|.v 30 (vI (qc ((t17.length:Int)-2)))<|.v 11 (vI (qc ((t17.length:Int)-2)))<|.nil) [1,2,7,8,9,10,11,15,16,17,50,51,55,900041,52,999999] λu27 a w' H=>?_
      refine qV ?_
      refine XY (λm a w'=>∃ x28:Int,∃ x29:Int,∃ x30:Int,qz.l31 k0 a0 a1_0 x8 x9 t17 t20 m x28 x29 x30=some j23∧RL w 50 [(1,.slot true (.func (.func 126) #[] #[vP b_a1_0 0])),(2,.slot true (.func (.func 90) #[] #[])),(7,sS p_x8 x8.length c_x8),(8,sI x9),(9,sS p_t17 t17.length c_t17),(10,(sP (nn u18 6) 0)),(11,sI x30),(15,sS p_a0 L_a0.length c_a0),(16,(sI (a0.length:Int))),(17,sI x9),(50,qy ql 1 p_a0 c_a0 L_a0 Qo),(51,Yk ql qU.toPart L_a0),(55,.blk (nn u18 6) [vI x28,vI x29] 46),(900041,Ql 46 2 p_x8 c_x8 x8 qa),(52,Xf b_a1_0 [vI a1_0.Lo,vI a1_0.Hi] 46),(999999,gk)] a w') k0 ⟨_,_,_,G,H.toM _⟩ ?_
      clear G H
      rintro (_ | k) a w' ⟨x28,x29,x30,G,H⟩
      ·exact absurd G (by unfold qz.l31; exact λh=>by cases h)
      ·unfold qz.l31 at G
       refine qs ?_
       refine qg qd H (.v 31 (vI x30)<|.v 32 (.bool (decide (x30>=0)))<|.nil) [1,2,7,8,9,10,11,15,16,17,32,50,51,55,900041,52,999999] λu32 a w' H=>?_
       refine Qu H (decide (x30>=0)) (λc39=>?_) λc39=>?_
       ·rw [if_pos c39] at G
        refine q8 ?_
        refine qs ?_
        refine qV ?_
        obtain ⟨t34,ht34,G⟩:=qO G
        replace G:=gd G; obtain ⟨b35,G⟩:=G
        obtain ⟨t36,ht36,G⟩:=qO G
        obtain ⟨t37,ht37,G⟩:=qO G
        refine Qq qd H (.v 35 (.func (.func 90) #[] #[])<|.v 36 (.func (.func 126) #[] #[vP b_a1_0 0])<|.cons [37] (qf (.agg #[vI x28,vI x29]) 37 55 0 2 (nn u18 6) [vI x28,vI x29] 46)<|.cons [38] (Q6 [52,999999] (λu33=>[Xf b_a1_0 [vI a1_0.Lo,vI a1_0.Hi] 46,gk]) 126 _ _ 38 (λu33 w hF=>YN.calls (⟨x28,x29⟩:qb) a1_0 b_a1_0 t34 w ⟨(QH (hF.1 w (agree.refl _ _)) 0).2.1,hF.2.1,trivial⟩ ht34))<|.v 39 (.slice p_t17 t17.length c_t17)<|.v 40 (vI x30)<|.cons [41] (qL 51 (Yk ql qU.toPart L_a0) (.pointer (some ⟨XR p_t17,XV p_t17+x30.toNat*2,none⟩)) 41 λ_ w h=>JT 48 .i64 x30 p_t17 t17.length c_t17 t17 qa (show X3 _ 2 p_t17 t17.length c_t17 (t17.flatMap qa) from ((XB h) _ (List.mem_of_getElem? y_t17)).1).2 qe rfl b35)<|.cons [42] (qL 51 (Yk ql qU.toPart L_a0) (.agg #[vI t36.Lo,vI t36.Hi]) 42 λ_ w h=>Y4 qa (show X3 _ 2 p_t17 t17.length c_t17 (t17.flatMap qa) from ((XB h) _ (List.mem_of_getElem? y_t17)).1).2 qe ht36 0 2 [vI t36.Lo,vI t36.Hi])<|.cons [43] (qm 90 _ _ 43 [] (λu33 w _=>QM.calls t34 t36 t37 w ht37))<|.cons [55] (qQ 55 0 (nn u18 6) [vI x28,vI x29] [vI t37.Lo,vI t37.Hi] 46 [vI t37.Lo,vI t37.Hi])<|.nil) [1,2,7,8,9,10,11,15,16,17,50,51,55,900041,52,999999] λu33 a w' H=>?_
        refine Qq qd H (.v 33 (vI x30)<|.v 34 (vI (qc (x30-1)))<|.v 11 (vI (qc (x30-1)))<|.nil) [1,2,7,8,9,10,11,15,16,17,50,51,55,900041,52,999999] λu38 a w' H=>?_
        exact ⟨k,Nat.lt_succ_self k,_,_,_,G,H.toM _⟩
       ·rw [if_neg (nt c39)] at G
        refine Yx rfl ?_
        obtain rfl:=sj G
        exact H.toM _
   ·rw [if_neg (nt c40)] at G
    refine Yx rfl ?_
    obtain rfl:=sj G
    replace H:=H.move (K:=Ql 46 2 p_x8 c_x8 x8 qa) 900041 900040 (by kernel_rfl) (by intro _ _ h; cases h)
    exact ⟨p_x8,c_x8,x8.length,rfl,H.toM _⟩
theorem ZH.calls (k0:Nat)(a0:List (List qb))(a1:qb)(p_a0:Option Addr)(c_a0:Nat)(L_a0:List (Sl qb))(r:List qb)(w:World)(h_a0:a0=L_a0.map Sl.l)(hB:Xp [qy ql 1 p_a0 c_a0 L_a0 Qo,Yk ql qU.toPart L_a0,gk] w)(G:ZH k0 a0 a1=some r) :
  Calls Tryz.prog 102 #[.slice p_a0 L_a0.length c_a0,.agg #[vI a1.Lo,vI a1.Hi]] w λe w'=>∃ g:Gh,e = .returned (.slice (g.o 0) r.length (g.n 0))∧Zj (YR []) w w'∧Ye w.heap.size (YR []) (JS w.heap.size []) [λ_=>Ql 46 2 (g.o 0) (g.n 0) r qa] w':=by
 obtain ⟨fr,hfr,hBf⟩:=VT w []
 refine QA (args:=[.slice p_a0 L_a0.length c_a0,.agg #[vI a1.Lo,vI a1.Hi]]) 8 [(8,qy ql 1 p_a0 c_a0 L_a0 Qo),(9,Yk ql qU.toPart L_a0),(999999,gk)] (by
  intro x hx
  simp only [List.mem_cons,List.not_mem_nil,or_false] at hx
  rcases hx with rfl | rfl | rfl
  ·exact qv (qj hB.1) (λ_ _=>trivial) (by decide) _
  ·exact ZV (XB hB.2.1) (λ_ _=>trivial) _
  ·exact ⟨⟨_,_,rfl⟩,hB.2.2.1,Yc (Qy hB.2.2.1)⟩) Tryz.func102 rfl λa H=>?_
 unfold ZH at G
 refine qg qd H (.cons [3,10] (qn (λb=>vP b 0) (λu1=>[vI a1.Lo,vI a1.Hi]) 46 3 10)<|.v 4 (.slice none 0 0)<|.nil) [0,3,8,9,10,999999] λu1 a w' H=>?_
 obtain ⟨t3,ht3,G⟩:=qO G
 refine qg qd H (.v 5 (.slice p_a0 L_a0.length c_a0)<|.v 6 (.func (.func 126) #[] #[vP (nn u1 0) 0])<|.cons [7,11] (Qp false fr [] [8,9,10,999999] (λu2=>[qy ql 1 p_a0 c_a0 L_a0 Qo,Yk ql qU.toPart L_a0,.blk (nn u1 0) [vI a1.Lo,vI a1.Hi] 46,gk]) [] (λu2=>[]) 125 _ _ _ _ _ [11] 7 (λu2 w hB hF hM=>qz.calls k0 a0 a1 p_a0 c_a0 L_a0 (nn u1 0) t3 w h_a0 hB ht3) (λu2 w hF=>⟨⟨qP (qj hF.1) (λj h=>⟨_,(.head _),h⟩),Vq (XB hF.2.1) (λj h=>⟨_,(.tail _ (.head _)),h⟩),Zf hF.2.2.1 (.tail _ (.tail _ (.head _))) rfl,Je hF.2.2.2.1 (.tail _ (.tail _ (.tail _ (.head _)))),trivial⟩,trivial⟩) (λu2 g=>(qk Qf qx)) (.inr (λu2 g=>(Qg trivial (λK h=>by cases h)))) (λh=>by cases h))<|.cons [4] (qr (λu2=>.slice ((u2 2).o 0) t3.length (nn u2 2)) 4)<|.nil) [4,11,999999] λu2 a w' H=>?_
 refine qB ?_
 obtain rfl:=sj G
 obtain ⟨g,o0,n0⟩:=ZS ((u2 2).o 0) (nn u2 2)
 refine Qz H _ g _ _ _ fr [11] [] (.slice ((u2 2).o 0) t3.length (nn u2 2)) [λ_=>Ql 46 2 ((u2 2).o 0) (nn u2 2) t3 qa] (by simp only [Ql,o0,n0]) (by simp only [Ql,o0,n0]) hfr (.inl ⟨rfl,rfl⟩) (qk Qf qx) (by simp)
theorem XU.calls (a0:Int)(a1:List qb)(q0:List qb)(p_a1:Option Addr)(c_a1:Nat)(b_q0:Nat)(p_q0:Option Addr)(c_q0:Nat)(r:List qb)(w:World)(hB:Xp [qy ql 2 p_q0 c_q0 q0 qa,Xf b_q0 [.slice p_q0 q0.length c_q0] 48] w)(hM:V9 [Ql 46 2 p_a1 c_a1 a1 qa] ([qy ql 2 p_q0 c_q0 q0 qa,Xf b_q0 [.slice p_q0 q0.length c_q0] 48]++[]) w)(G:XU a0 a1 q0=some r) :
  Calls Tryz.prog 100 #[vI a0,.slice p_a1 a1.length c_a1,vP b_q0 0] w λe w'=>∃ g:Gh,e = .returned (.slice (g.o 0) r.length (g.n 0))∧Zj (YR [Ql 46 2 p_a1 c_a1 a1 qa]) w w'∧Ye w.heap.size (YR [Ql 46 2 p_a1 c_a1 a1 qa]) (JS w.heap.size []) [λ_=>Ql 46 2 (g.o 0) (g.n 0) r qa] w':=by
 obtain ⟨fr,hfr,hBf⟩:=VT w []
 refine VH (args:=[vI a0,.slice p_a1 a1.length c_a1,vP b_q0 0]) 13 [(15,qy ql 2 p_q0 c_q0 q0 qa),(14,Xf b_q0 [.slice p_q0 q0.length c_q0] 48)] [(13,Ql 46 2 p_a1 c_a1 a1 qa)] (VC hM (by rfl)) (by
  intro x hx
  simp only [List.mem_cons,List.not_mem_nil,or_false] at hx
  rcases hx with rfl | rfl
  ·exact qv (qj hB.1) (λ_ _=>trivial) (by decide) _
  ·exact QH (hB.2.1 w (agree.refl _ _)) _) (by rfl) Tryz.func100 rfl (by kernel_rfl) (by kernel_rfl) λa H=>?_
 unfold XU at G
 refine qg qd H (.v 5 (.slice none 0 0)<|.nil) [0,1,2,13,15,14,999998] λu1 a w' H=>?_
 refine qs ?_
 replace G:=gd G; obtain ⟨b3,G⟩:=G
 obtain ⟨t4,ht4,G⟩:=qO G
 replace G:=gd G; obtain ⟨b5,G⟩:=G
 refine Qq qd H (.v 6 (.slice p_a1 a1.length c_a1)<|.cons [7] (QV (λu2=>.slice p_q0 q0.length c_q0) 7 14 (Xf b_q0 [.slice p_q0 q0.length c_q0] 48) b_q0 0 1 [.slice p_q0 q0.length c_q0] (λw h=>Za h))<|.v 8 (vI a0)<|.cons [9] (qL 15 (qy ql 2 p_q0 c_q0 q0 qa) (.pointer (some ⟨XR p_q0,XV p_q0+a0.toNat*2,none⟩)) 9 λ_ w h=>JT 48 .i64 a0 p_q0 q0.length c_q0 q0 qa (qj h).2 qe rfl b3)<|.cons [10] (qL 15 (qy ql 2 p_q0 c_q0 q0 qa) (.agg #[vI t4.Lo,vI t4.Hi]) 10 λ_ w h=>Y4 qa (qj h).2 qe ht4 0 2 [vI t4.Lo,vI t4.Hi])<|.cons [11,16] (qn (λb=>.slice (some ⟨b,0,none⟩) 1 1) (λu2=>[vI t4.Lo,vI t4.Hi]) 46 11 16)<|.cons [12,13,13] (Xt [5] [16] (λu2=>[.blk (nn u2 5) [vI t4.Lo,vI t4.Hi] 46]) 13 (λu2=>Ql 46 2 p_a1 c_a1 a1 qa) (some 12) (λu2 g=>.slice (g.o 0) (a1++[t4]).length (g.n 0)) (λu2 g=>Ql 46 2 (g.o 0) (g.n 0) (a1++[t4]) qa) (λu2 w hF hK=>Vb (Yb (t:=48) (ty:=48) (en:=qa) qe JZ (Qx hK) hF.1 (news:=[t4]) rfl (by simp) (by kernel_rfl) b5)) (hloc:=λu u' h=>by refine ⟨?_,?_,?_,?_⟩ <;> first | rfl | simp only [nn, h 5 (by decide)]))<|.cons [5] (qr (λu2=>.slice ((u2 6).o 0) ((a1++[t4]).length) (nn u2 6)) 5)<|.nil) [5,13,15,14,999998] λu2 a w' H=>?_
 refine qB ?_
 obtain rfl:=sj G
 obtain ⟨g,o0,n0⟩:=ZS ((u2 6).o 0) (nn u2 6)
 refine Qz H _ g _ _ _ fr [13] [] (.slice ((u2 6).o 0) ((a1++[t4]).length) (nn u2 6)) [λ_=>Ql 46 2 ((u2 6).o 0) (nn u2 6) (a1++[t4]) qa] (by simp only [Ql,o0,n0]) (by simp only [Ql,o0,n0]) hfr (.inr (by kernel_rfl)) (qk Qf qx) (by simp)
theorem Qk.calls (k0:Nat)(a0:List (List qb))(a1_0:List qb)(p_a0:Option Addr)(c_a0:Nat)(L_a0:List (Sl qb))(b_a1_0:Nat)(p_a1_0:Option Addr)(c_a1_0:Nat)(r:List (List qb))(w:World)(h_a0:a0=L_a0.map Sl.l)(hB:Xp [qy ql 2 p_a1_0 c_a1_0 a1_0 qa,Xf b_a1_0 [.slice p_a1_0 a1_0.length c_a1_0] 48] w)(hM:V9 [qq p_a0 c_a0 L_a0] ([qy ql 2 p_a1_0 c_a1_0 a1_0 qa,Xf b_a1_0 [.slice p_a1_0 a1_0.length c_a1_0] 48]++[]) w)(G:Qk k0 a0 a1_0=some r) :
  Calls Tryz.prog 98 #[.slice p_a0 L_a0.length c_a0,.func (.func 100) #[] #[vP b_a1_0 0]] w λe w'=>∃ g:Gh,e = .returned (slgd_S_TInterval g 0 r)∧Zj (YR [qq p_a0 c_a0 L_a0]) w w'∧Ye w.heap.size (YR [qq p_a0 c_a0 L_a0]) (JS w.heap.size []) [λ_=>ns_en_TIntervalg g 0 r] w':=by
 obtain ⟨fr,hfr,hBf⟩:=VT w []
 refine VH (args:=[.slice p_a0 L_a0.length c_a0,.func (.func 100) #[] #[vP b_a1_0 0]]) 27 [(29,qy ql 2 p_a1_0 c_a1_0 a1_0 qa),(28,Xf b_a1_0 [.slice p_a1_0 a1_0.length c_a1_0] 48)] [(27,qq p_a0 c_a0 L_a0)] (VC hM (by rfl)) (by
  intro x hx
  simp only [List.mem_cons,List.not_mem_nil,or_false] at hx
  rcases hx with rfl | rfl
  ·exact qv (qj hB.1) (λ_ _=>trivial) (by decide) _
  ·exact QH (hB.2.1 w (agree.refl _ _)) _) (by rfl) Tryz.func98 rfl (by kernel_rfl) (by kernel_rfl) λa H=>?_
 unfold Qk at G
 refine qg qd H (.v 4 (.slice none 0 0)<|.nil) [0,1,27,29,28,999998] λu1 a w' H=>?_
 refine qs ?_
 replace G:=gd G; obtain ⟨b3,G⟩:=G
 refine Qq qd H (.v 8 (.slice p_a0 L_a0.length c_a0)<|.cons [9] (qL 27 (qq p_a0 c_a0 L_a0) (vI (a0.length:Int)) 9 λ_ w h=>Y0 (((Ym h).row.2.len qT (by decide)).trans (QD h_a0).symm) (by kernel_rfl))<|.cons [10,30] (qaV 46 2 qa (Z8 [] (λu2=>[]) 48 1 (List.replicate (a0.length:Int).toNat (⟨none,0,[]⟩:Sl qb)).length ((List.replicate (a0.length:Int).toNat (⟨none,0,[]⟩:Sl qb)).flatMap Qo) 10 30 (λ_=>.none) (λu2 w hF=>Yr (t:=195) (k:=.i64) (m:=(a0.length:Int)) (en:=Qo) (z:=(⟨none,0,[]⟩:Sl qb)) qT qe5 rfl b3 (by kernel_rfl)) (λ_=>.inl rfl)) qaH)<|.cons [5] (qr (λu2=>.slice ((u2 2).o 0) ((List.replicate (a0.length:Int).toNat (⟨none,0,[]⟩:Sl qb)).length) (nn u2 2)) 5)<|.nil) [0,1,5,27,29,30,28,999998] λu2 a w' H=>?_
 refine qs ?_
 obtain ⟨j5,hj5,G⟩:=qO G
 refine Xu (λa w'=>∃ (p_j4:Option Addr) (c_j4 np_j4:Nat) (L_j4:List (Sl qb)),np_j4=L_j4.length∧j5=L_j4.map Sl.l∧QB 0 w 27 (Jf [(5,sS p_j4 np_j4 c_j4),(29,qy ql 2 p_a1_0 c_a1_0 a1_0 qa),(900043,Qa p_j4 np_j4 c_j4 L_j4),(28,Xf b_a1_0 [.slice p_a1_0 a1_0.length c_a1_0] 48),(999998,frM [qq p_a0 c_a0 L_a0] w)]) a w') ?_ ?_
 ·clear H; rintro a w' ⟨p_j4,c_j4,_,L_j4,rfl,h_j4,H⟩
  refine qg qd H (.v 26 (.slice p_j4 L_j4.length c_j4)<|.v 4 (.slice p_j4 L_j4.length c_j4)<|.nil) [4,29,900043,28,999998] λu6 a w' H=>?_
  refine qB ?_
  obtain rfl:=sj G
  obtain ⟨g,o0,n0,d0⟩:=qcr ZD p_j4 c_j4 h_j4
  refine Qz H _ g _ _ _ fr [900043] [] (.slice p_j4 L_j4.length c_j4) [λ_=>qq p_j4 c_j4 L_j4] (by simp only [slgd_S_TInterval,dlgd_S_TInterval,ns_en_TIntervalg,qq,Qa,Ql,o0,n0,d0]) (by simp only [slgd_S_TInterval,dlgd_S_TInterval,ns_en_TIntervalg,qq,Qa,Ql,o0,n0,d0]) hfr (.inr (by kernel_rfl)) (qk Jk qx) (by simp)
 ·clear G; replace G:=hj5; clear hj5
  refine qg qd H (.v 11 (.slice p_a0 L_a0.length c_a0)<|.cons [12] (qL 27 (qq p_a0 c_a0 L_a0) (vI (a0.length:Int)) 12 λ_ w h=>Y0 (((Ym h).row.2.len qT (by decide)).trans (QD h_a0).symm) (by kernel_rfl))<|.v 13 (vI 0)<|.nil) [1,5,11,12,13,27,29,30,28,999998] λu7 a w' H=>?_
  refine qV ?_
  replace H:=H.move (K:=qq ((u2 2).o 0) (nn u2 2) (List.replicate (a0.length:Int).toNat (⟨none,0,[]⟩:Sl qb))) 30 900045 (by kernel_rfl) (by intro _ _ h; cases h)
  refine XY (λm a w'=>∃ x8:List (List qb),∃ x9:Int,Qk.l10 k0 a0 a1_0 m x8 x9=some j5 ∧ ∃ (p_x8:Option Addr) (c_x8 np_x8:Nat) (L_x8:List (Sl qb)),np_x8=L_x8.length∧x8=L_x8.map Sl.l∧QB 0 w 27 (Jf [(1,.slot true (.func (.func 100) #[] #[vP b_a1_0 0])),(5,sS p_x8 np_x8 c_x8),(11,sS p_a0 L_a0.length c_a0),(12,(sI (a0.length:Int))),(13,sI x9),(27,Zz 48 46 2 qa p_a0 L_a0.length c_a0 L_a0 (L_a0.drop (x9.toNat))),(29,qy ql 2 p_a1_0 c_a1_0 a1_0 qa),(900045,Qa p_x8 np_x8 c_x8 L_x8),(28,Xf b_a1_0 [.slice p_a1_0 a1_0.length c_a1_0] 48),(999998,frM [qq p_a0 c_a0 L_a0] w)]) a w') k0 ⟨_,_,G,((u2 2).o 0),(nn u2 2),(List.replicate (a0.length:Int).toNat (⟨none,0,[]⟩:Sl qb)).length,(List.replicate (a0.length:Int).toNat (⟨none,0,[]⟩:Sl qb)),rfl,(WB (er:=Sl.l) (a0.length:Int).toNat (⟨none,0,[]⟩:Sl qb)),H.toM _⟩ ?_
  clear G H
  rintro (_ | k) a w' ⟨x8,x9,G,p_x8,c_x8,_,L_x8,rfl,h_x8,H⟩
  ·exact absurd G (by unfold Qk.l10; exact λh=>by cases h)
  ·unfold Qk.l10 at G
   refine qg qd H (.v 14 (.bool (decide (x9<(a0.length:Int))))<|.nil) [1,5,11,12,13,14,27,29,900045,28,999998] λu11 a w' H=>?_
   refine qs ?_
   refine Qu H (decide (x9<(a0.length:Int))) (λc20=>?_) λc20=>?_
   ·rw [if_pos c20] at G
    refine q8 ?_
    refine qs ?_
    refine qV ?_
    refine qs ?_
    replace G:=gd G; obtain ⟨b13,G⟩:=G
    obtain ⟨t14,ht14,G⟩:=qO G
    obtain ⟨p_t14,c_t14,y_t14⟩:=Yl h_a0 ht14
    refine Qq qd H (.v 15 (vI x9)<|.cons [16] (qL 27 (Zz 48 46 2 qa p_a0 L_a0.length c_a0 L_a0 (L_a0.drop (x9.toNat))) (.pointer (some ⟨XR p_a0,XV p_a0+x9.toNat*1,none⟩)) 16 λ_ w h=>JT 195 .i64 x9 p_a0 L_a0.length c_a0 a0 Qo (Ym h).row.2 qT (QD h_a0) b13)<|.cons [17] (qL 27 (Zz 48 46 2 qa p_a0 L_a0.length c_a0 L_a0 (L_a0.drop (x9.toNat))) (.slice p_t14 t14.length c_t14) 17 λ_ w h=>Y4 Qo (Ym h).row.2 qT y_t14 0 1 [.slice p_t14 t14.length c_t14])<|.v 6 (vI x9)<|.v 7 (.slice p_t14 t14.length c_t14)<|.nil) [1,5,6,7,11,12,13,27,29,900045,28,999998] λu12 a w' H=>?_
    replace H:=H.nestPop (e:=48) (e2:=46) (sz:=2) (m:=L_a0.length) (cap:=c_a0) (en:=qa) (p:=p_a0) (H:=L_a0) (i:=x9.toNat) 27 31 (by kernel_rfl) y_t14 (by rfl)
    obtain ⟨t16,ht16,G⟩:=qO G
    replace G:=gd G; obtain ⟨b17,G⟩:=G
    obtain ⟨t18,ht18,G⟩:=qO G
    obtain ⟨p_t18,c_t18,y_t18⟩:=Yl h_x8 ht18
    refine Qq qd H (.v 18 (.slice p_x8 L_x8.length c_x8)<|.v 19 (vI x9)<|.v 20 (.func (.func 100) #[] #[vP b_a1_0 0])<|.v 21 (vI x9)<|.v 22 (.slice p_t14 t14.length c_t14)<|.cons [23,31,32] (Qp false fr [] [29,28] (λu15=>[qy ql 2 p_a1_0 c_a1_0 a1_0 qa,Xf b_a1_0 [.slice p_a1_0 a1_0.length c_a1_0] 48]) [31] (λu15=>[Ql 46 2 p_t14 c_t14 t14 qa]) 100 _ _ _ _ _ [32] 23 (λu15 w hB hF hM=>XU.calls x9 t14 a1_0 p_t14 c_t14 b_a1_0 p_a1_0 c_a1_0 t16 w hB hM ht16) (λu15 w hF=>⟨⟨qP (qj hF.1) (λj h=>⟨_,(.head _),h⟩),Zf (hF.2.1 w (agree.refl _ _)) (.tail _ (.head _)) rfl,trivial⟩,trivial⟩) (λu15 g=>(qk Qf qx)) (.inr (λu15 g=>(Qg trivial (λK h=>by cases h)))) (λh=>by cases h))<|.cons [24] (qL 900045 (qq p_x8 c_x8 L_x8) (.pointer (some ⟨XR p_x8,XV p_x8+x9.toNat*1,none⟩)) 24 λ_ w h=>JT 195 .i64 x9 p_x8 L_x8.length c_x8 x8 Qo (Ym h).row.2 qT (QD h_x8) b17)<|.cons [900045,32,900045] (qbZ [5] [] (λu15=>[]) 900045 32 (λu15=>qq p_x8 c_x8 L_x8) (λu15=>Ql 46 2 ((u15 5).o 0) (nn u15 5) t16 qa) none (λu15 g=>.nilFunc) (λu15 g=>Qa p_x8 L_x8.length c_x8 (L_x8.set x9.toNat (⟨((u15 5).o 0),(nn u15 5),t16⟩:Sl qb))) (λu15 w hF hK hK2 hd=>qdt hK hK2 hd qe (by decide) (λhn h=>XG (en:=Qo) h qT (y:=(⟨((u15 5).o 0),(nn u15 5),t16⟩:Sl qb)) (vs:=[.slice ((u15 5).o 0) t16.length (nn u15 5)]) y_t18 0 (by simp) (by simp) rfl (by kernel_rfl))) (hloc:=λu u' h=>by refine ⟨?_,?_,?_,?_,?_⟩ <;> first | rfl | simp only [nn, h 5 (by decide)]))<|.nil) [1,5,11,12,13,27,29,900045,28,999998] λu15 a w' H=>?_
    refine Qq qd H (.v 25 (vI (qc (x9+1)))<|.v 13 (vI (qc (x9+1)))<|.nil) [1,5,11,12,13,27,29,900045,28,999998] λu19 a w' H=>?_
    rw [<- qeW (x:=x9) (l:=a0) ⟨b13.1,b13.2⟩ b3.2] at H
    exact ⟨k,Nat.lt_succ_self k,_,_,G,p_x8,c_x8,L_x8.length,(L_x8.set x9.toNat (⟨((u15 5).o 0),(nn u15 5),t16⟩:Sl qb)),by simp,(map_set h_x8 x9.toNat (⟨((u15 5).o 0),(nn u15 5),t16⟩:Sl qb)),H.toM _⟩
   ·rw [if_neg (nt c20)] at G
    refine Yx rfl ?_
    obtain rfl:=sj G
    replace H:=H.move (K:=qq p_x8 c_x8 L_x8) 900045 900043 (by kernel_rfl) (by intro _ _ h; cases h)
    exact ⟨p_x8,c_x8,L_x8.length,L_x8,rfl,h_x8,H.toM _⟩
theorem XK.calls (a0:Int)(a1:qb)(q0:List qb)(b_q0:Nat)(p_q0:Option Addr)(c_q0:Nat)(r:qb)(w:World)(hB:Xp [qy ql 2 p_q0 c_q0 q0 qa,Xf b_q0 [.slice p_q0 q0.length c_q0] 48] w)(G:XK a0 a1 q0=some r) :
  Calls Tryz.prog 124 #[vI a0,.agg #[vI a1.Lo,vI a1.Hi],vP b_q0 0] w λe w'=>e = .returned (.agg #[vI r.Lo,vI r.Hi])∧Below w.heap.size w w':=by
 obtain ⟨fr,hfr⟩:∃ fr:Nat->Prop,∀ j,fr j:=⟨λ_=>True,λ_=>trivial⟩
 have hBf:∀ j,w.heap.size<=j->fr j:=λj _=>hfr j
 refine QA (args:=[vI a0,.agg #[vI a1.Lo,vI a1.Hi],vP b_q0 0]) 23 [(24,qy ql 2 p_q0 c_q0 q0 qa),(23,Xf b_q0 [.slice p_q0 q0.length c_q0] 48)] (by
  intro x hx
  simp only [List.mem_cons,List.not_mem_nil,or_false] at hx
  rcases hx with rfl | rfl
  ·exact qv (qj hB.1) (λ_ _=>trivial) (by decide) _
  ·exact QH (hB.2.1 w (agree.refl _ _)) _) Tryz.func124 rfl λa H=>?_
 unfold XK at G
 refine qg qd H (.cons [4,25] (qn (λb=>vP b 0) (λu1=>[vI a1.Lo,vI a1.Hi]) 46 4 25)<|.cons [5,26] (qn (λb=>vP b 0) (λu1=>[vI 0,vI 0]) 46 5 26)<|.nil) [0,2,4,5,24,25,26,23] λu1 a w' H=>?_
 refine qs ?_
 refine qs ?_
 replace G:=gd G; obtain ⟨b3,G⟩:=G
 obtain ⟨t4,ht4,G⟩:=qO G
 have P5:=Xm (en:=qa) (l:=q0) (qj (H.at (K:=qy ql 2 p_q0 c_q0 q0 qa) 24 (by kernel_rfl))).2 qe
 obtain ⟨t6,ht6,G⟩:=qO G
 refine Qq qd H (.cons [9] (qf (.agg #[vI a1.Lo,vI a1.Hi]) 9 25 0 2 (nn u1 0) [vI a1.Lo,vI a1.Hi] 46)<|.cons [10] (QV (λu2=>.slice p_q0 q0.length c_q0) 10 23 (Xf b_q0 [.slice p_q0 q0.length c_q0] 48) b_q0 0 1 [.slice p_q0 q0.length c_q0] (λw h=>Za h))<|.v 11 (vI a0)<|.cons [12] (qr (λu2=>.pointer (some ⟨XR p_q0,XV p_q0+a0.toNat*2,none⟩)) 12 (hv:=λ_ _=>Qe (t:=48) (k:=.i64) (i:=a0) (p:=p_q0) (n:=q0.length) (cap:=c_q0) (x:=q0) P5 rfl b3 (by kernel_rfl)))<|.cons [13] (qL 24 (qy ql 2 p_q0 c_q0 q0 qa) (.agg #[vI t4.Lo,vI t4.Hi]) 13 λ_ w h=>Y4 qa (qj h).2 qe ht4 0 2 [vI t4.Lo,vI t4.Hi])<|.cons [14] (qm 44 _ _ 14 [] (λu2 w _=>Xs.calls a1 t4 t6 w ht6))<|.v 8 (.tuple #[.agg #[vI t6.1.Lo,vI t6.1.Hi],.bool t6.2])<|.v 15 (.agg #[vI t6.1.Lo,vI t6.1.Hi])<|.v 16 (.bool t6.2)<|.cons [6,27] (qn (λb=>vP b 0) (λu2=>[vI 0,vI 0]) 46 6 27)<|.cons [27] (QF (u':=λu2=>[(27,.blk (nn u2 9) [vI t6.1.Lo,vI t6.1.Hi] 46)]) (qK 27 0 (λu2=>(nn u2 9)) (λu2=>[vI 0,vI 0]) (λu2=>[vI t6.1.Lo,vI t6.1.Hi]) 46) (λ_=>by kernel_rfl))<|.v 7 (.bool t6.2)<|.nil) [0,2,5,6,7,24,26,27,23] λu2 a w' H=>?_
 refine qg qd H (.v 17 (.bool t6.2)<|.nil) [0,2,5,6,17,24,26,27,23] λu7 a w' H=>?_
 refine Qu H t6.2 (λc12=>?_) λc12=>?_
 ·rw [if_pos c12] at G
  refine qg qd H (.cons [18] (qf (.agg #[vI t6.1.Lo,vI t6.1.Hi]) 18 27 0 2 (nn u2 9) [vI t6.1.Lo,vI t6.1.Hi] 46)<|.cons [26] (qQ 26 0 (nn u1 1) [vI 0,vI 0] [vI t6.1.Lo,vI t6.1.Hi] 46 [vI t6.1.Lo,vI t6.1.Hi])<|.nil) [5,24,26,23] λu8 a w' H=>?_
  refine qB ?_
  obtain rfl:=sj G
  exact qY H _ 26 (nn u1 1) [vI t6.1.Lo,vI t6.1.Hi] 46 0 2
 ·rw [if_neg (nt c12)] at G
  refine q8 ?_
  refine qs ?_
  replace G:=gd G; obtain ⟨b10,G⟩:=G
  obtain ⟨t11,ht11,G⟩:=qO G
  refine Qq qd H (.cons [19] (QV (λu9=>.slice p_q0 q0.length c_q0) 19 23 (Xf b_q0 [.slice p_q0 q0.length c_q0] 48) b_q0 0 1 [.slice p_q0 q0.length c_q0] (λw h=>Za h))<|.v 20 (vI a0)<|.cons [21] (qL 24 (qy ql 2 p_q0 c_q0 q0 qa) (.pointer (some ⟨XR p_q0,XV p_q0+a0.toNat*2,none⟩)) 21 λ_ w h=>JT 48 .i64 a0 p_q0 q0.length c_q0 q0 qa (qj h).2 qe rfl b10)<|.cons [22] (qL 24 (qy ql 2 p_q0 c_q0 q0 qa) (.agg #[vI t11.Lo,vI t11.Hi]) 22 λ_ w h=>Y4 qa (qj h).2 qe ht11 0 2 [vI t11.Lo,vI t11.Hi])<|.cons [26] (qQ 26 0 (nn u1 1) [vI 0,vI 0] [vI t11.Lo,vI t11.Hi] 46 [vI t11.Lo,vI t11.Hi])<|.nil) [5,24,26,23] λu9 a w' H=>?_
  refine qB ?_
  obtain rfl:=sj G
  exact qY H _ 26 (nn u1 1) [vI t11.Lo,vI t11.Hi] 46 0 2
theorem Qm.calls (k0:Nat)(a0:List qb)(a1_0:List qb)(p_a0:Option Addr)(c_a0:Nat)(b_a1_0:Nat)(p_a1_0:Option Addr)(c_a1_0:Nat)(r:List qb)(w:World)(hB:Xp [qy ql 2 p_a0 c_a0 a0 qa,qy ql 2 p_a1_0 c_a1_0 a1_0 qa,Xf b_a1_0 [.slice p_a1_0 a1_0.length c_a1_0] 48] w)(G:Qm k0 a0 a1_0=some r) :
  Calls Tryz.prog 123 #[.slice p_a0 a0.length c_a0,.func (.func 124) #[] #[vP b_a1_0 0]] w λe w'=>∃ g:Gh,e = .returned (.slice (g.o 0) r.length (g.n 0))∧Zj (YR []) w w'∧Ye w.heap.size (YR []) (JS w.heap.size []) [λ_=>Ql 46 2 (g.o 0) (g.n 0) r qa] w':=by
 obtain ⟨fr,hfr,hBf⟩:=VT w []
 refine QA (args:=[.slice p_a0 a0.length c_a0,.func (.func 124) #[] #[vP b_a1_0 0]]) 27 [(27,qy ql 2 p_a0 c_a0 a0 qa),(29,qy ql 2 p_a1_0 c_a1_0 a1_0 qa),(28,Xf b_a1_0 [.slice p_a1_0 a1_0.length c_a1_0] 48)] (by
  intro x hx
  simp only [List.mem_cons,List.not_mem_nil,or_false] at hx
  rcases hx with rfl | rfl | rfl
  ·exact qv (qj hB.1) (λ_ _=>trivial) (by decide) _
  ·exact qv (qj hB.2.1) (λ_ _=>trivial) (by decide) _
  ·exact QH (hB.2.2.1 w (agree.refl _ _)) _) Tryz.func123 rfl λa H=>?_
 unfold Qm at G
 refine qg qd H (.v 4 (.slice none 0 0)<|.nil) [0,1,27,29,28] λu1 a w' H=>?_
 refine qs ?_
 replace G:=gd G; obtain ⟨b3,G⟩:=G
 refine Qq qd H (.v 8 (.slice p_a0 a0.length c_a0)<|.v 9 (vI (a0.length:Int))<|.cons [10,30] (Z8 [] (λu2=>[]) 46 2 (List.replicate (a0.length:Int).toNat (⟨0,0⟩:qb)).length ((List.replicate (a0.length:Int).toNat (⟨0,0⟩:qb)).flatMap qa) 10 30 (λ_=>.none) (λu2 w hF=>Yr (t:=48) (k:=.i64) (m:=(a0.length:Int)) (en:=qa) (z:=(⟨0,0⟩:qb)) qe JZ rfl b3 (by kernel_rfl)) (λ_=>.inl rfl))<|.cons [5] (qr (λu2=>.slice ((u2 2).o 0) ((List.replicate (a0.length:Int).toNat (⟨0,0⟩:qb)).length) (nn u2 2)) 5)<|.nil) [0,1,5,27,29,30,28] λu2 a w' H=>?_
 refine qs ?_
 obtain ⟨j5,hj5,G⟩:=qO G
 refine Xu (λa w'=>∃ (p_j4:Option Addr) (c_j4 np_j4:Nat),np_j4=j5.length∧RL w 27 [(5,sS p_j4 np_j4 c_j4),(29,qy ql 2 p_a1_0 c_a1_0 a1_0 qa),(900047,XP 46 2 p_j4 np_j4 c_j4 (j5.flatMap qa)),(28,Xf b_a1_0 [.slice p_a1_0 a1_0.length c_a1_0] 48)] a w') ?_ ?_
 ·clear H; rintro a w' ⟨p_j4,c_j4,_,rfl,H⟩
  refine qg qd H (.v 26 (.slice p_j4 j5.length c_j4)<|.v 4 (.slice p_j4 j5.length c_j4)<|.nil) [4,29,900047,28] λu6 a w' H=>?_
  refine qB ?_
  obtain rfl:=sj G
  obtain ⟨g,o0,n0⟩:=ZS p_j4 c_j4
  refine Qz H _ g _ _ _ fr [900047] [] (.slice p_j4 j5.length c_j4) [λ_=>Ql 46 2 p_j4 c_j4 j5 qa] (by simp only [Ql,o0,n0]) (by simp only [Ql,o0,n0]) hfr (.inl ⟨rfl,rfl⟩) (qk Qf qx) (by simp)
 ·clear G; replace G:=hj5; clear hj5
  refine qg qd H (.v 11 (.slice p_a0 a0.length c_a0)<|.v 12 (vI (a0.length:Int))<|.v 13 (vI 0)<|.nil) [1,5,11,12,13,27,29,30,28] λu7 a w' H=>?_
  refine qV ?_
  replace H:=H.move (K:=Ql 46 2 ((u2 2).o 0) (nn u2 2) (List.replicate (a0.length:Int).toNat (⟨0,0⟩:qb)) qa) 30 900048 (by kernel_rfl) (by intro _ _ h; cases h)
  refine XY (λm a w'=>∃ x8:List qb,∃ x9:Int,Qm.l10 k0 a0 a1_0 m x8 x9=some j5 ∧ ∃ (p_x8:Option Addr) (c_x8 np_x8:Nat),np_x8=x8.length∧RL w 27 [(1,.slot true (.func (.func 124) #[] #[vP b_a1_0 0])),(5,sS p_x8 np_x8 c_x8),(11,sS p_a0 a0.length c_a0),(12,(sI (a0.length:Int))),(13,sI x9),(27,qy ql 2 p_a0 c_a0 a0 qa),(29,qy ql 2 p_a1_0 c_a1_0 a1_0 qa),(900048,XP 46 2 p_x8 np_x8 c_x8 (x8.flatMap qa)),(28,Xf b_a1_0 [.slice p_a1_0 a1_0.length c_a1_0] 48)] a w') k0 ⟨_,_,G,((u2 2).o 0),(nn u2 2),(List.replicate (a0.length:Int).toNat (⟨0,0⟩:qb)).length,rfl,H.toM _⟩ ?_
  clear G H
  rintro (_ | k) a w' ⟨x8,x9,G,p_x8,c_x8,_,rfl,H⟩
  ·exact absurd G (by unfold Qm.l10; exact λh=>by cases h)
  ·unfold Qm.l10 at G
   refine qg qd H (.v 14 (.bool (decide (x9<(a0.length:Int))))<|.nil) [1,5,11,12,13,14,27,29,900048,28] λu11 a w' H=>?_
   refine qs ?_
   refine Qu H (decide (x9<(a0.length:Int))) (λc20=>?_) λc20=>?_
   ·rw [if_pos c20] at G
    refine q8 ?_
    refine qs ?_
    refine qV ?_
    refine qs ?_
    replace G:=gd G; obtain ⟨b13,G⟩:=G
    obtain ⟨t14,ht14,G⟩:=qO G
    refine Qq qd H (.v 15 (vI x9)<|.cons [16] (qL 27 (qy ql 2 p_a0 c_a0 a0 qa) (.pointer (some ⟨XR p_a0,XV p_a0+x9.toNat*2,none⟩)) 16 λ_ w h=>JT 48 .i64 x9 p_a0 a0.length c_a0 a0 qa (qj h).2 qe rfl b13)<|.cons [17] (qL 27 (qy ql 2 p_a0 c_a0 a0 qa) (.agg #[vI t14.Lo,vI t14.Hi]) 17 λ_ w h=>Y4 qa (qj h).2 qe ht14 0 2 [vI t14.Lo,vI t14.Hi])<|.cons [7,31] (qn (λb=>vP b 0) (λu12=>[vI 0,vI 0]) 46 7 31)<|.v 6 (vI x9)<|.cons [31] (QF (u':=λu12=>[(31,.blk (nn u12 3) [vI t14.Lo,vI t14.Hi] 46)]) (qK 31 0 (λu12=>(nn u12 3)) (λu12=>[vI 0,vI 0]) (λu12=>[vI t14.Lo,vI t14.Hi]) 46) (λ_=>by kernel_rfl))<|.nil) [1,5,6,7,11,12,13,27,29,31,900048,28] λu12 a w' H=>?_
    obtain ⟨t16,ht16,G⟩:=qO G
    replace G:=gd G; obtain ⟨b17,G⟩:=G
    obtain ⟨t18,ht18,G⟩:=qO G
    refine Qq qd H (.v 18 (.slice p_x8 x8.length c_x8)<|.v 19 (vI x9)<|.v 20 (.func (.func 124) #[] #[vP b_a1_0 0])<|.v 21 (vI x9)<|.cons [22] (qf (.agg #[vI t14.Lo,vI t14.Hi]) 22 31 0 2 (nn u12 3) [vI t14.Lo,vI t14.Hi] 46)<|.cons [23] (Q6 [29,28] (λu15=>[qy ql 2 p_a1_0 c_a1_0 a1_0 qa,Xf b_a1_0 [.slice p_a1_0 a1_0.length c_a1_0] 48]) 124 _ _ 23 (λu15 w hF=>XK.calls x9 t14 a1_0 b_a1_0 p_a1_0 c_a1_0 t16 w ⟨(JU (qj hF.1)),(QH (hF.2.1 w (agree.refl _ _)) 0).2.1,trivial⟩ ht16))<|.cons [24] (qL 900048 (Ql 46 2 p_x8 c_x8 x8 qa) (.pointer (some ⟨XR p_x8,XV p_x8+x9.toNat*2,none⟩)) 24 λ_ w h=>JT 48 .i64 x9 p_x8 x8.length c_x8 x8 qa (qH (Qx h)).2 qe rfl b17)<|.cons [900048,900048] (Xt [] [] (λu15=>[]) 900048 (λu15=>Ql 46 2 p_x8 c_x8 x8 qa) none (λu15 g=>.nilFunc) (λu15 g=>XP 46 2 p_x8 x8.length c_x8 ((x8.set x9.toNat t16).flatMap qa)) (λu15 w hF hK=>ZG (XG (Qx hK) qe (y:=t16) (vs:=[vI t16.Lo,vI t16.Hi]) ht18 0 (by simp) (by simp) rfl (by kernel_rfl))))<|.nil) [1,5,11,12,13,27,29,900048,28] λu15 a w' H=>?_
    refine Qq qd H (.v 25 (vI (qc (x9+1)))<|.v 13 (vI (qc (x9+1)))<|.nil) [1,5,11,12,13,27,29,900048,28] λu19 a w' H=>?_
    exact ⟨k,Nat.lt_succ_self k,_,_,G,p_x8,c_x8,x8.length,by simp,H.toM _⟩
   ·rw [if_neg (nt c20)] at G
    refine Yx rfl ?_
    obtain rfl:=sj G
    replace H:=H.move (K:=Ql 46 2 p_x8 c_x8 x8 qa) 900048 900047 (by kernel_rfl) (by intro _ _ h; cases h)
    exact ⟨p_x8,c_x8,x8.length,rfl,H.toM _⟩
theorem X1.calls (k0:Nat)(a0:List qb)(q0:List qb)(p_a0:Option Addr)(c_a0:Nat)(b_q0:Nat)(p_q0:Option Addr)(c_q0:Nat)(r:List qb)(w:World)(hB:Xp [qy ql 2 p_a0 c_a0 a0 qa,qy ql 2 p_q0 c_q0 q0 qa,Xf b_q0 [.slice p_q0 q0.length c_q0] 48] w)(G:X1 k0 a0 q0=some r) :
  Calls Tryz.prog 122 #[.slice p_a0 a0.length c_a0,vP b_q0 0] w λe w'=>∃ g:Gh,e = .returned (.slice (g.o 0) r.length (g.n 0))∧Zj (YR []) w w'∧Ye w.heap.size (YR []) (JS w.heap.size []) [λ_=>Ql 46 2 (g.o 0) (g.n 0) r qa] w':=by
 obtain ⟨fr,hfr,hBf⟩:=VT w []
 refine QA (args:=[.slice p_a0 a0.length c_a0,vP b_q0 0]) 7 [(7,qy ql 2 p_a0 c_a0 a0 qa),(9,qy ql 2 p_q0 c_q0 q0 qa),(8,Xf b_q0 [.slice p_q0 q0.length c_q0] 48)] (by
  intro x hx
  simp only [List.mem_cons,List.not_mem_nil,or_false] at hx
  rcases hx with rfl | rfl | rfl
  ·exact qv (qj hB.1) (λ_ _=>trivial) (by decide) _
  ·exact qv (qj hB.2.1) (λ_ _=>trivial) (by decide) _
  ·exact QH (hB.2.2.1 w (agree.refl _ _)) _) Tryz.func122 rfl λa H=>?_
 unfold X1 at G
 refine qg qd H (.v 3 (.slice none 0 0)<|.nil) [0,1,7,9,8] λu1 a w' H=>?_
 obtain ⟨t3,ht3,G⟩:=qO G
 refine qg qd H (.v 4 (.slice p_a0 a0.length c_a0)<|.v 5 (.func (.func 124) #[] #[vP b_q0 0])<|.cons [6,10] (Qp false fr [] [7,9,8] (λu2=>[qy ql 2 p_a0 c_a0 a0 qa,qy ql 2 p_q0 c_q0 q0 qa,Xf b_q0 [.slice p_q0 q0.length c_q0] 48]) [] (λu2=>[]) 123 _ _ _ _ _ [10] 6 (λu2 w hB hF hM=>Qm.calls k0 a0 q0 p_a0 c_a0 b_q0 p_q0 c_q0 t3 w hB ht3) (λu2 w hF=>⟨⟨qP (qj hF.1) (λj h=>⟨_,(.head _),h⟩),qP (qj hF.2.1) (λj h=>⟨_,(.tail _ (.head _)),h⟩),Zf (hF.2.2.1 w (agree.refl _ _)) (.tail _ (.tail _ (.head _))) rfl,trivial⟩,trivial⟩) (λu2 g=>(qk Qf qx)) (.inr (λu2 g=>(Qg trivial (λK h=>by cases h)))) (λh=>by cases h))<|.cons [3] (qr (λu2=>.slice ((u2 2).o 0) t3.length (nn u2 2)) 3)<|.nil) [3,9,10,8] λu2 a w' H=>?_
 refine qB ?_
 obtain rfl:=sj G
 obtain ⟨g,o0,n0⟩:=ZS ((u2 2).o 0) (nn u2 2)
 refine Qz H _ g _ _ _ fr [10] [] (.slice ((u2 2).o 0) t3.length (nn u2 2)) [λ_=>Ql 46 2 ((u2 2).o 0) (nn u2 2) t3 qa] (by simp only [Ql,o0,n0]) (by simp only [Ql,o0,n0]) hfr (.inl ⟨rfl,rfl⟩) (qk Qf qx) (by simp)
theorem YB.calls (k0:Nat)(a0:QE)(a1:List qb)(a2:List qb)(a3:JV)(p_a0_L:Option Addr)(c_a0_L:Nat)(p_a0_Out:Option Addr)(c_a0_Out:Nat)(p_a1:Option Addr)(c_a1:Nat)(p_a2:Option Addr)(c_a2:Nat)(r:List qb)(w:World)(hB:Xp [qy ql 5 p_a0_L c_a0_L a0.L qi,qy ql 1 p_a0_Out c_a0_Out a0.Out q6,qy ql 2 p_a1 c_a1 a1 qa,qy ql 2 p_a2 c_a2 a2 qa,gk] w)(G:YB k0 a0 a1 a2 a3=some r) :
  Calls Tryz.prog 80 #[.agg #[vI a0.N,.slice p_a0_L a0.L.length c_a0_L,.slice p_a0_Out a0.Out.length c_a0_Out],.slice p_a1 a1.length c_a1,.slice p_a2 a2.length c_a2,.agg #[vI a3.T,vI a3.H,vI a3.Part.Lo,vI a3.Part.Hi,vI a3.Order]] w λe w'=>∃ g:Gh,e = .returned (.slice (g.o 0) r.length (g.n 0))∧Zj (YR []) w w'∧Ye w.heap.size (YR []) (JS w.heap.size []) [λ_=>Ql 46 2 (g.o 0) (g.n 0) r qa] w':=by
 obtain ⟨fr,hfr,hBf⟩:=VT w []
 refine QA (args:=[.agg #[vI a0.N,.slice p_a0_L a0.L.length c_a0_L,.slice p_a0_Out a0.Out.length c_a0_Out],.slice p_a1 a1.length c_a1,.slice p_a2 a2.length c_a2,.agg #[vI a3.T,vI a3.H,vI a3.Part.Lo,vI a3.Part.Hi,vI a3.Order]]) 38 [(38,qy ql 5 p_a0_L c_a0_L a0.L qi),(39,qy ql 1 p_a0_Out c_a0_Out a0.Out q6),(40,qy ql 2 p_a1 c_a1 a1 qa),(41,qy ql 2 p_a2 c_a2 a2 qa),(999999,gk)] (by
  intro x hx
  simp only [List.mem_cons,List.not_mem_nil,or_false] at hx
  rcases hx with rfl | rfl | rfl | rfl | rfl
  ·exact qv (qj hB.1) (λ_ _=>trivial) (by decide) _
  ·exact qv (qj hB.2.1) (λ_ _=>trivial) (by decide) _
  ·exact qv (qj hB.2.2.1) (λ_ _=>trivial) (by decide) _
  ·exact qv (qj hB.2.2.2.1) (λ_ _=>trivial) (by decide) _
  ·exact ⟨⟨_,_,rfl⟩,hB.2.2.2.2.1,Yc (Qy hB.2.2.2.2.1)⟩) Tryz.func80 rfl λa H=>?_
 unfold YB at G
 refine qg qd H (.cons [4,42] (qn (λb=>vP b 0) (λu1=>[vI a0.N,.slice p_a0_L a0.L.length c_a0_L,.slice p_a0_Out a0.Out.length c_a0_Out]) 38 4 42)<|.cons [7,43] (qn (λb=>vP b 0) (λu1=>[vI a3.T,vI a3.H,vI a3.Part.Lo,vI a3.Part.Hi,vI a3.Order]) 166 7 43)<|.v 8 (.slice none 0 0)<|.nil) [1,2,4,7,38,39,40,41,42,43,999999] λu1 a w' H=>?_
 obtain ⟨t3,ht3,G⟩:=qO G
 refine qg qd H (.cons [11] (qf (.agg #[vI a0.N,.slice p_a0_L a0.L.length c_a0_L,.slice p_a0_Out a0.Out.length c_a0_Out]) 11 42 0 3 (nn u1 0) [vI a0.N,.slice p_a0_L a0.L.length c_a0_L,.slice p_a0_Out a0.Out.length c_a0_Out] 38)<|.v 12 (.slice p_a2 a2.length c_a2)<|.v 13 (vP (nn u1 1) 0)<|.cons [14] (qf (vI a3.T) 14 43 0 1 (nn u1 1) [vI a3.T,vI a3.H,vI a3.Part.Lo,vI a3.Part.Hi,vI a3.Order] 166)<|.v 15 (vP (nn u1 1) 1)<|.cons [16] (qf (vI a3.H) 16 43 1 1 (nn u1 1) [vI a3.T,vI a3.H,vI a3.Part.Lo,vI a3.Part.Hi,vI a3.Order] 166)<|.v 17 (.agg #[vI a3.T,vI a3.H])<|.v 18 (vP (nn u1 1) 4)<|.cons [19] (qf (vI a3.Order) 19 43 4 1 (nn u1 1) [vI a3.T,vI a3.H,vI a3.Part.Lo,vI a3.Part.Hi,vI a3.Order] 166)<|.cons [20,44] (Qp false fr [] [38,39,41,999999] (λu2=>[qy ql 5 p_a0_L c_a0_L a0.L qi,qy ql 1 p_a0_Out c_a0_Out a0.Out q6,qy ql 2 p_a2 c_a2 a2 qa,gk]) [] (λu2=>[]) 97 _ _ _ _ _ [44] 20 (λu2 w hB hF hM=>YY.calls k0 (⟨a0.N,a0.L,a0.Out⟩:QE) a2 (⟨a3.T,a3.H⟩:Q0) a3.Order p_a0_L c_a0_L p_a0_Out c_a0_Out p_a2 c_a2 t3 w hB ht3) (λu2 w hF=>⟨⟨qP (qj hF.1) (λj h=>⟨_,(.head _),h⟩),qP (qj hF.2.1) (λj h=>⟨_,(.tail _ (.head _)),h⟩),qP (qj hF.2.2.1) (λj h=>⟨_,(.tail _ (.tail _ (.head _))),h⟩),Je hF.2.2.2.1 (.tail _ (.tail _ (.tail _ (.head _)))),trivial⟩,trivial⟩) (λu2 g=>(qk Qf qx)) (.inr (λu2 g=>(Qg trivial (λK h=>by cases h)))) (λh=>by cases h))<|.cons [9,45] (qn (λb=>vP b 0) (λu2=>[.slice none 0 0]) 48 9 45)<|.cons [45] (QF (u':=λu2=>[(45,.blk (nn u2 10) [.slice ((u2 9).o 0) t3.length (nn u2 9)] 48)]) (qK 45 0 (λu2=>(nn u2 10)) (λu2=>[.slice none 0 0]) (λu2=>[.slice ((u2 9).o 0) t3.length (nn u2 9)]) 48) (λ_=>by kernel_rfl))<|.nil) [1,2,4,7,9,38,39,40,41,42,43,44,45,999999] λu2 a w' H=>?_
 refine qs ?_
 obtain ⟨t5,ht5,G⟩:=qO G
 obtain ⟨t6,ht6,G⟩:=qO G
 obtain ⟨t7,ht7,G⟩:=qO G
 refine Jw qd H (.cons [21] (qf (.agg #[vI a0.N,.slice p_a0_L a0.L.length c_a0_L,.slice p_a0_Out a0.Out.length c_a0_Out]) 21 42 0 3 (nn u1 0) [vI a0.N,.slice p_a0_L a0.L.length c_a0_L,.slice p_a0_Out a0.Out.length c_a0_Out] 38)<|.v 22 (.slice p_a1 a1.length c_a1)<|.v 23 (vP (nn u1 1) 0)<|.cons [24] (qf (vI a3.T) 24 43 0 1 (nn u1 1) [vI a3.T,vI a3.H,vI a3.Part.Lo,vI a3.Part.Hi,vI a3.Order] 166)<|.cons [25] (qm 46 _ _ 25 [] (λu4 w _=>YE.calls a3.T t5 w ht5))<|.v 26 (vP (nn u1 1) 4)<|.cons [27] (qf (vI a3.Order) 27 43 4 1 (nn u1 1) [vI a3.T,vI a3.H,vI a3.Part.Lo,vI a3.Part.Hi,vI a3.Order] 166)<|.cons [28,46] (Qp false fr [] [38,39,40,999999] (λu4=>[qy ql 5 p_a0_L c_a0_L a0.L qi,qy ql 1 p_a0_Out c_a0_Out a0.Out q6,qy ql 2 p_a1 c_a1 a1 qa,gk]) [] (λu4=>[]) 99 _ _ _ _ _ [46] 28 (λu4 w hB hF hM=>Xv.calls k0 (⟨a0.N,a0.L,a0.Out⟩:QE) a1 t5 a3.Order p_a0_L c_a0_L p_a0_Out c_a0_Out p_a1 c_a1 t6 w hB ht6) (λu4 w hF=>⟨⟨qP (qj hF.1) (λj h=>⟨_,(.head _),h⟩),qP (qj hF.2.1) (λj h=>⟨_,(.tail _ (.head _)),h⟩),qP (qj hF.2.2.1) (λj h=>⟨_,(.tail _ (.tail _ (.head _))),h⟩),Je hF.2.2.2.1 (.tail _ (.tail _ (.tail _ (.head _)))),trivial⟩,trivial⟩) (λu4 g=>(qk Jk qx)) (.inr (λu4 g=>(Qg trivial (λK h=>by cases h)))) (λh=>by cases h))<|.v 29 (.func (.func 100) #[] #[vP (nn u2 10) 0])<|.cons [30,46,47] (Qp false fr [7] [44,45] (λu4=>[Ql 46 2 ((u2 9).o 0) (nn u2 9) t3 qa,.blk (nn u2 10) [.slice ((u2 9).o 0) t3.length (nn u2 9)] 48]) [46] (λu4=>[ns_en_TIntervalg (u4 7) 0 t6]) 98 _ _ _ _ _ [47] 30 (λu4 w hB hF hM=>Qk.calls k0 t6 t3 ((u4 7).o 0) (nn u4 7) (dlgd_S_TInterval (u4 7) 0 t6) (nn u2 10) ((u2 9).o 0) (nn u2 9) t7 w (J5 ZI (u4 7) 0 t6) hB hM ht7) (λu4 w hF=>⟨⟨qP (qH (Qx hF.1)) (λj h=>⟨_,(.head _),(YC h)⟩),Zf hF.2.1 (.tail _ (.head _)) rfl,trivial⟩,trivial⟩) (λu4 g=>(qk Jk qx)) (.inr (λu4 g=>(Qg trivial (λK h=>by cases h)))) (λh=>by cases h) (hloc:=λu u' h=>by refine ⟨?_,?_,?_,?_,?_,?_⟩ <;> first | rfl | simp only [nn, h 7 (by decide)]))<|.cons [10] (qr (λu4=>slgd_S_TInterval (u4 9) 0 t7) 10)<|.nil) (by kernel_rfl) λu4 a w' H=>?_
 replace H:=H.kp [2,7,10,41,43,47,999999]
 refine qs ?_
 obtain ⟨t9,ht9,G⟩:=qO G
 obtain ⟨t10,ht10,G⟩:=qO G
 refine Jw qd H (.v 31 (.slice p_a2 a2.length c_a2)<|.cons [32,48] (qen 101 (λu8=>#[.slice p_a2 a2.length c_a2]) (λb1=>.func (.func 122) #[] #[vP b1 0]) [.slice p_a2 a2.length c_a2] 48 32 48 (λ_ w=>step_restrictTo.calls a2 p_a2 a2.length c_a2 w))<|.v 33 (slgd_S_TInterval (u4 9) 0 t7)<|.v 34 (vP (nn u1 1) 2)<|.cons [35] (qf (.agg #[vI a3.Part.Lo,vI a3.Part.Hi]) 35 43 2 2 (nn u1 1) [vI a3.T,vI a3.H,vI a3.Part.Lo,vI a3.Part.Hi,vI a3.Order] 166)<|.cons [36,49] (Qp false fr [] [47,999999] (λu8=>[ns_en_TIntervalg (u4 9) 0 t7,gk]) [] (λu8=>[]) 102 _ _ _ _ _ [49] 36 (λu8 w hB hF hM=>ZH.calls k0 t7 (⟨a3.Part.Lo,a3.Part.Hi⟩:qb) ((u4 9).o 0) (nn u4 9) (dlgd_S_TInterval (u4 9) 0 t7) t9 w (J5 ZI (u4 9) 0 t7) hB ht9) (λu8 w hF=>⟨⟨qP (Ym hF.1).row (λj h=>⟨_,(.head _),(qb6 h)⟩),Vq (Ym hF.1).all (λj h=>⟨_,(.head _),(qbO h)⟩),Je hF.2.1 (.tail _ (.head _)),trivial⟩,trivial⟩) (λu8 g=>(qk Qf qx)) (.inr (λu8 g=>(Qg trivial (λK h=>by cases h)))) (λh=>by cases h))<|.cons [37,50] (Qp false fr [1,5] [49,41,48] (λu8=>[Ql 46 2 ((u8 5).o 0) (nn u8 5) t9 qa,qy ql 2 p_a2 c_a2 a2 qa,.blk (nn u8 1) [.slice p_a2 a2.length c_a2] 48]) [] (λu8=>[]) 122 _ _ _ _ _ [50] 37 (λu8 w hB hF hM=>X1.calls k0 t9 a2 ((u8 5).o 0) (nn u8 5) (nn u8 1) p_a2 c_a2 t10 w hB ht10) (λu8 w hF=>⟨⟨qP (qH (Qx hF.1)) (λj h=>⟨_,(.head _),(YC h)⟩),qP (qj hF.2.1) (λj h=>⟨_,(.tail _ (.head _)),h⟩),Zf hF.2.2.1 (.tail _ (.tail _ (.head _))) rfl,trivial⟩,trivial⟩) (λu8 g=>(qk Qf qx)) (.inr (λu8 g=>(Qg trivial (λK h=>by cases h)))) (λh=>by cases h) (hloc:=λu u' h=>by refine ⟨?_,?_,?_,?_,?_,?_⟩ <;> first | rfl | simp only [nn, h 1 (by decide),h 5 (by decide)]))<|.cons [8] (qr (λu8=>.slice ((u8 6).o 0) t10.length (nn u8 6)) 8)<|.nil) (by kernel_rfl) λu8 a w' H=>?_
 replace H:=H.kp [8,50,999999]
 refine qB ?_
 obtain rfl:=sj G
 obtain ⟨g,o0,n0⟩:=ZS ((u8 6).o 0) (nn u8 6)
 refine Qz H _ g _ _ _ fr [50] [] (.slice ((u8 6).o 0) t10.length (nn u8 6)) [λ_=>Ql 46 2 ((u8 6).o 0) (nn u8 6) t10 qa] (by simp only [Ql,o0,n0]) (by simp only [Ql,o0,n0]) hfr (.inl ⟨rfl,rfl⟩) (qk Qf qx) (by simp)
theorem ZJ.calls (k0:Nat)(a0:qW)(p_a0_From:Option Addr)(c_a0_From:Nat)(p_a0_Pre:Option Addr)(c_a0_Pre:Nat)(p_a0_Tube:Option Addr)(c_a0_Tube:Nat)(p_a0_To:Option Addr)(c_a0_To:Nat)(r:qW×Bool)(w:World)(hF:Xp [qy ql 2 p_a0_From c_a0_From a0.From qa,qy ql 2 p_a0_Pre c_a0_Pre a0.Pre qa,qy ql 2 p_a0_Tube c_a0_Tube a0.Tube qa,qy ql 2 p_a0_To c_a0_To a0.To qa] w)(G:ZJ k0 a0=some r) :
  Calls Tryz.prog 81 #[.agg #[vI a0.T,vI a0.H,.slice p_a0_From a0.From.length c_a0_From,.slice p_a0_Pre a0.Pre.length c_a0_Pre,.slice p_a0_Tube a0.Tube.length c_a0_Tube,.slice p_a0_To a0.To.length c_a0_To]] w λe w'=>∃ g:Gh,e = .returned (.tuple #[.agg #[vI r.1.T,vI r.1.H,.slice (g.o 0) r.1.From.length (g.n 0),.slice (g.o 1) r.1.Pre.length (g.n 1),.slice (g.o 2) r.1.Tube.length (g.n 2),.slice (g.o 3) r.1.To.length (g.n 3)],.bool r.2])∧Zj (YR []) w w'∧Ye w.heap.size (YR []) (JS w.heap.size [qy ql 2 p_a0_From c_a0_From a0.From qa,qy ql 2 p_a0_Pre c_a0_Pre a0.Pre qa,qy ql 2 p_a0_Tube c_a0_Tube a0.Tube qa,qy ql 2 p_a0_To c_a0_To a0.To qa]) [λfr=>YI fr 2 (g.o 0) r.1.From.length (g.n 0) (r.1.From.flatMap qa),λfr=>YI fr 2 (g.o 1) r.1.Pre.length (g.n 1) (r.1.Pre.flatMap qa),λfr=>YI fr 2 (g.o 2) r.1.Tube.length (g.n 2) (r.1.Tube.flatMap qa),λfr=>YI fr 2 (g.o 3) r.1.To.length (g.n 3) (r.1.To.flatMap qa)] w':=by
 obtain ⟨fr,hfr,hBf⟩:=VT w [qy ql 2 p_a0_From c_a0_From a0.From qa,qy ql 2 p_a0_Pre c_a0_Pre a0.Pre qa,qy ql 2 p_a0_Tube c_a0_Tube a0.Tube qa,qy ql 2 p_a0_To c_a0_To a0.To qa]
 refine QA (args:=[.agg #[vI a0.T,vI a0.H,.slice p_a0_From a0.From.length c_a0_From,.slice p_a0_Pre a0.Pre.length c_a0_Pre,.slice p_a0_Tube a0.Tube.length c_a0_Tube,.slice p_a0_To a0.To.length c_a0_To]]) 14 [(14,qy fr 2 p_a0_From c_a0_From a0.From qa),(15,qy fr 2 p_a0_Pre c_a0_Pre a0.Pre qa),(16,qy fr 2 p_a0_Tube c_a0_Tube a0.Tube qa),(17,qy fr 2 p_a0_To c_a0_To a0.To qa)] (by
  intro x hx
  simp only [List.mem_cons,List.not_mem_nil,or_false] at hx
  rcases hx with rfl | rfl | rfl | rfl
  ·exact qv (qj hF.1) (λj h=>by rw [hfr]; exact .inr ⟨_,(.head _),h⟩) (by decide) _
  ·exact qv (qj hF.2.1) (λj h=>by rw [hfr]; exact .inr ⟨_,(.tail _ (.head _)),h⟩) (by decide) _
  ·exact qv (qj hF.2.2.1) (λj h=>by rw [hfr]; exact .inr ⟨_,(.tail _ (.tail _ (.head _))),h⟩) (by decide) _
  ·exact qv (qj hF.2.2.2.1) (λj h=>by rw [hfr]; exact .inr ⟨_,(.tail _ (.tail _ (.tail _ (.head _)))),h⟩) (by decide) _) Tryz.func81 rfl λa H=>?_
 unfold ZJ at G
 refine qg qd H (.cons [1,18] (qn (λb=>vP b 0) (λu1=>[vI a0.T,vI a0.H,.slice p_a0_From a0.From.length c_a0_From,.slice p_a0_Pre a0.Pre.length c_a0_Pre,.slice p_a0_Tube a0.Tube.length c_a0_Tube,.slice p_a0_To a0.To.length c_a0_To]) 63 1 18)<|.cons [2,19] (qn (λb=>vP b 0) (λu1=>[vI 0,vI 0,.slice none 0 0,.slice none 0 0,.slice none 0 0,.slice none 0 0]) 63 2 19)<|.v 3 (.bool false)<|.nil) [1,2,14,15,16,17,18,19] λu1 a w' H=>?_
 refine qs ?_
 obtain ⟨t3,ht3,G⟩:=qO G
 obtain ⟨t4,ht4,G⟩:=qO G
 refine qg qd H (.v 4 (vP (nn u1 0) 4)<|.cons [5] (qf (.slice p_a0_Tube a0.Tube.length c_a0_Tube) 5 18 4 1 (nn u1 0) [vI a0.T,vI a0.H,.slice p_a0_From a0.From.length c_a0_From,.slice p_a0_Pre a0.Pre.length c_a0_Pre,.slice p_a0_Tube a0.Tube.length c_a0_Tube,.slice p_a0_To a0.To.length c_a0_To] 63)<|.cons [6] (Q6 [16] (λu2=>[qy fr 2 p_a0_Tube c_a0_Tube a0.Tube qa]) 84 _ _ 6 (λu2 w hF=>Q9.calls k0 a0.Tube p_a0_Tube c_a0_Tube t3 w ⟨(JU (qj hF.1)),trivial⟩ ht3))<|.v 7 (.bool t3)<|.cons [8] (qE (λu2=>vP (nn u1 0) 5) (λu2=>(t3==false)) [true] 8)<|.cons [9] (YL (λu2=>.slice p_a0_To a0.To.length c_a0_To) (λu2=>(t3==false)) [false] 9 18 5 1 (λu2=>(nn u1 0)) (λu2=>[vI a0.T,vI a0.H,.slice p_a0_From a0.From.length c_a0_From,.slice p_a0_Pre a0.Pre.length c_a0_Pre,.slice p_a0_Tube a0.Tube.length c_a0_Tube,.slice p_a0_To a0.To.length c_a0_To]) 63)<|.cons [10] (WU [17] (λu2=>[qy fr 2 p_a0_To c_a0_To a0.To qa]) 84 (λu2=>#[.slice p_a0_To a0.To.length c_a0_To,.func (.func 21) #[] #[]]) (.bool t4) (λu2=>(t3==false)) [true,false,true] 10 (λu2 w hg hF=>Q9.calls k0 a0.To p_a0_To c_a0_To t4 w ⟨(JU (qj hF.1)),trivial⟩ (ifp ht4 hg)))<|.cons [11] (Zx 7 10 (λu2=>true) (λu2=>true) (λu2=>t3) (λu2=>t4) 11)<|.nil) [1,2,11,14,15,16,17,18,19] λu2 a w' H=>?_
 refine Qu H (t3||t4) (λc7=>?_) λc7=>?_
 ·rw [if_pos c7] at G
  refine qg qd H (.v 12 (.agg #[vI 0,vI 0,.slice none 0 0,.slice none 0 0,.slice none 0 0,.slice none 0 0])<|.cons [19] (qQ 19 0 (nn u1 1) [vI 0,vI 0,.slice none 0 0,.slice none 0 0,.slice none 0 0,.slice none 0 0] [vI 0,vI 0,.slice none 0 0,.slice none 0 0,.slice none 0 0,.slice none 0 0] 63 [vI 0,vI 0,.slice none 0 0,.slice none 0 0,.slice none 0 0,.slice none 0 0])<|.v 3 (.bool false)<|.nil) [2,3,19] λu5 a w' H=>?_
  refine qB ?_
  obtain rfl:=sj G
  replace H:=H.nil_row 20 46 2
  replace H:=H.demote fr 20 46 2 none 0 0 (([]:List qb).flatMap qa) (by kernel_rfl) (by decide) hBf
  replace H:=H.nil_row 21 46 2
  replace H:=H.demote fr 21 46 2 none 0 0 (([]:List qb).flatMap qa) (by kernel_rfl) (by decide) hBf
  replace H:=H.nil_row 22 46 2
  replace H:=H.demote fr 22 46 2 none 0 0 (([]:List qb).flatMap qa) (by kernel_rfl) (by decide) hBf
  replace H:=H.nil_row 23 46 2
  replace H:=H.demote fr 23 46 2 none 0 0 (([]:List qb).flatMap qa) (by kernel_rfl) (by decide) hBf
  obtain ⟨g,o0,n0,o1,n1,o2,n2,o3,n3⟩:∃ g:Gh,g.o 0=none∧g.n 0=0∧g.o 1=none∧g.n 1=0∧g.o 2=none∧g.n 2=0∧g.o 3=none∧g.n 3=0:=⟨⟨λi=>[0,0,0,0].getD i 0,λi=>[none,none,none,none].getD i none,λi=>([⟨Unit,()⟩,⟨Unit,()⟩,⟨Unit,()⟩,⟨Unit,()⟩]:List ((T:Type)×T)).getD i ⟨Unit,()⟩⟩,rfl,rfl,rfl,rfl,rfl,rfl,rfl,rfl⟩
  refine Qz H _ g _ _ _ fr [20,21,22,23] [(19,⟨(nn u1 1),[vI 0,vI 0,.slice none 0 0,.slice none 0 0,.slice none 0 0,.slice none 0 0],0,6⟩)] (.tuple #[.agg #[vI 0,vI 0,.slice none 0 0,.slice none 0 0,.slice none 0 0,.slice none 0 0],.bool false]) [λfr=>YI fr 2 none 0 0 (([]:List qb).flatMap qa),λfr=>YI fr 2 none 0 0 (([]:List qb).flatMap qa),λfr=>YI fr 2 none 0 0 (([]:List qb).flatMap qa),λfr=>YI fr 2 none 0 0 (([]:List qb).flatMap qa)] (by simp only [Ql,o0,n0,o1,n1,o2,n2,o3,n3,List.length_set,List.length_cons,List.length_nil,Nat.zero_add,Nat.reduceAdd]) (by simp only [Ql,o0,n0,o1,n1,o2,n2,o3,n3,List.length_set,List.length_cons,List.length_nil,Nat.zero_add,Nat.reduceAdd]) hfr (.inl ⟨rfl,rfl⟩) (qk (QP (by decide)) (qk (QP (by decide)) (qk (QP (by decide)) (qk (QP (by decide)) qx)))) (by intro p hp; simp only [List.mem_cons,List.not_mem_nil,or_false] at hp; rcases hp with rfl; exact ⟨⟨63,by kernel_rfl⟩,by kernel_rfl⟩)
 ·rw [if_neg (nt c7)] at G
  refine q8 ?_
  refine qg qd H (.cons [13] (qf (.agg #[vI a0.T,vI a0.H,.slice p_a0_From a0.From.length c_a0_From,.slice p_a0_Pre a0.Pre.length c_a0_Pre,.slice p_a0_Tube a0.Tube.length c_a0_Tube,.slice p_a0_To a0.To.length c_a0_To]) 13 18 0 6 (nn u1 0) [vI a0.T,vI a0.H,.slice p_a0_From a0.From.length c_a0_From,.slice p_a0_Pre a0.Pre.length c_a0_Pre,.slice p_a0_Tube a0.Tube.length c_a0_Tube,.slice p_a0_To a0.To.length c_a0_To] 63)<|.cons [19] (qQ 19 0 (nn u1 1) [vI 0,vI 0,.slice none 0 0,.slice none 0 0,.slice none 0 0,.slice none 0 0] [vI a0.T,vI a0.H,.slice p_a0_From a0.From.length c_a0_From,.slice p_a0_Pre a0.Pre.length c_a0_Pre,.slice p_a0_Tube a0.Tube.length c_a0_Tube,.slice p_a0_To a0.To.length c_a0_To] 63 [vI a0.T,vI a0.H,.slice p_a0_From a0.From.length c_a0_From,.slice p_a0_Pre a0.Pre.length c_a0_Pre,.slice p_a0_Tube a0.Tube.length c_a0_Tube,.slice p_a0_To a0.To.length c_a0_To])<|.v 3 (.bool true)<|.nil) [2,3,14,15,16,17,19] λu6 a w' H=>?_
  refine qB ?_
  obtain rfl:=sj G
  obtain ⟨g,o0,n0,o1,n1,o2,n2,o3,n3⟩:∃ g:Gh,g.o 0=p_a0_From∧g.n 0=c_a0_From∧g.o 1=p_a0_Pre∧g.n 1=c_a0_Pre∧g.o 2=p_a0_Tube∧g.n 2=c_a0_Tube∧g.o 3=p_a0_To∧g.n 3=c_a0_To:=⟨⟨λi=>[c_a0_From,c_a0_Pre,c_a0_Tube,c_a0_To].getD i 0,λi=>[p_a0_From,p_a0_Pre,p_a0_Tube,p_a0_To].getD i none,λi=>([⟨Unit,()⟩,⟨Unit,()⟩,⟨Unit,()⟩,⟨Unit,()⟩]:List ((T:Type)×T)).getD i ⟨Unit,()⟩⟩,rfl,rfl,rfl,rfl,rfl,rfl,rfl,rfl⟩
  refine Qz H _ g _ _ _ fr [14,15,16,17] [(19,⟨(nn u1 1),[vI a0.T,vI a0.H,.slice p_a0_From a0.From.length c_a0_From,.slice p_a0_Pre a0.Pre.length c_a0_Pre,.slice p_a0_Tube a0.Tube.length c_a0_Tube,.slice p_a0_To a0.To.length c_a0_To],0,6⟩)] (.tuple #[.agg #[vI a0.T,vI a0.H,.slice p_a0_From a0.From.length c_a0_From,.slice p_a0_Pre a0.Pre.length c_a0_Pre,.slice p_a0_Tube a0.Tube.length c_a0_Tube,.slice p_a0_To a0.To.length c_a0_To],.bool true]) [λfr=>qy fr 2 p_a0_From c_a0_From a0.From qa,λfr=>qy fr 2 p_a0_Pre c_a0_Pre a0.Pre qa,λfr=>qy fr 2 p_a0_Tube c_a0_Tube a0.Tube qa,λfr=>qy fr 2 p_a0_To c_a0_To a0.To qa] (by simp only [Ql,o0,n0,o1,n1,o2,n2,o3,n3]) (by simp only [Ql,o0,n0,o1,n1,o2,n2,o3,n3]) hfr (.inl ⟨rfl,rfl⟩) (qk (QP (by decide)) (qk (QP (by decide)) (qk (QP (by decide)) (qk (QP (by decide)) qx)))) (by intro p hp; simp only [List.mem_cons,List.not_mem_nil,or_false] at hp; rcases hp with rfl; exact ⟨⟨63,by kernel_rfl⟩,by kernel_rfl⟩)
theorem QX.calls (k0:Nat)(a0:Int)(a1:Int)(q0:QE)(q1:List qb)(q2:List qb)(q3:Q0)(q4:Int)(b_q0:Nat)(p_q0_L:Option Addr)(c_q0_L:Nat)(p_q0_Out:Option Addr)(c_q0_Out:Nat)(b_q1:Nat)(p_q1:Option Addr)(c_q1:Nat)(b_q2:Nat)(p_q2:Option Addr)(c_q2:Nat)(b_q3:Nat)(b_q4:Nat)(r:List qb)(w:World)(hB:Xp [qy ql 5 p_q0_L c_q0_L q0.L qi,qy ql 1 p_q0_Out c_q0_Out q0.Out q6,Xf b_q0 [vI q0.N,.slice p_q0_L q0.L.length c_q0_L,.slice p_q0_Out q0.Out.length c_q0_Out] 38,qy ql 2 p_q1 c_q1 q1 qa,Xf b_q1 [.slice p_q1 q1.length c_q1] 48,qy ql 2 p_q2 c_q2 q2 qa,Xf b_q2 [.slice p_q2 q2.length c_q2] 48,Xf b_q3 [vI q3.T,vI q3.H] 53,Xf b_q4 [vI q4] 3,gk] w)(G:QX k0 a0 a1 q0 q1 q2 q3 q4=some r) :
  Calls Tryz.prog 79 #[vI a0,vI a1,vP b_q0 0,vP b_q1 0,vP b_q2 0,vP b_q3 0,vP b_q4 0] w λe w'=>∃ g:Gh,e = .returned (.slice (g.o 0) r.length (g.n 0))∧Zj (YR []) w w'∧Ye w.heap.size (YR []) (JS w.heap.size []) [λ_=>Ql 46 2 (g.o 0) (g.n 0) r qa] w':=by
 obtain ⟨fr,hfr,hBf⟩:=VT w []
 refine QA (args:=[vI a0,vI a1,vP b_q0 0,vP b_q1 0,vP b_q2 0,vP b_q3 0,vP b_q4 0]) 23 [(24,qy ql 5 p_q0_L c_q0_L q0.L qi),(25,qy ql 1 p_q0_Out c_q0_Out q0.Out q6),(23,Xf b_q0 [vI q0.N,.slice p_q0_L q0.L.length c_q0_L,.slice p_q0_Out q0.Out.length c_q0_Out] 38),(27,qy ql 2 p_q1 c_q1 q1 qa),(26,Xf b_q1 [.slice p_q1 q1.length c_q1] 48),(29,qy ql 2 p_q2 c_q2 q2 qa),(28,Xf b_q2 [.slice p_q2 q2.length c_q2] 48),(30,Xf b_q3 [vI q3.T,vI q3.H] 53),(31,Xf b_q4 [vI q4] 3),(999999,gk)] (by
  intro x hx
  simp only [List.mem_cons,List.not_mem_nil,or_false] at hx
  rcases hx with rfl | rfl | rfl | rfl | rfl | rfl | rfl | rfl | rfl | rfl
  ·exact qv (qj hB.1) (λ_ _=>trivial) (by decide) _
  ·exact qv (qj hB.2.1) (λ_ _=>trivial) (by decide) _
  ·exact QH (hB.2.2.1 w (agree.refl _ _)) _
  ·exact qv (qj hB.2.2.2.1) (λ_ _=>trivial) (by decide) _
  ·exact QH (hB.2.2.2.2.1 w (agree.refl _ _)) _
  ·exact qv (qj hB.2.2.2.2.2.1) (λ_ _=>trivial) (by decide) _
  ·exact QH (hB.2.2.2.2.2.2.1 w (agree.refl _ _)) _
  ·exact QH (hB.2.2.2.2.2.2.2.1 w (agree.refl _ _)) _
  ·exact QH (hB.2.2.2.2.2.2.2.2.1 w (agree.refl _ _)) _
  ·exact ⟨⟨_,_,rfl⟩,hB.2.2.2.2.2.2.2.2.2.1,Yc (Qy hB.2.2.2.2.2.2.2.2.2.1)⟩) Tryz.func79 rfl λa H=>?_
 unfold QX at G
 refine qg qd H (.v 9 (.slice none 0 0)<|.nil) [0,1,2,3,4,5,6,24,25,27,29,23,26,28,30,31,999999] λu1 a w' H=>?_
 obtain ⟨t3,ht3,G⟩:=qO G
 refine qg qd H (.cons [10] (QV (λu2=>.agg #[vI q0.N,.slice p_q0_L q0.L.length c_q0_L,.slice p_q0_Out q0.Out.length c_q0_Out]) 10 23 (Xf b_q0 [vI q0.N,.slice p_q0_L q0.L.length c_q0_L,.slice p_q0_Out q0.Out.length c_q0_Out] 38) b_q0 0 3 [vI q0.N,.slice p_q0_L q0.L.length c_q0_L,.slice p_q0_Out q0.Out.length c_q0_Out] (λw h=>Za h))<|.cons [11] (QV (λu2=>.slice p_q1 q1.length c_q1) 11 26 (Xf b_q1 [.slice p_q1 q1.length c_q1] 48) b_q1 0 1 [.slice p_q1 q1.length c_q1] (λw h=>Za h))<|.cons [12] (QV (λu2=>.slice p_q2 q2.length c_q2) 12 28 (Xf b_q2 [.slice p_q2 q2.length c_q2] 48) b_q2 0 1 [.slice p_q2 q2.length c_q2] (λw h=>Za h))<|.v 13 (vP b_q3 0)<|.cons [14] (QV (λu2=>vI q3.T) 14 30 (Xf b_q3 [vI q3.T,vI q3.H] 53) b_q3 0 1 [vI q3.T,vI q3.H] (λw h=>Za h))<|.v 15 (vP b_q3 1)<|.cons [16] (QV (λu2=>vI q3.H) 16 30 (Xf b_q3 [vI q3.T,vI q3.H] 53) b_q3 1 1 [vI q3.T,vI q3.H] (λw h=>Za h))<|.v 17 (vI a0)<|.v 18 (vI a1)<|.v 19 (.agg #[vI a0,vI a1])<|.cons [20] (QV (λu2=>vI q4) 20 31 (Xf b_q4 [vI q4] 3) b_q4 0 1 [vI q4] (λw h=>Za h))<|.v 21 (.agg #[vI q3.T,vI q3.H,vI a0,vI a1,vI q4])<|.cons [22,32] (Qp false fr [] [24,25,27,29,999999] (λu2=>[qy ql 5 p_q0_L c_q0_L q0.L qi,qy ql 1 p_q0_Out c_q0_Out q0.Out q6,qy ql 2 p_q1 c_q1 q1 qa,qy ql 2 p_q2 c_q2 q2 qa,gk]) [] (λu2=>[]) 80 _ _ _ _ _ [32] 22 (λu2 w hB hF hM=>YB.calls k0 (⟨q0.N,q0.L,q0.Out⟩:QE) q1 q2 (⟨q3.T,q3.H,(⟨a0,a1⟩:qb),q4⟩:JV) p_q0_L c_q0_L p_q0_Out c_q0_Out p_q1 c_q1 p_q2 c_q2 t3 w hB ht3) (λu2 w hF=>⟨⟨qP (qj hF.1) (λj h=>⟨_,(.head _),h⟩),qP (qj hF.2.1) (λj h=>⟨_,(.tail _ (.head _)),h⟩),qP (qj hF.2.2.1) (λj h=>⟨_,(.tail _ (.tail _ (.head _))),h⟩),qP (qj hF.2.2.2.1) (λj h=>⟨_,(.tail _ (.tail _ (.tail _ (.head _)))),h⟩),Je hF.2.2.2.2.1 (.tail _ (.tail _ (.tail _ (.tail _ (.head _))))),trivial⟩,trivial⟩) (λu2 g=>(qk Qf qx)) (.inr (λu2 g=>(Qg trivial (λK h=>by cases h)))) (λh=>by cases h))<|.cons [9] (qr (λu2=>.slice ((u2 12).o 0) t3.length (nn u2 12)) 9)<|.nil) [9,24,25,27,29,32,23,26,28,30,31,999999] λu2 a w' H=>?_
 refine qB ?_
 obtain rfl:=sj G
 obtain ⟨g,o0,n0⟩:=ZS ((u2 12).o 0) (nn u2 12)
 refine Qz H _ g _ _ _ fr [32] [] (.slice ((u2 12).o 0) t3.length (nn u2 12)) [λ_=>Ql 46 2 ((u2 12).o 0) (nn u2 12) t3 qa] (by simp only [Ql,o0,n0]) (by simp only [Ql,o0,n0]) hfr (.inl ⟨rfl,rfl⟩) (qk Qf qx) (by simp)
end Go.Proofs.YtpmgpcklieincaaGreatDoor
