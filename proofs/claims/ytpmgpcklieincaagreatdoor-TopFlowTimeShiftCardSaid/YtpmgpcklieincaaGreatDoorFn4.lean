/- Each function of the program answers as the plain Lean function of its name (part 4). Printed by a program of this session. -/
import Derived.Test.YtpmgpcklieincaaGreatDoorFn3
set_option linter.unusedVariables false
set_option linter.unusedSimpArgs false
set_option maxRecDepth 100000
set_option maxHeartbeats 4000000
namespace Go.Proofs.YtpmgpcklieincaaGreatDoor
open Go Go.RowKit Go.Sx Go.Proofs
theorem qL.calls:∀ (k0:Nat) (a0:X1) (a1:Int) (b_a0:Nat) (p_a0_raw:Option Addr) (c_a0_raw:Nat) (r:List qu × X1) (w:World) (hF:Xx [qB qk 4 p_a0_raw c_a0_raw a0.raw qr] w) (hM:VS [.blk b_a0 [.slice p_a0_raw a0.raw.length c_a0_raw,vI a0.n] 184] ([]++[qB qk 4 p_a0_raw c_a0_raw a0.raw qr]) w) (G:qL k0 a0 a1=some r),
  Calls Tryz.prog 85 #[vP b_a0 0,vI a1] w fun e w'=>∃ g:Gh,e = .returned (.slice (g.o 0) r.1.length (g.n 0))∧Zg (Y4 [.blk b_a0 [.slice p_a0_raw a0.raw.length c_a0_raw,vI a0.n] 184]) w w'∧Ys w.heap.size (Y4 [.blk b_a0 [.slice p_a0_raw a0.raw.length c_a0_raw,vI a0.n] 184]) (JH w.heap.size [qB qk 4 p_a0_raw c_a0_raw a0.raw qr]) [fun _=>Qm 61 4 (g.o 0) (g.n 0) r.1 qr,fun fr=>YZ fr 4 (g.o 1) r.2.raw.length (g.n 1) (r.2.raw.flatMap qr),fun _=>.blk b_a0 [.slice (g.o 1) r.2.raw.length (g.n 1),vI r.2.n] 184] w':=by
 intro k0
 induction k0 with
 | zero=>intros; rename_i G; exact absurd G (by unfold qL; exact fun h=>by cases h)
 | succ k0 IH=>?_
 intro a0 a1 b_a0 p_a0_raw c_a0_raw r w hF hM G
 obtain ⟨fr,hfr,hBf⟩:=VE w [qB qk 4 p_a0_raw c_a0_raw a0.raw qr]
 refine Vl (args:=[vP b_a0 0,vI a1]) 94 [(95,qB fr 4 p_a0_raw c_a0_raw a0.raw qr)] [(94,.blk b_a0 [.slice p_a0_raw a0.raw.length c_a0_raw,vI a0.n] 184)] (Vp hM (by rfl)) (by
  intro x hx
  simp only [List.mem_cons,List.not_mem_nil,or_false] at hx
  rcases hx with rfl
  exact qy (qj hF.1) (fun j h=>by rw [hfr]; exact .inr ⟨_,(.head _),h⟩) (by decide) _) (by rfl) Tryz.func85 rfl (by kernel_rfl) (by kernel_rfl) fun a H=>?_
 unfold qL at G
 generalize qL k0=rec at G IH
 unfold qL.body at G
 refine qg qd H (.v 4 (.slice none 0 0)<|.nil) [0,1,94,95,999998] fun u1 a w' H=>?_
 refine qv ?_
 refine qg qd H (.v 8 (vP b_a0 0) <|
 .v 9 (vP b_a0 0) <|
 .v 10 (vP b_a0 0) <|
 .cons [11] (qf (.slice p_a0_raw a0.raw.length c_a0_raw) 11 94 0 1 b_a0 [.slice p_a0_raw a0.raw.length c_a0_raw,vI a0.n] 184) <|
 .v 12 (vI (a0.raw.length:Int)) <|
 .v 13 (.bool ((a0.raw.length:Int) == 0))<|.nil) [0,1,13,94,95,999998] fun u2 a w' H=>?_
 refine Qx H ((a0.raw.length:Int) == 0) (fun c36=>?_) fun c36=>?_
 ·rw [if_pos c36] at G
  obtain ⟨t4,ht4,G⟩:=qP G
  obtain ⟨t5,ht5,G⟩:=qP G
  refine qg qd H (.cons [14] (qq 14 _ _ 14 [] (fun u3 w _=>YN.calls 65536  t4 w  ht4)) <|
 .cons [15,96] (QI false fr [] [] (fun u3=>[]) [] (fun u3=>[]) 104 _ (fun u3=>[]) _ _ _ [96] 15 (fun u3 w hB hF hM=>X5.calls t4  t5 w  ht5) (fun u3 w hF=>⟨trivial,trivial⟩) (fun u3 g=>(ql Qw qC)) (.inr (fun u3 g=>(Qv trivial (fun K h=>by cases h)))) (fun h=>by cases h)) <|
 .cons [4] (qn (fun u3=>.slice ((u3 1).o 0) t5.length ((u3 1).n 0)) 4)<|.nil) [4,94,95,96,999998] fun u3 a w' H=>?_
  refine qF ?_
  obtain rfl:=sj G
  obtain ⟨g,o0,n0,o1,n1⟩:∃ g:Gh,g.o 0=((u3 1).o 0)∧g.n 0=((u3 1).n 0)∧g.o 1=p_a0_raw∧g.n 1=c_a0_raw:=⟨⟨fun i=>[((u3 1).n 0),c_a0_raw].getD i 0,fun i=>[((u3 1).o 0),p_a0_raw].getD i none,fun i=>([⟨Unit,()⟩,⟨Unit,()⟩]:List ((T:Type) × T)).getD i ⟨Unit,()⟩⟩,rfl,rfl,rfl,rfl⟩
  refine QR H _ g _ _ _ fr [96,95,94] [] (.slice ((u3 1).o 0) t5.length ((u3 1).n 0)) [fun _=>Qm 61 4 ((u3 1).o 0) ((u3 1).n 0) t5 qr,fun fr=>qB fr 4 p_a0_raw c_a0_raw a0.raw qr,fun _=>.blk b_a0 [.slice p_a0_raw a0.raw.length c_a0_raw,vI a0.n] 184] (by simp only [Qm,o0,n0,o1,n1]) (by simp only [Qm,o0,n0,o1,n1]) hfr (.inr (by kernel_rfl)) (ql Qw (ql (QZ (by decide)) (ql Zh qC))) (by simp)
 ·rw [if_neg (nt c36)] at G
  refine Qf ?_
  refine qv ?_
  replace G:=gd G; obtain ⟨b7,G⟩:=G
  obtain ⟨t8,ht8,G⟩:=qP G
  refine Qt qd H (.v 16 (vP b_a0 0) <|
 .v 17 (vP b_a0 0) <|
 .v 18 (vP b_a0 0) <|
 .cons [19] (qf (.slice p_a0_raw a0.raw.length c_a0_raw) 19 94 0 1 b_a0 [.slice p_a0_raw a0.raw.length c_a0_raw,vI a0.n] 184) <|
 .cons [20] (qG 95 (qB fr 4 p_a0_raw c_a0_raw a0.raw qr) (.pointer (some ⟨Xf p_a0_raw,Xg p_a0_raw+((0:Int).toNat) * 4,none⟩)) 20 fun _ w h=>Jo 59 .i64 (0:Int) p_a0_raw a0.raw.length c_a0_raw a0.raw qr (qj h).2 QJ rfl b7) <|
 .cons [21] (qG 95 (qB fr 4 p_a0_raw c_a0_raw a0.raw qr) (.agg #[vI t8.Op,vI t8.N,vI t8.C.Lo,vI t8.C.Hi]) 21 fun _ w h=>Ym qr (qj h).2 QJ ht8 0 4 [vI t8.Op,vI t8.N,vI t8.C.Lo,vI t8.C.Hi]) <|
 .cons [5,97] (qs (fun b=>vP b 0) (fun u6=>[vI 0,vI 0,vI 0,vI 0]) 61 5 97) <|
 .cons [97] (QL (u':=fun u6=>[(97,.blk ((u6 6).n 0) [vI t8.Op,vI t8.N,vI t8.C.Lo,vI t8.C.Hi] 61)]) (qW 97 0 (fun u6=>((u6 6).n 0)) (fun u6=>[vI 0,vI 0,vI 0,vI 0]) (fun u6=>[vI t8.Op,vI t8.N,vI t8.C.Lo,vI t8.C.Hi]) 61) (fun _=>by kernel_rfl))<|.nil) [0,1,5,94,95,97,999998] fun u6 a w' H=>?_
  refine qv ?_
  replace G:=gd G; obtain ⟨b10,G⟩:=G
  refine Qt qd H (.v 22 (vP b_a0 0) <|
 .v 23 (vP b_a0 0) <|
 .v 24 (vP b_a0 0) <|
 .v 25 (vP b_a0 0) <|
 .cons [26] (qf (.slice p_a0_raw a0.raw.length c_a0_raw) 26 94 0 1 b_a0 [.slice p_a0_raw a0.raw.length c_a0_raw,vI a0.n] 184) <|
 .cons [27] (Zq [95] (fun u9=>[qB fr 4 p_a0_raw c_a0_raw a0.raw qr]) (fun u9=>.slice (X8 p_a0_raw (1:Int).toNat 4 c_a0_raw) ((a0.raw.drop (1:Int).toNat).length) (c_a0_raw - (1:Int).toNat)) (fun u9=>true) [true,true] 27 (fun u9 w _ hF=>Zz (by kernel_rfl) (qc5 (t:=59) (sz:=4) (l:=a0.raw) (k:=.i64) rfl b10))) <|
 .v 28 (vP b_a0 0) <|
 .v 29 (vP b_a0 0) <|
 .cons [94] (Qa 94 0 b_a0 [.slice p_a0_raw a0.raw.length c_a0_raw,vI a0.n] [.slice (X8 p_a0_raw (1:Int).toNat 4 c_a0_raw) ((a0.raw.drop (1:Int).toNat).length) (c_a0_raw - (1:Int).toNat)] 184 [.slice (X8 p_a0_raw (1:Int).toNat 4 c_a0_raw) ((a0.raw.drop (1:Int).toNat).length) (c_a0_raw - (1:Int).toNat),vI a0.n])<|.nil) [0,1,5,94,95,97,999998] fun u9 a w' H=>?_
  refine qg qd H (.v 30 (vP ((u6 6).n 0) 0) <|
 .cons [31] (qf (vI t8.Op) 31 97 0 1 ((u6 6).n 0) [vI t8.Op,vI t8.N,vI t8.C.Lo,vI t8.C.Hi] 61) <|
 .v 32 (vI (QW .i64 t8.Op 255)) <|
 .v 33 (vI (Int.tmod (QW .i64 t8.Op 255) 10)) <|
 .v 34 (vI (qc (1+(Int.tmod (QW .i64 t8.Op 255) 10)))) <|
 .v 6 (vI (qc (1+(Int.tmod (QW .i64 t8.Op 255) 10))))<|.nil) [0,1,5,6,94,95,97,999998] fun u11 a w' H=>?_
  refine qv ?_
  obtain ⟨t13,ht13,G⟩:=qP G
  refine qg qd H (.v 35 (vI (qc (1+(Int.tmod (QW .i64 t8.Op 255) 10)))) <|
 .v 36 (.bool ((qc (1+(Int.tmod (QW .i64 t8.Op 255) 10))) == 1)) <|
 .v 37 (.bool ((qc (1+(Int.tmod (QW .i64 t8.Op 255) 10))) == 1)) <|
 .cons [38] (qQ (fun u12=>vI (qc (1+(Int.tmod (QW .i64 t8.Op 255) 10)))) (fun u12=>(((qc (1+(Int.tmod (QW .i64 t8.Op 255) 10))) == 1) == false)) [true] 38) <|
 .cons [39] (ZR 105 (fun u12=>#[vI (qc (1+(Int.tmod (QW .i64 t8.Op 255) 10)))]) (vI t13) (fun u12=>(((qc (1+(Int.tmod (QW .i64 t8.Op 255) 10))) == 1) == false)) [true,false] 39 [] (fun u12 w hg _=>XA.calls (qc (1+(Int.tmod (QW .i64 t8.Op 255) 10)))  t13 w  (ifp ht13 hg))) <|
 .cons [40] (qQ (fun u12=>.bool (decide (t13 > 0))) (fun u12=>(((qc (1+(Int.tmod (QW .i64 t8.Op 255) 10))) == 1) == false)) [false,true] 40) <|
 .cons [41] (qQ (fun u12=>.bool (decide (t13 > 0))) (fun u12=>(((qc (1+(Int.tmod (QW .i64 t8.Op 255) 10))) == 1) == false)) [false] 41) <|
 .cons [42] (qQ (fun u12=>vI a1) (fun u12=>((((qc (1+(Int.tmod (QW .i64 t8.Op 255) 10))) == 1) == false) && ((decide (t13 > 0)) == true))) [true] 42) <|
 .cons [43] (qQ (fun u12=>.bool (decide (a1<2))) (fun u12=>((((qc (1+(Int.tmod (QW .i64 t8.Op 255) 10))) == 1) == false) && ((decide (t13 > 0)) == true))) [false,true] 43) <|
 .cons [44] (YY 41 43 (fun u12=>(((qc (1+(Int.tmod (QW .i64 t8.Op 255) 10))) == 1) == false)) (fun u12=>(((qc (1+(Int.tmod (QW .i64 t8.Op 255) 10))) == 1) == false)) (fun u12=>decide (t13 > 0)) (fun u12=>decide (a1<2)) 44) <|
 .cons [45] (ZM 37 44 (fun u12=>true) (fun u12=>true) (fun u12=>((qc (1+(Int.tmod (QW .i64 t8.Op 255) 10))) == 1)) (fun u12=>((decide (t13 > 0)) && (decide (a1<2)))) 45)<|.nil) [0,1,5,6,45,94,95,97,999998] fun u12 a w' H=>?_
  refine Qx H (((qc (1+(Int.tmod (QW .i64 t8.Op 255) 10))) == 1) || ((decide (t13 > 0)) && (decide (a1<2)))) (fun c35=>?_) fun c35=>?_
  ·rw [if_pos c35] at G
   obtain ⟨t15,ht15,G⟩:=qP G
   obtain ⟨t16,ht16,G⟩:=qP G
   refine qg qd H (.v 46 (vP ((u6 6).n 0) 2) <|
 .cons [47] (qf (.agg #[vI t8.C.Lo,vI t8.C.Hi]) 47 97 2 2 ((u6 6).n 0) [vI t8.Op,vI t8.N,vI t8.C.Lo,vI t8.C.Hi] 61) <|
 .v 48 (vP ((u6 6).n 0) 1) <|
 .cons [49] (qf (vI t8.N) 49 97 1 1 ((u6 6).n 0) [vI t8.Op,vI t8.N,vI t8.C.Lo,vI t8.C.Hi] 61) <|
 .v 50 (vI (QW .i64 t8.N 255)) <|
 .v 51 (vP ((u6 6).n 0) 1) <|
 .cons [52] (qf (vI t8.N) 52 97 1 1 ((u6 6).n 0) [vI t8.Op,vI t8.N,vI t8.C.Lo,vI t8.C.Hi] 61) <|
 .v 53 (vI (QW .i64 t8.N 1)) <|
 .v 54 (vI (qc ((QW .i64 t8.N 255) * (QW .i64 t8.N 1)))) <|
 .v 55 (vI (qc (1+(qc ((QW .i64 t8.N 255) * (QW .i64 t8.N 1)))))) <|
 .cons [56] (qq 106 _ _ 56 [] (fun u14 w _=>Yd.calls (⟨t8.C.Lo,t8.C.Hi⟩:qb) (qc (1+(qc ((QW .i64 t8.N 255) * (QW .i64 t8.N 1)))))  t15 w  ht15)) <|
 .cons [57,98] (QI false fr [] [] (fun u14=>[]) [] (fun u14=>[]) 104 _ (fun u14=>[]) _ _ _ [98] 57 (fun u14 w hB hF hM=>X5.calls t15  t16 w  ht16) (fun u14 w hF=>⟨trivial,trivial⟩) (fun u14 g=>(ql Qw qC)) (.inr (fun u14 g=>(Qv trivial (fun K h=>by cases h)))) (fun h=>by cases h)) <|
 .cons [4] (qn (fun u14=>.slice ((u14 11).o 0) t16.length ((u14 11).n 0)) 4)<|.nil) [4,94,95,98,999998] fun u14 a w' H=>?_
   refine qF ?_
   obtain rfl:=sj G
   replace H:=H.addF 99 (YZ fr 4 (X8 p_a0_raw (1:Int).toNat 4 c_a0_raw) ((a0.raw.drop (1:Int).toNat).length) (c_a0_raw - (1:Int).toNat) ((a0.raw.drop (1:Int).toNat).flatMap qr)) [95] [qB fr 4 p_a0_raw c_a0_raw a0.raw qr] (by kernel_rfl) (fun h=>h) (by intro _ _ h; cases h) (fun hF=>(qy (XO.low (en:=qr) (qj hF.1) QJ b10) (fun j h=>(Y7 hF.1 _ (Zb (by simp) h))) (by decide) 0).2.1) (fun hF j h=>⟨_,.head _,(fun h=>h),(Zb (by simp) h)⟩)
   obtain ⟨g,o0,n0,o1,n1⟩:∃ g:Gh,g.o 0=((u14 11).o 0)∧g.n 0=((u14 11).n 0)∧g.o 1=(X8 p_a0_raw (1:Int).toNat 4 c_a0_raw)∧g.n 1=(c_a0_raw - (1:Int).toNat):=⟨⟨fun i=>[((u14 11).n 0),(c_a0_raw - (1:Int).toNat)].getD i 0,fun i=>[((u14 11).o 0),(X8 p_a0_raw (1:Int).toNat 4 c_a0_raw)].getD i none,fun i=>([⟨Unit,()⟩,⟨Unit,()⟩]:List ((T:Type) × T)).getD i ⟨Unit,()⟩⟩,rfl,rfl,rfl,rfl⟩
   refine QR H _ g _ _ _ fr [98,99,94] [] (.slice ((u14 11).o 0) t16.length ((u14 11).n 0)) [fun _=>Qm 61 4 ((u14 11).o 0) ((u14 11).n 0) t16 qr,fun fr=>YZ fr 4 (X8 p_a0_raw (1:Int).toNat 4 c_a0_raw) ((a0.raw.drop (1:Int).toNat).length) (c_a0_raw - (1:Int).toNat) ((a0.raw.drop (1:Int).toNat).flatMap qr),fun _=>.blk b_a0 [.slice (X8 p_a0_raw (1:Int).toNat 4 c_a0_raw) ((a0.raw.drop (1:Int).toNat).length) (c_a0_raw - (1:Int).toNat),vI a0.n] 184] (by simp only [Qm,o0,n0,o1,n1]) (by simp only [Qm,o0,n0,o1,n1]) hfr (.inr (by kernel_rfl)) (ql Qw (ql (QZ (by decide)) (ql Zh qC))) (by simp)
  ·rw [if_neg (nt c35)] at G
   refine Qf ?_
   refine qv ?_
   refine qg qd H (.v 58 (vI (qc (1+(Int.tmod (QW .i64 t8.Op 255) 10)))) <|
 .v 59 (.bool ((qc (1+(Int.tmod (QW .i64 t8.Op 255) 10))) == 2))<|.nil) [0,1,5,6,59,94,95,97,999998] fun u17 a w' H=>?_
   refine Qx H ((qc (1+(Int.tmod (QW .i64 t8.Op 255) 10))) == 2) (fun c34=>?_) fun c34=>?_
   ·rw [if_pos c34] at G
    refine qv ?_
    replace G:=gd G; obtain ⟨n19,G⟩:=G
    refine Qt qd H (.v 60 (vP ((u6 6).n 0) 1) <|
 .cons [61] (qf (vI t8.N) 61 97 1 1 ((u6 6).n 0) [vI t8.Op,vI t8.N,vI t8.C.Lo,vI t8.C.Hi] 61) <|
 .v 62 (vI (QW .i64 t8.N 255)) <|
 .v 63 (vP b_a0 0) <|
 .v 64 (vP b_a0 0) <|
 .v 65 (vP b_a0 1) <|
 .cons [66] (qf (vI a0.n) 66 94 1 1 b_a0 [.slice (X8 p_a0_raw (1:Int).toNat 4 c_a0_raw) ((a0.raw.drop (1:Int).toNat).length) (c_a0_raw - (1:Int).toNat),vI a0.n] 184) <|
 .cons [67] (qn (fun u18=>vI (Int.tmod (QW .i64 t8.N 255) a0.n)) 67 (hv:=fun _ _=>Zz (by kernel_rfl) (WP (k:=.i64) (x:=QW .i64 t8.N 255) (y:=a0.n) n19))) <|
 .v 68 (.agg #[vI 2,vI (Int.tmod (QW .i64 t8.N 255) a0.n),vI 0,vI 0]) <|
 .cons [69,100] (qs (fun b=>.slice (some ⟨b,0,none⟩) 1 1) (fun u18=>[vI 2,vI (Int.tmod (QW .i64 t8.N 255) a0.n),vI 0,vI 0]) 61 69 100) <|
 .cons [4] (qn (fun u18=>.slice (some ⟨((u18 9).n 0),0,none⟩) 1 1) 4)<|.nil) [4,94,95,100,999998] fun u18 a w' H=>?_
    refine qF ?_
    obtain rfl:=sj G
    replace H:=H.blk_row 100 ((u18 9).n 0) [vI 2,vI (Int.tmod (QW .i64 t8.N 255) a0.n),vI 0,vI 0] 61 4 1 (by kernel_rfl) (by kernel_rfl) (by decide)
    replace H:=H.addF 101 (YZ fr 4 (X8 p_a0_raw (1:Int).toNat 4 c_a0_raw) ((a0.raw.drop (1:Int).toNat).length) (c_a0_raw - (1:Int).toNat) ((a0.raw.drop (1:Int).toNat).flatMap qr)) [95] [qB fr 4 p_a0_raw c_a0_raw a0.raw qr] (by kernel_rfl) (fun h=>h) (by intro _ _ h; cases h) (fun hF=>(qy (XO.low (en:=qr) (qj hF.1) QJ b10) (fun j h=>(Y7 hF.1 _ (Zb (by simp) h))) (by decide) 0).2.1) (fun hF j h=>⟨_,.head _,(fun h=>h),(Zb (by simp) h)⟩)
    obtain ⟨g,o0,n0,o1,n1⟩:∃ g:Gh,g.o 0=(some ⟨((u18 9).n 0),0,none⟩)∧g.n 0=1∧g.o 1=(X8 p_a0_raw (1:Int).toNat 4 c_a0_raw)∧g.n 1=(c_a0_raw - (1:Int).toNat):=⟨⟨fun i=>[1,(c_a0_raw - (1:Int).toNat)].getD i 0,fun i=>[(some ⟨((u18 9).n 0),0,none⟩),(X8 p_a0_raw (1:Int).toNat 4 c_a0_raw)].getD i none,fun i=>([⟨Unit,()⟩,⟨Unit,()⟩]:List ((T:Type) × T)).getD i ⟨Unit,()⟩⟩,rfl,rfl,rfl,rfl⟩
    refine QR H _ g _ _ _ fr [100,101,94] [] (.slice (some ⟨((u18 9).n 0),0,none⟩) 1 1) [fun _=>X6 61 4 (some ⟨((u18 9).n 0),0,none⟩) 1 1 (([(⟨2,Int.tmod (QW .i64 t8.N 255) a0.n,(⟨0,0⟩:qb)⟩:qu)]:List qu).flatMap qr),fun fr=>YZ fr 4 (X8 p_a0_raw (1:Int).toNat 4 c_a0_raw) ((a0.raw.drop (1:Int).toNat).length) (c_a0_raw - (1:Int).toNat) ((a0.raw.drop (1:Int).toNat).flatMap qr),fun _=>.blk b_a0 [.slice (X8 p_a0_raw (1:Int).toNat 4 c_a0_raw) ((a0.raw.drop (1:Int).toNat).length) (c_a0_raw - (1:Int).toNat),vI a0.n] 184] (by simp only [Qm,o0,n0,o1,n1,List.length_set,List.length_cons,List.length_nil,Nat.zero_add,Nat.reduceAdd]) (by simp only [Qm,o0,n0,o1,n1,List.length_set,List.length_cons,List.length_nil,Nat.zero_add,Nat.reduceAdd]) hfr (.inr (by kernel_rfl)) (ql Qw (ql (QZ (by decide)) (ql Zh qC))) (by simp)
   ·rw [if_neg (nt c34)] at G
    refine Qf ?_
    refine qv ?_
    refine qg qd H (.v 70 (vI (qc (1+(Int.tmod (QW .i64 t8.Op 255) 10)))) <|
 .v 71 (.bool ((qc (1+(Int.tmod (QW .i64 t8.Op 255) 10))) == 3))<|.nil) [0,1,6,71,94,95,999998] fun u20 a w' H=>?_
    refine Qx H ((qc (1+(Int.tmod (QW .i64 t8.Op 255) 10))) == 3) (fun c33=>?_) fun c33=>?_
    ·rw [if_pos c33] at G
     refine qg qd H (.v 72 (.agg #[vI 3,vI 0,vI 0,vI 0]) <|
 .cons [73,102] (qs (fun b=>.slice (some ⟨b,0,none⟩) 1 1) (fun u21=>[vI 3,vI 0,vI 0,vI 0]) 61 73 102) <|
 .cons [4] (qn (fun u21=>.slice (some ⟨((u21 1).n 0),0,none⟩) 1 1) 4)<|.nil) [4,94,95,102,999998] fun u21 a w' H=>?_
     refine qF ?_
     obtain rfl:=sj G
     replace H:=H.blk_row 102 ((u21 1).n 0) [vI 3,vI 0,vI 0,vI 0] 61 4 1 (by kernel_rfl) (by kernel_rfl) (by decide)
     replace H:=H.addF 103 (YZ fr 4 (X8 p_a0_raw (1:Int).toNat 4 c_a0_raw) ((a0.raw.drop (1:Int).toNat).length) (c_a0_raw - (1:Int).toNat) ((a0.raw.drop (1:Int).toNat).flatMap qr)) [95] [qB fr 4 p_a0_raw c_a0_raw a0.raw qr] (by kernel_rfl) (fun h=>h) (by intro _ _ h; cases h) (fun hF=>(qy (XO.low (en:=qr) (qj hF.1) QJ b10) (fun j h=>(Y7 hF.1 _ (Zb (by simp) h))) (by decide) 0).2.1) (fun hF j h=>⟨_,.head _,(fun h=>h),(Zb (by simp) h)⟩)
     obtain ⟨g,o0,n0,o1,n1⟩:∃ g:Gh,g.o 0=(some ⟨((u21 1).n 0),0,none⟩)∧g.n 0=1∧g.o 1=(X8 p_a0_raw (1:Int).toNat 4 c_a0_raw)∧g.n 1=(c_a0_raw - (1:Int).toNat):=⟨⟨fun i=>[1,(c_a0_raw - (1:Int).toNat)].getD i 0,fun i=>[(some ⟨((u21 1).n 0),0,none⟩),(X8 p_a0_raw (1:Int).toNat 4 c_a0_raw)].getD i none,fun i=>([⟨Unit,()⟩,⟨Unit,()⟩]:List ((T:Type) × T)).getD i ⟨Unit,()⟩⟩,rfl,rfl,rfl,rfl⟩
     refine QR H _ g _ _ _ fr [102,103,94] [] (.slice (some ⟨((u21 1).n 0),0,none⟩) 1 1) [fun _=>X6 61 4 (some ⟨((u21 1).n 0),0,none⟩) 1 1 (([(⟨3,0,(⟨0,0⟩:qb)⟩:qu)]:List qu).flatMap qr),fun fr=>YZ fr 4 (X8 p_a0_raw (1:Int).toNat 4 c_a0_raw) ((a0.raw.drop (1:Int).toNat).length) (c_a0_raw - (1:Int).toNat) ((a0.raw.drop (1:Int).toNat).flatMap qr),fun _=>.blk b_a0 [.slice (X8 p_a0_raw (1:Int).toNat 4 c_a0_raw) ((a0.raw.drop (1:Int).toNat).length) (c_a0_raw - (1:Int).toNat),vI a0.n] 184] (by simp only [Qm,o0,n0,o1,n1,List.length_set,List.length_cons,List.length_nil,Nat.zero_add,Nat.reduceAdd]) (by simp only [Qm,o0,n0,o1,n1,List.length_set,List.length_cons,List.length_nil,Nat.zero_add,Nat.reduceAdd]) hfr (.inr (by kernel_rfl)) (ql Qw (ql (QZ (by decide)) (ql Zh qC))) (by simp)
    ·rw [if_neg (nt c33)] at G
     refine Qf ?_
     refine qv ?_
     obtain ⟨t23,ht23,G⟩:=qP G
     refine qg qd H (.v 74 (vI (qc (1+(Int.tmod (QW .i64 t8.Op 255) 10)))) <|
 .cons [75] (qq 105 _ _ 75 [] (fun u22 w _=>XA.calls (qc (1+(Int.tmod (QW .i64 t8.Op 255) 10)))  t23 w  ht23)) <|
 .v 76 (.bool (t23 == 1))<|.nil) [0,1,6,76,94,95,999998] fun u22 a w' H=>?_
     refine Qx H (t23 == 1) (fun c32=>?_) fun c32=>?_
     ·rw [if_pos c32] at G
      obtain ⟨t25,ht25,G⟩:=qP G
      obtain ⟨t26,ht26,G⟩:=qP G
      refine qg qd H (.v 77 (vI (qc (1+(Int.tmod (QW .i64 t8.Op 255) 10)))) <|
 .v 78 (vP b_a0 0) <|
 .v 79 (vI a1) <|
 .v 80 (vI (qc (a1 - 1))) <|
 .cons [81,94,104,105,94] (QI true fr [] [95] (fun u24=>[qB fr 4 p_a0_raw c_a0_raw a0.raw qr]) [94] (fun u24=>[.blk b_a0 [.slice (X8 p_a0_raw (1:Int).toNat 4 c_a0_raw) ((a0.raw.drop (1:Int).toNat).length) (c_a0_raw - (1:Int).toNat),vI a0.n] 184]) 85 _ (fun u24=>[]) _ _ _ [104,105,94] 81 (fun u24 w hB hF hM=>IH (⟨(a0.raw.drop (1:Int).toNat),a0.n⟩:X1) (qc (a1 - 1)) b_a0 (X8 p_a0_raw (1:Int).toNat 4 c_a0_raw) (c_a0_raw - (1:Int).toNat) t25 w  hF hM ht25) (fun u24 w hF=>⟨trivial,⟨Zx (XO.low (en:=qr) (qj hF.1) QJ b10) (fun j h=>ZN (.head _) (fun h=>h) (Zb (by simp) h) (Y7 hF.1 _ (Zb (by simp) h))),trivial⟩⟩) (fun u24 g=>(ql Qw (ql (QZ (by decide)) (ql Zh qC)))) (.inl rfl) (fun _=>hBf)) <|
 .cons [82,106] (QI false fr [4] [104] (fun u24=>[Qm 61 4 ((u24 4).o 0) ((u24 4).n 0) t25.1 qr]) [] (fun u24=>[]) 107 _ _ _ _ _ [106] 82 (fun u24 w hB hF hM=>Yr.calls (qc (1+(Int.tmod (QW .i64 t8.Op 255) 10))) t25.1 ((u24 4).o 0) ((u24 4).n 0) t26 w  hB ht26) (fun u24 w hF=>⟨⟨q9 (qw (Qe hF.1)) (fun j h=>⟨_,(.head _),(YT h)⟩),trivial⟩,trivial⟩) (fun u24 g=>(ql Qw qC)) (.inr (fun u24 g=>(Qv trivial (fun K h=>by cases h)))) (fun h=>by cases h) (hloc:=fun u u' h=>⟨by first | rfl | simp only [h 4 (by decide)],by first | rfl | simp only [h 4 (by decide)],by first | rfl | simp only [h 4 (by decide)],by first | rfl | simp only [h 4 (by decide)],by first | rfl | simp only [h 4 (by decide)],by first | rfl | simp only [h 4 (by decide)]⟩)) <|
 .cons [4] (qn (fun u24=>.slice ((u24 5).o 0) t26.length ((u24 5).n 0)) 4)<|.nil) [4,94,105,106,999998] fun u24 a w' H=>?_
      refine qF ?_
      obtain rfl:=sj G
      obtain ⟨g,o0,n0,o1,n1⟩:∃ g:Gh,g.o 0=((u24 5).o 0)∧g.n 0=((u24 5).n 0)∧g.o 1=((u24 4).o 1)∧g.n 1=((u24 4).n 1):=⟨⟨fun i=>[((u24 5).n 0),((u24 4).n 1)].getD i 0,fun i=>[((u24 5).o 0),((u24 4).o 1)].getD i none,fun i=>([⟨Unit,()⟩,⟨Unit,()⟩]:List ((T:Type) × T)).getD i ⟨Unit,()⟩⟩,rfl,rfl,rfl,rfl⟩
      refine QR H _ g _ _ _ fr [106,105,94] [] (.slice ((u24 5).o 0) t26.length ((u24 5).n 0)) [fun _=>Qm 61 4 ((u24 5).o 0) ((u24 5).n 0) t26 qr,fun fr=>YZ fr 4 ((u24 4).o 1) t25.2.raw.length ((u24 4).n 1) (t25.2.raw.flatMap qr),fun _=>.blk b_a0 [.slice ((u24 4).o 1) t25.2.raw.length ((u24 4).n 1),vI t25.2.n] 184] (by simp only [Qm,o0,n0,o1,n1]) (by simp only [Qm,o0,n0,o1,n1]) hfr (.inr (by kernel_rfl)) (ql Qw (ql (QZ (by decide)) (ql Zh qC))) (by simp)
     ·rw [if_neg (nt c32)] at G
      refine Qf ?_
      obtain ⟨t28,ht28,G⟩:=qP G
      refine qg qd H (.v 83 (vP b_a0 0) <|
 .v 84 (vI a1) <|
 .v 85 (vI (qc (a1 - 1))) <|
 .cons [86,94,107,108,94] (QI true fr [] [95] (fun u27=>[qB fr 4 p_a0_raw c_a0_raw a0.raw qr]) [94] (fun u27=>[.blk b_a0 [.slice (X8 p_a0_raw (1:Int).toNat 4 c_a0_raw) ((a0.raw.drop (1:Int).toNat).length) (c_a0_raw - (1:Int).toNat),vI a0.n] 184]) 85 _ (fun u27=>[]) _ _ _ [107,108,94] 86 (fun u27 w hB hF hM=>IH (⟨(a0.raw.drop (1:Int).toNat),a0.n⟩:X1) (qc (a1 - 1)) b_a0 (X8 p_a0_raw (1:Int).toNat 4 c_a0_raw) (c_a0_raw - (1:Int).toNat) t28 w  hF hM ht28) (fun u27 w hF=>⟨trivial,⟨Zx (XO.low (en:=qr) (qj hF.1) QJ b10) (fun j h=>ZN (.head _) (fun h=>h) (Zb (by simp) h) (Y7 hF.1 _ (Zb (by simp) h))),trivial⟩⟩) (fun u27 g=>(ql Qw (ql (QZ (by decide)) (ql Zh qC)))) (.inl rfl) (fun _=>hBf)) <|
 .cons [7] (qn (fun u27=>.slice ((u27 3).o 0) t28.1.length ((u27 3).n 0)) 7)<|.nil) [0,1,6,7,94,107,108,999998] fun u27 a w' H=>?_
      obtain ⟨t30,ht30,G⟩:=qP G
      obtain ⟨t31,ht31,G⟩:=qP G
      refine qg qd H (.v 87 (vI (qc (1+(Int.tmod (QW .i64 t8.Op 255) 10)))) <|
 .v 88 (.slice ((u27 3).o 0) t28.1.length ((u27 3).n 0)) <|
 .v 89 (vP b_a0 0) <|
 .v 90 (vI a1) <|
 .v 91 (vI (qc (a1 - 1))) <|
 .cons [92,94,109,110,94] (QI true fr [] [108] (fun u29=>[YZ fr 4 ((u27 3).o 1) t28.2.raw.length ((u27 3).n 1) (t28.2.raw.flatMap qr)]) [94] (fun u29=>[.blk b_a0 [.slice ((u27 3).o 1) t28.2.raw.length ((u27 3).n 1),vI t28.2.n] 184]) 85 _ (fun u29=>[]) _ _ _ [109,110,94] 92 (fun u29 w hB hF hM=>IH (⟨t28.2.raw,t28.2.n⟩:X1) (qc (a1 - 1)) b_a0 ((u27 3).o 1) ((u27 3).n 1) t30 w  hF hM ht30) (fun u29 w hF=>⟨trivial,⟨Zx (qj hF.1) (fun j h=>ZN (.head _) (fun h=>h) h (Y7 hF.1 _ h)),trivial⟩⟩) (fun u29 g=>(ql Qw (ql (QZ (by decide)) (ql Zh qC)))) (.inl rfl) (fun _=>hBf)) <|
 .cons [93,111] (QI false fr [5] [107,109] (fun u29=>[Qm 61 4 ((u27 3).o 0) ((u27 3).n 0) t28.1 qr,Qm 61 4 ((u29 5).o 0) ((u29 5).n 0) t30.1 qr]) [] (fun u29=>[]) 108 _ _ _ _ _ [111] 93 (fun u29 w hB hF hM=>Yh.calls (qc (1+(Int.tmod (QW .i64 t8.Op 255) 10))) t28.1 t30.1 ((u27 3).o 0) ((u27 3).n 0) ((u29 5).o 0) ((u29 5).n 0) t31 w  hB ht31) (fun u29 w hF=>⟨⟨q9 (qw (Qe hF.1)) (fun j h=>⟨_,(.head _),(YT h)⟩),q9 (qw (Qe hF.2.1)) (fun j h=>⟨_,(.tail _ (.head _)),(YT h)⟩),trivial⟩,trivial⟩) (fun u29 g=>(ql Qw qC)) (.inr (fun u29 g=>(Qv trivial (fun K h=>by cases h)))) (fun h=>by cases h) (hloc:=fun u u' h=>⟨by first | rfl | simp only [h 5 (by decide)],by first | rfl | simp only [h 5 (by decide)],by first | rfl | simp only [h 5 (by decide)],by first | rfl | simp only [h 5 (by decide)],by first | rfl | simp only [h 5 (by decide)],by first | rfl | simp only [h 5 (by decide)]⟩)) <|
 .cons [4] (qn (fun u29=>.slice ((u29 6).o 0) t31.length ((u29 6).n 0)) 4)<|.nil) [4,94,110,111,999998] fun u29 a w' H=>?_
      refine qF ?_
      obtain rfl:=sj G
      obtain ⟨g,o0,n0,o1,n1⟩:∃ g:Gh,g.o 0=((u29 6).o 0)∧g.n 0=((u29 6).n 0)∧g.o 1=((u29 5).o 1)∧g.n 1=((u29 5).n 1):=⟨⟨fun i=>[((u29 6).n 0),((u29 5).n 1)].getD i 0,fun i=>[((u29 6).o 0),((u29 5).o 1)].getD i none,fun i=>([⟨Unit,()⟩,⟨Unit,()⟩]:List ((T:Type) × T)).getD i ⟨Unit,()⟩⟩,rfl,rfl,rfl,rfl⟩
      refine QR H _ g _ _ _ fr [111,110,94] [] (.slice ((u29 6).o 0) t31.length ((u29 6).n 0)) [fun _=>Qm 61 4 ((u29 6).o 0) ((u29 6).n 0) t31 qr,fun fr=>YZ fr 4 ((u29 5).o 1) t30.2.raw.length ((u29 5).n 1) (t30.2.raw.flatMap qr),fun _=>.blk b_a0 [.slice ((u29 5).o 1) t30.2.raw.length ((u29 5).n 1),vI t30.2.n] 184] (by simp only [Qm,o0,n0,o1,n1]) (by simp only [Qm,o0,n0,o1,n1]) hfr (.inr (by kernel_rfl)) (ql Qw (ql (QZ (by decide)) (ql Zh qC))) (by simp)
theorem Ye.calls (k0:Nat) (a0:List qu) (a1:Int) (a2:Int) (p_a0:Option Addr) (c_a0:Nat) (r:List qu) (w:World) (hF:Xx [qB qk 4 p_a0 c_a0 a0 qr] w) (G:Ye k0 a0 a1 a2=some r) :
  Calls Tryz.prog 65 #[.slice p_a0 a0.length c_a0,vI a1,vI a2] w fun e w'=>∃ g:Gh,e = .returned (.slice (g.o 0) r.length (g.n 0))∧Zg (Y4 []) w w'∧Ys w.heap.size (Y4 []) (JH w.heap.size [qB qk 4 p_a0 c_a0 a0 qr]) [fun _=>Qm 61 4 (g.o 0) (g.n 0) r qr] w':=by
 obtain ⟨fr,hfr,hBf⟩:=VE w [qB qk 4 p_a0 c_a0 a0 qr]
 refine QO (args:=[.slice p_a0 a0.length c_a0,vI a1,vI a2]) 19 [(19,qB fr 4 p_a0 c_a0 a0 qr)] (by
  intro x hx
  simp only [List.mem_cons,List.not_mem_nil,or_false] at hx
  rcases hx with rfl
  exact qy (qj hF.1) (fun j h=>by rw [hfr]; exact .inr ⟨_,(.head _),h⟩) (by decide) _) Tryz.func65 rfl (by kernel_rfl) (by kernel_rfl) fun a H=>?_
 unfold Ye at G
 refine qg qd H (.v 6 (.slice none 0 0)<|.nil) [0,1,2,19] fun u1 a w' H=>?_
 refine qv ?_
 replace G:=gd G; obtain ⟨b3,G⟩:=G
 refine Qt qd H (.v 8 (.slice p_a0 a0.length c_a0) <|
 .v 9 (.slice p_a0 a0.length c_a0) <|
 .v 10 (vI (a0.length:Int)) <|
 .v 11 (vI a1) <|
 .v 12 (vI (mn (a0.length:Int) a1)) <|
 .cons [13] (Zq [19] (fun u2=>[qB fr 4 p_a0 c_a0 a0 qr]) (fun u2=>.slice p_a0 ((a0.take (mn (a0.length:Int) a1).toNat).length) c_a0) (fun u2=>true) [true,true] 13 (fun u2 w _ hF=>Zz (by kernel_rfl) (qeE (t:=59) (sz:=4) (l:=a0) (k:=.i64) rfl b3 (qj hF.1).1))) <|
 .v 14 (vI a2) <|
 .v 15 (.agg #[.slice p_a0 ((a0.take (mn (a0.length:Int) a1).toNat).length) c_a0,vI a2]) <|
 .cons [16,20] (qs (fun b=>vP b 0) (fun u2=>[.slice p_a0 ((a0.take (mn (a0.length:Int) a1).toNat).length) c_a0,vI a2]) 184 16 20) <|
 .cons [7] (qn (fun u2=>vP ((u2 8).n 0) 0) 7)<|.nil) [7,19,20] fun u2 a w' H=>?_
 obtain ⟨t5,ht5,G⟩:=qP G
 refine qg qd H (.v 17 (vP ((u2 8).n 0) 0) <|
 .cons [18,20,21,22,20] (QI true fr [] [19] (fun u4=>[qB fr 4 p_a0 c_a0 a0 qr]) [20] (fun u4=>[.blk ((u2 8).n 0) [.slice p_a0 ((a0.take (mn (a0.length:Int) a1).toNat).length) c_a0,vI a2] 184]) 85 _ (fun u4=>[]) _ _ _ [21,22,20] 18 (fun u4 w hB hF hM=>qL.calls k0 (⟨(a0.take (mn (a0.length:Int) a1).toNat),a2⟩:X1) 5 ((u2 8).n 0) p_a0 c_a0 t5 w  hF hM ht5) (fun u4 w hF=>⟨trivial,⟨Zx (XO.high (en:=qr) (qj hF.1) QJ b3) (fun j h=>ZN (.head _) (fun h=>h) (qaa (List.length_take_le_self _ _) h) (Y7 hF.1 _ (qaa (List.length_take_le_self _ _) h))),trivial⟩⟩) (fun u4 g=>(ql Qw (ql (QZ (by decide)) (ql Zh qC)))) (.inl rfl) (fun _=>hBf)) <|
 .cons [6] (qn (fun u4=>.slice ((u4 1).o 0) t5.1.length ((u4 1).n 0)) 6)<|.nil) [6,21] fun u4 a w' H=>?_
 refine qF ?_
 obtain rfl:=sj G
 obtain ⟨g,o0,n0⟩:=ZX ((u4 1).o 0) ((u4 1).n 0)
 refine QR H _ g _ _ _ fr [21] [] (.slice ((u4 1).o 0) t5.1.length ((u4 1).n 0)) [fun _=>Qm 61 4 ((u4 1).o 0) ((u4 1).n 0) t5.1 qr] (by simp only [Qm,o0,n0]) (by simp only [Qm,o0,n0]) hfr (.inl ⟨rfl,rfl⟩) (ql Qw qC) (by simp)
theorem q8.calls (k0:Nat) (a0:List (List qu)) (a1:Int) (a2:Int) (p_a0:Option Addr) (c_a0:Nat) (L_a0:List (Sl qu)) (r:YF) (w:World) (h_a0:a0=L_a0.map Sl.l) (hB:Xx [qB qk 1 p_a0 c_a0 L_a0 Qs] w) (hF:Xx [X7 qk QQ.toPart L_a0] w) (G:q8 k0 a0 a1 a2=some r) :
  Calls Tryz.prog 42 #[.slice p_a0 L_a0.length c_a0,vI a1,vI a2] w fun e w'=>∃ g:Gh,e = .returned (.agg #[.slice (g.o 0) r.Names.length (g.n 0),.slice (g.o 1) ((g.dl Sl.l Qo 1 r.F).length) (g.n 1)])∧Zg (Y4 []) w w'∧Ys w.heap.size (Y4 []) (JH w.heap.size [X7 qk QQ.toPart L_a0]) [fun _=>X6 9 1 (g.o 0) r.Names.length (g.n 0) (r.Names.flatMap YE),fun _=>Zn 59 61 4 qr (g.o 1) ((g.dl Sl.l Qo 1 r.F).length) (g.n 1) (g.dl Sl.l Qo 1 r.F) (g.dl Sl.l Qo 1 r.F)] w':=by
 obtain ⟨fr,hfr⟩:∃ fr:Nat→Prop,fr=JH w.heap.size [X7 qk QQ.toPart L_a0]:=⟨_,rfl⟩
 have hBf:∀ j,w.heap.size≤j→fr j:=fun j h=>by rw [hfr]; exact .inl h
 refine QO (args:=[.slice p_a0 L_a0.length c_a0,vI a1,vI a2]) 46 [(46,qB qk 1 p_a0 c_a0 L_a0 Qs),(47,X7 fr QQ.toPart L_a0)] (by
  intro x hx
  simp only [List.mem_cons,List.not_mem_nil,or_false] at hx
  rcases hx with rfl | rfl
  ·exact qy (qj hB.1) (fun _ _=>trivial) (by decide) _
  ·exact ZQ (Xl hF.1) (fun j h=>by rw [hfr]; exact .inr ⟨_,(.head _),h⟩) _) Tryz.func42 rfl (by kernel_rfl) (by kernel_rfl) fun a H=>?_
 unfold q8 at G
 refine qv ?_
 refine Ju qd H (.cons [6,48] (qs (fun b=>vP b 0) (fun u1=>[.slice none 0 0,.slice none 0 0]) 43 6 48)<|.nil) fun u1 a w' H=>?_
 replace H:=H.kp [0,1,2,6,46,47,48]
 refine qv ?_
 refine Ju qd H (.v 11 (.agg #[.slice none 0 0,.slice none 0 0]) <|
   .cons [12,49] (qs (fun b=>.slice (some ⟨b,0,none⟩) 6 6) (fun u2=>[.string (⟨#[120]⟩:ByteArray),.string (⟨#[121]⟩:ByteArray),.string (⟨#[118,120]⟩:ByteArray),.string (⟨#[118,121]⟩:ByteArray),.string (⟨#[97,49]⟩:ByteArray),.string (⟨#[122,122]⟩:ByteArray)]) 9 12 49) <|
   .cons [7,50] (qs (fun b=>vP b 0) (fun u2=>[.slice none 0 0,.slice none 0 0]) 43 7 50) <|
   .cons [50] (QL (u':=fun u2=>[(50,.blk ((u2 2).n 0) [.slice none 0 0,.slice none 0 0] 43)]) (qW 50 0 (fun u2=>((u2 2).n 0)) (fun u2=>[.slice none 0 0,.slice none 0 0]) (fun u2=>[.slice none 0 0,.slice none 0 0]) 43) (fun _=>by kernel_rfl)) <|
   .cons [8] (qn (fun u2=>.slice (some ⟨((u2 1).n 0),0,none⟩) 6 6) 8)<|.nil) fun u2 a w' H=>?_
 replace H:=H.kp [0,1,2,6,7,8,46,47,48,49,50]
 refine qv ?_
 replace G:=qP G; obtain ⟨j5,hj5,G⟩:=G
 refine Xq (fun a w'=>∃ (p_j3:Option Addr) (c_j3 np_j3:Nat),np_j3=j5.1.length ∧ ∃ (p_j4:Option Addr) (c_j4 np_j4:Nat) (L_j4:List (Sl qu)),np_j4=L_j4.length∧j5.2=L_j4.map Sl.l∧QS w.heap.size w 46 (Jl [(6,(sP ((u1 0).n 0) 0)),(7,(sP ((u2 2).n 0) 0)),(48,.blk ((u1 0).n 0) [.slice none 0 0,.slice none 0 0] 43),(50,.blk ((u2 2).n 0) [.slice p_j3 np_j3 c_j3,.slice p_j4 np_j4 c_j4] 43),(900072,X6 9 1 p_j3 np_j3 c_j3 (j5.1.flatMap YE)),(900073,Zn 59 61 4 qr p_j4 np_j4 c_j4 L_j4 L_j4)]) a w') ?_ ?_
 ·clear H; rintro a w' ⟨p_j3,c_j3,_,rfl,p_j4,c_j4,_,L_j4,rfl,h_j4,H⟩
  refine qv ?_
  refine Ju qd H (.cons [45] (VH (fun u6=>.agg #[.slice p_j3 j5.1.length c_j3,.slice p_j4 L_j4.length c_j4]) 45 50 0 2 (fun u6=>((u2 2).n 0)) (fun u6=>[.slice p_j3 j5.1.length c_j3,.slice p_j4 L_j4.length c_j4]) 43) <|
   .cons [48] (QL (u':=fun u6=>[(48,.blk ((u1 0).n 0) [.slice p_j3 j5.1.length c_j3,.slice p_j4 L_j4.length c_j4] 43)]) (qW 48 0 (fun u6=>((u1 0).n 0)) (fun u6=>[.slice none 0 0,.slice none 0 0]) (fun u6=>[.slice p_j3 j5.1.length c_j3,.slice p_j4 L_j4.length c_j4]) 43) (fun _=>by kernel_rfl))<|.nil) fun u6 a w' H=>?_
  replace H:=H.kp [6,48,900072,900073]
  refine qF ?_
  obtain rfl:=Option.some.inj G
  obtain ⟨g,o0,n0,o1,n1,d1⟩:∃ g:Gh,g.o 0=p_j3∧g.n 0=c_j3∧g.o 1=p_j4∧g.n 1=c_j4∧g.dl Sl.l Qo 1 j5.2=L_j4:=⟨⟨fun i=>[c_j3,c_j4].getD i 0,fun i=>[p_j3,p_j4].getD i none,fun i=>([⟨Unit,()⟩,⟨List (Sl qu),L_j4⟩]:List ((T:Type) × T)).getD i ⟨Unit,()⟩⟩,rfl,rfl,rfl,rfl,qcX rfl h_j4⟩
  refine QR H (fun g=>.agg #[.slice (g.o 0) j5.1.length (g.n 0),.slice (g.o 1) ((g.dl Sl.l Qo 1 j5.2).length) (g.n 1)]) g [] [X7 qk QQ.toPart L_a0] (fun g=>[fun _=>X6 9 1 (g.o 0) j5.1.length (g.n 0) (j5.1.flatMap YE),fun _=>Zn 59 61 4 qr (g.o 1) ((g.dl Sl.l Qo 1 j5.2).length) (g.n 1) (g.dl Sl.l Qo 1 j5.2) (g.dl Sl.l Qo 1 j5.2)]) fr [900072,900073] [(48,⟨((u1 0).n 0),[.slice p_j3 j5.1.length c_j3,.slice p_j4 L_j4.length c_j4],0,2⟩)] (.agg #[.slice p_j3 j5.1.length c_j3,.slice p_j4 L_j4.length c_j4]) [fun _=>X6 9 1 p_j3 j5.1.length c_j3 (j5.1.flatMap YE),fun _=>Zn 59 61 4 qr p_j4 L_j4.length c_j4 L_j4 L_j4] (by simp only [o0,n0,o1,n1,d1]) (by simp only [o0,n0,o1,n1,d1]) hfr (.inl ⟨rfl,rfl⟩) (ql Qw (ql Jb qC)) (by intro p hp; simp only [List.mem_cons,List.not_mem_nil,or_false] at hp; rcases hp with rfl; exact ⟨⟨43,by kernel_rfl⟩,by kernel_rfl⟩)
 ·clear G; replace G:=hj5; clear hj5
  refine qv ?_
  refine Ju qd H (.v 9 (vI 0)<|.nil) fun u7 a w' H=>?_
  replace H:=H.kp [0,1,2,6,7,8,9,46,47,48,49,50]
  refine q6 ?_
  replace H:=H.nil_row 65 9 1
  replace H:=H.nil_row 67 59 1
  replace H:=H.nest0 (e:=59) (m:=0) (cap:=0) (p:=none) (H:=([]:List (Sl qu))) 67 61 4 qr (by kernel_rfl) (fun x h=>by cases h)
  replace H:=H.move (K:=X6 9 1 none 0 0 (([]:List ByteArray).flatMap YE)) 65 900075 (by kernel_rfl) (by intro _ _ h; cases h)
  replace H:=H.move (K:=Zn 59 61 4 qr none 0 0 ([]:List (Sl qu)) ([]:List (Sl qu))) 67 900076 (by kernel_rfl) (by intro _ _ h; cases h)
  refine XP (fun m a w'=>∃ x8:List ByteArray,∃ x9:List (List qu),∃ x10:Int,q8.l11 k0 a0 a1 a2 m x8 x9 x10=some j5 ∧ ∃ (p_x8:Option Addr) (c_x8 np_x8:Nat),np_x8=x8.length ∧ ∃ (p_x9:Option Addr) (c_x9 np_x9:Nat) (L_x9:List (Sl qu)),np_x9=L_x9.length∧x9=L_x9.map Sl.l∧QS w.heap.size w 46 (Jl [(0,sS p_a0 L_a0.length c_a0),(1,sI a1),(2,sI a2),(6,(sP ((u1 0).n 0) 0)),(7,(sP ((u2 2).n 0) 0)),(8,(sS (some ⟨((u2 1).n 0),0,none⟩) 6 6)),(9,sI x10),(46,qB qk 1 p_a0 c_a0 L_a0 Qs),(47,X7 fr QQ.toPart L_a0),(48,.blk ((u1 0).n 0) [.slice none 0 0,.slice none 0 0] 43),(49,.blk ((u2 1).n 0) [.string (⟨#[120]⟩:ByteArray),.string (⟨#[121]⟩:ByteArray),.string (⟨#[118,120]⟩:ByteArray),.string (⟨#[118,121]⟩:ByteArray),.string (⟨#[97,49]⟩:ByteArray),.string (⟨#[122,122]⟩:ByteArray)] 9),(50,.blk ((u2 2).n 0) [.slice p_x8 np_x8 c_x8,.slice p_x9 np_x9 c_x9] 43),(900075,X6 9 1 p_x8 np_x8 c_x8 (x8.flatMap YE)),(900076,Zn 59 61 4 qr p_x9 np_x9 c_x9 L_x9 L_x9)]) a w') k0 ⟨_,_,_,G,none,0,0,rfl,none,0,0,([]:List (Sl qu)),rfl,rfl,H.toL _ (by kernel_rfl)⟩ ?_
  clear G H
  rintro (_ | k) a w' ⟨x8,x9,x10,G,p_x8,c_x8,_,rfl,p_x9,c_x9,_,L_x9,rfl,h_x9,H⟩
  ·exact absurd G (by unfold q8.l11; exact fun h=>by cases h)
  ·unfold q8.l11 at G
   refine qv ?_
   refine qv ?_
   refine Ju qd H (.v 13 (vI x10) <|
   .v 14 (vI a2) <|
   .v 15 (.bool (decide (x10<a2)))<|.nil) fun u12 a w' H=>?_
   replace H:=H.kp [0,1,2,6,7,8,9,15,46,47,48,49,50,900075,900076]
   refine qal H (by kernel_rfl) (t:=decide (x10<a2)) (by kernel_rfl) (fun c29=>?_) (fun c29=>?_)
   ·rw [if_pos c29] at G
    refine Qf ?_
    refine qv ?_
    refine q6 ?_
    refine qv ?_
    refine Ju qd H (.cons [18,51] (qs (fun b=>.slice (some ⟨b,0,none⟩) 0 0) (fun u13=>[]) 61 18 51) <|
   .cons [10] (qn (fun u13=>.slice (some ⟨((u13 0).n 0),0,none⟩) 0 0) 10)<|.nil) fun u13 a w' H=>?_
    replace H:=H.kp [0,1,2,6,7,8,9,10,46,47,48,49,50,51,900075,900076]
    refine qv ?_
    replace G:=qP G; obtain ⟨j15,hj15,G⟩:=G
    refine Xq (fun a w'=>∃ (p_j14:Option Addr) (c_j14 np_j14:Nat),np_j14=j15.length∧QS w.heap.size w 46 (Jl [(0,sS p_a0 L_a0.length c_a0),(1,sI a1),(2,sI a2),(6,(sP ((u1 0).n 0) 0)),(7,(sP ((u2 2).n 0) 0)),(8,(sS (some ⟨((u2 1).n 0),0,none⟩) 6 6)),(9,sI x10),(10,sS p_j14 np_j14 c_j14),(46,qB qk 1 p_a0 c_a0 L_a0 Qs),(47,X7 fr QQ.toPart L_a0),(48,.blk ((u1 0).n 0) [.slice none 0 0,.slice none 0 0] 43),(49,.blk ((u2 1).n 0) [.string (⟨#[120]⟩:ByteArray),.string (⟨#[121]⟩:ByteArray),.string (⟨#[118,120]⟩:ByteArray),.string (⟨#[118,121]⟩:ByteArray),.string (⟨#[97,49]⟩:ByteArray),.string (⟨#[122,122]⟩:ByteArray)] 9),(50,.blk ((u2 2).n 0) [.slice p_x8 x8.length c_x8,.slice p_x9 L_x9.length c_x9] 43),(900075,X6 9 1 p_x8 x8.length c_x8 (x8.flatMap YE)),(900076,Zn 59 61 4 qr p_x9 L_x9.length c_x9 L_x9 L_x9),(900078,YZ fr 4 p_j14 np_j14 c_j14 (j15.flatMap qr))]) a w') ?_ ?_
    ·clear H; rintro a w' ⟨p_j14,c_j14,_,rfl,H⟩
     refine qv ?_
     replace G:=gd G; obtain ⟨b17,G⟩:=G
     replace G:=qP G; obtain ⟨t18,ht18,G⟩:=G
     replace G:=gd G; obtain ⟨b19,G⟩:=G
     refine Ju qd H (.v 27 (vP ((u2 2).n 0) 0) <|
   .cons [28] (VH (fun u16=>.slice p_x8 x8.length c_x8) 28 50 0 1 (fun u16=>((u2 2).n 0)) (fun u16=>[.slice p_x8 x8.length c_x8,.slice p_x9 L_x9.length c_x9]) 43) <|
   .v 29 (.slice (some ⟨((u2 1).n 0),0,none⟩) 6 6) <|
   .v 30 (vI x10) <|
   .cons [31] (qn (fun u16=>.pointer (some ⟨((u2 1).n 0),(0+x10.toNat * 1),none⟩)) 31 (hv:=fun u16 _=>Zz (by kernel_rfl) (JQ (t:=40) (b:=((u2 1).n 0)) (o:=0) (len:=6) (cap:=6) (k:=.i64) (i:=x10) (sz:=1) (by kernel_rfl) (by kernel_rfl) b17))) <|
   .cons [32] (qf2 (fun u16=>.string t18) 32 49 (fun u16=>(0+x10.toNat * 1)) (fun u16=>((u2 1).n 0)) (fun u16=>[.string (⟨#[120]⟩:ByteArray),.string (⟨#[121]⟩:ByteArray),.string (⟨#[118,120]⟩:ByteArray),.string (⟨#[118,121]⟩:ByteArray),.string (⟨#[97,49]⟩:ByteArray),.string (⟨#[122,122]⟩:ByteArray)]) 9 (fun u16=>qeZ ht18)) <|
   .cons [33,52] (qs (fun b=>.slice (some ⟨b,0,none⟩) 1 1) (fun u16=>[.string t18]) 9 33 52) <|
   .cons [34,900075,900075] (XC [6] [52] (fun u16=>[.blk ((u16 6).n 0) [.string t18] 9]) 900075 (fun u16=>X6 9 1 p_x8 x8.length c_x8 (x8.flatMap YE)) (some 34) (fun u16 g=>.slice (g.o 0) (x8++[t18]).length (g.n 0)) (fun u16 g=>X6 9 1 (g.o 0) ((x8++[t18]).length) (g.n 0) ((x8++[t18]).flatMap YE)) (fun u16 w hF hK=>J9 (Yy (t:=40) (ty:=40) (en:=YE) qcq qgE (Qe hK) hF.1 (news:=[t18]) rfl (by simp) (by kernel_rfl) b19)) (hloc:=fun u u' h=>⟨by first | rfl | simp only [h 6 (by decide)],by first | rfl | simp only [h 6 (by decide)],by first | rfl | simp only [h 6 (by decide)],by first | rfl | simp only [h 6 (by decide)]⟩)) <|
   .v 35 (vP ((u2 2).n 0) 0) <|
   .cons [50] (QL (u':=fun u16=>[(50,.blk ((u2 2).n 0) [.slice ((u16 7).o 0) ((x8++[t18]).length) ((u16 7).n 0),.slice p_x9 L_x9.length c_x9] 43)]) (qW 50 0 (fun u16=>((u2 2).n 0)) (fun u16=>[.slice p_x8 x8.length c_x8,.slice p_x9 L_x9.length c_x9]) (fun u16=>[.slice ((u16 7).o 0) ((x8++[t18]).length) ((u16 7).n 0)]) 43) (fun _=>by kernel_rfl))<|.nil) fun u16 a w' H=>?_
     replace H:=H.kp [0,1,2,6,7,8,9,10,46,47,48,49,50,900075,900076,900078]
     replace H:=H.nil_row 53 59 1
     replace H:=H.nest0 (e:=59) (m:=0) (cap:=0) (p:=none) (H:=([]:List (Sl qu))) 53 61 4 qr (by kernel_rfl) (fun x h=>by cases h)
     replace G:=qP G; obtain ⟨t21,ht21,G⟩:=G
     replace G:=gd G; obtain ⟨b22,G⟩:=G
     refine ZC qd H (.v 36 (vP ((u2 2).n 0) 1) <|
   .cons [37] (VH (fun u20=>.slice p_x9 L_x9.length c_x9) 37 50 1 1 (fun u20=>((u2 2).n 0)) (fun u20=>[.slice ((u16 7).o 0) ((x8++[t18]).length) ((u16 7).n 0),.slice p_x9 L_x9.length c_x9]) 43) <|
   .v 38 (.slice p_j14 j15.length c_j14) <|
   .v 39 (vI a1) <|
   .v 40 (vI a2) <|
   .cons [41,54] (QI false fr [] [900078] (fun u20=>[qB fr 4 p_j14 c_j14 j15 qr]) [] (fun u20=>[]) 65 (fun u20=>#[.slice p_j14 j15.length c_j14,vI a1,vI a2]) (fun u20=>[]) (fun u20=>[qB qk 4 p_j14 c_j14 j15 qr]) (fun u20 g=>.slice (g.o 0) t21.length (g.n 0)) (fun u20 g=>[fun _=>X6 61 4 (g.o 0) t21.length (g.n 0) (t21.flatMap qr)]) [54] 41 (fun u20 w hB hF hM=>Ye.calls k0 j15 a1 a2 p_j14 c_j14 t21 w  hF ht21) (fun u20 w hF=>⟨trivial,⟨q9 (qj hF.1) (fun j h=>⟨_,(.head _),h⟩),trivial⟩⟩) (fun u20 g=>(ql Qw qC)) (.inr (fun u20 g=>(Qv trivial (fun K h=>by cases h)))) (fun h=>by cases h)) <|
   .cons [42,55] (qs (fun b=>.slice (some ⟨b,0,none⟩) 1 1) (fun u20=>[.slice ((u20 5).o 0) t21.length ((u20 5).n 0)]) 59 42 55) <|
   .cons [43,900076,54,900076] (qa7 [5,6] [55] (fun u20=>[.blk ((u20 6).n 0) [.slice ((u20 5).o 0) t21.length ((u20 5).n 0)] 59]) 900076 54 (fun u20=>Zn 59 61 4 qr p_x9 L_x9.length c_x9 L_x9 L_x9) (fun u20=>X6 61 4 ((u20 5).o 0) t21.length ((u20 5).n 0) (t21.flatMap qr)) (some 43) (fun u20 g=>.slice (g.o 0) (L_x9++[(⟨((u20 5).o 0),((u20 5).n 0),t21⟩:Sl qu)]).length (g.n 0)) (fun u20 g=>Zn 59 61 4 qr (g.o 0) ((L_x9++[(⟨((u20 5).o 0),((u20 5).n 0),t21⟩:Sl qu)]).length) (g.n 0) (L_x9++[(⟨((u20 5).o 0),((u20 5).n 0),t21⟩:Sl qu)]) (L_x9++[(⟨((u20 5).o 0),((u20 5).n 0),t21⟩:Sl qu)])) (fun u20 w hF hK hK2 hd=>qeX hK hK2 hd QJ (by decide) (fun hn h=>Yy (t:=41) (ty:=41) (en:=Qs) qR qfp h hF.1 (news:=[(⟨((u20 5).o 0),((u20 5).n 0),t21⟩:Sl qu)]) rfl (by simp) (by kernel_rfl) (by rw [← qT h_x9]; exact b22))) (hloc:=fun u u' h=>⟨by first | rfl | simp only [h 5 (by decide),h 6 (by decide)],by first | rfl | simp only [h 5 (by decide),h 6 (by decide)],by first | rfl | simp only [h 5 (by decide),h 6 (by decide)],by first | rfl | simp only [h 5 (by decide),h 6 (by decide)],by first | rfl | simp only [h 5 (by decide),h 6 (by decide)]⟩)) <|
   .v 44 (vP ((u2 2).n 0) 1) <|
   .cons [50] (QL (u':=fun u20=>[(50,.blk ((u2 2).n 0) [.slice ((u16 7).o 0) ((x8++[t18]).length) ((u16 7).n 0),.slice ((u20 7).o 0) ((L_x9++[(⟨((u20 5).o 0),((u20 5).n 0),t21⟩:Sl qu)]).length) ((u20 7).n 0)] 43)]) (qW 50 1 (fun u20=>((u2 2).n 0)) (fun u20=>[.slice ((u16 7).o 0) ((x8++[t18]).length) ((u16 7).n 0),.slice p_x9 L_x9.length c_x9]) (fun u20=>[.slice ((u20 7).o 0) ((L_x9++[(⟨((u20 5).o 0),((u20 5).n 0),t21⟩:Sl qu)]).length) ((u20 7).n 0)]) 43) (fun _=>by kernel_rfl))<|.nil) (by kernel_rfl) fun u20 a w' H=>?_
     replace H:=H.kp [0,1,2,6,7,8,9,46,47,48,49,50,53,900075,900076]
     refine Ju qd H (.v 16 (vI x10) <|
   .v 17 (vI (qc (x10+1))) <|
   .v 9 (vI (qc (x10+1)))<|.nil) fun u23 a w' H=>?_
     replace H:=H.kp [0,1,2,6,7,8,9,46,47,48,49,50,53,900075,900076]
     exact ⟨k,Nat.lt_succ_self k,_,_,_,G,((u16 7).o 0),((u16 7).n 0),(x8++[t18]).length,rfl,((u20 7).o 0),((u20 7).n 0),(L_x9++[(⟨((u20 5).o 0),((u20 5).n 0),t21⟩:Sl qu)]).length,(L_x9++[(⟨((u20 5).o 0),((u20 5).n 0),t21⟩:Sl qu)]),rfl,(qa8 h_x9 (⟨((u20 5).o 0),((u20 5).n 0),t21⟩:Sl qu)),H.toL _ (by kernel_rfl)⟩
    ·clear G; replace G:=hj15; clear hj15
     refine qv ?_
     refine Ju qd H (.v 19 (vI x10) <|
   .v 20 (.slice p_a0 L_a0.length c_a0) <|
   .cons [21] (Zq [46] (fun u24=>[qB qk 1 p_a0 c_a0 L_a0 Qs]) (fun u24=>vI (a0.length:Int)) (fun u24=>true) [true] 21 (fun u24 w hg hF=>Yt (((qj hF.1).2.len qR (by decide)).trans (qT h_a0).symm) (by kernel_rfl))) <|
   .v 22 (.bool (decide (x10<(a0.length:Int))))<|.nil) fun u24 a w' H=>?_
     replace H:=H.kp [0,1,2,6,7,8,9,10,22,46,47,48,49,50,51,900075,900076]
     refine qal H (by kernel_rfl) (t:=decide (x10<(a0.length:Int))) (by kernel_rfl) (fun c28=>?_) (fun c28=>?_)
     ·rw [if_pos c28] at G
      replace G:=gd G; obtain ⟨b26,G⟩:=G
      replace G:=qP G; obtain ⟨t27,ht27,G⟩:=G
      obtain ⟨p_t27,c_t27,y_t27⟩:=Yf h_a0 ht27
      refine Ju qd H (.v 23 (.slice p_a0 L_a0.length c_a0) <|
   .v 24 (vI x10) <|
   .cons [25] (Zq [46] (fun u25=>[qB qk 1 p_a0 c_a0 L_a0 Qs]) (fun u25=>.pointer (some ⟨Xf p_a0,Xg p_a0+x10.toNat * 1,none⟩)) (fun u25=>true) [true,true] 25 (fun u25 w hg hF=>qbb (t:=41) (k:=.i64) (i:=x10) (p:=p_a0) (n:=L_a0.length) (cap:=c_a0) (x:=a0) (en:=Qs) (qj hF.1).2 qR (qT h_a0) b26 (by kernel_rfl))) <|
   .cons [26] (Zq [46] (fun u25=>[qB qk 1 p_a0 c_a0 L_a0 Qs]) (fun u25=>.slice p_t27 t27.length c_t27) (fun u25=>true) [true] 26 (fun u25 w hg hF=>qch (en:=Qs) (qj hF.1).2 qR y_t27 0 1 [.slice p_t27 t27.length c_t27] rfl (by kernel_rfl))) <|
   .v 10 (.slice p_t27 t27.length c_t27)<|.nil) fun u25 a w' H=>?_
      replace H:=H.kp [0,1,2,6,7,8,9,10,46,47,48,49,50,900075,900076]
      obtain rfl:=Option.some.inj G
      replace H:=H.addF 59 (qB fr 4 p_t27 c_t27 t27 qr) [47] [X7 fr QQ.toPart L_a0] (by kernel_rfl) (fun h=>h) (by intro _ _ h; cases h) (fun hF=>(qy (show XO _ 4 p_t27 t27.length c_t27 (t27.flatMap qr) from ((Xl hF.1) _ (List.mem_of_getElem? y_t27)).1) (fun j h=>(V1 hF.1 _ ⟨_,(List.mem_of_getElem? y_t27),(.inl h)⟩)) (by decide) 0).2.1) (fun hF j h=>⟨_,.head _,(fun h=>h),⟨_,(List.mem_of_getElem? y_t27),(.inl h)⟩⟩)
      replace H:=H.dup (K:=qB fr 4 p_t27 c_t27 t27 qr) 59 900078 (by kernel_rfl) (fun h=>h) (by intro _ _ h; cases h)
      exact ⟨p_t27,c_t27,t27.length,rfl,H.toL _ (by kernel_rfl)⟩
     ·rw [if_neg (nt c28)] at G
      refine Qf ?_
      obtain rfl:=Option.some.inj G
      replace H:=H.blk_row 51 ((u13 0).n 0) [] 61 4 0 (by kernel_rfl) (by kernel_rfl) (by decide)
      replace H:=H.demote fr 51 61 4 (some ⟨((u13 0).n 0),0,none⟩) 0 0 (([]:List qu).flatMap qr) (by kernel_rfl) (by decide) hBf
      replace H:=H.dup (K:=YZ fr 4 (some ⟨((u13 0).n 0),0,none⟩) 0 0 (([]:List qu).flatMap qr)) 51 900078 (by kernel_rfl) (fun h=>h) (by intro _ _ h; cases h)
      exact ⟨(some ⟨((u13 0).n 0),0,none⟩),0,0,rfl,H.toL _ (by kernel_rfl)⟩
   ·rw [if_neg (nt c29)] at G
    refine Yk rfl ?_
    obtain rfl:=Option.some.inj G
    replace H:=H.move (K:=X6 9 1 p_x8 x8.length c_x8 (x8.flatMap YE)) 900075 900072 (by kernel_rfl) (by intro _ _ h; cases h)
    replace H:=H.move (K:=Zn 59 61 4 qr p_x9 L_x9.length c_x9 L_x9 L_x9) 900076 900073 (by kernel_rfl) (by intro _ _ h; cases h)
    exact ⟨p_x8,c_x8,x8.length,rfl,p_x9,c_x9,L_x9.length,L_x9,rfl,h_x9,H.toL _ (by kernel_rfl)⟩
theorem Qk.calls (k0:Nat) (a0:X4) (p_a0_L:Option Addr) (c_a0_L:Nat) (L_a0_L:List (Sl qu)) (p_a0_X:Option Addr) (c_a0_X:Nat) (p_a0_S:Option Addr) (c_a0_S:Nat) (r:YF × List qb) (w:World) (h_a0_L:a0.L=L_a0_L.map Sl.l) (hB:Xx [qB qk 1 p_a0_L c_a0_L L_a0_L Qs,X7 qk QQ.toPart L_a0_L,qB qk 2 p_a0_X c_a0_X a0.X qa,qB qk 1 p_a0_S c_a0_S a0.S JA] w) (G:Qk k0 a0=some r) :
  Calls Tryz.prog 16 #[.agg #[.slice p_a0_L L_a0_L.length c_a0_L,.slice p_a0_X a0.X.length c_a0_X,vI a0.T.Lo,vI a0.T.Hi,vI a0.G.T,vI a0.G.H,.int .u8 a0.N,.int .u8 a0.K,.slice p_a0_S a0.S.length c_a0_S]] w fun e w'=>∃ g:Gh,e = .returned (.tuple #[.agg #[.slice (g.o 0) r.1.Names.length (g.n 0),.slice (g.o 1) ((g.dl Sl.l Qo 1 r.1.F).length) (g.n 1)],.slice (g.o 2) r.2.length (g.n 2)])∧Zg (Y4 []) w w'∧Ys w.heap.size (Y4 []) (JH w.heap.size []) [fun _=>X6 9 1 (g.o 0) r.1.Names.length (g.n 0) (r.1.Names.flatMap YE),fun _=>Zn 59 61 4 qr (g.o 1) ((g.dl Sl.l Qo 1 r.1.F).length) (g.n 1) (g.dl Sl.l Qo 1 r.1.F) (g.dl Sl.l Qo 1 r.1.F),fun _=>X6 46 2 (g.o 2) r.2.length (g.n 2) (r.2.flatMap qa)] w':=by
 obtain ⟨fr,hfr⟩:∃ fr:Nat→Prop,fr=JH w.heap.size []:=⟨_,rfl⟩
 have hBf:∀ j,w.heap.size≤j→fr j:=fun j h=>by rw [hfr]; exact .inl h
 refine QO (args:=[.agg #[.slice p_a0_L L_a0_L.length c_a0_L,.slice p_a0_X a0.X.length c_a0_X,vI a0.T.Lo,vI a0.T.Hi,vI a0.G.T,vI a0.G.H,.int .u8 a0.N,.int .u8 a0.K,.slice p_a0_S a0.S.length c_a0_S]]) 40 [(40,qB qk 1 p_a0_L c_a0_L L_a0_L Qs),(41,X7 qk QQ.toPart L_a0_L),(42,qB qk 2 p_a0_X c_a0_X a0.X qa),(43,qB qk 1 p_a0_S c_a0_S a0.S JA)] (by
  intro x hx
  simp only [List.mem_cons,List.not_mem_nil,or_false] at hx
  rcases hx with rfl | rfl | rfl | rfl
  ·exact qy (qj hB.1) (fun _ _=>trivial) (by decide) _
  ·exact ZQ (Xl hB.2.1) (fun _ _=>trivial) _
  ·exact qy (qj hB.2.2.1) (fun _ _=>trivial) (by decide) _
  ·exact qy (qj hB.2.2.2.1) (fun _ _=>trivial) (by decide) _) Tryz.func16 rfl (by kernel_rfl) (by kernel_rfl) fun a H=>?_
 unfold Qk at G
 refine qv ?_
 refine Ju qd H (.cons [1,44] (qs (fun b=>vP b 0) (fun u1=>[.slice p_a0_L L_a0_L.length c_a0_L,.slice p_a0_X a0.X.length c_a0_X,vI a0.T.Lo,vI a0.T.Hi,vI a0.G.T,vI a0.G.H,.int .u8 a0.N,.int .u8 a0.K,.slice p_a0_S a0.S.length c_a0_S]) 56 1 44) <|
   .cons [2,45] (qs (fun b=>vP b 0) (fun u1=>[.slice none 0 0,.slice none 0 0]) 43 2 45) <|
   .v 3 (.slice none 0 0)<|.nil) fun u1 a w' H=>?_
 replace H:=H.kp [1,2,40,41,42,43,44,45]
 refine qv ?_
 refine Ju qd H (.v 8 (vP ((u1 0).n 0) 6) <|
   .cons [9] (VH (fun u2=>.int .u8 a0.N) 9 44 6 1 (fun u2=>((u1 0).n 0)) (fun u2=>[.slice p_a0_L L_a0_L.length c_a0_L,.slice p_a0_X a0.X.length c_a0_X,vI a0.T.Lo,vI a0.T.Hi,vI a0.G.T,vI a0.G.H,.int .u8 a0.N,.int .u8 a0.K,.slice p_a0_S a0.S.length c_a0_S]) 56) <|
   .v 10 (.int .u8 (Int.tmod a0.N 3)) <|
   .v 11 (vI (qc (Int.tmod a0.N 3))) <|
   .v 12 (vI (qc (1+(qc (Int.tmod a0.N 3))))) <|
   .v 4 (vI (qc (1+(qc (Int.tmod a0.N 3)))))<|.nil) fun u2 a w' H=>?_
 replace H:=H.kp [1,2,4,40,41,42,43,44,45]
 refine qv ?_
 refine Ju qd H (.cons [13,46] (qs (fun b=>.slice (some ⟨b,0,none⟩) 0 0) (fun u3=>[]) 46 13 46) <|
   .cons [5] (qn (fun u3=>.slice (some ⟨((u3 0).n 0),0,none⟩) 0 0) 5)<|.nil) fun u3 a w' H=>?_
 replace H:=H.kp [1,2,4,5,40,41,42,43,44,45,46]
 refine qv ?_
 replace G:=qP G; obtain ⟨j5,hj5,G⟩:=G
 refine Xq (fun a w'=>∃ (p_j4:Option Addr) (c_j4 np_j4:Nat),np_j4=j5.length∧QS w.heap.size w 40 (Jl [(1,(sP ((u1 0).n 0) 0)),(2,(sP ((u1 1).n 0) 0)),(4,(sI (qc (1+(qc (Int.tmod a0.N 3)))))),(5,sS p_j4 np_j4 c_j4),(40,qB qk 1 p_a0_L c_a0_L L_a0_L Qs),(41,X7 qk QQ.toPart L_a0_L),(42,qB qk 2 p_a0_X c_a0_X a0.X qa),(43,qB qk 1 p_a0_S c_a0_S a0.S JA),(44,.blk ((u1 0).n 0) [.slice p_a0_L L_a0_L.length c_a0_L,.slice p_a0_X a0.X.length c_a0_X,vI a0.T.Lo,vI a0.T.Hi,vI a0.G.T,vI a0.G.H,.int .u8 a0.N,.int .u8 a0.K,.slice p_a0_S a0.S.length c_a0_S] 56),(45,.blk ((u1 1).n 0) [.slice none 0 0,.slice none 0 0] 43),(900079,X6 46 2 p_j4 np_j4 c_j4 (j5.flatMap qa))]) a w') ?_ ?_
 ·clear H; rintro a w' ⟨p_j4,c_j4,_,rfl,H⟩
  refine qv ?_
  replace G:=qP G; obtain ⟨t7,ht7,G⟩:=G
  refine Ju qd H (.v 35 (vP ((u1 0).n 0) 0) <|
   .cons [36] (VH (fun u6=>.slice p_a0_L L_a0_L.length c_a0_L) 36 44 0 1 (fun u6=>((u1 0).n 0)) (fun u6=>[.slice p_a0_L L_a0_L.length c_a0_L,.slice p_a0_X a0.X.length c_a0_X,vI a0.T.Lo,vI a0.T.Hi,vI a0.G.T,vI a0.G.H,.int .u8 a0.N,.int .u8 a0.K,.slice p_a0_S a0.S.length c_a0_S]) 56) <|
   .v 37 (vI (qc (1+(qc (Int.tmod a0.N 3))))) <|
   .cons [38,47,48] (QI false fr [] [40,41] (fun u6=>[qB qk 1 p_a0_L c_a0_L L_a0_L Qs,X7 qk QQ.toPart L_a0_L]) [] (fun u6=>[]) 42 (fun u6=>#[.slice p_a0_L L_a0_L.length c_a0_L,vI 7,vI (qc (1+(qc (Int.tmod a0.N 3))))]) (fun u6=>[qB qk 1 p_a0_L c_a0_L L_a0_L Qs]) (fun u6=>[X7 qk QQ.toPart L_a0_L]) (fun u6 g=>.agg #[.slice (g.o 0) t7.Names.length (g.n 0),.slice (g.o 1) ((g.dl Sl.l Qo 1 t7.F).length) (g.n 1)]) (fun u6 g=>[fun _=>X6 9 1 (g.o 0) t7.Names.length (g.n 0) (t7.Names.flatMap YE),fun _=>Zn 59 61 4 qr (g.o 1) ((g.dl Sl.l Qo 1 t7.F).length) (g.n 1) (g.dl Sl.l Qo 1 t7.F) (g.dl Sl.l Qo 1 t7.F)]) [47,48] 38 (fun u6 w hB hF hM=>q8.calls k0 a0.L 7 (qc (1+(qc (Int.tmod a0.N 3)))) p_a0_L c_a0_L L_a0_L t7 w h_a0_L hB hF ht7) (fun u6 w hF=>⟨⟨q9 (qj hF.1) (fun j h=>⟨_,(.head _),h⟩),trivial⟩,⟨J7 (Xl hF.2.1) (fun j h=>⟨_,(.tail _ (.head _)),h⟩),trivial⟩⟩) (fun u6 g=>(ql Qw (ql Jb qC))) (.inr (fun u6 g=>(Qv trivial (Qv trivial (fun K h=>by cases h))))) (fun h=>by cases h)) <|
   .v 39 (.slice p_j4 j5.length c_j4) <|
   .cons [45] (QL (u':=fun u6=>[(45,.blk ((u1 1).n 0) [.slice ((u6 3).o 0) t7.Names.length ((u6 3).n 0),.slice ((u6 3).o 1) (((u6 3).dl Sl.l Qo 1 t7.F).length) ((u6 3).n 1)] 43)]) (qW 45 0 (fun u6=>((u1 1).n 0)) (fun u6=>[.slice none 0 0,.slice none 0 0]) (fun u6=>[.slice ((u6 3).o 0) t7.Names.length ((u6 3).n 0),.slice ((u6 3).o 1) (((u6 3).dl Sl.l Qo 1 t7.F).length) ((u6 3).n 1)]) 43) (fun _=>by kernel_rfl)) <|
   .v 3 (.slice p_j4 j5.length c_j4)<|.nil) fun u6 a w' H=>?_
  replace H:=H.kp [2,3,45,47,48,900079]
  refine qF ?_
  obtain rfl:=Option.some.inj G
  obtain ⟨g,o0,n0,o1,n1,d1,o2,n2⟩:∃ g:Gh,g.o 0=((u6 3).o 0)∧g.n 0=((u6 3).n 0)∧g.o 1=((u6 3).o 1)∧g.n 1=((u6 3).n 1)∧g.dl Sl.l Qo 1 t7.F=((u6 3).dl Sl.l Qo 1 t7.F)∧g.o 2=p_j4∧g.n 2=c_j4:=⟨⟨fun i=>[((u6 3).n 0),((u6 3).n 1),c_j4].getD i 0,fun i=>[((u6 3).o 0),((u6 3).o 1),p_j4].getD i none,fun i=>([⟨Unit,()⟩,⟨List (Sl qu),((u6 3).dl Sl.l Qo 1 t7.F)⟩,⟨Unit,()⟩]:List ((T:Type) × T)).getD i ⟨Unit,()⟩⟩,rfl,rfl,rfl,rfl,qcX rfl (XL ZJ (u6 3) 1 t7.F),rfl,rfl⟩
  refine QR H (fun g=>.tuple #[.agg #[.slice (g.o 0) t7.Names.length (g.n 0),.slice (g.o 1) ((g.dl Sl.l Qo 1 t7.F).length) (g.n 1)],.slice (g.o 2) j5.length (g.n 2)]) g [] [] (fun g=>[fun _=>X6 9 1 (g.o 0) t7.Names.length (g.n 0) (t7.Names.flatMap YE),fun _=>Zn 59 61 4 qr (g.o 1) ((g.dl Sl.l Qo 1 t7.F).length) (g.n 1) (g.dl Sl.l Qo 1 t7.F) (g.dl Sl.l Qo 1 t7.F),fun _=>X6 46 2 (g.o 2) j5.length (g.n 2) (j5.flatMap qa)]) fr [47,48,900079] [(45,⟨((u1 1).n 0),[.slice ((u6 3).o 0) t7.Names.length ((u6 3).n 0),.slice ((u6 3).o 1) (((u6 3).dl Sl.l Qo 1 t7.F).length) ((u6 3).n 1)],0,2⟩)] (.tuple #[.agg #[.slice ((u6 3).o 0) t7.Names.length ((u6 3).n 0),.slice ((u6 3).o 1) (((u6 3).dl Sl.l Qo 1 t7.F).length) ((u6 3).n 1)],.slice p_j4 j5.length c_j4]) [fun _=>X6 9 1 ((u6 3).o 0) t7.Names.length ((u6 3).n 0) (t7.Names.flatMap YE),fun _=>Zn 59 61 4 qr ((u6 3).o 1) (((u6 3).dl Sl.l Qo 1 t7.F).length) ((u6 3).n 1) ((u6 3).dl Sl.l Qo 1 t7.F) ((u6 3).dl Sl.l Qo 1 t7.F),fun _=>X6 46 2 p_j4 j5.length c_j4 (j5.flatMap qa)] (by simp only [o0,n0,o1,n1,d1,o2,n2]) (by simp only [o0,n0,o1,n1,d1,o2,n2]) hfr (.inl ⟨rfl,rfl⟩) (ql Qw (ql Jb (ql Qw qC))) (by intro p hp; simp only [List.mem_cons,List.not_mem_nil,or_false] at hp; rcases hp with rfl; exact ⟨⟨43,by kernel_rfl⟩,by kernel_rfl⟩)
 ·clear G; replace G:=hj5; clear hj5
  refine qv ?_
  refine Ju qd H (.v 6 (vI 0)<|.nil) fun u8 a w' H=>?_
  replace H:=H.kp [1,2,4,5,6,40,41,42,43,44,45,46]
  refine q6 ?_
  replace H:=H.blk_row 46 ((u3 0).n 0) [] 46 2 0 (by kernel_rfl) (by kernel_rfl) (by decide)
  replace H:=H.move (K:=X6 46 2 (some ⟨((u3 0).n 0),0,none⟩) 0 0 (([]:List qb).flatMap qa)) 46 900080 (by kernel_rfl) (by intro _ _ h; cases h)
  refine XP (fun m a w'=>∃ x9:List qb,∃ x10:Int,Qk.l11 k0 a0 m x9 x10=some j5 ∧ ∃ (p_x9:Option Addr) (c_x9 np_x9:Nat),np_x9=x9.length∧QS w.heap.size w 40 (Jl [(1,(sP ((u1 0).n 0) 0)),(2,(sP ((u1 1).n 0) 0)),(4,(sI (qc (1+(qc (Int.tmod a0.N 3)))))),(5,sS p_x9 np_x9 c_x9),(6,sI x10),(40,qB qk 1 p_a0_L c_a0_L L_a0_L Qs),(41,X7 qk QQ.toPart L_a0_L),(42,qB qk 2 p_a0_X c_a0_X a0.X qa),(43,qB qk 1 p_a0_S c_a0_S a0.S JA),(44,.blk ((u1 0).n 0) [.slice p_a0_L L_a0_L.length c_a0_L,.slice p_a0_X a0.X.length c_a0_X,vI a0.T.Lo,vI a0.T.Hi,vI a0.G.T,vI a0.G.H,.int .u8 a0.N,.int .u8 a0.K,.slice p_a0_S a0.S.length c_a0_S] 56),(45,.blk ((u1 1).n 0) [.slice none 0 0,.slice none 0 0] 43),(900080,X6 46 2 p_x9 np_x9 c_x9 (x9.flatMap qa))]) a w') k0 ⟨_,_,G,(some ⟨((u3 0).n 0),0,none⟩),0,0,rfl,H.toL _ (by kernel_rfl)⟩ ?_
  clear G H
  rintro (_ | k) a w' ⟨x9,x10,G,p_x9,c_x9,_,rfl,H⟩
  ·exact absurd G (by unfold Qk.l11; exact fun h=>by cases h)
  ·unfold Qk.l11 at G
   refine qv ?_
   refine qv ?_
   refine Ju qd H (.v 14 (vI x10) <|
   .v 15 (vI (qc (1+(qc (Int.tmod a0.N 3))))) <|
   .v 16 (.bool (decide (x10<(qc (1+(qc (Int.tmod a0.N 3)))))))<|.nil) fun u12 a w' H=>?_
   replace H:=H.kp [1,2,4,5,6,16,40,41,42,43,44,45,900080]
   refine qal H (by kernel_rfl) (t:=decide (x10<(qc (1+(qc (Int.tmod a0.N 3)))))) (by kernel_rfl) (fun c26=>?_) (fun c26=>?_)
   ·rw [if_pos c26] at G
    refine Qf ?_
    refine qv ?_
    refine q6 ?_
    refine qv ?_
    refine Ju qd H (.v 19 (.agg #[vI 0,vI 0]) <|
   .cons [7,49] (qs (fun b=>vP b 0) (fun u13=>[vI 0,vI 0]) 46 7 49) <|
   .cons [49] (QL (u':=fun u13=>[(49,.blk ((u13 1).n 0) [vI 0,vI 0] 46)]) (qW 49 0 (fun u13=>((u13 1).n 0)) (fun u13=>[vI 0,vI 0]) (fun u13=>[vI 0,vI 0]) 46) (fun _=>by kernel_rfl))<|.nil) fun u13 a w' H=>?_
    replace H:=H.kp [1,2,4,5,6,7,40,41,42,43,44,45,49,900080]
    refine qv ?_
    replace G:=qP G; obtain ⟨j16,hj16,G⟩:=G
    refine Xq (fun a w'=>QS w.heap.size w 40 (Jl [(1,(sP ((u1 0).n 0) 0)),(2,(sP ((u1 1).n 0) 0)),(4,(sI (qc (1+(qc (Int.tmod a0.N 3)))))),(5,sS p_x9 x9.length c_x9),(6,sI x10),(7,(sP ((u13 1).n 0) 0)),(40,qB qk 1 p_a0_L c_a0_L L_a0_L Qs),(41,X7 qk QQ.toPart L_a0_L),(42,qB qk 2 p_a0_X c_a0_X a0.X qa),(43,qB qk 1 p_a0_S c_a0_S a0.S JA),(44,.blk ((u1 0).n 0) [.slice p_a0_L L_a0_L.length c_a0_L,.slice p_a0_X a0.X.length c_a0_X,vI a0.T.Lo,vI a0.T.Hi,vI a0.G.T,vI a0.G.H,.int .u8 a0.N,.int .u8 a0.K,.slice p_a0_S a0.S.length c_a0_S] 56),(45,.blk ((u1 1).n 0) [.slice none 0 0,.slice none 0 0] 43),(49,.blk ((u13 1).n 0) [vI j16.1,vI j16.2] 46),(900080,X6 46 2 p_x9 x9.length c_x9 (x9.flatMap qa))]) a w') ?_ ?_
    ·clear H; intro a w' H
     replace G:=gd G; obtain ⟨b18,G⟩:=G
     refine Ju qd H (.v 31 (.slice p_x9 x9.length c_x9) <|
   .cons [32] (VH (fun u17=>.agg #[vI j16.1,vI j16.2]) 32 49 0 2 (fun u17=>((u13 1).n 0)) (fun u17=>[vI j16.1,vI j16.2]) 46) <|
   .cons [33,50] (qs (fun b=>.slice (some ⟨b,0,none⟩) 1 1) (fun u17=>[vI j16.1,vI j16.2]) 46 33 50) <|
   .cons [34,900080,900080] (XC [2] [50] (fun u17=>[.blk ((u17 2).n 0) [vI j16.1,vI j16.2] 46]) 900080 (fun u17=>X6 46 2 p_x9 x9.length c_x9 (x9.flatMap qa)) (some 34) (fun u17 g=>.slice (g.o 0) (x9++[(⟨j16.1,j16.2⟩:qb)]).length (g.n 0)) (fun u17 g=>X6 46 2 (g.o 0) ((x9++[(⟨j16.1,j16.2⟩:qb)]).length) (g.n 0) ((x9++[(⟨j16.1,j16.2⟩:qb)]).flatMap qa)) (fun u17 w hF hK=>J9 (Yy (t:=48) (ty:=48) (en:=qa) qe JT (Qe hK) hF.1 (news:=[(⟨j16.1,j16.2⟩:qb)]) rfl (by simp) (by kernel_rfl) b18)) (hloc:=fun u u' h=>⟨by first | rfl | simp only [h 2 (by decide)],by first | rfl | simp only [h 2 (by decide)],by first | rfl | simp only [h 2 (by decide)],by first | rfl | simp only [h 2 (by decide)]⟩)) <|
   .cons [5] (qn (fun u17=>.slice ((u17 3).o 0) ((x9++[(⟨j16.1,j16.2⟩:qb)]).length) ((u17 3).n 0)) 5)<|.nil) fun u17 a w' H=>?_
     replace H:=H.kp [1,2,4,5,6,40,41,42,43,44,45,900080]
     refine Ju qd H (.v 17 (vI x10) <|
   .v 18 (vI (qc (x10+1))) <|
   .v 6 (vI (qc (x10+1)))<|.nil) fun u19 a w' H=>?_
     replace H:=H.kp [1,2,4,5,6,40,41,42,43,44,45,900080]
     exact ⟨k,Nat.lt_succ_self k,_,_,G,((u17 3).o 0),((u17 3).n 0),(x9++[(⟨j16.1,j16.2⟩:qb)]).length,rfl,H.toL _ (by kernel_rfl)⟩
    ·clear G; replace G:=hj16; clear hj16
     refine qv ?_
     refine Ju qd H (.v 20 (vI x10) <|
   .v 21 (vP ((u1 0).n 0) 1) <|
   .cons [22] (VH (fun u20=>.slice p_a0_X a0.X.length c_a0_X) 22 44 1 1 (fun u20=>((u1 0).n 0)) (fun u20=>[.slice p_a0_L L_a0_L.length c_a0_L,.slice p_a0_X a0.X.length c_a0_X,vI a0.T.Lo,vI a0.T.Hi,vI a0.G.T,vI a0.G.H,.int .u8 a0.N,.int .u8 a0.K,.slice p_a0_S a0.S.length c_a0_S]) 56) <|
   .v 23 (vI (a0.X.length:Int)) <|
   .v 24 (.bool (decide (x10<(a0.X.length:Int))))<|.nil) fun u20 a w' H=>?_
     replace H:=H.kp [1,2,4,5,6,7,24,40,41,42,43,44,45,49,900080]
     refine qal H (by kernel_rfl) (t:=decide (x10<(a0.X.length:Int))) (by kernel_rfl) (fun c25=>?_) (fun c25=>?_)
     ·rw [if_pos c25] at G
      replace G:=gd G; obtain ⟨b22,G⟩:=G
      replace G:=qP G; obtain ⟨t23,ht23,G⟩:=G
      replace G:=qP G; obtain ⟨t24,ht24,G⟩:=G
      refine Ju qd H (.v 25 (vP ((u1 0).n 0) 1) <|
   .cons [26] (VH (fun u21=>.slice p_a0_X a0.X.length c_a0_X) 26 44 1 1 (fun u21=>((u1 0).n 0)) (fun u21=>[.slice p_a0_L L_a0_L.length c_a0_L,.slice p_a0_X a0.X.length c_a0_X,vI a0.T.Lo,vI a0.T.Hi,vI a0.G.T,vI a0.G.H,.int .u8 a0.N,.int .u8 a0.K,.slice p_a0_S a0.S.length c_a0_S]) 56) <|
   .v 27 (vI x10) <|
   .cons [28] (Zq [42] (fun u21=>[qB qk 2 p_a0_X c_a0_X a0.X qa]) (fun u21=>.pointer (some ⟨Xf p_a0_X,Xg p_a0_X+x10.toNat * 2,none⟩)) (fun u21=>true) [true,true] 28 (fun u21 w hg hF=>qbb (t:=48) (k:=.i64) (i:=x10) (p:=p_a0_X) (n:=a0.X.length) (cap:=c_a0_X) (x:=a0.X) (en:=qa) (qj hF.1).2 qe rfl b22 (by kernel_rfl))) <|
   .cons [29] (Zq [42] (fun u21=>[qB qk 2 p_a0_X c_a0_X a0.X qa]) (fun u21=>.agg #[vI t23.Lo,vI t23.Hi]) (fun u21=>true) [true] 29 (fun u21 w hg hF=>qch (en:=qa) (qj hF.1).2 qe ht23 0 2 [vI t23.Lo,vI t23.Hi] rfl (by kernel_rfl))) <|
   .cons [30] (qq 41 (fun u21=>#[.agg #[vI t23.Lo,vI t23.Hi]]) (.agg #[vI t24.Lo,vI t24.Hi]) 30 [] (fun u21 w _=>YL.calls t23  t24 w  ht24)) <|
   .cons [49] (QL (u':=fun u21=>[(49,.blk ((u13 1).n 0) [vI t24.Lo,vI t24.Hi] 46)]) (qW 49 0 (fun u21=>((u13 1).n 0)) (fun u21=>[vI 0,vI 0]) (fun u21=>[vI t24.Lo,vI t24.Hi]) 46) (fun _=>by kernel_rfl))<|.nil) fun u21 a w' H=>?_
      replace H:=H.kp [1,2,4,5,6,7,40,41,42,43,44,45,49,900080]
      obtain rfl:=Option.some.inj G
      exact H.toL _ (by kernel_rfl)
     ·rw [if_neg (nt c25)] at G
      refine Qf ?_
      obtain rfl:=Option.some.inj G
      exact H.toL _ (by kernel_rfl)
   ·rw [if_neg (nt c26)] at G
    refine Yk rfl ?_
    obtain rfl:=Option.some.inj G
    replace H:=H.move (K:=X6 46 2 p_x9 x9.length c_x9 (x9.flatMap qa)) 900080 900079 (by kernel_rfl) (by intro _ _ h; cases h)
    exact ⟨p_x9,c_x9,x9.length,rfl,H.toL _ (by kernel_rfl)⟩
theorem qN.calls (k0:Nat) (a0:List qb) (a1:List qb) (p_a0:Option Addr) (c_a0:Nat) (p_a1:Option Addr) (c_a1:Nat) (r:Bool) (w:World) (hB:Xx [qB qk 2 p_a0 c_a0 a0 qa,qB qk 2 p_a1 c_a1 a1 qa] w) (G:qN k0 a0 a1=some r) :
  Calls Tryz.prog 17 #[.slice p_a0 a0.length c_a0,.slice p_a1 a1.length c_a1] w fun e w'=>e = .returned (.bool r)∧Below w.heap.size w w':=by
 obtain ⟨fr,hfr⟩:∃ fr:Nat→Prop,∀ j,fr j:=⟨fun _=>True,fun _=>trivial⟩
 have hBf:∀ j,w.heap.size≤j→fr j:=fun j _=>hfr j
 refine QO (args:=[.slice p_a0 a0.length c_a0,.slice p_a1 a1.length c_a1]) 26 [(26,qB qk 2 p_a0 c_a0 a0 qa),(27,qB qk 2 p_a1 c_a1 a1 qa)] (by
  intro x hx
  simp only [List.mem_cons,List.not_mem_nil,or_false] at hx
  rcases hx with rfl | rfl
  ·exact qy (qj hB.1) (fun _ _=>trivial) (by decide) _
  ·exact qy (qj hB.2.1) (fun _ _=>trivial) (by decide) _) Tryz.func17 rfl (by kernel_rfl) (by kernel_rfl) fun a H=>?_
 unfold qN at G
 refine qg qd H (.v 4 (.bool false)<|.nil) [0,1,26,27] fun u1 a w' H=>?_
 refine qv ?_
 refine qg qd H (.v 6 (.slice p_a0 a0.length c_a0) <|
 .v 7 (vI (a0.length:Int)) <|
 .v 8 (.slice p_a1 a1.length c_a1) <|
 .v 9 (vI (a1.length:Int)) <|
 .v 10 (.bool ((a0.length:Int) != (a1.length:Int)))<|.nil) [0,1,10,26,27] fun u2 a w' H=>?_
 refine Qx H ((a0.length:Int) != (a1.length:Int)) (fun c21=>?_) fun c21=>?_
 ·rw [if_pos c21] at G
  refine qg qd H (.v 4 (.bool false)<|.nil) [4] fun u3 a w' H=>?_
  refine qF ?_
  obtain rfl:=sj G
  exact Qr H _ (by kernel_rfl) (by kernel_rfl)
 ·rw [if_neg (nt c21)] at G
  refine Qf ?_
  refine qv ?_
  obtain ⟨j4,hj4,Gj4⟩:=qP G
  refine Xq (fun a w'=>∃ j4v,j4=Sum.inr j4v∧RL w 26 [] a w') ?_ ?_
  ·clear H; rintro a w' ⟨j4v,rfl,H⟩; have G:=Gj4; clear Gj4; dsimp only at G
   refine qg qd H (.v 4 (.bool true)<|.nil) [4] fun u5 a w' H=>?_
   refine qF ?_
   obtain rfl:=sj G
   exact Qr H _ (by kernel_rfl) (by kernel_rfl)
  ·have G:=hj4; clear hj4
   refine qg qd H (.v 5 (vI 0)<|.nil) [0,1,5,26,27] fun u6 a w' H=>?_
   refine q6 ?_
   refine XP (fun m a w'=>∃ x7:Int,qN.l8 k0 a0 a1 m x7=some j4∧RL w 26 [(0,sS p_a0 a0.length c_a0),(1,sS p_a1 a1.length c_a1),(5,sI x7),(26,qB qk 2 p_a0 c_a0 a0 qa),(27,qB qk 2 p_a1 c_a1 a1 qa)] a w') k0 ⟨_,G,H.toM _⟩ ?_
   clear G H
   rintro (_ | k) a w' ⟨x7,G,H⟩
   ·exact absurd G (by unfold qN.l8; exact fun h=>by cases h)
   ·unfold qN.l8 at G
    refine qv ?_
    refine qg qd H (.v 11 (vI x7) <|
 .v 12 (.slice p_a0 a0.length c_a0) <|
 .v 13 (vI (a0.length:Int)) <|
 .v 14 (.bool (decide (x7<(a0.length:Int))))<|.nil) [0,1,5,14,26,27] fun u9 a w' H=>?_
    refine Qx H (decide (x7<(a0.length:Int))) (fun c20=>?_) fun c20=>?_
    ·rw [if_pos c20] at G
     refine Qf ?_
     refine qv ?_
     refine q6 ?_
     refine qv ?_
     replace G:=gd G; obtain ⟨b11,G⟩:=G
     obtain ⟨t12,ht12,G⟩:=qP G
     have P13:=Xh (en:=qa) (l:=a0) (qj (H.at (K:=qB qk 2 p_a0 c_a0 a0 qa) 26 (by kernel_rfl))).2 qe
     replace G:=gd G; obtain ⟨b14,G⟩:=G
     obtain ⟨t15,ht15,G⟩:=qP G
     have P16:=Xh (en:=qa) (l:=a1) (qj (H.at (K:=qB qk 2 p_a1 c_a1 a1 qa) 27 (by kernel_rfl))).2 qe
     refine Qt qd H (.v 17 (.slice p_a0 a0.length c_a0) <|
 .v 18 (vI x7) <|
 .cons [19] (qn (fun u10=>.pointer (some ⟨Xf p_a0,Xg p_a0+x7.toNat * 2,none⟩)) 19 (hv:=fun _ _=>qM (t:=48) (k:=.i64) (i:=x7) (p:=p_a0) (n:=a0.length) (cap:=c_a0) (x:=a0) P13 rfl b11 (by kernel_rfl))) <|
 .cons [20] (qG 26 (qB qk 2 p_a0 c_a0 a0 qa) (.agg #[vI t12.Lo,vI t12.Hi]) 20 fun _ w h=>Ym qa (qj h).2 qe ht12 0 2 [vI t12.Lo,vI t12.Hi]) <|
 .v 21 (.slice p_a1 a1.length c_a1) <|
 .v 22 (vI x7) <|
 .cons [23] (qn (fun u10=>.pointer (some ⟨Xf p_a1,Xg p_a1+x7.toNat * 2,none⟩)) 23 (hv:=fun _ _=>qM (t:=48) (k:=.i64) (i:=x7) (p:=p_a1) (n:=a1.length) (cap:=c_a1) (x:=a1) P16 rfl b14 (by kernel_rfl))) <|
 .cons [24] (qG 27 (qB qk 2 p_a1 c_a1 a1 qa) (.agg #[vI t15.Lo,vI t15.Hi]) 24 fun _ w h=>Ym qa (qj h).2 qe ht15 0 2 [vI t15.Lo,vI t15.Hi]) <|
 .cons [25] (qn (fun u10=>.bool (!((t12.Lo == t15.Lo) && ((t12.Hi == t15.Hi) && true)))) 25 (hv:=fun _ _=>Zz (by kernel_rfl) (qbP (t:=46) (x:=(.tmp 20)) (y:=(.tmp 24)) (xs:=#[vI t12.Lo,vI t12.Hi]) (ys:=#[vI t15.Lo,vI t15.Hi]) (b:=((t12.Lo == t15.Lo) && ((t12.Hi == t15.Hi) && true))) (by kernel_rfl) (by kernel_rfl))))<|.nil) [0,1,5,25,26,27] fun u10 a w' H=>?_
     refine Qx H (!((t12.Lo == t15.Lo) && ((t12.Hi == t15.Hi) && true))) (fun c19=>?_) fun c19=>?_
     ·rw [if_pos c19] at G
      refine qg qd H (.v 4 (.bool false)<|.nil) [4] fun u17 a w' H=>?_
      refine qF ?_
      obtain rfl:=sj G
      replace G:=Gj4
      obtain rfl:=sj G
      exact Qr H _ (by kernel_rfl) (by kernel_rfl)
     ·rw [if_neg (nt c19)] at G
      refine Qf ?_
      refine Qt qd H (.v 15 (vI x7) <|
 .v 16 (vI (qc (x7+1))) <|
 .v 5 (vI (qc (x7+1)))<|.nil) [0,1,5,26,27] fun u18 a w' H=>?_
      exact ⟨k,Nat.lt_succ_self k,_,G,H.toM _⟩
    ·rw [if_neg (nt c20)] at G
     refine Yk rfl ?_
     obtain rfl:=sj G
     exact ⟨_,rfl,H.toM _⟩
end Go.Proofs.YtpmgpcklieincaaGreatDoor
