/- The law GuardDirections answers as the plain Lean function of its name. Printed by a program of this session. -/
import Derived.Test.YtkkodieceehkmaaDoorFn2
set_option linter.unusedVariables false
set_option maxRecDepth 100000
namespace Go.Proofs.YtkkodieceehkmaaDoor
open Go Go.RowKit Go.Sx Go.Proofs
set_option maxHeartbeats 4000000 in
theorem armillarylaw15_GuardDirections.calls (k0 : Nat) (a0 : TInput) (p_a0_F : Option Addr) (c_a0_F : Nat) (p_a0_A : Option Addr) (c_a0_A : Nat) (p_a0_B : Option Addr) (c_a0_B : Nat) (p_a0_C : Option Addr) (c_a0_C : Nat) (p_a0_P : Option Addr) (c_a0_P : Nat) (r : Bool) (w : World) (hg : Glob w) (R_p_a0_F : RowC w 4 p_a0_F a0.F.length c_a0_F (a0.F.flatMap en_TNode)) (R_p_a0_A : RowC w 2 p_a0_A a0.A.length c_a0_A (a0.A.flatMap en_TInterval)) (R_p_a0_B : RowC w 2 p_a0_B a0.B.length c_a0_B (a0.B.flatMap en_TInterval)) (R_p_a0_C : RowC w 2 p_a0_C a0.C.length c_a0_C (a0.C.flatMap en_TInterval)) (R_p_a0_P : RowC w 1 p_a0_P a0.P.length c_a0_P (a0.P.flatMap en_u16)) (G : armillarylaw15_GuardDirections k0 a0 = some r) :
  Calls Tryd.prog 4 #[.agg #[.slice p_a0_F a0.F.length c_a0_F, .int .i8 a0.Dir, .int .u8 a0.N, .slice p_a0_A a0.A.length c_a0_A, .slice p_a0_B a0.B.length c_a0_B, .slice p_a0_C a0.C.length c_a0_C, vI a0.G.T, vI a0.G.H, .slice p_a0_P a0.P.length c_a0_P]] w fun e w' => e = .returned (.bool r) ∧ Below w.heap.size w w' := by
 obtain ⟨fr, hfr⟩ : ∃ fr : Nat → Prop, ∀ j, fr j := ⟨fun _ => True, fun _ => trivial⟩
 have hB : ∀ j, w.heap.size ≤ j → fr j := fun j _ => hfr j
 have hin_p_a0_F : ∀ j, fpRow p_a0_F a0.F.length j → fr j := fun j _ => hfr j
 have hin_p_a0_A : ∀ j, fpRow p_a0_A a0.A.length j → fr j := fun j _ => hfr j
 have hin_p_a0_B : ∀ j, fpRow p_a0_B a0.B.length j → fr j := fun j _ => hfr j
 have hin_p_a0_C : ∀ j, fpRow p_a0_C a0.C.length j → fr j := fun j _ => hfr j
 have hin_p_a0_P : ∀ j, fpRow p_a0_P a0.P.length j → fr j := fun j _ => hfr j
 refine k_enterF (args := [.agg #[.slice p_a0_F a0.F.length c_a0_F, .int .i8 a0.Dir, .int .u8 a0.N, .slice p_a0_A a0.A.length c_a0_A, .slice p_a0_B a0.B.length c_a0_B, .slice p_a0_C a0.C.length c_a0_C, vI a0.G.T, vI a0.G.H, .slice p_a0_P a0.P.length c_a0_P]]) 71 [(71, rdl fr 4 p_a0_F c_a0_F a0.F en_TNode), (72, rdl fr 2 p_a0_A c_a0_A a0.A en_TInterval), (73, rdl fr 2 p_a0_B c_a0_B a0.B en_TInterval), (74, rdl fr 2 p_a0_C c_a0_C a0.C en_TInterval), (75, rdl fr 1 p_a0_P c_a0_P a0.P en_u16), (999999, gk)] (by
  intro x hx
  simp only [List.mem_cons, List.not_mem_nil, or_false] at hx
  rcases hx with rfl | rfl | rfl | rfl | rfl | rfl
  ·exact rdF_fact R_p_a0_F hin_p_a0_F (by decide) _
  ·exact rdF_fact R_p_a0_A hin_p_a0_A (by decide) _
  ·exact rdF_fact R_p_a0_B hin_p_a0_B (by decide) _
  ·exact rdF_fact R_p_a0_C hin_p_a0_C (by decide) _
  ·exact rdF_fact R_p_a0_P hin_p_a0_P (by decide) _
  ·exact ⟨⟨_, _, rfl⟩, glob_local hg, glob_in hg⟩) Tryd.func4 rfl (by kernel_rfl) (by kernel_rfl) fun a H => ?_
 unfold armillarylaw15_GuardDirections at G
 refine k_seq ?_
 refine k_rg mixed H (.cons [1, 76] (ok_new (fun b => vP b 0) (fun u1 => [.slice p_a0_F a0.F.length c_a0_F, .int .i8 a0.Dir, .int .u8 a0.N, .slice p_a0_A a0.A.length c_a0_A, .slice p_a0_B a0.B.length c_a0_B, .slice p_a0_C a0.C.length c_a0_C, vI a0.G.T, vI a0.G.H, .slice p_a0_P a0.P.length c_a0_P]) 29 1 76) <|
   .v 2 (.bool false) <| .nil) fun u1 a w' H => ?_
 replace H := H.toM [(1, (sP ((u1 0).n 0) 0)), (76, .blk ((u1 0).n 0) [.slice p_a0_F a0.F.length c_a0_F, .int .i8 a0.Dir, .int .u8 a0.N, .slice p_a0_A a0.A.length c_a0_A, .slice p_a0_B a0.B.length c_a0_B, .slice p_a0_C a0.C.length c_a0_C, vI a0.G.T, vI a0.G.H, .slice p_a0_P a0.P.length c_a0_P] 29), (71, rdl fr 4 p_a0_F c_a0_F a0.F en_TNode), (72, rdl fr 2 p_a0_A c_a0_A a0.A en_TInterval), (73, rdl fr 2 p_a0_B c_a0_B a0.B en_TInterval), (74, rdl fr 2 p_a0_C c_a0_C a0.C en_TInterval), (75, rdl fr 1 p_a0_P c_a0_P a0.P en_u16), (999999, gk)]
 refine k_seq ?_
 replace G := bnd G; obtain ⟨t3, ht3, G⟩ := G
 refine k_rg mixed H (.cons [10] (ok_callvG 999999 gk 8 (fun u2 => #[]) (.bool t3) 10 (fun _ w hg => armillarylaw15_sanity.calls k0 t3 w (glob_of hg) ht3)) <|
   .v 3 (.bool t3) <| .nil) fun u2 a w' H => ?_
 replace H := H.toM [(1, (sP ((u1 0).n 0) 0)), (3, sB t3), (76, .blk ((u1 0).n 0) [.slice p_a0_F a0.F.length c_a0_F, .int .i8 a0.Dir, .int .u8 a0.N, .slice p_a0_A a0.A.length c_a0_A, .slice p_a0_B a0.B.length c_a0_B, .slice p_a0_C a0.C.length c_a0_C, vI a0.G.T, vI a0.G.H, .slice p_a0_P a0.P.length c_a0_P] 29), (71, rdl fr 4 p_a0_F c_a0_F a0.F en_TNode), (72, rdl fr 2 p_a0_A c_a0_A a0.A en_TInterval), (73, rdl fr 2 p_a0_B c_a0_B a0.B en_TInterval), (74, rdl fr 2 p_a0_C c_a0_C a0.C en_TInterval), (75, rdl fr 1 p_a0_P c_a0_P a0.P en_u16), (999999, gk)]
 refine k_seq ?_
 replace G := bnd G; obtain ⟨t5, ht5, G⟩ := G
 refine k_rg mixed H (.cons [12] (ok_ld (fun u4 => .agg #[.slice p_a0_F a0.F.length c_a0_F, .int .i8 a0.Dir, .int .u8 a0.N, .slice p_a0_A a0.A.length c_a0_A, .slice p_a0_B a0.B.length c_a0_B, .slice p_a0_C a0.C.length c_a0_C, vI a0.G.T, vI a0.G.H, .slice p_a0_P a0.P.length c_a0_P]) 12 76 0 9 (fun u4 => ((u1 0).n 0)) (fun u4 => [.slice p_a0_F a0.F.length c_a0_F, .int .i8 a0.Dir, .int .u8 a0.N, .slice p_a0_A a0.A.length c_a0_A, .slice p_a0_B a0.B.length c_a0_B, .slice p_a0_C a0.C.length c_a0_C, vI a0.G.T, vI a0.G.H, .slice p_a0_P a0.P.length c_a0_P]) 29) <|
   .cons [13, 77, 78, 79, 80, 81] (ok_callF [71, 72, 73, 74, 75] (fun u4 => [rdl fr 4 p_a0_F c_a0_F a0.F en_TNode, rdl fr 2 p_a0_A c_a0_A a0.A en_TInterval, rdl fr 2 p_a0_B c_a0_B a0.B en_TInterval, rdl fr 2 p_a0_C c_a0_C a0.C en_TInterval, rdl fr 1 p_a0_P c_a0_P a0.P en_u16]) 9 (fun u4 => #[.agg #[.slice p_a0_F a0.F.length c_a0_F, .int .i8 a0.Dir, .int .u8 a0.N, .slice p_a0_A a0.A.length c_a0_A, .slice p_a0_B a0.B.length c_a0_B, .slice p_a0_C a0.C.length c_a0_C, vI a0.G.T, vI a0.G.H, .slice p_a0_P a0.P.length c_a0_P]]) (fun g => .tuple #[.agg #[.slice (g.o 0) t5.1.F.length (g.n 0), vI t5.1.Dir], .agg #[vI t5.2.T, vI t5.2.H, .slice (g.o 1) t5.2.From.length (g.n 1), .slice (g.o 2) t5.2.Pre.length (g.n 2), .slice (g.o 3) t5.2.Tube.length (g.n 3), .slice (g.o 4) t5.2.To.length (g.n 4)]]) [(4, t5.1.F.length, t5.1.F.flatMap en_TNode), (2, t5.2.From.length, t5.2.From.flatMap en_TInterval), (2, t5.2.Pre.length, t5.2.Pre.flatMap en_TInterval), (2, t5.2.Tube.length, t5.2.Tube.flatMap en_TInterval), (2, t5.2.To.length, t5.2.To.flatMap en_TInterval)] fr 13 77 (fun u4 w hF => armillarylaw15_segment.calls k0 (⟨a0.F, a0.Dir, a0.N, a0.A, a0.B, a0.C, (⟨a0.G.T, a0.G.H⟩ : TTimeStep), a0.P⟩ : TInput) p_a0_F c_a0_F p_a0_A c_a0_A p_a0_B c_a0_B p_a0_C c_a0_C p_a0_P c_a0_P t5 w (rdF_of hF.1) (rdF_of hF.2.1) (rdF_of hF.2.2.1) (rdF_of hF.2.2.2.1) (rdF_of hF.2.2.2.2.1) ht5) (fun u4 w hF => ins_as (ins' := [(p_a0_F, a0.F.length), (p_a0_A, a0.A.length), (p_a0_B, a0.B.length), (p_a0_C, a0.C.length), (p_a0_P, a0.P.length)]) (ins_cons (rdl fr 4 p_a0_F c_a0_F a0.F en_TNode) (.head _) (fun h => h) (fun j h => ⟨rdF_fr hF.1 j h, h⟩) (ins_cons (rdl fr 2 p_a0_A c_a0_A a0.A en_TInterval) (.tail _ (.head _)) (fun h => h) (fun j h => ⟨rdF_fr hF.2.1 j h, h⟩) (ins_cons (rdl fr 2 p_a0_B c_a0_B a0.B en_TInterval) (.tail _ (.tail _ (.head _))) (fun h => h) (fun j h => ⟨rdF_fr hF.2.2.1 j h, h⟩) (ins_cons (rdl fr 2 p_a0_C c_a0_C a0.C en_TInterval) (.tail _ (.tail _ (.tail _ (.head _)))) (fun h => h) (fun j h => ⟨rdF_fr hF.2.2.2.1 j h, h⟩) (ins_cons (rdl fr 1 p_a0_P c_a0_P a0.P en_u16) (.tail _ (.tail _ (.tail _ (.tail _ (.head _))))) (fun h => h) (fun j h => ⟨rdF_fr hF.2.2.2.2.1 j h, h⟩) ins_nil)))))) hB) <|
   .cons [11] (ok_val (fun u4 => .tuple #[.agg #[.slice ((u4 1).o 0) t5.1.F.length ((u4 1).n 0), vI t5.1.Dir], .agg #[vI t5.2.T, vI t5.2.H, .slice ((u4 1).o 1) t5.2.From.length ((u4 1).n 1), .slice ((u4 1).o 2) t5.2.Pre.length ((u4 1).n 2), .slice ((u4 1).o 3) t5.2.Tube.length ((u4 1).n 3), .slice ((u4 1).o 4) t5.2.To.length ((u4 1).n 4)]]) 11) <|
   .cons [14] (ok_val (fun u4 => .agg #[.slice ((u4 1).o 0) t5.1.F.length ((u4 1).n 0), vI t5.1.Dir]) 14) <|
   .cons [15] (ok_val (fun u4 => .agg #[vI t5.2.T, vI t5.2.H, .slice ((u4 1).o 1) t5.2.From.length ((u4 1).n 1), .slice ((u4 1).o 2) t5.2.Pre.length ((u4 1).n 2), .slice ((u4 1).o 3) t5.2.Tube.length ((u4 1).n 3), .slice ((u4 1).o 4) t5.2.To.length ((u4 1).n 4)]) 15) <|
   .cons [4, 82] (ok_new (fun b => vP b 0) (fun u4 => [.slice none 0 0, vI 0]) 31 4 82) <|
   .cons [5, 83] (ok_new (fun b => vP b 0) (fun u4 => [vI 0, vI 0, .slice none 0 0, .slice none 0 0, .slice none 0 0, .slice none 0 0]) 34 5 83) <|
   .cons [82] (ok_as (u' := fun u4 => [(82, .blk ((u4 5).n 0) [.slice ((u4 1).o 0) t5.1.F.length ((u4 1).n 0), vI t5.1.Dir] 31)]) (ok_store 82 0 (fun u4 => ((u4 5).n 0)) (fun u4 => [.slice none 0 0, vI 0]) (fun u4 => [.slice ((u4 1).o 0) t5.1.F.length ((u4 1).n 0), vI t5.1.Dir]) 31) (fun _ => by kernel_rfl)) <|
   .cons [83] (ok_as (u' := fun u4 => [(83, .blk ((u4 6).n 0) [vI t5.2.T, vI t5.2.H, .slice ((u4 1).o 1) t5.2.From.length ((u4 1).n 1), .slice ((u4 1).o 2) t5.2.Pre.length ((u4 1).n 2), .slice ((u4 1).o 3) t5.2.Tube.length ((u4 1).n 3), .slice ((u4 1).o 4) t5.2.To.length ((u4 1).n 4)] 34)]) (ok_store 83 0 (fun u4 => ((u4 6).n 0)) (fun u4 => [vI 0, vI 0, .slice none 0 0, .slice none 0 0, .slice none 0 0, .slice none 0 0]) (fun u4 => [vI t5.2.T, vI t5.2.H, .slice ((u4 1).o 1) t5.2.From.length ((u4 1).n 1), .slice ((u4 1).o 2) t5.2.Pre.length ((u4 1).n 2), .slice ((u4 1).o 3) t5.2.Tube.length ((u4 1).n 3), .slice ((u4 1).o 4) t5.2.To.length ((u4 1).n 4)]) 34) (fun _ => by kernel_rfl)) <| .nil) fun u4 a w' H => ?_
 replace H := H.toM [(3, sB t3), (4, (sP ((u4 5).n 0) 0)), (5, (sP ((u4 6).n 0) 0)), (82, .blk ((u4 5).n 0) [.slice ((u4 1).o 0) t5.1.F.length ((u4 1).n 0), vI t5.1.Dir] 31), (83, .blk ((u4 6).n 0) [vI t5.2.T, vI t5.2.H, .slice ((u4 1).o 1) t5.2.From.length ((u4 1).n 1), .slice ((u4 1).o 2) t5.2.Pre.length ((u4 1).n 2), .slice ((u4 1).o 3) t5.2.Tube.length ((u4 1).n 3), .slice ((u4 1).o 4) t5.2.To.length ((u4 1).n 4)] 34), (77, rdF fr 4 ((u4 1).o 0) t5.1.F.length ((u4 1).n 0) (t5.1.F.flatMap en_TNode)), (78, rdF fr 2 ((u4 1).o 1) t5.2.From.length ((u4 1).n 1) (t5.2.From.flatMap en_TInterval)), (79, rdF fr 2 ((u4 1).o 2) t5.2.Pre.length ((u4 1).n 2) (t5.2.Pre.flatMap en_TInterval)), (80, rdF fr 2 ((u4 1).o 3) t5.2.Tube.length ((u4 1).n 3) (t5.2.Tube.flatMap en_TInterval)), (81, rdF fr 2 ((u4 1).o 4) t5.2.To.length ((u4 1).n 4) (t5.2.To.flatMap en_TInterval)), (999999, gk)]
 refine k_seq ?_
 replace G := bnd G; obtain ⟨t7, ht7, G⟩ := G
 refine k_rg mixed H (.v 16 (vP ((u4 5).n 0) 0) <|
   .cons [17] (ok_ld (fun u6 => .slice ((u4 1).o 0) t5.1.F.length ((u4 1).n 0)) 17 82 0 1 (fun u6 => ((u4 5).n 0)) (fun u6 => [.slice ((u4 1).o 0) t5.1.F.length ((u4 1).n 0), vI t5.1.Dir]) 31) <|
   .v 18 (.agg #[.slice ((u4 1).o 0) t5.1.F.length ((u4 1).n 0), vI 1]) <|
   .cons [19] (ok_ld (fun u6 => .agg #[vI t5.2.T, vI t5.2.H, .slice ((u4 1).o 1) t5.2.From.length ((u4 1).n 1), .slice ((u4 1).o 2) t5.2.Pre.length ((u4 1).n 2), .slice ((u4 1).o 3) t5.2.Tube.length ((u4 1).n 3), .slice ((u4 1).o 4) t5.2.To.length ((u4 1).n 4)]) 19 83 0 6 (fun u6 => ((u4 6).n 0)) (fun u6 => [vI t5.2.T, vI t5.2.H, .slice ((u4 1).o 1) t5.2.From.length ((u4 1).n 1), .slice ((u4 1).o 2) t5.2.Pre.length ((u4 1).n 2), .slice ((u4 1).o 3) t5.2.Tube.length ((u4 1).n 3), .slice ((u4 1).o 4) t5.2.To.length ((u4 1).n 4)]) 34) <|
   .cons [20] (ok_callL [77, 78, 79, 80, 81, 999999] (fun u6 => [rdF fr 4 ((u4 1).o 0) t5.1.F.length ((u4 1).n 0) (t5.1.F.flatMap en_TNode), rdF fr 2 ((u4 1).o 1) t5.2.From.length ((u4 1).n 1) (t5.2.From.flatMap en_TInterval), rdF fr 2 ((u4 1).o 2) t5.2.Pre.length ((u4 1).n 2) (t5.2.Pre.flatMap en_TInterval), rdF fr 2 ((u4 1).o 3) t5.2.Tube.length ((u4 1).n 3) (t5.2.Tube.flatMap en_TInterval), rdF fr 2 ((u4 1).o 4) t5.2.To.length ((u4 1).n 4) (t5.2.To.flatMap en_TInterval), gk]) 19 (fun u6 => #[.agg #[.slice ((u4 1).o 0) t5.1.F.length ((u4 1).n 0), vI 1], .agg #[vI t5.2.T, vI t5.2.H, .slice ((u4 1).o 1) t5.2.From.length ((u4 1).n 1), .slice ((u4 1).o 2) t5.2.Pre.length ((u4 1).n 2), .slice ((u4 1).o 3) t5.2.Tube.length ((u4 1).n 3), .slice ((u4 1).o 4) t5.2.To.length ((u4 1).n 4)]]) (vI t7) 20 (fun u6 w hF => guard_Crossing.calls k0 (⟨t5.1.F, 1⟩ : TGuard) (⟨t5.2.T, t5.2.H, t5.2.From, t5.2.Pre, t5.2.Tube, t5.2.To⟩ : TSegment) ((u4 1).o 0) ((u4 1).n 0) ((u4 1).o 1) ((u4 1).n 1) ((u4 1).o 2) ((u4 1).n 2) ((u4 1).o 3) ((u4 1).n 3) ((u4 1).o 4) ((u4 1).n 4) t7 w (glob_of hF.2.2.2.2.2.1) (rdF_of hF.1) (rdF_of hF.2.1) (rdF_of hF.2.2.1) (rdF_of hF.2.2.2.1) (rdF_of hF.2.2.2.2.1) ht7)) <|
   .v 6 (vI t7) <| .nil) fun u6 a w' H => ?_
 replace H := H.toM [(3, sB t3), (4, (sP ((u4 5).n 0) 0)), (5, (sP ((u4 6).n 0) 0)), (6, sI t7), (82, .blk ((u4 5).n 0) [.slice ((u4 1).o 0) t5.1.F.length ((u4 1).n 0), vI t5.1.Dir] 31), (83, .blk ((u4 6).n 0) [vI t5.2.T, vI t5.2.H, .slice ((u4 1).o 1) t5.2.From.length ((u4 1).n 1), .slice ((u4 1).o 2) t5.2.Pre.length ((u4 1).n 2), .slice ((u4 1).o 3) t5.2.Tube.length ((u4 1).n 3), .slice ((u4 1).o 4) t5.2.To.length ((u4 1).n 4)] 34), (77, rdF fr 4 ((u4 1).o 0) t5.1.F.length ((u4 1).n 0) (t5.1.F.flatMap en_TNode)), (78, rdF fr 2 ((u4 1).o 1) t5.2.From.length ((u4 1).n 1) (t5.2.From.flatMap en_TInterval)), (79, rdF fr 2 ((u4 1).o 2) t5.2.Pre.length ((u4 1).n 2) (t5.2.Pre.flatMap en_TInterval)), (80, rdF fr 2 ((u4 1).o 3) t5.2.Tube.length ((u4 1).n 3) (t5.2.Tube.flatMap en_TInterval)), (81, rdF fr 2 ((u4 1).o 4) t5.2.To.length ((u4 1).n 4) (t5.2.To.flatMap en_TInterval)), (999999, gk)]
 refine k_seq ?_
 replace G := bnd G; obtain ⟨t9, ht9, G⟩ := G
 refine k_rg mixed H (.v 21 (vP ((u4 5).n 0) 0) <|
   .cons [22] (ok_ld (fun u8 => .slice ((u4 1).o 0) t5.1.F.length ((u4 1).n 0)) 22 82 0 1 (fun u8 => ((u4 5).n 0)) (fun u8 => [.slice ((u4 1).o 0) t5.1.F.length ((u4 1).n 0), vI t5.1.Dir]) 31) <|
   .v 23 (.agg #[.slice ((u4 1).o 0) t5.1.F.length ((u4 1).n 0), vI (-1)]) <|
   .cons [24] (ok_ld (fun u8 => .agg #[vI t5.2.T, vI t5.2.H, .slice ((u4 1).o 1) t5.2.From.length ((u4 1).n 1), .slice ((u4 1).o 2) t5.2.Pre.length ((u4 1).n 2), .slice ((u4 1).o 3) t5.2.Tube.length ((u4 1).n 3), .slice ((u4 1).o 4) t5.2.To.length ((u4 1).n 4)]) 24 83 0 6 (fun u8 => ((u4 6).n 0)) (fun u8 => [vI t5.2.T, vI t5.2.H, .slice ((u4 1).o 1) t5.2.From.length ((u4 1).n 1), .slice ((u4 1).o 2) t5.2.Pre.length ((u4 1).n 2), .slice ((u4 1).o 3) t5.2.Tube.length ((u4 1).n 3), .slice ((u4 1).o 4) t5.2.To.length ((u4 1).n 4)]) 34) <|
   .cons [25] (ok_callL [77, 78, 79, 80, 81, 999999] (fun u8 => [rdF fr 4 ((u4 1).o 0) t5.1.F.length ((u4 1).n 0) (t5.1.F.flatMap en_TNode), rdF fr 2 ((u4 1).o 1) t5.2.From.length ((u4 1).n 1) (t5.2.From.flatMap en_TInterval), rdF fr 2 ((u4 1).o 2) t5.2.Pre.length ((u4 1).n 2) (t5.2.Pre.flatMap en_TInterval), rdF fr 2 ((u4 1).o 3) t5.2.Tube.length ((u4 1).n 3) (t5.2.Tube.flatMap en_TInterval), rdF fr 2 ((u4 1).o 4) t5.2.To.length ((u4 1).n 4) (t5.2.To.flatMap en_TInterval), gk]) 19 (fun u8 => #[.agg #[.slice ((u4 1).o 0) t5.1.F.length ((u4 1).n 0), vI (-1)], .agg #[vI t5.2.T, vI t5.2.H, .slice ((u4 1).o 1) t5.2.From.length ((u4 1).n 1), .slice ((u4 1).o 2) t5.2.Pre.length ((u4 1).n 2), .slice ((u4 1).o 3) t5.2.Tube.length ((u4 1).n 3), .slice ((u4 1).o 4) t5.2.To.length ((u4 1).n 4)]]) (vI t9) 25 (fun u8 w hF => guard_Crossing.calls k0 (⟨t5.1.F, (-1)⟩ : TGuard) (⟨t5.2.T, t5.2.H, t5.2.From, t5.2.Pre, t5.2.Tube, t5.2.To⟩ : TSegment) ((u4 1).o 0) ((u4 1).n 0) ((u4 1).o 1) ((u4 1).n 1) ((u4 1).o 2) ((u4 1).n 2) ((u4 1).o 3) ((u4 1).n 3) ((u4 1).o 4) ((u4 1).n 4) t9 w (glob_of hF.2.2.2.2.2.1) (rdF_of hF.1) (rdF_of hF.2.1) (rdF_of hF.2.2.1) (rdF_of hF.2.2.2.1) (rdF_of hF.2.2.2.2.1) ht9)) <|
   .v 7 (vI t9) <| .nil) fun u8 a w' H => ?_
 replace H := H.toM [(3, sB t3), (4, (sP ((u4 5).n 0) 0)), (5, (sP ((u4 6).n 0) 0)), (6, sI t7), (7, sI t9), (82, .blk ((u4 5).n 0) [.slice ((u4 1).o 0) t5.1.F.length ((u4 1).n 0), vI t5.1.Dir] 31), (83, .blk ((u4 6).n 0) [vI t5.2.T, vI t5.2.H, .slice ((u4 1).o 1) t5.2.From.length ((u4 1).n 1), .slice ((u4 1).o 2) t5.2.Pre.length ((u4 1).n 2), .slice ((u4 1).o 3) t5.2.Tube.length ((u4 1).n 3), .slice ((u4 1).o 4) t5.2.To.length ((u4 1).n 4)] 34), (77, rdF fr 4 ((u4 1).o 0) t5.1.F.length ((u4 1).n 0) (t5.1.F.flatMap en_TNode)), (78, rdF fr 2 ((u4 1).o 1) t5.2.From.length ((u4 1).n 1) (t5.2.From.flatMap en_TInterval)), (79, rdF fr 2 ((u4 1).o 2) t5.2.Pre.length ((u4 1).n 2) (t5.2.Pre.flatMap en_TInterval)), (80, rdF fr 2 ((u4 1).o 3) t5.2.Tube.length ((u4 1).n 3) (t5.2.Tube.flatMap en_TInterval)), (81, rdF fr 2 ((u4 1).o 4) t5.2.To.length ((u4 1).n 4) (t5.2.To.flatMap en_TInterval)), (999999, gk)]
 refine k_seq ?_
 replace G := bnd G; obtain ⟨t11, ht11, G⟩ := G
 refine k_rg mixed H (.v 26 (vP ((u4 5).n 0) 0) <|
   .cons [27] (ok_ld (fun u10 => .slice ((u4 1).o 0) t5.1.F.length ((u4 1).n 0)) 27 82 0 1 (fun u10 => ((u4 5).n 0)) (fun u10 => [.slice ((u4 1).o 0) t5.1.F.length ((u4 1).n 0), vI t5.1.Dir]) 31) <|
   .v 28 (.agg #[.slice ((u4 1).o 0) t5.1.F.length ((u4 1).n 0), vI 0]) <|
   .cons [29] (ok_ld (fun u10 => .agg #[vI t5.2.T, vI t5.2.H, .slice ((u4 1).o 1) t5.2.From.length ((u4 1).n 1), .slice ((u4 1).o 2) t5.2.Pre.length ((u4 1).n 2), .slice ((u4 1).o 3) t5.2.Tube.length ((u4 1).n 3), .slice ((u4 1).o 4) t5.2.To.length ((u4 1).n 4)]) 29 83 0 6 (fun u10 => ((u4 6).n 0)) (fun u10 => [vI t5.2.T, vI t5.2.H, .slice ((u4 1).o 1) t5.2.From.length ((u4 1).n 1), .slice ((u4 1).o 2) t5.2.Pre.length ((u4 1).n 2), .slice ((u4 1).o 3) t5.2.Tube.length ((u4 1).n 3), .slice ((u4 1).o 4) t5.2.To.length ((u4 1).n 4)]) 34) <|
   .cons [30] (ok_callL [77, 78, 79, 80, 81, 999999] (fun u10 => [rdF fr 4 ((u4 1).o 0) t5.1.F.length ((u4 1).n 0) (t5.1.F.flatMap en_TNode), rdF fr 2 ((u4 1).o 1) t5.2.From.length ((u4 1).n 1) (t5.2.From.flatMap en_TInterval), rdF fr 2 ((u4 1).o 2) t5.2.Pre.length ((u4 1).n 2) (t5.2.Pre.flatMap en_TInterval), rdF fr 2 ((u4 1).o 3) t5.2.Tube.length ((u4 1).n 3) (t5.2.Tube.flatMap en_TInterval), rdF fr 2 ((u4 1).o 4) t5.2.To.length ((u4 1).n 4) (t5.2.To.flatMap en_TInterval), gk]) 19 (fun u10 => #[.agg #[.slice ((u4 1).o 0) t5.1.F.length ((u4 1).n 0), vI 0], .agg #[vI t5.2.T, vI t5.2.H, .slice ((u4 1).o 1) t5.2.From.length ((u4 1).n 1), .slice ((u4 1).o 2) t5.2.Pre.length ((u4 1).n 2), .slice ((u4 1).o 3) t5.2.Tube.length ((u4 1).n 3), .slice ((u4 1).o 4) t5.2.To.length ((u4 1).n 4)]]) (vI t11) 30 (fun u10 w hF => guard_Crossing.calls k0 (⟨t5.1.F, 0⟩ : TGuard) (⟨t5.2.T, t5.2.H, t5.2.From, t5.2.Pre, t5.2.Tube, t5.2.To⟩ : TSegment) ((u4 1).o 0) ((u4 1).n 0) ((u4 1).o 1) ((u4 1).n 1) ((u4 1).o 2) ((u4 1).n 2) ((u4 1).o 3) ((u4 1).n 3) ((u4 1).o 4) ((u4 1).n 4) t11 w (glob_of hF.2.2.2.2.2.1) (rdF_of hF.1) (rdF_of hF.2.1) (rdF_of hF.2.2.1) (rdF_of hF.2.2.2.1) (rdF_of hF.2.2.2.2.1) ht11)) <|
   .v 8 (vI t11) <| .nil) fun u10 a w' H => ?_
 replace H := H.toM [(3, sB t3), (6, sI t7), (7, sI t9), (8, sI t11), (999999, gk)]
 refine k_seq ?_
 refine k_seq ?_
 refine k_rg mixed H (.v 31 (vI t7) <|
   .v 32 (.bool (decide (t7 < 0))) <|
   .v 33 (.bool (decide (t7 < 0))) <|
   .cons [34] (ok_valg (fun u12 => vI t7) (fun u12 => ((decide (t7 < 0)) == false)) [true] 34) <|
   .cons [35] (ok_valg (fun u12 => .bool (decide (t7 > 2))) (fun u12 => ((decide (t7 < 0)) == false)) [false, true] 35) <|
   .cons [36] (ok_or 33 35 (fun u12 => true) (fun u12 => true) (fun u12 => decide (t7 < 0)) (fun u12 => decide (t7 > 2)) 36) <|
   .v 37 (.bool ((decide (t7 < 0)) || (decide (t7 > 2)))) <|
   .cons [38] (ok_valg (fun u12 => vI t9) (fun u12 => (((decide (t7 < 0)) || (decide (t7 > 2))) == false)) [true] 38) <|
   .cons [39] (ok_valg (fun u12 => .bool (decide (t9 < 0))) (fun u12 => (((decide (t7 < 0)) || (decide (t7 > 2))) == false)) [false, true] 39) <|
   .cons [40] (ok_or 37 39 (fun u12 => true) (fun u12 => true) (fun u12 => ((decide (t7 < 0)) || (decide (t7 > 2)))) (fun u12 => decide (t9 < 0)) 40) <|
   .v 41 (.bool (((decide (t7 < 0)) || (decide (t7 > 2))) || (decide (t9 < 0)))) <|
   .cons [42] (ok_valg (fun u12 => vI t9) (fun u12 => ((((decide (t7 < 0)) || (decide (t7 > 2))) || (decide (t9 < 0))) == false)) [true] 42) <|
   .cons [43] (ok_valg (fun u12 => .bool (decide (t9 > 2))) (fun u12 => ((((decide (t7 < 0)) || (decide (t7 > 2))) || (decide (t9 < 0))) == false)) [false, true] 43) <|
   .cons [44] (ok_or 41 43 (fun u12 => true) (fun u12 => true) (fun u12 => (((decide (t7 < 0)) || (decide (t7 > 2))) || (decide (t9 < 0)))) (fun u12 => decide (t9 > 2)) 44) <|
   .v 45 (.bool ((((decide (t7 < 0)) || (decide (t7 > 2))) || (decide (t9 < 0))) || (decide (t9 > 2)))) <|
   .cons [46] (ok_valg (fun u12 => vI t7) (fun u12 => (((((decide (t7 < 0)) || (decide (t7 > 2))) || (decide (t9 < 0))) || (decide (t9 > 2))) == false)) [true] 46) <|
   .cons [47] (ok_valg (fun u12 => .bool (t7 == 2)) (fun u12 => (((((decide (t7 < 0)) || (decide (t7 > 2))) || (decide (t9 < 0))) || (decide (t9 > 2))) == false)) [false, true] 47) <|
   .cons [48] (ok_valg (fun u12 => .bool (t7 == 2)) (fun u12 => (((((decide (t7 < 0)) || (decide (t7 > 2))) || (decide (t9 < 0))) || (decide (t9 > 2))) == false)) [false] 48) <|
   .cons [49] (ok_valg (fun u12 => vI t9) (fun u12 => ((((((decide (t7 < 0)) || (decide (t7 > 2))) || (decide (t9 < 0))) || (decide (t9 > 2))) == false) && ((t7 == 2) == true))) [true] 49) <|
   .cons [50] (ok_valg (fun u12 => .bool (t9 == 2)) (fun u12 => ((((((decide (t7 < 0)) || (decide (t7 > 2))) || (decide (t9 < 0))) || (decide (t9 > 2))) == false) && ((t7 == 2) == true))) [false, true] 50) <|
   .cons [51] (ok_and 48 50 (fun u12 => (((((decide (t7 < 0)) || (decide (t7 > 2))) || (decide (t9 < 0))) || (decide (t9 > 2))) == false)) (fun u12 => (((((decide (t7 < 0)) || (decide (t7 > 2))) || (decide (t9 < 0))) || (decide (t9 > 2))) == false)) (fun u12 => (t7 == 2)) (fun u12 => (t9 == 2)) 51) <|
   .cons [52] (ok_or 45 51 (fun u12 => true) (fun u12 => true) (fun u12 => ((((decide (t7 < 0)) || (decide (t7 > 2))) || (decide (t9 < 0))) || (decide (t9 > 2)))) (fun u12 => ((t7 == 2) && (t9 == 2))) 52) <| .nil) fun u12 a w' H => ?_
 replace H := H.toM [(3, sB t3), (6, sI t7), (7, sI t9), (8, sI t11), (52, (sB (((((decide (t7 < 0)) || (decide (t7 > 2))) || (decide (t9 < 0))) || (decide (t9 > 2))) || ((t7 == 2) && (t9 == 2))))), (999999, gk)]
 refine k_cond H (by kernel_rfl) (t := (((((decide (t7 < 0)) || (decide (t7 > 2))) || (decide (t9 < 0))) || (decide (t9 > 2))) || ((t7 == 2) && (t9 == 2)))) (by kernel_rfl) (fun c24 => ?_) (fun c24 => ?_)
 ·rw [if_pos c24] at G
  refine k_seq ?_
  refine k_rg mixed H (.v 2 (.bool false) <| .nil) fun u13 a w' H => ?_
  replace H := H.toM [(2, sB false), (999999, gk)]
  refine k_ret ?_
  obtain rfl := Option.some.inj G
  exact k_done0 H _ (by kernel_rfl) (by kernel_rfl)
 ·rw [if_neg (nt c24)] at G
  refine k_skip ?_
  refine k_seq ?_
  refine k_rg mixed H (.v 9 (vI 1) <| .nil) fun u14 a w' H => ?_
  replace H := H.toM [(3, sB t3), (6, sI t7), (7, sI t9), (8, sI t11), (9, sI 1), (999999, gk)]
  refine k_seq ?_
  replace G := bnd G; obtain ⟨j16, hj16, G⟩ := G
  refine k_join (fun a w' => Rep w.heap.size w 71 (ofL [(3, sB t3), (8, sI t11), (9, sI j16), (999999, gk)]) a w') ?_ ?_
  ·clear H; intro a w' H
   refine k_seq ?_
   refine k_rg mixed H (.v 65 (.bool t3) <|
   .v 66 (.bool t3) <|
   .cons [67] (ok_valg (fun u17 => vI t11) (fun u17 => (t3 == true)) [true] 67) <|
   .cons [68] (ok_valg (fun u17 => vI j16) (fun u17 => (t3 == true)) [true] 68) <|
   .cons [69] (ok_valg (fun u17 => .bool (t11 == j16)) (fun u17 => (t3 == true)) [false, false] 69) <|
   .cons [70] (ok_and 66 69 (fun u17 => true) (fun u17 => true) (fun u17 => t3) (fun u17 => (t11 == j16)) 70) <|
   .v 2 (.bool (t3 && (t11 == j16))) <| .nil) fun u17 a w' H => ?_
   replace H := H.toM [(2, (sB (t3 && (t11 == j16)))), (999999, gk)]
   refine k_ret ?_
   obtain rfl := Option.some.inj G
   exact k_done0 H _ (by kernel_rfl) (by kernel_rfl)
  ·clear G; replace G := hj16; clear hj16
   refine k_seq ?_
   refine k_rg mixed H (.v 53 (vI t7) <|
   .v 54 (.bool (t7 == 2)) <|
   .v 55 (.bool (t7 == 2)) <|
   .cons [56] (ok_valg (fun u18 => vI t9) (fun u18 => ((t7 == 2) == false)) [true] 56) <|
   .cons [57] (ok_valg (fun u18 => .bool (t9 == 2)) (fun u18 => ((t7 == 2) == false)) [false, true] 57) <|
   .cons [58] (ok_or 55 57 (fun u18 => true) (fun u18 => true) (fun u18 => (t7 == 2)) (fun u18 => (t9 == 2)) 58) <| .nil) fun u18 a w' H => ?_
   replace H := H.toM [(3, sB t3), (6, sI t7), (7, sI t9), (8, sI t11), (9, sI 1), (58, (sB ((t7 == 2) || (t9 == 2)))), (999999, gk)]
   refine k_cond H (by kernel_rfl) (t := ((t7 == 2) || (t9 == 2))) (by kernel_rfl) (fun c23 => ?_) (fun c23 => ?_)
   ·rw [if_pos c23] at G
    refine k_rg mixed H (.v 9 (vI 2) <| .nil) fun u19 a w' H => ?_
    replace H := H.toM [(3, sB t3), (8, sI t11), (9, sI 2), (999999, gk)]
    obtain rfl := Option.some.inj G
    exact H.toL _ (by kernel_rfl)
   ·rw [if_neg (nt c23)] at G
    refine k_seq ?_
    refine k_rg mixed H (.v 59 (vI t7) <|
   .v 60 (.bool (t7 == 0)) <|
   .v 61 (.bool (t7 == 0)) <|
   .cons [62] (ok_valg (fun u20 => vI t9) (fun u20 => ((t7 == 0) == true)) [true] 62) <|
   .cons [63] (ok_valg (fun u20 => .bool (t9 == 0)) (fun u20 => ((t7 == 0) == true)) [false, true] 63) <|
   .cons [64] (ok_and 61 63 (fun u20 => true) (fun u20 => true) (fun u20 => (t7 == 0)) (fun u20 => (t9 == 0)) 64) <| .nil) fun u20 a w' H => ?_
    replace H := H.toM [(3, sB t3), (8, sI t11), (9, sI 1), (64, (sB ((t7 == 0) && (t9 == 0)))), (999999, gk)]
    refine k_cond H (by kernel_rfl) (t := ((t7 == 0) && (t9 == 0))) (by kernel_rfl) (fun c22 => ?_) (fun c22 => ?_)
    ·rw [if_pos c22] at G
     refine k_rg mixed H (.v 9 (vI 0) <| .nil) fun u21 a w' H => ?_
     replace H := H.toM [(3, sB t3), (8, sI t11), (9, sI 0), (999999, gk)]
     obtain rfl := Option.some.inj G
     exact H.toL _ (by kernel_rfl)
    ·rw [if_neg (nt c22)] at G
     refine k_skip ?_
     obtain rfl := Option.some.inj G
     exact H.toL _ (by kernel_rfl)

end Go.Proofs.YtkkodieceehkmaaDoor
