/- Each function of the program answers as the plain Lean function of its name (part 4). Printed by a program of this session. -/
import Derived.Test.YtpmgpcklieincaaGreatDoorFn3
set_option linter.unusedVariables false
set_option linter.unusedSimpArgs false
set_option maxRecDepth 100000
set_option maxHeartbeats 4000000
namespace Go.Proofs.YtpmgpcklieincaaGreatDoor
open Go Go.RowKit Go.Sx Go.Proofs
theorem approach_close_1_m.ok (k0 : Nat) (q0 : List TSegment) (q1 : List TSegment) (q2 : TSeparation) (b_q0 : Nat) (p_q0 : Option Addr) (c_q0 : Nat) (L_q0 : List G_TSegment) (b_q1 : Nat) (p_q1 : Option Addr) (c_q1 : Nat) (L_q1 : List G_TSegment) (b_q2 : Nat) (r : List (TInterval)) (h_q0 : q0 = L_q0.map er_TSegment) (h_q1 : q1 = L_q1.map er_TSegment) (G : approach_close_1_m k0 q0 q1 q2 = some r) :
  IterL Tryz.prog 70 #[vP b_q0 0, vP b_q1 0, vP b_q2 0] (fun t => #[enI t]) r (fun w => AllH [rdl anyF 6 p_q0 c_q0 L_q0 en_TSegment, dnK anyF E_TSegment.toPart L_q0, bxK b_q0 [.slice p_q0 L_q0.length c_q0] 31, rdl anyF 6 p_q1 c_q1 L_q1 en_TSegment, dnK anyF E_TSegment.toPart L_q1, bxK b_q1 [.slice p_q1 L_q1.length c_q1] 31, bxK b_q2 [vI q2.Pos, vI q2.D] 86] w) := by
 intro l J JX base hJ hJX hF w hJc hXc hY W h0 hsz
 have hB := hF _ _ h0
 obtain ⟨fr, hfr⟩ : ∃ fr : Nat → Prop, ∀ j, fr j := ⟨fun _ => True, fun _ => trivial⟩
 have hBf : ∀ j, w.heap.size ≤ j → fr j := fun j _ => hfr j
 have hFB : ∀ x ∈ ([(34, rdl anyF 6 p_q0 c_q0 L_q0 en_TSegment), (35, dnK anyF E_TSegment.toPart L_q0), (33, bxK b_q0 [.slice p_q0 L_q0.length c_q0] 31), (37, rdl anyF 6 p_q1 c_q1 L_q1 en_TSegment), (38, dnK anyF E_TSegment.toPart L_q1), (36, bxK b_q1 [.slice p_q1 L_q1.length c_q1] 31), (39, bxK b_q2 [vI q2.Pos, vI q2.D] 86)] : List (Nat × KV)), (∃ fp F, x.2 = .fact fp F) ∧ x.2.holds W ∧ ∀ i, x.2.fp i → i < W.heap.size := by
  intro x hx
  simp only [List.mem_cons, List.not_mem_nil, or_false] at hx
  rcases hx with rfl | rfl | rfl | rfl | rfl | rfl | rfl
  ·exact rdF_fact (rdF_of hB.1) (fun _ _ => trivial) (by decide) _
  ·exact dn_fact (dn_of hB.2.1) (fun _ _ => trivial) _
  ·exact bx_fact (hB.2.2.1 W (agree.refl _ _)) _
  ·exact rdF_fact (rdF_of hB.2.2.2.1) (fun _ _ => trivial) (by decide) _
  ·exact dn_fact (dn_of hB.2.2.2.2.1) (fun _ _ => trivial) _
  ·exact bx_fact (hB.2.2.2.2.2.1 W (agree.refl _ _)) _
  ·exact bx_fact (hB.2.2.2.2.2.2.1 W (agree.refl _ _)) _
 have hFX : ∀ x ∈ ([(34, rdl anyF 6 p_q0 c_q0 L_q0 en_TSegment), (35, dnK anyF E_TSegment.toPart L_q0), (33, bxK b_q0 [.slice p_q0 L_q0.length c_q0] 31), (37, rdl anyF 6 p_q1 c_q1 L_q1 en_TSegment), (38, dnK anyF E_TSegment.toPart L_q1), (36, bxK b_q1 [.slice p_q1 L_q1.length c_q1] 31), (39, bxK b_q2 [vI q2.Pos, vI q2.D] 86)] : List (Nat × KV)), (∃ fp F, x.2 = .fact fp F) ∧ ∀ i, x.2.fp i → i < base := fun x hx => ⟨(hFB x hx).1, by rw [← hsz]; exact (hFB x hx).2.2⟩
 have hFJ : ∀ s W, J s W → ∀ x ∈ ([(34, rdl anyF 6 p_q0 c_q0 L_q0 en_TSegment), (35, dnK anyF E_TSegment.toPart L_q0), (33, bxK b_q0 [.slice p_q0 L_q0.length c_q0] 31), (37, rdl anyF 6 p_q1 c_q1 L_q1 en_TSegment), (38, dnK anyF E_TSegment.toPart L_q1), (36, bxK b_q1 [.slice p_q1 L_q1.length c_q1] 31), (39, bxK b_q2 [vI q2.Pos, vI q2.D] 86)] : List (Nat × KV)), x.2.holds W := fun s W h => allH_fs _ (hF _ _ h)
 have hbase : 0 < base := Nat.lt_of_le_of_lt (Nat.zero_le _) ((hFX _ (.tail _ (.tail _ (.head _)))).2 b_q0 rfl)
 refine callsIn_WF ?_
 refine k_enterM (args := [.func (.yield l) #[] #[], vP b_q0 0, vP b_q1 0, vP b_q2 0]) 33 [] (fun x hx => by cases hx) Tryz.func70 rfl (by kernel_rfl) (by kernel_rfl) fun a H => ?_
 replace H := (H.again W (hJc _ _ h0) (Nat.zero_le _) ([(34, rdl anyF 6 p_q0 c_q0 L_q0 en_TSegment), (35, dnK anyF E_TSegment.toPart L_q0), (33, bxK b_q0 [.slice p_q0 L_q0.length c_q0] 31), (37, rdl anyF 6 p_q1 c_q1 L_q1 en_TSegment), (38, dnK anyF E_TSegment.toPart L_q1), (36, bxK b_q1 [.slice p_q1 L_q1.length c_q1] 31), (39, bxK b_q2 [vI q2.Pos, vI q2.D] 86)] ++ [(40, jK base w (J r))]) (fun x hx => (List.mem_append.1 hx).elim (hFB x) fun hx => by
  rw [List.mem_singleton.1 hx]
  exact ⟨⟨_, _, rfl⟩, jK_same hbase (Nat.le_of_eq hsz.symm) (fun W' hs => hJ _ _ _ h0 hs) (hJc _ _ h0), fun i hi => by rw [hsz]; exact hi⟩)).toL [(0, .slot true (.func (.yield l) #[] #[])), (1, sP b_q0 0), (2, sP b_q1 0), (3, sP b_q2 0), (34, rdl anyF 6 p_q0 c_q0 L_q0 en_TSegment), (35, dnK anyF E_TSegment.toPart L_q0), (37, rdl anyF 6 p_q1 c_q1 L_q1 en_TSegment), (38, dnK anyF E_TSegment.toPart L_q1), (33, bxK b_q0 [.slice p_q0 L_q0.length c_q0] 31), (36, bxK b_q1 [.slice p_q1 L_q1.length c_q1] 31), (39, bxK b_q2 [vI q2.Pos, vI q2.D] 86), (40, jK base w (J r))] (by kernel_rfl)
 clear hB hFB h0 hsz
 unfold approach_close_1_m at G
 refine k_srk mixed H (.cons [4, 41] (ok_new (fun b => vP b 0) (fun u1 => [.func (.yield l) #[] #[]]) 72 4 41) <| .nil) [1, 2, 3, 4, 34, 35, 37, 38, 41, 33, 36, 39, 40] fun u1 a w' H => ?_
 refine k_srk mixed H (.cons [6] (ok_ldK (fun u2 => .slice p_q0 L_q0.length c_q0) 6 33 (bxK b_q0 [.slice p_q0 L_q0.length c_q0] 31) b_q0 0 1 [.slice p_q0 L_q0.length c_q0] (fun w h => bx_of h)) <|
 .cons [7] (ok_ldK (fun u2 => .slice p_q1 L_q1.length c_q1) 7 36 (bxK b_q1 [.slice p_q1 L_q1.length c_q1] 31) b_q1 0 1 [.slice p_q1 L_q1.length c_q1] (fun w h => bx_of h)) <|
 .cons [8, 42, 43] (ok_callB2 71 (fun u2 => #[.slice p_q0 L_q0.length c_q0, .slice p_q1 L_q1.length c_q1]) (fun b1 b2 => .func (.func 86) #[] #[vP b1 0, vP b2 0]) [.slice p_q0 L_q0.length c_q0] [.slice p_q1 L_q1.length c_q1] 31 31 8 42 43 (fun _ w => approach_overlaps.calls q0 p_q0 L_q0.length c_q0 q1 p_q1 L_q1.length c_q1 w)) <| .nil) [3, 4, 8, 34, 35, 37, 38, 41, 42, 43, 33, 36, 39, 40] fun u2 a w' H => ?_
 refine k_block ?_
 replace G := bnd G; obtain ⟨t4, ht4, G⟩ := G
 have hlw : base ≤ w'.heap.size := jK_size (J := J r) hbase 40 H (by kernel_rfl)
 refine k_rangeL (fun z => #[ovV L_q0 L_q1 z]) (fun z => [(9, .slot true (ovV L_q0 L_q1 z))]) t4 (fun w => AllH [rdl anyF 6 p_q0 c_q0 L_q0 en_TSegment, dnK anyF E_TSegment.toPart L_q0, bxK ((u2 2).n 0) [.slice p_q0 L_q0.length c_q0] 31, rdl anyF 6 p_q1 c_q1 L_q1 en_TSegment, dnK anyF E_TSegment.toPart L_q1, bxK ((u2 2).n 1) [.slice p_q1 L_q1.length c_q1] 31] w) 44 45 46 (fun zs L => ∃ r, approach_close_1_m.l7 k0 q0 q1 q2 zs = some r ∧ L = [(34, rdl anyF 6 p_q0 c_q0 L_q0 en_TSegment), (35, dnK anyF E_TSegment.toPart L_q0), (37, rdl anyF 6 p_q1 c_q1 L_q1 en_TSegment), (38, dnK anyF E_TSegment.toPart L_q1), (41, .blk ((u1 0).n 0) [.func (.yield l) #[] #[]] 72), (42, .blk ((u2 2).n 0) [.slice p_q0 L_q0.length c_q0] 31), (43, .blk ((u2 2).n 1) [.slice p_q1 L_q1.length c_q1] 31), (33, bxK b_q0 [.slice p_q0 L_q0.length c_q0] 31), (36, bxK b_q1 [.slice p_q1 L_q1.length c_q1] 31), (39, bxK b_q2 [vI q2.Pos, vI q2.D] 86), (40, jK base w (J r))]) (fun L => L = [(40, jK base w JX)]) [(34, rdl anyF 6 p_q0 c_q0 L_q0 en_TSegment), (35, dnK anyF E_TSegment.toPart L_q0), (37, rdl anyF 6 p_q1 c_q1 L_q1 en_TSegment), (38, dnK anyF E_TSegment.toPart L_q1), (41, .blk ((u1 0).n 0) [.func (.yield l) #[] #[]] 72), (42, .blk ((u2 2).n 0) [.slice p_q0 L_q0.length c_q0] 31), (43, .blk ((u2 2).n 1) [.slice p_q1 L_q1.length c_q1] 31), (33, bxK b_q0 [.slice p_q0 L_q0.length c_q0] 31), (36, bxK b_q1 [.slice p_q1 L_q1.length c_q1] 31), (39, bxK b_q2 [vI q2.Pos, vI q2.D] 86), (40, jK base w (J r))] H (by kernel_rfl) (by kernel_rfl) (enters_fn Tryz.func86 (by kernel_rfl) rfl) (approach_overlaps_1_m.ok k0 q0 q1 ((u2 2).n 0) p_q0 c_q0 L_q0 ((u2 2).n 1) p_q1 c_q1 L_q1 t4 h_q0 h_q1 ht4) (puts1 9 (fun z : Nat × Nat => ovV L_q0 L_q1 z) (by rfl)) ⟨_, G, rfl⟩ (by kernel_rfl) (by kernel_rfl) (by kernel_rfl) (by kernel_rfl) (by kernel_rfl) (by kernel_rfl) (by rintro zs L ⟨r, G, rfl⟩ x hx i hi; simp only [List.mem_cons, List.not_mem_nil, or_false] at hx; rcases hx with rfl | rfl | rfl | rfl | rfl | rfl | rfl | rfl | rfl | rfl | rfl; all_goals exact hi) (by rintro L rfl x hx i hi; simp only [List.mem_cons, List.not_mem_nil, or_false] at hx; rcases hx with rfl; all_goals exact hi) (by rintro zs L a w ⟨r, G, rfl⟩ h; have hF : AllH [rdl anyF 6 p_q0 c_q0 L_q0 en_TSegment, dnK anyF E_TSegment.toPart L_q0, .blk ((u2 2).n 0) [.slice p_q0 L_q0.length c_q0] 31, rdl anyF 6 p_q1 c_q1 L_q1 en_TSegment, dnK anyF E_TSegment.toPart L_q1, .blk ((u2 2).n 1) [.slice p_q1 L_q1.length c_q1] 31] w := ⟨h.at (K := rdl anyF 6 p_q0 c_q0 L_q0 en_TSegment) 34 (by kernel_rfl), h.at (K := dnK anyF E_TSegment.toPart L_q0) 35 (by kernel_rfl), h.at (K := .blk ((u2 2).n 0) [.slice p_q0 L_q0.length c_q0] 31) 42 (by kernel_rfl), h.at (K := rdl anyF 6 p_q1 c_q1 L_q1 en_TSegment) 37 (by kernel_rfl), h.at (K := dnK anyF E_TSegment.toPart L_q1) 38 (by kernel_rfl), h.at (K := .blk ((u2 2).n 1) [.slice p_q1 L_q1.length c_q1] 31) 43 (by kernel_rfl), trivial⟩; exact ⟨(rdA (rdF_of hF.1)), (dnA (dn_of hF.2.1)), (bx_fact hF.2.2.1 0).2.1, (rdA (rdF_of hF.2.2.2.1)), (dnA (dn_of hF.2.2.2.2.1)), (bx_fact hF.2.2.2.2.2.1 0).2.1, trivial⟩) ?_ ?_ ?_
 ·clear H G; rintro li Di bi oR oD Wi z zs L a w' hbi ⟨r, G, rfl⟩ H
  unfold approach_close_1_m.l7 at G
  have hbb : base ≤ bi := Nat.le_trans hlw hbi
  replace G := bnd G; obtain ⟨t5, ht5, G⟩ := G
  replace G := bnd G; obtain ⟨t6, ht6, G⟩ := G
  obtain ⟨p_t5_From, c_t5_From, p_t5_Pre, c_t5_Pre, p_t5_Tube, c_t5_Tube, p_t5_To, c_t5_To, y_t5⟩ := get_TSegment h_q0 ht5
  obtain ⟨p_t6_From, c_t6_From, p_t6_Pre, c_t6_Pre, p_t6_Tube, c_t6_Tube, p_t6_To, c_t6_To, y_t6⟩ := get_TSegment h_q1 ht6
  rw [ovV_eq y_t5 y_t6] at H
  replace H := H.kp [3, 4, 8, 9, 34, 35, 37, 38, 41, 42, 43, 33, 36, 39, 40, 44, 45, 46]
  refine r_reg mixed H (.cons [5, 47] (ok_new (fun b => vP b 0) (fun u8 => [vI 0, vI 0, .slice none 0 0, .slice none 0 0, .slice none 0 0, .slice none 0 0, vI 0, vI 0, .slice none 0 0, .slice none 0 0, .slice none 0 0, .slice none 0 0, vI 0, vI 0]) 157 5 47) <|
 .cons [47] (ok_as (u' := fun u8 => [(47, .blk ((u8 0).n 0) [vI t5.T, vI t5.H, .slice p_t5_From t5.From.length c_t5_From, .slice p_t5_Pre t5.Pre.length c_t5_Pre, .slice p_t5_Tube t5.Tube.length c_t5_Tube, .slice p_t5_To t5.To.length c_t5_To, vI t6.T, vI t6.H, .slice p_t6_From t6.From.length c_t6_From, .slice p_t6_Pre t6.Pre.length c_t6_Pre, .slice p_t6_Tube t6.Tube.length c_t6_Tube, .slice p_t6_To t6.To.length c_t6_To, vI (mx t5.T t6.T), vI (mn (w_i64 (t5.T + t5.H)) (w_i64 (t6.T + t6.H)))] 157)]) (ok_store 47 0 (fun u8 => ((u8 0).n 0)) (fun u8 => [vI 0, vI 0, .slice none 0 0, .slice none 0 0, .slice none 0 0, .slice none 0 0, vI 0, vI 0, .slice none 0 0, .slice none 0 0, .slice none 0 0, .slice none 0 0, vI 0, vI 0]) (fun u8 => [vI t5.T, vI t5.H, .slice p_t5_From t5.From.length c_t5_From, .slice p_t5_Pre t5.Pre.length c_t5_Pre, .slice p_t5_Tube t5.Tube.length c_t5_Tube, .slice p_t5_To t5.To.length c_t5_To, vI t6.T, vI t6.H, .slice p_t6_From t6.From.length c_t6_From, .slice p_t6_Pre t6.Pre.length c_t6_Pre, .slice p_t6_Tube t6.Tube.length c_t6_Tube, .slice p_t6_To t6.To.length c_t6_To, vI (mx t5.T t6.T), vI (mn (w_i64 (t5.T + t5.H)) (w_i64 (t6.T + t6.H)))]) 157) (fun _ => by kernel_rfl)) <| .nil) (by kernel_rfl) (by kernel_rfl) fun u8 a w' H => ?_
  replace H := H.kp [3, 4, 5, 8, 34, 35, 37, 38, 41, 42, 43, 47, 33, 36, 39, 40, 44, 45, 46]
  refine ⟨_, H, by kernel_rfl, fun oB w' H => ?_⟩
  replace H := H.kp [3, 4, 5, 8, 34, 35, 37, 38, 41, 42, 43, 47, 33, 36, 39, 40, 44, 45, 46]
  refine r_block ?_
  refine r_seq ?_
  replace G := gd G; obtain ⟨b10, G⟩ := G
  replace G := gd G; obtain ⟨b11, G⟩ := G
  replace G := bnd G; obtain ⟨t12, ht12, G⟩ := G
  replace G := bnd G; obtain ⟨z13, hz13, G⟩ := G
  replace hz13 := Option.some.inj hz13
  by_cases c14 : z13 = true
  ·rw [if_pos c14] at G; subst c14
   replace G := bnd G; obtain ⟨r, hr, G⟩ := G; obtain rfl := sj G; replace G := hr; clear hr
   refine r_of (y_reg (Rp := RepK 40 [34, 35, 33, 37, 38, 36, 39] base w 33) mixed ⟨H.toM [(3, sP b_q2 0), (4, (sP ((u1 0).n 0) 0)), (5, (sP ((u8 0).n 0) 0)), (8, .slot true (.func (.func 86) #[] #[vP ((u2 2).n 0) 0, vP ((u2 2).n 1) 0])), (34, rdl anyF 6 p_q0 c_q0 L_q0 en_TSegment), (35, dnK anyF E_TSegment.toPart L_q0), (37, rdl anyF 6 p_q1 c_q1 L_q1 en_TSegment), (38, dnK anyF E_TSegment.toPart L_q1), (41, .blk ((u1 0).n 0) [.func (.yield l) #[] #[]] 72), (42, .blk ((u2 2).n 0) [.slice p_q0 L_q0.length c_q0] 31), (43, .blk ((u2 2).n 1) [.slice p_q1 L_q1.length c_q1] 31), (47, .blk ((u8 0).n 0) [vI t5.T, vI t5.H, .slice p_t5_From t5.From.length c_t5_From, .slice p_t5_Pre t5.Pre.length c_t5_Pre, .slice p_t5_Tube t5.Tube.length c_t5_Tube, .slice p_t5_To t5.To.length c_t5_To, vI t6.T, vI t6.H, .slice p_t6_From t6.From.length c_t6_From, .slice p_t6_Pre t6.Pre.length c_t6_Pre, .slice p_t6_Tube t6.Tube.length c_t6_Tube, .slice p_t6_To t6.To.length c_t6_To, vI (mx t5.T t6.T), vI (mn (w_i64 (t5.T + t5.H)) (w_i64 (t6.T + t6.H)))] 157), (33, bxK b_q0 [.slice p_q0 L_q0.length c_q0] 31), (36, bxK b_q1 [.slice p_q1 L_q1.length c_q1] 31), (39, bxK b_q2 [vI q2.Pos, vI q2.D] 86), (40, jK base w (J ((⟨(mx t5.T t6.T), (mn (w_i64 (t5.T + t5.H)) (w_i64 (t6.T + t6.H)))⟩ : TInterval) :: r))), (44, obK li oB), (45, obK Di oD), (46, keK bi Wi)] (by kernel_rfl), onlyK_ofF _ 46 (by kernel_rfl) (fun i hi => Nat.le_trans hbb (show bi ≤ i ∧ _ from hi).1)⟩ (.cons [10] (okk (ok_val (fun u9 => vP ((u8 0).n 0) 0) 10)) <|
 .cons [11] (okk (ok_val (fun u9 => vP ((u8 0).n 0) 4) 11)) <|
 .cons [12] (okk (ok_ldc (.slice p_t5_Tube t5.Tube.length c_t5_Tube) 12 47 4 1 ((u8 0).n 0) [vI t5.T, vI t5.H, .slice p_t5_From t5.From.length c_t5_From, .slice p_t5_Pre t5.Pre.length c_t5_Pre, .slice p_t5_Tube t5.Tube.length c_t5_Tube, .slice p_t5_To t5.To.length c_t5_To, vI t6.T, vI t6.H, .slice p_t6_From t6.From.length c_t6_From, .slice p_t6_Pre t6.Pre.length c_t6_Pre, .slice p_t6_Tube t6.Tube.length c_t6_Tube, .slice p_t6_To t6.To.length c_t6_To, vI (mx t5.T t6.T), vI (mn (w_i64 (t5.T + t5.H)) (w_i64 (t6.T + t6.H)))] 157)) <|
 .cons [13] (okk (ok_val (fun u9 => vP b_q2 0) 13)) <|
 .cons [14] (okk (ok_ldK (fun u9 => vI q2.Pos) 14 39 (bxK b_q2 [vI q2.Pos, vI q2.D] 86) b_q2 0 1 [vI q2.Pos, vI q2.D] (fun w h => bx_of h))) <|
 .cons [15] (okk (ok_valL [35] (fun u9 => [dnK anyF E_TSegment.toPart L_q0]) (fun u9 => .slice p_t5_Tube ((t5.Tube.take q2.Pos.toNat).length) c_t5_Tube) (fun u9 => true) [true, true] 15 (fun u9 w _ hF => run_of (by kernel_rfl) (run_high (t := 48) (sz := 2) (l := t5.Tube) (k := .i64) rfl b10 (show RowC _ 2 p_t5_Tube t5.Tube.length c_t5_Tube (t5.Tube.flatMap en_TInterval) from ((dn_of hF.1) _ (List.mem_of_getElem? y_t5)).2.2.1.1).1)))) <|
 .cons [16] (okk (ok_val (fun u9 => vP ((u8 0).n 0) 6) 16)) <|
 .cons [17] (okk (ok_val (fun u9 => vP ((u8 0).n 0) 10) 17)) <|
 .cons [18] (okk (ok_ldc (.slice p_t6_Tube t6.Tube.length c_t6_Tube) 18 47 10 1 ((u8 0).n 0) [vI t5.T, vI t5.H, .slice p_t5_From t5.From.length c_t5_From, .slice p_t5_Pre t5.Pre.length c_t5_Pre, .slice p_t5_Tube t5.Tube.length c_t5_Tube, .slice p_t5_To t5.To.length c_t5_To, vI t6.T, vI t6.H, .slice p_t6_From t6.From.length c_t6_From, .slice p_t6_Pre t6.Pre.length c_t6_Pre, .slice p_t6_Tube t6.Tube.length c_t6_Tube, .slice p_t6_To t6.To.length c_t6_To, vI (mx t5.T t6.T), vI (mn (w_i64 (t5.T + t5.H)) (w_i64 (t6.T + t6.H)))] 157)) <|
 .cons [19] (okk (ok_val (fun u9 => vP b_q2 0) 19)) <|
 .cons [20] (okk (ok_ldK (fun u9 => vI q2.Pos) 20 39 (bxK b_q2 [vI q2.Pos, vI q2.D] 86) b_q2 0 1 [vI q2.Pos, vI q2.D] (fun w h => bx_of h))) <|
 .cons [21] (okk (ok_valL [38] (fun u9 => [dnK anyF E_TSegment.toPart L_q1]) (fun u9 => .slice p_t6_Tube ((t6.Tube.take q2.Pos.toNat).length) c_t6_Tube) (fun u9 => true) [true, true] 21 (fun u9 w _ hF => run_of (by kernel_rfl) (run_high (t := 48) (sz := 2) (l := t6.Tube) (k := .i64) rfl b11 (show RowC _ 2 p_t6_Tube t6.Tube.length c_t6_Tube (t6.Tube.flatMap en_TInterval) from ((dn_of hF.1) _ (List.mem_of_getElem? y_t6)).2.2.1.1).1)))) <|
 .cons [22] (okk (ok_val (fun u9 => vP b_q2 1) 22)) <|
 .cons [23] (okk (ok_ldK (fun u9 => vI q2.D) 23 39 (bxK b_q2 [vI q2.Pos, vI q2.D] 86) b_q2 1 1 [vI q2.Pos, vI q2.D] (fun w h => bx_of h))) <|
 .cons [24] (okk (ok_callL [35, 38] (fun u9 => [dnK anyF E_TSegment.toPart L_q0, dnK anyF E_TSegment.toPart L_q1]) 72 _ _ 24 (fun u9 w hF => approach_separated.calls k0 (t5.Tube.take q2.Pos.toNat) (t6.Tube.take q2.Pos.toNat) q2.D p_t5_Tube c_t5_Tube p_t6_Tube c_t6_Tube t12 w  ⟨(rdA (RowC.high (en := en_TInterval) (show RowC _ 2 p_t5_Tube t5.Tube.length c_t5_Tube (t5.Tube.flatMap en_TInterval) from ((dn_of hF.1) _ (List.mem_of_getElem? y_t5)).2.2.1.1) en_TInterval_len b10)), (rdA (RowC.high (en := en_TInterval) (show RowC _ 2 p_t6_Tube t6.Tube.length c_t6_Tube (t6.Tube.flatMap en_TInterval) from ((dn_of hF.2.1) _ (List.mem_of_getElem? y_t6)).2.2.1.1) en_TInterval_len b11)), trivial⟩ ht12))) <|
 .cons [25] (okk (ok_val (fun u9 => .bool (!t12)) 25)) <|
 .cons [26] (okk (ok_as (u' := fun u9 => [(26, sB true)]) (ok_val (fun u9 => .bool (!t12)) 26) (fun _ => by rw [hz13]))) <|
 .cons [27] (okk (ok_gd (ok_ldc (.func (.yield l) #[] #[]) 27 41 0 1 ((u1 0).n 0) [.func (.yield l) #[] #[]] 72) (by intro _; kernel_rfl))) <|
 .cons [28] (okk (ok_gd (ok_val (fun u9 => vP ((u8 0).n 0) 12) 28) (by intro _; kernel_rfl))) <|
 .cons [29] (okk (ok_gd (ok_ldc (.agg #[vI (mx t5.T t6.T), vI (mn (w_i64 (t5.T + t5.H)) (w_i64 (t6.T + t6.H)))]) 29 47 12 2 ((u8 0).n 0) [vI t5.T, vI t5.H, .slice p_t5_From t5.From.length c_t5_From, .slice p_t5_Pre t5.Pre.length c_t5_Pre, .slice p_t5_Tube t5.Tube.length c_t5_Tube, .slice p_t5_To t5.To.length c_t5_To, vI t6.T, vI t6.H, .slice p_t6_From t6.From.length c_t6_From, .slice p_t6_Pre t6.Pre.length c_t6_Pre, .slice p_t6_Tube t6.Tube.length c_t6_Tube, .slice p_t6_To t6.To.length c_t6_To, vI (mx t5.T t6.T), vI (mn (w_i64 (t5.T + t5.H)) (w_i64 (t6.T + t6.H)))] 157) (by intro _; kernel_rfl))) <|
 .cons [30, 40, 34, 35, 33, 37, 38, 36, 39] (ok_yieldK (base := base) 40 [34, 35, 33, 37, 38, 36, 39] l (fun u9 => #[.agg #[vI (mx t5.T t6.T), vI (mn (w_i64 (t5.T + t5.H)) (w_i64 (t6.T + t6.H)))]]) (J ((⟨(mx t5.T t6.T), (mn (w_i64 (t5.T + t5.H)) (w_i64 (t6.T + t6.H)))⟩ : TInterval) :: r)) (J r) JX 30 hbase (by intro _; kernel_rfl) (fun u9 W1 h1 hb1 => hY (⟨(mx t5.T t6.T), (mn (w_i64 (t5.T + t5.H)) (w_i64 (t6.T + t6.H)))⟩ : TInterval) r W1 h1 hb1) (fun W1 W2 h1 h2 => hJ _ _ _ h1 h2) hJX (fun W1 h1 => hJc _ _ h1) hXc (by rfl) (by rfl)) <|
 .cons [31] (okk (ok_gd (ok_val (fun u9 => .bool (!(decide ((u9 20).n 0 = 1)))) 31) (by intro _; kernel_rfl))) <|
 .cons [32] (okk (ok_pickK (fun u9 => .bool (!(decide ((u9 20).n 0 = 1)))) 32)) <| (.nil)) (by kernel_rfl) (fun S a w1 h => ⟨h.1.world ⟨rfl, rfl, rfl, Nat.le_refl _, fun _ _ => rfl⟩, h.2⟩) fun u9 a w' H => ?_)
   replace H := H.1.toL [(3, sP b_q2 0), (4, (sP ((u1 0).n 0) 0)), (8, .slot true (.func (.func 86) #[] #[vP ((u2 2).n 0) 0, vP ((u2 2).n 1) 0])), (32, (sB (!(decide ((u9 20).n 0 = 1))))), (41, .blk ((u1 0).n 0) [.func (.yield l) #[] #[]] 72), (42, .blk ((u2 2).n 0) [.slice p_q0 L_q0.length c_q0] 31), (43, .blk ((u2 2).n 1) [.slice p_q1 L_q1.length c_q1] 31), (40, bif decide ((u9 20).n 0 = 1) then jK base w (J r) else jK base w JX), (44, obK li oB), (45, obK Di oD), (46, keK bi Wi)] (by kernel_rfl)
   rcases Bool.eq_false_or_eq_true (decide ((u9 20).n 0 = 1)) with hb | hb
   ·rw [hb] at H
    replace H := H.kp [3, 4, 8, 32, 41, 42, 43, 40, 44, 45, 46]
    replace H := (Rep.readd (J := J r) 40 [(34, rdl anyF 6 p_q0 c_q0 L_q0 en_TSegment), (35, dnK anyF E_TSegment.toPart L_q0), (33, bxK b_q0 [.slice p_q0 L_q0.length c_q0] 31), (37, rdl anyF 6 p_q1 c_q1 L_q1 en_TSegment), (38, dnK anyF E_TSegment.toPart L_q1), (36, bxK b_q1 [.slice p_q1 L_q1.length c_q1] 31), (39, bxK b_q2 [vI q2.Pos, vI q2.D] 86)] _ H hFX (fun W1 h1 => hFJ _ _ h1) (by kernel_rfl) (jK_size (J := J r) hbase 40 H (by kernel_rfl)) (by rfl)).toL [(3, sP b_q2 0), (4, (sP ((u1 0).n 0) 0)), (8, .slot true (.func (.func 86) #[] #[vP ((u2 2).n 0) 0, vP ((u2 2).n 1) 0])), (32, sB false), (34, rdl anyF 6 p_q0 c_q0 L_q0 en_TSegment), (35, dnK anyF E_TSegment.toPart L_q0), (37, rdl anyF 6 p_q1 c_q1 L_q1 en_TSegment), (38, dnK anyF E_TSegment.toPart L_q1), (41, .blk ((u1 0).n 0) [.func (.yield l) #[] #[]] 72), (42, .blk ((u2 2).n 0) [.slice p_q0 L_q0.length c_q0] 31), (43, .blk ((u2 2).n 1) [.slice p_q1 L_q1.length c_q1] 31), (33, bxK b_q0 [.slice p_q0 L_q0.length c_q0] 31), (36, bxK b_q1 [.slice p_q1 L_q1.length c_q1] 31), (39, bxK b_q2 [vI q2.Pos, vI q2.D] 86), (40, jK base w (J r)), (44, obK li oB), (45, obK Di oD), (46, keK bi Wi)] (by kernel_rfl)
    refine r_cond_false H (by kernel_rfl) (by kernel_rfl) ?_
    refine r_skip ?_
    exact ⟨_, ⟨_, G, rfl⟩, by kernel_rfl, H.toM _⟩
   ·clear G; rw [hb] at H
    replace H := H.kp [3, 4, 8, 32, 41, 42, 43, 40, 44, 45, 46]
    refine r_cond_true H (by kernel_rfl) (by kernel_rfl) ?_
    refine r_ret ?_
    exact ⟨_, rfl, by kernel_rfl, H.toM _⟩
  rw [if_neg c14] at G
  by_cases c15 : z13 = false
  ·rw [if_pos c15] at G; subst c15
   refine r_reg mixed H (.v 10 (vP ((u8 0).n 0) 0) <|
 .v 11 (vP ((u8 0).n 0) 4) <|
 .cons [12] (ok_ldc (.slice p_t5_Tube t5.Tube.length c_t5_Tube) 12 47 4 1 ((u8 0).n 0) [vI t5.T, vI t5.H, .slice p_t5_From t5.From.length c_t5_From, .slice p_t5_Pre t5.Pre.length c_t5_Pre, .slice p_t5_Tube t5.Tube.length c_t5_Tube, .slice p_t5_To t5.To.length c_t5_To, vI t6.T, vI t6.H, .slice p_t6_From t6.From.length c_t6_From, .slice p_t6_Pre t6.Pre.length c_t6_Pre, .slice p_t6_Tube t6.Tube.length c_t6_Tube, .slice p_t6_To t6.To.length c_t6_To, vI (mx t5.T t6.T), vI (mn (w_i64 (t5.T + t5.H)) (w_i64 (t6.T + t6.H)))] 157) <|
 .v 13 (vP b_q2 0) <|
 .cons [14] (ok_ldK (fun u9 => vI q2.Pos) 14 39 (bxK b_q2 [vI q2.Pos, vI q2.D] 86) b_q2 0 1 [vI q2.Pos, vI q2.D] (fun w h => bx_of h)) <|
 .cons [15] (ok_valL [35] (fun u9 => [dnK anyF E_TSegment.toPart L_q0]) (fun u9 => .slice p_t5_Tube ((t5.Tube.take q2.Pos.toNat).length) c_t5_Tube) (fun u9 => true) [true, true] 15 (fun u9 w _ hF => run_of (by kernel_rfl) (run_high (t := 48) (sz := 2) (l := t5.Tube) (k := .i64) rfl b10 (show RowC _ 2 p_t5_Tube t5.Tube.length c_t5_Tube (t5.Tube.flatMap en_TInterval) from ((dn_of hF.1) _ (List.mem_of_getElem? y_t5)).2.2.1.1).1))) <|
 .v 16 (vP ((u8 0).n 0) 6) <|
 .v 17 (vP ((u8 0).n 0) 10) <|
 .cons [18] (ok_ldc (.slice p_t6_Tube t6.Tube.length c_t6_Tube) 18 47 10 1 ((u8 0).n 0) [vI t5.T, vI t5.H, .slice p_t5_From t5.From.length c_t5_From, .slice p_t5_Pre t5.Pre.length c_t5_Pre, .slice p_t5_Tube t5.Tube.length c_t5_Tube, .slice p_t5_To t5.To.length c_t5_To, vI t6.T, vI t6.H, .slice p_t6_From t6.From.length c_t6_From, .slice p_t6_Pre t6.Pre.length c_t6_Pre, .slice p_t6_Tube t6.Tube.length c_t6_Tube, .slice p_t6_To t6.To.length c_t6_To, vI (mx t5.T t6.T), vI (mn (w_i64 (t5.T + t5.H)) (w_i64 (t6.T + t6.H)))] 157) <|
 .v 19 (vP b_q2 0) <|
 .cons [20] (ok_ldK (fun u9 => vI q2.Pos) 20 39 (bxK b_q2 [vI q2.Pos, vI q2.D] 86) b_q2 0 1 [vI q2.Pos, vI q2.D] (fun w h => bx_of h)) <|
 .cons [21] (ok_valL [38] (fun u9 => [dnK anyF E_TSegment.toPart L_q1]) (fun u9 => .slice p_t6_Tube ((t6.Tube.take q2.Pos.toNat).length) c_t6_Tube) (fun u9 => true) [true, true] 21 (fun u9 w _ hF => run_of (by kernel_rfl) (run_high (t := 48) (sz := 2) (l := t6.Tube) (k := .i64) rfl b11 (show RowC _ 2 p_t6_Tube t6.Tube.length c_t6_Tube (t6.Tube.flatMap en_TInterval) from ((dn_of hF.1) _ (List.mem_of_getElem? y_t6)).2.2.1.1).1))) <|
 .v 22 (vP b_q2 1) <|
 .cons [23] (ok_ldK (fun u9 => vI q2.D) 23 39 (bxK b_q2 [vI q2.Pos, vI q2.D] 86) b_q2 1 1 [vI q2.Pos, vI q2.D] (fun w h => bx_of h)) <|
 .cons [24] (ok_callL [35, 38] (fun u9 => [dnK anyF E_TSegment.toPart L_q0, dnK anyF E_TSegment.toPart L_q1]) 72 _ _ 24 (fun u9 w hF => approach_separated.calls k0 (t5.Tube.take q2.Pos.toNat) (t6.Tube.take q2.Pos.toNat) q2.D p_t5_Tube c_t5_Tube p_t6_Tube c_t6_Tube t12 w  ⟨(rdA (RowC.high (en := en_TInterval) (show RowC _ 2 p_t5_Tube t5.Tube.length c_t5_Tube (t5.Tube.flatMap en_TInterval) from ((dn_of hF.1) _ (List.mem_of_getElem? y_t5)).2.2.1.1) en_TInterval_len b10)), (rdA (RowC.high (en := en_TInterval) (show RowC _ 2 p_t6_Tube t6.Tube.length c_t6_Tube (t6.Tube.flatMap en_TInterval) from ((dn_of hF.2.1) _ (List.mem_of_getElem? y_t6)).2.2.1.1) en_TInterval_len b11)), trivial⟩ ht12)) <|
 .v 25 (.bool (!t12)) <|
 .cons [26] (ok_as (u' := fun u9 => [(26, sB false)]) (ok_val (fun u9 => .bool (!t12)) 26) (fun _ => by rw [hz13])) <|
 .cons [27] (ok_offB 27) <|
 .cons [28] (ok_offB 28) <|
 .cons [29] (ok_offB 29) <|
 .cons [30] (ok_offB 30) <|
 .cons [31] (ok_offB 31) <|
 .cons [32] (ok_pickK (fun u9 => .bool false) 32) <| .nil) (by kernel_rfl) (by kernel_rfl) fun u9 a w' H => ?_
   replace H := H.kp [3, 4, 8, 32, 34, 35, 37, 38, 41, 42, 43, 33, 36, 39, 40, 44, 45, 46]
   refine r_cond_false H (by kernel_rfl) (by kernel_rfl) ?_
   refine r_skip ?_
   exact ⟨_, ⟨_, G, rfl⟩, by kernel_rfl, H.toM _⟩
  rw [if_neg c15] at G
  cases G
 ·clear H G; rintro Di L W ⟨r, G, rfl⟩ H
  unfold approach_close_1_m.l7 at G
  replace H := H.toM [(3, sP b_q2 0), (4, (sP ((u1 0).n 0) 0)), (8, .slot true (.func (.func 86) #[] #[vP ((u2 2).n 0) 0, vP ((u2 2).n 1) 0])), (34, rdl anyF 6 p_q0 c_q0 L_q0 en_TSegment), (35, dnK anyF E_TSegment.toPart L_q0), (37, rdl anyF 6 p_q1 c_q1 L_q1 en_TSegment), (38, dnK anyF E_TSegment.toPart L_q1), (41, .blk ((u1 0).n 0) [.func (.yield l) #[] #[]] 72), (42, .blk ((u2 2).n 0) [.slice p_q0 L_q0.length c_q0] 31), (43, .blk ((u2 2).n 1) [.slice p_q1 L_q1.length c_q1] 31), (33, bxK b_q0 [.slice p_q0 L_q0.length c_q0] 31), (36, bxK b_q1 [.slice p_q1 L_q1.length c_q1] 31), (39, bxK b_q2 [vI q2.Pos, vI q2.D] 86), (40, jK base w (J r)), (45, obK Di (.deferred (some [])))]
  obtain rfl := sj G
  refine k_mark 45 H (by kernel_rfl) fun w' H => ?_
  exact ⟨H.defers, _, run_results H (.tuple #[]) [] (by kernel_rfl) (by simp) (by kernel_rfl), ⟨_, rfl⟩, .inl ((show (jK base w (J [])).holds _ from H.holds 40) _ (agree.refl _ _) H.below)⟩
 ·clear H G; rintro Di L W rfl H
  replace H := H.kp [40, 45]
  refine k_mark 45 H (by kernel_rfl) fun w' H => ?_
  exact ⟨H.defers, _, run_results H (.tuple #[]) [] (by kernel_rfl) (by simp) (by kernel_rfl), ⟨_, rfl⟩, .inr ((show (jK base w JX).holds _ from H.holds 40) _ (agree.refl _ _) H.below)⟩
theorem approach_Classify.calls (k0 : Nat) (a0 : List TSegment) (a1 : List TSegment) (a2 : TSeparation) (p_a0 : Option Addr) (c_a0 : Nat) (L_a0 : List G_TSegment) (p_a1 : Option Addr) (c_a1 : Nat) (L_a1 : List G_TSegment) (r : Int) (w : World) (h_a0 : a0 = L_a0.map er_TSegment) (h_a1 : a1 = L_a1.map er_TSegment) (hB : AllH [rdl anyF 6 p_a0 c_a0 L_a0 en_TSegment, dnK anyF E_TSegment.toPart L_a0, rdl anyF 6 p_a1 c_a1 L_a1 en_TSegment, dnK anyF E_TSegment.toPart L_a1] w) (G : approach_Classify k0 a0 a1 a2 = some r) :
  Calls Tryz.prog 26 #[.slice p_a0 L_a0.length c_a0, .slice p_a1 L_a1.length c_a1, .agg #[vI a2.Pos, vI a2.D]] w fun e w' => e = .returned (vI r) ∧ Below w.heap.size w w' := by
 obtain ⟨fr, hfr⟩ : ∃ fr : Nat → Prop, ∀ j, fr j := ⟨fun _ => True, fun _ => trivial⟩
 have hBf : ∀ j, w.heap.size ≤ j → fr j := fun j _ => hfr j
 refine k_enterM (args := [.slice p_a0 L_a0.length c_a0, .slice p_a1 L_a1.length c_a1, .agg #[vI a2.Pos, vI a2.D]]) 41 [(41, rdl anyF 6 p_a0 c_a0 L_a0 en_TSegment), (42, dnK anyF E_TSegment.toPart L_a0), (43, rdl anyF 6 p_a1 c_a1 L_a1 en_TSegment), (44, dnK anyF E_TSegment.toPart L_a1)] (by
  intro x hx
  simp only [List.mem_cons, List.not_mem_nil, or_false] at hx
  rcases hx with rfl | rfl | rfl | rfl
  ·exact rdF_fact (rdF_of hB.1) (fun _ _ => trivial) (by decide) _
  ·exact dn_fact (dn_of hB.2.1) (fun _ _ => trivial) _
  ·exact rdF_fact (rdF_of hB.2.2.1) (fun _ _ => trivial) (by decide) _
  ·exact dn_fact (dn_of hB.2.2.2.1) (fun _ _ => trivial) _) Tryz.func26 rfl (by kernel_rfl) (by kernel_rfl) fun a H => ?_
 unfold approach_Classify at G
 refine k_srk mixed H (.cons [3, 45] (ok_new (fun b => vP b 0) (fun u1 => [.slice p_a0 L_a0.length c_a0]) 31 3 45) <|
 .cons [4, 46] (ok_new (fun b => vP b 0) (fun u1 => [.slice p_a1 L_a1.length c_a1]) 31 4 46) <|
 .cons [5, 47] (ok_new (fun b => vP b 0) (fun u1 => [vI a2.Pos, vI a2.D]) 86 5 47) <|
 .cons [6, 48] (ok_new (fun b => vP b 0) (fun u1 => [vI 0]) 3 6 48) <| .nil) [3, 4, 5, 6, 41, 42, 43, 44, 45, 46, 47, 48] fun u1 a w' H => ?_
 refine k_seq ?_
 refine k_srk mixed H (.cons [11] (ok_ldc (.slice p_a0 L_a0.length c_a0) 11 45 0 1 ((u1 0).n 0) [.slice p_a0 L_a0.length c_a0] 31) <|
 .cons [12] (ok_ldc (.slice p_a1 L_a1.length c_a1) 12 46 0 1 ((u1 1).n 0) [.slice p_a1 L_a1.length c_a1] 31) <|
 .cons [13] (ok_ldc (.agg #[vI a2.Pos, vI a2.D]) 13 47 0 2 ((u1 2).n 0) [vI a2.Pos, vI a2.D] 86) <|
 .cons [14, 49, 50, 51] (ok_callB3 52 (fun u2 => #[.slice p_a0 L_a0.length c_a0, .slice p_a1 L_a1.length c_a1, .agg #[vI a2.Pos, vI a2.D]]) (fun b1 b2 b3 => .func (.func 70) #[] #[vP b1 0, vP b2 0, vP b3 0]) [.slice p_a0 L_a0.length c_a0] [.slice p_a1 L_a1.length c_a1] [vI a2.Pos, vI a2.D] 31 31 86 14 49 50 51 (fun _ w => approach_close.calls a0 p_a0 L_a0.length c_a0 a1 p_a1 L_a1.length c_a1 a2 w)) <| .nil) [3, 4, 5, 6, 14, 41, 42, 43, 44, 45, 46, 47, 48, 49, 50, 51] fun u2 a w' H => ?_
 refine k_block ?_
 obtain ⟨t4, ht4, G⟩ := bnd G
 refine k_rangeL (fun z : TInterval => #[enI z]) (fun z => [(15, .slot true (enI z))]) t4 (fun w => AllH [rdl anyF 6 p_a0 c_a0 L_a0 en_TSegment, dnK anyF E_TSegment.toPart L_a0, bxK ((u2 3).n 0) [.slice p_a0 L_a0.length c_a0] 31, rdl anyF 6 p_a1 c_a1 L_a1 en_TSegment, dnK anyF E_TSegment.toPart L_a1, bxK ((u2 3).n 1) [.slice p_a1 L_a1.length c_a1] 31, bxK ((u2 3).n 2) [vI a2.Pos, vI a2.D] 86] w) 52 53 54 (fun zs L => approach_Classify.l5 k0 a0 a1 a2 zs = some r ∧ L = [(41, rdl anyF 6 p_a0 c_a0 L_a0 en_TSegment), (42, dnK anyF E_TSegment.toPart L_a0), (43, rdl anyF 6 p_a1 c_a1 L_a1 en_TSegment), (44, dnK anyF E_TSegment.toPart L_a1), (45, .blk ((u1 0).n 0) [.slice p_a0 L_a0.length c_a0] 31), (46, .blk ((u1 1).n 0) [.slice p_a1 L_a1.length c_a1] 31), (47, .blk ((u1 2).n 0) [vI a2.Pos, vI a2.D] 86), (48, .blk ((u1 3).n 0) [vI 0] 3), (49, .blk ((u2 3).n 0) [.slice p_a0 L_a0.length c_a0] 31), (50, .blk ((u2 3).n 1) [.slice p_a1 L_a1.length c_a1] 31), (51, .blk ((u2 3).n 2) [vI a2.Pos, vI a2.D] 86)]) (fun L => L = [(48, .blk ((u1 3).n 0) [vI r] 3)]) [(41, rdl anyF 6 p_a0 c_a0 L_a0 en_TSegment), (42, dnK anyF E_TSegment.toPart L_a0), (43, rdl anyF 6 p_a1 c_a1 L_a1 en_TSegment), (44, dnK anyF E_TSegment.toPart L_a1), (45, .blk ((u1 0).n 0) [.slice p_a0 L_a0.length c_a0] 31), (46, .blk ((u1 1).n 0) [.slice p_a1 L_a1.length c_a1] 31), (47, .blk ((u1 2).n 0) [vI a2.Pos, vI a2.D] 86), (48, .blk ((u1 3).n 0) [vI 0] 3), (49, .blk ((u2 3).n 0) [.slice p_a0 L_a0.length c_a0] 31), (50, .blk ((u2 3).n 1) [.slice p_a1 L_a1.length c_a1] 31), (51, .blk ((u2 3).n 2) [vI a2.Pos, vI a2.D] 86)] H (by kernel_rfl) (by kernel_rfl) (enters_fn Tryz.func70 (by kernel_rfl) rfl) (approach_close_1_m.ok k0 a0 a1 a2 ((u2 3).n 0) p_a0 c_a0 L_a0 ((u2 3).n 1) p_a1 c_a1 L_a1 ((u2 3).n 2) t4 h_a0 h_a1 ht4) (puts1 15 (fun z : TInterval => enI z) (by rfl)) ⟨G, rfl⟩ (by kernel_rfl) (by kernel_rfl) (by kernel_rfl) (by kernel_rfl) (by kernel_rfl) (by kernel_rfl) (by rintro zs L ⟨G, rfl⟩ x hx i hi; simp only [List.mem_cons, List.not_mem_nil, or_false] at hx; rcases hx with rfl | rfl | rfl | rfl | rfl | rfl | rfl | rfl | rfl | rfl | rfl; all_goals exact hi) (by rintro L rfl x hx i hi; simp only [List.mem_cons, List.not_mem_nil, or_false] at hx; rcases hx with rfl; all_goals exact hi) (by rintro zs L a w ⟨G, rfl⟩ h; have hF : AllH [rdl anyF 6 p_a0 c_a0 L_a0 en_TSegment, dnK anyF E_TSegment.toPart L_a0, .blk ((u2 3).n 0) [.slice p_a0 L_a0.length c_a0] 31, rdl anyF 6 p_a1 c_a1 L_a1 en_TSegment, dnK anyF E_TSegment.toPart L_a1, .blk ((u2 3).n 1) [.slice p_a1 L_a1.length c_a1] 31, .blk ((u2 3).n 2) [vI a2.Pos, vI a2.D] 86] w := ⟨h.at (K := rdl anyF 6 p_a0 c_a0 L_a0 en_TSegment) 41 (by kernel_rfl), h.at (K := dnK anyF E_TSegment.toPart L_a0) 42 (by kernel_rfl), h.at (K := .blk ((u2 3).n 0) [.slice p_a0 L_a0.length c_a0] 31) 49 (by kernel_rfl), h.at (K := rdl anyF 6 p_a1 c_a1 L_a1 en_TSegment) 43 (by kernel_rfl), h.at (K := dnK anyF E_TSegment.toPart L_a1) 44 (by kernel_rfl), h.at (K := .blk ((u2 3).n 1) [.slice p_a1 L_a1.length c_a1] 31) 50 (by kernel_rfl), h.at (K := .blk ((u2 3).n 2) [vI a2.Pos, vI a2.D] 86) 51 (by kernel_rfl), trivial⟩; exact ⟨(rdA (rdF_of hF.1)), (dnA (dn_of hF.2.1)), (bx_fact hF.2.2.1 0).2.1, (rdA (rdF_of hF.2.2.2.1)), (dnA (dn_of hF.2.2.2.2.1)), (bx_fact hF.2.2.2.2.2.1 0).2.1, (bx_fact hF.2.2.2.2.2.2.1 0).2.1, trivial⟩) ?_ ?_ ?_
 ·clear H G; rintro li Di bi oR oD Wi z zs L a w' hbi ⟨G, rfl⟩ H
  unfold approach_Classify.l5 at G
  replace H := H.kp [3, 4, 5, 6, 14, 15, 41, 42, 43, 44, 45, 46, 47, 48, 49, 50, 51, 52, 53, 54]
  refine r_skip ?_
  refine ⟨_, H, by kernel_rfl, fun oB w' H => ?_⟩
  replace H := H.kp [3, 4, 5, 6, 14, 15, 41, 42, 43, 44, 45, 46, 47, 48, 49, 50, 51, 52, 53, 54]
  refine r_block ?_
  refine r_seq ?_
  obtain ⟨t7, ht7, G⟩ := bnd G
  refine r_reg mixed H (.cons [17] (ok_ldc (.slice p_a0 L_a0.length c_a0) 17 45 0 1 ((u1 0).n 0) [.slice p_a0 L_a0.length c_a0] 31) <|
 .cons [18] (ok_ldc (.slice p_a1 L_a1.length c_a1) 18 46 0 1 ((u1 1).n 0) [.slice p_a1 L_a1.length c_a1] 31) <|
 .v 19 (vP ((u1 2).n 0) 0) <|
 .cons [20] (ok_ldc (vI a2.Pos) 20 47 0 1 ((u1 2).n 0) [vI a2.Pos, vI a2.D] 86) <|
 .cons [21] (ok_callL [41, 42, 43, 44] (fun u6 => [rdl anyF 6 p_a0 c_a0 L_a0 en_TSegment, dnK anyF E_TSegment.toPart L_a0, rdl anyF 6 p_a1 c_a1 L_a1 en_TSegment, dnK anyF E_TSegment.toPart L_a1]) 53 _ _ 21 (fun u6 w hF => approach_MinDistance.calls k0 a0 a1 a2.Pos p_a0 c_a0 L_a0 p_a1 c_a1 L_a1 t7 w h_a0 h_a1 ⟨(rdA (rdF_of hF.1)), (dnA (dn_of hF.2.1)), (rdA (rdF_of hF.2.2.1)), (dnA (dn_of hF.2.2.2.1)), trivial⟩ ht7)) <|
 .v 16 (.tuple #[.agg #[vI t7.1.Lo, vI t7.1.Hi], .bool t7.2]) <|
 .v 22 (.agg #[vI t7.1.Lo, vI t7.1.Hi]) <|
 .v 23 (.bool t7.2) <|
 .cons [7, 55] (ok_new (fun b => vP b 0) (fun u6 => [vI 0, vI 0]) 46 7 55) <|
 .cons [55] (ok_as (u' := fun u6 => [(55, .blk ((u6 8).n 0) [vI t7.1.Lo, vI t7.1.Hi] 46)]) (ok_store 55 0 (fun u6 => ((u6 8).n 0)) (fun u6 => [vI 0, vI 0]) (fun u6 => [vI t7.1.Lo, vI t7.1.Hi]) 46) (fun _ => by kernel_rfl)) <|
 .v 8 (.bool t7.2) <| .nil) (by kernel_rfl) (by kernel_rfl) fun u6 a w' H => ?_
  replace H := H.kp [3, 4, 5, 6, 7, 14, 41, 42, 43, 44, 45, 46, 47, 48, 49, 50, 51, 55, 52, 53, 54]
  refine r_seq ?_
  refine r_seq ?_
  obtain ⟨t9, ht9, G⟩ := bnd G
  refine r_reg mixed H (.v 25 (vP ((u1 2).n 0) 1) <|
 .cons [26] (ok_ldc (vI a2.D) 26 47 1 1 ((u1 2).n 0) [vI a2.Pos, vI a2.D] 86) <|
 .v 27 (vP ((u1 2).n 0) 1) <|
 .cons [28] (ok_ldc (vI a2.D) 28 47 1 1 ((u1 2).n 0) [vI a2.Pos, vI a2.D] 86) <|
 .cons [29] (ok_callv 54 _ _ 29 [] (fun u8 w _ => fixed_Mul.calls a2.D a2.D  t9 w  ht9)) <|
 .v 24 (.tuple #[vI t9.1, vI t9.2]) <|
 .v 30 (vI t9.1) <|
 .v 31 (vI t9.2) <|
 .v 9 (vI t9.1) <|
 .v 10 (vI t9.2) <| .nil) (by kernel_rfl) (by kernel_rfl) fun u8 a w' H => ?_
  replace H := H.kp [3, 4, 5, 6, 7, 9, 14, 41, 42, 43, 44, 45, 46, 47, 48, 49, 50, 51, 55, 52, 53, 54]
  refine r_seq ?_
  obtain ⟨t11, ht11, G⟩ := bnd G
  refine r_reg mixed H (.cons [32] (ok_ldc (.agg #[vI t7.1.Lo, vI t7.1.Hi]) 32 55 0 2 ((u6 8).n 0) [vI t7.1.Lo, vI t7.1.Hi] 46) <|
 .cons [33] (ok_callv 21 _ _ 33 [] (fun u10 w _ => interval_IsEntire.calls (⟨t7.1.Lo, t7.1.Hi⟩ : TInterval)  t11 w  ht11)) <|
 .v 34 (.bool (!t11)) <|
 .v 35 (.bool (!t11)) <|
 .cons [36] (ok_valg (fun u10 => vP ((u6 8).n 0) 1) (fun u10 => ((!t11) == true)) [true] 36) <|
 .cons [37] (ok_ldg (fun u10 => vI t7.1.Hi) (fun u10 => ((!t11) == true)) [false] 37 55 1 1 (fun u10 => ((u6 8).n 0)) (fun u10 => [vI t7.1.Lo, vI t7.1.Hi]) 46) <|
 .cons [38] (ok_valg (fun u10 => vI t9.1) (fun u10 => ((!t11) == true)) [true] 38) <|
 .cons [39] (ok_valg (fun u10 => .bool (decide (t7.1.Hi < t9.1))) (fun u10 => ((!t11) == true)) [false, false] 39) <|
 .cons [40] (ok_and 35 39 (fun u10 => true) (fun u10 => true) (fun u10 => (!t11)) (fun u10 => decide (t7.1.Hi < t9.1)) 40) <| .nil) (by kernel_rfl) (by kernel_rfl) fun u10 a w' H => ?_
  replace H := H.kp [3, 4, 5, 6, 14, 40, 41, 42, 43, 44, 45, 46, 47, 48, 49, 50, 51, 52, 53, 54]
  refine r_cond H (by kernel_rfl) (t := ((!t11) && (decide (t7.1.Hi < t9.1)))) (by kernel_rfl) (fun c14 => ?_) (fun c14 => ?_)
  ·rw [if_pos c14] at G
   refine r_seq ?_
   refine r_reg mixed H (.cons [48] (ok_stc 48 0 ((u1 3).n 0) [vI 0] [vI (-1)] 3 [vI (-1)]) <| .nil) (by kernel_rfl) (by kernel_rfl) fun u12 a w' H => ?_
   replace H := H.kp [3, 4, 5, 6, 14, 41, 42, 43, 44, 45, 46, 47, 48, 49, 50, 51, 52, 53, 54]
   refine r_ret ?_
   obtain rfl := sj G
   exact ⟨_, rfl, by kernel_rfl, H.toM _⟩
  ·rw [if_neg (nt c14)] at G
   refine r_skip ?_
   refine r_seq ?_
   refine r_reg mixed H (.cons [48] (ok_stc 48 0 ((u1 3).n 0) [vI 0] [vI 0] 3 [vI 0]) <| .nil) (by kernel_rfl) (by kernel_rfl) fun u13 a w' H => ?_
   replace H := H.toM [(3, (sP ((u1 0).n 0) 0)), (4, (sP ((u1 1).n 0) 0)), (5, (sP ((u1 2).n 0) 0)), (6, (sP ((u1 3).n 0) 0)), (14, .slot true (.func (.func 70) #[] #[vP ((u2 3).n 0) 0, vP ((u2 3).n 1) 0, vP ((u2 3).n 2) 0])), (41, rdl anyF 6 p_a0 c_a0 L_a0 en_TSegment), (42, dnK anyF E_TSegment.toPart L_a0), (43, rdl anyF 6 p_a1 c_a1 L_a1 en_TSegment), (44, dnK anyF E_TSegment.toPart L_a1), (45, .blk ((u1 0).n 0) [.slice p_a0 L_a0.length c_a0] 31), (46, .blk ((u1 1).n 0) [.slice p_a1 L_a1.length c_a1] 31), (47, .blk ((u1 2).n 0) [vI a2.Pos, vI a2.D] 86), (48, .blk ((u1 3).n 0) [vI 0] 3), (49, .blk ((u2 3).n 0) [.slice p_a0 L_a0.length c_a0] 31), (50, .blk ((u2 3).n 1) [.slice p_a1 L_a1.length c_a1] 31), (51, .blk ((u2 3).n 2) [vI a2.Pos, vI a2.D] 86), (52, obK li oB), (53, obK Di oD), (54, keK bi Wi)]
   refine r_ret ?_
   obtain rfl := sj G
   exact ⟨_, rfl, by kernel_rfl, H.toM _⟩
 ·clear H G; rintro Di L W ⟨G, rfl⟩ H
  unfold approach_Classify.l5 at G
  replace H := H.kp [3, 4, 5, 6, 14, 41, 42, 43, 44, 45, 46, 47, 48, 49, 50, 51, 53]
  refine k_after ?_
  refine r_seq ?_
  refine r_reg mixed H (.cons [48] (ok_stc 48 0 ((u1 3).n 0) [vI 0] [vI 1] 3 [vI 1]) <| .nil) (by kernel_rfl) (by kernel_rfl) fun u15 a w' H => ?_
  replace H := H.kp [6, 48, 53]
  refine r_ret ?_
  obtain rfl := sj G
  refine k_mark 53 H (by kernel_rfl) fun w' H => ?_
  exact k_done1 H _ 48 ((u1 3).n 0) [vI 1] 3 0 1 (by kernel_rfl) (by kernel_rfl) (by kernel_rfl) (by kernel_rfl)
 ·clear H G; rintro Di L W rfl H
  replace H := H.kp [6, 48, 53]
  refine k_mark 53 H (by kernel_rfl) fun w' H => ?_
  exact k_done1 H _ 48 ((u1 3).n 0) [vI r] 3 0 1 (by kernel_rfl) (by kernel_rfl) (by kernel_rfl) (by kernel_rfl)
theorem screening_verdict.calls (k0 : Nat) (a0 : TTrajectory) (a1 : TTrajectory) (a2 : TSeparation) (p_a0_Segs : Option Addr) (c_a0_Segs : Nat) (L_a0_Segs : List G_TSegment) (p_a1_Segs : Option Addr) (c_a1_Segs : Nat) (L_a1_Segs : List G_TSegment) (r : TVerdict) (w : World) (h_a0_Segs : a0.Segs = L_a0_Segs.map er_TSegment) (h_a1_Segs : a1.Segs = L_a1_Segs.map er_TSegment) (hB : AllH [rdl anyF 6 p_a0_Segs c_a0_Segs L_a0_Segs en_TSegment, dnK anyF E_TSegment.toPart L_a0_Segs, rdl anyF 6 p_a1_Segs c_a1_Segs L_a1_Segs en_TSegment, dnK anyF E_TSegment.toPart L_a1_Segs] w) (G : screening_verdict k0 a0 a1 a2 = some r) :
  Calls Tryz.prog 51 #[.agg #[vI a0.Id, .slice p_a0_Segs L_a0_Segs.length c_a0_Segs], .agg #[vI a1.Id, .slice p_a1_Segs L_a1_Segs.length c_a1_Segs], .agg #[vI a2.Pos, vI a2.D]] w fun e w' => e = .returned (.agg #[vI r.A, vI r.B, vI r.Kind, vI r.Dist.Lo, vI r.Dist.Hi]) ∧ Below w.heap.size w w' := by
 obtain ⟨fr, hfr⟩ : ∃ fr : Nat → Prop, ∀ j, fr j := ⟨fun _ => True, fun _ => trivial⟩
 have hBf : ∀ j, w.heap.size ≤ j → fr j := fun j _ => hfr j
 refine k_enterF (args := [.agg #[vI a0.Id, .slice p_a0_Segs L_a0_Segs.length c_a0_Segs], .agg #[vI a1.Id, .slice p_a1_Segs L_a1_Segs.length c_a1_Segs], .agg #[vI a2.Pos, vI a2.D]]) 34 [(34, rdl anyF 6 p_a0_Segs c_a0_Segs L_a0_Segs en_TSegment), (35, dnK anyF E_TSegment.toPart L_a0_Segs), (36, rdl anyF 6 p_a1_Segs c_a1_Segs L_a1_Segs en_TSegment), (37, dnK anyF E_TSegment.toPart L_a1_Segs)] (by
  intro x hx
  simp only [List.mem_cons, List.not_mem_nil, or_false] at hx
  rcases hx with rfl | rfl | rfl | rfl
  ·exact rdF_fact (rdF_of hB.1) (fun _ _ => trivial) (by decide) _
  ·exact dn_fact (dn_of hB.2.1) (fun _ _ => trivial) _
  ·exact rdF_fact (rdF_of hB.2.2.1) (fun _ _ => trivial) (by decide) _
  ·exact dn_fact (dn_of hB.2.2.2.1) (fun _ _ => trivial) _) Tryz.func51 rfl (by kernel_rfl) (by kernel_rfl) fun a H => ?_
 unfold screening_verdict at G
 refine k_srk mixed H (.cons [3, 38] (ok_new (fun b => vP b 0) (fun u1 => [vI a0.Id, .slice p_a0_Segs L_a0_Segs.length c_a0_Segs]) 78 3 38) <|
 .cons [4, 39] (ok_new (fun b => vP b 0) (fun u1 => [vI a1.Id, .slice p_a1_Segs L_a1_Segs.length c_a1_Segs]) 78 4 39) <|
 .cons [5, 40] (ok_new (fun b => vP b 0) (fun u1 => [vI a2.Pos, vI a2.D]) 86 5 40) <|
 .cons [6, 41] (ok_new (fun b => vP b 0) (fun u1 => [vI 0, vI 0, vI 0, vI 0, vI 0]) 88 6 41) <| .nil) [3, 4, 5, 6, 34, 35, 36, 37, 38, 39, 40, 41] fun u1 a w' H => ?_
 obtain ⟨t3, ht3, G⟩ := bnd G
 refine k_srk mixed H (.v 10 (vP ((u1 0).n 0) 1) <|
 .cons [11] (ok_ldc (.slice p_a0_Segs L_a0_Segs.length c_a0_Segs) 11 38 1 1 ((u1 0).n 0) [vI a0.Id, .slice p_a0_Segs L_a0_Segs.length c_a0_Segs] 78) <|
 .v 12 (vP ((u1 1).n 0) 1) <|
 .cons [13] (ok_ldc (.slice p_a1_Segs L_a1_Segs.length c_a1_Segs) 13 39 1 1 ((u1 1).n 0) [vI a1.Id, .slice p_a1_Segs L_a1_Segs.length c_a1_Segs] 78) <|
 .v 14 (vP ((u1 2).n 0) 0) <|
 .cons [15] (ok_ldc (vI a2.Pos) 15 40 0 1 ((u1 2).n 0) [vI a2.Pos, vI a2.D] 86) <|
 .cons [16] (ok_callL [34, 35, 36, 37] (fun u2 => [rdl anyF 6 p_a0_Segs c_a0_Segs L_a0_Segs en_TSegment, dnK anyF E_TSegment.toPart L_a0_Segs, rdl anyF 6 p_a1_Segs c_a1_Segs L_a1_Segs en_TSegment, dnK anyF E_TSegment.toPart L_a1_Segs]) 53 _ _ 16 (fun u2 w hF => approach_MinDistance.calls k0 a0.Segs a1.Segs a2.Pos p_a0_Segs c_a0_Segs L_a0_Segs p_a1_Segs c_a1_Segs L_a1_Segs t3 w h_a0_Segs h_a1_Segs ⟨(rdA (rdF_of hF.1)), (dnA (dn_of hF.2.1)), (rdA (rdF_of hF.2.2.1)), (dnA (dn_of hF.2.2.2.1)), trivial⟩ ht3)) <|
 .v 9 (.tuple #[.agg #[vI t3.1.Lo, vI t3.1.Hi], .bool t3.2]) <|
 .v 17 (.agg #[vI t3.1.Lo, vI t3.1.Hi]) <|
 .v 18 (.bool t3.2) <|
 .cons [7, 42] (ok_new (fun b => vP b 0) (fun u2 => [vI 0, vI 0]) 46 7 42) <|
 .cons [42] (ok_as (u' := fun u2 => [(42, .blk ((u2 10).n 0) [vI t3.1.Lo, vI t3.1.Hi] 46)]) (ok_store 42 0 (fun u2 => ((u2 10).n 0)) (fun u2 => [vI 0, vI 0]) (fun u2 => [vI t3.1.Lo, vI t3.1.Hi]) 46) (fun _ => by kernel_rfl)) <|
 .v 8 (.bool t3.2) <| .nil) [3, 4, 5, 6, 7, 8, 34, 35, 36, 37, 38, 39, 40, 41, 42] fun u2 a w' H => ?_
 refine k_seq ?_
 obtain ⟨j6, hj6, G⟩ := bnd G
 refine k_join (fun a w' => RL w 34 [(3, (sP ((u1 0).n 0) 0)), (4, (sP ((u1 1).n 0) 0)), (5, (sP ((u1 2).n 0) 0)), (6, (sP ((u1 3).n 0) 0)), (7, (sP ((u2 10).n 0) 0)), (34, rdl anyF 6 p_a0_Segs c_a0_Segs L_a0_Segs en_TSegment), (35, dnK anyF E_TSegment.toPart L_a0_Segs), (36, rdl anyF 6 p_a1_Segs c_a1_Segs L_a1_Segs en_TSegment), (37, dnK anyF E_TSegment.toPart L_a1_Segs), (38, .blk ((u1 0).n 0) [vI a0.Id, .slice p_a0_Segs L_a0_Segs.length c_a0_Segs] 78), (39, .blk ((u1 1).n 0) [vI a1.Id, .slice p_a1_Segs L_a1_Segs.length c_a1_Segs] 78), (40, .blk ((u1 2).n 0) [vI a2.Pos, vI a2.D] 86), (41, .blk ((u1 3).n 0) [vI 0, vI 0, vI 0, vI 0, vI 0] 88), (42, .blk ((u2 10).n 0) [vI j6.1, vI j6.2] 46)] a w') ?_ ?_
 ·clear H; intro a w' H
  refine k_seq ?_
  obtain ⟨t8, ht8, G⟩ := bnd G
  refine k_regT mixed H (.v 22 (vP ((u1 0).n 0) 0) <|
 .cons [23] (ok_ldc (vI a0.Id) 23 38 0 1 ((u1 0).n 0) [vI a0.Id, .slice p_a0_Segs L_a0_Segs.length c_a0_Segs] 78) <|
 .v 24 (vP ((u1 1).n 0) 0) <|
 .cons [25] (ok_ldc (vI a1.Id) 25 39 0 1 ((u1 1).n 0) [vI a1.Id, .slice p_a1_Segs L_a1_Segs.length c_a1_Segs] 78) <|
 .v 26 (vP ((u1 0).n 0) 1) <|
 .cons [27] (ok_ldc (.slice p_a0_Segs L_a0_Segs.length c_a0_Segs) 27 38 1 1 ((u1 0).n 0) [vI a0.Id, .slice p_a0_Segs L_a0_Segs.length c_a0_Segs] 78) <|
 .v 28 (vP ((u1 1).n 0) 1) <|
 .cons [29] (ok_ldc (.slice p_a1_Segs L_a1_Segs.length c_a1_Segs) 29 39 1 1 ((u1 1).n 0) [vI a1.Id, .slice p_a1_Segs L_a1_Segs.length c_a1_Segs] 78) <|
 .cons [30] (ok_ldc (.agg #[vI a2.Pos, vI a2.D]) 30 40 0 2 ((u1 2).n 0) [vI a2.Pos, vI a2.D] 86) <|
 .cons [31] (ok_callL [34, 35, 36, 37] (fun u7 => [rdl anyF 6 p_a0_Segs c_a0_Segs L_a0_Segs en_TSegment, dnK anyF E_TSegment.toPart L_a0_Segs, rdl anyF 6 p_a1_Segs c_a1_Segs L_a1_Segs en_TSegment, dnK anyF E_TSegment.toPart L_a1_Segs]) 26 _ _ 31 (fun u7 w hF => approach_Classify.calls k0 a0.Segs a1.Segs a2 p_a0_Segs c_a0_Segs L_a0_Segs p_a1_Segs c_a1_Segs L_a1_Segs t8 w h_a0_Segs h_a1_Segs ⟨(rdA (rdF_of hF.1)), (dnA (dn_of hF.2.1)), (rdA (rdF_of hF.2.2.1)), (dnA (dn_of hF.2.2.2.1)), trivial⟩ ht8)) <|
 .cons [32] (ok_ldc (.agg #[vI j6.1, vI j6.2]) 32 42 0 2 ((u2 10).n 0) [vI j6.1, vI j6.2] 46) <|
 .v 33 (.agg #[vI a0.Id, vI a1.Id, vI t8, vI j6.1, vI j6.2]) <|
 .cons [41] (ok_stc 41 0 ((u1 3).n 0) [vI 0, vI 0, vI 0, vI 0, vI 0] [vI a0.Id, vI a1.Id, vI t8, vI j6.1, vI j6.2] 88 [vI a0.Id, vI a1.Id, vI t8, vI j6.1, vI j6.2]) <| .nil) (by kernel_rfl) fun u7 a w' H => ?_
  replace H := H.kp [6, 41]
  refine k_ret ?_
  obtain rfl := sj G
  exact k_done1 H _ 41 ((u1 3).n 0) [vI a0.Id, vI a1.Id, vI t8, vI j6.1, vI j6.2] 88 0 5 (by kernel_rfl) (by kernel_rfl) (by kernel_rfl) (by kernel_rfl)
 ·clear G; replace G := hj6; clear hj6
  refine k_srk mixed H (.v 19 (.bool t3.2) <|
 .v 20 (.bool (!t3.2)) <| .nil) [3, 4, 5, 6, 7, 20, 34, 35, 36, 37, 38, 39, 40, 41, 42] fun u9 a w' H => ?_
  refine k_cnd H (!t3.2) (fun c12 => ?_) fun c12 => ?_
  ·rw [if_pos c12] at G
   obtain ⟨t11, ht11, G⟩ := bnd G
   refine k_rk mixed H (.cons [21] (ok_callv 48 _ _ 21 [] (fun u10 w _ => interval_Entire.calls   t11 w  ht11)) <|
 .cons [42] (ok_stc 42 0 ((u2 10).n 0) [vI t3.1.Lo, vI t3.1.Hi] [vI t11.Lo, vI t11.Hi] 46 [vI t11.Lo, vI t11.Hi]) <| .nil) [3, 4, 5, 6, 7, 34, 35, 36, 37, 38, 39, 40, 41, 42] fun u10 a w' H => ?_
   obtain rfl := sj G
   exact H.toM _
  ·rw [if_neg (nt c12)] at G
   refine k_skip ?_
   obtain rfl := sj G
   exact H.toM _
theorem screening_Screen_1_m.calls (k0 : Nat) (a0 : TTrajectory) (a1 : TTrajectory) (q0 : TSeparation) (p_a0_Segs : Option Addr) (c_a0_Segs : Nat) (L_a0_Segs : List G_TSegment) (p_a1_Segs : Option Addr) (c_a1_Segs : Nat) (L_a1_Segs : List G_TSegment) (b_q0 : Nat) (r : TVerdict × Int) (w : World) (h_a0_Segs : a0.Segs = L_a0_Segs.map er_TSegment) (h_a1_Segs : a1.Segs = L_a1_Segs.map er_TSegment) (hB : AllH [rdl anyF 6 p_a0_Segs c_a0_Segs L_a0_Segs en_TSegment, dnK anyF E_TSegment.toPart L_a0_Segs, rdl anyF 6 p_a1_Segs c_a1_Segs L_a1_Segs en_TSegment, dnK anyF E_TSegment.toPart L_a1_Segs, bxK b_q0 [vI q0.Pos, vI q0.D] 86] w) (G : screening_Screen_1_m k0 a0 a1 q0 = some r) :
  Calls Tryz.prog 50 #[.agg #[vI a0.Id, .slice p_a0_Segs L_a0_Segs.length c_a0_Segs], .agg #[vI a1.Id, .slice p_a1_Segs L_a1_Segs.length c_a1_Segs], vP b_q0 0] w fun e w' => e = .returned (.tuple #[.agg #[vI r.1.A, vI r.1.B, vI r.1.Kind, vI r.1.Dist.Lo, vI r.1.Dist.Hi], vI r.2]) ∧ Below w.heap.size w w' := by
 obtain ⟨fr, hfr⟩ : ∃ fr : Nat → Prop, ∀ j, fr j := ⟨fun _ => True, fun _ => trivial⟩
 have hBf : ∀ j, w.heap.size ≤ j → fr j := fun j _ => hfr j
 refine k_enterF (args := [.agg #[vI a0.Id, .slice p_a0_Segs L_a0_Segs.length c_a0_Segs], .agg #[vI a1.Id, .slice p_a1_Segs L_a1_Segs.length c_a1_Segs], vP b_q0 0]) 11 [(11, rdl anyF 6 p_a0_Segs c_a0_Segs L_a0_Segs en_TSegment), (12, dnK anyF E_TSegment.toPart L_a0_Segs), (13, rdl anyF 6 p_a1_Segs c_a1_Segs L_a1_Segs en_TSegment), (14, dnK anyF E_TSegment.toPart L_a1_Segs), (15, bxK b_q0 [vI q0.Pos, vI q0.D] 86)] (by
  intro x hx
  simp only [List.mem_cons, List.not_mem_nil, or_false] at hx
  rcases hx with rfl | rfl | rfl | rfl | rfl
  ·exact rdF_fact (rdF_of hB.1) (fun _ _ => trivial) (by decide) _
  ·exact dn_fact (dn_of hB.2.1) (fun _ _ => trivial) _
  ·exact rdF_fact (rdF_of hB.2.2.1) (fun _ _ => trivial) (by decide) _
  ·exact dn_fact (dn_of hB.2.2.2.1) (fun _ _ => trivial) _
  ·exact bx_fact (hB.2.2.2.2.1 w (agree.refl _ _)) _) Tryz.func50 rfl (by kernel_rfl) (by kernel_rfl) fun a H => ?_
 unfold screening_Screen_1_m at G
 refine k_srk mixed H (.cons [3, 16] (ok_new (fun b => vP b 0) (fun u1 => [vI a0.Id, .slice p_a0_Segs L_a0_Segs.length c_a0_Segs]) 78 3 16) <|
 .cons [4, 17] (ok_new (fun b => vP b 0) (fun u1 => [vI a1.Id, .slice p_a1_Segs L_a1_Segs.length c_a1_Segs]) 78 4 17) <|
 .cons [5, 18] (ok_new (fun b => vP b 0) (fun u1 => [vI 0, vI 0, vI 0, vI 0, vI 0]) 88 5 18) <|
 .v 6 (vI 0) <| .nil) [2, 3, 4, 5, 11, 12, 13, 14, 16, 17, 18, 15] fun u1 a w' H => ?_
 obtain ⟨t3, ht3, G⟩ := bnd G
 refine k_srk mixed H (.cons [7] (ok_ldc (.agg #[vI a0.Id, .slice p_a0_Segs L_a0_Segs.length c_a0_Segs]) 7 16 0 2 ((u1 0).n 0) [vI a0.Id, .slice p_a0_Segs L_a0_Segs.length c_a0_Segs] 78) <|
 .cons [8] (ok_ldc (.agg #[vI a1.Id, .slice p_a1_Segs L_a1_Segs.length c_a1_Segs]) 8 17 0 2 ((u1 1).n 0) [vI a1.Id, .slice p_a1_Segs L_a1_Segs.length c_a1_Segs] 78) <|
 .cons [9] (ok_ldK (fun u2 => .agg #[vI q0.Pos, vI q0.D]) 9 15 (bxK b_q0 [vI q0.Pos, vI q0.D] 86) b_q0 0 2 [vI q0.Pos, vI q0.D] (fun w h => bx_of h)) <|
 .cons [10] (ok_callL [11, 12, 13, 14] (fun u2 => [rdl anyF 6 p_a0_Segs c_a0_Segs L_a0_Segs en_TSegment, dnK anyF E_TSegment.toPart L_a0_Segs, rdl anyF 6 p_a1_Segs c_a1_Segs L_a1_Segs en_TSegment, dnK anyF E_TSegment.toPart L_a1_Segs]) 51 _ _ 10 (fun u2 w hF => screening_verdict.calls k0 (⟨a0.Id, a0.Segs⟩ : TTrajectory) (⟨a1.Id, a1.Segs⟩ : TTrajectory) q0 p_a0_Segs c_a0_Segs L_a0_Segs p_a1_Segs c_a1_Segs L_a1_Segs t3 w h_a0_Segs h_a1_Segs ⟨(rdA (rdF_of hF.1)), (dnA (dn_of hF.2.1)), (rdA (rdF_of hF.2.2.1)), (dnA (dn_of hF.2.2.2.1)), trivial⟩ ht3)) <|
 .cons [18] (ok_stc 18 0 ((u1 2).n 0) [vI 0, vI 0, vI 0, vI 0, vI 0] [vI t3.A, vI t3.B, vI t3.Kind, vI t3.Dist.Lo, vI t3.Dist.Hi] 88 [vI t3.A, vI t3.B, vI t3.Kind, vI t3.Dist.Lo, vI t3.Dist.Hi]) <|
 .v 6 (vI 0) <| .nil) [5, 6, 18, 15] fun u2 a w' H => ?_
 refine k_ret ?_
 obtain rfl := sj G
 exact k_done1 H _ 18 ((u1 2).n 0) [vI t3.A, vI t3.B, vI t3.Kind, vI t3.Dist.Lo, vI t3.Dist.Hi] 88 0 5 (by kernel_rfl) (by kernel_rfl) (by kernel_rfl) (by kernel_rfl)
theorem screening_pairs_s50.calls (k0 : Nat) (a0 : List TTrajectory) (a1_0 : TSeparation) (p_a0 : Option Addr) (c_a0 : Nat) (L_a0 : List G_TTrajectory) (b_a1_0 : Nat) (r : List TVerdict × Int) (w : World) (h_a0 : a0 = L_a0.map er_TTrajectory) (hB : AllH [rdl anyF 2 p_a0 c_a0 L_a0 en_TTrajectory, dnK anyF E_TTrajectory.toPart L_a0, bxK b_a1_0 [vI a1_0.Pos, vI a1_0.D] 86] w) (G : screening_pairs_s50 k0 a0 a1_0 = some r) :
  Calls Tryz.prog 49 #[.slice p_a0 L_a0.length c_a0, .func (.func 50) #[] #[vP b_a1_0 0]] w fun e w' => ∃ g : Gh, e = .returned (.tuple #[.slice (g.o 0) r.1.length (g.n 0), vI r.2]) ∧ But (fpK []) w w' ∧ OutOK w.heap.size (fpK []) (frI w.heap.size []) [fun _ => owl 88 5 (g.o 0) (g.n 0) r.1 en_TVerdict] w' := by
 obtain ⟨fr, hfr, hBf⟩ := frs w []
 refine k_enterF (args := [.slice p_a0 L_a0.length c_a0, .func (.func 50) #[] #[vP b_a1_0 0]]) 52 [(52, rdl anyF 2 p_a0 c_a0 L_a0 en_TTrajectory), (53, dnK anyF E_TTrajectory.toPart L_a0), (54, bxK b_a1_0 [vI a1_0.Pos, vI a1_0.D] 86)] (by
  intro x hx
  simp only [List.mem_cons, List.not_mem_nil, or_false] at hx
  rcases hx with rfl | rfl | rfl
  ·exact rdF_fact (rdF_of hB.1) (fun _ _ => trivial) (by decide) _
  ·exact dn_fact (dn_of hB.2.1) (fun _ _ => trivial) _
  ·exact bx_fact (hB.2.2.1 w (agree.refl _ _)) _) Tryz.func49 rfl (by kernel_rfl) (by kernel_rfl) fun a H => ?_
 unfold screening_pairs_s50 at G
 refine k_srk mixed H (.v 4 (.slice none 0 0) <|
 .v 5 (vI 0) <| .nil) [0, 1, 52, 53, 54] fun u1 a w' H => ?_
 refine k_seq ?_
 obtain ⟨t3, ht3, G⟩ := bnd G
 refine k_srk mixed H (.v 14 (.slice p_a0 L_a0.length c_a0) <|
 .cons [15] (ok_callL [52, 53] (fun u2 => [rdl anyF 2 p_a0 c_a0 L_a0 en_TTrajectory, dnK anyF E_TTrajectory.toPart L_a0]) 69 _ _ 15 (fun u2 w hF => screening_check.calls k0 a0 p_a0 c_a0 L_a0 t3 w h_a0 ⟨(rdA (rdF_of hF.1)), (dnA (dn_of hF.2.1)), trivial⟩ ht3)) <|
 .v 6 (vI t3) <| .nil) [0, 1, 6, 52, 53, 54] fun u2 a w' H => ?_
 refine k_srk mixed H (.v 16 (vI t3) <|
 .v 17 (.bool (t3 != 0)) <| .nil) [0, 1, 6, 17, 52, 53, 54] fun u4 a w' H => ?_
 refine k_cnd H (t3 != 0) (fun c40 => ?_) fun c40 => ?_
 ·rw [if_pos c40] at G
  refine k_srk mixed H (.v 18 (vI t3) <|
 .v 4 (.slice none 0 0) <|
 .v 5 (vI t3) <| .nil) [4, 5, 54] fun u5 a w' H => ?_
  refine k_ret ?_
  obtain rfl := sj G
  replace H := H.nil_row 55 88 5
  obtain ⟨g, o0, n0⟩ := gh_r none 0
  refine k_doneZ H _ g _ _ _ fr [55] [] (.tuple #[.slice none 0 0, vI t3]) [fun _ => owK 88 5 none 0 0 (([] : List TVerdict).flatMap en_TVerdict)] (by simp only [owl, o0, n0, List.length_set, List.length_cons, List.length_nil, Nat.zero_add, Nat.reduceAdd]) (by simp only [owl, o0, n0, List.length_set, List.length_cons, List.length_nil, Nat.zero_add, Nat.reduceAdd]) hfr (.inl ⟨rfl, rfl⟩) (fams_cons fam_ow fams_nil) (by simp)
 ·rw [if_neg (nt c40)] at G
  refine k_skip ?_
  refine k_srk mixed H (.v 7 (.slice none 0 0) <| .nil) [0, 1, 7, 52, 53, 54] fun u6 a w' H => ?_
  refine k_seq ?_
  obtain ⟨j8, hj8, Gj8⟩ := bnd G
  refine k_join (fun a w' => ∃ j8v, j8 = Sum.inr j8v ∧ ∃ (p_j7 : Option Addr) (c_j7 np_j7 : Nat), np_j7 = j8v.length ∧ RL w 52 [(7, sS p_j7 np_j7 c_j7), (900066, owK 88 5 p_j7 np_j7 c_j7 (j8v.flatMap en_TVerdict)), (54, bxK b_a1_0 [vI a1_0.Pos, vI a1_0.D] 86)] a w') ?_ ?_
  ·clear H; rintro a w' ⟨j8v, rfl, p_j7, c_j7, _, rfl, H⟩; have G := Gj8; clear Gj8; dsimp only at G
   refine k_srk mixed H (.v 51 (.slice p_j7 j8v.length c_j7) <|
 .v 4 (.slice p_j7 j8v.length c_j7) <|
 .v 5 (vI 0) <| .nil) [4, 5, 900066, 54] fun u9 a w' H => ?_
   refine k_ret ?_
   obtain rfl := sj G
   obtain ⟨g, o0, n0⟩ := gh_r p_j7 c_j7
   refine k_doneZ H _ g _ _ _ fr [900066] [] (.tuple #[.slice p_j7 j8v.length c_j7, vI 0]) [fun _ => owl 88 5 p_j7 c_j7 j8v en_TVerdict] (by simp only [owl, o0, n0]) (by simp only [owl, o0, n0]) hfr (.inl ⟨rfl, rfl⟩) (fams_cons fam_ow fams_nil) (by simp)
  ·have G := hj8; clear hj8
   refine k_srk mixed H (.v 19 (.slice p_a0 L_a0.length c_a0) <|
 .cons [20] (ok_v1 52 (rdl anyF 2 p_a0 c_a0 L_a0 en_TTrajectory) (vI (a0.length : Int)) 20 fun _ w h => run_lenN (((rdF_of h).2.len en_TTrajectory_len (by decide)).trans (map_len h_a0).symm) (by kernel_rfl)) <|
 .v 21 (vI 0) <| .nil) [0, 1, 7, 19, 20, 21, 52, 53, 54] fun u10 a w' H => ?_
   refine k_block ?_
   replace H := H.nil_row 66 88 5
   replace H := H.move (K := owK 88 5 none 0 0 (([] : List TVerdict).flatMap en_TVerdict)) 66 900067 (by kernel_rfl) (by intro _ _ h; cases h)
   refine k_loopJ (fun m a w' => ∃ x11 : List TVerdict, ∃ x12 : Int, screening_pairs_s50.l13 k0 a0 a1_0 t3 m x11 x12 = some j8 ∧ ∃ (p_x11 : Option Addr) (c_x11 np_x11 : Nat), np_x11 = x11.length ∧ RL w 52 [(0, sS p_a0 L_a0.length c_a0), (1, .slot true (.func (.func 50) #[] #[vP b_a1_0 0])), (7, sS p_x11 np_x11 c_x11), (19, sS p_a0 L_a0.length c_a0), (20, (sI (a0.length : Int))), (21, sI x12), (52, rdl anyF 2 p_a0 c_a0 L_a0 en_TTrajectory), (53, dnK anyF E_TTrajectory.toPart L_a0), (900067, owK 88 5 p_x11 np_x11 c_x11 (x11.flatMap en_TVerdict)), (54, bxK b_a1_0 [vI a1_0.Pos, vI a1_0.D] 86)] a w') k0 ⟨_, _, G, none, 0, 0, rfl, H.toM _⟩ ?_
   clear G H
   rintro (_ | k) a w' ⟨x11, x12, G, p_x11, c_x11, _, rfl, H⟩
   ·exact absurd G (by unfold screening_pairs_s50.l13; exact fun h => by cases h)
   ·unfold screening_pairs_s50.l13 at G
    refine k_srk mixed H (.v 22 (.bool (decide (x12 < (a0.length : Int)))) <| .nil) [0, 1, 7, 19, 20, 21, 22, 52, 53, 900067, 54] fun u14 a w' H => ?_
    refine k_seq ?_
    refine k_cnd H (decide (x12 < (a0.length : Int))) (fun c39 => ?_) fun c39 => ?_
    ·rw [if_pos c39] at G
     refine k_skip ?_
     refine k_seq ?_
     obtain ⟨j16, hj16, Gj16⟩ := bnd G
     refine k_join (fun a w' => ∃ j16v, j16 = Sum.inr j16v ∧ ∃ (p_j15 : Option Addr) (c_j15 np_j15 : Nat), np_j15 = j16v.length ∧ RL w 52 [(0, sS p_a0 L_a0.length c_a0), (1, .slot true (.func (.func 50) #[] #[vP b_a1_0 0])), (7, sS p_j15 np_j15 c_j15), (19, sS p_a0 L_a0.length c_a0), (20, (sI (a0.length : Int))), (21, sI x12), (52, rdl anyF 2 p_a0 c_a0 L_a0 en_TTrajectory), (53, dnK anyF E_TTrajectory.toPart L_a0), (900068, owK 88 5 p_j15 np_j15 c_j15 (j16v.flatMap en_TVerdict)), (54, bxK b_a1_0 [vI a1_0.Pos, vI a1_0.D] 86)] a w') ?_ ?_
     ·clear H; rintro a w' ⟨j16v, rfl, p_j15, c_j15, _, rfl, H⟩; have G := Gj16; clear Gj16; dsimp only at G
      refine k_rk mixed H (.v 50 (vI (w_i64 (x12 + 1))) <|
 .v 21 (vI (w_i64 (x12 + 1))) <| .nil) [0, 1, 7, 19, 20, 21, 52, 53, 900068, 54] fun u17 a w' H => ?_
      replace H := H.move (K := owl 88 5 p_j15 c_j15 j16v en_TVerdict) 900068 900067 (by kernel_rfl) (by intro _ _ h; cases h)
      exact ⟨k, Nat.lt_succ_self k, _, _, G, p_j15, c_j15, j16v.length, rfl, H.toM _⟩
     ·have G := hj16; clear hj16
      refine k_block ?_
      refine k_seq ?_
      replace G := gd G; obtain ⟨b19, G⟩ := G
      obtain ⟨t20, ht20, G⟩ := bnd G
      obtain ⟨p_t20_Segs, c_t20_Segs, L_t20_Segs, h_t20_0, y_t20⟩ := get_TTrajectory h_a0 ht20
      refine k_rk mixed H (.v 23 (vI x12) <|
 .cons [24] (ok_v1 52 (rdl anyF 2 p_a0 c_a0 L_a0 en_TTrajectory) (.pointer (some ⟨hdB p_a0, hdO p_a0 + x12.toNat * 2, none⟩)) 24 fun _ w h => ixr 84 .i64 x12 p_a0 L_a0.length c_a0 a0 en_TTrajectory (rdF_of h).2 en_TTrajectory_len (map_len h_a0) b19) <|
 .cons [25] (ok_v1 52 (rdl anyF 2 p_a0 c_a0 L_a0 en_TTrajectory) (.agg #[vI t20.Id, .slice p_t20_Segs L_t20_Segs.length c_t20_Segs]) 25 fun _ w h => ldr en_TTrajectory (rdF_of h).2 en_TTrajectory_len y_t20 0 2 [vI t20.Id, .slice p_t20_Segs L_t20_Segs.length c_t20_Segs]) <|
 .cons [9, 57] (ok_new (fun b => vP b 0) (fun u18 => [vI 0, .slice none 0 0]) 78 9 57) <|
 .v 8 (vI x12) <|
 .cons [57] (ok_as (u' := fun u18 => [(57, .blk ((u18 3).n 0) [vI t20.Id, .slice p_t20_Segs L_t20_Segs.length c_t20_Segs] 78)]) (ok_store 57 0 (fun u18 => ((u18 3).n 0)) (fun u18 => [vI 0, .slice none 0 0]) (fun u18 => [vI t20.Id, .slice p_t20_Segs L_t20_Segs.length c_t20_Segs]) 78) (fun _ => by kernel_rfl)) <| .nil) [0, 1, 7, 8, 9, 19, 20, 21, 52, 53, 57, 900067, 54] fun u18 a w' H => ?_
      refine k_seq ?_
      replace G := gd G; obtain ⟨b22, G⟩ := G
      refine k_rk mixed H (.v 26 (.slice p_a0 L_a0.length c_a0) <|
 .v 27 (vI x12) <|
 .v 28 (vI (w_i64 (x12 + 1))) <|
 .cons [29] (ok_valL [52] (fun u21 => [rdl anyF 2 p_a0 c_a0 L_a0 en_TTrajectory]) (fun u21 => .slice (viewP p_a0 (w_i64 (x12 + 1)).toNat 2 c_a0) ((L_a0.drop (w_i64 (x12 + 1)).toNat).length) (c_a0 - (w_i64 (x12 + 1)).toNat)) (fun u21 => true) [true, true] 29 (fun u21 w _ hF => run_of (by kernel_rfl) (run_low (t := 84) (sz := 2) (l := L_a0) (k := .i64) rfl (by rw [← map_len h_a0]; exact b22)))) <|
 .cons [30] (ok_v1 52 (rdl anyF 2 p_a0 c_a0 L_a0 en_TTrajectory) (vI ((a0.drop (w_i64 (x12 + 1)).toNat).length : Int)) 30 fun _ w h => run_lenN (((RowC.low (en := en_TTrajectory) (rdF_of h) en_TTrajectory_len (by rw [← map_len h_a0]; exact b22)).2.len en_TTrajectory_len (by decide)).trans (map_len (map_drop h_a0 (w_i64 (x12 + 1)).toNat)).symm) (by kernel_rfl)) <|
 .v 31 (vI 0) <| .nil) [0, 1, 7, 9, 19, 20, 21, 29, 30, 31, 52, 53, 57, 900067, 54] fun u21 a w' H => ?_
      refine k_block ?_
      replace H := H.move (K := owl 88 5 p_x11 c_x11 x11 en_TVerdict) 900067 900069 (by kernel_rfl) (by intro _ _ h; cases h)
      refine k_loopJ (fun m a w' => ∃ x23 : List TVerdict, ∃ x24 : Int, screening_pairs_s50.l25 k0 a0 a1_0 t3 x11 x12 t20 m x23 x24 = some j16 ∧ ∃ (p_x23 : Option Addr) (c_x23 np_x23 : Nat), np_x23 = x23.length ∧ RL w 52 [(0, sS p_a0 L_a0.length c_a0), (1, .slot true (.func (.func 50) #[] #[vP b_a1_0 0])), (7, sS p_x23 np_x23 c_x23), (9, (sP ((u18 3).n 0) 0)), (19, sS p_a0 L_a0.length c_a0), (20, (sI (a0.length : Int))), (21, sI x12), (29, (sS (viewP p_a0 (w_i64 (x12 + 1)).toNat 2 c_a0) ((L_a0.drop (w_i64 (x12 + 1)).toNat).length) (c_a0 - (w_i64 (x12 + 1)).toNat))), (30, (sI ((a0.drop (w_i64 (x12 + 1)).toNat).length : Int))), (31, sI x24), (52, rdl anyF 2 p_a0 c_a0 L_a0 en_TTrajectory), (53, dnK anyF E_TTrajectory.toPart L_a0), (57, .blk ((u18 3).n 0) [vI t20.Id, .slice p_t20_Segs L_t20_Segs.length c_t20_Segs] 78), (900069, owK 88 5 p_x23 np_x23 c_x23 (x23.flatMap en_TVerdict)), (54, bxK b_a1_0 [vI a1_0.Pos, vI a1_0.D] 86)] a w') k0 ⟨_, _, G, p_x11, c_x11, x11.length, rfl, H.toM _⟩ ?_
      clear G H
      rintro (_ | k) a w' ⟨x23, x24, G, p_x23, c_x23, _, rfl, H⟩
      ·exact absurd G (by unfold screening_pairs_s50.l25; exact fun h => by cases h)
      ·unfold screening_pairs_s50.l25 at G
       refine k_srk mixed H (.v 32 (.bool (decide (x24 < ((a0.drop (w_i64 (x12 + 1)).toNat).length : Int)))) <| .nil) [0, 1, 7, 9, 19, 20, 21, 29, 30, 31, 32, 52, 53, 57, 900069, 54] fun u26 a w' H => ?_
       refine k_seq ?_
       refine k_cnd H (decide (x24 < ((a0.drop (w_i64 (x12 + 1)).toNat).length : Int))) (fun c38 => ?_) fun c38 => ?_
       ·rw [if_pos c38] at G
        refine k_skip ?_
        refine k_seq ?_
        refine k_block ?_
        refine k_seq ?_
        replace G := gd G; obtain ⟨b28, G⟩ := G
        obtain ⟨t29, ht29, G⟩ := bnd G
        obtain ⟨p_t29_Segs, c_t29_Segs, L_t29_Segs, h_t29_0, y_t29⟩ := get_TTrajectory (map_drop h_a0 (w_i64 (x12 + 1)).toNat) ht29
        refine k_rk mixed H (.cons [33] (ok_v1 52 (rdl anyF 2 p_a0 c_a0 L_a0 en_TTrajectory) (.pointer (some ⟨hdB (viewP p_a0 (w_i64 (x12 + 1)).toNat 2 c_a0), hdO (viewP p_a0 (w_i64 (x12 + 1)).toNat 2 c_a0) + x24.toNat * 2, none⟩)) 33 fun _ w h => ix_row (t := 84) (k := .i64) (i := x24) (p := (viewP p_a0 (w_i64 (x12 + 1)).toNat 2 c_a0)) (n := (L_a0.drop (w_i64 (x12 + 1)).toNat).length) (cap := (c_a0 - (w_i64 (x12 + 1)).toNat)) (x := (a0.drop (w_i64 (x12 + 1)).toNat)) (en := en_TTrajectory) (RowC.low (en := en_TTrajectory) (rdF_of h) en_TTrajectory_len (by rw [← map_len h_a0]; exact b22)).2 en_TTrajectory_len (map_len (map_drop h_a0 (w_i64 (x12 + 1)).toNat)) b28 (by kernel_rfl)) <|
 .cons [34] (ok_v1 52 (rdl anyF 2 p_a0 c_a0 L_a0 en_TTrajectory) (.agg #[vI t29.Id, .slice p_t29_Segs L_t29_Segs.length c_t29_Segs]) 34 fun _ w h => ldr en_TTrajectory (RowC.low (en := en_TTrajectory) (rdF_of h) en_TTrajectory_len (by rw [← map_len h_a0]; exact b22)).2 en_TTrajectory_len y_t29 0 2 [vI t29.Id, .slice p_t29_Segs L_t29_Segs.length c_t29_Segs]) <|
 .cons [11, 58] (ok_new (fun b => vP b 0) (fun u27 => [vI 0, .slice none 0 0]) 78 11 58) <|
 .cons [58] (ok_as (u' := fun u27 => [(58, .blk ((u27 2).n 0) [vI t29.Id, .slice p_t29_Segs L_t29_Segs.length c_t29_Segs] 78)]) (ok_store 58 0 (fun u27 => ((u27 2).n 0)) (fun u27 => [vI 0, .slice none 0 0]) (fun u27 => [vI t29.Id, .slice p_t29_Segs L_t29_Segs.length c_t29_Segs]) 78) (fun _ => by kernel_rfl)) <| .nil) [0, 1, 7, 9, 11, 19, 20, 21, 29, 30, 31, 52, 53, 57, 58, 900069, 54] fun u27 a w' H => ?_
        obtain ⟨t31, ht31, G⟩ := bnd G
        refine k_srk mixed H (.v 36 (.func (.func 50) #[] #[vP b_a1_0 0]) <|
 .cons [37] (ok_ldc (.agg #[vI t20.Id, .slice p_t20_Segs L_t20_Segs.length c_t20_Segs]) 37 57 0 2 ((u18 3).n 0) [vI t20.Id, .slice p_t20_Segs L_t20_Segs.length c_t20_Segs] 78) <|
 .cons [38] (ok_ldc (.agg #[vI t29.Id, .slice p_t29_Segs L_t29_Segs.length c_t29_Segs]) 38 58 0 2 ((u27 2).n 0) [vI t29.Id, .slice p_t29_Segs L_t29_Segs.length c_t29_Segs] 78) <|
 .cons [39] (ok_callL [53, 54] (fun u30 => [dnK anyF E_TTrajectory.toPart L_a0, bxK b_a1_0 [vI a1_0.Pos, vI a1_0.D] 86]) 50 _ _ 39 (fun u30 w hF => screening_Screen_1_m.calls k0 (⟨t20.Id, t20.Segs⟩ : TTrajectory) (⟨t29.Id, t29.Segs⟩ : TTrajectory) a1_0 p_t20_Segs c_t20_Segs L_t20_Segs p_t29_Segs c_t29_Segs L_t29_Segs b_a1_0 t31 w h_t20_0 h_t29_0 ⟨(rdA (show RowC _ 6 p_t20_Segs L_t20_Segs.length c_t20_Segs (L_t20_Segs.flatMap en_TSegment) from ((dn_of hF.1) _ (List.mem_of_getElem? y_t20)).1)), (dnA ((dn_of hF.1) _ (List.mem_of_getElem? y_t20)).2), (rdA (show RowC _ 6 p_t29_Segs L_t29_Segs.length c_t29_Segs (L_t29_Segs.flatMap en_TSegment) from ((rdl_drop (dn_of hF.1)) _ (List.mem_of_getElem? y_t29)).1)), (dnA ((rdl_drop (dn_of hF.1)) _ (List.mem_of_getElem? y_t29)).2), (bx_fact (hF.2.1 w (agree.refl _ _)) 0).2.1, trivial⟩ ht31)) <|
 .v 35 (.tuple #[.agg #[vI t31.1.A, vI t31.1.B, vI t31.1.Kind, vI t31.1.Dist.Lo, vI t31.1.Dist.Hi], vI t31.2]) <|
 .v 40 (.agg #[vI t31.1.A, vI t31.1.B, vI t31.1.Kind, vI t31.1.Dist.Lo, vI t31.1.Dist.Hi]) <|
 .v 41 (vI t31.2) <|
 .cons [12, 59] (ok_new (fun b => vP b 0) (fun u30 => [vI 0, vI 0, vI 0, vI 0, vI 0]) 88 12 59) <|
 .cons [59] (ok_as (u' := fun u30 => [(59, .blk ((u30 7).n 0) [vI t31.1.A, vI t31.1.B, vI t31.1.Kind, vI t31.1.Dist.Lo, vI t31.1.Dist.Hi] 88)]) (ok_store 59 0 (fun u30 => ((u30 7).n 0)) (fun u30 => [vI 0, vI 0, vI 0, vI 0, vI 0]) (fun u30 => [vI t31.1.A, vI t31.1.B, vI t31.1.Kind, vI t31.1.Dist.Lo, vI t31.1.Dist.Hi]) 88) (fun _ => by kernel_rfl)) <|
 .v 13 (vI t31.2) <| .nil) [0, 1, 7, 9, 12, 13, 19, 20, 21, 29, 30, 31, 52, 53, 57, 59, 900069, 54] fun u30 a w' H => ?_
        refine k_seq ?_
        refine k_srk mixed H (.v 42 (vI t31.2) <|
 .v 43 (.bool (t31.2 != 0)) <| .nil) [0, 1, 7, 9, 12, 13, 19, 20, 21, 29, 30, 31, 43, 52, 53, 57, 59, 900069, 54] fun u32 a w' H => ?_
        refine k_cnd H (t31.2 != 0) (fun c37 => ?_) fun c37 => ?_
        ·rw [if_pos c37] at G
         refine k_srk mixed H (.v 44 (vI t31.2) <|
 .v 4 (.slice none 0 0) <|
 .v 5 (vI t31.2) <| .nil) [4, 5, 54] fun u33 a w' H => ?_
         refine k_ret ?_
         obtain rfl := sj G
         replace G := Gj16
         obtain rfl := sj G
         replace G := Gj8
         obtain rfl := sj G
         replace H := H.nil_row 60 88 5
         obtain ⟨g, o0, n0⟩ := gh_r none 0
         refine k_doneZ H _ g _ _ _ fr [60] [] (.tuple #[.slice none 0 0, vI t31.2]) [fun _ => owK 88 5 none 0 0 (([] : List TVerdict).flatMap en_TVerdict)] (by simp only [owl, o0, n0, List.length_set, List.length_cons, List.length_nil, Nat.zero_add, Nat.reduceAdd]) (by simp only [owl, o0, n0, List.length_set, List.length_cons, List.length_nil, Nat.zero_add, Nat.reduceAdd]) hfr (.inl ⟨rfl, rfl⟩) (fams_cons fam_ow fams_nil) (by simp)
        ·rw [if_neg (nt c37)] at G
         refine k_skip ?_
         replace G := gd G; obtain ⟨b35, G⟩ := G
         refine k_rk mixed H (.v 45 (.slice p_x23 x23.length c_x23) <|
 .cons [46] (ok_ldc (.agg #[vI t31.1.A, vI t31.1.B, vI t31.1.Kind, vI t31.1.Dist.Lo, vI t31.1.Dist.Hi]) 46 59 0 5 ((u30 7).n 0) [vI t31.1.A, vI t31.1.B, vI t31.1.Kind, vI t31.1.Dist.Lo, vI t31.1.Dist.Hi] 88) <|
 .cons [47, 61] (ok_new (fun b => .slice (some ⟨b, 0, none⟩) 1 1) (fun u34 => [vI t31.1.A, vI t31.1.B, vI t31.1.Kind, vI t31.1.Dist.Lo, vI t31.1.Dist.Hi]) 88 47 61) <|
 .cons [48, 900069, 900069] (ok_own1 [2] [61] (fun u34 => [.blk ((u34 2).n 0) [vI t31.1.A, vI t31.1.B, vI t31.1.Kind, vI t31.1.Dist.Lo, vI t31.1.Dist.Hi] 88]) 900069 (fun u34 => owl 88 5 p_x23 c_x23 x23 en_TVerdict) (some 48) (fun u34 g => .slice (g.o 0) (x23 ++ [(⟨t31.1.A, t31.1.B, t31.1.Kind, (⟨t31.1.Dist.Lo, t31.1.Dist.Hi⟩ : TInterval)⟩ : TVerdict)]).length (g.n 0)) (fun u34 g => owl 88 5 (g.o 0) (g.n 0) (x23 ++ [(⟨t31.1.A, t31.1.B, t31.1.Kind, (⟨t31.1.Dist.Lo, t31.1.Dist.Hi⟩ : TInterval)⟩ : TVerdict)]) en_TVerdict) (fun u34 w hF hK => tv_app (run_app_rowN (t := 81) (ty := 81) (en := en_TVerdict) en_TVerdict_len inf88 (ow_of hK) hF.1 (news := [(⟨t31.1.A, t31.1.B, t31.1.Kind, (⟨t31.1.Dist.Lo, t31.1.Dist.Hi⟩ : TInterval)⟩ : TVerdict)]) rfl (by simp) (by kernel_rfl) b35)) (hloc := fun u u' h => ⟨by first | rfl | simp only [h 2 (by decide)], by first | rfl | simp only [h 2 (by decide)], by first | rfl | simp only [h 2 (by decide)], by first | rfl | simp only [h 2 (by decide)]⟩)) <|
 .cons [7] (ok_val (fun u34 => .slice ((u34 3).o 0) ((x23 ++ [(⟨t31.1.A, t31.1.B, t31.1.Kind, (⟨t31.1.Dist.Lo, t31.1.Dist.Hi⟩ : TInterval)⟩ : TVerdict)]).length) ((u34 3).n 0)) 7) <| .nil) [0, 1, 7, 9, 19, 20, 21, 29, 30, 31, 52, 53, 57, 900069, 54] fun u34 a w' H => ?_
         refine k_rk mixed H (.v 49 (vI (w_i64 (x24 + 1))) <|
 .v 31 (vI (w_i64 (x24 + 1))) <| .nil) [0, 1, 7, 9, 19, 20, 21, 29, 30, 31, 52, 53, 57, 900069, 54] fun u36 a w' H => ?_
         exact ⟨k, Nat.lt_succ_self k, _, _, G, ((u34 3).o 0), ((u34 3).n 0), (x23 ++ [(⟨t31.1.A, t31.1.B, t31.1.Kind, (⟨t31.1.Dist.Lo, t31.1.Dist.Hi⟩ : TInterval)⟩ : TVerdict)]).length, rfl, H.toM _⟩
       ·rw [if_neg (nt c38)] at G
        refine k_exit rfl ?_
        obtain rfl := sj G
        replace H := H.move (K := owl 88 5 p_x23 c_x23 x23 en_TVerdict) 900069 900068 (by kernel_rfl) (by intro _ _ h; cases h)
        exact ⟨_, rfl, p_x23, c_x23, x23.length, rfl, H.toM _⟩
    ·rw [if_neg (nt c39)] at G
     refine k_exit rfl ?_
     obtain rfl := sj G
     replace H := H.move (K := owl 88 5 p_x11 c_x11 x11 en_TVerdict) 900067 900066 (by kernel_rfl) (by intro _ _ h; cases h)
     exact ⟨_, rfl, p_x11, c_x11, x11.length, rfl, H.toM _⟩
theorem screening_Screen.calls (k0 : Nat) (a0 : List TTrajectory) (a1 : TSeparation) (p_a0 : Option Addr) (c_a0 : Nat) (L_a0 : List G_TTrajectory) (r : List TVerdict × Int) (w : World) (h_a0 : a0 = L_a0.map er_TTrajectory) (hB : AllH [rdl anyF 2 p_a0 c_a0 L_a0 en_TTrajectory, dnK anyF E_TTrajectory.toPart L_a0] w) (G : screening_Screen k0 a0 a1 = some r) :
  Calls Tryz.prog 24 #[.slice p_a0 L_a0.length c_a0, .agg #[vI a1.Pos, vI a1.D]] w fun e w' => ∃ g : Gh, e = .returned (.tuple #[.slice (g.o 0) r.1.length (g.n 0), vI r.2]) ∧ But (fpK []) w w' ∧ OutOK w.heap.size (fpK []) (frI w.heap.size []) [fun _ => owl 88 5 (g.o 0) (g.n 0) r.1 en_TVerdict] w' := by
 obtain ⟨fr, hfr, hBf⟩ := frs w []
 refine k_enterF (args := [.slice p_a0 L_a0.length c_a0, .agg #[vI a1.Pos, vI a1.D]]) 11 [(11, rdl anyF 2 p_a0 c_a0 L_a0 en_TTrajectory), (12, dnK anyF E_TTrajectory.toPart L_a0)] (by
  intro x hx
  simp only [List.mem_cons, List.not_mem_nil, or_false] at hx
  rcases hx with rfl | rfl
  ·exact rdF_fact (rdF_of hB.1) (fun _ _ => trivial) (by decide) _
  ·exact dn_fact (dn_of hB.2.1) (fun _ _ => trivial) _) Tryz.func24 rfl (by kernel_rfl) (by kernel_rfl) fun a H => ?_
 unfold screening_Screen at G
 refine k_srk mixed H (.cons [3, 13] (ok_new (fun b => vP b 0) (fun u1 => [vI a1.Pos, vI a1.D]) 86 3 13) <|
 .v 4 (.slice none 0 0) <|
 .v 5 (vI 0) <| .nil) [0, 3, 11, 12, 13] fun u1 a w' H => ?_
 obtain ⟨t3, ht3, G⟩ := bnd G
 refine k_srk mixed H (.v 6 (.slice p_a0 L_a0.length c_a0) <|
 .v 7 (.func (.func 50) #[] #[vP ((u1 0).n 0) 0]) <|
 .cons [8, 14] (ok_callY false fr [] [11, 12, 13] (fun u2 => [rdl anyF 2 p_a0 c_a0 L_a0 en_TTrajectory, dnK anyF E_TTrajectory.toPart L_a0, .blk ((u1 0).n 0) [vI a1.Pos, vI a1.D] 86]) [] (fun u2 => []) 49 _ _ _ _ _ [14] 8 (fun u2 w hB hF hM => screening_pairs_s50.calls k0 a0 a1 p_a0 c_a0 L_a0 ((u1 0).n 0) t3 w h_a0 hB ht3) (fun u2 w hF => ⟨⟨sub_rd0 (rdF_of hF.1) (fun j h => ⟨_, (.head _), h⟩), sub_dn0 (dn_of hF.2.1) (fun j h => ⟨_, (.tail _ (.head _)), h⟩), sub_bx hF.2.2.1 (.tail _ (.tail _ (.head _))) rfl, trivial⟩, trivial⟩) (fun u2 g => (fams_cons fam_ow fams_nil)) (.inr (fun u2 g => (famx_cons trivial (fun K h => by cases h)))) (fun h => by cases h)) <|
 .cons [9] (ok_val (fun u2 => .slice ((u2 2).o 0) t3.1.length ((u2 2).n 0)) 9) <|
 .v 10 (vI t3.2) <|
 .cons [4] (ok_val (fun u2 => .slice ((u2 2).o 0) t3.1.length ((u2 2).n 0)) 4) <|
 .v 5 (vI t3.2) <| .nil) [4, 5, 14] fun u2 a w' H => ?_
 refine k_ret ?_
 obtain rfl := sj G
 obtain ⟨g, o0, n0⟩ := gh_r ((u2 2).o 0) ((u2 2).n 0)
 refine k_doneZ H _ g _ _ _ fr [14] [] (.tuple #[.slice ((u2 2).o 0) t3.1.length ((u2 2).n 0), vI t3.2]) [fun _ => owl 88 5 ((u2 2).o 0) ((u2 2).n 0) t3.1 en_TVerdict] (by simp only [owl, o0, n0]) (by simp only [owl, o0, n0]) hfr (.inl ⟨rfl, rfl⟩) (fams_cons fam_ow fams_nil) (by simp)
theorem armillarytop_sanity24.calls (k0 : Nat)  (r : Bool) (w : World) (hg : Glob w) (G : armillarytop_sanity24 k0 = some r) :
  Calls Tryz.prog 22 #[] w fun e w' => e = .returned (.bool r) ∧ Below w.heap.size w w' := by
 obtain ⟨fr, hfr⟩ : ∃ fr : Nat → Prop, ∀ j, fr j := ⟨fun _ => True, fun _ => trivial⟩
 have hBf : ∀ j, w.heap.size ≤ j → fr j := fun j _ => hfr j
 refine k_enterG (args := []) 71 999999 globFp Glob (glob_local hg) (glob_in hg) Tryz.func22 rfl (by kernel_rfl) (by kernel_rfl) fun a H => ?_
 unfold armillarytop_sanity24 at G
 refine k_seq ?_
 refine k_rg mixed H (.v 0 (.bool false) <| .nil) fun u1 a w' H => ?_
 replace H := H.kp [999999]
 refine k_seq ?_
 replace G := bnd G; obtain ⟨t3, ht3, G⟩ := G
 refine k_rg mixed H (.v 10 (.agg #[.int .i32 0, .int .i16 4096]) <|
   .cons [11, 71, 72] (ok_callY true fr [] [999999] (fun u2 => [gk]) [] (fun u2 => []) 23 (fun u2 => #[vI 1, .agg #[.int .i32 0, .int .i16 4096]]) (fun u2 => [gk]) (fun u2 => []) (fun u2 g => .tuple #[.agg #[vI t3.1.Id, .slice (g.o 0) ((g.dl er_TSegment gd_TSegment 0 t3.1.Segs).length) (g.n 0)], .bool t3.2]) (fun u2 g => [fun _ => owK 63 6 (g.o 0) ((g.dl er_TSegment gd_TSegment 0 t3.1.Segs).length) (g.n 0) ((g.dl er_TSegment gd_TSegment 0 t3.1.Segs).flatMap en_TSegment), fun fr => dnK fr E_TSegment.toPart (g.dl er_TSegment gd_TSegment 0 t3.1.Segs)]) [71, 72] 11 (fun u2 w hB hF hM => armillarytop_trajectory24.calls k0 1 (⟨0, 4096⟩ : TBody)  t3 w  (glob_of hB.1) ht3) (fun u2 w hF => ⟨⟨sub_k hF.1 (.head _), trivial⟩, trivial⟩) (fun u2 g => (fams_cons fam_ow (fams_cons fam_dn fams_nil))) (.inl rfl) (fun _ => hBf)) <|
   .cons [9] (ok_val (fun u2 => .tuple #[.agg #[vI t3.1.Id, .slice ((u2 1).o 0) (((u2 1).dl er_TSegment gd_TSegment 0 t3.1.Segs).length) ((u2 1).n 0)], .bool t3.2]) 9) <|
   .cons [12] (ok_val (fun u2 => .agg #[vI t3.1.Id, .slice ((u2 1).o 0) (((u2 1).dl er_TSegment gd_TSegment 0 t3.1.Segs).length) ((u2 1).n 0)]) 12) <|
   .v 13 (.bool t3.2) <|
   .cons [1, 73] (ok_new (fun b => vP b 0) (fun u2 => [vI 0, .slice none 0 0]) 78 1 73) <|
   .cons [73] (ok_as (u' := fun u2 => [(73, .blk ((u2 5).n 0) [vI t3.1.Id, .slice ((u2 1).o 0) (((u2 1).dl er_TSegment gd_TSegment 0 t3.1.Segs).length) ((u2 1).n 0)] 78)]) (ok_store 73 0 (fun u2 => ((u2 5).n 0)) (fun u2 => [vI 0, .slice none 0 0]) (fun u2 => [vI t3.1.Id, .slice ((u2 1).o 0) (((u2 1).dl er_TSegment gd_TSegment 0 t3.1.Segs).length) ((u2 1).n 0)]) 78) (fun _ => by kernel_rfl)) <|
   .v 2 (.bool t3.2) <| .nil) fun u2 a w' H => ?_
 replace H := H.kp [1, 2, 71, 72, 73, 999999]
 refine k_seq ?_
 replace G := bnd G; obtain ⟨t5, ht5, G⟩ := G
 refine k_rg mixed H (.v 15 (.agg #[.int .i32 262144, .int .i16 (-4096)]) <|
   .cons [16, 74, 75] (ok_callY true fr [] [999999] (fun u4 => [gk]) [] (fun u4 => []) 23 (fun u4 => #[vI 2, .agg #[.int .i32 262144, .int .i16 (-4096)]]) (fun u4 => [gk]) (fun u4 => []) (fun u4 g => .tuple #[.agg #[vI t5.1.Id, .slice (g.o 0) ((g.dl er_TSegment gd_TSegment 0 t5.1.Segs).length) (g.n 0)], .bool t5.2]) (fun u4 g => [fun _ => owK 63 6 (g.o 0) ((g.dl er_TSegment gd_TSegment 0 t5.1.Segs).length) (g.n 0) ((g.dl er_TSegment gd_TSegment 0 t5.1.Segs).flatMap en_TSegment), fun fr => dnK fr E_TSegment.toPart (g.dl er_TSegment gd_TSegment 0 t5.1.Segs)]) [74, 75] 16 (fun u4 w hB hF hM => armillarytop_trajectory24.calls k0 2 (⟨262144, (-4096)⟩ : TBody)  t5 w  (glob_of hB.1) ht5) (fun u4 w hF => ⟨⟨sub_k hF.1 (.head _), trivial⟩, trivial⟩) (fun u4 g => (fams_cons fam_ow (fams_cons fam_dn fams_nil))) (.inl rfl) (fun _ => hBf)) <|
   .cons [14] (ok_val (fun u4 => .tuple #[.agg #[vI t5.1.Id, .slice ((u4 1).o 0) (((u4 1).dl er_TSegment gd_TSegment 0 t5.1.Segs).length) ((u4 1).n 0)], .bool t5.2]) 14) <|
   .cons [17] (ok_val (fun u4 => .agg #[vI t5.1.Id, .slice ((u4 1).o 0) (((u4 1).dl er_TSegment gd_TSegment 0 t5.1.Segs).length) ((u4 1).n 0)]) 17) <|
   .v 18 (.bool t5.2) <|
   .cons [3, 76] (ok_new (fun b => vP b 0) (fun u4 => [vI 0, .slice none 0 0]) 78 3 76) <|
   .cons [76] (ok_as (u' := fun u4 => [(76, .blk ((u4 5).n 0) [vI t5.1.Id, .slice ((u4 1).o 0) (((u4 1).dl er_TSegment gd_TSegment 0 t5.1.Segs).length) ((u4 1).n 0)] 78)]) (ok_store 76 0 (fun u4 => ((u4 5).n 0)) (fun u4 => [vI 0, .slice none 0 0]) (fun u4 => [vI t5.1.Id, .slice ((u4 1).o 0) (((u4 1).dl er_TSegment gd_TSegment 0 t5.1.Segs).length) ((u4 1).n 0)]) 78) (fun _ => by kernel_rfl)) <|
   .v 4 (.bool t5.2) <| .nil) fun u4 a w' H => ?_
 replace H := H.kp [1, 2, 3, 4, 71, 72, 73, 74, 75, 76, 999999]
 refine k_seq ?_
 replace G := bnd G; obtain ⟨t7, ht7, G⟩ := G
 refine k_rg mixed H (.cons [20] (ok_ld (fun u6 => .agg #[vI t3.1.Id, .slice ((u2 1).o 0) (((u2 1).dl er_TSegment gd_TSegment 0 t3.1.Segs).length) ((u2 1).n 0)]) 20 73 0 2 (fun u6 => ((u2 5).n 0)) (fun u6 => [vI t3.1.Id, .slice ((u2 1).o 0) (((u2 1).dl er_TSegment gd_TSegment 0 t3.1.Segs).length) ((u2 1).n 0)]) 78) <|
   .cons [21] (ok_ld (fun u6 => .agg #[vI t5.1.Id, .slice ((u4 1).o 0) (((u4 1).dl er_TSegment gd_TSegment 0 t5.1.Segs).length) ((u4 1).n 0)]) 21 76 0 2 (fun u6 => ((u4 5).n 0)) (fun u6 => [vI t5.1.Id, .slice ((u4 1).o 0) (((u4 1).dl er_TSegment gd_TSegment 0 t5.1.Segs).length) ((u4 1).n 0)]) 78) <|
   .cons [22, 77] (ok_blkrow 2 2 (ok_new (fun b => .slice (some ⟨b, 0, none⟩) 2 2) (fun u6 => [vI t3.1.Id, .slice ((u2 1).o 0) (((u2 1).dl er_TSegment gd_TSegment 0 t3.1.Segs).length) ((u2 1).n 0), vI t5.1.Id, .slice ((u4 1).o 0) (((u4 1).dl er_TSegment gd_TSegment 0 t5.1.Segs).length) ((u4 1).n 0)]) 78 22 77) (fun _ => rfl) (by decide)) <|
   .v 23 (.agg #[vI 1, vI 65536]) <|
   .cons [24, 78] (ok_callY false fr [2] [77, 71, 72, 74, 75] (fun u6 => [owK 78 2 (some ⟨((u6 2).n 0), 0, none⟩) 2 2 (([(⟨t3.1.Id, ⟨((u2 1).o 0), ((u2 1).n 0), ((u2 1).dl er_TSegment gd_TSegment 0 t3.1.Segs)⟩⟩ : G_TTrajectory), (⟨t5.1.Id, ⟨((u4 1).o 0), ((u4 1).n 0), ((u4 1).dl er_TSegment gd_TSegment 0 t5.1.Segs)⟩⟩ : G_TTrajectory)] : List G_TTrajectory).flatMap en_TTrajectory), owK 63 6 ((u2 1).o 0) (((u2 1).dl er_TSegment gd_TSegment 0 t3.1.Segs).length) ((u2 1).n 0) (((u2 1).dl er_TSegment gd_TSegment 0 t3.1.Segs).flatMap en_TSegment), dnK fr E_TSegment.toPart ((u2 1).dl er_TSegment gd_TSegment 0 t3.1.Segs), owK 63 6 ((u4 1).o 0) (((u4 1).dl er_TSegment gd_TSegment 0 t5.1.Segs).length) ((u4 1).n 0) (((u4 1).dl er_TSegment gd_TSegment 0 t5.1.Segs).flatMap en_TSegment), dnK fr E_TSegment.toPart ((u4 1).dl er_TSegment gd_TSegment 0 t5.1.Segs)]) [] (fun u6 => []) 24 (fun u6 => #[.slice (some ⟨((u6 2).n 0), 0, none⟩) 2 2, .agg #[vI 1, vI 65536]]) (fun u6 => [rdF anyF 2 (some ⟨((u6 2).n 0), 0, none⟩) 2 2 (([(⟨t3.1.Id, ⟨((u2 1).o 0), ((u2 1).n 0), ((u2 1).dl er_TSegment gd_TSegment 0 t3.1.Segs)⟩⟩ : G_TTrajectory), (⟨t5.1.Id, ⟨((u4 1).o 0), ((u4 1).n 0), ((u4 1).dl er_TSegment gd_TSegment 0 t5.1.Segs)⟩⟩ : G_TTrajectory)] : List G_TTrajectory).flatMap en_TTrajectory), dnK anyF E_TTrajectory.toPart ([(⟨t3.1.Id, ⟨((u2 1).o 0), ((u2 1).n 0), ((u2 1).dl er_TSegment gd_TSegment 0 t3.1.Segs)⟩⟩ : G_TTrajectory), (⟨t5.1.Id, ⟨((u4 1).o 0), ((u4 1).n 0), ((u4 1).dl er_TSegment gd_TSegment 0 t5.1.Segs)⟩⟩ : G_TTrajectory)] : List G_TTrajectory)]) (fun u6 => []) (fun u6 g => .tuple #[.slice (g.o 0) t7.1.length (g.n 0), vI t7.2]) (fun u6 g => [fun _ => owK 88 5 (g.o 0) t7.1.length (g.n 0) (t7.1.flatMap en_TVerdict)]) [78] 24 (fun u6 w hB hF hM => screening_Screen.calls k0 ([(⟨t3.1.Id, t3.1.Segs⟩ : TTrajectory), (⟨t5.1.Id, t5.1.Segs⟩ : TTrajectory)] : List TTrajectory) (⟨1, 65536⟩ : TSeparation) (some ⟨((u6 2).n 0), 0, none⟩) 2 ([(⟨t3.1.Id, ⟨((u2 1).o 0), ((u2 1).n 0), ((u2 1).dl er_TSegment gd_TSegment 0 t3.1.Segs)⟩⟩ : G_TTrajectory), (⟨t5.1.Id, ⟨((u4 1).o 0), ((u4 1).n 0), ((u4 1).dl er_TSegment gd_TSegment 0 t5.1.Segs)⟩⟩ : G_TTrajectory)] : List G_TTrajectory) t7 w (show ([(⟨t3.1.Id, t3.1.Segs⟩ : TTrajectory), (⟨t5.1.Id, t5.1.Segs⟩ : TTrajectory)] : List TTrajectory) = List.map er_TTrajectory ([(⟨t3.1.Id, ⟨((u2 1).o 0), ((u2 1).n 0), ((u2 1).dl er_TSegment gd_TSegment 0 t3.1.Segs)⟩⟩ : G_TTrajectory), (⟨t5.1.Id, ⟨((u4 1).o 0), ((u4 1).n 0), ((u4 1).dl er_TSegment gd_TSegment 0 t5.1.Segs)⟩⟩ : G_TTrajectory)] : List G_TTrajectory) from by show ([(⟨t3.1.Id, t3.1.Segs⟩ : TTrajectory), (⟨t5.1.Id, t5.1.Segs⟩ : TTrajectory)] : List TTrajectory) = ([(⟨t3.1.Id, List.map er_TSegment ((u2 1).dl er_TSegment gd_TSegment 0 t3.1.Segs)⟩ : TTrajectory), (⟨t5.1.Id, List.map er_TSegment ((u4 1).dl er_TSegment gd_TSegment 0 t5.1.Segs)⟩ : TTrajectory)] : List TTrajectory); rw [← (dl_er ergd_TSegment (u2 1) 0 t3.1.Segs), ← (dl_er ergd_TSegment (u4 1) 0 t5.1.Segs)]) hB ht7) (fun u6 w hF => ⟨⟨sub_rd0 (owns_rowC (ow_of hF.1)) (fun j h => ⟨_, (.head _), (fp_own h)⟩), sub_dn0 (E := E_TTrajectory.toPart) (L := ([(⟨t3.1.Id, ⟨((u2 1).o 0), ((u2 1).n 0), ((u2 1).dl er_TSegment gd_TSegment 0 t3.1.Segs)⟩⟩ : G_TTrajectory), (⟨t5.1.Id, ⟨((u4 1).o 0), ((u4 1).n 0), ((u4 1).dl er_TSegment gd_TSegment 0 t5.1.Segs)⟩⟩ : G_TTrajectory)] : List G_TTrajectory)) (rdl_cons ⟨(owns_rowC (ow_of hF.2.1)), (dn_of hF.2.2.1)⟩ (rdl_cons ⟨(owns_rowC (ow_of hF.2.2.2.1)), (dn_of hF.2.2.2.2.1)⟩ rdl_nil)) (fun j => (fun h => (fpl_cons h).elim (fun h => (h.elim (fun h => ⟨_, (.tail _ (.head _)), (fp_own h)⟩) (fun h => ⟨_, (.tail _ (.tail _ (.head _))), h⟩))) (fun h => (fpl_cons h).elim (fun h => (h.elim (fun h => ⟨_, (.tail _ (.tail _ (.tail _ (.head _)))), (fp_own h)⟩) (fun h => ⟨_, (.tail _ (.tail _ (.tail _ (.tail _ (.head _))))), h⟩))) (fun h => by obtain ⟨_, hy, _⟩ := h; cases hy)))), trivial⟩, trivial⟩) (fun u6 g => (fams_cons fam_ow fams_nil)) (.inr (fun u6 g => (famx_cons trivial (fun K h => by cases h)))) (fun h => by cases h) (hloc := fun u u' h => ⟨by first | rfl | simp only [h 2 (by decide)], by first | rfl | simp only [h 2 (by decide)], by first | rfl | simp only [h 2 (by decide)], by first | rfl | simp only [h 2 (by decide)], by first | rfl | simp only [h 2 (by decide)], by first | rfl | simp only [h 2 (by decide)]⟩)) <|
   .cons [19] (ok_val (fun u6 => .tuple #[.slice ((u6 4).o 0) t7.1.length ((u6 4).n 0), vI t7.2]) 19) <|
   .cons [25] (ok_val (fun u6 => .slice ((u6 4).o 0) t7.1.length ((u6 4).n 0)) 25) <|
   .v 26 (vI t7.2) <|
   .cons [5] (ok_val (fun u6 => .slice ((u6 4).o 0) t7.1.length ((u6 4).n 0)) 5) <|
   .v 6 (vI t7.2) <| .nil) fun u6 a w' H => ?_
 replace H := H.kp [1, 2, 3, 4, 5, 6, 71, 72, 73, 74, 75, 76, 78, 999999]
 refine k_seq ?_
 replace G := bnd G; obtain ⟨t9, ht9, G⟩ := G
 refine k_rg mixed H (.cons [28] (ok_ld (fun u8 => .agg #[vI t3.1.Id, .slice ((u2 1).o 0) (((u2 1).dl er_TSegment gd_TSegment 0 t3.1.Segs).length) ((u2 1).n 0)]) 28 73 0 2 (fun u8 => ((u2 5).n 0)) (fun u8 => [vI t3.1.Id, .slice ((u2 1).o 0) (((u2 1).dl er_TSegment gd_TSegment 0 t3.1.Segs).length) ((u2 1).n 0)]) 78) <|
   .cons [29] (ok_ld (fun u8 => .agg #[vI t5.1.Id, .slice ((u4 1).o 0) (((u4 1).dl er_TSegment gd_TSegment 0 t5.1.Segs).length) ((u4 1).n 0)]) 29 76 0 2 (fun u8 => ((u4 5).n 0)) (fun u8 => [vI t5.1.Id, .slice ((u4 1).o 0) (((u4 1).dl er_TSegment gd_TSegment 0 t5.1.Segs).length) ((u4 1).n 0)]) 78) <|
   .cons [30, 79] (ok_blkrow 2 2 (ok_new (fun b => .slice (some ⟨b, 0, none⟩) 2 2) (fun u8 => [vI t3.1.Id, .slice ((u2 1).o 0) (((u2 1).dl er_TSegment gd_TSegment 0 t3.1.Segs).length) ((u2 1).n 0), vI t5.1.Id, .slice ((u4 1).o 0) (((u4 1).dl er_TSegment gd_TSegment 0 t5.1.Segs).length) ((u4 1).n 0)]) 78 30 79) (fun _ => rfl) (by decide)) <|
   .v 31 (.agg #[vI 1, vI 327680]) <|
   .cons [32, 80] (ok_callY false fr [2] [79, 71, 72, 74, 75] (fun u8 => [owK 78 2 (some ⟨((u8 2).n 0), 0, none⟩) 2 2 (([(⟨t3.1.Id, ⟨((u2 1).o 0), ((u2 1).n 0), ((u2 1).dl er_TSegment gd_TSegment 0 t3.1.Segs)⟩⟩ : G_TTrajectory), (⟨t5.1.Id, ⟨((u4 1).o 0), ((u4 1).n 0), ((u4 1).dl er_TSegment gd_TSegment 0 t5.1.Segs)⟩⟩ : G_TTrajectory)] : List G_TTrajectory).flatMap en_TTrajectory), owK 63 6 ((u2 1).o 0) (((u2 1).dl er_TSegment gd_TSegment 0 t3.1.Segs).length) ((u2 1).n 0) (((u2 1).dl er_TSegment gd_TSegment 0 t3.1.Segs).flatMap en_TSegment), dnK fr E_TSegment.toPart ((u2 1).dl er_TSegment gd_TSegment 0 t3.1.Segs), owK 63 6 ((u4 1).o 0) (((u4 1).dl er_TSegment gd_TSegment 0 t5.1.Segs).length) ((u4 1).n 0) (((u4 1).dl er_TSegment gd_TSegment 0 t5.1.Segs).flatMap en_TSegment), dnK fr E_TSegment.toPart ((u4 1).dl er_TSegment gd_TSegment 0 t5.1.Segs)]) [] (fun u8 => []) 24 (fun u8 => #[.slice (some ⟨((u8 2).n 0), 0, none⟩) 2 2, .agg #[vI 1, vI 327680]]) (fun u8 => [rdF anyF 2 (some ⟨((u8 2).n 0), 0, none⟩) 2 2 (([(⟨t3.1.Id, ⟨((u2 1).o 0), ((u2 1).n 0), ((u2 1).dl er_TSegment gd_TSegment 0 t3.1.Segs)⟩⟩ : G_TTrajectory), (⟨t5.1.Id, ⟨((u4 1).o 0), ((u4 1).n 0), ((u4 1).dl er_TSegment gd_TSegment 0 t5.1.Segs)⟩⟩ : G_TTrajectory)] : List G_TTrajectory).flatMap en_TTrajectory), dnK anyF E_TTrajectory.toPart ([(⟨t3.1.Id, ⟨((u2 1).o 0), ((u2 1).n 0), ((u2 1).dl er_TSegment gd_TSegment 0 t3.1.Segs)⟩⟩ : G_TTrajectory), (⟨t5.1.Id, ⟨((u4 1).o 0), ((u4 1).n 0), ((u4 1).dl er_TSegment gd_TSegment 0 t5.1.Segs)⟩⟩ : G_TTrajectory)] : List G_TTrajectory)]) (fun u8 => []) (fun u8 g => .tuple #[.slice (g.o 0) t9.1.length (g.n 0), vI t9.2]) (fun u8 g => [fun _ => owK 88 5 (g.o 0) t9.1.length (g.n 0) (t9.1.flatMap en_TVerdict)]) [80] 32 (fun u8 w hB hF hM => screening_Screen.calls k0 ([(⟨t3.1.Id, t3.1.Segs⟩ : TTrajectory), (⟨t5.1.Id, t5.1.Segs⟩ : TTrajectory)] : List TTrajectory) (⟨1, 327680⟩ : TSeparation) (some ⟨((u8 2).n 0), 0, none⟩) 2 ([(⟨t3.1.Id, ⟨((u2 1).o 0), ((u2 1).n 0), ((u2 1).dl er_TSegment gd_TSegment 0 t3.1.Segs)⟩⟩ : G_TTrajectory), (⟨t5.1.Id, ⟨((u4 1).o 0), ((u4 1).n 0), ((u4 1).dl er_TSegment gd_TSegment 0 t5.1.Segs)⟩⟩ : G_TTrajectory)] : List G_TTrajectory) t9 w (show ([(⟨t3.1.Id, t3.1.Segs⟩ : TTrajectory), (⟨t5.1.Id, t5.1.Segs⟩ : TTrajectory)] : List TTrajectory) = List.map er_TTrajectory ([(⟨t3.1.Id, ⟨((u2 1).o 0), ((u2 1).n 0), ((u2 1).dl er_TSegment gd_TSegment 0 t3.1.Segs)⟩⟩ : G_TTrajectory), (⟨t5.1.Id, ⟨((u4 1).o 0), ((u4 1).n 0), ((u4 1).dl er_TSegment gd_TSegment 0 t5.1.Segs)⟩⟩ : G_TTrajectory)] : List G_TTrajectory) from by show ([(⟨t3.1.Id, t3.1.Segs⟩ : TTrajectory), (⟨t5.1.Id, t5.1.Segs⟩ : TTrajectory)] : List TTrajectory) = ([(⟨t3.1.Id, List.map er_TSegment ((u2 1).dl er_TSegment gd_TSegment 0 t3.1.Segs)⟩ : TTrajectory), (⟨t5.1.Id, List.map er_TSegment ((u4 1).dl er_TSegment gd_TSegment 0 t5.1.Segs)⟩ : TTrajectory)] : List TTrajectory); rw [← (dl_er ergd_TSegment (u2 1) 0 t3.1.Segs), ← (dl_er ergd_TSegment (u4 1) 0 t5.1.Segs)]) hB ht9) (fun u8 w hF => ⟨⟨sub_rd0 (owns_rowC (ow_of hF.1)) (fun j h => ⟨_, (.head _), (fp_own h)⟩), sub_dn0 (E := E_TTrajectory.toPart) (L := ([(⟨t3.1.Id, ⟨((u2 1).o 0), ((u2 1).n 0), ((u2 1).dl er_TSegment gd_TSegment 0 t3.1.Segs)⟩⟩ : G_TTrajectory), (⟨t5.1.Id, ⟨((u4 1).o 0), ((u4 1).n 0), ((u4 1).dl er_TSegment gd_TSegment 0 t5.1.Segs)⟩⟩ : G_TTrajectory)] : List G_TTrajectory)) (rdl_cons ⟨(owns_rowC (ow_of hF.2.1)), (dn_of hF.2.2.1)⟩ (rdl_cons ⟨(owns_rowC (ow_of hF.2.2.2.1)), (dn_of hF.2.2.2.2.1)⟩ rdl_nil)) (fun j => (fun h => (fpl_cons h).elim (fun h => (h.elim (fun h => ⟨_, (.tail _ (.head _)), (fp_own h)⟩) (fun h => ⟨_, (.tail _ (.tail _ (.head _))), h⟩))) (fun h => (fpl_cons h).elim (fun h => (h.elim (fun h => ⟨_, (.tail _ (.tail _ (.tail _ (.head _)))), (fp_own h)⟩) (fun h => ⟨_, (.tail _ (.tail _ (.tail _ (.tail _ (.head _))))), h⟩))) (fun h => by obtain ⟨_, hy, _⟩ := h; cases hy)))), trivial⟩, trivial⟩) (fun u8 g => (fams_cons fam_ow fams_nil)) (.inr (fun u8 g => (famx_cons trivial (fun K h => by cases h)))) (fun h => by cases h) (hloc := fun u u' h => ⟨by first | rfl | simp only [h 2 (by decide)], by first | rfl | simp only [h 2 (by decide)], by first | rfl | simp only [h 2 (by decide)], by first | rfl | simp only [h 2 (by decide)], by first | rfl | simp only [h 2 (by decide)], by first | rfl | simp only [h 2 (by decide)]⟩)) <|
   .cons [27] (ok_val (fun u8 => .tuple #[.slice ((u8 4).o 0) t9.1.length ((u8 4).n 0), vI t9.2]) 27) <|
   .cons [33] (ok_val (fun u8 => .slice ((u8 4).o 0) t9.1.length ((u8 4).n 0)) 33) <|
   .v 34 (vI t9.2) <|
   .cons [7] (ok_val (fun u8 => .slice ((u8 4).o 0) t9.1.length ((u8 4).n 0)) 7) <|
   .v 8 (vI t9.2) <| .nil) fun u8 a w' H => ?_
 replace H := H.kp [2, 4, 5, 6, 7, 8, 78, 80, 999999]
 refine k_seq ?_
 replace G := gd G; obtain ⟨b11, G⟩ := G
 replace G := bnd G; obtain ⟨t12, ht12, G⟩ := G
 replace G := bnd G; obtain ⟨z13, hz13, G⟩ := G
 replace hz13 := Option.some.inj hz13
 replace G := gd G; obtain ⟨b14, G⟩ := G
 replace G := bnd G; obtain ⟨t15, ht15, G⟩ := G
 refine k_rg mixed H (.v 35 (.bool t3.2) <|
   .v 36 (.bool t3.2) <|
   .cons [37] (ok_valg (fun u10 => .bool t5.2) (fun u10 => (t3.2 == true)) [true] 37) <|
   .cons [38] (ok_and 36 37 (fun u10 => true) (fun u10 => true) (fun u10 => t3.2) (fun u10 => t5.2) 38) <|
   .v 39 (.bool (t3.2 && t5.2)) <|
   .cons [40] (ok_valg (fun u10 => vI t7.2) (fun u10 => ((t3.2 && t5.2) == true)) [true] 40) <|
   .cons [41] (ok_valg (fun u10 => .bool (t7.2 == 0)) (fun u10 => ((t3.2 && t5.2) == true)) [false, true] 41) <|
   .cons [42] (ok_and 39 41 (fun u10 => true) (fun u10 => true) (fun u10 => (t3.2 && t5.2)) (fun u10 => (t7.2 == 0)) 42) <|
   .v 43 (.bool ((t3.2 && t5.2) && (t7.2 == 0))) <|
   .cons [44] (ok_valg (fun u10 => vI t9.2) (fun u10 => (((t3.2 && t5.2) && (t7.2 == 0)) == true)) [true] 44) <|
   .cons [45] (ok_valg (fun u10 => .bool (t9.2 == 0)) (fun u10 => (((t3.2 && t5.2) && (t7.2 == 0)) == true)) [false, true] 45) <|
   .cons [46] (ok_and 43 45 (fun u10 => true) (fun u10 => true) (fun u10 => ((t3.2 && t5.2) && (t7.2 == 0))) (fun u10 => (t9.2 == 0)) 46) <|
   .v 47 (.bool (((t3.2 && t5.2) && (t7.2 == 0)) && (t9.2 == 0))) <|
   .cons [48] (ok_valg (fun u10 => .slice ((u6 4).o 0) t7.1.length ((u6 4).n 0)) (fun u10 => ((((t3.2 && t5.2) && (t7.2 == 0)) && (t9.2 == 0)) == true)) [true] 48) <|
   .cons [49] (ok_valg (fun u10 => vI (t7.1.length : Int)) (fun u10 => ((((t3.2 && t5.2) && (t7.2 == 0)) && (t9.2 == 0)) == true)) [false] 49) <|
   .cons [50] (ok_valg (fun u10 => .bool ((t7.1.length : Int) == 1)) (fun u10 => ((((t3.2 && t5.2) && (t7.2 == 0)) && (t9.2 == 0)) == true)) [false, true] 50) <|
   .cons [51] (ok_and 47 50 (fun u10 => true) (fun u10 => true) (fun u10 => (((t3.2 && t5.2) && (t7.2 == 0)) && (t9.2 == 0))) (fun u10 => ((t7.1.length : Int) == 1)) 51) <|
   .v 52 (.bool ((((t3.2 && t5.2) && (t7.2 == 0)) && (t9.2 == 0)) && ((t7.1.length : Int) == 1))) <|
   .cons [53] (ok_valg (fun u10 => .slice ((u6 4).o 0) t7.1.length ((u6 4).n 0)) (fun u10 => (((((t3.2 && t5.2) && (t7.2 == 0)) && (t9.2 == 0)) && ((t7.1.length : Int) == 1)) == true)) [true] 53) <|
   .cons [54] (ok_valL [78] (fun u10 => [owK 88 5 ((u6 4).o 0) t7.1.length ((u6 4).n 0) (t7.1.flatMap en_TVerdict)]) (fun u10 => .pointer (some ⟨hdB ((u6 4).o 0), hdO ((u6 4).o 0) + ((0 : Int).toNat) * 5, none⟩)) (fun u10 => (((((t3.2 && t5.2) && (t7.2 == 0)) && (t9.2 == 0)) && ((t7.1.length : Int) == 1)) == true)) [false, true] 54 (fun u10 w hg hF => ix_row (t := 81) (k := .i64) (i := (0 : Int)) (p := ((u6 4).o 0)) (n := t7.1.length) (cap := ((u6 4).n 0)) (x := t7.1) (en := en_TVerdict) (owns_rowC (ow_of hF.1)).2 en_TVerdict_len rfl (b11 hg) (by kernel_rfl))) <|
   .cons [55] (ok_valg (fun u10 => .pointer (some ⟨hdB ((u6 4).o 0), hdO ((u6 4).o 0) + ((0 : Int).toNat) * 5 + 2, none⟩)) (fun u10 => (((((t3.2 && t5.2) && (t7.2 == 0)) && (t9.2 == 0)) && ((t7.1.length : Int) == 1)) == true)) [false] 55) <|
   .cons [56] (ok_valL [78] (fun u10 => [owK 88 5 ((u6 4).o 0) t7.1.length ((u6 4).n 0) (t7.1.flatMap en_TVerdict)]) (fun u10 => vI t12.Kind) (fun u10 => (((((t3.2 && t5.2) && (t7.2 == 0)) && (t9.2 == 0)) && ((t7.1.length : Int) == 1)) == true)) [false] 56 (fun u10 w hg hF => ld_row (en := en_TVerdict) (owns_rowC (ow_of hF.1)).2 en_TVerdict_len (ifp ht12 hg) 2 1 [vI t12.Kind] rfl (by kernel_rfl))) <|
   .cons [57] (ok_valg (fun u10 => .bool (t12.Kind == 1)) (fun u10 => (((((t3.2 && t5.2) && (t7.2 == 0)) && (t9.2 == 0)) && ((t7.1.length : Int) == 1)) == true)) [false, true] 57) <|
   .cons [58] (ok_and 52 57 (fun u10 => true) (fun u10 => true) (fun u10 => ((((t3.2 && t5.2) && (t7.2 == 0)) && (t9.2 == 0)) && ((t7.1.length : Int) == 1))) (fun u10 => (t12.Kind == 1)) 58) <|
   .cons [59] (ok_as (u' := fun u10 => [(59, sB z13)]) (ok_val (fun u10 => .bool (((((t3.2 && t5.2) && (t7.2 == 0)) && (t9.2 == 0)) && ((t7.1.length : Int) == 1)) && (t12.Kind == 1))) 59) (fun _ => by rw [← hz13])) <|
   .cons [60] (ok_valg (fun u10 => .slice ((u8 4).o 0) t9.1.length ((u8 4).n 0)) (fun u10 => (z13 == true)) [true] 60) <|
   .cons [61] (ok_valg (fun u10 => vI (t9.1.length : Int)) (fun u10 => (z13 == true)) [false] 61) <|
   .cons [62] (ok_valg (fun u10 => .bool ((t9.1.length : Int) == 1)) (fun u10 => (z13 == true)) [false, true] 62) <|
   .cons [63] (ok_and 59 62 (fun u10 => true) (fun u10 => true) (fun u10 => z13) (fun u10 => ((t9.1.length : Int) == 1)) 63) <|
   .v 64 (.bool (z13 && ((t9.1.length : Int) == 1))) <|
   .cons [65] (ok_valg (fun u10 => .slice ((u8 4).o 0) t9.1.length ((u8 4).n 0)) (fun u10 => ((z13 && ((t9.1.length : Int) == 1)) == true)) [true] 65) <|
   .cons [66] (ok_valL [80] (fun u10 => [owK 88 5 ((u8 4).o 0) t9.1.length ((u8 4).n 0) (t9.1.flatMap en_TVerdict)]) (fun u10 => .pointer (some ⟨hdB ((u8 4).o 0), hdO ((u8 4).o 0) + ((0 : Int).toNat) * 5, none⟩)) (fun u10 => ((z13 && ((t9.1.length : Int) == 1)) == true)) [false, true] 66 (fun u10 w hg hF => ix_row (t := 81) (k := .i64) (i := (0 : Int)) (p := ((u8 4).o 0)) (n := t9.1.length) (cap := ((u8 4).n 0)) (x := t9.1) (en := en_TVerdict) (owns_rowC (ow_of hF.1)).2 en_TVerdict_len rfl (b14 hg) (by kernel_rfl))) <|
   .cons [67] (ok_valg (fun u10 => .pointer (some ⟨hdB ((u8 4).o 0), hdO ((u8 4).o 0) + ((0 : Int).toNat) * 5 + 2, none⟩)) (fun u10 => ((z13 && ((t9.1.length : Int) == 1)) == true)) [false] 67) <|
   .cons [68] (ok_valL [80] (fun u10 => [owK 88 5 ((u8 4).o 0) t9.1.length ((u8 4).n 0) (t9.1.flatMap en_TVerdict)]) (fun u10 => vI t15.Kind) (fun u10 => ((z13 && ((t9.1.length : Int) == 1)) == true)) [false] 68 (fun u10 w hg hF => ld_row (en := en_TVerdict) (owns_rowC (ow_of hF.1)).2 en_TVerdict_len (ifp ht15 hg) 2 1 [vI t15.Kind] rfl (by kernel_rfl))) <|
   .cons [69] (ok_valg (fun u10 => .bool (t15.Kind == (-1))) (fun u10 => ((z13 && ((t9.1.length : Int) == 1)) == true)) [false, true] 69) <|
   .cons [70] (ok_and 64 69 (fun u10 => true) (fun u10 => true) (fun u10 => (z13 && ((t9.1.length : Int) == 1))) (fun u10 => (t15.Kind == (-1))) 70) <|
   .v 0 (.bool ((z13 && ((t9.1.length : Int) == 1)) && (t15.Kind == (-1)))) <| .nil) fun u10 a w' H => ?_
 replace H := H.kp [0, 999999]
 refine k_ret ?_
 obtain rfl := Option.some.inj G
 exact k_done0 H _ (by kernel_rfl) (by kernel_rfl)
theorem armillarytop_distance24.calls (a0 : TBody) (a1 : TBody) (a2 : Int) (r : Int) (w : World) (G : armillarytop_distance24 a0 a1 a2 = some r) :
  Calls Tryz.prog 25 #[.agg #[.int .i32 a0.X, .int .i16 a0.V], .agg #[.int .i32 a1.X, .int .i16 a1.V], .int .u16 a2] w fun e w' => e = .returned (vI r) ∧ Below w.heap.size w w' := by
 refine k_enter (args := [.agg #[.int .i32 a0.X, .int .i16 a0.V], .agg #[.int .i32 a1.X, .int .i16 a1.V], .int .u16 a2]) 34 Tryz.func25 rfl (by kernel_rfl) (by kernel_rfl) fun a H => ?_
 unfold armillarytop_distance24 at G
 refine k_srk mixed H (.cons [3, 34] (ok_new (fun b => vP b 0) (fun u1 => [.int .i32 a0.X, .int .i16 a0.V]) 75 3 34) <|
 .cons [4, 35] (ok_new (fun b => vP b 0) (fun u1 => [.int .i32 a1.X, .int .i16 a1.V]) 75 4 35) <|
 .v 6 (vI 0) <| .nil) [2, 3, 4, 34, 35] fun u1 a w' H => ?_
 obtain ⟨z3, hz3, G⟩ := bnd G
 replace hz3 := Option.some.inj hz3
 refine k_srk mixed H (.v 8 (vP ((u1 0).n 0) 0) <|
 .cons [9] (ok_ldc (.int .i32 a0.X) 9 34 0 1 ((u1 0).n 0) [.int .i32 a0.X, .int .i16 a0.V] 75) <|
 .v 10 (.int .i32 (Int.tmod a0.X 4194304)) <|
 .v 11 (vI (w_i64 (Int.tmod a0.X 4194304))) <|
 .v 12 (vP ((u1 1).n 0) 0) <|
 .cons [13] (ok_ldc (.int .i32 a1.X) 13 35 0 1 ((u1 1).n 0) [.int .i32 a1.X, .int .i16 a1.V] 75) <|
 .v 14 (.int .i32 (Int.tmod a1.X 4194304)) <|
 .v 15 (vI (w_i64 (Int.tmod a1.X 4194304))) <|
 .v 16 (vI (w_i64 ((w_i64 (Int.tmod a0.X 4194304)) - (w_i64 (Int.tmod a1.X 4194304))))) <|
 .cons [17] (ok_as (u' := fun u2 => [(17, sI z3)]) (ok_val (fun u2 => vI (w_i64 ((w_i64 ((w_i64 (Int.tmod a0.X 4194304)) - (w_i64 (Int.tmod a1.X 4194304)))) * 65535))) 17) (fun _ => by rw [← hz3])) <|
 .v 18 (vP ((u1 0).n 0) 1) <|
 .cons [19] (ok_ldc (.int .i16 a0.V) 19 34 1 1 ((u1 0).n 0) [.int .i32 a0.X, .int .i16 a0.V] 75) <|
 .v 20 (vI (w_i64 a0.V)) <|
 .v 21 (vP ((u1 1).n 0) 1) <|
 .cons [22] (ok_ldc (.int .i16 a1.V) 22 35 1 1 ((u1 1).n 0) [.int .i32 a1.X, .int .i16 a1.V] 75) <|
 .v 23 (vI (w_i64 a1.V)) <|
 .v 24 (vI (w_i64 ((w_i64 a0.V) - (w_i64 a1.V)))) <|
 .v 25 (vI (w_i64 ((w_i64 ((w_i64 a0.V) - (w_i64 a1.V))) * 16))) <|
 .v 26 (.int .u16 a2) <|
 .v 27 (vI (w_i64 a2)) <|
 .v 28 (vI (w_i64 ((w_i64 ((w_i64 ((w_i64 a0.V) - (w_i64 a1.V))) * 16)) * (w_i64 a2)))) <|
 .v 29 (vI (w_i64 (z3 + (w_i64 ((w_i64 ((w_i64 ((w_i64 a0.V) - (w_i64 a1.V))) * 16)) * (w_i64 a2)))))) <|
 .v 7 (vI (w_i64 (z3 + (w_i64 ((w_i64 ((w_i64 ((w_i64 a0.V) - (w_i64 a1.V))) * 16)) * (w_i64 a2)))))) <| .nil) [7] fun u2 a w' H => ?_
 obtain ⟨z5, hz5, G⟩ := bnd G
 replace hz5 := Option.some.inj hz5
 obtain ⟨z6, hz6, G⟩ := bnd G
 replace hz6 := Option.some.inj hz6
 refine k_srk mixed H (.v 30 (vI (w_i64 (z3 + (w_i64 ((w_i64 ((w_i64 ((w_i64 a0.V) - (w_i64 a1.V))) * 16)) * (w_i64 a2)))))) <|
 .v 31 (vI (w_i64 (z3 + (w_i64 ((w_i64 ((w_i64 ((w_i64 a0.V) - (w_i64 a1.V))) * 16)) * (w_i64 a2)))))) <|
 .cons [32] (ok_as (u' := fun u4 => [(32, sI z5)]) (ok_val (fun u4 => vI (w_i64 (0 - (w_i64 (z3 + (w_i64 ((w_i64 ((w_i64 ((w_i64 a0.V) - (w_i64 a1.V))) * 16)) * (w_i64 a2)))))))) 32) (fun _ => by rw [← hz5])) <|
 .cons [33] (ok_as (u' := fun u4 => [(33, sI z6)]) (ok_val (fun u4 => vI (mx (w_i64 (z3 + (w_i64 ((w_i64 ((w_i64 ((w_i64 a0.V) - (w_i64 a1.V))) * 16)) * (w_i64 a2))))) z5)) 33) (fun _ => by rw [← hz6])) <|
 .v 6 (vI z6) <| .nil) [6] fun u4 a w' H => ?_
 refine k_ret ?_
 obtain rfl := sj G
 exact k_done0 H _ (by kernel_rfl) (by kernel_rfl)
end Go.Proofs.YtpmgpcklieincaaGreatDoor
