/- Each function of the program answers as the plain Lean function of its name (part 2). Printed by a program of this session. -/
import Derived.Test.YtgccinodonkgjaaFn1
set_option linter.unusedVariables false
set_option maxRecDepth 100000
namespace Go.Proofs.Ytgccinodonkgjaa
open Go Go.RowKit Go.Sx Go.Proofs
set_option maxHeartbeats 4000000 in
theorem armillaryref03_Subset.calls (k0 : Nat) (a0 : List TInterval) (a1 : List TInterval) (p_a0 : Option Addr) (c_a0 : Nat) (p_a1 : Option Addr) (c_a1 : Nat) (r : Bool) (w : World) (R_p_a0 : RowAt w 2 p_a0 a0.length (a0.flatMap en_TInterval)) (R_p_a1 : RowAt w 2 p_a1 a1.length (a1.flatMap en_TInterval)) (G : armillaryref03_Subset k0 a0 a1 = some r) :
    Calls Try.prog 24 #[.slice p_a0 a0.length c_a0, .slice p_a1 a1.length c_a1] w fun e w' => e = .returned (.bool r) ∧ Below w.heap.size w w' := by
  refine k_enterF (args := [.slice p_a0 a0.length c_a0, .slice p_a1 a1.length c_a1]) 22 [(22, rdK 2 p_a0 a0.length (a0.flatMap en_TInterval)), (23, rdK 2 p_a1 a1.length (a1.flatMap en_TInterval))] (by
    intro x hx
    simp only [List.mem_cons, List.not_mem_nil, or_false] at hx
    rcases hx with rfl | rfl
    · exact rd_fact R_p_a0 (by decide) _
    · exact rd_fact R_p_a1 (by decide) _) Try.func24 rfl (by kernel_rfl) (by kernel_rfl) fun a H => ?_
  unfold armillaryref03_Subset at G
  refine k_seq ?_
  refine k_reg mixed H (.cons [4] (ok_val (fun ν1 => .bool false) 4) <| .nil) (by kernel_rfl) fun ν1 a w' H => ?_
  replace H := H.toL [(0, .slot true (.slice p_a0 a0.length c_a0)), (1, .slot true (.slice p_a1 a1.length c_a1)), (4, .slot true (.bool false)), (22, rdK 2 p_a0 a0.length (a0.flatMap en_TInterval)), (23, rdK 2 p_a1 a1.length (a1.flatMap en_TInterval))] (by kernel_rfl)
  refine k_seq ?_
  replace G := bnd G; obtain ⟨j2, hj2, Gj2⟩ := G
  refine k_join (fun a w' => ∃ j2v, j2 = Sum.inr j2v ∧ Rep w.heap.size w 22 (ofL [(4, .slot true (.bool false))]) a w') ?_ ?_
  · clear H; rintro a w' ⟨j2v, rfl, H⟩; have G := Gj2; clear Gj2; dsimp only at G
    refine k_seq ?_
    refine k_reg mixed H (.cons [4] (ok_val (fun ν3 => .bool true) 4) <| .nil) (by kernel_rfl) fun ν3 a w' H => ?_
    replace H := H.toL [(4, .slot true (.bool true))] (by kernel_rfl)
    refine k_ret ?_
    obtain rfl := Option.some.inj G
    exact k_done0 H _ (by kernel_rfl) (by kernel_rfl)
  · have G := hj2; clear hj2
    refine k_seq ?_
    refine k_reg mixed H (.cons [5] (ok_val (fun ν4 => .int .i64 0) 5) <| .nil) (by kernel_rfl) fun ν4 a w' H => ?_
    replace H := H.toL [(0, .slot true (.slice p_a0 a0.length c_a0)), (1, .slot true (.slice p_a1 a1.length c_a1)), (4, .slot true (.bool false)), (5, .slot true (.int .i64 0)), (22, rdK 2 p_a0 a0.length (a0.flatMap en_TInterval)), (23, rdK 2 p_a1 a1.length (a1.flatMap en_TInterval))] (by kernel_rfl)
    refine k_block ?_
    refine k_loopJ (fun m a w' => ∃ x5 : Int, armillaryref03_Subset.l6 k0 a0 a1 m x5 = some j2 ∧ Rep w.heap.size w 22 (ofL [(0, .slot true (.slice p_a0 a0.length c_a0)), (1, .slot true (.slice p_a1 a1.length c_a1)), (4, .slot true (.bool false)), (5, .slot true (.int .i64 x5)), (22, rdK 2 p_a0 a0.length (a0.flatMap en_TInterval)), (23, rdK 2 p_a1 a1.length (a1.flatMap en_TInterval))]) a w') k0 ⟨_, G, H.toL _ (by kernel_rfl)⟩ ?_
    clear G H
    rintro (_ | k) a w' ⟨x5, G, H⟩
    · exact absurd G (by unfold armillaryref03_Subset.l6; exact fun h => by cases h)
    · unfold armillaryref03_Subset.l6 at G
      refine k_seq ?_
      refine k_seq ?_
      refine k_reg mixed H (.cons [6] (ok_val (fun ν7 => .int .i64 x5) 6) <|
      .cons [7] (ok_val (fun ν7 => .slice p_a0 a0.length c_a0) 7) <|
      .cons [8] (ok_val (fun ν7 => .int .i64 (a0.length : Int)) 8) <|
      .cons [9] (ok_val (fun ν7 => .bool (decide (x5 < (a0.length : Int)))) 9) <| .nil) (by kernel_rfl) fun ν7 a w' H => ?_
      replace H := H.toL [(0, .slot true (.slice p_a0 a0.length c_a0)), (1, .slot true (.slice p_a1 a1.length c_a1)), (4, .slot true (.bool false)), (5, .slot true (.int .i64 x5)), (6, .slot true (.int .i64 x5)), (7, .slot true (.slice p_a0 a0.length c_a0)), (8, .slot true (.int .i64 (a0.length : Int))), (9, .slot true (.bool (decide (x5 < (a0.length : Int))))), (22, rdK 2 p_a0 a0.length (a0.flatMap en_TInterval)), (23, rdK 2 p_a1 a1.length (a1.flatMap en_TInterval))] (by kernel_rfl)
      refine k_cond H (by kernel_rfl) (t := decide (x5 < (a0.length : Int))) (by kernel_rfl) (fun c17 => ?_) (fun c17 => ?_)
      · rw [if_pos c17] at G
        refine k_skip ?_
        refine k_seq ?_
        refine k_block ?_
        refine k_seq ?_
        replace G := gd G; obtain ⟨b9, G⟩ := G
        replace G := bnd G; obtain ⟨t10, ht10, G⟩ := G
        replace G := gd G; obtain ⟨b11, G⟩ := G
        replace G := bnd G; obtain ⟨t12, ht12, G⟩ := G
        replace G := bnd G; obtain ⟨t13, ht13, G⟩ := G
        refine k_reg mixed H (.cons [12] (ok_val (fun ν8 => .slice p_a0 a0.length c_a0) 12) <|
      .cons [13] (ok_val (fun ν8 => .int .i64 x5) 13) <|
      .cons [14] (ok_valL [22] (fun ν8 => [rdK 2 p_a0 a0.length (a0.flatMap en_TInterval)]) (fun ν8 => .pointer (some ⟨hdB p_a0, hdO p_a0 + x5.toNat * 2, none⟩)) (fun ν8 => true) [true, true] 14 (fun ν8 w hg hF => run_of (by kernel_rfl) (run_ix (t := 22) (p := p_a0) (n := a0.length) (cap := c_a0) (k := .i64) (i := x5) (sz := 2) (by kernel_rfl) (by kernel_rfl) (rd_of hF.1) b9))) <|
      .cons [15] (ok_valL [22] (fun ν8 => [rdK 2 p_a0 a0.length (a0.flatMap en_TInterval)]) (fun ν8 => .agg #[.int .i64 t10.Lo, .int .i64 t10.Hi]) (fun ν8 => true) [true] 15 (fun ν8 w hg hF => ld_of (vs := [.int .i64 t10.Lo, .int .i64 t10.Hi]) (b := hdB p_a0) (off := hdO p_a0 + x5.toNat * 2 + 0) (m := 2) (by kernel_rfl) (el_cells (rd_of hF.1) en_TInterval_len ht10 0 2 rfl))) <|
      .cons [16] (ok_val (fun ν8 => .slice p_a1 a1.length c_a1) 16) <|
      .cons [17] (ok_val (fun ν8 => .int .i64 x5) 17) <|
      .cons [18] (ok_valL [23] (fun ν8 => [rdK 2 p_a1 a1.length (a1.flatMap en_TInterval)]) (fun ν8 => .pointer (some ⟨hdB p_a1, hdO p_a1 + x5.toNat * 2, none⟩)) (fun ν8 => true) [true, true] 18 (fun ν8 w hg hF => run_of (by kernel_rfl) (run_ix (t := 22) (p := p_a1) (n := a1.length) (cap := c_a1) (k := .i64) (i := x5) (sz := 2) (by kernel_rfl) (by kernel_rfl) (rd_of hF.1) b11))) <|
      .cons [19] (ok_valL [23] (fun ν8 => [rdK 2 p_a1 a1.length (a1.flatMap en_TInterval)]) (fun ν8 => .agg #[.int .i64 t12.Lo, .int .i64 t12.Hi]) (fun ν8 => true) [true] 19 (fun ν8 w hg hF => ld_of (vs := [.int .i64 t12.Lo, .int .i64 t12.Hi]) (b := hdB p_a1) (off := hdO p_a1 + x5.toNat * 2 + 0) (m := 2) (by kernel_rfl) (el_cells (rd_of hF.1) en_TInterval_len ht12 0 2 rfl))) <|
      .cons [20] (ok_callv 62 (fun ν8 => #[.agg #[.int .i64 t10.Lo, .int .i64 t10.Hi], .agg #[.int .i64 t12.Lo, .int .i64 t12.Hi]]) (.bool t13) 20 [] (fun _ w _ => armillaryref02_Subset.calls t10 t12 t13 w ht13)) <|
      .cons [21] (ok_val (fun ν8 => .bool (!t13)) 21) <| .nil) (by kernel_rfl) fun ν8 a w' H => ?_
        replace H := H.toL [(0, .slot true (.slice p_a0 a0.length c_a0)), (1, .slot true (.slice p_a1 a1.length c_a1)), (4, .slot true (.bool false)), (5, .slot true (.int .i64 x5)), (6, .slot true (.int .i64 x5)), (7, .slot true (.slice p_a0 a0.length c_a0)), (8, .slot true (.int .i64 (a0.length : Int))), (9, .slot true (.bool (decide (x5 < (a0.length : Int))))), (12, .slot true (.slice p_a0 a0.length c_a0)), (13, .slot true (.int .i64 x5)), (14, .slot true (.pointer (some ⟨hdB p_a0, hdO p_a0 + x5.toNat * 2, none⟩))), (15, .slot true (.agg #[.int .i64 t10.Lo, .int .i64 t10.Hi])), (16, .slot true (.slice p_a1 a1.length c_a1)), (17, .slot true (.int .i64 x5)), (18, .slot true (.pointer (some ⟨hdB p_a1, hdO p_a1 + x5.toNat * 2, none⟩))), (19, .slot true (.agg #[.int .i64 t12.Lo, .int .i64 t12.Hi])), (20, .slot true (.bool t13)), (21, .slot true (.bool (!t13))), (22, rdK 2 p_a0 a0.length (a0.flatMap en_TInterval)), (23, rdK 2 p_a1 a1.length (a1.flatMap en_TInterval))] (by kernel_rfl)
        refine k_cond H (by kernel_rfl) (t := (!t13)) (by kernel_rfl) (fun c16 => ?_) (fun c16 => ?_)
        · rw [if_pos c16] at G
          refine k_seq ?_
          refine k_reg mixed H (.cons [4] (ok_val (fun ν14 => .bool false) 4) <| .nil) (by kernel_rfl) fun ν14 a w' H => ?_
          replace H := H.toL [(0, .slot true (.slice p_a0 a0.length c_a0)), (1, .slot true (.slice p_a1 a1.length c_a1)), (4, .slot true (.bool false)), (5, .slot true (.int .i64 x5)), (6, .slot true (.int .i64 x5)), (7, .slot true (.slice p_a0 a0.length c_a0)), (8, .slot true (.int .i64 (a0.length : Int))), (9, .slot true (.bool (decide (x5 < (a0.length : Int))))), (12, .slot true (.slice p_a0 a0.length c_a0)), (13, .slot true (.int .i64 x5)), (14, .slot true (.pointer (some ⟨hdB p_a0, hdO p_a0 + x5.toNat * 2, none⟩))), (15, .slot true (.agg #[.int .i64 t10.Lo, .int .i64 t10.Hi])), (16, .slot true (.slice p_a1 a1.length c_a1)), (17, .slot true (.int .i64 x5)), (18, .slot true (.pointer (some ⟨hdB p_a1, hdO p_a1 + x5.toNat * 2, none⟩))), (19, .slot true (.agg #[.int .i64 t12.Lo, .int .i64 t12.Hi])), (20, .slot true (.bool t13)), (21, .slot true (.bool (!t13))), (22, rdK 2 p_a0 a0.length (a0.flatMap en_TInterval)), (23, rdK 2 p_a1 a1.length (a1.flatMap en_TInterval))] (by kernel_rfl)
          refine k_ret ?_
          obtain rfl := Option.some.inj G
          replace G := Gj2
          obtain rfl := Option.some.inj G
          exact k_done0 H _ (by kernel_rfl) (by kernel_rfl)
        · rw [if_neg (nt c16)] at G
          refine k_skip ?_
          refine k_reg mixed H (.cons [10] (ok_val (fun ν15 => .int .i64 x5) 10) <|
      .cons [11] (ok_val (fun ν15 => .int .i64 (w_i64 (x5 + 1))) 11) <|
      .cons [5] (ok_val (fun ν15 => .int .i64 (w_i64 (x5 + 1))) 5) <| .nil) (by kernel_rfl) fun ν15 a w' H => ?_
          replace H := H.toL [(0, .slot true (.slice p_a0 a0.length c_a0)), (1, .slot true (.slice p_a1 a1.length c_a1)), (4, .slot true (.bool false)), (5, .slot true (.int .i64 (w_i64 (x5 + 1)))), (6, .slot true (.int .i64 x5)), (7, .slot true (.slice p_a0 a0.length c_a0)), (8, .slot true (.int .i64 (a0.length : Int))), (9, .slot true (.bool (decide (x5 < (a0.length : Int))))), (10, .slot true (.int .i64 x5)), (11, .slot true (.int .i64 (w_i64 (x5 + 1)))), (12, .slot true (.slice p_a0 a0.length c_a0)), (13, .slot true (.int .i64 x5)), (14, .slot true (.pointer (some ⟨hdB p_a0, hdO p_a0 + x5.toNat * 2, none⟩))), (15, .slot true (.agg #[.int .i64 t10.Lo, .int .i64 t10.Hi])), (16, .slot true (.slice p_a1 a1.length c_a1)), (17, .slot true (.int .i64 x5)), (18, .slot true (.pointer (some ⟨hdB p_a1, hdO p_a1 + x5.toNat * 2, none⟩))), (19, .slot true (.agg #[.int .i64 t12.Lo, .int .i64 t12.Hi])), (20, .slot true (.bool t13)), (21, .slot true (.bool (!t13))), (22, rdK 2 p_a0 a0.length (a0.flatMap en_TInterval)), (23, rdK 2 p_a1 a1.length (a1.flatMap en_TInterval))] (by kernel_rfl)
          exact ⟨k, Nat.lt_succ_self k, _, G, H.toL _ (by kernel_rfl)⟩
      · rw [if_neg (nt c17)] at G
        refine k_exit rfl ?_
        obtain rfl := Option.some.inj G
        exact ⟨_, rfl, H.toL _ (by kernel_rfl)⟩

set_option maxHeartbeats 4000000 in
theorem armillaryref02_Hull.calls (a0 : TInterval) (a1 : TInterval) (r : TInterval) (w : World) (G : armillaryref02_Hull a0 a1 = some r) :
    Calls Try.prog 64 #[.agg #[.int .i64 a0.Lo, .int .i64 a0.Hi], .agg #[.int .i64 a1.Lo, .int .i64 a1.Hi]] w fun e w' => e = .returned (.agg #[.int .i64 r.Lo, .int .i64 r.Hi]) ∧ Below w.heap.size w w' := by
  refine k_enter (args := [.agg #[.int .i64 a0.Lo, .int .i64 a0.Hi], .agg #[.int .i64 a1.Lo, .int .i64 a1.Hi]]) 16 Try.func64 rfl (by kernel_rfl) (by kernel_rfl) fun a H => ?_
  unfold armillaryref02_Hull at G
  refine k_seq ?_
  refine k_reg mixed H (.cons [2, 16] (ok_new (fun b => .pointer (some ⟨b, 0, none⟩)) (fun ν1 => [.int .i64 a0.Lo, .int .i64 a0.Hi]) 40 2 16) <|
      .cons [3, 17] (ok_new (fun b => .pointer (some ⟨b, 0, none⟩)) (fun ν1 => [.int .i64 a1.Lo, .int .i64 a1.Hi]) 40 3 17) <|
      .cons [4, 18] (ok_new (fun b => .pointer (some ⟨b, 0, none⟩)) (fun ν1 => [.int .i64 0, .int .i64 0]) 40 4 18) <| .nil) (by kernel_rfl) fun ν1 a w' H => ?_
  replace H := H.toL [(2, .slot true (.pointer (some ⟨((ν1 0).n 0), 0, none⟩))), (3, .slot true (.pointer (some ⟨((ν1 1).n 0), 0, none⟩))), (4, .slot true (.pointer (some ⟨((ν1 2).n 0), 0, none⟩))), (16, .blk ((ν1 0).n 0) [.int .i64 a0.Lo, .int .i64 a0.Hi] 40), (17, .blk ((ν1 1).n 0) [.int .i64 a1.Lo, .int .i64 a1.Hi] 40), (18, .blk ((ν1 2).n 0) [.int .i64 0, .int .i64 0] 40)] (by kernel_rfl)
  refine k_seq ?_
  refine k_reg mixed H (.cons [5] (ok_val (fun ν2 => .pointer (some ⟨((ν1 0).n 0), 0, none⟩)) 5) <|
      .cons [6] (ok_ld (fun ν2 => .int .i64 a0.Lo) 6 16 0 1 (fun ν2 => ((ν1 0).n 0)) (fun ν2 => [.int .i64 a0.Lo, .int .i64 a0.Hi]) 40) <|
      .cons [7] (ok_val (fun ν2 => .pointer (some ⟨((ν1 1).n 0), 0, none⟩)) 7) <|
      .cons [8] (ok_ld (fun ν2 => .int .i64 a1.Lo) 8 17 0 1 (fun ν2 => ((ν1 1).n 0)) (fun ν2 => [.int .i64 a1.Lo, .int .i64 a1.Hi]) 40) <|
      .cons [9] (ok_val (fun ν2 => .int .i64 (mn a0.Lo a1.Lo)) 9) <|
      .cons [10] (ok_val (fun ν2 => .pointer (some ⟨((ν1 0).n 0), 1, none⟩)) 10) <|
      .cons [11] (ok_ld (fun ν2 => .int .i64 a0.Hi) 11 16 1 1 (fun ν2 => ((ν1 0).n 0)) (fun ν2 => [.int .i64 a0.Lo, .int .i64 a0.Hi]) 40) <|
      .cons [12] (ok_val (fun ν2 => .pointer (some ⟨((ν1 1).n 0), 1, none⟩)) 12) <|
      .cons [13] (ok_ld (fun ν2 => .int .i64 a1.Hi) 13 17 1 1 (fun ν2 => ((ν1 1).n 0)) (fun ν2 => [.int .i64 a1.Lo, .int .i64 a1.Hi]) 40) <|
      .cons [14] (ok_val (fun ν2 => .int .i64 (mx a0.Hi a1.Hi)) 14) <|
      .cons [15] (ok_val (fun ν2 => .agg #[.int .i64 (mn a0.Lo a1.Lo), .int .i64 (mx a0.Hi a1.Hi)]) 15) <|
      .cons [18] (ok_as (u' := fun ν2 => [(18, .blk ((ν1 2).n 0) [.int .i64 (mn a0.Lo a1.Lo), .int .i64 (mx a0.Hi a1.Hi)] 40)]) (ok_store 18 0 (fun ν2 => ((ν1 2).n 0)) (fun ν2 => [.int .i64 0, .int .i64 0]) (fun ν2 => [.int .i64 (mn a0.Lo a1.Lo), .int .i64 (mx a0.Hi a1.Hi)]) 40) (fun _ => by kernel_rfl)) <| .nil) (by kernel_rfl) fun ν2 a w' H => ?_
  replace H := H.toL [(4, .slot true (.pointer (some ⟨((ν1 2).n 0), 0, none⟩))), (18, .blk ((ν1 2).n 0) [.int .i64 (mn a0.Lo a1.Lo), .int .i64 (mx a0.Hi a1.Hi)] 40)] (by kernel_rfl)
  refine k_ret ?_
  obtain rfl := Option.some.inj G
  exact k_done1 H _ 18 ((ν1 2).n 0) [.int .i64 (mn a0.Lo a1.Lo), .int .i64 (mx a0.Hi a1.Hi)] 40 0 2 (by kernel_rfl) (by kernel_rfl) (by kernel_rfl) (by kernel_rfl)

set_option maxHeartbeats 4000000 in
theorem armillaryref03_Hull.calls (k0 : Nat) (a0 : List TInterval) (a1 : List TInterval) (p_a0 : Option Addr) (c_a0 : Nat) (p_a1 : Option Addr) (c_a1 : Nat) (r : List TInterval) (w : World) (R_p_a0 : RowAt w 2 p_a0 a0.length (a0.flatMap en_TInterval)) (R_p_a1 : RowAt w 2 p_a1 a1.length (a1.flatMap en_TInterval)) (G : armillaryref03_Hull k0 a0 a1 = some r) :
    Calls Try.prog 27 #[.slice p_a0 a0.length c_a0, .slice p_a1 a1.length c_a1] w fun e w' => ∃ p cap, e = .returned (.slice p r.length cap) ∧ Below w.heap.size w w' ∧ w'.ownsRow w.heap.size 40 2 (.slice p r.length cap) r.length (r.flatMap en_TInterval) := by
  refine k_enterF (args := [.slice p_a0 a0.length c_a0, .slice p_a1 a1.length c_a1]) 27 [(27, rdK 2 p_a0 a0.length (a0.flatMap en_TInterval)), (28, rdK 2 p_a1 a1.length (a1.flatMap en_TInterval))] (by
    intro x hx
    simp only [List.mem_cons, List.not_mem_nil, or_false] at hx
    rcases hx with rfl | rfl
    · exact rd_fact R_p_a0 (by decide) _
    · exact rd_fact R_p_a1 (by decide) _) Try.func27 rfl (by kernel_rfl) (by kernel_rfl) fun a H => ?_
  unfold armillaryref03_Hull at G
  refine k_seq ?_
  refine k_reg mixed H (.cons [4] (ok_val (fun ν1 => .slice none 0 0) 4) <| .nil) (by kernel_rfl) fun ν1 a w' H => ?_
  replace H := H.toL [(0, .slot true (.slice p_a0 a0.length c_a0)), (1, .slot true (.slice p_a1 a1.length c_a1)), (4, .slot true (.slice none 0 0)), (27, rdK 2 p_a0 a0.length (a0.flatMap en_TInterval)), (28, rdK 2 p_a1 a1.length (a1.flatMap en_TInterval))] (by kernel_rfl)
  refine k_seq ?_
  refine k_reg mixed H (.cons [7, 29] (ok_new (fun b => .slice (some ⟨b, 0, none⟩) 0 0) (fun ν2 => []) 40 7 29) <|
      .cons [5] (ok_val (fun ν2 => .slice (some ⟨((ν2 0).n 0), 0, none⟩) 0 0) 5) <| .nil) (by kernel_rfl) fun ν2 a w' H => ?_
  replace H := H.toL [(0, .slot true (.slice p_a0 a0.length c_a0)), (1, .slot true (.slice p_a1 a1.length c_a1)), (4, .slot true (.slice none 0 0)), (5, .slot true (.slice (some ⟨((ν2 0).n 0), 0, none⟩) 0 0)), (29, .blk ((ν2 0).n 0) [] 40), (27, rdK 2 p_a0 a0.length (a0.flatMap en_TInterval)), (28, rdK 2 p_a1 a1.length (a1.flatMap en_TInterval))] (by kernel_rfl)
  refine k_seq ?_
  replace G := bnd G; obtain ⟨j4, hj4, G⟩ := G
  refine k_join (fun a w' => ∃ (p_j3 : Option Addr) (c_j3 np_j3 : Nat), np_j3 = j4.length ∧ Rep w.heap.size w 27 (ofL [(4, .slot true (.slice none 0 0)), (5, .slot true (.slice p_j3 np_j3 c_j3)), (29, owK 40 2 p_j3 np_j3 c_j3 (j4.flatMap en_TInterval))]) a w') ?_ ?_
  · clear H; rintro a w' ⟨p_j3, c_j3, _, rfl, H⟩
    refine k_seq ?_
    refine k_reg mixed H (.cons [26] (ok_val (fun ν5 => .slice p_j3 j4.length c_j3) 26) <|
      .cons [4] (ok_val (fun ν5 => .slice p_j3 j4.length c_j3) 4) <| .nil) (by kernel_rfl) fun ν5 a w' H => ?_
    replace H := H.toL [(4, .slot true (.slice p_j3 j4.length c_j3)), (29, owK 40 2 p_j3 j4.length c_j3 (j4.flatMap en_TInterval))] (by kernel_rfl)
    refine k_ret ?_
    obtain rfl := Option.some.inj G
    exact k_doneR H (fun p cap => .slice p j4.length cap) p_j3 c_j3 [] 29 40 2 j4.length (j4.flatMap en_TInterval) (by kernel_rfl) (by kernel_rfl) (by simp) (by kernel_rfl)
  · clear G; replace G := hj4; clear hj4
    refine k_seq ?_
    refine k_reg mixed H (.cons [6] (ok_val (fun ν6 => .int .i64 0) 6) <| .nil) (by kernel_rfl) fun ν6 a w' H => ?_
    replace H := H.toL [(0, .slot true (.slice p_a0 a0.length c_a0)), (1, .slot true (.slice p_a1 a1.length c_a1)), (4, .slot true (.slice none 0 0)), (5, .slot true (.slice (some ⟨((ν2 0).n 0), 0, none⟩) 0 0)), (6, .slot true (.int .i64 0)), (29, .blk ((ν2 0).n 0) [] 40), (27, rdK 2 p_a0 a0.length (a0.flatMap en_TInterval)), (28, rdK 2 p_a1 a1.length (a1.flatMap en_TInterval))] (by kernel_rfl)
    refine k_block ?_
    replace H := H.blk_row 29 ((ν2 0).n 0) [] 40 2 0 (by kernel_rfl) (by kernel_rfl) (by decide)
    refine k_loopJ (fun m a w' => ∃ x7 : List TInterval, ∃ x8 : Int, armillaryref03_Hull.l9 k0 a0 a1 m x7 x8 = some j4 ∧ ∃ (p_x7 : Option Addr) (c_x7 np_x7 : Nat), np_x7 = x7.length ∧ Rep w.heap.size w 27 (ofL [(0, .slot true (.slice p_a0 a0.length c_a0)), (1, .slot true (.slice p_a1 a1.length c_a1)), (4, .slot true (.slice none 0 0)), (5, .slot true (.slice p_x7 np_x7 c_x7)), (6, .slot true (.int .i64 x8)), (27, rdK 2 p_a0 a0.length (a0.flatMap en_TInterval)), (28, rdK 2 p_a1 a1.length (a1.flatMap en_TInterval)), (29, owK 40 2 p_x7 np_x7 c_x7 (x7.flatMap en_TInterval))]) a w') k0 ⟨_, _, G, (some ⟨((ν2 0).n 0), 0, none⟩), 0, _, rfl, H.toL _ (by kernel_rfl)⟩ ?_
    clear G H
    rintro (_ | k) a w' ⟨x7, x8, G, p_x7, c_x7, _, rfl, H⟩
    · exact absurd G (by unfold armillaryref03_Hull.l9; exact fun h => by cases h)
    · unfold armillaryref03_Hull.l9 at G
      refine k_seq ?_
      refine k_seq ?_
      refine k_reg mixed H (.cons [8] (ok_val (fun ν10 => .int .i64 x8) 8) <|
      .cons [9] (ok_val (fun ν10 => .slice p_a0 a0.length c_a0) 9) <|
      .cons [10] (ok_val (fun ν10 => .int .i64 (a0.length : Int)) 10) <|
      .cons [11] (ok_val (fun ν10 => .bool (decide (x8 < (a0.length : Int)))) 11) <| .nil) (by kernel_rfl) fun ν10 a w' H => ?_
      replace H := H.toL [(0, .slot true (.slice p_a0 a0.length c_a0)), (1, .slot true (.slice p_a1 a1.length c_a1)), (4, .slot true (.slice none 0 0)), (5, .slot true (.slice p_x7 x7.length c_x7)), (6, .slot true (.int .i64 x8)), (8, .slot true (.int .i64 x8)), (9, .slot true (.slice p_a0 a0.length c_a0)), (10, .slot true (.int .i64 (a0.length : Int))), (11, .slot true (.bool (decide (x8 < (a0.length : Int))))), (27, rdK 2 p_a0 a0.length (a0.flatMap en_TInterval)), (28, rdK 2 p_a1 a1.length (a1.flatMap en_TInterval)), (29, owK 40 2 p_x7 x7.length c_x7 (x7.flatMap en_TInterval))] (by kernel_rfl)
      refine k_cond H (by kernel_rfl) (t := decide (x8 < (a0.length : Int))) (by kernel_rfl) (fun c19 => ?_) (fun c19 => ?_)
      · rw [if_pos c19] at G
        refine k_skip ?_
        refine k_seq ?_
        refine k_block ?_
        replace G := gd G; obtain ⟨b12, G⟩ := G
        replace G := bnd G; obtain ⟨t13, ht13, G⟩ := G
        replace G := gd G; obtain ⟨b14, G⟩ := G
        replace G := bnd G; obtain ⟨t15, ht15, G⟩ := G
        replace G := bnd G; obtain ⟨t16, ht16, G⟩ := G
        replace G := gd G; obtain ⟨b17, G⟩ := G
        refine k_reg mixed H (.cons [14] (ok_val (fun ν11 => .slice p_x7 x7.length c_x7) 14) <|
      .cons [15] (ok_val (fun ν11 => .slice p_a0 a0.length c_a0) 15) <|
      .cons [16] (ok_val (fun ν11 => .int .i64 x8) 16) <|
      .cons [17] (ok_valL [27] (fun ν11 => [rdK 2 p_a0 a0.length (a0.flatMap en_TInterval)]) (fun ν11 => .pointer (some ⟨hdB p_a0, hdO p_a0 + x8.toNat * 2, none⟩)) (fun ν11 => true) [true, true] 17 (fun ν11 w hg hF => run_of (by kernel_rfl) (run_ix (t := 22) (p := p_a0) (n := a0.length) (cap := c_a0) (k := .i64) (i := x8) (sz := 2) (by kernel_rfl) (by kernel_rfl) (rd_of hF.1) b12))) <|
      .cons [18] (ok_valL [27] (fun ν11 => [rdK 2 p_a0 a0.length (a0.flatMap en_TInterval)]) (fun ν11 => .agg #[.int .i64 t13.Lo, .int .i64 t13.Hi]) (fun ν11 => true) [true] 18 (fun ν11 w hg hF => ld_of (vs := [.int .i64 t13.Lo, .int .i64 t13.Hi]) (b := hdB p_a0) (off := hdO p_a0 + x8.toNat * 2 + 0) (m := 2) (by kernel_rfl) (el_cells (rd_of hF.1) en_TInterval_len ht13 0 2 rfl))) <|
      .cons [19] (ok_val (fun ν11 => .slice p_a1 a1.length c_a1) 19) <|
      .cons [20] (ok_val (fun ν11 => .int .i64 x8) 20) <|
      .cons [21] (ok_valL [28] (fun ν11 => [rdK 2 p_a1 a1.length (a1.flatMap en_TInterval)]) (fun ν11 => .pointer (some ⟨hdB p_a1, hdO p_a1 + x8.toNat * 2, none⟩)) (fun ν11 => true) [true, true] 21 (fun ν11 w hg hF => run_of (by kernel_rfl) (run_ix (t := 22) (p := p_a1) (n := a1.length) (cap := c_a1) (k := .i64) (i := x8) (sz := 2) (by kernel_rfl) (by kernel_rfl) (rd_of hF.1) b14))) <|
      .cons [22] (ok_valL [28] (fun ν11 => [rdK 2 p_a1 a1.length (a1.flatMap en_TInterval)]) (fun ν11 => .agg #[.int .i64 t15.Lo, .int .i64 t15.Hi]) (fun ν11 => true) [true] 22 (fun ν11 w hg hF => ld_of (vs := [.int .i64 t15.Lo, .int .i64 t15.Hi]) (b := hdB p_a1) (off := hdO p_a1 + x8.toNat * 2 + 0) (m := 2) (by kernel_rfl) (el_cells (rd_of hF.1) en_TInterval_len ht15 0 2 rfl))) <|
      .cons [23] (ok_callv 64 (fun ν11 => #[.agg #[.int .i64 t13.Lo, .int .i64 t13.Hi], .agg #[.int .i64 t15.Lo, .int .i64 t15.Hi]]) (.agg #[.int .i64 t16.Lo, .int .i64 t16.Hi]) 23 [] (fun _ w _ => armillaryref02_Hull.calls t13 t15 t16 w ht16)) <|
      .cons [24, 30] (ok_new (fun b => .slice (some ⟨b, 0, none⟩) 1 1) (fun ν11 => [.int .i64 t16.Lo, .int .i64 t16.Hi]) 40 24 30) <|
      .cons [25, 29] (ok_rowL [29, 30] (fun ν11 => [owK 40 2 p_x7 x7.length c_x7 (x7.flatMap en_TInterval), .blk ((ν11 10).n 0) [.int .i64 t16.Lo, .int .i64 t16.Hi] 40]) 40 2 (x7 ++ [t16]).length ((x7 ++ [t16]).flatMap en_TInterval) 25 29 (fun ν11 => owK 40 2 p_x7 x7.length c_x7 (x7.flatMap en_TInterval)) (fun ν11 w hF => run_app_row (t := 22) (ty := 22) (en := en_TInterval) en_TInterval_len inf40 (ow_of hF.1) hF.2.1 (news := [t16]) rfl (by simp) (by kernel_rfl) b17) (fun _ => .inr trivial)) <|
      .cons [5] (ok_val (fun ν11 => .slice ((ν11 11).o 0) (x7 ++ [t16]).length ((ν11 11).n 0)) 5) <| .nil) (by kernel_rfl) fun ν11 a w' H => ?_
        replace H := H.toL [(0, .slot true (.slice p_a0 a0.length c_a0)), (1, .slot true (.slice p_a1 a1.length c_a1)), (4, .slot true (.slice none 0 0)), (5, .slot true (.slice ((ν11 11).o 0) (x7 ++ [t16]).length ((ν11 11).n 0))), (6, .slot true (.int .i64 x8)), (8, .slot true (.int .i64 x8)), (9, .slot true (.slice p_a0 a0.length c_a0)), (10, .slot true (.int .i64 (a0.length : Int))), (11, .slot true (.bool (decide (x8 < (a0.length : Int))))), (15, .slot true (.slice p_a0 a0.length c_a0)), (16, .slot true (.int .i64 x8)), (17, .slot true (.pointer (some ⟨hdB p_a0, hdO p_a0 + x8.toNat * 2, none⟩))), (18, .slot true (.agg #[.int .i64 t13.Lo, .int .i64 t13.Hi])), (19, .slot true (.slice p_a1 a1.length c_a1)), (20, .slot true (.int .i64 x8)), (21, .slot true (.pointer (some ⟨hdB p_a1, hdO p_a1 + x8.toNat * 2, none⟩))), (22, .slot true (.agg #[.int .i64 t15.Lo, .int .i64 t15.Hi])), (23, .slot true (.agg #[.int .i64 t16.Lo, .int .i64 t16.Hi])), (24, .slot true (.slice (some ⟨((ν11 10).n 0), 0, none⟩) 1 1)), (25, .slot true (.slice ((ν11 11).o 0) (x7 ++ [t16]).length ((ν11 11).n 0))), (30, .blk ((ν11 10).n 0) [.int .i64 t16.Lo, .int .i64 t16.Hi] 40), (27, rdK 2 p_a0 a0.length (a0.flatMap en_TInterval)), (28, rdK 2 p_a1 a1.length (a1.flatMap en_TInterval)), (29, owK 40 2 ((ν11 11).o 0) (x7 ++ [t16]).length ((ν11 11).n 0) ((x7 ++ [t16]).flatMap en_TInterval))] (by kernel_rfl)
        refine k_reg mixed H (.cons [12] (ok_val (fun ν18 => .int .i64 x8) 12) <|
      .cons [13] (ok_val (fun ν18 => .int .i64 (w_i64 (x8 + 1))) 13) <|
      .cons [6] (ok_val (fun ν18 => .int .i64 (w_i64 (x8 + 1))) 6) <| .nil) (by kernel_rfl) fun ν18 a w' H => ?_
        replace H := H.toL [(0, .slot true (.slice p_a0 a0.length c_a0)), (1, .slot true (.slice p_a1 a1.length c_a1)), (4, .slot true (.slice none 0 0)), (5, .slot true (.slice ((ν11 11).o 0) (x7 ++ [t16]).length ((ν11 11).n 0))), (6, .slot true (.int .i64 (w_i64 (x8 + 1)))), (8, .slot true (.int .i64 x8)), (9, .slot true (.slice p_a0 a0.length c_a0)), (10, .slot true (.int .i64 (a0.length : Int))), (11, .slot true (.bool (decide (x8 < (a0.length : Int))))), (12, .slot true (.int .i64 x8)), (13, .slot true (.int .i64 (w_i64 (x8 + 1)))), (15, .slot true (.slice p_a0 a0.length c_a0)), (16, .slot true (.int .i64 x8)), (17, .slot true (.pointer (some ⟨hdB p_a0, hdO p_a0 + x8.toNat * 2, none⟩))), (18, .slot true (.agg #[.int .i64 t13.Lo, .int .i64 t13.Hi])), (19, .slot true (.slice p_a1 a1.length c_a1)), (20, .slot true (.int .i64 x8)), (21, .slot true (.pointer (some ⟨hdB p_a1, hdO p_a1 + x8.toNat * 2, none⟩))), (22, .slot true (.agg #[.int .i64 t15.Lo, .int .i64 t15.Hi])), (23, .slot true (.agg #[.int .i64 t16.Lo, .int .i64 t16.Hi])), (24, .slot true (.slice (some ⟨((ν11 10).n 0), 0, none⟩) 1 1)), (25, .slot true (.slice ((ν11 11).o 0) (x7 ++ [t16]).length ((ν11 11).n 0))), (30, .blk ((ν11 10).n 0) [.int .i64 t16.Lo, .int .i64 t16.Hi] 40), (27, rdK 2 p_a0 a0.length (a0.flatMap en_TInterval)), (28, rdK 2 p_a1 a1.length (a1.flatMap en_TInterval)), (29, owK 40 2 ((ν11 11).o 0) (x7 ++ [t16]).length ((ν11 11).n 0) ((x7 ++ [t16]).flatMap en_TInterval))] (by kernel_rfl)
        exact ⟨k, Nat.lt_succ_self k, _, _, G, ((ν11 11).o 0), ((ν11 11).n 0), _, rfl, H.toL _ (by kernel_rfl)⟩
      · rw [if_neg (nt c19)] at G
        refine k_exit rfl ?_
        obtain rfl := Option.some.inj G
        exact ⟨p_x7, c_x7, _, rfl, H.toL _ (by kernel_rfl)⟩

set_option maxHeartbeats 4000000 in
theorem armillaryref02_New.calls (a0 : Int) (a1 : Int) (r : TInterval) (w : World) (G : armillaryref02_New a0 a1 = some r) :
    Calls Try.prog 75 #[.int .i64 a0, .int .i64 a1] w fun e w' => e = .returned (.agg #[.int .i64 r.Lo, .int .i64 r.Hi]) ∧ Below w.heap.size w w' := by
  refine k_enter (args := [.int .i64 a0, .int .i64 a1]) 17 Try.func75 rfl (by kernel_rfl) (by kernel_rfl) fun a H => ?_
  unfold armillaryref02_New at G
  refine k_seq ?_
  refine k_reg mixed H (.cons [4, 17] (ok_new (fun b => .pointer (some ⟨b, 0, none⟩)) (fun ν1 => [.int .i64 0, .int .i64 0]) 40 4 17) <| .nil) (by kernel_rfl) fun ν1 a w' H => ?_
  replace H := H.toL [(0, .slot true (.int .i64 a0)), (1, .slot true (.int .i64 a1)), (4, .slot true (.pointer (some ⟨((ν1 0).n 0), 0, none⟩))), (17, .blk ((ν1 0).n 0) [.int .i64 0, .int .i64 0] 40)] (by kernel_rfl)
  refine k_seq ?_
  refine k_seq ?_
  replace G := bnd G; obtain ⟨t3, ht3, G⟩ := G
  replace G := bnd G; obtain ⟨t4, ht4, G⟩ := G
  refine k_reg mixed H (.cons [5] (ok_val (fun ν2 => .int .i64 a0) 5) <|
      .cons [6] (ok_callv 94 (fun ν2 => #[.int .i64 a0]) (.bool t3) 6 [] (fun _ w _ => armillaryref02_Number.calls a0 t3 w ht3)) <|
      .cons [7] (ok_val (fun ν2 => .bool (!t3)) 7) <|
      .cons [8] (ok_val (fun ν2 => .bool (!t3)) 8) <|
      .cons [9] (ok_valg (fun ν2 => .int .i64 a1) (fun ν2 => ((!t3) == false)) [true] 9) <|
      .cons [10] (ok_call 94 (fun ν2 => #[.int .i64 a1]) (.bool t4) (fun ν2 => ((!t3) == false)) [true, false] 10 [] (fun _ w hg _ => armillaryref02_Number.calls a1 t4 w (ifp ht4 hg))) <|
      .cons [11] (ok_valg (fun ν2 => .bool (!t4)) (fun ν2 => ((!t3) == false)) [false] 11) <|
      .cons [12] (ok_or 8 11 (fun ν2 => true) (fun ν2 => true) (fun ν2 => (!t3)) (fun ν2 => (!t4)) 12) <| .nil) (by kernel_rfl) fun ν2 a w' H => ?_
  replace H := H.toL [(0, .slot true (.int .i64 a0)), (1, .slot true (.int .i64 a1)), (4, .slot true (.pointer (some ⟨((ν1 0).n 0), 0, none⟩))), (12, .slot true (.bool ((!t3) || (!t4)))), (17, .blk ((ν1 0).n 0) [.int .i64 0, .int .i64 0] 40)] (by kernel_rfl)
  refine k_cond H (by kernel_rfl) (t := ((!t3) || (!t4))) (by kernel_rfl) (fun c8 => ?_) (fun c8 => ?_)
  · rw [if_pos c8] at G
    refine k_seq ?_
    replace G := bnd G; obtain ⟨t6, ht6, G⟩ := G
    refine k_reg mixed H (.cons [13] (ok_callv 97 (fun ν5 => #[]) (.agg #[.int .i64 t6.Lo, .int .i64 t6.Hi]) 13 [] (fun _ w _ => armillaryref02_Entire.calls  t6 w ht6)) <|
      .cons [17] (ok_as (u' := fun ν5 => [(17, .blk ((ν1 0).n 0) [.int .i64 t6.Lo, .int .i64 t6.Hi] 40)]) (ok_store 17 0 (fun ν5 => ((ν1 0).n 0)) (fun ν5 => [.int .i64 0, .int .i64 0]) (fun ν5 => [.int .i64 t6.Lo, .int .i64 t6.Hi]) 40) (fun _ => by kernel_rfl)) <| .nil) (by kernel_rfl) fun ν5 a w' H => ?_
    replace H := H.toL [(0, .slot true (.int .i64 a0)), (1, .slot true (.int .i64 a1)), (4, .slot true (.pointer (some ⟨((ν1 0).n 0), 0, none⟩))), (17, .blk ((ν1 0).n 0) [.int .i64 t6.Lo, .int .i64 t6.Hi] 40)] (by kernel_rfl)
    refine k_ret ?_
    obtain rfl := Option.some.inj G
    exact k_done1 H _ 17 ((ν1 0).n 0) [.int .i64 t6.Lo, .int .i64 t6.Hi] 40 0 2 (by kernel_rfl) (by kernel_rfl) (by kernel_rfl) (by kernel_rfl)
  · rw [if_neg (nt c8)] at G
    refine k_skip ?_
    refine k_seq ?_
    refine k_reg mixed H (.cons [14] (ok_val (fun ν7 => .int .i64 a0) 14) <|
      .cons [15] (ok_val (fun ν7 => .int .i64 a1) 15) <|
      .cons [16] (ok_val (fun ν7 => .agg #[.int .i64 a0, .int .i64 a1]) 16) <|
      .cons [17] (ok_as (u' := fun ν7 => [(17, .blk ((ν1 0).n 0) [.int .i64 a0, .int .i64 a1] 40)]) (ok_store 17 0 (fun ν7 => ((ν1 0).n 0)) (fun ν7 => [.int .i64 0, .int .i64 0]) (fun ν7 => [.int .i64 a0, .int .i64 a1]) 40) (fun _ => by kernel_rfl)) <| .nil) (by kernel_rfl) fun ν7 a w' H => ?_
    replace H := H.toL [(4, .slot true (.pointer (some ⟨((ν1 0).n 0), 0, none⟩))), (17, .blk ((ν1 0).n 0) [.int .i64 a0, .int .i64 a1] 40)] (by kernel_rfl)
    refine k_ret ?_
    obtain rfl := Option.some.inj G
    exact k_done1 H _ 17 ((ν1 0).n 0) [.int .i64 a0, .int .i64 a1] 40 0 2 (by kernel_rfl) (by kernel_rfl) (by kernel_rfl) (by kernel_rfl)

set_option maxHeartbeats 4000000 in
theorem armillaryref02_Add.calls (a0 : TInterval) (a1 : TInterval) (r : TInterval) (w : World) (G : armillaryref02_Add a0 a1 = some r) :
    Calls Try.prog 68 #[.agg #[.int .i64 a0.Lo, .int .i64 a0.Hi], .agg #[.int .i64 a1.Lo, .int .i64 a1.Hi]] w fun e w' => e = .returned (.agg #[.int .i64 r.Lo, .int .i64 r.Hi]) ∧ Below w.heap.size w w' := by
  refine k_enter (args := [.agg #[.int .i64 a0.Lo, .int .i64 a0.Hi], .agg #[.int .i64 a1.Lo, .int .i64 a1.Hi]]) 23 Try.func68 rfl (by kernel_rfl) (by kernel_rfl) fun a H => ?_
  unfold armillaryref02_Add at G
  refine k_seq ?_
  refine k_reg mixed H (.cons [2, 23] (ok_new (fun b => .pointer (some ⟨b, 0, none⟩)) (fun ν1 => [.int .i64 a0.Lo, .int .i64 a0.Hi]) 40 2 23) <|
      .cons [3, 24] (ok_new (fun b => .pointer (some ⟨b, 0, none⟩)) (fun ν1 => [.int .i64 a1.Lo, .int .i64 a1.Hi]) 40 3 24) <|
      .cons [4, 25] (ok_new (fun b => .pointer (some ⟨b, 0, none⟩)) (fun ν1 => [.int .i64 0, .int .i64 0]) 40 4 25) <| .nil) (by kernel_rfl) fun ν1 a w' H => ?_
  replace H := H.toL [(2, .slot true (.pointer (some ⟨((ν1 0).n 0), 0, none⟩))), (3, .slot true (.pointer (some ⟨((ν1 1).n 0), 0, none⟩))), (4, .slot true (.pointer (some ⟨((ν1 2).n 0), 0, none⟩))), (23, .blk ((ν1 0).n 0) [.int .i64 a0.Lo, .int .i64 a0.Hi] 40), (24, .blk ((ν1 1).n 0) [.int .i64 a1.Lo, .int .i64 a1.Hi] 40), (25, .blk ((ν1 2).n 0) [.int .i64 0, .int .i64 0] 40)] (by kernel_rfl)
  refine k_seq ?_
  refine k_seq ?_
  replace G := bnd G; obtain ⟨t3, ht3, G⟩ := G
  replace G := bnd G; obtain ⟨t4, ht4, G⟩ := G
  refine k_reg mixed H (.cons [5] (ok_ld (fun ν2 => .agg #[.int .i64 a0.Lo, .int .i64 a0.Hi]) 5 23 0 2 (fun ν2 => ((ν1 0).n 0)) (fun ν2 => [.int .i64 a0.Lo, .int .i64 a0.Hi]) 40) <|
      .cons [6] (ok_callv 45 (fun ν2 => #[.agg #[.int .i64 a0.Lo, .int .i64 a0.Hi]]) (.bool t3) 6 [] (fun _ w _ => armillaryref02_IsEntire.calls a0 t3 w ht3)) <|
      .cons [7] (ok_val (fun ν2 => .bool t3) 7) <|
      .cons [8] (ok_ldg (fun ν2 => .agg #[.int .i64 a1.Lo, .int .i64 a1.Hi]) (fun ν2 => (t3 == false)) [true] 8 24 0 2 (fun ν2 => ((ν1 1).n 0)) (fun ν2 => [.int .i64 a1.Lo, .int .i64 a1.Hi]) 40) <|
      .cons [9] (ok_call 45 (fun ν2 => #[.agg #[.int .i64 a1.Lo, .int .i64 a1.Hi]]) (.bool t4) (fun ν2 => (t3 == false)) [true, false] 9 [] (fun _ w hg _ => armillaryref02_IsEntire.calls a1 t4 w (ifp ht4 hg))) <|
      .cons [10] (ok_or 7 9 (fun ν2 => true) (fun ν2 => true) (fun ν2 => t3) (fun ν2 => t4) 10) <| .nil) (by kernel_rfl) fun ν2 a w' H => ?_
  replace H := H.toL [(2, .slot true (.pointer (some ⟨((ν1 0).n 0), 0, none⟩))), (3, .slot true (.pointer (some ⟨((ν1 1).n 0), 0, none⟩))), (4, .slot true (.pointer (some ⟨((ν1 2).n 0), 0, none⟩))), (10, .slot true (.bool (t3 || t4))), (23, .blk ((ν1 0).n 0) [.int .i64 a0.Lo, .int .i64 a0.Hi] 40), (24, .blk ((ν1 1).n 0) [.int .i64 a1.Lo, .int .i64 a1.Hi] 40), (25, .blk ((ν1 2).n 0) [.int .i64 0, .int .i64 0] 40)] (by kernel_rfl)
  refine k_cond H (by kernel_rfl) (t := (t3 || t4)) (by kernel_rfl) (fun c9 => ?_) (fun c9 => ?_)
  · rw [if_pos c9] at G
    refine k_seq ?_
    replace G := bnd G; obtain ⟨t6, ht6, G⟩ := G
    refine k_reg mixed H (.cons [11] (ok_callv 97 (fun ν5 => #[]) (.agg #[.int .i64 t6.Lo, .int .i64 t6.Hi]) 11 [] (fun _ w _ => armillaryref02_Entire.calls  t6 w ht6)) <|
      .cons [25] (ok_as (u' := fun ν5 => [(25, .blk ((ν1 2).n 0) [.int .i64 t6.Lo, .int .i64 t6.Hi] 40)]) (ok_store 25 0 (fun ν5 => ((ν1 2).n 0)) (fun ν5 => [.int .i64 0, .int .i64 0]) (fun ν5 => [.int .i64 t6.Lo, .int .i64 t6.Hi]) 40) (fun _ => by kernel_rfl)) <| .nil) (by kernel_rfl) fun ν5 a w' H => ?_
    replace H := H.toL [(2, .slot true (.pointer (some ⟨((ν1 0).n 0), 0, none⟩))), (3, .slot true (.pointer (some ⟨((ν1 1).n 0), 0, none⟩))), (4, .slot true (.pointer (some ⟨((ν1 2).n 0), 0, none⟩))), (23, .blk ((ν1 0).n 0) [.int .i64 a0.Lo, .int .i64 a0.Hi] 40), (24, .blk ((ν1 1).n 0) [.int .i64 a1.Lo, .int .i64 a1.Hi] 40), (25, .blk ((ν1 2).n 0) [.int .i64 t6.Lo, .int .i64 t6.Hi] 40)] (by kernel_rfl)
    refine k_ret ?_
    obtain rfl := Option.some.inj G
    exact k_done1 H _ 25 ((ν1 2).n 0) [.int .i64 t6.Lo, .int .i64 t6.Hi] 40 0 2 (by kernel_rfl) (by kernel_rfl) (by kernel_rfl) (by kernel_rfl)
  · rw [if_neg (nt c9)] at G
    refine k_skip ?_
    refine k_seq ?_
    replace G := bnd G; obtain ⟨t8, ht8, G⟩ := G
    refine k_reg mixed H (.cons [12] (ok_val (fun ν7 => .pointer (some ⟨((ν1 0).n 0), 0, none⟩)) 12) <|
      .cons [13] (ok_ld (fun ν7 => .int .i64 a0.Lo) 13 23 0 1 (fun ν7 => ((ν1 0).n 0)) (fun ν7 => [.int .i64 a0.Lo, .int .i64 a0.Hi]) 40) <|
      .cons [14] (ok_val (fun ν7 => .pointer (some ⟨((ν1 1).n 0), 0, none⟩)) 14) <|
      .cons [15] (ok_ld (fun ν7 => .int .i64 a1.Lo) 15 24 0 1 (fun ν7 => ((ν1 1).n 0)) (fun ν7 => [.int .i64 a1.Lo, .int .i64 a1.Hi]) 40) <|
      .cons [16] (ok_val (fun ν7 => .int .i64 (w_i64 (a0.Lo + a1.Lo))) 16) <|
      .cons [17] (ok_val (fun ν7 => .pointer (some ⟨((ν1 0).n 0), 1, none⟩)) 17) <|
      .cons [18] (ok_ld (fun ν7 => .int .i64 a0.Hi) 18 23 1 1 (fun ν7 => ((ν1 0).n 0)) (fun ν7 => [.int .i64 a0.Lo, .int .i64 a0.Hi]) 40) <|
      .cons [19] (ok_val (fun ν7 => .pointer (some ⟨((ν1 1).n 0), 1, none⟩)) 19) <|
      .cons [20] (ok_ld (fun ν7 => .int .i64 a1.Hi) 20 24 1 1 (fun ν7 => ((ν1 1).n 0)) (fun ν7 => [.int .i64 a1.Lo, .int .i64 a1.Hi]) 40) <|
      .cons [21] (ok_val (fun ν7 => .int .i64 (w_i64 (a0.Hi + a1.Hi))) 21) <|
      .cons [22] (ok_callv 75 (fun ν7 => #[.int .i64 (w_i64 (a0.Lo + a1.Lo)), .int .i64 (w_i64 (a0.Hi + a1.Hi))]) (.agg #[.int .i64 t8.Lo, .int .i64 t8.Hi]) 22 [] (fun _ w _ => armillaryref02_New.calls (w_i64 (a0.Lo + a1.Lo)) (w_i64 (a0.Hi + a1.Hi)) t8 w ht8)) <|
      .cons [25] (ok_as (u' := fun ν7 => [(25, .blk ((ν1 2).n 0) [.int .i64 t8.Lo, .int .i64 t8.Hi] 40)]) (ok_store 25 0 (fun ν7 => ((ν1 2).n 0)) (fun ν7 => [.int .i64 0, .int .i64 0]) (fun ν7 => [.int .i64 t8.Lo, .int .i64 t8.Hi]) 40) (fun _ => by kernel_rfl)) <| .nil) (by kernel_rfl) fun ν7 a w' H => ?_
    replace H := H.toL [(4, .slot true (.pointer (some ⟨((ν1 2).n 0), 0, none⟩))), (25, .blk ((ν1 2).n 0) [.int .i64 t8.Lo, .int .i64 t8.Hi] 40)] (by kernel_rfl)
    refine k_ret ?_
    obtain rfl := Option.some.inj G
    exact k_done1 H _ 25 ((ν1 2).n 0) [.int .i64 t8.Lo, .int .i64 t8.Hi] 40 0 2 (by kernel_rfl) (by kernel_rfl) (by kernel_rfl) (by kernel_rfl)

set_option maxHeartbeats 4000000 in
theorem armillaryref02_Floor.calls (a0 : Int) (a1 : Int) (r : Int) (w : World) (G : armillaryref02_Floor a0 a1 = some r) :
    Calls Try.prog 98 #[.int .i64 a0, .int .i64 a1] w fun e w' => e = .returned (.int .i64 r) ∧ Below w.heap.size w w' := by
  refine k_enter (args := [.int .i64 a0, .int .i64 a1]) 23 Try.func98 rfl (by kernel_rfl) (by kernel_rfl) fun a H => ?_
  unfold armillaryref02_Floor at G
  refine k_seq ?_
  refine k_reg mixed H (.cons [4] (ok_val (fun ν1 => .int .i64 0) 4) <| .nil) (by kernel_rfl) fun ν1 a w' H => ?_
  replace H := H.toL [(0, .slot true (.int .i64 a0)), (1, .slot true (.int .i64 a1)), (4, .slot true (.int .i64 0))] (by kernel_rfl)
  refine k_seq ?_
  replace G := gd G; obtain ⟨n3, G⟩ := G
  refine k_reg mixed H (.cons [6] (ok_val (fun ν2 => .int .i64 a0) 6) <|
      .cons [7] (ok_val (fun ν2 => .int .i64 a1) 7) <|
      .cons [8] (ok_val (fun ν2 => .int .i64 (w_i64 (Int.tdiv a0 a1))) 8 (hv := fun _ _ => run_of (by kernel_rfl) (run_quo (k := .i64) (x := a0) (y := a1) n3))) <|
      .cons [5] (ok_val (fun ν2 => .int .i64 (w_i64 (Int.tdiv a0 a1))) 5) <| .nil) (by kernel_rfl) fun ν2 a w' H => ?_
  replace H := H.toL [(0, .slot true (.int .i64 a0)), (1, .slot true (.int .i64 a1)), (4, .slot true (.int .i64 0)), (5, .slot true (.int .i64 (w_i64 (Int.tdiv a0 a1))))] (by kernel_rfl)
  refine k_seq ?_
  replace G := bnd G; obtain ⟨j5, hj5, G⟩ := G
  refine k_join (fun a w' => Rep w.heap.size w 23 (ofL [(4, .slot true (.int .i64 0)), (5, .slot true (.int .i64 j5))]) a w') ?_ ?_
  · clear H; intro a w' H
    refine k_seq ?_
    refine k_reg mixed H (.cons [22] (ok_val (fun ν6 => .int .i64 j5) 22) <|
      .cons [4] (ok_val (fun ν6 => .int .i64 j5) 4) <| .nil) (by kernel_rfl) fun ν6 a w' H => ?_
    replace H := H.toL [(4, .slot true (.int .i64 j5))] (by kernel_rfl)
    refine k_ret ?_
    obtain rfl := Option.some.inj G
    exact k_done0 H _ (by kernel_rfl) (by kernel_rfl)
  · clear G; replace G := hj5; clear hj5
    refine k_seq ?_
    replace G := gd G; obtain ⟨n8, G⟩ := G
    refine k_reg mixed H (.cons [9] (ok_val (fun ν7 => .int .i64 a0) 9) <|
      .cons [10] (ok_val (fun ν7 => .int .i64 a1) 10) <|
      .cons [11] (ok_val (fun ν7 => .int .i64 (Int.tmod a0 a1)) 11 (hv := fun _ _ => run_of (by kernel_rfl) (run_rem (k := .i64) (x := a0) (y := a1) n8))) <|
      .cons [12] (ok_val (fun ν7 => .bool ((Int.tmod a0 a1) != 0)) 12) <|
      .cons [13] (ok_val (fun ν7 => .bool ((Int.tmod a0 a1) != 0)) 13) <|
      .cons [14] (ok_valg (fun ν7 => .int .i64 a0) (fun ν7 => (((Int.tmod a0 a1) != 0) == true)) [true] 14) <|
      .cons [15] (ok_valg (fun ν7 => .bool (decide (a0 < 0))) (fun ν7 => (((Int.tmod a0 a1) != 0) == true)) [false, true] 15) <|
      .cons [16] (ok_valg (fun ν7 => .int .i64 a1) (fun ν7 => (((Int.tmod a0 a1) != 0) == true)) [true] 16) <|
      .cons [17] (ok_valg (fun ν7 => .bool (decide (a1 < 0))) (fun ν7 => (((Int.tmod a0 a1) != 0) == true)) [false, true] 17) <|
      .cons [18] (ok_valg (fun ν7 => .bool (!((decide (a0 < 0)) == (decide (a1 < 0))))) (fun ν7 => (((Int.tmod a0 a1) != 0) == true)) [false, false] 18) <|
      .cons [19] (ok_and 13 18 (fun ν7 => true) (fun ν7 => true) (fun ν7 => ((Int.tmod a0 a1) != 0)) (fun ν7 => (!((decide (a0 < 0)) == (decide (a1 < 0))))) 19) <| .nil) (by kernel_rfl) fun ν7 a w' H => ?_
    replace H := H.toL [(4, .slot true (.int .i64 0)), (5, .slot true (.int .i64 (w_i64 (Int.tdiv a0 a1)))), (19, .slot true (.bool (((Int.tmod a0 a1) != 0) && (!((decide (a0 < 0)) == (decide (a1 < 0)))))))] (by kernel_rfl)
    refine k_cond H (by kernel_rfl) (t := (((Int.tmod a0 a1) != 0) && (!((decide (a0 < 0)) == (decide (a1 < 0)))))) (by kernel_rfl) (fun c10 => ?_) (fun c10 => ?_)
    · rw [if_pos c10] at G
      refine k_reg mixed H (.cons [20] (ok_val (fun ν9 => .int .i64 (w_i64 (Int.tdiv a0 a1))) 20) <|
      .cons [21] (ok_val (fun ν9 => .int .i64 (w_i64 ((w_i64 (Int.tdiv a0 a1)) - 1))) 21) <|
      .cons [5] (ok_val (fun ν9 => .int .i64 (w_i64 ((w_i64 (Int.tdiv a0 a1)) - 1))) 5) <| .nil) (by kernel_rfl) fun ν9 a w' H => ?_
      replace H := H.toL [(4, .slot true (.int .i64 0)), (5, .slot true (.int .i64 (w_i64 ((w_i64 (Int.tdiv a0 a1)) - 1))))] (by kernel_rfl)
      obtain rfl := Option.some.inj G
      exact H.toL _ (by kernel_rfl)
    · rw [if_neg (nt c10)] at G
      refine k_skip ?_
      obtain rfl := Option.some.inj G
      exact H.toL _ (by kernel_rfl)

set_option maxHeartbeats 4000000 in
theorem armillaryref02_Ceil.calls (a0 : Int) (a1 : Int) (r : Int) (w : World) (G : armillaryref02_Ceil a0 a1 = some r) :
    Calls Try.prog 99 #[.int .i64 a0, .int .i64 a1] w fun e w' => e = .returned (.int .i64 r) ∧ Below w.heap.size w w' := by
  refine k_enter (args := [.int .i64 a0, .int .i64 a1]) 10 Try.func99 rfl (by kernel_rfl) (by kernel_rfl) fun a H => ?_
  unfold armillaryref02_Ceil at G
  refine k_seq ?_
  refine k_reg mixed H (.cons [4] (ok_val (fun ν1 => .int .i64 0) 4) <| .nil) (by kernel_rfl) fun ν1 a w' H => ?_
  replace H := H.toL [(0, .slot true (.int .i64 a0)), (1, .slot true (.int .i64 a1)), (4, .slot true (.int .i64 0))] (by kernel_rfl)
  refine k_seq ?_
  replace G := bnd G; obtain ⟨t3, ht3, G⟩ := G
  refine k_reg mixed H (.cons [5] (ok_val (fun ν2 => .int .i64 a0) 5) <|
      .cons [6] (ok_val (fun ν2 => .int .i64 (w_i64 (0 - a0))) 6) <|
      .cons [7] (ok_val (fun ν2 => .int .i64 a1) 7) <|
      .cons [8] (ok_callv 98 (fun ν2 => #[.int .i64 (w_i64 (0 - a0)), .int .i64 a1]) (.int .i64 t3) 8 [] (fun _ w _ => armillaryref02_Floor.calls (w_i64 (0 - a0)) a1 t3 w ht3)) <|
      .cons [9] (ok_val (fun ν2 => .int .i64 (w_i64 (0 - t3))) 9) <|
      .cons [4] (ok_val (fun ν2 => .int .i64 (w_i64 (0 - t3))) 4) <| .nil) (by kernel_rfl) fun ν2 a w' H => ?_
  replace H := H.toL [(4, .slot true (.int .i64 (w_i64 (0 - t3))))] (by kernel_rfl)
  refine k_ret ?_
  obtain rfl := Option.some.inj G
  exact k_done0 H _ (by kernel_rfl) (by kernel_rfl)

set_option maxHeartbeats 4000000 in
theorem armillaryref02_Square.calls (a0 : TInterval) (r : TInterval) (w : World) (G : armillaryref02_Square a0 = some r) :
    Calls Try.prog 69 #[.agg #[.int .i64 a0.Lo, .int .i64 a0.Hi]] w fun e w' => e = .returned (.agg #[.int .i64 r.Lo, .int .i64 r.Hi]) ∧ Below w.heap.size w w' := by
  refine k_enter (args := [.agg #[.int .i64 a0.Lo, .int .i64 a0.Hi]]) 43 Try.func69 rfl (by kernel_rfl) (by kernel_rfl) fun a H => ?_
  unfold armillaryref02_Square at G
  refine k_seq ?_
  refine k_reg mixed H (.cons [1, 43] (ok_new (fun b => .pointer (some ⟨b, 0, none⟩)) (fun ν1 => [.int .i64 a0.Lo, .int .i64 a0.Hi]) 40 1 43) <|
      .cons [2, 44] (ok_new (fun b => .pointer (some ⟨b, 0, none⟩)) (fun ν1 => [.int .i64 0, .int .i64 0]) 40 2 44) <| .nil) (by kernel_rfl) fun ν1 a w' H => ?_
  replace H := H.toL [(1, .slot true (.pointer (some ⟨((ν1 0).n 0), 0, none⟩))), (2, .slot true (.pointer (some ⟨((ν1 1).n 0), 0, none⟩))), (43, .blk ((ν1 0).n 0) [.int .i64 a0.Lo, .int .i64 a0.Hi] 40), (44, .blk ((ν1 1).n 0) [.int .i64 0, .int .i64 0] 40)] (by kernel_rfl)
  refine k_seq ?_
  refine k_seq ?_
  replace G := bnd G; obtain ⟨t3, ht3, G⟩ := G
  refine k_reg mixed H (.cons [5] (ok_ld (fun ν2 => .agg #[.int .i64 a0.Lo, .int .i64 a0.Hi]) 5 43 0 2 (fun ν2 => ((ν1 0).n 0)) (fun ν2 => [.int .i64 a0.Lo, .int .i64 a0.Hi]) 40) <|
      .cons [6] (ok_callv 45 (fun ν2 => #[.agg #[.int .i64 a0.Lo, .int .i64 a0.Hi]]) (.bool t3) 6 [] (fun _ w _ => armillaryref02_IsEntire.calls a0 t3 w ht3)) <| .nil) (by kernel_rfl) fun ν2 a w' H => ?_
  replace H := H.toL [(1, .slot true (.pointer (some ⟨((ν1 0).n 0), 0, none⟩))), (2, .slot true (.pointer (some ⟨((ν1 1).n 0), 0, none⟩))), (6, .slot true (.bool t3)), (43, .blk ((ν1 0).n 0) [.int .i64 a0.Lo, .int .i64 a0.Hi] 40), (44, .blk ((ν1 1).n 0) [.int .i64 0, .int .i64 0] 40)] (by kernel_rfl)
  refine k_cond H (by kernel_rfl) (t := t3) (by kernel_rfl) (fun c16 => ?_) (fun c16 => ?_)
  · rw [if_pos c16] at G
    refine k_seq ?_
    replace G := bnd G; obtain ⟨t5, ht5, G⟩ := G
    refine k_reg mixed H (.cons [7] (ok_callv 97 (fun ν4 => #[]) (.agg #[.int .i64 t5.Lo, .int .i64 t5.Hi]) 7 [] (fun _ w _ => armillaryref02_Entire.calls  t5 w ht5)) <|
      .cons [44] (ok_as (u' := fun ν4 => [(44, .blk ((ν1 1).n 0) [.int .i64 t5.Lo, .int .i64 t5.Hi] 40)]) (ok_store 44 0 (fun ν4 => ((ν1 1).n 0)) (fun ν4 => [.int .i64 0, .int .i64 0]) (fun ν4 => [.int .i64 t5.Lo, .int .i64 t5.Hi]) 40) (fun _ => by kernel_rfl)) <| .nil) (by kernel_rfl) fun ν4 a w' H => ?_
    replace H := H.toL [(1, .slot true (.pointer (some ⟨((ν1 0).n 0), 0, none⟩))), (2, .slot true (.pointer (some ⟨((ν1 1).n 0), 0, none⟩))), (43, .blk ((ν1 0).n 0) [.int .i64 a0.Lo, .int .i64 a0.Hi] 40), (44, .blk ((ν1 1).n 0) [.int .i64 t5.Lo, .int .i64 t5.Hi] 40)] (by kernel_rfl)
    refine k_ret ?_
    obtain rfl := Option.some.inj G
    exact k_done1 H _ 44 ((ν1 1).n 0) [.int .i64 t5.Lo, .int .i64 t5.Hi] 40 0 2 (by kernel_rfl) (by kernel_rfl) (by kernel_rfl) (by kernel_rfl)
  · rw [if_neg (nt c16)] at G
    refine k_skip ?_
    refine k_seq ?_
    refine k_reg mixed H (.cons [8] (ok_val (fun ν6 => .pointer (some ⟨((ν1 0).n 0), 0, none⟩)) 8) <|
      .cons [9] (ok_ld (fun ν6 => .int .i64 a0.Lo) 9 43 0 1 (fun ν6 => ((ν1 0).n 0)) (fun ν6 => [.int .i64 a0.Lo, .int .i64 a0.Hi]) 40) <|
      .cons [10] (ok_val (fun ν6 => .pointer (some ⟨((ν1 0).n 0), 0, none⟩)) 10) <|
      .cons [11] (ok_ld (fun ν6 => .int .i64 a0.Lo) 11 43 0 1 (fun ν6 => ((ν1 0).n 0)) (fun ν6 => [.int .i64 a0.Lo, .int .i64 a0.Hi]) 40) <|
      .cons [12] (ok_val (fun ν6 => .int .i64 (w_i64 (a0.Lo * a0.Lo))) 12) <|
      .cons [13] (ok_val (fun ν6 => .pointer (some ⟨((ν1 0).n 0), 1, none⟩)) 13) <|
      .cons [14] (ok_ld (fun ν6 => .int .i64 a0.Hi) 14 43 1 1 (fun ν6 => ((ν1 0).n 0)) (fun ν6 => [.int .i64 a0.Lo, .int .i64 a0.Hi]) 40) <|
      .cons [15] (ok_val (fun ν6 => .pointer (some ⟨((ν1 0).n 0), 1, none⟩)) 15) <|
      .cons [16] (ok_ld (fun ν6 => .int .i64 a0.Hi) 16 43 1 1 (fun ν6 => ((ν1 0).n 0)) (fun ν6 => [.int .i64 a0.Lo, .int .i64 a0.Hi]) 40) <|
      .cons [17] (ok_val (fun ν6 => .int .i64 (w_i64 (a0.Hi * a0.Hi))) 17) <|
      .cons [18] (ok_val (fun ν6 => .int .i64 (mn (w_i64 (a0.Lo * a0.Lo)) (w_i64 (a0.Hi * a0.Hi)))) 18) <|
      .cons [19] (ok_val (fun ν6 => .pointer (some ⟨((ν1 0).n 0), 0, none⟩)) 19) <|
      .cons [20] (ok_ld (fun ν6 => .int .i64 a0.Lo) 20 43 0 1 (fun ν6 => ((ν1 0).n 0)) (fun ν6 => [.int .i64 a0.Lo, .int .i64 a0.Hi]) 40) <|
      .cons [21] (ok_val (fun ν6 => .pointer (some ⟨((ν1 0).n 0), 0, none⟩)) 21) <|
      .cons [22] (ok_ld (fun ν6 => .int .i64 a0.Lo) 22 43 0 1 (fun ν6 => ((ν1 0).n 0)) (fun ν6 => [.int .i64 a0.Lo, .int .i64 a0.Hi]) 40) <|
      .cons [23] (ok_val (fun ν6 => .int .i64 (w_i64 (a0.Lo * a0.Lo))) 23) <|
      .cons [24] (ok_val (fun ν6 => .pointer (some ⟨((ν1 0).n 0), 1, none⟩)) 24) <|
      .cons [25] (ok_ld (fun ν6 => .int .i64 a0.Hi) 25 43 1 1 (fun ν6 => ((ν1 0).n 0)) (fun ν6 => [.int .i64 a0.Lo, .int .i64 a0.Hi]) 40) <|
      .cons [26] (ok_val (fun ν6 => .pointer (some ⟨((ν1 0).n 0), 1, none⟩)) 26) <|
      .cons [27] (ok_ld (fun ν6 => .int .i64 a0.Hi) 27 43 1 1 (fun ν6 => ((ν1 0).n 0)) (fun ν6 => [.int .i64 a0.Lo, .int .i64 a0.Hi]) 40) <|
      .cons [28] (ok_val (fun ν6 => .int .i64 (w_i64 (a0.Hi * a0.Hi))) 28) <|
      .cons [29] (ok_val (fun ν6 => .int .i64 (mx (w_i64 (a0.Lo * a0.Lo)) (w_i64 (a0.Hi * a0.Hi)))) 29) <|
      .cons [3] (ok_val (fun ν6 => .int .i64 (mn (w_i64 (a0.Lo * a0.Lo)) (w_i64 (a0.Hi * a0.Hi)))) 3) <|
      .cons [4] (ok_val (fun ν6 => .int .i64 (mx (w_i64 (a0.Lo * a0.Lo)) (w_i64 (a0.Hi * a0.Hi)))) 4) <| .nil) (by kernel_rfl) fun ν6 a w' H => ?_
    replace H := H.toL [(1, .slot true (.pointer (some ⟨((ν1 0).n 0), 0, none⟩))), (2, .slot true (.pointer (some ⟨((ν1 1).n 0), 0, none⟩))), (3, .slot true (.int .i64 (mn (w_i64 (a0.Lo * a0.Lo)) (w_i64 (a0.Hi * a0.Hi))))), (4, .slot true (.int .i64 (mx (w_i64 (a0.Lo * a0.Lo)) (w_i64 (a0.Hi * a0.Hi))))), (43, .blk ((ν1 0).n 0) [.int .i64 a0.Lo, .int .i64 a0.Hi] 40), (44, .blk ((ν1 1).n 0) [.int .i64 0, .int .i64 0] 40)] (by kernel_rfl)
    refine k_seq ?_
    replace G := bnd G; obtain ⟨j8, hj8, G⟩ := G
    refine k_join (fun a w' => Rep w.heap.size w 43 (ofL [(2, .slot true (.pointer (some ⟨((ν1 1).n 0), 0, none⟩))), (3, .slot true (.int .i64 j8)), (4, .slot true (.int .i64 (mx (w_i64 (a0.Lo * a0.Lo)) (w_i64 (a0.Hi * a0.Hi))))), (44, .blk ((ν1 1).n 0) [.int .i64 0, .int .i64 0] 40)]) a w') ?_ ?_
    · clear H; intro a w' H
      refine k_seq ?_
      replace G := bnd G; obtain ⟨t10, ht10, G⟩ := G
      replace G := bnd G; obtain ⟨t11, ht11, G⟩ := G
      replace G := bnd G; obtain ⟨t12, ht12, G⟩ := G
      refine k_reg mixed H (.cons [38] (ok_val (fun ν9 => .int .i64 j8) 38) <|
      .cons [39] (ok_callv 98 (fun ν9 => #[.int .i64 j8, .int .i64 65536]) (.int .i64 t10) 39 [] (fun _ w _ => armillaryref02_Floor.calls j8 65536 t10 w ht10)) <|
      .cons [40] (ok_val (fun ν9 => .int .i64 (mx (w_i64 (a0.Lo * a0.Lo)) (w_i64 (a0.Hi * a0.Hi)))) 40) <|
      .cons [41] (ok_callv 99 (fun ν9 => #[.int .i64 (mx (w_i64 (a0.Lo * a0.Lo)) (w_i64 (a0.Hi * a0.Hi))), .int .i64 65536]) (.int .i64 t11) 41 [] (fun _ w _ => armillaryref02_Ceil.calls (mx (w_i64 (a0.Lo * a0.Lo)) (w_i64 (a0.Hi * a0.Hi))) 65536 t11 w ht11)) <|
      .cons [42] (ok_callv 75 (fun ν9 => #[.int .i64 t10, .int .i64 t11]) (.agg #[.int .i64 t12.Lo, .int .i64 t12.Hi]) 42 [] (fun _ w _ => armillaryref02_New.calls t10 t11 t12 w ht12)) <|
      .cons [44] (ok_as (u' := fun ν9 => [(44, .blk ((ν1 1).n 0) [.int .i64 t12.Lo, .int .i64 t12.Hi] 40)]) (ok_store 44 0 (fun ν9 => ((ν1 1).n 0)) (fun ν9 => [.int .i64 0, .int .i64 0]) (fun ν9 => [.int .i64 t12.Lo, .int .i64 t12.Hi]) 40) (fun _ => by kernel_rfl)) <| .nil) (by kernel_rfl) fun ν9 a w' H => ?_
      replace H := H.toL [(2, .slot true (.pointer (some ⟨((ν1 1).n 0), 0, none⟩))), (44, .blk ((ν1 1).n 0) [.int .i64 t12.Lo, .int .i64 t12.Hi] 40)] (by kernel_rfl)
      refine k_ret ?_
      obtain rfl := Option.some.inj G
      exact k_done1 H _ 44 ((ν1 1).n 0) [.int .i64 t12.Lo, .int .i64 t12.Hi] 40 0 2 (by kernel_rfl) (by kernel_rfl) (by kernel_rfl) (by kernel_rfl)
    · clear G; replace G := hj8; clear hj8
      refine k_seq ?_
      refine k_reg mixed H (.cons [30] (ok_val (fun ν13 => .pointer (some ⟨((ν1 0).n 0), 0, none⟩)) 30) <|
      .cons [31] (ok_ld (fun ν13 => .int .i64 a0.Lo) 31 43 0 1 (fun ν13 => ((ν1 0).n 0)) (fun ν13 => [.int .i64 a0.Lo, .int .i64 a0.Hi]) 40) <|
      .cons [32] (ok_val (fun ν13 => .bool (decide (a0.Lo ≤ 0))) 32) <|
      .cons [33] (ok_val (fun ν13 => .bool (decide (a0.Lo ≤ 0))) 33) <|
      .cons [34] (ok_valg (fun ν13 => .pointer (some ⟨((ν1 0).n 0), 1, none⟩)) (fun ν13 => ((decide (a0.Lo ≤ 0)) == true)) [true] 34) <|
      .cons [35] (ok_ldg (fun ν13 => .int .i64 a0.Hi) (fun ν13 => ((decide (a0.Lo ≤ 0)) == true)) [false] 35 43 1 1 (fun ν13 => ((ν1 0).n 0)) (fun ν13 => [.int .i64 a0.Lo, .int .i64 a0.Hi]) 40) <|
      .cons [36] (ok_valg (fun ν13 => .bool (decide (a0.Hi ≥ 0))) (fun ν13 => ((decide (a0.Lo ≤ 0)) == true)) [false, true] 36) <|
      .cons [37] (ok_and 33 36 (fun ν13 => true) (fun ν13 => true) (fun ν13 => decide (a0.Lo ≤ 0)) (fun ν13 => decide (a0.Hi ≥ 0)) 37) <| .nil) (by kernel_rfl) fun ν13 a w' H => ?_
      replace H := H.toL [(2, .slot true (.pointer (some ⟨((ν1 1).n 0), 0, none⟩))), (3, .slot true (.int .i64 (mn (w_i64 (a0.Lo * a0.Lo)) (w_i64 (a0.Hi * a0.Hi))))), (4, .slot true (.int .i64 (mx (w_i64 (a0.Lo * a0.Lo)) (w_i64 (a0.Hi * a0.Hi))))), (37, .slot true (.bool ((decide (a0.Lo ≤ 0)) && (decide (a0.Hi ≥ 0))))), (44, .blk ((ν1 1).n 0) [.int .i64 0, .int .i64 0] 40)] (by kernel_rfl)
      refine k_cond H (by kernel_rfl) (t := ((decide (a0.Lo ≤ 0)) && (decide (a0.Hi ≥ 0)))) (by kernel_rfl) (fun c15 => ?_) (fun c15 => ?_)
      · rw [if_pos c15] at G
        refine k_reg mixed H (.cons [3] (ok_val (fun ν14 => .int .i64 0) 3) <| .nil) (by kernel_rfl) fun ν14 a w' H => ?_
        replace H := H.toL [(2, .slot true (.pointer (some ⟨((ν1 1).n 0), 0, none⟩))), (3, .slot true (.int .i64 0)), (4, .slot true (.int .i64 (mx (w_i64 (a0.Lo * a0.Lo)) (w_i64 (a0.Hi * a0.Hi))))), (44, .blk ((ν1 1).n 0) [.int .i64 0, .int .i64 0] 40)] (by kernel_rfl)
        obtain rfl := Option.some.inj G
        exact H.toL _ (by kernel_rfl)
      · rw [if_neg (nt c15)] at G
        refine k_skip ?_
        obtain rfl := Option.some.inj G
        exact H.toL _ (by kernel_rfl)

set_option maxHeartbeats 4000000 in
theorem armillaryref02_Neg.calls (a0 : TInterval) (r : TInterval) (w : World) (G : armillaryref02_Neg a0 = some r) :
    Calls Try.prog 100 #[.agg #[.int .i64 a0.Lo, .int .i64 a0.Hi]] w fun e w' => e = .returned (.agg #[.int .i64 r.Lo, .int .i64 r.Hi]) ∧ Below w.heap.size w w' := by
  refine k_enter (args := [.agg #[.int .i64 a0.Lo, .int .i64 a0.Hi]]) 10 Try.func100 rfl (by kernel_rfl) (by kernel_rfl) fun a H => ?_
  unfold armillaryref02_Neg at G
  refine k_seq ?_
  refine k_reg mixed H (.cons [1, 10] (ok_new (fun b => .pointer (some ⟨b, 0, none⟩)) (fun ν1 => [.int .i64 a0.Lo, .int .i64 a0.Hi]) 40 1 10) <|
      .cons [2, 11] (ok_new (fun b => .pointer (some ⟨b, 0, none⟩)) (fun ν1 => [.int .i64 0, .int .i64 0]) 40 2 11) <| .nil) (by kernel_rfl) fun ν1 a w' H => ?_
  replace H := H.toL [(1, .slot true (.pointer (some ⟨((ν1 0).n 0), 0, none⟩))), (2, .slot true (.pointer (some ⟨((ν1 1).n 0), 0, none⟩))), (10, .blk ((ν1 0).n 0) [.int .i64 a0.Lo, .int .i64 a0.Hi] 40), (11, .blk ((ν1 1).n 0) [.int .i64 0, .int .i64 0] 40)] (by kernel_rfl)
  refine k_seq ?_
  refine k_reg mixed H (.cons [3] (ok_val (fun ν2 => .pointer (some ⟨((ν1 0).n 0), 1, none⟩)) 3) <|
      .cons [4] (ok_ld (fun ν2 => .int .i64 a0.Hi) 4 10 1 1 (fun ν2 => ((ν1 0).n 0)) (fun ν2 => [.int .i64 a0.Lo, .int .i64 a0.Hi]) 40) <|
      .cons [5] (ok_val (fun ν2 => .int .i64 (w_i64 (0 - a0.Hi))) 5) <|
      .cons [6] (ok_val (fun ν2 => .pointer (some ⟨((ν1 0).n 0), 0, none⟩)) 6) <|
      .cons [7] (ok_ld (fun ν2 => .int .i64 a0.Lo) 7 10 0 1 (fun ν2 => ((ν1 0).n 0)) (fun ν2 => [.int .i64 a0.Lo, .int .i64 a0.Hi]) 40) <|
      .cons [8] (ok_val (fun ν2 => .int .i64 (w_i64 (0 - a0.Lo))) 8) <|
      .cons [9] (ok_val (fun ν2 => .agg #[.int .i64 (w_i64 (0 - a0.Hi)), .int .i64 (w_i64 (0 - a0.Lo))]) 9) <|
      .cons [11] (ok_as (u' := fun ν2 => [(11, .blk ((ν1 1).n 0) [.int .i64 (w_i64 (0 - a0.Hi)), .int .i64 (w_i64 (0 - a0.Lo))] 40)]) (ok_store 11 0 (fun ν2 => ((ν1 1).n 0)) (fun ν2 => [.int .i64 0, .int .i64 0]) (fun ν2 => [.int .i64 (w_i64 (0 - a0.Hi)), .int .i64 (w_i64 (0 - a0.Lo))]) 40) (fun _ => by kernel_rfl)) <| .nil) (by kernel_rfl) fun ν2 a w' H => ?_
  replace H := H.toL [(2, .slot true (.pointer (some ⟨((ν1 1).n 0), 0, none⟩))), (11, .blk ((ν1 1).n 0) [.int .i64 (w_i64 (0 - a0.Hi)), .int .i64 (w_i64 (0 - a0.Lo))] 40)] (by kernel_rfl)
  refine k_ret ?_
  obtain rfl := Option.some.inj G
  exact k_done1 H _ 11 ((ν1 1).n 0) [.int .i64 (w_i64 (0 - a0.Hi)), .int .i64 (w_i64 (0 - a0.Lo))] 40 0 2 (by kernel_rfl) (by kernel_rfl) (by kernel_rfl) (by kernel_rfl)

set_option maxHeartbeats 4000000 in
theorem armillaryref02_Sub.calls (a0 : TInterval) (a1 : TInterval) (r : TInterval) (w : World) (G : armillaryref02_Sub a0 a1 = some r) :
    Calls Try.prog 70 #[.agg #[.int .i64 a0.Lo, .int .i64 a0.Hi], .agg #[.int .i64 a1.Lo, .int .i64 a1.Hi]] w fun e w' => e = .returned (.agg #[.int .i64 r.Lo, .int .i64 r.Hi]) ∧ Below w.heap.size w w' := by
  refine k_enter (args := [.agg #[.int .i64 a0.Lo, .int .i64 a0.Hi], .agg #[.int .i64 a1.Lo, .int .i64 a1.Hi]]) 9 Try.func70 rfl (by kernel_rfl) (by kernel_rfl) fun a H => ?_
  unfold armillaryref02_Sub at G
  refine k_seq ?_
  refine k_reg mixed H (.cons [2, 9] (ok_new (fun b => .pointer (some ⟨b, 0, none⟩)) (fun ν1 => [.int .i64 a0.Lo, .int .i64 a0.Hi]) 40 2 9) <|
      .cons [3, 10] (ok_new (fun b => .pointer (some ⟨b, 0, none⟩)) (fun ν1 => [.int .i64 a1.Lo, .int .i64 a1.Hi]) 40 3 10) <|
      .cons [4, 11] (ok_new (fun b => .pointer (some ⟨b, 0, none⟩)) (fun ν1 => [.int .i64 0, .int .i64 0]) 40 4 11) <| .nil) (by kernel_rfl) fun ν1 a w' H => ?_
  replace H := H.toL [(2, .slot true (.pointer (some ⟨((ν1 0).n 0), 0, none⟩))), (3, .slot true (.pointer (some ⟨((ν1 1).n 0), 0, none⟩))), (4, .slot true (.pointer (some ⟨((ν1 2).n 0), 0, none⟩))), (9, .blk ((ν1 0).n 0) [.int .i64 a0.Lo, .int .i64 a0.Hi] 40), (10, .blk ((ν1 1).n 0) [.int .i64 a1.Lo, .int .i64 a1.Hi] 40), (11, .blk ((ν1 2).n 0) [.int .i64 0, .int .i64 0] 40)] (by kernel_rfl)
  refine k_seq ?_
  replace G := bnd G; obtain ⟨t3, ht3, G⟩ := G
  replace G := bnd G; obtain ⟨t4, ht4, G⟩ := G
  refine k_reg mixed H (.cons [5] (ok_ld (fun ν2 => .agg #[.int .i64 a0.Lo, .int .i64 a0.Hi]) 5 9 0 2 (fun ν2 => ((ν1 0).n 0)) (fun ν2 => [.int .i64 a0.Lo, .int .i64 a0.Hi]) 40) <|
      .cons [6] (ok_ld (fun ν2 => .agg #[.int .i64 a1.Lo, .int .i64 a1.Hi]) 6 10 0 2 (fun ν2 => ((ν1 1).n 0)) (fun ν2 => [.int .i64 a1.Lo, .int .i64 a1.Hi]) 40) <|
      .cons [7] (ok_callv 100 (fun ν2 => #[.agg #[.int .i64 a1.Lo, .int .i64 a1.Hi]]) (.agg #[.int .i64 t3.Lo, .int .i64 t3.Hi]) 7 [] (fun _ w _ => armillaryref02_Neg.calls a1 t3 w ht3)) <|
      .cons [8] (ok_callv 68 (fun ν2 => #[.agg #[.int .i64 a0.Lo, .int .i64 a0.Hi], .agg #[.int .i64 t3.Lo, .int .i64 t3.Hi]]) (.agg #[.int .i64 t4.Lo, .int .i64 t4.Hi]) 8 [] (fun _ w _ => armillaryref02_Add.calls a0 t3 t4 w ht4)) <|
      .cons [11] (ok_as (u' := fun ν2 => [(11, .blk ((ν1 2).n 0) [.int .i64 t4.Lo, .int .i64 t4.Hi] 40)]) (ok_store 11 0 (fun ν2 => ((ν1 2).n 0)) (fun ν2 => [.int .i64 0, .int .i64 0]) (fun ν2 => [.int .i64 t4.Lo, .int .i64 t4.Hi]) 40) (fun _ => by kernel_rfl)) <| .nil) (by kernel_rfl) fun ν2 a w' H => ?_
  replace H := H.toL [(4, .slot true (.pointer (some ⟨((ν1 2).n 0), 0, none⟩))), (11, .blk ((ν1 2).n 0) [.int .i64 t4.Lo, .int .i64 t4.Hi] 40)] (by kernel_rfl)
  refine k_ret ?_
  obtain rfl := Option.some.inj G
  exact k_done1 H _ 11 ((ν1 2).n 0) [.int .i64 t4.Lo, .int .i64 t4.Hi] 40 0 2 (by kernel_rfl) (by kernel_rfl) (by kernel_rfl) (by kernel_rfl)

set_option maxHeartbeats 4000000 in
theorem armillaryref03_SquaredDistance.calls (k0 : Nat) (a0 : List TInterval) (a1 : List TInterval) (p_a0 : Option Addr) (c_a0 : Nat) (p_a1 : Option Addr) (c_a1 : Nat) (r : TInterval) (w : World) (R_p_a0 : RowAt w 2 p_a0 a0.length (a0.flatMap en_TInterval)) (R_p_a1 : RowAt w 2 p_a1 a1.length (a1.flatMap en_TInterval)) (G : armillaryref03_SquaredDistance k0 a0 a1 = some r) :
    Calls Try.prog 29 #[.slice p_a0 a0.length c_a0, .slice p_a1 a1.length c_a1] w fun e w' => e = .returned (.agg #[.int .i64 r.Lo, .int .i64 r.Hi]) ∧ Below w.heap.size w w' := by
  refine k_enterF (args := [.slice p_a0 a0.length c_a0, .slice p_a1 a1.length c_a1]) 27 [(27, rdK 2 p_a0 a0.length (a0.flatMap en_TInterval)), (28, rdK 2 p_a1 a1.length (a1.flatMap en_TInterval))] (by
    intro x hx
    simp only [List.mem_cons, List.not_mem_nil, or_false] at hx
    rcases hx with rfl | rfl
    · exact rd_fact R_p_a0 (by decide) _
    · exact rd_fact R_p_a1 (by decide) _) Try.func29 rfl (by kernel_rfl) (by kernel_rfl) fun a H => ?_
  unfold armillaryref03_SquaredDistance at G
  refine k_seq ?_
  refine k_reg mixed H (.cons [4, 29] (ok_new (fun b => .pointer (some ⟨b, 0, none⟩)) (fun ν1 => [.int .i64 0, .int .i64 0]) 40 4 29) <| .nil) (by kernel_rfl) fun ν1 a w' H => ?_
  replace H := H.toL [(0, .slot true (.slice p_a0 a0.length c_a0)), (1, .slot true (.slice p_a1 a1.length c_a1)), (4, .slot true (.pointer (some ⟨((ν1 0).n 0), 0, none⟩))), (29, .blk ((ν1 0).n 0) [.int .i64 0, .int .i64 0] 40), (27, rdK 2 p_a0 a0.length (a0.flatMap en_TInterval)), (28, rdK 2 p_a1 a1.length (a1.flatMap en_TInterval))] (by kernel_rfl)
  refine k_seq ?_
  refine k_reg mixed H (.cons [7] (ok_val (fun ν2 => .agg #[.int .i64 0, .int .i64 0]) 7) <|
      .cons [5, 30] (ok_new (fun b => .pointer (some ⟨b, 0, none⟩)) (fun ν2 => [.int .i64 0, .int .i64 0]) 40 5 30) <|
      .cons [30] (ok_as (u' := fun ν2 => [(30, .blk ((ν2 1).n 0) [.int .i64 0, .int .i64 0] 40)]) (ok_store 30 0 (fun ν2 => ((ν2 1).n 0)) (fun ν2 => [.int .i64 0, .int .i64 0]) (fun ν2 => [.int .i64 0, .int .i64 0]) 40) (fun _ => by kernel_rfl)) <| .nil) (by kernel_rfl) fun ν2 a w' H => ?_
  replace H := H.toL [(0, .slot true (.slice p_a0 a0.length c_a0)), (1, .slot true (.slice p_a1 a1.length c_a1)), (4, .slot true (.pointer (some ⟨((ν1 0).n 0), 0, none⟩))), (5, .slot true (.pointer (some ⟨((ν2 1).n 0), 0, none⟩))), (29, .blk ((ν1 0).n 0) [.int .i64 0, .int .i64 0] 40), (30, .blk ((ν2 1).n 0) [.int .i64 0, .int .i64 0] 40), (27, rdK 2 p_a0 a0.length (a0.flatMap en_TInterval)), (28, rdK 2 p_a1 a1.length (a1.flatMap en_TInterval))] (by kernel_rfl)
  refine k_seq ?_
  replace G := bnd G; obtain ⟨j5, hj5, G⟩ := G
  refine k_join (fun a w' => Rep w.heap.size w 27 (ofL [(4, .slot true (.pointer (some ⟨((ν1 0).n 0), 0, none⟩))), (5, .slot true (.pointer (some ⟨((ν2 1).n 0), 0, none⟩))), (29, .blk ((ν1 0).n 0) [.int .i64 0, .int .i64 0] 40), (30, .blk ((ν2 1).n 0) [.int .i64 j5.1, .int .i64 j5.2] 40)]) a w') ?_ ?_
  · clear H; intro a w' H
    refine k_seq ?_
    refine k_reg mixed H (.cons [26] (ok_ld (fun ν6 => .agg #[.int .i64 j5.1, .int .i64 j5.2]) 26 30 0 2 (fun ν6 => ((ν2 1).n 0)) (fun ν6 => [.int .i64 j5.1, .int .i64 j5.2]) 40) <|
      .cons [29] (ok_as (u' := fun ν6 => [(29, .blk ((ν1 0).n 0) [.int .i64 j5.1, .int .i64 j5.2] 40)]) (ok_store 29 0 (fun ν6 => ((ν1 0).n 0)) (fun ν6 => [.int .i64 0, .int .i64 0]) (fun ν6 => [.int .i64 j5.1, .int .i64 j5.2]) 40) (fun _ => by kernel_rfl)) <| .nil) (by kernel_rfl) fun ν6 a w' H => ?_
    replace H := H.toL [(4, .slot true (.pointer (some ⟨((ν1 0).n 0), 0, none⟩))), (29, .blk ((ν1 0).n 0) [.int .i64 j5.1, .int .i64 j5.2] 40)] (by kernel_rfl)
    refine k_ret ?_
    obtain rfl := Option.some.inj G
    exact k_done1 H _ 29 ((ν1 0).n 0) [.int .i64 j5.1, .int .i64 j5.2] 40 0 2 (by kernel_rfl) (by kernel_rfl) (by kernel_rfl) (by kernel_rfl)
  · clear G; replace G := hj5; clear hj5
    refine k_seq ?_
    refine k_reg mixed H (.cons [6] (ok_val (fun ν7 => .int .i64 0) 6) <| .nil) (by kernel_rfl) fun ν7 a w' H => ?_
    replace H := H.toL [(0, .slot true (.slice p_a0 a0.length c_a0)), (1, .slot true (.slice p_a1 a1.length c_a1)), (4, .slot true (.pointer (some ⟨((ν1 0).n 0), 0, none⟩))), (5, .slot true (.pointer (some ⟨((ν2 1).n 0), 0, none⟩))), (6, .slot true (.int .i64 0)), (29, .blk ((ν1 0).n 0) [.int .i64 0, .int .i64 0] 40), (30, .blk ((ν2 1).n 0) [.int .i64 0, .int .i64 0] 40), (27, rdK 2 p_a0 a0.length (a0.flatMap en_TInterval)), (28, rdK 2 p_a1 a1.length (a1.flatMap en_TInterval))] (by kernel_rfl)
    refine k_block ?_
    refine k_loopJ (fun m a w' => ∃ x8 : Int, ∃ x9 : Int, ∃ x10 : Int, armillaryref03_SquaredDistance.l11 k0 a0 a1 m x8 x9 x10 = some j5 ∧ Rep w.heap.size w 27 (ofL [(0, .slot true (.slice p_a0 a0.length c_a0)), (1, .slot true (.slice p_a1 a1.length c_a1)), (4, .slot true (.pointer (some ⟨((ν1 0).n 0), 0, none⟩))), (5, .slot true (.pointer (some ⟨((ν2 1).n 0), 0, none⟩))), (6, .slot true (.int .i64 x8)), (29, .blk ((ν1 0).n 0) [.int .i64 0, .int .i64 0] 40), (30, .blk ((ν2 1).n 0) [.int .i64 x9, .int .i64 x10] 40), (27, rdK 2 p_a0 a0.length (a0.flatMap en_TInterval)), (28, rdK 2 p_a1 a1.length (a1.flatMap en_TInterval))]) a w') k0 ⟨_, _, _, G, H.toL _ (by kernel_rfl)⟩ ?_
    clear G H
    rintro (_ | k) a w' ⟨x8, x9, x10, G, H⟩
    · exact absurd G (by unfold armillaryref03_SquaredDistance.l11; exact fun h => by cases h)
    · unfold armillaryref03_SquaredDistance.l11 at G
      refine k_seq ?_
      refine k_seq ?_
      refine k_reg mixed H (.cons [8] (ok_val (fun ν12 => .int .i64 x8) 8) <|
      .cons [9] (ok_val (fun ν12 => .slice p_a0 a0.length c_a0) 9) <|
      .cons [10] (ok_val (fun ν12 => .int .i64 (a0.length : Int)) 10) <|
      .cons [11] (ok_val (fun ν12 => .bool (decide (x8 < (a0.length : Int)))) 11) <| .nil) (by kernel_rfl) fun ν12 a w' H => ?_
      replace H := H.toL [(0, .slot true (.slice p_a0 a0.length c_a0)), (1, .slot true (.slice p_a1 a1.length c_a1)), (4, .slot true (.pointer (some ⟨((ν1 0).n 0), 0, none⟩))), (5, .slot true (.pointer (some ⟨((ν2 1).n 0), 0, none⟩))), (6, .slot true (.int .i64 x8)), (8, .slot true (.int .i64 x8)), (9, .slot true (.slice p_a0 a0.length c_a0)), (10, .slot true (.int .i64 (a0.length : Int))), (11, .slot true (.bool (decide (x8 < (a0.length : Int))))), (29, .blk ((ν1 0).n 0) [.int .i64 0, .int .i64 0] 40), (30, .blk ((ν2 1).n 0) [.int .i64 x9, .int .i64 x10] 40), (27, rdK 2 p_a0 a0.length (a0.flatMap en_TInterval)), (28, rdK 2 p_a1 a1.length (a1.flatMap en_TInterval))] (by kernel_rfl)
      refine k_cond H (by kernel_rfl) (t := decide (x8 < (a0.length : Int))) (by kernel_rfl) (fun c22 => ?_) (fun c22 => ?_)
      · rw [if_pos c22] at G
        refine k_skip ?_
        refine k_seq ?_
        refine k_block ?_
        replace G := gd G; obtain ⟨b14, G⟩ := G
        replace G := bnd G; obtain ⟨t15, ht15, G⟩ := G
        replace G := gd G; obtain ⟨b16, G⟩ := G
        replace G := bnd G; obtain ⟨t17, ht17, G⟩ := G
        replace G := bnd G; obtain ⟨t18, ht18, G⟩ := G
        replace G := bnd G; obtain ⟨t19, ht19, G⟩ := G
        replace G := bnd G; obtain ⟨t20, ht20, G⟩ := G
        refine k_reg mixed H (.cons [14] (ok_ld (fun ν13 => .agg #[.int .i64 x9, .int .i64 x10]) 14 30 0 2 (fun ν13 => ((ν2 1).n 0)) (fun ν13 => [.int .i64 x9, .int .i64 x10]) 40) <|
      .cons [15] (ok_val (fun ν13 => .slice p_a0 a0.length c_a0) 15) <|
      .cons [16] (ok_val (fun ν13 => .int .i64 x8) 16) <|
      .cons [17] (ok_valL [27] (fun ν13 => [rdK 2 p_a0 a0.length (a0.flatMap en_TInterval)]) (fun ν13 => .pointer (some ⟨hdB p_a0, hdO p_a0 + x8.toNat * 2, none⟩)) (fun ν13 => true) [true, true] 17 (fun ν13 w hg hF => run_of (by kernel_rfl) (run_ix (t := 22) (p := p_a0) (n := a0.length) (cap := c_a0) (k := .i64) (i := x8) (sz := 2) (by kernel_rfl) (by kernel_rfl) (rd_of hF.1) b14))) <|
      .cons [18] (ok_valL [27] (fun ν13 => [rdK 2 p_a0 a0.length (a0.flatMap en_TInterval)]) (fun ν13 => .agg #[.int .i64 t15.Lo, .int .i64 t15.Hi]) (fun ν13 => true) [true] 18 (fun ν13 w hg hF => ld_of (vs := [.int .i64 t15.Lo, .int .i64 t15.Hi]) (b := hdB p_a0) (off := hdO p_a0 + x8.toNat * 2 + 0) (m := 2) (by kernel_rfl) (el_cells (rd_of hF.1) en_TInterval_len ht15 0 2 rfl))) <|
      .cons [19] (ok_val (fun ν13 => .slice p_a1 a1.length c_a1) 19) <|
      .cons [20] (ok_val (fun ν13 => .int .i64 x8) 20) <|
      .cons [21] (ok_valL [28] (fun ν13 => [rdK 2 p_a1 a1.length (a1.flatMap en_TInterval)]) (fun ν13 => .pointer (some ⟨hdB p_a1, hdO p_a1 + x8.toNat * 2, none⟩)) (fun ν13 => true) [true, true] 21 (fun ν13 w hg hF => run_of (by kernel_rfl) (run_ix (t := 22) (p := p_a1) (n := a1.length) (cap := c_a1) (k := .i64) (i := x8) (sz := 2) (by kernel_rfl) (by kernel_rfl) (rd_of hF.1) b16))) <|
      .cons [22] (ok_valL [28] (fun ν13 => [rdK 2 p_a1 a1.length (a1.flatMap en_TInterval)]) (fun ν13 => .agg #[.int .i64 t17.Lo, .int .i64 t17.Hi]) (fun ν13 => true) [true] 22 (fun ν13 w hg hF => ld_of (vs := [.int .i64 t17.Lo, .int .i64 t17.Hi]) (b := hdB p_a1) (off := hdO p_a1 + x8.toNat * 2 + 0) (m := 2) (by kernel_rfl) (el_cells (rd_of hF.1) en_TInterval_len ht17 0 2 rfl))) <|
      .cons [23] (ok_callv 70 (fun ν13 => #[.agg #[.int .i64 t15.Lo, .int .i64 t15.Hi], .agg #[.int .i64 t17.Lo, .int .i64 t17.Hi]]) (.agg #[.int .i64 t18.Lo, .int .i64 t18.Hi]) 23 [] (fun _ w _ => armillaryref02_Sub.calls t15 t17 t18 w ht18)) <|
      .cons [24] (ok_callv 69 (fun ν13 => #[.agg #[.int .i64 t18.Lo, .int .i64 t18.Hi]]) (.agg #[.int .i64 t19.Lo, .int .i64 t19.Hi]) 24 [] (fun _ w _ => armillaryref02_Square.calls t18 t19 w ht19)) <|
      .cons [25] (ok_callv 68 (fun ν13 => #[.agg #[.int .i64 x9, .int .i64 x10], .agg #[.int .i64 t19.Lo, .int .i64 t19.Hi]]) (.agg #[.int .i64 t20.Lo, .int .i64 t20.Hi]) 25 [] (fun _ w _ => armillaryref02_Add.calls (⟨x9, x10⟩ : TInterval) t19 t20 w ht20)) <|
      .cons [30] (ok_as (u' := fun ν13 => [(30, .blk ((ν2 1).n 0) [.int .i64 t20.Lo, .int .i64 t20.Hi] 40)]) (ok_store 30 0 (fun ν13 => ((ν2 1).n 0)) (fun ν13 => [.int .i64 x9, .int .i64 x10]) (fun ν13 => [.int .i64 t20.Lo, .int .i64 t20.Hi]) 40) (fun _ => by kernel_rfl)) <| .nil) (by kernel_rfl) fun ν13 a w' H => ?_
        replace H := H.toL [(0, .slot true (.slice p_a0 a0.length c_a0)), (1, .slot true (.slice p_a1 a1.length c_a1)), (4, .slot true (.pointer (some ⟨((ν1 0).n 0), 0, none⟩))), (5, .slot true (.pointer (some ⟨((ν2 1).n 0), 0, none⟩))), (6, .slot true (.int .i64 x8)), (8, .slot true (.int .i64 x8)), (9, .slot true (.slice p_a0 a0.length c_a0)), (10, .slot true (.int .i64 (a0.length : Int))), (11, .slot true (.bool (decide (x8 < (a0.length : Int))))), (14, .slot true (.agg #[.int .i64 x9, .int .i64 x10])), (15, .slot true (.slice p_a0 a0.length c_a0)), (16, .slot true (.int .i64 x8)), (17, .slot true (.pointer (some ⟨hdB p_a0, hdO p_a0 + x8.toNat * 2, none⟩))), (18, .slot true (.agg #[.int .i64 t15.Lo, .int .i64 t15.Hi])), (19, .slot true (.slice p_a1 a1.length c_a1)), (20, .slot true (.int .i64 x8)), (21, .slot true (.pointer (some ⟨hdB p_a1, hdO p_a1 + x8.toNat * 2, none⟩))), (22, .slot true (.agg #[.int .i64 t17.Lo, .int .i64 t17.Hi])), (23, .slot true (.agg #[.int .i64 t18.Lo, .int .i64 t18.Hi])), (24, .slot true (.agg #[.int .i64 t19.Lo, .int .i64 t19.Hi])), (25, .slot true (.agg #[.int .i64 t20.Lo, .int .i64 t20.Hi])), (29, .blk ((ν1 0).n 0) [.int .i64 0, .int .i64 0] 40), (30, .blk ((ν2 1).n 0) [.int .i64 t20.Lo, .int .i64 t20.Hi] 40), (27, rdK 2 p_a0 a0.length (a0.flatMap en_TInterval)), (28, rdK 2 p_a1 a1.length (a1.flatMap en_TInterval))] (by kernel_rfl)
        refine k_reg mixed H (.cons [12] (ok_val (fun ν21 => .int .i64 x8) 12) <|
      .cons [13] (ok_val (fun ν21 => .int .i64 (w_i64 (x8 + 1))) 13) <|
      .cons [6] (ok_val (fun ν21 => .int .i64 (w_i64 (x8 + 1))) 6) <| .nil) (by kernel_rfl) fun ν21 a w' H => ?_
        replace H := H.toL [(0, .slot true (.slice p_a0 a0.length c_a0)), (1, .slot true (.slice p_a1 a1.length c_a1)), (4, .slot true (.pointer (some ⟨((ν1 0).n 0), 0, none⟩))), (5, .slot true (.pointer (some ⟨((ν2 1).n 0), 0, none⟩))), (6, .slot true (.int .i64 (w_i64 (x8 + 1)))), (8, .slot true (.int .i64 x8)), (9, .slot true (.slice p_a0 a0.length c_a0)), (10, .slot true (.int .i64 (a0.length : Int))), (11, .slot true (.bool (decide (x8 < (a0.length : Int))))), (12, .slot true (.int .i64 x8)), (13, .slot true (.int .i64 (w_i64 (x8 + 1)))), (14, .slot true (.agg #[.int .i64 x9, .int .i64 x10])), (15, .slot true (.slice p_a0 a0.length c_a0)), (16, .slot true (.int .i64 x8)), (17, .slot true (.pointer (some ⟨hdB p_a0, hdO p_a0 + x8.toNat * 2, none⟩))), (18, .slot true (.agg #[.int .i64 t15.Lo, .int .i64 t15.Hi])), (19, .slot true (.slice p_a1 a1.length c_a1)), (20, .slot true (.int .i64 x8)), (21, .slot true (.pointer (some ⟨hdB p_a1, hdO p_a1 + x8.toNat * 2, none⟩))), (22, .slot true (.agg #[.int .i64 t17.Lo, .int .i64 t17.Hi])), (23, .slot true (.agg #[.int .i64 t18.Lo, .int .i64 t18.Hi])), (24, .slot true (.agg #[.int .i64 t19.Lo, .int .i64 t19.Hi])), (25, .slot true (.agg #[.int .i64 t20.Lo, .int .i64 t20.Hi])), (29, .blk ((ν1 0).n 0) [.int .i64 0, .int .i64 0] 40), (30, .blk ((ν2 1).n 0) [.int .i64 t20.Lo, .int .i64 t20.Hi] 40), (27, rdK 2 p_a0 a0.length (a0.flatMap en_TInterval)), (28, rdK 2 p_a1 a1.length (a1.flatMap en_TInterval))] (by kernel_rfl)
        exact ⟨k, Nat.lt_succ_self k, _, _, _, G, H.toL _ (by kernel_rfl)⟩
      · rw [if_neg (nt c22)] at G
        refine k_exit rfl ?_
        obtain rfl := Option.some.inj G
        exact H.toL _ (by kernel_rfl)

set_option maxHeartbeats 4000000 in
theorem armillaryref01_Down.calls (a0 : Int) (a1 : Int) (r : Int) (w : World) (G : armillaryref01_Down a0 a1 = some r) :
    Calls Try.prog 89 #[.int .i64 a0, .int .i64 a1] w fun e w' => e = .returned (.int .i64 r) ∧ Below w.heap.size w w' := by
  refine k_enter (args := [.int .i64 a0, .int .i64 a1]) 23 Try.func89 rfl (by kernel_rfl) (by kernel_rfl) fun a H => ?_
  unfold armillaryref01_Down at G
  refine k_seq ?_
  refine k_reg mixed H (.cons [4] (ok_val (fun ν1 => .int .i64 0) 4) <| .nil) (by kernel_rfl) fun ν1 a w' H => ?_
  replace H := H.toL [(0, .slot true (.int .i64 a0)), (1, .slot true (.int .i64 a1)), (4, .slot true (.int .i64 0))] (by kernel_rfl)
  refine k_seq ?_
  replace G := gd G; obtain ⟨n3, G⟩ := G
  refine k_reg mixed H (.cons [6] (ok_val (fun ν2 => .int .i64 a0) 6) <|
      .cons [7] (ok_val (fun ν2 => .int .i64 a1) 7) <|
      .cons [8] (ok_val (fun ν2 => .int .i64 (w_i64 (Int.tdiv a0 a1))) 8 (hv := fun _ _ => run_of (by kernel_rfl) (run_quo (k := .i64) (x := a0) (y := a1) n3))) <|
      .cons [5] (ok_val (fun ν2 => .int .i64 (w_i64 (Int.tdiv a0 a1))) 5) <| .nil) (by kernel_rfl) fun ν2 a w' H => ?_
  replace H := H.toL [(0, .slot true (.int .i64 a0)), (1, .slot true (.int .i64 a1)), (4, .slot true (.int .i64 0)), (5, .slot true (.int .i64 (w_i64 (Int.tdiv a0 a1))))] (by kernel_rfl)
  refine k_seq ?_
  replace G := bnd G; obtain ⟨j5, hj5, G⟩ := G
  refine k_join (fun a w' => Rep w.heap.size w 23 (ofL [(4, .slot true (.int .i64 0)), (5, .slot true (.int .i64 j5))]) a w') ?_ ?_
  · clear H; intro a w' H
    refine k_seq ?_
    refine k_reg mixed H (.cons [22] (ok_val (fun ν6 => .int .i64 j5) 22) <|
      .cons [4] (ok_val (fun ν6 => .int .i64 j5) 4) <| .nil) (by kernel_rfl) fun ν6 a w' H => ?_
    replace H := H.toL [(4, .slot true (.int .i64 j5))] (by kernel_rfl)
    refine k_ret ?_
    obtain rfl := Option.some.inj G
    exact k_done0 H _ (by kernel_rfl) (by kernel_rfl)
  · clear G; replace G := hj5; clear hj5
    refine k_seq ?_
    replace G := gd G; obtain ⟨n8, G⟩ := G
    refine k_reg mixed H (.cons [9] (ok_val (fun ν7 => .int .i64 a0) 9) <|
      .cons [10] (ok_val (fun ν7 => .int .i64 a1) 10) <|
      .cons [11] (ok_val (fun ν7 => .int .i64 (Int.tmod a0 a1)) 11 (hv := fun _ _ => run_of (by kernel_rfl) (run_rem (k := .i64) (x := a0) (y := a1) n8))) <|
      .cons [12] (ok_val (fun ν7 => .bool ((Int.tmod a0 a1) != 0)) 12) <|
      .cons [13] (ok_val (fun ν7 => .bool ((Int.tmod a0 a1) != 0)) 13) <|
      .cons [14] (ok_valg (fun ν7 => .int .i64 a0) (fun ν7 => (((Int.tmod a0 a1) != 0) == true)) [true] 14) <|
      .cons [15] (ok_valg (fun ν7 => .bool (decide (a0 < 0))) (fun ν7 => (((Int.tmod a0 a1) != 0) == true)) [false, true] 15) <|
      .cons [16] (ok_valg (fun ν7 => .int .i64 a1) (fun ν7 => (((Int.tmod a0 a1) != 0) == true)) [true] 16) <|
      .cons [17] (ok_valg (fun ν7 => .bool (decide (a1 < 0))) (fun ν7 => (((Int.tmod a0 a1) != 0) == true)) [false, true] 17) <|
      .cons [18] (ok_valg (fun ν7 => .bool (!((decide (a0 < 0)) == (decide (a1 < 0))))) (fun ν7 => (((Int.tmod a0 a1) != 0) == true)) [false, false] 18) <|
      .cons [19] (ok_and 13 18 (fun ν7 => true) (fun ν7 => true) (fun ν7 => ((Int.tmod a0 a1) != 0)) (fun ν7 => (!((decide (a0 < 0)) == (decide (a1 < 0))))) 19) <| .nil) (by kernel_rfl) fun ν7 a w' H => ?_
    replace H := H.toL [(4, .slot true (.int .i64 0)), (5, .slot true (.int .i64 (w_i64 (Int.tdiv a0 a1)))), (19, .slot true (.bool (((Int.tmod a0 a1) != 0) && (!((decide (a0 < 0)) == (decide (a1 < 0)))))))] (by kernel_rfl)
    refine k_cond H (by kernel_rfl) (t := (((Int.tmod a0 a1) != 0) && (!((decide (a0 < 0)) == (decide (a1 < 0)))))) (by kernel_rfl) (fun c10 => ?_) (fun c10 => ?_)
    · rw [if_pos c10] at G
      refine k_reg mixed H (.cons [20] (ok_val (fun ν9 => .int .i64 (w_i64 (Int.tdiv a0 a1))) 20) <|
      .cons [21] (ok_val (fun ν9 => .int .i64 (w_i64 ((w_i64 (Int.tdiv a0 a1)) - 1))) 21) <|
      .cons [5] (ok_val (fun ν9 => .int .i64 (w_i64 ((w_i64 (Int.tdiv a0 a1)) - 1))) 5) <| .nil) (by kernel_rfl) fun ν9 a w' H => ?_
      replace H := H.toL [(4, .slot true (.int .i64 0)), (5, .slot true (.int .i64 (w_i64 ((w_i64 (Int.tdiv a0 a1)) - 1))))] (by kernel_rfl)
      obtain rfl := Option.some.inj G
      exact H.toL _ (by kernel_rfl)
    · rw [if_neg (nt c10)] at G
      refine k_skip ?_
      obtain rfl := Option.some.inj G
      exact H.toL _ (by kernel_rfl)

set_option maxHeartbeats 4000000 in
theorem armillaryref01_Up.calls (a0 : Int) (a1 : Int) (r : Int) (w : World) (G : armillaryref01_Up a0 a1 = some r) :
    Calls Try.prog 90 #[.int .i64 a0, .int .i64 a1] w fun e w' => e = .returned (.int .i64 r) ∧ Below w.heap.size w w' := by
  refine k_enter (args := [.int .i64 a0, .int .i64 a1]) 23 Try.func90 rfl (by kernel_rfl) (by kernel_rfl) fun a H => ?_
  unfold armillaryref01_Up at G
  refine k_seq ?_
  refine k_reg mixed H (.cons [4] (ok_val (fun ν1 => .int .i64 0) 4) <| .nil) (by kernel_rfl) fun ν1 a w' H => ?_
  replace H := H.toL [(0, .slot true (.int .i64 a0)), (1, .slot true (.int .i64 a1)), (4, .slot true (.int .i64 0))] (by kernel_rfl)
  refine k_seq ?_
  replace G := gd G; obtain ⟨n3, G⟩ := G
  refine k_reg mixed H (.cons [6] (ok_val (fun ν2 => .int .i64 a0) 6) <|
      .cons [7] (ok_val (fun ν2 => .int .i64 a1) 7) <|
      .cons [8] (ok_val (fun ν2 => .int .i64 (w_i64 (Int.tdiv a0 a1))) 8 (hv := fun _ _ => run_of (by kernel_rfl) (run_quo (k := .i64) (x := a0) (y := a1) n3))) <|
      .cons [5] (ok_val (fun ν2 => .int .i64 (w_i64 (Int.tdiv a0 a1))) 5) <| .nil) (by kernel_rfl) fun ν2 a w' H => ?_
  replace H := H.toL [(0, .slot true (.int .i64 a0)), (1, .slot true (.int .i64 a1)), (4, .slot true (.int .i64 0)), (5, .slot true (.int .i64 (w_i64 (Int.tdiv a0 a1))))] (by kernel_rfl)
  refine k_seq ?_
  replace G := bnd G; obtain ⟨j5, hj5, G⟩ := G
  refine k_join (fun a w' => Rep w.heap.size w 23 (ofL [(4, .slot true (.int .i64 0)), (5, .slot true (.int .i64 j5))]) a w') ?_ ?_
  · clear H; intro a w' H
    refine k_seq ?_
    refine k_reg mixed H (.cons [22] (ok_val (fun ν6 => .int .i64 j5) 22) <|
      .cons [4] (ok_val (fun ν6 => .int .i64 j5) 4) <| .nil) (by kernel_rfl) fun ν6 a w' H => ?_
    replace H := H.toL [(4, .slot true (.int .i64 j5))] (by kernel_rfl)
    refine k_ret ?_
    obtain rfl := Option.some.inj G
    exact k_done0 H _ (by kernel_rfl) (by kernel_rfl)
  · clear G; replace G := hj5; clear hj5
    refine k_seq ?_
    replace G := gd G; obtain ⟨n8, G⟩ := G
    refine k_reg mixed H (.cons [9] (ok_val (fun ν7 => .int .i64 a0) 9) <|
      .cons [10] (ok_val (fun ν7 => .int .i64 a1) 10) <|
      .cons [11] (ok_val (fun ν7 => .int .i64 (Int.tmod a0 a1)) 11 (hv := fun _ _ => run_of (by kernel_rfl) (run_rem (k := .i64) (x := a0) (y := a1) n8))) <|
      .cons [12] (ok_val (fun ν7 => .bool ((Int.tmod a0 a1) != 0)) 12) <|
      .cons [13] (ok_val (fun ν7 => .bool ((Int.tmod a0 a1) != 0)) 13) <|
      .cons [14] (ok_valg (fun ν7 => .int .i64 a0) (fun ν7 => (((Int.tmod a0 a1) != 0) == true)) [true] 14) <|
      .cons [15] (ok_valg (fun ν7 => .bool (decide (a0 < 0))) (fun ν7 => (((Int.tmod a0 a1) != 0) == true)) [false, true] 15) <|
      .cons [16] (ok_valg (fun ν7 => .int .i64 a1) (fun ν7 => (((Int.tmod a0 a1) != 0) == true)) [true] 16) <|
      .cons [17] (ok_valg (fun ν7 => .bool (decide (a1 < 0))) (fun ν7 => (((Int.tmod a0 a1) != 0) == true)) [false, true] 17) <|
      .cons [18] (ok_valg (fun ν7 => .bool ((decide (a0 < 0)) == (decide (a1 < 0)))) (fun ν7 => (((Int.tmod a0 a1) != 0) == true)) [false, false] 18) <|
      .cons [19] (ok_and 13 18 (fun ν7 => true) (fun ν7 => true) (fun ν7 => ((Int.tmod a0 a1) != 0)) (fun ν7 => ((decide (a0 < 0)) == (decide (a1 < 0)))) 19) <| .nil) (by kernel_rfl) fun ν7 a w' H => ?_
    replace H := H.toL [(4, .slot true (.int .i64 0)), (5, .slot true (.int .i64 (w_i64 (Int.tdiv a0 a1)))), (19, .slot true (.bool (((Int.tmod a0 a1) != 0) && ((decide (a0 < 0)) == (decide (a1 < 0))))))] (by kernel_rfl)
    refine k_cond H (by kernel_rfl) (t := (((Int.tmod a0 a1) != 0) && ((decide (a0 < 0)) == (decide (a1 < 0))))) (by kernel_rfl) (fun c10 => ?_) (fun c10 => ?_)
    · rw [if_pos c10] at G
      refine k_reg mixed H (.cons [20] (ok_val (fun ν9 => .int .i64 (w_i64 (Int.tdiv a0 a1))) 20) <|
      .cons [21] (ok_val (fun ν9 => .int .i64 (w_i64 ((w_i64 (Int.tdiv a0 a1)) + 1))) 21) <|
      .cons [5] (ok_val (fun ν9 => .int .i64 (w_i64 ((w_i64 (Int.tdiv a0 a1)) + 1))) 5) <| .nil) (by kernel_rfl) fun ν9 a w' H => ?_
      replace H := H.toL [(4, .slot true (.int .i64 0)), (5, .slot true (.int .i64 (w_i64 ((w_i64 (Int.tdiv a0 a1)) + 1))))] (by kernel_rfl)
      obtain rfl := Option.some.inj G
      exact H.toL _ (by kernel_rfl)
    · rw [if_neg (nt c10)] at G
      refine k_skip ?_
      obtain rfl := Option.some.inj G
      exact H.toL _ (by kernel_rfl)

set_option maxHeartbeats 4000000 in
theorem armillaryref01_Mul.calls (a0 : Int) (a1 : Int) (r : Int × Int) (w : World) (G : armillaryref01_Mul a0 a1 = some r) :
    Calls Try.prog 49 #[.int .i64 a0, .int .i64 a1] w fun e w' => e = .returned (.tuple #[.int .i64 r.1, .int .i64 r.2]) ∧ Below w.heap.size w w' := by
  refine k_enter (args := [.int .i64 a0, .int .i64 a1]) 14 Try.func49 rfl (by kernel_rfl) (by kernel_rfl) fun a H => ?_
  unfold armillaryref01_Mul at G
  refine k_seq ?_
  refine k_reg mixed H (.cons [4] (ok_val (fun ν1 => .int .i64 0) 4) <|
      .cons [5] (ok_val (fun ν1 => .int .i64 0) 5) <| .nil) (by kernel_rfl) fun ν1 a w' H => ?_
  replace H := H.toL [(0, .slot true (.int .i64 a0)), (1, .slot true (.int .i64 a1)), (4, .slot true (.int .i64 0)), (5, .slot true (.int .i64 0))] (by kernel_rfl)
  refine k_seq ?_
  replace G := bnd G; obtain ⟨t3, ht3, G⟩ := G
  replace G := bnd G; obtain ⟨t4, ht4, G⟩ := G
  refine k_reg mixed H (.cons [6] (ok_val (fun ν2 => .int .i64 a0) 6) <|
      .cons [7] (ok_val (fun ν2 => .int .i64 a1) 7) <|
      .cons [8] (ok_val (fun ν2 => .int .i64 (w_i64 (a0 * a1))) 8) <|
      .cons [9] (ok_callv 89 (fun ν2 => #[.int .i64 (w_i64 (a0 * a1)), .int .i64 65536]) (.int .i64 t3) 9 [] (fun _ w _ => armillaryref01_Down.calls (w_i64 (a0 * a1)) 65536 t3 w ht3)) <|
      .cons [10] (ok_val (fun ν2 => .int .i64 a0) 10) <|
      .cons [11] (ok_val (fun ν2 => .int .i64 a1) 11) <|
      .cons [12] (ok_val (fun ν2 => .int .i64 (w_i64 (a0 * a1))) 12) <|
      .cons [13] (ok_callv 90 (fun ν2 => #[.int .i64 (w_i64 (a0 * a1)), .int .i64 65536]) (.int .i64 t4) 13 [] (fun _ w _ => armillaryref01_Up.calls (w_i64 (a0 * a1)) 65536 t4 w ht4)) <|
      .cons [4] (ok_val (fun ν2 => .int .i64 t3) 4) <|
      .cons [5] (ok_val (fun ν2 => .int .i64 t4) 5) <| .nil) (by kernel_rfl) fun ν2 a w' H => ?_
  replace H := H.toL [(4, .slot true (.int .i64 t3)), (5, .slot true (.int .i64 t4))] (by kernel_rfl)
  refine k_ret ?_
  obtain rfl := Option.some.inj G
  exact k_done0 H _ (by kernel_rfl) (by kernel_rfl)

set_option maxHeartbeats 4000000 in
theorem armillaryref03_Separated.calls (k0 : Nat) (a0 : List TInterval) (a1 : List TInterval) (a2 : Int) (p_a0 : Option Addr) (c_a0 : Nat) (p_a1 : Option Addr) (c_a1 : Nat) (r : Bool) (w : World) (R_p_a0 : RowAt w 2 p_a0 a0.length (a0.flatMap en_TInterval)) (R_p_a1 : RowAt w 2 p_a1 a1.length (a1.flatMap en_TInterval)) (G : armillaryref03_Separated k0 a0 a1 a2 = some r) :
    Calls Try.prog 31 #[.slice p_a0 a0.length c_a0, .slice p_a1 a1.length c_a1, .int .i64 a2] w fun e w' => e = .returned (.bool r) ∧ Below w.heap.size w w' := by
  refine k_enterF (args := [.slice p_a0 a0.length c_a0, .slice p_a1 a1.length c_a1, .int .i64 a2]) 28 [(28, rdK 2 p_a0 a0.length (a0.flatMap en_TInterval)), (29, rdK 2 p_a1 a1.length (a1.flatMap en_TInterval))] (by
    intro x hx
    simp only [List.mem_cons, List.not_mem_nil, or_false] at hx
    rcases hx with rfl | rfl
    · exact rd_fact R_p_a0 (by decide) _
    · exact rd_fact R_p_a1 (by decide) _) Try.func31 rfl (by kernel_rfl) (by kernel_rfl) fun a H => ?_
  unfold armillaryref03_Separated at G
  refine k_seq ?_
  refine k_reg mixed H (.cons [6] (ok_val (fun ν1 => .bool false) 6) <| .nil) (by kernel_rfl) fun ν1 a w' H => ?_
  replace H := H.toL [(0, .slot true (.slice p_a0 a0.length c_a0)), (1, .slot true (.slice p_a1 a1.length c_a1)), (2, .slot true (.int .i64 a2)), (6, .slot true (.bool false)), (28, rdK 2 p_a0 a0.length (a0.flatMap en_TInterval)), (29, rdK 2 p_a1 a1.length (a1.flatMap en_TInterval))] (by kernel_rfl)
  refine k_seq ?_
  replace G := bnd G; obtain ⟨t3, ht3, G⟩ := G
  refine k_reg mixed H (.cons [10] (ok_val (fun ν2 => .slice p_a0 a0.length c_a0) 10) <|
      .cons [11] (ok_val (fun ν2 => .slice p_a1 a1.length c_a1) 11) <|
      .cons [12] (ok_callL [28, 29] (fun ν2 => [rdK 2 p_a0 a0.length (a0.flatMap en_TInterval), rdK 2 p_a1 a1.length (a1.flatMap en_TInterval)]) 29 (fun ν2 => #[.slice p_a0 a0.length c_a0, .slice p_a1 a1.length c_a1]) (.agg #[.int .i64 t3.Lo, .int .i64 t3.Hi]) 12 (fun ν2 w hF => armillaryref03_SquaredDistance.calls k0 a0 a1 p_a0 c_a0 p_a1 c_a1 t3 w (rd_of hF.1) (rd_of hF.2.1) ht3)) <|
      .cons [7, 30] (ok_new (fun b => .pointer (some ⟨b, 0, none⟩)) (fun ν2 => [.int .i64 0, .int .i64 0]) 40 7 30) <|
      .cons [30] (ok_as (u' := fun ν2 => [(30, .blk ((ν2 3).n 0) [.int .i64 t3.Lo, .int .i64 t3.Hi] 40)]) (ok_store 30 0 (fun ν2 => ((ν2 3).n 0)) (fun ν2 => [.int .i64 0, .int .i64 0]) (fun ν2 => [.int .i64 t3.Lo, .int .i64 t3.Hi]) 40) (fun _ => by kernel_rfl)) <| .nil) (by kernel_rfl) fun ν2 a w' H => ?_
  replace H := H.toL [(2, .slot true (.int .i64 a2)), (6, .slot true (.bool false)), (7, .slot true (.pointer (some ⟨((ν2 3).n 0), 0, none⟩))), (30, .blk ((ν2 3).n 0) [.int .i64 t3.Lo, .int .i64 t3.Hi] 40)] (by kernel_rfl)
  refine k_seq ?_
  replace G := bnd G; obtain ⟨t5, ht5, G⟩ := G
  refine k_reg mixed H (.cons [14] (ok_val (fun ν4 => .int .i64 a2) 14) <|
      .cons [15] (ok_val (fun ν4 => .int .i64 a2) 15) <|
      .cons [16] (ok_callv 49 (fun ν4 => #[.int .i64 a2, .int .i64 a2]) (.tuple #[.int .i64 t5.1, .int .i64 t5.2]) 16 [] (fun _ w _ => armillaryref01_Mul.calls a2 a2 t5 w ht5)) <|
      .cons [13] (ok_val (fun ν4 => .tuple #[.int .i64 t5.1, .int .i64 t5.2]) 13) <|
      .cons [17] (ok_val (fun ν4 => .int .i64 t5.1) 17) <|
      .cons [18] (ok_val (fun ν4 => .int .i64 t5.2) 18) <|
      .cons [8] (ok_val (fun ν4 => .int .i64 t5.1) 8) <|
      .cons [9] (ok_val (fun ν4 => .int .i64 t5.2) 9) <| .nil) (by kernel_rfl) fun ν4 a w' H => ?_
  replace H := H.toL [(6, .slot true (.bool false)), (7, .slot true (.pointer (some ⟨((ν2 3).n 0), 0, none⟩))), (9, .slot true (.int .i64 t5.2)), (30, .blk ((ν2 3).n 0) [.int .i64 t3.Lo, .int .i64 t3.Hi] 40)] (by kernel_rfl)
  refine k_seq ?_
  replace G := bnd G; obtain ⟨t7, ht7, G⟩ := G
  refine k_reg mixed H (.cons [19] (ok_ld (fun ν6 => .agg #[.int .i64 t3.Lo, .int .i64 t3.Hi]) 19 30 0 2 (fun ν6 => ((ν2 3).n 0)) (fun ν6 => [.int .i64 t3.Lo, .int .i64 t3.Hi]) 40) <|
      .cons [20] (ok_callv 45 (fun ν6 => #[.agg #[.int .i64 t3.Lo, .int .i64 t3.Hi]]) (.bool t7) 20 [] (fun _ w _ => armillaryref02_IsEntire.calls t3 t7 w ht7)) <|
      .cons [21] (ok_val (fun ν6 => .bool (!t7)) 21) <|
      .cons [22] (ok_val (fun ν6 => .bool (!t7)) 22) <|
      .cons [23] (ok_valg (fun ν6 => .pointer (some ⟨((ν2 3).n 0), 0, none⟩)) (fun ν6 => ((!t7) == true)) [true] 23) <|
      .cons [24] (ok_ldg (fun ν6 => .int .i64 t3.Lo) (fun ν6 => ((!t7) == true)) [false] 24 30 0 1 (fun ν6 => ((ν2 3).n 0)) (fun ν6 => [.int .i64 t3.Lo, .int .i64 t3.Hi]) 40) <|
      .cons [25] (ok_valg (fun ν6 => .int .i64 t5.2) (fun ν6 => ((!t7) == true)) [true] 25) <|
      .cons [26] (ok_valg (fun ν6 => .bool (decide (t3.Lo > t5.2))) (fun ν6 => ((!t7) == true)) [false, false] 26) <|
      .cons [27] (ok_and 22 26 (fun ν6 => true) (fun ν6 => true) (fun ν6 => (!t7)) (fun ν6 => decide (t3.Lo > t5.2)) 27) <|
      .cons [6] (ok_val (fun ν6 => .bool ((!t7) && (decide (t3.Lo > t5.2)))) 6) <| .nil) (by kernel_rfl) fun ν6 a w' H => ?_
  replace H := H.toL [(6, .slot true (.bool ((!t7) && (decide (t3.Lo > t5.2)))))] (by kernel_rfl)
  refine k_ret ?_
  obtain rfl := Option.some.inj G
  exact k_done0 H _ (by kernel_rfl) (by kernel_rfl)

set_option maxHeartbeats 4000000 in
theorem armillaryref03_Inflate.calls (k0 : Nat) (a0 : List TInterval) (a1 : Int) (p_a0 : Option Addr) (c_a0 : Nat) (r : List TInterval) (w : World) (R_p_a0 : RowAt w 2 p_a0 a0.length (a0.flatMap en_TInterval)) (G : armillaryref03_Inflate k0 a0 a1 = some r) :
    Calls Try.prog 33 #[.slice p_a0 a0.length c_a0, .int .i64 a1] w fun e w' => ∃ p cap, e = .returned (.slice p r.length cap) ∧ Below w.heap.size w w' ∧ w'.ownsRow w.heap.size 40 2 (.slice p r.length cap) r.length (r.flatMap en_TInterval) := by
  refine k_enterF (args := [.slice p_a0 a0.length c_a0, .int .i64 a1]) 36 [(36, rdK 2 p_a0 a0.length (a0.flatMap en_TInterval))] (by
    intro x hx
    simp only [List.mem_cons, List.not_mem_nil, or_false] at hx
    rcases hx with rfl
    exact rd_fact R_p_a0 (by decide) _) Try.func33 rfl (by kernel_rfl) (by kernel_rfl) fun a H => ?_
  unfold armillaryref03_Inflate at G
  refine k_seq ?_
  refine k_reg mixed H (.cons [4] (ok_val (fun ν1 => .slice none 0 0) 4) <| .nil) (by kernel_rfl) fun ν1 a w' H => ?_
  replace H := H.toL [(0, .slot true (.slice p_a0 a0.length c_a0)), (1, .slot true (.int .i64 a1)), (4, .slot true (.slice none 0 0)), (36, rdK 2 p_a0 a0.length (a0.flatMap en_TInterval))] (by kernel_rfl)
  refine k_seq ?_
  refine k_reg mixed H (.cons [8, 37] (ok_new (fun b => .slice (some ⟨b, 0, none⟩) 0 0) (fun ν2 => []) 40 8 37) <|
      .cons [5] (ok_val (fun ν2 => .slice (some ⟨((ν2 0).n 0), 0, none⟩) 0 0) 5) <| .nil) (by kernel_rfl) fun ν2 a w' H => ?_
  replace H := H.toL [(0, .slot true (.slice p_a0 a0.length c_a0)), (1, .slot true (.int .i64 a1)), (4, .slot true (.slice none 0 0)), (5, .slot true (.slice (some ⟨((ν2 0).n 0), 0, none⟩) 0 0)), (37, .blk ((ν2 0).n 0) [] 40), (36, rdK 2 p_a0 a0.length (a0.flatMap en_TInterval))] (by kernel_rfl)
  refine k_seq ?_
  replace G := bnd G; obtain ⟨j4, hj4, G⟩ := G
  refine k_join (fun a w' => ∃ (p_j3 : Option Addr) (c_j3 np_j3 : Nat), np_j3 = j4.length ∧ Rep w.heap.size w 36 (ofL [(4, .slot true (.slice none 0 0)), (5, .slot true (.slice p_j3 np_j3 c_j3)), (37, owK 40 2 p_j3 np_j3 c_j3 (j4.flatMap en_TInterval))]) a w') ?_ ?_
  · clear H; rintro a w' ⟨p_j3, c_j3, _, rfl, H⟩
    refine k_seq ?_
    refine k_reg mixed H (.cons [35] (ok_val (fun ν5 => .slice p_j3 j4.length c_j3) 35) <|
      .cons [4] (ok_val (fun ν5 => .slice p_j3 j4.length c_j3) 4) <| .nil) (by kernel_rfl) fun ν5 a w' H => ?_
    replace H := H.toL [(4, .slot true (.slice p_j3 j4.length c_j3)), (37, owK 40 2 p_j3 j4.length c_j3 (j4.flatMap en_TInterval))] (by kernel_rfl)
    refine k_ret ?_
    obtain rfl := Option.some.inj G
    exact k_doneR H (fun p cap => .slice p j4.length cap) p_j3 c_j3 [] 37 40 2 j4.length (j4.flatMap en_TInterval) (by kernel_rfl) (by kernel_rfl) (by simp) (by kernel_rfl)
  · clear G; replace G := hj4; clear hj4
    refine k_seq ?_
    refine k_reg mixed H (.cons [6] (ok_val (fun ν6 => .int .i64 0) 6) <| .nil) (by kernel_rfl) fun ν6 a w' H => ?_
    replace H := H.toL [(0, .slot true (.slice p_a0 a0.length c_a0)), (1, .slot true (.int .i64 a1)), (4, .slot true (.slice none 0 0)), (5, .slot true (.slice (some ⟨((ν2 0).n 0), 0, none⟩) 0 0)), (6, .slot true (.int .i64 0)), (37, .blk ((ν2 0).n 0) [] 40), (36, rdK 2 p_a0 a0.length (a0.flatMap en_TInterval))] (by kernel_rfl)
    refine k_block ?_
    replace H := H.blk_row 37 ((ν2 0).n 0) [] 40 2 0 (by kernel_rfl) (by kernel_rfl) (by decide)
    refine k_loopJ (fun m a w' => ∃ x7 : List TInterval, ∃ x8 : Int, armillaryref03_Inflate.l9 k0 a0 a1 m x7 x8 = some j4 ∧ ∃ (p_x7 : Option Addr) (c_x7 np_x7 : Nat), np_x7 = x7.length ∧ Rep w.heap.size w 36 (ofL [(0, .slot true (.slice p_a0 a0.length c_a0)), (1, .slot true (.int .i64 a1)), (4, .slot true (.slice none 0 0)), (5, .slot true (.slice p_x7 np_x7 c_x7)), (6, .slot true (.int .i64 x8)), (36, rdK 2 p_a0 a0.length (a0.flatMap en_TInterval)), (37, owK 40 2 p_x7 np_x7 c_x7 (x7.flatMap en_TInterval))]) a w') k0 ⟨_, _, G, (some ⟨((ν2 0).n 0), 0, none⟩), 0, _, rfl, H.toL _ (by kernel_rfl)⟩ ?_
    clear G H
    rintro (_ | k) a w' ⟨x7, x8, G, p_x7, c_x7, _, rfl, H⟩
    · exact absurd G (by unfold armillaryref03_Inflate.l9; exact fun h => by cases h)
    · unfold armillaryref03_Inflate.l9 at G
      refine k_seq ?_
      refine k_seq ?_
      refine k_reg mixed H (.cons [9] (ok_val (fun ν10 => .int .i64 x8) 9) <|
      .cons [10] (ok_val (fun ν10 => .slice p_a0 a0.length c_a0) 10) <|
      .cons [11] (ok_val (fun ν10 => .int .i64 (a0.length : Int)) 11) <|
      .cons [12] (ok_val (fun ν10 => .bool (decide (x8 < (a0.length : Int)))) 12) <| .nil) (by kernel_rfl) fun ν10 a w' H => ?_
      replace H := H.toL [(0, .slot true (.slice p_a0 a0.length c_a0)), (1, .slot true (.int .i64 a1)), (4, .slot true (.slice none 0 0)), (5, .slot true (.slice p_x7 x7.length c_x7)), (6, .slot true (.int .i64 x8)), (9, .slot true (.int .i64 x8)), (10, .slot true (.slice p_a0 a0.length c_a0)), (11, .slot true (.int .i64 (a0.length : Int))), (12, .slot true (.bool (decide (x8 < (a0.length : Int))))), (36, rdK 2 p_a0 a0.length (a0.flatMap en_TInterval)), (37, owK 40 2 p_x7 x7.length c_x7 (x7.flatMap en_TInterval))] (by kernel_rfl)
      refine k_cond H (by kernel_rfl) (t := decide (x8 < (a0.length : Int))) (by kernel_rfl) (fun c27 => ?_) (fun c27 => ?_)
      · rw [if_pos c27] at G
        refine k_skip ?_
        refine k_seq ?_
        refine k_block ?_
        refine k_seq ?_
        replace G := gd G; obtain ⟨b12, G⟩ := G
        replace G := bnd G; obtain ⟨t13, ht13, G⟩ := G
        refine k_reg mixed H (.cons [15] (ok_val (fun ν11 => .slice p_a0 a0.length c_a0) 15) <|
      .cons [16] (ok_val (fun ν11 => .int .i64 x8) 16) <|
      .cons [17] (ok_valL [36] (fun ν11 => [rdK 2 p_a0 a0.length (a0.flatMap en_TInterval)]) (fun ν11 => .pointer (some ⟨hdB p_a0, hdO p_a0 + x8.toNat * 2, none⟩)) (fun ν11 => true) [true, true] 17 (fun ν11 w hg hF => run_of (by kernel_rfl) (run_ix (t := 22) (p := p_a0) (n := a0.length) (cap := c_a0) (k := .i64) (i := x8) (sz := 2) (by kernel_rfl) (by kernel_rfl) (rd_of hF.1) b12))) <|
      .cons [18] (ok_valL [36] (fun ν11 => [rdK 2 p_a0 a0.length (a0.flatMap en_TInterval)]) (fun ν11 => .agg #[.int .i64 t13.Lo, .int .i64 t13.Hi]) (fun ν11 => true) [true] 18 (fun ν11 w hg hF => ld_of (vs := [.int .i64 t13.Lo, .int .i64 t13.Hi]) (b := hdB p_a0) (off := hdO p_a0 + x8.toNat * 2 + 0) (m := 2) (by kernel_rfl) (el_cells (rd_of hF.1) en_TInterval_len ht13 0 2 rfl))) <|
      .cons [7, 38] (ok_new (fun b => .pointer (some ⟨b, 0, none⟩)) (fun ν11 => [.int .i64 0, .int .i64 0]) 40 7 38) <|
      .cons [38] (ok_as (u' := fun ν11 => [(38, .blk ((ν11 4).n 0) [.int .i64 t13.Lo, .int .i64 t13.Hi] 40)]) (ok_store 38 0 (fun ν11 => ((ν11 4).n 0)) (fun ν11 => [.int .i64 0, .int .i64 0]) (fun ν11 => [.int .i64 t13.Lo, .int .i64 t13.Hi]) 40) (fun _ => by kernel_rfl)) <| .nil) (by kernel_rfl) fun ν11 a w' H => ?_
        replace H := H.toL [(0, .slot true (.slice p_a0 a0.length c_a0)), (1, .slot true (.int .i64 a1)), (4, .slot true (.slice none 0 0)), (5, .slot true (.slice p_x7 x7.length c_x7)), (6, .slot true (.int .i64 x8)), (7, .slot true (.pointer (some ⟨((ν11 4).n 0), 0, none⟩))), (9, .slot true (.int .i64 x8)), (10, .slot true (.slice p_a0 a0.length c_a0)), (11, .slot true (.int .i64 (a0.length : Int))), (12, .slot true (.bool (decide (x8 < (a0.length : Int))))), (15, .slot true (.slice p_a0 a0.length c_a0)), (16, .slot true (.int .i64 x8)), (17, .slot true (.pointer (some ⟨hdB p_a0, hdO p_a0 + x8.toNat * 2, none⟩))), (18, .slot true (.agg #[.int .i64 t13.Lo, .int .i64 t13.Hi])), (38, .blk ((ν11 4).n 0) [.int .i64 t13.Lo, .int .i64 t13.Hi] 40), (36, rdK 2 p_a0 a0.length (a0.flatMap en_TInterval)), (37, owK 40 2 p_x7 x7.length c_x7 (x7.flatMap en_TInterval))] (by kernel_rfl)
        refine k_seq ?_
        replace G := bnd G; obtain ⟨j18, hj18, G⟩ := G
        refine k_join (fun a w' => Rep w.heap.size w 36 (ofL [(0, .slot true (.slice p_a0 a0.length c_a0)), (1, .slot true (.int .i64 a1)), (4, .slot true (.slice none 0 0)), (5, .slot true (.slice p_x7 x7.length c_x7)), (6, .slot true (.int .i64 x8)), (7, .slot true (.pointer (some ⟨((ν11 4).n 0), 0, none⟩))), (9, .slot true (.int .i64 x8)), (10, .slot true (.slice p_a0 a0.length c_a0)), (11, .slot true (.int .i64 (a0.length : Int))), (12, .slot true (.bool (decide (x8 < (a0.length : Int))))), (15, .slot true (.slice p_a0 a0.length c_a0)), (16, .slot true (.int .i64 x8)), (17, .slot true (.pointer (some ⟨hdB p_a0, hdO p_a0 + x8.toNat * 2, none⟩))), (18, .slot true (.agg #[.int .i64 t13.Lo, .int .i64 t13.Hi])), (19, .slot true (.agg #[.int .i64 t13.Lo, .int .i64 t13.Hi])), (20, .slot true (.bool j18.1)), (21, .slot true (.bool j18.2.1)), (38, .blk ((ν11 4).n 0) [.int .i64 j18.2.2.1, .int .i64 j18.2.2.2] 40), (36, rdK 2 p_a0 a0.length (a0.flatMap en_TInterval)), (37, owK 40 2 p_x7 x7.length c_x7 (x7.flatMap en_TInterval))]) a w') ?_ ?_
        · clear H; intro a w' H
          replace G := gd G; obtain ⟨b20, G⟩ := G
          refine k_reg mixed H (.cons [31] (ok_val (fun ν19 => .slice p_x7 x7.length c_x7) 31) <|
      .cons [32] (ok_ld (fun ν19 => .agg #[.int .i64 j18.2.2.1, .int .i64 j18.2.2.2]) 32 38 0 2 (fun ν19 => ((ν11 4).n 0)) (fun ν19 => [.int .i64 j18.2.2.1, .int .i64 j18.2.2.2]) 40) <|
      .cons [33, 39] (ok_new (fun b => .slice (some ⟨b, 0, none⟩) 1 1) (fun ν19 => [.int .i64 j18.2.2.1, .int .i64 j18.2.2.2]) 40 33 39) <|
      .cons [34, 37] (ok_rowL [37, 39] (fun ν19 => [owK 40 2 p_x7 x7.length c_x7 (x7.flatMap en_TInterval), .blk ((ν19 2).n 0) [.int .i64 j18.2.2.1, .int .i64 j18.2.2.2] 40]) 40 2 (x7 ++ [(⟨j18.2.2.1, j18.2.2.2⟩ : TInterval)]).length ((x7 ++ [(⟨j18.2.2.1, j18.2.2.2⟩ : TInterval)]).flatMap en_TInterval) 34 37 (fun ν19 => owK 40 2 p_x7 x7.length c_x7 (x7.flatMap en_TInterval)) (fun ν19 w hF => run_app_row (t := 22) (ty := 22) (en := en_TInterval) en_TInterval_len inf40 (ow_of hF.1) hF.2.1 (news := [(⟨j18.2.2.1, j18.2.2.2⟩ : TInterval)]) rfl (by simp) (by kernel_rfl) b20) (fun _ => .inr trivial)) <|
      .cons [5] (ok_val (fun ν19 => .slice ((ν19 3).o 0) (x7 ++ [(⟨j18.2.2.1, j18.2.2.2⟩ : TInterval)]).length ((ν19 3).n 0)) 5) <| .nil) (by kernel_rfl) fun ν19 a w' H => ?_
          replace H := H.toL [(0, .slot true (.slice p_a0 a0.length c_a0)), (1, .slot true (.int .i64 a1)), (4, .slot true (.slice none 0 0)), (5, .slot true (.slice ((ν19 3).o 0) (x7 ++ [(⟨j18.2.2.1, j18.2.2.2⟩ : TInterval)]).length ((ν19 3).n 0))), (6, .slot true (.int .i64 x8)), (7, .slot true (.pointer (some ⟨((ν11 4).n 0), 0, none⟩))), (9, .slot true (.int .i64 x8)), (10, .slot true (.slice p_a0 a0.length c_a0)), (11, .slot true (.int .i64 (a0.length : Int))), (12, .slot true (.bool (decide (x8 < (a0.length : Int))))), (15, .slot true (.slice p_a0 a0.length c_a0)), (16, .slot true (.int .i64 x8)), (17, .slot true (.pointer (some ⟨hdB p_a0, hdO p_a0 + x8.toNat * 2, none⟩))), (18, .slot true (.agg #[.int .i64 t13.Lo, .int .i64 t13.Hi])), (19, .slot true (.agg #[.int .i64 t13.Lo, .int .i64 t13.Hi])), (20, .slot true (.bool j18.1)), (21, .slot true (.bool j18.2.1)), (32, .slot true (.agg #[.int .i64 j18.2.2.1, .int .i64 j18.2.2.2])), (33, .slot true (.slice (some ⟨((ν19 2).n 0), 0, none⟩) 1 1)), (34, .slot true (.slice ((ν19 3).o 0) (x7 ++ [(⟨j18.2.2.1, j18.2.2.2⟩ : TInterval)]).length ((ν19 3).n 0))), (38, .blk ((ν11 4).n 0) [.int .i64 j18.2.2.1, .int .i64 j18.2.2.2] 40), (39, .blk ((ν19 2).n 0) [.int .i64 j18.2.2.1, .int .i64 j18.2.2.2] 40), (36, rdK 2 p_a0 a0.length (a0.flatMap en_TInterval)), (37, owK 40 2 ((ν19 3).o 0) (x7 ++ [(⟨j18.2.2.1, j18.2.2.2⟩ : TInterval)]).length ((ν19 3).n 0) ((x7 ++ [(⟨j18.2.2.1, j18.2.2.2⟩ : TInterval)]).flatMap en_TInterval))] (by kernel_rfl)
          refine k_reg mixed H (.cons [13] (ok_val (fun ν21 => .int .i64 x8) 13) <|
      .cons [14] (ok_val (fun ν21 => .int .i64 (w_i64 (x8 + 1))) 14) <|
      .cons [6] (ok_val (fun ν21 => .int .i64 (w_i64 (x8 + 1))) 6) <| .nil) (by kernel_rfl) fun ν21 a w' H => ?_
          replace H := H.toL [(0, .slot true (.slice p_a0 a0.length c_a0)), (1, .slot true (.int .i64 a1)), (4, .slot true (.slice none 0 0)), (5, .slot true (.slice ((ν19 3).o 0) (x7 ++ [(⟨j18.2.2.1, j18.2.2.2⟩ : TInterval)]).length ((ν19 3).n 0))), (6, .slot true (.int .i64 (w_i64 (x8 + 1)))), (7, .slot true (.pointer (some ⟨((ν11 4).n 0), 0, none⟩))), (9, .slot true (.int .i64 x8)), (10, .slot true (.slice p_a0 a0.length c_a0)), (11, .slot true (.int .i64 (a0.length : Int))), (12, .slot true (.bool (decide (x8 < (a0.length : Int))))), (13, .slot true (.int .i64 x8)), (14, .slot true (.int .i64 (w_i64 (x8 + 1)))), (15, .slot true (.slice p_a0 a0.length c_a0)), (16, .slot true (.int .i64 x8)), (17, .slot true (.pointer (some ⟨hdB p_a0, hdO p_a0 + x8.toNat * 2, none⟩))), (18, .slot true (.agg #[.int .i64 t13.Lo, .int .i64 t13.Hi])), (19, .slot true (.agg #[.int .i64 t13.Lo, .int .i64 t13.Hi])), (20, .slot true (.bool j18.1)), (21, .slot true (.bool j18.2.1)), (32, .slot true (.agg #[.int .i64 j18.2.2.1, .int .i64 j18.2.2.2])), (33, .slot true (.slice (some ⟨((ν19 2).n 0), 0, none⟩) 1 1)), (34, .slot true (.slice ((ν19 3).o 0) (x7 ++ [(⟨j18.2.2.1, j18.2.2.2⟩ : TInterval)]).length ((ν19 3).n 0))), (38, .blk ((ν11 4).n 0) [.int .i64 j18.2.2.1, .int .i64 j18.2.2.2] 40), (39, .blk ((ν19 2).n 0) [.int .i64 j18.2.2.1, .int .i64 j18.2.2.2] 40), (36, rdK 2 p_a0 a0.length (a0.flatMap en_TInterval)), (37, owK 40 2 ((ν19 3).o 0) (x7 ++ [(⟨j18.2.2.1, j18.2.2.2⟩ : TInterval)]).length ((ν19 3).n 0) ((x7 ++ [(⟨j18.2.2.1, j18.2.2.2⟩ : TInterval)]).flatMap en_TInterval))] (by kernel_rfl)
          exact ⟨k, Nat.lt_succ_self k, _, _, G, ((ν19 3).o 0), ((ν19 3).n 0), _, rfl, H.toL _ (by kernel_rfl)⟩
        · clear G; replace G := hj18; clear hj18
          refine k_seq ?_
          replace G := bnd G; obtain ⟨t23, ht23, G⟩ := G
          refine k_reg mixed H (.cons [19] (ok_ld (fun ν22 => .agg #[.int .i64 t13.Lo, .int .i64 t13.Hi]) 19 38 0 2 (fun ν22 => ((ν11 4).n 0)) (fun ν22 => [.int .i64 t13.Lo, .int .i64 t13.Hi]) 40) <|
      .cons [20] (ok_callv 45 (fun ν22 => #[.agg #[.int .i64 t13.Lo, .int .i64 t13.Hi]]) (.bool t23) 20 [] (fun _ w _ => armillaryref02_IsEntire.calls t13 t23 w ht23)) <|
      .cons [21] (ok_val (fun ν22 => .bool (!t23)) 21) <| .nil) (by kernel_rfl) fun ν22 a w' H => ?_
          replace H := H.toL [(0, .slot true (.slice p_a0 a0.length c_a0)), (1, .slot true (.int .i64 a1)), (4, .slot true (.slice none 0 0)), (5, .slot true (.slice p_x7 x7.length c_x7)), (6, .slot true (.int .i64 x8)), (7, .slot true (.pointer (some ⟨((ν11 4).n 0), 0, none⟩))), (9, .slot true (.int .i64 x8)), (10, .slot true (.slice p_a0 a0.length c_a0)), (11, .slot true (.int .i64 (a0.length : Int))), (12, .slot true (.bool (decide (x8 < (a0.length : Int))))), (15, .slot true (.slice p_a0 a0.length c_a0)), (16, .slot true (.int .i64 x8)), (17, .slot true (.pointer (some ⟨hdB p_a0, hdO p_a0 + x8.toNat * 2, none⟩))), (18, .slot true (.agg #[.int .i64 t13.Lo, .int .i64 t13.Hi])), (19, .slot true (.agg #[.int .i64 t13.Lo, .int .i64 t13.Hi])), (20, .slot true (.bool t23)), (21, .slot true (.bool (!t23))), (38, .blk ((ν11 4).n 0) [.int .i64 t13.Lo, .int .i64 t13.Hi] 40), (36, rdK 2 p_a0 a0.length (a0.flatMap en_TInterval)), (37, owK 40 2 p_x7 x7.length c_x7 (x7.flatMap en_TInterval))] (by kernel_rfl)
          refine k_cond H (by kernel_rfl) (t := (!t23)) (by kernel_rfl) (fun c26 => ?_) (fun c26 => ?_)
          · rw [if_pos c26] at G
            replace G := bnd G; obtain ⟨t25, ht25, G⟩ := G
            refine k_reg mixed H (.cons [22] (ok_val (fun ν24 => .pointer (some ⟨((ν11 4).n 0), 0, none⟩)) 22) <|
      .cons [23] (ok_ld (fun ν24 => .int .i64 t13.Lo) 23 38 0 1 (fun ν24 => ((ν11 4).n 0)) (fun ν24 => [.int .i64 t13.Lo, .int .i64 t13.Hi]) 40) <|
      .cons [24] (ok_val (fun ν24 => .int .i64 a1) 24) <|
      .cons [25] (ok_val (fun ν24 => .int .i64 (w_i64 (t13.Lo - a1))) 25) <|
      .cons [26] (ok_val (fun ν24 => .pointer (some ⟨((ν11 4).n 0), 1, none⟩)) 26) <|
      .cons [27] (ok_ld (fun ν24 => .int .i64 t13.Hi) 27 38 1 1 (fun ν24 => ((ν11 4).n 0)) (fun ν24 => [.int .i64 t13.Lo, .int .i64 t13.Hi]) 40) <|
      .cons [28] (ok_val (fun ν24 => .int .i64 a1) 28) <|
      .cons [29] (ok_val (fun ν24 => .int .i64 (w_i64 (t13.Hi + a1))) 29) <|
      .cons [30] (ok_callv 75 (fun ν24 => #[.int .i64 (w_i64 (t13.Lo - a1)), .int .i64 (w_i64 (t13.Hi + a1))]) (.agg #[.int .i64 t25.Lo, .int .i64 t25.Hi]) 30 [] (fun _ w _ => armillaryref02_New.calls (w_i64 (t13.Lo - a1)) (w_i64 (t13.Hi + a1)) t25 w ht25)) <|
      .cons [38] (ok_as (u' := fun ν24 => [(38, .blk ((ν11 4).n 0) [.int .i64 t25.Lo, .int .i64 t25.Hi] 40)]) (ok_store 38 0 (fun ν24 => ((ν11 4).n 0)) (fun ν24 => [.int .i64 t13.Lo, .int .i64 t13.Hi]) (fun ν24 => [.int .i64 t25.Lo, .int .i64 t25.Hi]) 40) (fun _ => by kernel_rfl)) <| .nil) (by kernel_rfl) fun ν24 a w' H => ?_
            replace H := H.toL [(0, .slot true (.slice p_a0 a0.length c_a0)), (1, .slot true (.int .i64 a1)), (4, .slot true (.slice none 0 0)), (5, .slot true (.slice p_x7 x7.length c_x7)), (6, .slot true (.int .i64 x8)), (7, .slot true (.pointer (some ⟨((ν11 4).n 0), 0, none⟩))), (9, .slot true (.int .i64 x8)), (10, .slot true (.slice p_a0 a0.length c_a0)), (11, .slot true (.int .i64 (a0.length : Int))), (12, .slot true (.bool (decide (x8 < (a0.length : Int))))), (15, .slot true (.slice p_a0 a0.length c_a0)), (16, .slot true (.int .i64 x8)), (17, .slot true (.pointer (some ⟨hdB p_a0, hdO p_a0 + x8.toNat * 2, none⟩))), (18, .slot true (.agg #[.int .i64 t13.Lo, .int .i64 t13.Hi])), (19, .slot true (.agg #[.int .i64 t13.Lo, .int .i64 t13.Hi])), (20, .slot true (.bool t23)), (21, .slot true (.bool (!t23))), (22, .slot true (.pointer (some ⟨((ν11 4).n 0), 0, none⟩))), (23, .slot true (.int .i64 t13.Lo)), (24, .slot true (.int .i64 a1)), (25, .slot true (.int .i64 (w_i64 (t13.Lo - a1)))), (26, .slot true (.pointer (some ⟨((ν11 4).n 0), 1, none⟩))), (27, .slot true (.int .i64 t13.Hi)), (28, .slot true (.int .i64 a1)), (29, .slot true (.int .i64 (w_i64 (t13.Hi + a1)))), (30, .slot true (.agg #[.int .i64 t25.Lo, .int .i64 t25.Hi])), (38, .blk ((ν11 4).n 0) [.int .i64 t25.Lo, .int .i64 t25.Hi] 40), (36, rdK 2 p_a0 a0.length (a0.flatMap en_TInterval)), (37, owK 40 2 p_x7 x7.length c_x7 (x7.flatMap en_TInterval))] (by kernel_rfl)
            obtain rfl := Option.some.inj G
            exact H.toL _ (by kernel_rfl)
          · rw [if_neg (nt c26)] at G
            refine k_skip ?_
            obtain rfl := Option.some.inj G
            exact H.toL _ (by kernel_rfl)
      · rw [if_neg (nt c27)] at G
        refine k_exit rfl ?_
        obtain rfl := Option.some.inj G
        exact ⟨p_x7, c_x7, _, rfl, H.toL _ (by kernel_rfl)⟩

set_option maxHeartbeats 4000000 in
theorem armillaryref02_Point.calls (a0 : Int) (r : TInterval) (w : World) (G : armillaryref02_Point a0 = some r) :
    Calls Try.prog 78 #[.int .i64 a0] w fun e w' => e = .returned (.agg #[.int .i64 r.Lo, .int .i64 r.Hi]) ∧ Below w.heap.size w w' := by
  refine k_enter (args := [.int .i64 a0]) 6 Try.func78 rfl (by kernel_rfl) (by kernel_rfl) fun a H => ?_
  unfold armillaryref02_Point at G
  refine k_seq ?_
  refine k_reg mixed H (.cons [2, 6] (ok_new (fun b => .pointer (some ⟨b, 0, none⟩)) (fun ν1 => [.int .i64 0, .int .i64 0]) 40 2 6) <| .nil) (by kernel_rfl) fun ν1 a w' H => ?_
  replace H := H.toL [(0, .slot true (.int .i64 a0)), (2, .slot true (.pointer (some ⟨((ν1 0).n 0), 0, none⟩))), (6, .blk ((ν1 0).n 0) [.int .i64 0, .int .i64 0] 40)] (by kernel_rfl)
  refine k_seq ?_
  replace G := bnd G; obtain ⟨t3, ht3, G⟩ := G
  refine k_reg mixed H (.cons [3] (ok_val (fun ν2 => .int .i64 a0) 3) <|
      .cons [4] (ok_val (fun ν2 => .int .i64 a0) 4) <|
      .cons [5] (ok_callv 75 (fun ν2 => #[.int .i64 a0, .int .i64 a0]) (.agg #[.int .i64 t3.Lo, .int .i64 t3.Hi]) 5 [] (fun _ w _ => armillaryref02_New.calls a0 a0 t3 w ht3)) <|
      .cons [6] (ok_as (u' := fun ν2 => [(6, .blk ((ν1 0).n 0) [.int .i64 t3.Lo, .int .i64 t3.Hi] 40)]) (ok_store 6 0 (fun ν2 => ((ν1 0).n 0)) (fun ν2 => [.int .i64 0, .int .i64 0]) (fun ν2 => [.int .i64 t3.Lo, .int .i64 t3.Hi]) 40) (fun _ => by kernel_rfl)) <| .nil) (by kernel_rfl) fun ν2 a w' H => ?_
  replace H := H.toL [(2, .slot true (.pointer (some ⟨((ν1 0).n 0), 0, none⟩))), (6, .blk ((ν1 0).n 0) [.int .i64 t3.Lo, .int .i64 t3.Hi] 40)] (by kernel_rfl)
  refine k_ret ?_
  obtain rfl := Option.some.inj G
  exact k_done1 H _ 6 ((ν1 0).n 0) [.int .i64 t3.Lo, .int .i64 t3.Hi] 40 0 2 (by kernel_rfl) (by kernel_rfl) (by kernel_rfl) (by kernel_rfl)

set_option maxHeartbeats 4000000 in
theorem armillaryref03_Point.calls (k0 : Nat) (a0 : List Int) (p_a0 : Option Addr) (c_a0 : Nat) (r : List TInterval) (w : World) (R_p_a0 : RowAt w 1 p_a0 a0.length (a0.flatMap en_i64)) (G : armillaryref03_Point k0 a0 = some r) :
    Calls Try.prog 35 #[.slice p_a0 a0.length c_a0] w fun e w' => ∃ p cap, e = .returned (.slice p r.length cap) ∧ Below w.heap.size w w' ∧ w'.ownsRow w.heap.size 40 2 (.slice p r.length cap) r.length (r.flatMap en_TInterval) := by
  refine k_enterF (args := [.slice p_a0 a0.length c_a0]) 21 [(21, rdK 1 p_a0 a0.length (a0.flatMap en_i64))] (by
    intro x hx
    simp only [List.mem_cons, List.not_mem_nil, or_false] at hx
    rcases hx with rfl
    exact rd_fact R_p_a0 (by decide) _) Try.func35 rfl (by kernel_rfl) (by kernel_rfl) fun a H => ?_
  unfold armillaryref03_Point at G
  refine k_seq ?_
  refine k_reg mixed H (.cons [2] (ok_val (fun ν1 => .slice none 0 0) 2) <| .nil) (by kernel_rfl) fun ν1 a w' H => ?_
  replace H := H.toL [(0, .slot true (.slice p_a0 a0.length c_a0)), (2, .slot true (.slice none 0 0)), (21, rdK 1 p_a0 a0.length (a0.flatMap en_i64))] (by kernel_rfl)
  refine k_seq ?_
  refine k_reg mixed H (.cons [5, 22] (ok_new (fun b => .slice (some ⟨b, 0, none⟩) 0 0) (fun ν2 => []) 40 5 22) <|
      .cons [3] (ok_val (fun ν2 => .slice (some ⟨((ν2 0).n 0), 0, none⟩) 0 0) 3) <| .nil) (by kernel_rfl) fun ν2 a w' H => ?_
  replace H := H.toL [(0, .slot true (.slice p_a0 a0.length c_a0)), (2, .slot true (.slice none 0 0)), (3, .slot true (.slice (some ⟨((ν2 0).n 0), 0, none⟩) 0 0)), (22, .blk ((ν2 0).n 0) [] 40), (21, rdK 1 p_a0 a0.length (a0.flatMap en_i64))] (by kernel_rfl)
  refine k_seq ?_
  replace G := bnd G; obtain ⟨j4, hj4, G⟩ := G
  refine k_join (fun a w' => ∃ (p_j3 : Option Addr) (c_j3 np_j3 : Nat), np_j3 = j4.length ∧ Rep w.heap.size w 21 (ofL [(2, .slot true (.slice none 0 0)), (3, .slot true (.slice p_j3 np_j3 c_j3)), (22, owK 40 2 p_j3 np_j3 c_j3 (j4.flatMap en_TInterval))]) a w') ?_ ?_
  · clear H; rintro a w' ⟨p_j3, c_j3, _, rfl, H⟩
    refine k_seq ?_
    refine k_reg mixed H (.cons [20] (ok_val (fun ν5 => .slice p_j3 j4.length c_j3) 20) <|
      .cons [2] (ok_val (fun ν5 => .slice p_j3 j4.length c_j3) 2) <| .nil) (by kernel_rfl) fun ν5 a w' H => ?_
    replace H := H.toL [(2, .slot true (.slice p_j3 j4.length c_j3)), (22, owK 40 2 p_j3 j4.length c_j3 (j4.flatMap en_TInterval))] (by kernel_rfl)
    refine k_ret ?_
    obtain rfl := Option.some.inj G
    exact k_doneR H (fun p cap => .slice p j4.length cap) p_j3 c_j3 [] 22 40 2 j4.length (j4.flatMap en_TInterval) (by kernel_rfl) (by kernel_rfl) (by simp) (by kernel_rfl)
  · clear G; replace G := hj4; clear hj4
    refine k_seq ?_
    refine k_reg mixed H (.cons [4] (ok_val (fun ν6 => .int .i64 0) 4) <| .nil) (by kernel_rfl) fun ν6 a w' H => ?_
    replace H := H.toL [(0, .slot true (.slice p_a0 a0.length c_a0)), (2, .slot true (.slice none 0 0)), (3, .slot true (.slice (some ⟨((ν2 0).n 0), 0, none⟩) 0 0)), (4, .slot true (.int .i64 0)), (22, .blk ((ν2 0).n 0) [] 40), (21, rdK 1 p_a0 a0.length (a0.flatMap en_i64))] (by kernel_rfl)
    refine k_block ?_
    replace H := H.blk_row 22 ((ν2 0).n 0) [] 40 2 0 (by kernel_rfl) (by kernel_rfl) (by decide)
    refine k_loopJ (fun m a w' => ∃ x7 : List TInterval, ∃ x8 : Int, armillaryref03_Point.l9 k0 a0 m x7 x8 = some j4 ∧ ∃ (p_x7 : Option Addr) (c_x7 np_x7 : Nat), np_x7 = x7.length ∧ Rep w.heap.size w 21 (ofL [(0, .slot true (.slice p_a0 a0.length c_a0)), (2, .slot true (.slice none 0 0)), (3, .slot true (.slice p_x7 np_x7 c_x7)), (4, .slot true (.int .i64 x8)), (21, rdK 1 p_a0 a0.length (a0.flatMap en_i64)), (22, owK 40 2 p_x7 np_x7 c_x7 (x7.flatMap en_TInterval))]) a w') k0 ⟨_, _, G, (some ⟨((ν2 0).n 0), 0, none⟩), 0, _, rfl, H.toL _ (by kernel_rfl)⟩ ?_
    clear G H
    rintro (_ | k) a w' ⟨x7, x8, G, p_x7, c_x7, _, rfl, H⟩
    · exact absurd G (by unfold armillaryref03_Point.l9; exact fun h => by cases h)
    · unfold armillaryref03_Point.l9 at G
      refine k_seq ?_
      refine k_seq ?_
      refine k_reg mixed H (.cons [6] (ok_val (fun ν10 => .int .i64 x8) 6) <|
      .cons [7] (ok_val (fun ν10 => .slice p_a0 a0.length c_a0) 7) <|
      .cons [8] (ok_val (fun ν10 => .int .i64 (a0.length : Int)) 8) <|
      .cons [9] (ok_val (fun ν10 => .bool (decide (x8 < (a0.length : Int)))) 9) <| .nil) (by kernel_rfl) fun ν10 a w' H => ?_
      replace H := H.toL [(0, .slot true (.slice p_a0 a0.length c_a0)), (2, .slot true (.slice none 0 0)), (3, .slot true (.slice p_x7 x7.length c_x7)), (4, .slot true (.int .i64 x8)), (6, .slot true (.int .i64 x8)), (7, .slot true (.slice p_a0 a0.length c_a0)), (8, .slot true (.int .i64 (a0.length : Int))), (9, .slot true (.bool (decide (x8 < (a0.length : Int))))), (21, rdK 1 p_a0 a0.length (a0.flatMap en_i64)), (22, owK 40 2 p_x7 x7.length c_x7 (x7.flatMap en_TInterval))] (by kernel_rfl)
      refine k_cond H (by kernel_rfl) (t := decide (x8 < (a0.length : Int))) (by kernel_rfl) (fun c17 => ?_) (fun c17 => ?_)
      · rw [if_pos c17] at G
        refine k_skip ?_
        refine k_seq ?_
        refine k_block ?_
        replace G := gd G; obtain ⟨b12, G⟩ := G
        replace G := bnd G; obtain ⟨t13, ht13, G⟩ := G
        replace G := bnd G; obtain ⟨t14, ht14, G⟩ := G
        replace G := gd G; obtain ⟨b15, G⟩ := G
        refine k_reg mixed H (.cons [12] (ok_val (fun ν11 => .slice p_x7 x7.length c_x7) 12) <|
      .cons [13] (ok_val (fun ν11 => .slice p_a0 a0.length c_a0) 13) <|
      .cons [14] (ok_val (fun ν11 => .int .i64 x8) 14) <|
      .cons [15] (ok_valL [21] (fun ν11 => [rdK 1 p_a0 a0.length (a0.flatMap en_i64)]) (fun ν11 => .pointer (some ⟨hdB p_a0, hdO p_a0 + x8.toNat * 1, none⟩)) (fun ν11 => true) [true, true] 15 (fun ν11 w hg hF => run_of (by kernel_rfl) (run_ix (t := 27) (p := p_a0) (n := a0.length) (cap := c_a0) (k := .i64) (i := x8) (sz := 1) (by kernel_rfl) (by kernel_rfl) (rd_of hF.1) b12))) <|
      .cons [16] (ok_valL [21] (fun ν11 => [rdK 1 p_a0 a0.length (a0.flatMap en_i64)]) (fun ν11 => .int .i64 t13) (fun ν11 => true) [true] 16 (fun ν11 w hg hF => ld_of (vs := [.int .i64 t13]) (b := hdB p_a0) (off := hdO p_a0 + x8.toNat * 1 + 0) (m := 1) (by kernel_rfl) (el_cells (rd_of hF.1) en_i64_len ht13 0 1 rfl))) <|
      .cons [17] (ok_callv 78 (fun ν11 => #[.int .i64 t13]) (.agg #[.int .i64 t14.Lo, .int .i64 t14.Hi]) 17 [] (fun _ w _ => armillaryref02_Point.calls t13 t14 w ht14)) <|
      .cons [18, 23] (ok_new (fun b => .slice (some ⟨b, 0, none⟩) 1 1) (fun ν11 => [.int .i64 t14.Lo, .int .i64 t14.Hi]) 40 18 23) <|
      .cons [19, 22] (ok_rowL [22, 23] (fun ν11 => [owK 40 2 p_x7 x7.length c_x7 (x7.flatMap en_TInterval), .blk ((ν11 6).n 0) [.int .i64 t14.Lo, .int .i64 t14.Hi] 40]) 40 2 (x7 ++ [t14]).length ((x7 ++ [t14]).flatMap en_TInterval) 19 22 (fun ν11 => owK 40 2 p_x7 x7.length c_x7 (x7.flatMap en_TInterval)) (fun ν11 w hF => run_app_row (t := 22) (ty := 22) (en := en_TInterval) en_TInterval_len inf40 (ow_of hF.1) hF.2.1 (news := [t14]) rfl (by simp) (by kernel_rfl) b15) (fun _ => .inr trivial)) <|
      .cons [3] (ok_val (fun ν11 => .slice ((ν11 7).o 0) (x7 ++ [t14]).length ((ν11 7).n 0)) 3) <| .nil) (by kernel_rfl) fun ν11 a w' H => ?_
        replace H := H.toL [(0, .slot true (.slice p_a0 a0.length c_a0)), (2, .slot true (.slice none 0 0)), (3, .slot true (.slice ((ν11 7).o 0) (x7 ++ [t14]).length ((ν11 7).n 0))), (4, .slot true (.int .i64 x8)), (6, .slot true (.int .i64 x8)), (7, .slot true (.slice p_a0 a0.length c_a0)), (8, .slot true (.int .i64 (a0.length : Int))), (9, .slot true (.bool (decide (x8 < (a0.length : Int))))), (13, .slot true (.slice p_a0 a0.length c_a0)), (14, .slot true (.int .i64 x8)), (15, .slot true (.pointer (some ⟨hdB p_a0, hdO p_a0 + x8.toNat * 1, none⟩))), (16, .slot true (.int .i64 t13)), (17, .slot true (.agg #[.int .i64 t14.Lo, .int .i64 t14.Hi])), (18, .slot true (.slice (some ⟨((ν11 6).n 0), 0, none⟩) 1 1)), (19, .slot true (.slice ((ν11 7).o 0) (x7 ++ [t14]).length ((ν11 7).n 0))), (23, .blk ((ν11 6).n 0) [.int .i64 t14.Lo, .int .i64 t14.Hi] 40), (21, rdK 1 p_a0 a0.length (a0.flatMap en_i64)), (22, owK 40 2 ((ν11 7).o 0) (x7 ++ [t14]).length ((ν11 7).n 0) ((x7 ++ [t14]).flatMap en_TInterval))] (by kernel_rfl)
        refine k_reg mixed H (.cons [10] (ok_val (fun ν16 => .int .i64 x8) 10) <|
      .cons [11] (ok_val (fun ν16 => .int .i64 (w_i64 (x8 + 1))) 11) <|
      .cons [4] (ok_val (fun ν16 => .int .i64 (w_i64 (x8 + 1))) 4) <| .nil) (by kernel_rfl) fun ν16 a w' H => ?_
        replace H := H.toL [(0, .slot true (.slice p_a0 a0.length c_a0)), (2, .slot true (.slice none 0 0)), (3, .slot true (.slice ((ν11 7).o 0) (x7 ++ [t14]).length ((ν11 7).n 0))), (4, .slot true (.int .i64 (w_i64 (x8 + 1)))), (6, .slot true (.int .i64 x8)), (7, .slot true (.slice p_a0 a0.length c_a0)), (8, .slot true (.int .i64 (a0.length : Int))), (9, .slot true (.bool (decide (x8 < (a0.length : Int))))), (10, .slot true (.int .i64 x8)), (11, .slot true (.int .i64 (w_i64 (x8 + 1)))), (13, .slot true (.slice p_a0 a0.length c_a0)), (14, .slot true (.int .i64 x8)), (15, .slot true (.pointer (some ⟨hdB p_a0, hdO p_a0 + x8.toNat * 1, none⟩))), (16, .slot true (.int .i64 t13)), (17, .slot true (.agg #[.int .i64 t14.Lo, .int .i64 t14.Hi])), (18, .slot true (.slice (some ⟨((ν11 6).n 0), 0, none⟩) 1 1)), (19, .slot true (.slice ((ν11 7).o 0) (x7 ++ [t14]).length ((ν11 7).n 0))), (23, .blk ((ν11 6).n 0) [.int .i64 t14.Lo, .int .i64 t14.Hi] 40), (21, rdK 1 p_a0 a0.length (a0.flatMap en_i64)), (22, owK 40 2 ((ν11 7).o 0) (x7 ++ [t14]).length ((ν11 7).n 0) ((x7 ++ [t14]).flatMap en_TInterval))] (by kernel_rfl)
        exact ⟨k, Nat.lt_succ_self k, _, _, G, ((ν11 7).o 0), ((ν11 7).n 0), _, rfl, H.toL _ (by kernel_rfl)⟩
      · rw [if_neg (nt c17)] at G
        refine k_exit rfl ?_
        obtain rfl := Option.some.inj G
        exact ⟨p_x7, c_x7, _, rfl, H.toL _ (by kernel_rfl)⟩

set_option maxHeartbeats 4000000 in
theorem armillaryref02_Mid.calls (a0 : TInterval) (r : Int) (w : World) (G : armillaryref02_Mid a0 = some r) :
    Calls Try.prog 81 #[.agg #[.int .i64 a0.Lo, .int .i64 a0.Hi]] w fun e w' => e = .returned (.int .i64 r) ∧ Below w.heap.size w w' := by
  refine k_enter (args := [.agg #[.int .i64 a0.Lo, .int .i64 a0.Hi]]) 9 Try.func81 rfl (by kernel_rfl) (by kernel_rfl) fun a H => ?_
  unfold armillaryref02_Mid at G
  refine k_seq ?_
  refine k_reg mixed H (.cons [1, 9] (ok_new (fun b => .pointer (some ⟨b, 0, none⟩)) (fun ν1 => [.int .i64 a0.Lo, .int .i64 a0.Hi]) 40 1 9) <|
      .cons [2] (ok_val (fun ν1 => .int .i64 0) 2) <| .nil) (by kernel_rfl) fun ν1 a w' H => ?_
  replace H := H.toL [(1, .slot true (.pointer (some ⟨((ν1 0).n 0), 0, none⟩))), (2, .slot true (.int .i64 0)), (9, .blk ((ν1 0).n 0) [.int .i64 a0.Lo, .int .i64 a0.Hi] 40)] (by kernel_rfl)
  refine k_seq ?_
  replace G := bnd G; obtain ⟨t3, ht3, G⟩ := G
  refine k_reg mixed H (.cons [3] (ok_val (fun ν2 => .pointer (some ⟨((ν1 0).n 0), 0, none⟩)) 3) <|
      .cons [4] (ok_ld (fun ν2 => .int .i64 a0.Lo) 4 9 0 1 (fun ν2 => ((ν1 0).n 0)) (fun ν2 => [.int .i64 a0.Lo, .int .i64 a0.Hi]) 40) <|
      .cons [5] (ok_val (fun ν2 => .pointer (some ⟨((ν1 0).n 0), 1, none⟩)) 5) <|
      .cons [6] (ok_ld (fun ν2 => .int .i64 a0.Hi) 6 9 1 1 (fun ν2 => ((ν1 0).n 0)) (fun ν2 => [.int .i64 a0.Lo, .int .i64 a0.Hi]) 40) <|
      .cons [7] (ok_val (fun ν2 => .int .i64 (w_i64 (a0.Lo + a0.Hi))) 7) <|
      .cons [8] (ok_callv 98 (fun ν2 => #[.int .i64 (w_i64 (a0.Lo + a0.Hi)), .int .i64 2]) (.int .i64 t3) 8 [] (fun _ w _ => armillaryref02_Floor.calls (w_i64 (a0.Lo + a0.Hi)) 2 t3 w ht3)) <|
      .cons [2] (ok_val (fun ν2 => .int .i64 t3) 2) <| .nil) (by kernel_rfl) fun ν2 a w' H => ?_
  replace H := H.toL [(2, .slot true (.int .i64 t3))] (by kernel_rfl)
  refine k_ret ?_
  obtain rfl := Option.some.inj G
  exact k_done0 H _ (by kernel_rfl) (by kernel_rfl)

set_option maxHeartbeats 4000000 in
theorem armillaryref03_Bisect.calls (a0 : List TInterval) (a1 : Int) (p_a0 : Option Addr) (c_a0 : Nat) (r : List TInterval × List TInterval × Int) (w : World) (R_p_a0 : RowAt w 2 p_a0 a0.length (a0.flatMap en_TInterval)) (G : armillaryref03_Bisect a0 a1 = some r) :
    Calls Try.prog 37 #[.slice p_a0 a0.length c_a0, .int .i64 a1] w fun e w' => ∃ p cap p2 cap2, e = .returned (.tuple #[.slice p r.1.length cap, .slice p2 r.2.1.length cap2, .int .i64 r.2.2]) ∧ Below w.heap.size w w' ∧ w'.ownsRow w.heap.size 40 2 (.slice p r.1.length cap) r.1.length (r.1.flatMap en_TInterval) ∧ w'.ownsRow w.heap.size 40 2 (.slice p2 r.2.1.length cap2) r.2.1.length (r.2.1.flatMap en_TInterval) ∧ ∀ j, fpOwn p j → ¬ fpOwn p2 j := by
  refine k_enterF (args := [.slice p_a0 a0.length c_a0, .int .i64 a1]) 58 [(58, rdK 2 p_a0 a0.length (a0.flatMap en_TInterval))] (by
    intro x hx
    simp only [List.mem_cons, List.not_mem_nil, or_false] at hx
    rcases hx with rfl
    exact rd_fact R_p_a0 (by decide) _) Try.func37 rfl (by kernel_rfl) (by kernel_rfl) fun a H => ?_
  unfold armillaryref03_Bisect at G
  refine k_seq ?_
  refine k_reg mixed H (.cons [4] (ok_val (fun ν1 => .slice none 0 0) 4) <|
      .cons [5] (ok_val (fun ν1 => .slice none 0 0) 5) <|
      .cons [6] (ok_val (fun ν1 => .int .i64 0) 6) <| .nil) (by kernel_rfl) fun ν1 a w' H => ?_
  replace H := H.toL [(0, .slot true (.slice p_a0 a0.length c_a0)), (1, .slot true (.int .i64 a1)), (4, .slot true (.slice none 0 0)), (5, .slot true (.slice none 0 0)), (6, .slot true (.int .i64 0)), (58, rdK 2 p_a0 a0.length (a0.flatMap en_TInterval))] (by kernel_rfl)
  refine k_seq ?_
  refine k_seq ?_
  replace G := gd G; obtain ⟨b3, G⟩ := G
  replace G := bnd G; obtain ⟨t4, ht4, G⟩ := G
  replace G := bnd G; obtain ⟨t5, ht5, G⟩ := G
  refine k_reg mixed H (.cons [10] (ok_val (fun ν2 => .int .i64 a1) 10) <|
      .cons [11] (ok_val (fun ν2 => .bool (decide (a1 < 0))) 11) <|
      .cons [12] (ok_val (fun ν2 => .bool (decide (a1 < 0))) 12) <|
      .cons [13] (ok_valg (fun ν2 => .int .i64 a1) (fun ν2 => ((decide (a1 < 0)) == false)) [true] 13) <|
      .cons [14] (ok_valg (fun ν2 => .slice p_a0 a0.length c_a0) (fun ν2 => ((decide (a1 < 0)) == false)) [true] 14) <|
      .cons [15] (ok_valg (fun ν2 => .int .i64 (a0.length : Int)) (fun ν2 => ((decide (a1 < 0)) == false)) [false] 15) <|
      .cons [16] (ok_valg (fun ν2 => .bool (decide (a1 ≥ (a0.length : Int)))) (fun ν2 => ((decide (a1 < 0)) == false)) [false, false] 16) <|
      .cons [17] (ok_or 12 16 (fun ν2 => true) (fun ν2 => true) (fun ν2 => decide (a1 < 0)) (fun ν2 => decide (a1 ≥ (a0.length : Int))) 17) <|
      .cons [18] (ok_val (fun ν2 => .bool ((decide (a1 < 0)) || (decide (a1 ≥ (a0.length : Int))))) 18) <|
      .cons [19] (ok_valg (fun ν2 => .slice p_a0 a0.length c_a0) (fun ν2 => (((decide (a1 < 0)) || (decide (a1 ≥ (a0.length : Int)))) == false)) [true] 19) <|
      .cons [20] (ok_valg (fun ν2 => .int .i64 a1) (fun ν2 => (((decide (a1 < 0)) || (decide (a1 ≥ (a0.length : Int)))) == false)) [true] 20) <|
      .cons [21] (ok_valL [58] (fun ν2 => [rdK 2 p_a0 a0.length (a0.flatMap en_TInterval)]) (fun ν2 => .pointer (some ⟨hdB p_a0, hdO p_a0 + a1.toNat * 2, none⟩)) (fun ν2 => (((decide (a1 < 0)) || (decide (a1 ≥ (a0.length : Int)))) == false)) [false, false] 21 (fun ν2 w hg hF => run_of (by kernel_rfl) (run_ix (t := 22) (p := p_a0) (n := a0.length) (cap := c_a0) (k := .i64) (i := a1) (sz := 2) (by kernel_rfl) (by kernel_rfl) (rd_of hF.1) (b3 hg)))) <|
      .cons [22] (ok_valL [58] (fun ν2 => [rdK 2 p_a0 a0.length (a0.flatMap en_TInterval)]) (fun ν2 => .agg #[.int .i64 t4.Lo, .int .i64 t4.Hi]) (fun ν2 => (((decide (a1 < 0)) || (decide (a1 ≥ (a0.length : Int)))) == false)) [false] 22 (fun ν2 w hg hF => ld_of (vs := [.int .i64 t4.Lo, .int .i64 t4.Hi]) (b := hdB p_a0) (off := hdO p_a0 + a1.toNat * 2 + 0) (m := 2) (by kernel_rfl) (el_cells (rd_of hF.1) en_TInterval_len (ifp ht4 hg) 0 2 rfl))) <|
      .cons [23] (ok_call 45 (fun ν2 => #[.agg #[.int .i64 t4.Lo, .int .i64 t4.Hi]]) (.bool t5) (fun ν2 => (((decide (a1 < 0)) || (decide (a1 ≥ (a0.length : Int)))) == false)) [true, false] 23 [] (fun _ w hg _ => armillaryref02_IsEntire.calls t4 t5 w (ifp ht5 hg))) <|
      .cons [24] (ok_or 18 23 (fun ν2 => true) (fun ν2 => true) (fun ν2 => ((decide (a1 < 0)) || (decide (a1 ≥ (a0.length : Int))))) (fun ν2 => t5) 24) <| .nil) (by kernel_rfl) fun ν2 a w' H => ?_
  replace H := H.toL [(0, .slot true (.slice p_a0 a0.length c_a0)), (1, .slot true (.int .i64 a1)), (4, .slot true (.slice none 0 0)), (5, .slot true (.slice none 0 0)), (6, .slot true (.int .i64 0)), (24, .slot true (.bool (((decide (a1 < 0)) || (decide (a1 ≥ (a0.length : Int)))) || t5))), (58, rdK 2 p_a0 a0.length (a0.flatMap en_TInterval))] (by kernel_rfl)
  refine k_cond H (by kernel_rfl) (t := (((decide (a1 < 0)) || (decide (a1 ≥ (a0.length : Int)))) || t5)) (by kernel_rfl) (fun c26 => ?_) (fun c26 => ?_)
  · rw [if_pos c26] at G
    refine k_seq ?_
    refine k_reg mixed H (.cons [4] (ok_val (fun ν6 => .slice none 0 0) 4) <|
      .cons [5] (ok_val (fun ν6 => .slice none 0 0) 5) <|
      .cons [6] (ok_val (fun ν6 => .int .i64 1) 6) <| .nil) (by kernel_rfl) fun ν6 a w' H => ?_
    replace H := H.toL [(0, .slot true (.slice p_a0 a0.length c_a0)), (1, .slot true (.int .i64 a1)), (4, .slot true (.slice none 0 0)), (5, .slot true (.slice none 0 0)), (6, .slot true (.int .i64 1)), (58, rdK 2 p_a0 a0.length (a0.flatMap en_TInterval))] (by kernel_rfl)
    refine k_ret ?_
    obtain rfl := Option.some.inj G
    replace H := H.nil_row 59 40 2
    replace H := H.nil_row 60 40 2
    exact k_doneR2 H (fun p cap p2 cap2 => .tuple #[.slice p ([] : List TInterval).length cap, .slice p2 ([] : List TInterval).length cap2, .int .i64 1]) none 0 none 0 [] 59 40 2 ([] : List TInterval).length (([] : List TInterval).flatMap en_TInterval) 60 40 2 ([] : List TInterval).length (([] : List TInterval).flatMap en_TInterval) (by decide) (by kernel_rfl) (by kernel_rfl) (by kernel_rfl) (by simp) (by kernel_rfl)
  · rw [if_neg (nt c26)] at G
    refine k_skip ?_
    refine k_seq ?_
    replace G := gd G; obtain ⟨b8, G⟩ := G
    refine k_reg mixed H (.cons [25, 61] (ok_new (fun b => .slice (some ⟨b, 0, none⟩) 0 0) (fun ν7 => []) 40 25 61) <|
      .cons [26] (ok_val (fun ν7 => .slice p_a0 a0.length c_a0) 26) <|
      .cons [27, 61] (ok_rowL [61, 58] (fun ν7 => [.blk ((ν7 0).n 0) [] 40, rdK 2 p_a0 a0.length (a0.flatMap en_TInterval)]) 40 2 a0.length (a0.flatMap en_TInterval) 27 61 (fun ν7 => .blk ((ν7 0).n 0) [] 40) (fun ν7 w hF => run_app_all (t := 22) (ty := 22) (en := en_TInterval) (p := p_a0) (cap := c_a0) en_TInterval_len (fun _ => rfl) inf40 hF.1 (rd_of hF.2.1) b8 (by kernel_rfl)) (fun _ => .inr trivial)) <|
      .cons [7] (ok_val (fun ν7 => .slice ((ν7 2).o 0) a0.length ((ν7 2).n 0)) 7) <| .nil) (by kernel_rfl) fun ν7 a w' H => ?_
    replace H := H.toL [(0, .slot true (.slice p_a0 a0.length c_a0)), (1, .slot true (.int .i64 a1)), (4, .slot true (.slice none 0 0)), (5, .slot true (.slice none 0 0)), (6, .slot true (.int .i64 0)), (7, .slot true (.slice ((ν7 2).o 0) a0.length ((ν7 2).n 0))), (58, rdK 2 p_a0 a0.length (a0.flatMap en_TInterval)), (61, owK 40 2 ((ν7 2).o 0) a0.length ((ν7 2).n 0) (a0.flatMap en_TInterval))] (by kernel_rfl)
    refine k_seq ?_
    replace G := gd G; obtain ⟨b10, G⟩ := G
    refine k_reg mixed H (.cons [28, 62] (ok_new (fun b => .slice (some ⟨b, 0, none⟩) 0 0) (fun ν9 => []) 40 28 62) <|
      .cons [29] (ok_val (fun ν9 => .slice p_a0 a0.length c_a0) 29) <|
      .cons [30, 62] (ok_rowL [62, 58] (fun ν9 => [.blk ((ν9 0).n 0) [] 40, rdK 2 p_a0 a0.length (a0.flatMap en_TInterval)]) 40 2 a0.length (a0.flatMap en_TInterval) 30 62 (fun ν9 => .blk ((ν9 0).n 0) [] 40) (fun ν9 w hF => run_app_all (t := 22) (ty := 22) (en := en_TInterval) (p := p_a0) (cap := c_a0) en_TInterval_len (fun _ => rfl) inf40 hF.1 (rd_of hF.2.1) b10 (by kernel_rfl)) (fun _ => .inr trivial)) <|
      .cons [8] (ok_val (fun ν9 => .slice ((ν9 2).o 0) a0.length ((ν9 2).n 0)) 8) <| .nil) (by kernel_rfl) fun ν9 a w' H => ?_
    replace H := H.toL [(0, .slot true (.slice p_a0 a0.length c_a0)), (1, .slot true (.int .i64 a1)), (4, .slot true (.slice none 0 0)), (5, .slot true (.slice none 0 0)), (6, .slot true (.int .i64 0)), (7, .slot true (.slice ((ν7 2).o 0) a0.length ((ν7 2).n 0))), (8, .slot true (.slice ((ν9 2).o 0) a0.length ((ν9 2).n 0))), (58, rdK 2 p_a0 a0.length (a0.flatMap en_TInterval)), (61, owK 40 2 ((ν7 2).o 0) a0.length ((ν7 2).n 0) (a0.flatMap en_TInterval)), (62, owK 40 2 ((ν9 2).o 0) a0.length ((ν9 2).n 0) (a0.flatMap en_TInterval))] (by kernel_rfl)
    refine k_seq ?_
    replace G := gd G; obtain ⟨b12, G⟩ := G
    replace G := bnd G; obtain ⟨t13, ht13, G⟩ := G
    replace G := bnd G; obtain ⟨t14, ht14, G⟩ := G
    refine k_reg mixed H (.cons [31] (ok_val (fun ν11 => .slice p_a0 a0.length c_a0) 31) <|
      .cons [32] (ok_val (fun ν11 => .int .i64 a1) 32) <|
      .cons [33] (ok_valL [58] (fun ν11 => [rdK 2 p_a0 a0.length (a0.flatMap en_TInterval)]) (fun ν11 => .pointer (some ⟨hdB p_a0, hdO p_a0 + a1.toNat * 2, none⟩)) (fun ν11 => true) [true, true] 33 (fun ν11 w hg hF => run_of (by kernel_rfl) (run_ix (t := 22) (p := p_a0) (n := a0.length) (cap := c_a0) (k := .i64) (i := a1) (sz := 2) (by kernel_rfl) (by kernel_rfl) (rd_of hF.1) b12))) <|
      .cons [34] (ok_valL [58] (fun ν11 => [rdK 2 p_a0 a0.length (a0.flatMap en_TInterval)]) (fun ν11 => .agg #[.int .i64 t13.Lo, .int .i64 t13.Hi]) (fun ν11 => true) [true] 34 (fun ν11 w hg hF => ld_of (vs := [.int .i64 t13.Lo, .int .i64 t13.Hi]) (b := hdB p_a0) (off := hdO p_a0 + a1.toNat * 2 + 0) (m := 2) (by kernel_rfl) (el_cells (rd_of hF.1) en_TInterval_len ht13 0 2 rfl))) <|
      .cons [35] (ok_callv 81 (fun ν11 => #[.agg #[.int .i64 t13.Lo, .int .i64 t13.Hi]]) (.int .i64 t14) 35 [] (fun _ w _ => armillaryref02_Mid.calls t13 t14 w ht14)) <|
      .cons [9] (ok_val (fun ν11 => .int .i64 t14) 9) <| .nil) (by kernel_rfl) fun ν11 a w' H => ?_
    replace H := H.toL [(0, .slot true (.slice p_a0 a0.length c_a0)), (1, .slot true (.int .i64 a1)), (4, .slot true (.slice none 0 0)), (5, .slot true (.slice none 0 0)), (6, .slot true (.int .i64 0)), (7, .slot true (.slice ((ν7 2).o 0) a0.length ((ν7 2).n 0))), (8, .slot true (.slice ((ν9 2).o 0) a0.length ((ν9 2).n 0))), (9, .slot true (.int .i64 t14)), (58, rdK 2 p_a0 a0.length (a0.flatMap en_TInterval)), (61, owK 40 2 ((ν7 2).o 0) a0.length ((ν7 2).n 0) (a0.flatMap en_TInterval)), (62, owK 40 2 ((ν9 2).o 0) a0.length ((ν9 2).n 0) (a0.flatMap en_TInterval))] (by kernel_rfl)
    refine k_seq ?_
    replace G := gd G; obtain ⟨b16, G⟩ := G
    replace G := bnd G; obtain ⟨t17, ht17, G⟩ := G
    replace G := gd G; obtain ⟨b18, G⟩ := G
    replace G := bnd G; obtain ⟨t19, ht19, G⟩ := G
    refine k_reg mixed H (.cons [36] (ok_val (fun ν15 => .slice ((ν7 2).o 0) a0.length ((ν7 2).n 0)) 36) <|
      .cons [37] (ok_val (fun ν15 => .int .i64 a1) 37) <|
      .cons [38] (ok_val (fun ν15 => .slice p_a0 a0.length c_a0) 38) <|
      .cons [39] (ok_val (fun ν15 => .int .i64 a1) 39) <|
      .cons [40] (ok_valL [58] (fun ν15 => [rdK 2 p_a0 a0.length (a0.flatMap en_TInterval)]) (fun ν15 => .pointer (some ⟨hdB p_a0, hdO p_a0 + a1.toNat * 2, none⟩)) (fun ν15 => true) [true, true] 40 (fun ν15 w hg hF => run_of (by kernel_rfl) (run_ix (t := 22) (p := p_a0) (n := a0.length) (cap := c_a0) (k := .i64) (i := a1) (sz := 2) (by kernel_rfl) (by kernel_rfl) (rd_of hF.1) b16))) <|
      .cons [41] (ok_val (fun ν15 => .pointer (some ⟨hdB p_a0, hdO p_a0 + a1.toNat * 2 + 0, none⟩)) 41) <|
      .cons [42] (ok_valL [58] (fun ν15 => [rdK 2 p_a0 a0.length (a0.flatMap en_TInterval)]) (fun ν15 => .int .i64 t17.Lo) (fun ν15 => true) [true] 42 (fun ν15 w hg hF => ld_of (vs := [.int .i64 t17.Lo]) (b := hdB p_a0) (off := hdO p_a0 + a1.toNat * 2 + 0) (m := 1) (by kernel_rfl) (el_cells (rd_of hF.1) en_TInterval_len ht17 0 1 rfl))) <|
      .cons [43] (ok_val (fun ν15 => .int .i64 t14) 43) <|
      .cons [44] (ok_val (fun ν15 => .agg #[.int .i64 t17.Lo, .int .i64 t14]) 44) <|
      .cons [45] (ok_valL [61] (fun ν15 => [owK 40 2 ((ν7 2).o 0) a0.length ((ν7 2).n 0) (a0.flatMap en_TInterval)]) (fun ν15 => .pointer (some ⟨hdB ((ν7 2).o 0), hdO ((ν7 2).o 0) + a1.toNat * 2, none⟩)) (fun ν15 => true) [true, true] 45 (fun ν15 w hg hF => run_of (by kernel_rfl) (run_ix (t := 22) (p := ((ν7 2).o 0)) (n := a0.length) (cap := ((ν7 2).n 0)) (k := .i64) (i := a1) (sz := 2) (by kernel_rfl) (by kernel_rfl) (owns_row (ow_of hF.1)) b18))) <|
      .cons [61] ((ok_rowsetL 40 2 a0.length (fun ν15 => ((ν7 2).o 0)) (fun ν15 => ((ν7 2).n 0)) (a0.flatMap en_TInterval) _ 61 (fun ν15 w hF => el_store (ow_of hF) en_TInterval_len (y := (⟨t17.Lo, t14⟩ : TInterval)) (vs := [.int .i64 t17.Lo, .int .i64 t14]) ht19 0 (by simp) (by simp) rfl (by kernel_rfl)))) <| .nil) (by kernel_rfl) fun ν15 a w' H => ?_
    replace H := H.toL [(0, .slot true (.slice p_a0 a0.length c_a0)), (1, .slot true (.int .i64 a1)), (4, .slot true (.slice none 0 0)), (5, .slot true (.slice none 0 0)), (6, .slot true (.int .i64 0)), (7, .slot true (.slice ((ν7 2).o 0) a0.length ((ν7 2).n 0))), (8, .slot true (.slice ((ν9 2).o 0) a0.length ((ν9 2).n 0))), (9, .slot true (.int .i64 t14)), (58, rdK 2 p_a0 a0.length (a0.flatMap en_TInterval)), (61, owK 40 2 ((ν7 2).o 0) a0.length ((ν7 2).n 0) ((a0.set a1.toNat (⟨t17.Lo, t14⟩ : TInterval)).flatMap en_TInterval)), (62, owK 40 2 ((ν9 2).o 0) a0.length ((ν9 2).n 0) (a0.flatMap en_TInterval))] (by kernel_rfl)
    refine k_seq ?_
    replace G := gd G; obtain ⟨b21, G⟩ := G
    replace G := bnd G; obtain ⟨t22, ht22, G⟩ := G
    replace G := gd G; obtain ⟨b23, G⟩ := G
    replace G := bnd G; obtain ⟨t24, ht24, G⟩ := G
    refine k_reg mixed H (.cons [46] (ok_val (fun ν20 => .slice ((ν9 2).o 0) a0.length ((ν9 2).n 0)) 46) <|
      .cons [47] (ok_val (fun ν20 => .int .i64 a1) 47) <|
      .cons [48] (ok_val (fun ν20 => .int .i64 t14) 48) <|
      .cons [49] (ok_val (fun ν20 => .slice p_a0 a0.length c_a0) 49) <|
      .cons [50] (ok_val (fun ν20 => .int .i64 a1) 50) <|
      .cons [51] (ok_valL [58] (fun ν20 => [rdK 2 p_a0 a0.length (a0.flatMap en_TInterval)]) (fun ν20 => .pointer (some ⟨hdB p_a0, hdO p_a0 + a1.toNat * 2, none⟩)) (fun ν20 => true) [true, true] 51 (fun ν20 w hg hF => run_of (by kernel_rfl) (run_ix (t := 22) (p := p_a0) (n := a0.length) (cap := c_a0) (k := .i64) (i := a1) (sz := 2) (by kernel_rfl) (by kernel_rfl) (rd_of hF.1) b21))) <|
      .cons [52] (ok_val (fun ν20 => .pointer (some ⟨hdB p_a0, hdO p_a0 + a1.toNat * 2 + 1, none⟩)) 52) <|
      .cons [53] (ok_valL [58] (fun ν20 => [rdK 2 p_a0 a0.length (a0.flatMap en_TInterval)]) (fun ν20 => .int .i64 t22.Hi) (fun ν20 => true) [true] 53 (fun ν20 w hg hF => ld_of (vs := [.int .i64 t22.Hi]) (b := hdB p_a0) (off := hdO p_a0 + a1.toNat * 2 + 1) (m := 1) (by kernel_rfl) (el_cells (rd_of hF.1) en_TInterval_len ht22 1 1 rfl))) <|
      .cons [54] (ok_val (fun ν20 => .agg #[.int .i64 t14, .int .i64 t22.Hi]) 54) <|
      .cons [55] (ok_valL [62] (fun ν20 => [owK 40 2 ((ν9 2).o 0) a0.length ((ν9 2).n 0) (a0.flatMap en_TInterval)]) (fun ν20 => .pointer (some ⟨hdB ((ν9 2).o 0), hdO ((ν9 2).o 0) + a1.toNat * 2, none⟩)) (fun ν20 => true) [true, true] 55 (fun ν20 w hg hF => run_of (by kernel_rfl) (run_ix (t := 22) (p := ((ν9 2).o 0)) (n := a0.length) (cap := ((ν9 2).n 0)) (k := .i64) (i := a1) (sz := 2) (by kernel_rfl) (by kernel_rfl) (owns_row (ow_of hF.1)) b23))) <|
      .cons [62] ((ok_rowsetL 40 2 a0.length (fun ν20 => ((ν9 2).o 0)) (fun ν20 => ((ν9 2).n 0)) (a0.flatMap en_TInterval) _ 62 (fun ν20 w hF => el_store (ow_of hF) en_TInterval_len (y := (⟨t14, t22.Hi⟩ : TInterval)) (vs := [.int .i64 t14, .int .i64 t22.Hi]) ht24 0 (by simp) (by simp) rfl (by kernel_rfl)))) <| .nil) (by kernel_rfl) fun ν20 a w' H => ?_
    replace H := H.toL [(4, .slot true (.slice none 0 0)), (5, .slot true (.slice none 0 0)), (6, .slot true (.int .i64 0)), (7, .slot true (.slice ((ν7 2).o 0) a0.length ((ν7 2).n 0))), (8, .slot true (.slice ((ν9 2).o 0) a0.length ((ν9 2).n 0))), (61, owK 40 2 ((ν7 2).o 0) a0.length ((ν7 2).n 0) ((a0.set a1.toNat (⟨t17.Lo, t14⟩ : TInterval)).flatMap en_TInterval)), (62, owK 40 2 ((ν9 2).o 0) a0.length ((ν9 2).n 0) ((a0.set a1.toNat (⟨t14, t22.Hi⟩ : TInterval)).flatMap en_TInterval))] (by kernel_rfl)
    refine k_seq ?_
    refine k_reg mixed H (.cons [56] (ok_val (fun ν25 => .slice ((ν7 2).o 0) a0.length ((ν7 2).n 0)) 56) <|
      .cons [57] (ok_val (fun ν25 => .slice ((ν9 2).o 0) a0.length ((ν9 2).n 0)) 57) <|
      .cons [4] (ok_val (fun ν25 => .slice ((ν7 2).o 0) a0.length ((ν7 2).n 0)) 4) <|
      .cons [5] (ok_val (fun ν25 => .slice ((ν9 2).o 0) a0.length ((ν9 2).n 0)) 5) <|
      .cons [6] (ok_val (fun ν25 => .int .i64 0) 6) <| .nil) (by kernel_rfl) fun ν25 a w' H => ?_
    replace H := H.toL [(4, .slot true (.slice ((ν7 2).o 0) a0.length ((ν7 2).n 0))), (5, .slot true (.slice ((ν9 2).o 0) a0.length ((ν9 2).n 0))), (6, .slot true (.int .i64 0)), (61, owK 40 2 ((ν7 2).o 0) a0.length ((ν7 2).n 0) ((a0.set a1.toNat (⟨t17.Lo, t14⟩ : TInterval)).flatMap en_TInterval)), (62, owK 40 2 ((ν9 2).o 0) a0.length ((ν9 2).n 0) ((a0.set a1.toNat (⟨t14, t22.Hi⟩ : TInterval)).flatMap en_TInterval))] (by kernel_rfl)
    refine k_ret ?_
    obtain rfl := Option.some.inj G
    simp only [List.length_set]
    exact k_doneR2 H (fun p cap p2 cap2 => .tuple #[.slice p a0.length cap, .slice p2 a0.length cap2, .int .i64 0]) ((ν7 2).o 0) ((ν7 2).n 0) ((ν9 2).o 0) ((ν9 2).n 0) [] 61 40 2 a0.length ((a0.set a1.toNat (⟨t17.Lo, t14⟩ : TInterval)).flatMap en_TInterval) 62 40 2 a0.length ((a0.set a1.toNat (⟨t14, t22.Hi⟩ : TInterval)).flatMap en_TInterval) (by decide) (by kernel_rfl) (by kernel_rfl) (by kernel_rfl) (by simp) (by kernel_rfl)

set_option maxHeartbeats 4000000 in
theorem armillaryref03_Mid.calls (k0 : Nat) (a0 : List TInterval) (p_a0 : Option Addr) (c_a0 : Nat) (r : List Int) (w : World) (R_p_a0 : RowAt w 2 p_a0 a0.length (a0.flatMap en_TInterval)) (G : armillaryref03_Mid k0 a0 = some r) :
    Calls Try.prog 39 #[.slice p_a0 a0.length c_a0] w fun e w' => ∃ p cap, e = .returned (.slice p r.length cap) ∧ Below w.heap.size w w' ∧ w'.ownsRow w.heap.size 2 1 (.slice p r.length cap) r.length (r.flatMap en_i64) := by
  refine k_enterF (args := [.slice p_a0 a0.length c_a0]) 21 [(21, rdK 2 p_a0 a0.length (a0.flatMap en_TInterval))] (by
    intro x hx
    simp only [List.mem_cons, List.not_mem_nil, or_false] at hx
    rcases hx with rfl
    exact rd_fact R_p_a0 (by decide) _) Try.func39 rfl (by kernel_rfl) (by kernel_rfl) fun a H => ?_
  unfold armillaryref03_Mid at G
  refine k_seq ?_
  refine k_reg mixed H (.cons [2] (ok_val (fun ν1 => .slice none 0 0) 2) <| .nil) (by kernel_rfl) fun ν1 a w' H => ?_
  replace H := H.toL [(0, .slot true (.slice p_a0 a0.length c_a0)), (2, .slot true (.slice none 0 0)), (21, rdK 2 p_a0 a0.length (a0.flatMap en_TInterval))] (by kernel_rfl)
  refine k_seq ?_
  refine k_reg mixed H (.cons [5, 22] (ok_new (fun b => .slice (some ⟨b, 0, none⟩) 0 0) (fun ν2 => []) 2 5 22) <|
      .cons [3] (ok_val (fun ν2 => .slice (some ⟨((ν2 0).n 0), 0, none⟩) 0 0) 3) <| .nil) (by kernel_rfl) fun ν2 a w' H => ?_
  replace H := H.toL [(0, .slot true (.slice p_a0 a0.length c_a0)), (2, .slot true (.slice none 0 0)), (3, .slot true (.slice (some ⟨((ν2 0).n 0), 0, none⟩) 0 0)), (22, .blk ((ν2 0).n 0) [] 2), (21, rdK 2 p_a0 a0.length (a0.flatMap en_TInterval))] (by kernel_rfl)
  refine k_seq ?_
  replace G := bnd G; obtain ⟨j4, hj4, G⟩ := G
  refine k_join (fun a w' => ∃ (p_j3 : Option Addr) (c_j3 np_j3 : Nat), np_j3 = j4.length ∧ Rep w.heap.size w 21 (ofL [(2, .slot true (.slice none 0 0)), (3, .slot true (.slice p_j3 np_j3 c_j3)), (22, owK 2 1 p_j3 np_j3 c_j3 (j4.flatMap en_i64))]) a w') ?_ ?_
  · clear H; rintro a w' ⟨p_j3, c_j3, _, rfl, H⟩
    refine k_seq ?_
    refine k_reg mixed H (.cons [20] (ok_val (fun ν5 => .slice p_j3 j4.length c_j3) 20) <|
      .cons [2] (ok_val (fun ν5 => .slice p_j3 j4.length c_j3) 2) <| .nil) (by kernel_rfl) fun ν5 a w' H => ?_
    replace H := H.toL [(2, .slot true (.slice p_j3 j4.length c_j3)), (22, owK 2 1 p_j3 j4.length c_j3 (j4.flatMap en_i64))] (by kernel_rfl)
    refine k_ret ?_
    obtain rfl := Option.some.inj G
    exact k_doneR H (fun p cap => .slice p j4.length cap) p_j3 c_j3 [] 22 2 1 j4.length (j4.flatMap en_i64) (by kernel_rfl) (by kernel_rfl) (by simp) (by kernel_rfl)
  · clear G; replace G := hj4; clear hj4
    refine k_seq ?_
    refine k_reg mixed H (.cons [4] (ok_val (fun ν6 => .int .i64 0) 4) <| .nil) (by kernel_rfl) fun ν6 a w' H => ?_
    replace H := H.toL [(0, .slot true (.slice p_a0 a0.length c_a0)), (2, .slot true (.slice none 0 0)), (3, .slot true (.slice (some ⟨((ν2 0).n 0), 0, none⟩) 0 0)), (4, .slot true (.int .i64 0)), (22, .blk ((ν2 0).n 0) [] 2), (21, rdK 2 p_a0 a0.length (a0.flatMap en_TInterval))] (by kernel_rfl)
    refine k_block ?_
    replace H := H.blk_row 22 ((ν2 0).n 0) [] 2 1 0 (by kernel_rfl) (by kernel_rfl) (by decide)
    refine k_loopJ (fun m a w' => ∃ x7 : List Int, ∃ x8 : Int, armillaryref03_Mid.l9 k0 a0 m x7 x8 = some j4 ∧ ∃ (p_x7 : Option Addr) (c_x7 np_x7 : Nat), np_x7 = x7.length ∧ Rep w.heap.size w 21 (ofL [(0, .slot true (.slice p_a0 a0.length c_a0)), (2, .slot true (.slice none 0 0)), (3, .slot true (.slice p_x7 np_x7 c_x7)), (4, .slot true (.int .i64 x8)), (21, rdK 2 p_a0 a0.length (a0.flatMap en_TInterval)), (22, owK 2 1 p_x7 np_x7 c_x7 (x7.flatMap en_i64))]) a w') k0 ⟨_, _, G, (some ⟨((ν2 0).n 0), 0, none⟩), 0, _, rfl, H.toL _ (by kernel_rfl)⟩ ?_
    clear G H
    rintro (_ | k) a w' ⟨x7, x8, G, p_x7, c_x7, _, rfl, H⟩
    · exact absurd G (by unfold armillaryref03_Mid.l9; exact fun h => by cases h)
    · unfold armillaryref03_Mid.l9 at G
      refine k_seq ?_
      refine k_seq ?_
      refine k_reg mixed H (.cons [6] (ok_val (fun ν10 => .int .i64 x8) 6) <|
      .cons [7] (ok_val (fun ν10 => .slice p_a0 a0.length c_a0) 7) <|
      .cons [8] (ok_val (fun ν10 => .int .i64 (a0.length : Int)) 8) <|
      .cons [9] (ok_val (fun ν10 => .bool (decide (x8 < (a0.length : Int)))) 9) <| .nil) (by kernel_rfl) fun ν10 a w' H => ?_
      replace H := H.toL [(0, .slot true (.slice p_a0 a0.length c_a0)), (2, .slot true (.slice none 0 0)), (3, .slot true (.slice p_x7 x7.length c_x7)), (4, .slot true (.int .i64 x8)), (6, .slot true (.int .i64 x8)), (7, .slot true (.slice p_a0 a0.length c_a0)), (8, .slot true (.int .i64 (a0.length : Int))), (9, .slot true (.bool (decide (x8 < (a0.length : Int))))), (21, rdK 2 p_a0 a0.length (a0.flatMap en_TInterval)), (22, owK 2 1 p_x7 x7.length c_x7 (x7.flatMap en_i64))] (by kernel_rfl)
      refine k_cond H (by kernel_rfl) (t := decide (x8 < (a0.length : Int))) (by kernel_rfl) (fun c17 => ?_) (fun c17 => ?_)
      · rw [if_pos c17] at G
        refine k_skip ?_
        refine k_seq ?_
        refine k_block ?_
        replace G := gd G; obtain ⟨b12, G⟩ := G
        replace G := bnd G; obtain ⟨t13, ht13, G⟩ := G
        replace G := bnd G; obtain ⟨t14, ht14, G⟩ := G
        replace G := gd G; obtain ⟨b15, G⟩ := G
        refine k_reg mixed H (.cons [12] (ok_val (fun ν11 => .slice p_x7 x7.length c_x7) 12) <|
      .cons [13] (ok_val (fun ν11 => .slice p_a0 a0.length c_a0) 13) <|
      .cons [14] (ok_val (fun ν11 => .int .i64 x8) 14) <|
      .cons [15] (ok_valL [21] (fun ν11 => [rdK 2 p_a0 a0.length (a0.flatMap en_TInterval)]) (fun ν11 => .pointer (some ⟨hdB p_a0, hdO p_a0 + x8.toNat * 2, none⟩)) (fun ν11 => true) [true, true] 15 (fun ν11 w hg hF => run_of (by kernel_rfl) (run_ix (t := 22) (p := p_a0) (n := a0.length) (cap := c_a0) (k := .i64) (i := x8) (sz := 2) (by kernel_rfl) (by kernel_rfl) (rd_of hF.1) b12))) <|
      .cons [16] (ok_valL [21] (fun ν11 => [rdK 2 p_a0 a0.length (a0.flatMap en_TInterval)]) (fun ν11 => .agg #[.int .i64 t13.Lo, .int .i64 t13.Hi]) (fun ν11 => true) [true] 16 (fun ν11 w hg hF => ld_of (vs := [.int .i64 t13.Lo, .int .i64 t13.Hi]) (b := hdB p_a0) (off := hdO p_a0 + x8.toNat * 2 + 0) (m := 2) (by kernel_rfl) (el_cells (rd_of hF.1) en_TInterval_len ht13 0 2 rfl))) <|
      .cons [17] (ok_callv 81 (fun ν11 => #[.agg #[.int .i64 t13.Lo, .int .i64 t13.Hi]]) (.int .i64 t14) 17 [] (fun _ w _ => armillaryref02_Mid.calls t13 t14 w ht14)) <|
      .cons [18, 23] (ok_new (fun b => .slice (some ⟨b, 0, none⟩) 1 1) (fun ν11 => [.int .i64 t14]) 2 18 23) <|
      .cons [19, 22] (ok_rowL [22, 23] (fun ν11 => [owK 2 1 p_x7 x7.length c_x7 (x7.flatMap en_i64), .blk ((ν11 6).n 0) [.int .i64 t14] 2]) 2 1 (x7 ++ [t14]).length ((x7 ++ [t14]).flatMap en_i64) 19 22 (fun ν11 => owK 2 1 p_x7 x7.length c_x7 (x7.flatMap en_i64)) (fun ν11 w hF => run_app_row (t := 27) (ty := 27) (en := en_i64) en_i64_len inf2 (ow_of hF.1) hF.2.1 (news := [t14]) rfl (by simp) (by kernel_rfl) b15) (fun _ => .inr trivial)) <|
      .cons [3] (ok_val (fun ν11 => .slice ((ν11 7).o 0) (x7 ++ [t14]).length ((ν11 7).n 0)) 3) <| .nil) (by kernel_rfl) fun ν11 a w' H => ?_
        replace H := H.toL [(0, .slot true (.slice p_a0 a0.length c_a0)), (2, .slot true (.slice none 0 0)), (3, .slot true (.slice ((ν11 7).o 0) (x7 ++ [t14]).length ((ν11 7).n 0))), (4, .slot true (.int .i64 x8)), (6, .slot true (.int .i64 x8)), (7, .slot true (.slice p_a0 a0.length c_a0)), (8, .slot true (.int .i64 (a0.length : Int))), (9, .slot true (.bool (decide (x8 < (a0.length : Int))))), (13, .slot true (.slice p_a0 a0.length c_a0)), (14, .slot true (.int .i64 x8)), (15, .slot true (.pointer (some ⟨hdB p_a0, hdO p_a0 + x8.toNat * 2, none⟩))), (16, .slot true (.agg #[.int .i64 t13.Lo, .int .i64 t13.Hi])), (17, .slot true (.int .i64 t14)), (18, .slot true (.slice (some ⟨((ν11 6).n 0), 0, none⟩) 1 1)), (19, .slot true (.slice ((ν11 7).o 0) (x7 ++ [t14]).length ((ν11 7).n 0))), (23, .blk ((ν11 6).n 0) [.int .i64 t14] 2), (21, rdK 2 p_a0 a0.length (a0.flatMap en_TInterval)), (22, owK 2 1 ((ν11 7).o 0) (x7 ++ [t14]).length ((ν11 7).n 0) ((x7 ++ [t14]).flatMap en_i64))] (by kernel_rfl)
        refine k_reg mixed H (.cons [10] (ok_val (fun ν16 => .int .i64 x8) 10) <|
      .cons [11] (ok_val (fun ν16 => .int .i64 (w_i64 (x8 + 1))) 11) <|
      .cons [4] (ok_val (fun ν16 => .int .i64 (w_i64 (x8 + 1))) 4) <| .nil) (by kernel_rfl) fun ν16 a w' H => ?_
        replace H := H.toL [(0, .slot true (.slice p_a0 a0.length c_a0)), (2, .slot true (.slice none 0 0)), (3, .slot true (.slice ((ν11 7).o 0) (x7 ++ [t14]).length ((ν11 7).n 0))), (4, .slot true (.int .i64 (w_i64 (x8 + 1)))), (6, .slot true (.int .i64 x8)), (7, .slot true (.slice p_a0 a0.length c_a0)), (8, .slot true (.int .i64 (a0.length : Int))), (9, .slot true (.bool (decide (x8 < (a0.length : Int))))), (10, .slot true (.int .i64 x8)), (11, .slot true (.int .i64 (w_i64 (x8 + 1)))), (13, .slot true (.slice p_a0 a0.length c_a0)), (14, .slot true (.int .i64 x8)), (15, .slot true (.pointer (some ⟨hdB p_a0, hdO p_a0 + x8.toNat * 2, none⟩))), (16, .slot true (.agg #[.int .i64 t13.Lo, .int .i64 t13.Hi])), (17, .slot true (.int .i64 t14)), (18, .slot true (.slice (some ⟨((ν11 6).n 0), 0, none⟩) 1 1)), (19, .slot true (.slice ((ν11 7).o 0) (x7 ++ [t14]).length ((ν11 7).n 0))), (23, .blk ((ν11 6).n 0) [.int .i64 t14] 2), (21, rdK 2 p_a0 a0.length (a0.flatMap en_TInterval)), (22, owK 2 1 ((ν11 7).o 0) (x7 ++ [t14]).length ((ν11 7).n 0) ((x7 ++ [t14]).flatMap en_i64))] (by kernel_rfl)
        exact ⟨k, Nat.lt_succ_self k, _, _, G, ((ν11 7).o 0), ((ν11 7).n 0), _, rfl, H.toL _ (by kernel_rfl)⟩
      · rw [if_neg (nt c17)] at G
        refine k_exit rfl ?_
        obtain rfl := Option.some.inj G
        exact ⟨p_x7, c_x7, _, rfl, H.toL _ (by kernel_rfl)⟩

set_option maxHeartbeats 4000000 in
theorem armillaryref02_Width.calls (a0 : TInterval) (r : Int) (w : World) (G : armillaryref02_Width a0 = some r) :
    Calls Try.prog 84 #[.agg #[.int .i64 a0.Lo, .int .i64 a0.Hi]] w fun e w' => e = .returned (.int .i64 r) ∧ Below w.heap.size w w' := by
  refine k_enter (args := [.agg #[.int .i64 a0.Lo, .int .i64 a0.Hi]]) 8 Try.func84 rfl (by kernel_rfl) (by kernel_rfl) fun a H => ?_
  unfold armillaryref02_Width at G
  refine k_seq ?_
  refine k_reg mixed H (.cons [1, 8] (ok_new (fun b => .pointer (some ⟨b, 0, none⟩)) (fun ν1 => [.int .i64 a0.Lo, .int .i64 a0.Hi]) 40 1 8) <|
      .cons [2] (ok_val (fun ν1 => .int .i64 0) 2) <| .nil) (by kernel_rfl) fun ν1 a w' H => ?_
  replace H := H.toL [(1, .slot true (.pointer (some ⟨((ν1 0).n 0), 0, none⟩))), (2, .slot true (.int .i64 0)), (8, .blk ((ν1 0).n 0) [.int .i64 a0.Lo, .int .i64 a0.Hi] 40)] (by kernel_rfl)
  refine k_seq ?_
  refine k_reg mixed H (.cons [3] (ok_val (fun ν2 => .pointer (some ⟨((ν1 0).n 0), 1, none⟩)) 3) <|
      .cons [4] (ok_ld (fun ν2 => .int .i64 a0.Hi) 4 8 1 1 (fun ν2 => ((ν1 0).n 0)) (fun ν2 => [.int .i64 a0.Lo, .int .i64 a0.Hi]) 40) <|
      .cons [5] (ok_val (fun ν2 => .pointer (some ⟨((ν1 0).n 0), 0, none⟩)) 5) <|
      .cons [6] (ok_ld (fun ν2 => .int .i64 a0.Lo) 6 8 0 1 (fun ν2 => ((ν1 0).n 0)) (fun ν2 => [.int .i64 a0.Lo, .int .i64 a0.Hi]) 40) <|
      .cons [7] (ok_val (fun ν2 => .int .i64 (w_i64 (a0.Hi - a0.Lo))) 7) <|
      .cons [2] (ok_val (fun ν2 => .int .i64 (w_i64 (a0.Hi - a0.Lo))) 2) <| .nil) (by kernel_rfl) fun ν2 a w' H => ?_
  replace H := H.toL [(2, .slot true (.int .i64 (w_i64 (a0.Hi - a0.Lo))))] (by kernel_rfl)
  refine k_ret ?_
  obtain rfl := Option.some.inj G
  exact k_done0 H _ (by kernel_rfl) (by kernel_rfl)

set_option maxHeartbeats 4000000 in
theorem armillaryref03_Width.calls (k0 : Nat) (a0 : List TInterval) (p_a0 : Option Addr) (c_a0 : Nat) (r : Int) (w : World) (R_p_a0 : RowAt w 2 p_a0 a0.length (a0.flatMap en_TInterval)) (G : armillaryref03_Width k0 a0 = some r) :
    Calls Try.prog 41 #[.slice p_a0 a0.length c_a0] w fun e w' => e = .returned (.int .i64 r) ∧ Below w.heap.size w w' := by
  refine k_enterF (args := [.slice p_a0 a0.length c_a0]) 19 [(19, rdK 2 p_a0 a0.length (a0.flatMap en_TInterval))] (by
    intro x hx
    simp only [List.mem_cons, List.not_mem_nil, or_false] at hx
    rcases hx with rfl
    exact rd_fact R_p_a0 (by decide) _) Try.func41 rfl (by kernel_rfl) (by kernel_rfl) fun a H => ?_
  unfold armillaryref03_Width at G
  refine k_seq ?_
  refine k_reg mixed H (.cons [2] (ok_val (fun ν1 => .int .i64 0) 2) <| .nil) (by kernel_rfl) fun ν1 a w' H => ?_
  replace H := H.toL [(0, .slot true (.slice p_a0 a0.length c_a0)), (2, .slot true (.int .i64 0)), (19, rdK 2 p_a0 a0.length (a0.flatMap en_TInterval))] (by kernel_rfl)
  refine k_seq ?_
  refine k_reg mixed H (.cons [3] (ok_val (fun ν2 => .int .i64 0) 3) <| .nil) (by kernel_rfl) fun ν2 a w' H => ?_
  replace H := H.toL [(0, .slot true (.slice p_a0 a0.length c_a0)), (2, .slot true (.int .i64 0)), (3, .slot true (.int .i64 0)), (19, rdK 2 p_a0 a0.length (a0.flatMap en_TInterval))] (by kernel_rfl)
  refine k_seq ?_
  replace G := bnd G; obtain ⟨j4, hj4, G⟩ := G
  refine k_join (fun a w' => Rep w.heap.size w 19 (ofL [(2, .slot true (.int .i64 0)), (3, .slot true (.int .i64 j4))]) a w') ?_ ?_
  · clear H; intro a w' H
    refine k_seq ?_
    refine k_reg mixed H (.cons [18] (ok_val (fun ν5 => .int .i64 j4) 18) <|
      .cons [2] (ok_val (fun ν5 => .int .i64 j4) 2) <| .nil) (by kernel_rfl) fun ν5 a w' H => ?_
    replace H := H.toL [(2, .slot true (.int .i64 j4))] (by kernel_rfl)
    refine k_ret ?_
    obtain rfl := Option.some.inj G
    exact k_done0 H _ (by kernel_rfl) (by kernel_rfl)
  · clear G; replace G := hj4; clear hj4
    refine k_seq ?_
    refine k_reg mixed H (.cons [4] (ok_val (fun ν6 => .int .i64 0) 4) <| .nil) (by kernel_rfl) fun ν6 a w' H => ?_
    replace H := H.toL [(0, .slot true (.slice p_a0 a0.length c_a0)), (2, .slot true (.int .i64 0)), (3, .slot true (.int .i64 0)), (4, .slot true (.int .i64 0)), (19, rdK 2 p_a0 a0.length (a0.flatMap en_TInterval))] (by kernel_rfl)
    refine k_block ?_
    refine k_loopJ (fun m a w' => ∃ x7 : Int, ∃ x8 : Int, armillaryref03_Width.l9 k0 a0 m x7 x8 = some j4 ∧ Rep w.heap.size w 19 (ofL [(0, .slot true (.slice p_a0 a0.length c_a0)), (2, .slot true (.int .i64 0)), (3, .slot true (.int .i64 x7)), (4, .slot true (.int .i64 x8)), (19, rdK 2 p_a0 a0.length (a0.flatMap en_TInterval))]) a w') k0 ⟨_, _, G, H.toL _ (by kernel_rfl)⟩ ?_
    clear G H
    rintro (_ | k) a w' ⟨x7, x8, G, H⟩
    · exact absurd G (by unfold armillaryref03_Width.l9; exact fun h => by cases h)
    · unfold armillaryref03_Width.l9 at G
      refine k_seq ?_
      refine k_seq ?_
      refine k_reg mixed H (.cons [5] (ok_val (fun ν10 => .int .i64 x8) 5) <|
      .cons [6] (ok_val (fun ν10 => .slice p_a0 a0.length c_a0) 6) <|
      .cons [7] (ok_val (fun ν10 => .int .i64 (a0.length : Int)) 7) <|
      .cons [8] (ok_val (fun ν10 => .bool (decide (x8 < (a0.length : Int)))) 8) <| .nil) (by kernel_rfl) fun ν10 a w' H => ?_
      replace H := H.toL [(0, .slot true (.slice p_a0 a0.length c_a0)), (2, .slot true (.int .i64 0)), (3, .slot true (.int .i64 x7)), (4, .slot true (.int .i64 x8)), (5, .slot true (.int .i64 x8)), (6, .slot true (.slice p_a0 a0.length c_a0)), (7, .slot true (.int .i64 (a0.length : Int))), (8, .slot true (.bool (decide (x8 < (a0.length : Int))))), (19, rdK 2 p_a0 a0.length (a0.flatMap en_TInterval))] (by kernel_rfl)
      refine k_cond H (by kernel_rfl) (t := decide (x8 < (a0.length : Int))) (by kernel_rfl) (fun c16 => ?_) (fun c16 => ?_)
      · rw [if_pos c16] at G
        refine k_skip ?_
        refine k_seq ?_
        refine k_block ?_
        replace G := gd G; obtain ⟨b12, G⟩ := G
        replace G := bnd G; obtain ⟨t13, ht13, G⟩ := G
        replace G := bnd G; obtain ⟨t14, ht14, G⟩ := G
        refine k_reg mixed H (.cons [11] (ok_val (fun ν11 => .int .i64 x7) 11) <|
      .cons [12] (ok_val (fun ν11 => .slice p_a0 a0.length c_a0) 12) <|
      .cons [13] (ok_val (fun ν11 => .int .i64 x8) 13) <|
      .cons [14] (ok_valL [19] (fun ν11 => [rdK 2 p_a0 a0.length (a0.flatMap en_TInterval)]) (fun ν11 => .pointer (some ⟨hdB p_a0, hdO p_a0 + x8.toNat * 2, none⟩)) (fun ν11 => true) [true, true] 14 (fun ν11 w hg hF => run_of (by kernel_rfl) (run_ix (t := 22) (p := p_a0) (n := a0.length) (cap := c_a0) (k := .i64) (i := x8) (sz := 2) (by kernel_rfl) (by kernel_rfl) (rd_of hF.1) b12))) <|
      .cons [15] (ok_valL [19] (fun ν11 => [rdK 2 p_a0 a0.length (a0.flatMap en_TInterval)]) (fun ν11 => .agg #[.int .i64 t13.Lo, .int .i64 t13.Hi]) (fun ν11 => true) [true] 15 (fun ν11 w hg hF => ld_of (vs := [.int .i64 t13.Lo, .int .i64 t13.Hi]) (b := hdB p_a0) (off := hdO p_a0 + x8.toNat * 2 + 0) (m := 2) (by kernel_rfl) (el_cells (rd_of hF.1) en_TInterval_len ht13 0 2 rfl))) <|
      .cons [16] (ok_callv 84 (fun ν11 => #[.agg #[.int .i64 t13.Lo, .int .i64 t13.Hi]]) (.int .i64 t14) 16 [] (fun _ w _ => armillaryref02_Width.calls t13 t14 w ht14)) <|
      .cons [17] (ok_val (fun ν11 => .int .i64 (mx x7 t14)) 17) <|
      .cons [3] (ok_val (fun ν11 => .int .i64 (mx x7 t14)) 3) <| .nil) (by kernel_rfl) fun ν11 a w' H => ?_
        replace H := H.toL [(0, .slot true (.slice p_a0 a0.length c_a0)), (2, .slot true (.int .i64 0)), (3, .slot true (.int .i64 (mx x7 t14))), (4, .slot true (.int .i64 x8)), (5, .slot true (.int .i64 x8)), (6, .slot true (.slice p_a0 a0.length c_a0)), (7, .slot true (.int .i64 (a0.length : Int))), (8, .slot true (.bool (decide (x8 < (a0.length : Int))))), (11, .slot true (.int .i64 x7)), (12, .slot true (.slice p_a0 a0.length c_a0)), (13, .slot true (.int .i64 x8)), (14, .slot true (.pointer (some ⟨hdB p_a0, hdO p_a0 + x8.toNat * 2, none⟩))), (15, .slot true (.agg #[.int .i64 t13.Lo, .int .i64 t13.Hi])), (16, .slot true (.int .i64 t14)), (17, .slot true (.int .i64 (mx x7 t14))), (19, rdK 2 p_a0 a0.length (a0.flatMap en_TInterval))] (by kernel_rfl)
        refine k_reg mixed H (.cons [9] (ok_val (fun ν15 => .int .i64 x8) 9) <|
      .cons [10] (ok_val (fun ν15 => .int .i64 (w_i64 (x8 + 1))) 10) <|
      .cons [4] (ok_val (fun ν15 => .int .i64 (w_i64 (x8 + 1))) 4) <| .nil) (by kernel_rfl) fun ν15 a w' H => ?_
        replace H := H.toL [(0, .slot true (.slice p_a0 a0.length c_a0)), (2, .slot true (.int .i64 0)), (3, .slot true (.int .i64 (mx x7 t14))), (4, .slot true (.int .i64 (w_i64 (x8 + 1)))), (5, .slot true (.int .i64 x8)), (6, .slot true (.slice p_a0 a0.length c_a0)), (7, .slot true (.int .i64 (a0.length : Int))), (8, .slot true (.bool (decide (x8 < (a0.length : Int))))), (9, .slot true (.int .i64 x8)), (10, .slot true (.int .i64 (w_i64 (x8 + 1)))), (11, .slot true (.int .i64 x7)), (12, .slot true (.slice p_a0 a0.length c_a0)), (13, .slot true (.int .i64 x8)), (14, .slot true (.pointer (some ⟨hdB p_a0, hdO p_a0 + x8.toNat * 2, none⟩))), (15, .slot true (.agg #[.int .i64 t13.Lo, .int .i64 t13.Hi])), (16, .slot true (.int .i64 t14)), (17, .slot true (.int .i64 (mx x7 t14))), (19, rdK 2 p_a0 a0.length (a0.flatMap en_TInterval))] (by kernel_rfl)
        exact ⟨k, Nat.lt_succ_self k, _, _, G, H.toL _ (by kernel_rfl)⟩
      · rw [if_neg (nt c16)] at G
        refine k_exit rfl ?_
        obtain rfl := Option.some.inj G
        exact H.toL _ (by kernel_rfl)

set_option maxHeartbeats 4000000 in
theorem armillaryref03_WidestAxis.calls (k0 : Nat) (a0 : List TInterval) (p_a0 : Option Addr) (c_a0 : Nat) (r : Int) (w : World) (R_p_a0 : RowAt w 2 p_a0 a0.length (a0.flatMap en_TInterval)) (G : armillaryref03_WidestAxis k0 a0 = some r) :
    Calls Try.prog 43 #[.slice p_a0 a0.length c_a0] w fun e w' => e = .returned (.int .i64 r) ∧ Below w.heap.size w w' := by
  refine k_enterF (args := [.slice p_a0 a0.length c_a0]) 19 [(19, rdK 2 p_a0 a0.length (a0.flatMap en_TInterval))] (by
    intro x hx
    simp only [List.mem_cons, List.not_mem_nil, or_false] at hx
    rcases hx with rfl
    exact rd_fact R_p_a0 (by decide) _) Try.func43 rfl (by kernel_rfl) (by kernel_rfl) fun a H => ?_
  unfold armillaryref03_WidestAxis at G
  refine k_seq ?_
  refine k_reg mixed H (.cons [2] (ok_val (fun ν1 => .int .i64 0) 2) <| .nil) (by kernel_rfl) fun ν1 a w' H => ?_
  replace H := H.toL [(0, .slot true (.slice p_a0 a0.length c_a0)), (2, .slot true (.int .i64 0)), (19, rdK 2 p_a0 a0.length (a0.flatMap en_TInterval))] (by kernel_rfl)
  refine k_seq ?_
  replace G := bnd G; obtain ⟨j2, hj2, Gj2⟩ := G
  refine k_join (fun a w' => ∃ j2v, j2 = Sum.inr j2v ∧ Rep w.heap.size w 19 (ofL [(2, .slot true (.int .i64 0))]) a w') ?_ ?_
  · clear H; rintro a w' ⟨j2v, rfl, H⟩; have G := Gj2; clear Gj2; dsimp only at G
    refine k_seq ?_
    refine k_reg mixed H (.cons [2] (ok_val (fun ν3 => .int .i64 0) 2) <| .nil) (by kernel_rfl) fun ν3 a w' H => ?_
    replace H := H.toL [(2, .slot true (.int .i64 0))] (by kernel_rfl)
    refine k_ret ?_
    obtain rfl := Option.some.inj G
    exact k_done0 H _ (by kernel_rfl) (by kernel_rfl)
  · have G := hj2; clear hj2
    refine k_seq ?_
    refine k_reg mixed H (.cons [3] (ok_val (fun ν4 => .int .i64 0) 3) <| .nil) (by kernel_rfl) fun ν4 a w' H => ?_
    replace H := H.toL [(0, .slot true (.slice p_a0 a0.length c_a0)), (2, .slot true (.int .i64 0)), (3, .slot true (.int .i64 0)), (19, rdK 2 p_a0 a0.length (a0.flatMap en_TInterval))] (by kernel_rfl)
    refine k_block ?_
    refine k_loopJ (fun m a w' => ∃ x5 : Int, armillaryref03_WidestAxis.l6 k0 a0 m x5 = some j2 ∧ Rep w.heap.size w 19 (ofL [(0, .slot true (.slice p_a0 a0.length c_a0)), (2, .slot true (.int .i64 0)), (3, .slot true (.int .i64 x5)), (19, rdK 2 p_a0 a0.length (a0.flatMap en_TInterval))]) a w') k0 ⟨_, G, H.toL _ (by kernel_rfl)⟩ ?_
    clear G H
    rintro (_ | k) a w' ⟨x5, G, H⟩
    · exact absurd G (by unfold armillaryref03_WidestAxis.l6; exact fun h => by cases h)
    · unfold armillaryref03_WidestAxis.l6 at G
      refine k_seq ?_
      refine k_seq ?_
      refine k_reg mixed H (.cons [4] (ok_val (fun ν7 => .int .i64 x5) 4) <|
      .cons [5] (ok_val (fun ν7 => .slice p_a0 a0.length c_a0) 5) <|
      .cons [6] (ok_val (fun ν7 => .int .i64 (a0.length : Int)) 6) <|
      .cons [7] (ok_val (fun ν7 => .bool (decide (x5 < (a0.length : Int)))) 7) <| .nil) (by kernel_rfl) fun ν7 a w' H => ?_
      replace H := H.toL [(0, .slot true (.slice p_a0 a0.length c_a0)), (2, .slot true (.int .i64 0)), (3, .slot true (.int .i64 x5)), (4, .slot true (.int .i64 x5)), (5, .slot true (.slice p_a0 a0.length c_a0)), (6, .slot true (.int .i64 (a0.length : Int))), (7, .slot true (.bool (decide (x5 < (a0.length : Int))))), (19, rdK 2 p_a0 a0.length (a0.flatMap en_TInterval))] (by kernel_rfl)
      refine k_cond H (by kernel_rfl) (t := decide (x5 < (a0.length : Int))) (by kernel_rfl) (fun c16 => ?_) (fun c16 => ?_)
      · rw [if_pos c16] at G
        refine k_skip ?_
        refine k_seq ?_
        refine k_block ?_
        refine k_seq ?_
        replace G := gd G; obtain ⟨b9, G⟩ := G
        replace G := bnd G; obtain ⟨t10, ht10, G⟩ := G
        replace G := bnd G; obtain ⟨t11, ht11, G⟩ := G
        replace G := bnd G; obtain ⟨t12, ht12, G⟩ := G
        refine k_reg mixed H (.cons [10] (ok_val (fun ν8 => .slice p_a0 a0.length c_a0) 10) <|
      .cons [11] (ok_val (fun ν8 => .int .i64 x5) 11) <|
      .cons [12] (ok_valL [19] (fun ν8 => [rdK 2 p_a0 a0.length (a0.flatMap en_TInterval)]) (fun ν8 => .pointer (some ⟨hdB p_a0, hdO p_a0 + x5.toNat * 2, none⟩)) (fun ν8 => true) [true, true] 12 (fun ν8 w hg hF => run_of (by kernel_rfl) (run_ix (t := 22) (p := p_a0) (n := a0.length) (cap := c_a0) (k := .i64) (i := x5) (sz := 2) (by kernel_rfl) (by kernel_rfl) (rd_of hF.1) b9))) <|
      .cons [13] (ok_valL [19] (fun ν8 => [rdK 2 p_a0 a0.length (a0.flatMap en_TInterval)]) (fun ν8 => .agg #[.int .i64 t10.Lo, .int .i64 t10.Hi]) (fun ν8 => true) [true] 13 (fun ν8 w hg hF => ld_of (vs := [.int .i64 t10.Lo, .int .i64 t10.Hi]) (b := hdB p_a0) (off := hdO p_a0 + x5.toNat * 2 + 0) (m := 2) (by kernel_rfl) (el_cells (rd_of hF.1) en_TInterval_len ht10 0 2 rfl))) <|
      .cons [14] (ok_callv 84 (fun ν8 => #[.agg #[.int .i64 t10.Lo, .int .i64 t10.Hi]]) (.int .i64 t11) 14 [] (fun _ w _ => armillaryref02_Width.calls t10 t11 w ht11)) <|
      .cons [15] (ok_val (fun ν8 => .slice p_a0 a0.length c_a0) 15) <|
      .cons [16] (ok_callL [19] (fun ν8 => [rdK 2 p_a0 a0.length (a0.flatMap en_TInterval)]) 41 (fun ν8 => #[.slice p_a0 a0.length c_a0]) (.int .i64 t12) 16 (fun ν8 w hF => armillaryref03_Width.calls k0 a0 p_a0 c_a0 t12 w (rd_of hF.1) ht12)) <|
      .cons [17] (ok_val (fun ν8 => .bool (t11 == t12)) 17) <| .nil) (by kernel_rfl) fun ν8 a w' H => ?_
        replace H := H.toL [(0, .slot true (.slice p_a0 a0.length c_a0)), (2, .slot true (.int .i64 0)), (3, .slot true (.int .i64 x5)), (4, .slot true (.int .i64 x5)), (5, .slot true (.slice p_a0 a0.length c_a0)), (6, .slot true (.int .i64 (a0.length : Int))), (7, .slot true (.bool (decide (x5 < (a0.length : Int))))), (10, .slot true (.slice p_a0 a0.length c_a0)), (11, .slot true (.int .i64 x5)), (12, .slot true (.pointer (some ⟨hdB p_a0, hdO p_a0 + x5.toNat * 2, none⟩))), (13, .slot true (.agg #[.int .i64 t10.Lo, .int .i64 t10.Hi])), (14, .slot true (.int .i64 t11)), (15, .slot true (.slice p_a0 a0.length c_a0)), (16, .slot true (.int .i64 t12)), (17, .slot true (.bool (t11 == t12))), (19, rdK 2 p_a0 a0.length (a0.flatMap en_TInterval))] (by kernel_rfl)
        refine k_cond H (by kernel_rfl) (t := (t11 == t12)) (by kernel_rfl) (fun c15 => ?_) (fun c15 => ?_)
        · rw [if_pos c15] at G
          refine k_seq ?_
          refine k_reg mixed H (.cons [18] (ok_val (fun ν13 => .int .i64 x5) 18) <|
      .cons [2] (ok_val (fun ν13 => .int .i64 x5) 2) <| .nil) (by kernel_rfl) fun ν13 a w' H => ?_
          replace H := H.toL [(0, .slot true (.slice p_a0 a0.length c_a0)), (2, .slot true (.int .i64 x5)), (3, .slot true (.int .i64 x5)), (4, .slot true (.int .i64 x5)), (5, .slot true (.slice p_a0 a0.length c_a0)), (6, .slot true (.int .i64 (a0.length : Int))), (7, .slot true (.bool (decide (x5 < (a0.length : Int))))), (10, .slot true (.slice p_a0 a0.length c_a0)), (11, .slot true (.int .i64 x5)), (12, .slot true (.pointer (some ⟨hdB p_a0, hdO p_a0 + x5.toNat * 2, none⟩))), (13, .slot true (.agg #[.int .i64 t10.Lo, .int .i64 t10.Hi])), (14, .slot true (.int .i64 t11)), (15, .slot true (.slice p_a0 a0.length c_a0)), (16, .slot true (.int .i64 t12)), (17, .slot true (.bool (t11 == t12))), (18, .slot true (.int .i64 x5)), (19, rdK 2 p_a0 a0.length (a0.flatMap en_TInterval))] (by kernel_rfl)
          refine k_ret ?_
          obtain rfl := Option.some.inj G
          replace G := Gj2
          obtain rfl := Option.some.inj G
          exact k_done0 H _ (by kernel_rfl) (by kernel_rfl)
        · rw [if_neg (nt c15)] at G
          refine k_skip ?_
          refine k_reg mixed H (.cons [8] (ok_val (fun ν14 => .int .i64 x5) 8) <|
      .cons [9] (ok_val (fun ν14 => .int .i64 (w_i64 (x5 + 1))) 9) <|
      .cons [3] (ok_val (fun ν14 => .int .i64 (w_i64 (x5 + 1))) 3) <| .nil) (by kernel_rfl) fun ν14 a w' H => ?_
          replace H := H.toL [(0, .slot true (.slice p_a0 a0.length c_a0)), (2, .slot true (.int .i64 0)), (3, .slot true (.int .i64 (w_i64 (x5 + 1)))), (4, .slot true (.int .i64 x5)), (5, .slot true (.slice p_a0 a0.length c_a0)), (6, .slot true (.int .i64 (a0.length : Int))), (7, .slot true (.bool (decide (x5 < (a0.length : Int))))), (8, .slot true (.int .i64 x5)), (9, .slot true (.int .i64 (w_i64 (x5 + 1)))), (10, .slot true (.slice p_a0 a0.length c_a0)), (11, .slot true (.int .i64 x5)), (12, .slot true (.pointer (some ⟨hdB p_a0, hdO p_a0 + x5.toNat * 2, none⟩))), (13, .slot true (.agg #[.int .i64 t10.Lo, .int .i64 t10.Hi])), (14, .slot true (.int .i64 t11)), (15, .slot true (.slice p_a0 a0.length c_a0)), (16, .slot true (.int .i64 t12)), (17, .slot true (.bool (t11 == t12))), (19, rdK 2 p_a0 a0.length (a0.flatMap en_TInterval))] (by kernel_rfl)
          exact ⟨k, Nat.lt_succ_self k, _, G, H.toL _ (by kernel_rfl)⟩
      · rw [if_neg (nt c16)] at G
        refine k_exit rfl ?_
        obtain rfl := Option.some.inj G
        exact ⟨_, rfl, H.toL _ (by kernel_rfl)⟩

set_option maxHeartbeats 4000000 in
theorem armillarylaw03_unbounded.calls (k0 : Nat) (a0 : List TInterval) (p_a0 : Option Addr) (c_a0 : Nat) (r : Bool) (w : World) (R_p_a0 : RowAt w 2 p_a0 a0.length (a0.flatMap en_TInterval)) (G : armillarylaw03_unbounded k0 a0 = some r) :
    Calls Try.prog 50 #[.slice p_a0 a0.length c_a0] w fun e w' => e = .returned (.bool r) ∧ Below w.heap.size w w' := by
  refine k_enterF (args := [.slice p_a0 a0.length c_a0]) 15 [(15, rdK 2 p_a0 a0.length (a0.flatMap en_TInterval))] (by
    intro x hx
    simp only [List.mem_cons, List.not_mem_nil, or_false] at hx
    rcases hx with rfl
    exact rd_fact R_p_a0 (by decide) _) Try.func50 rfl (by kernel_rfl) (by kernel_rfl) fun a H => ?_
  unfold armillarylaw03_unbounded at G
  refine k_seq ?_
  refine k_reg mixed H (.cons [2] (ok_val (fun ν1 => .bool false) 2) <| .nil) (by kernel_rfl) fun ν1 a w' H => ?_
  replace H := H.toL [(0, .slot true (.slice p_a0 a0.length c_a0)), (2, .slot true (.bool false)), (15, rdK 2 p_a0 a0.length (a0.flatMap en_TInterval))] (by kernel_rfl)
  refine k_seq ?_
  replace G := bnd G; obtain ⟨j2, hj2, Gj2⟩ := G
  refine k_join (fun a w' => ∃ j2v, j2 = Sum.inr j2v ∧ Rep w.heap.size w 15 (ofL [(2, .slot true (.bool false))]) a w') ?_ ?_
  · clear H; rintro a w' ⟨j2v, rfl, H⟩; have G := Gj2; clear Gj2; dsimp only at G
    refine k_seq ?_
    refine k_reg mixed H (.cons [2] (ok_val (fun ν3 => .bool false) 2) <| .nil) (by kernel_rfl) fun ν3 a w' H => ?_
    replace H := H.toL [(2, .slot true (.bool false))] (by kernel_rfl)
    refine k_ret ?_
    obtain rfl := Option.some.inj G
    exact k_done0 H _ (by kernel_rfl) (by kernel_rfl)
  · have G := hj2; clear hj2
    refine k_seq ?_
    refine k_reg mixed H (.cons [3] (ok_val (fun ν4 => .int .i64 0) 3) <| .nil) (by kernel_rfl) fun ν4 a w' H => ?_
    replace H := H.toL [(0, .slot true (.slice p_a0 a0.length c_a0)), (2, .slot true (.bool false)), (3, .slot true (.int .i64 0)), (15, rdK 2 p_a0 a0.length (a0.flatMap en_TInterval))] (by kernel_rfl)
    refine k_block ?_
    refine k_loopJ (fun m a w' => ∃ x5 : Int, armillarylaw03_unbounded.l6 k0 a0 m x5 = some j2 ∧ Rep w.heap.size w 15 (ofL [(0, .slot true (.slice p_a0 a0.length c_a0)), (2, .slot true (.bool false)), (3, .slot true (.int .i64 x5)), (15, rdK 2 p_a0 a0.length (a0.flatMap en_TInterval))]) a w') k0 ⟨_, G, H.toL _ (by kernel_rfl)⟩ ?_
    clear G H
    rintro (_ | k) a w' ⟨x5, G, H⟩
    · exact absurd G (by unfold armillarylaw03_unbounded.l6; exact fun h => by cases h)
    · unfold armillarylaw03_unbounded.l6 at G
      refine k_seq ?_
      refine k_seq ?_
      refine k_reg mixed H (.cons [4] (ok_val (fun ν7 => .int .i64 x5) 4) <|
      .cons [5] (ok_val (fun ν7 => .slice p_a0 a0.length c_a0) 5) <|
      .cons [6] (ok_val (fun ν7 => .int .i64 (a0.length : Int)) 6) <|
      .cons [7] (ok_val (fun ν7 => .bool (decide (x5 < (a0.length : Int)))) 7) <| .nil) (by kernel_rfl) fun ν7 a w' H => ?_
      replace H := H.toL [(0, .slot true (.slice p_a0 a0.length c_a0)), (2, .slot true (.bool false)), (3, .slot true (.int .i64 x5)), (4, .slot true (.int .i64 x5)), (5, .slot true (.slice p_a0 a0.length c_a0)), (6, .slot true (.int .i64 (a0.length : Int))), (7, .slot true (.bool (decide (x5 < (a0.length : Int))))), (15, rdK 2 p_a0 a0.length (a0.flatMap en_TInterval))] (by kernel_rfl)
      refine k_cond H (by kernel_rfl) (t := decide (x5 < (a0.length : Int))) (by kernel_rfl) (fun c15 => ?_) (fun c15 => ?_)
      · rw [if_pos c15] at G
        refine k_skip ?_
        refine k_seq ?_
        refine k_block ?_
        refine k_seq ?_
        replace G := gd G; obtain ⟨b9, G⟩ := G
        replace G := bnd G; obtain ⟨t10, ht10, G⟩ := G
        replace G := bnd G; obtain ⟨t11, ht11, G⟩ := G
        refine k_reg mixed H (.cons [10] (ok_val (fun ν8 => .slice p_a0 a0.length c_a0) 10) <|
      .cons [11] (ok_val (fun ν8 => .int .i64 x5) 11) <|
      .cons [12] (ok_valL [15] (fun ν8 => [rdK 2 p_a0 a0.length (a0.flatMap en_TInterval)]) (fun ν8 => .pointer (some ⟨hdB p_a0, hdO p_a0 + x5.toNat * 2, none⟩)) (fun ν8 => true) [true, true] 12 (fun ν8 w hg hF => run_of (by kernel_rfl) (run_ix (t := 22) (p := p_a0) (n := a0.length) (cap := c_a0) (k := .i64) (i := x5) (sz := 2) (by kernel_rfl) (by kernel_rfl) (rd_of hF.1) b9))) <|
      .cons [13] (ok_valL [15] (fun ν8 => [rdK 2 p_a0 a0.length (a0.flatMap en_TInterval)]) (fun ν8 => .agg #[.int .i64 t10.Lo, .int .i64 t10.Hi]) (fun ν8 => true) [true] 13 (fun ν8 w hg hF => ld_of (vs := [.int .i64 t10.Lo, .int .i64 t10.Hi]) (b := hdB p_a0) (off := hdO p_a0 + x5.toNat * 2 + 0) (m := 2) (by kernel_rfl) (el_cells (rd_of hF.1) en_TInterval_len ht10 0 2 rfl))) <|
      .cons [14] (ok_callv 48 (fun ν8 => #[.agg #[.int .i64 t10.Lo, .int .i64 t10.Hi]]) (.bool t11) 14 [] (fun _ w _ => interval_IsEntire.calls t10 t11 w ht11)) <| .nil) (by kernel_rfl) fun ν8 a w' H => ?_
        replace H := H.toL [(0, .slot true (.slice p_a0 a0.length c_a0)), (2, .slot true (.bool false)), (3, .slot true (.int .i64 x5)), (4, .slot true (.int .i64 x5)), (5, .slot true (.slice p_a0 a0.length c_a0)), (6, .slot true (.int .i64 (a0.length : Int))), (7, .slot true (.bool (decide (x5 < (a0.length : Int))))), (10, .slot true (.slice p_a0 a0.length c_a0)), (11, .slot true (.int .i64 x5)), (12, .slot true (.pointer (some ⟨hdB p_a0, hdO p_a0 + x5.toNat * 2, none⟩))), (13, .slot true (.agg #[.int .i64 t10.Lo, .int .i64 t10.Hi])), (14, .slot true (.bool t11)), (15, rdK 2 p_a0 a0.length (a0.flatMap en_TInterval))] (by kernel_rfl)
        refine k_cond H (by kernel_rfl) (t := t11) (by kernel_rfl) (fun c14 => ?_) (fun c14 => ?_)
        · rw [if_pos c14] at G
          refine k_seq ?_
          refine k_reg mixed H (.cons [2] (ok_val (fun ν12 => .bool true) 2) <| .nil) (by kernel_rfl) fun ν12 a w' H => ?_
          replace H := H.toL [(0, .slot true (.slice p_a0 a0.length c_a0)), (2, .slot true (.bool true)), (3, .slot true (.int .i64 x5)), (4, .slot true (.int .i64 x5)), (5, .slot true (.slice p_a0 a0.length c_a0)), (6, .slot true (.int .i64 (a0.length : Int))), (7, .slot true (.bool (decide (x5 < (a0.length : Int))))), (10, .slot true (.slice p_a0 a0.length c_a0)), (11, .slot true (.int .i64 x5)), (12, .slot true (.pointer (some ⟨hdB p_a0, hdO p_a0 + x5.toNat * 2, none⟩))), (13, .slot true (.agg #[.int .i64 t10.Lo, .int .i64 t10.Hi])), (14, .slot true (.bool t11)), (15, rdK 2 p_a0 a0.length (a0.flatMap en_TInterval))] (by kernel_rfl)
          refine k_ret ?_
          obtain rfl := Option.some.inj G
          replace G := Gj2
          obtain rfl := Option.some.inj G
          exact k_done0 H _ (by kernel_rfl) (by kernel_rfl)
        · rw [if_neg (nt c14)] at G
          refine k_skip ?_
          refine k_reg mixed H (.cons [8] (ok_val (fun ν13 => .int .i64 x5) 8) <|
      .cons [9] (ok_val (fun ν13 => .int .i64 (w_i64 (x5 + 1))) 9) <|
      .cons [3] (ok_val (fun ν13 => .int .i64 (w_i64 (x5 + 1))) 3) <| .nil) (by kernel_rfl) fun ν13 a w' H => ?_
          replace H := H.toL [(0, .slot true (.slice p_a0 a0.length c_a0)), (2, .slot true (.bool false)), (3, .slot true (.int .i64 (w_i64 (x5 + 1)))), (4, .slot true (.int .i64 x5)), (5, .slot true (.slice p_a0 a0.length c_a0)), (6, .slot true (.int .i64 (a0.length : Int))), (7, .slot true (.bool (decide (x5 < (a0.length : Int))))), (8, .slot true (.int .i64 x5)), (9, .slot true (.int .i64 (w_i64 (x5 + 1)))), (10, .slot true (.slice p_a0 a0.length c_a0)), (11, .slot true (.int .i64 x5)), (12, .slot true (.pointer (some ⟨hdB p_a0, hdO p_a0 + x5.toNat * 2, none⟩))), (13, .slot true (.agg #[.int .i64 t10.Lo, .int .i64 t10.Hi])), (14, .slot true (.bool t11)), (15, rdK 2 p_a0 a0.length (a0.flatMap en_TInterval))] (by kernel_rfl)
          exact ⟨k, Nat.lt_succ_self k, _, G, H.toL _ (by kernel_rfl)⟩
      · rw [if_neg (nt c15)] at G
        refine k_exit rfl ?_
        obtain rfl := Option.some.inj G
        exact ⟨_, rfl, H.toL _ (by kernel_rfl)⟩

end Go.Proofs.Ytgccinodonkgjaa
