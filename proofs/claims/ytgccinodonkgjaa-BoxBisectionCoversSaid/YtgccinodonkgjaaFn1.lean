/- Each function of the program answers as the plain Lean function of its name (part 1). Printed by a program of this session. -/
import Derived.Test.YtgccinodonkgjaaFn0
set_option linter.unusedVariables false
set_option maxRecDepth 100000
namespace Go.Proofs.Ytgccinodonkgjaa
open Go Go.RowKit Go.Sx Go.Proofs
set_option maxHeartbeats 4000000 in
theorem api_Interval_int64_s80.calls (k0 : Nat) (a0 : List TInterval) (p_a0 : Option Addr) (c_a0 : Nat) (r : List Int) (w : World) (R_p_a0 : RowAt w 2 p_a0 a0.length (a0.flatMap en_TInterval)) (G : api_Interval_int64_s80 k0 a0 = some r) :
    Calls Try.prog 82 #[.slice p_a0 a0.length c_a0, .func (.func 80) #[] #[]] w fun e w' => ∃ p cap, e = .returned (.slice p r.length cap) ∧ Below w.heap.size w w' ∧ w'.ownsRow w.heap.size 2 1 (.slice p r.length cap) r.length (r.flatMap en_i64) := by
  refine k_enterF (args := [.slice p_a0 a0.length c_a0, .func (.func 80) #[] #[]]) 26 [(26, rdK 2 p_a0 a0.length (a0.flatMap en_TInterval))] (by
    intro x hx
    simp only [List.mem_cons, List.not_mem_nil, or_false] at hx
    rcases hx with rfl
    exact rd_fact R_p_a0 (by decide) _) Try.func82 rfl (by kernel_rfl) (by kernel_rfl) fun a H => ?_
  unfold api_Interval_int64_s80 at G
  refine k_seq ?_
  refine k_reg mixed H (.cons [4] (ok_val (fun ν1 => .slice none 0 0) 4) <| .nil) (by kernel_rfl) fun ν1 a w' H => ?_
  replace H := H.toL [(0, .slot true (.slice p_a0 a0.length c_a0)), (1, .slot true (.func (.func 80) #[] #[])), (4, .slot true (.slice none 0 0)), (26, rdK 2 p_a0 a0.length (a0.flatMap en_TInterval))] (by kernel_rfl)
  refine k_seq ?_
  replace G := gd G; obtain ⟨b3, G⟩ := G
  refine k_reg mixed H (.cons [8] (ok_val (fun ν2 => .slice p_a0 a0.length c_a0) 8) <|
      .cons [9] (ok_val (fun ν2 => .int .i64 (a0.length : Int)) 9) <|
      .cons [10, 27] (ok_rowL [] (fun ν2 => []) 2 1 (List.replicate (a0.length : Int).toNat (0 : Int)).length ((List.replicate (a0.length : Int).toNat (0 : Int)).flatMap en_i64) 10 27 (fun _ => .none) (fun ν2 w hF => run_make_row (t := 27) (k := .i64) (m := (a0.length : Int)) (en := en_i64) (z := (0 : Int)) en_i64_len inf2 rfl b3 (by kernel_rfl)) (fun _ => .inl rfl)) <|
      .cons [5] (ok_val (fun ν2 => .slice ((ν2 2).o 0) (List.replicate (a0.length : Int).toNat (0 : Int)).length ((ν2 2).n 0)) 5) <| .nil) (by kernel_rfl) fun ν2 a w' H => ?_
  replace H := H.toL [(0, .slot true (.slice p_a0 a0.length c_a0)), (1, .slot true (.func (.func 80) #[] #[])), (4, .slot true (.slice none 0 0)), (5, .slot true (.slice ((ν2 2).o 0) (List.replicate (a0.length : Int).toNat (0 : Int)).length ((ν2 2).n 0))), (26, rdK 2 p_a0 a0.length (a0.flatMap en_TInterval)), (27, owK 2 1 ((ν2 2).o 0) (List.replicate (a0.length : Int).toNat (0 : Int)).length ((ν2 2).n 0) ((List.replicate (a0.length : Int).toNat (0 : Int)).flatMap en_i64))] (by kernel_rfl)
  refine k_seq ?_
  replace G := bnd G; obtain ⟨j5, hj5, G⟩ := G
  refine k_join (fun a w' => ∃ (p_j4 : Option Addr) (c_j4 np_j4 : Nat), np_j4 = j5.length ∧ Rep w.heap.size w 26 (ofL [(4, .slot true (.slice none 0 0)), (5, .slot true (.slice p_j4 np_j4 c_j4)), (27, owK 2 1 p_j4 np_j4 c_j4 (j5.flatMap en_i64))]) a w') ?_ ?_
  · clear H; rintro a w' ⟨p_j4, c_j4, _, rfl, H⟩
    refine k_seq ?_
    refine k_reg mixed H (.cons [25] (ok_val (fun ν6 => .slice p_j4 j5.length c_j4) 25) <|
      .cons [4] (ok_val (fun ν6 => .slice p_j4 j5.length c_j4) 4) <| .nil) (by kernel_rfl) fun ν6 a w' H => ?_
    replace H := H.toL [(4, .slot true (.slice p_j4 j5.length c_j4)), (27, owK 2 1 p_j4 j5.length c_j4 (j5.flatMap en_i64))] (by kernel_rfl)
    refine k_ret ?_
    obtain rfl := Option.some.inj G
    exact k_doneR H (fun p cap => .slice p j5.length cap) p_j4 c_j4 [] 27 2 1 j5.length (j5.flatMap en_i64) (by kernel_rfl) (by kernel_rfl) (by simp) (by kernel_rfl)
  · clear G; replace G := hj5; clear hj5
    refine k_seq ?_
    refine k_reg mixed H (.cons [11] (ok_val (fun ν7 => .slice p_a0 a0.length c_a0) 11) <|
      .cons [12] (ok_val (fun ν7 => .int .i64 (a0.length : Int)) 12) <|
      .cons [13] (ok_val (fun ν7 => .int .i64 0) 13) <| .nil) (by kernel_rfl) fun ν7 a w' H => ?_
    replace H := H.toL [(1, .slot true (.func (.func 80) #[] #[])), (4, .slot true (.slice none 0 0)), (5, .slot true (.slice ((ν2 2).o 0) (List.replicate (a0.length : Int).toNat (0 : Int)).length ((ν2 2).n 0))), (11, .slot true (.slice p_a0 a0.length c_a0)), (12, .slot true (.int .i64 (a0.length : Int))), (13, .slot true (.int .i64 0)), (26, rdK 2 p_a0 a0.length (a0.flatMap en_TInterval)), (27, owK 2 1 ((ν2 2).o 0) (List.replicate (a0.length : Int).toNat (0 : Int)).length ((ν2 2).n 0) ((List.replicate (a0.length : Int).toNat (0 : Int)).flatMap en_i64))] (by kernel_rfl)
    refine k_block ?_
    refine k_loopJ (fun m a w' => ∃ x8 : List Int, ∃ x9 : Int, api_Interval_int64_s80.l10 k0 a0 m x8 x9 = some j5 ∧ ∃ (p_x8 : Option Addr) (c_x8 np_x8 : Nat), np_x8 = x8.length ∧ Rep w.heap.size w 26 (ofL [(1, .slot true (.func (.func 80) #[] #[])), (4, .slot true (.slice none 0 0)), (5, .slot true (.slice p_x8 np_x8 c_x8)), (11, .slot true (.slice p_a0 a0.length c_a0)), (12, .slot true (.int .i64 (a0.length : Int))), (13, .slot true (.int .i64 x9)), (26, rdK 2 p_a0 a0.length (a0.flatMap en_TInterval)), (27, owK 2 1 p_x8 np_x8 c_x8 (x8.flatMap en_i64))]) a w') k0 ⟨_, _, G, ((ν2 2).o 0), ((ν2 2).n 0), _, rfl, H.toL _ (by kernel_rfl)⟩ ?_
    clear G H
    rintro (_ | k) a w' ⟨x8, x9, G, p_x8, c_x8, _, rfl, H⟩
    · exact absurd G (by unfold api_Interval_int64_s80.l10; exact fun h => by cases h)
    · unfold api_Interval_int64_s80.l10 at G
      refine k_seq ?_
      refine k_reg mixed H (.cons [14] (ok_val (fun ν11 => .bool (decide (x9 < (a0.length : Int)))) 14) <| .nil) (by kernel_rfl) fun ν11 a w' H => ?_
      replace H := H.toL [(1, .slot true (.func (.func 80) #[] #[])), (4, .slot true (.slice none 0 0)), (5, .slot true (.slice p_x8 x8.length c_x8)), (11, .slot true (.slice p_a0 a0.length c_a0)), (12, .slot true (.int .i64 (a0.length : Int))), (13, .slot true (.int .i64 x9)), (14, .slot true (.bool (decide (x9 < (a0.length : Int))))), (26, rdK 2 p_a0 a0.length (a0.flatMap en_TInterval)), (27, owK 2 1 p_x8 x8.length c_x8 (x8.flatMap en_i64))] (by kernel_rfl)
      refine k_seq ?_
      refine k_cond H (by kernel_rfl) (t := decide (x9 < (a0.length : Int))) (by kernel_rfl) (fun c20 => ?_) (fun c20 => ?_)
      · rw [if_pos c20] at G
        refine k_skip ?_
        refine k_seq ?_
        refine k_block ?_
        refine k_seq ?_
        replace G := gd G; obtain ⟨b13, G⟩ := G
        replace G := bnd G; obtain ⟨t14, ht14, G⟩ := G
        refine k_reg mixed H (.cons [15] (ok_val (fun ν12 => .int .i64 x9) 15) <|
      .cons [16] (ok_valL [26] (fun ν12 => [rdK 2 p_a0 a0.length (a0.flatMap en_TInterval)]) (fun ν12 => .pointer (some ⟨hdB p_a0, hdO p_a0 + x9.toNat * 2, none⟩)) (fun ν12 => true) [true, true] 16 (fun ν12 w hg hF => run_of (by kernel_rfl) (run_ix (t := 22) (p := p_a0) (n := a0.length) (cap := c_a0) (k := .i64) (i := x9) (sz := 2) (by kernel_rfl) (by kernel_rfl) (rd_of hF.1) b13))) <|
      .cons [17] (ok_valL [26] (fun ν12 => [rdK 2 p_a0 a0.length (a0.flatMap en_TInterval)]) (fun ν12 => .agg #[.int .i64 t14.Lo, .int .i64 t14.Hi]) (fun ν12 => true) [true] 17 (fun ν12 w hg hF => ld_of (vs := [.int .i64 t14.Lo, .int .i64 t14.Hi]) (b := hdB p_a0) (off := hdO p_a0 + x9.toNat * 2 + 0) (m := 2) (by kernel_rfl) (el_cells (rd_of hF.1) en_TInterval_len ht14 0 2 rfl))) <|
      .cons [7, 28] (ok_new (fun b => .pointer (some ⟨b, 0, none⟩)) (fun ν12 => [.int .i64 0, .int .i64 0]) 40 7 28) <|
      .cons [6] (ok_val (fun ν12 => .int .i64 x9) 6) <|
      .cons [28] (ok_as (u' := fun ν12 => [(28, .blk ((ν12 3).n 0) [.int .i64 t14.Lo, .int .i64 t14.Hi] 40)]) (ok_store 28 0 (fun ν12 => ((ν12 3).n 0)) (fun ν12 => [.int .i64 0, .int .i64 0]) (fun ν12 => [.int .i64 t14.Lo, .int .i64 t14.Hi]) 40) (fun _ => by kernel_rfl)) <| .nil) (by kernel_rfl) fun ν12 a w' H => ?_
        replace H := H.toL [(1, .slot true (.func (.func 80) #[] #[])), (4, .slot true (.slice none 0 0)), (5, .slot true (.slice p_x8 x8.length c_x8)), (6, .slot true (.int .i64 x9)), (7, .slot true (.pointer (some ⟨((ν12 3).n 0), 0, none⟩))), (11, .slot true (.slice p_a0 a0.length c_a0)), (12, .slot true (.int .i64 (a0.length : Int))), (13, .slot true (.int .i64 x9)), (14, .slot true (.bool (decide (x9 < (a0.length : Int))))), (15, .slot true (.int .i64 x9)), (16, .slot true (.pointer (some ⟨hdB p_a0, hdO p_a0 + x9.toNat * 2, none⟩))), (17, .slot true (.agg #[.int .i64 t14.Lo, .int .i64 t14.Hi])), (28, .blk ((ν12 3).n 0) [.int .i64 t14.Lo, .int .i64 t14.Hi] 40), (26, rdK 2 p_a0 a0.length (a0.flatMap en_TInterval)), (27, owK 2 1 p_x8 x8.length c_x8 (x8.flatMap en_i64))] (by kernel_rfl)
        replace G := bnd G; obtain ⟨t16, ht16, G⟩ := G
        replace G := gd G; obtain ⟨b17, G⟩ := G
        replace G := bnd G; obtain ⟨t18, ht18, G⟩ := G
        refine k_reg mixed H (.cons [18] (ok_val (fun ν15 => .slice p_x8 x8.length c_x8) 18) <|
      .cons [19] (ok_val (fun ν15 => .int .i64 x9) 19) <|
      .cons [20] (ok_val (fun ν15 => .func (.func 80) #[] #[]) 20) <|
      .cons [21] (ok_ld (fun ν15 => .agg #[.int .i64 t14.Lo, .int .i64 t14.Hi]) 21 28 0 2 (fun ν15 => ((ν12 3).n 0)) (fun ν15 => [.int .i64 t14.Lo, .int .i64 t14.Hi]) 40) <|
      .cons [22] (ok_callv 80 (fun ν15 => #[.agg #[.int .i64 t14.Lo, .int .i64 t14.Hi]]) (.int .i64 t16) 22 [] (fun _ w _ => interval_Mid.calls t14 t16 w ht16)) <|
      .cons [23] (ok_valL [27] (fun ν15 => [owK 2 1 p_x8 x8.length c_x8 (x8.flatMap en_i64)]) (fun ν15 => .pointer (some ⟨hdB p_x8, hdO p_x8 + x9.toNat * 1, none⟩)) (fun ν15 => true) [true, true] 23 (fun ν15 w hg hF => run_of (by kernel_rfl) (run_ix (t := 27) (p := p_x8) (n := x8.length) (cap := c_x8) (k := .i64) (i := x9) (sz := 1) (by kernel_rfl) (by kernel_rfl) (owns_row (ow_of hF.1)) b17))) <|
      .cons [27] ((ok_rowsetL 2 1 x8.length (fun ν15 => p_x8) (fun ν15 => c_x8) (x8.flatMap en_i64) _ 27 (fun ν15 w hF => el_store (ow_of hF) en_i64_len (y := t16) (vs := [.int .i64 t16]) ht18 0 (by simp) (by simp) rfl (by kernel_rfl)))) <| .nil) (by kernel_rfl) fun ν15 a w' H => ?_
        replace H := H.toL [(1, .slot true (.func (.func 80) #[] #[])), (4, .slot true (.slice none 0 0)), (5, .slot true (.slice p_x8 x8.length c_x8)), (6, .slot true (.int .i64 x9)), (7, .slot true (.pointer (some ⟨((ν12 3).n 0), 0, none⟩))), (11, .slot true (.slice p_a0 a0.length c_a0)), (12, .slot true (.int .i64 (a0.length : Int))), (13, .slot true (.int .i64 x9)), (14, .slot true (.bool (decide (x9 < (a0.length : Int))))), (15, .slot true (.int .i64 x9)), (16, .slot true (.pointer (some ⟨hdB p_a0, hdO p_a0 + x9.toNat * 2, none⟩))), (17, .slot true (.agg #[.int .i64 t14.Lo, .int .i64 t14.Hi])), (18, .slot true (.slice p_x8 x8.length c_x8)), (19, .slot true (.int .i64 x9)), (20, .slot true (.func (.func 80) #[] #[])), (21, .slot true (.agg #[.int .i64 t14.Lo, .int .i64 t14.Hi])), (22, .slot true (.int .i64 t16)), (23, .slot true (.pointer (some ⟨hdB p_x8, hdO p_x8 + x9.toNat * 1, none⟩))), (28, .blk ((ν12 3).n 0) [.int .i64 t14.Lo, .int .i64 t14.Hi] 40), (26, rdK 2 p_a0 a0.length (a0.flatMap en_TInterval)), (27, owK 2 1 p_x8 x8.length c_x8 ((x8.set x9.toNat t16).flatMap en_i64))] (by kernel_rfl)
        refine k_reg mixed H (.cons [24] (ok_val (fun ν19 => .int .i64 (w_i64 (x9 + 1))) 24) <|
      .cons [13] (ok_val (fun ν19 => .int .i64 (w_i64 (x9 + 1))) 13) <| .nil) (by kernel_rfl) fun ν19 a w' H => ?_
        replace H := H.toL [(1, .slot true (.func (.func 80) #[] #[])), (4, .slot true (.slice none 0 0)), (5, .slot true (.slice p_x8 x8.length c_x8)), (6, .slot true (.int .i64 x9)), (7, .slot true (.pointer (some ⟨((ν12 3).n 0), 0, none⟩))), (11, .slot true (.slice p_a0 a0.length c_a0)), (12, .slot true (.int .i64 (a0.length : Int))), (13, .slot true (.int .i64 (w_i64 (x9 + 1)))), (14, .slot true (.bool (decide (x9 < (a0.length : Int))))), (15, .slot true (.int .i64 x9)), (16, .slot true (.pointer (some ⟨hdB p_a0, hdO p_a0 + x9.toNat * 2, none⟩))), (17, .slot true (.agg #[.int .i64 t14.Lo, .int .i64 t14.Hi])), (18, .slot true (.slice p_x8 x8.length c_x8)), (19, .slot true (.int .i64 x9)), (20, .slot true (.func (.func 80) #[] #[])), (21, .slot true (.agg #[.int .i64 t14.Lo, .int .i64 t14.Hi])), (22, .slot true (.int .i64 t16)), (23, .slot true (.pointer (some ⟨hdB p_x8, hdO p_x8 + x9.toNat * 1, none⟩))), (24, .slot true (.int .i64 (w_i64 (x9 + 1)))), (28, .blk ((ν12 3).n 0) [.int .i64 t14.Lo, .int .i64 t14.Hi] 40), (26, rdK 2 p_a0 a0.length (a0.flatMap en_TInterval)), (27, owK 2 1 p_x8 x8.length c_x8 ((x8.set x9.toNat t16).flatMap en_i64))] (by kernel_rfl)
        exact ⟨k, Nat.lt_succ_self k, _, _, G, p_x8, c_x8, x8.length, by simp, H.toL _ (by kernel_rfl)⟩
      · rw [if_neg (nt c20)] at G
        refine k_exit rfl ?_
        obtain rfl := Option.some.inj G
        exact ⟨p_x8, c_x8, _, rfl, H.toL _ (by kernel_rfl)⟩

set_option maxHeartbeats 4000000 in
theorem box_Mid.calls (k0 : Nat) (a0 : List TInterval) (p_a0 : Option Addr) (c_a0 : Nat) (r : List Int) (w : World) (R_p_a0 : RowAt w 2 p_a0 a0.length (a0.flatMap en_TInterval)) (G : box_Mid k0 a0 = some r) :
    Calls Try.prog 38 #[.slice p_a0 a0.length c_a0] w fun e w' => ∃ p cap, e = .returned (.slice p r.length cap) ∧ Below w.heap.size w w' ∧ w'.ownsRow w.heap.size 2 1 (.slice p r.length cap) r.length (r.flatMap en_i64) := by
  refine k_enterF (args := [.slice p_a0 a0.length c_a0]) 5 [(5, rdK 2 p_a0 a0.length (a0.flatMap en_TInterval))] (by
    intro x hx
    simp only [List.mem_cons, List.not_mem_nil, or_false] at hx
    rcases hx with rfl
    exact rd_fact R_p_a0 (by decide) _) Try.func38 rfl (by kernel_rfl) (by kernel_rfl) fun a H => ?_
  unfold box_Mid at G
  refine k_seq ?_
  refine k_reg mixed H (.cons [2] (ok_val (fun ν1 => .slice none 0 0) 2) <| .nil) (by kernel_rfl) fun ν1 a w' H => ?_
  replace H := H.toL [(0, .slot true (.slice p_a0 a0.length c_a0)), (2, .slot true (.slice none 0 0)), (5, rdK 2 p_a0 a0.length (a0.flatMap en_TInterval))] (by kernel_rfl)
  refine k_seq ?_
  replace G := bnd G; obtain ⟨t3, ht3, G⟩ := G
  refine k_reg mixed H (.cons [3] (ok_val (fun ν2 => .slice p_a0 a0.length c_a0) 3) <|
      .cons [4, 6] (ok_callRL [5] (fun ν2 => [rdK 2 p_a0 a0.length (a0.flatMap en_TInterval)]) 82 (fun ν2 => #[.slice p_a0 a0.length c_a0, .func (.func 80) #[] #[]]) (fun p cap => .slice p t3.length cap) 2 1 t3.length (t3.flatMap en_i64) 4 6 (fun ν2 w hF => api_Interval_int64_s80.calls k0 a0 p_a0 c_a0 t3 w (rd_of hF.1) ht3)) <|
      .cons [2] (ok_val (fun ν2 => .slice ((ν2 1).o 0) t3.length ((ν2 1).n 0)) 2) <| .nil) (by kernel_rfl) fun ν2 a w' H => ?_
  replace H := H.toL [(2, .slot true (.slice ((ν2 1).o 0) t3.length ((ν2 1).n 0))), (6, owK 2 1 ((ν2 1).o 0) t3.length ((ν2 1).n 0) (t3.flatMap en_i64))] (by kernel_rfl)
  refine k_ret ?_
  obtain rfl := Option.some.inj G
  exact k_doneR H (fun p cap => .slice p t3.length cap) ((ν2 1).o 0) ((ν2 1).n 0) [] 6 2 1 t3.length (t3.flatMap en_i64) (by kernel_rfl) (by kernel_rfl) (by simp) (by kernel_rfl)

set_option maxHeartbeats 4000000 in
theorem interval_Width.calls (a0 : TInterval) (r : Int) (w : World) (G : interval_Width a0 = some r) :
    Calls Try.prog 46 #[.agg #[.int .i64 a0.Lo, .int .i64 a0.Hi]] w fun e w' => e = .returned (.int .i64 r) ∧ Below w.heap.size w w' := by
  refine k_enter (args := [.agg #[.int .i64 a0.Lo, .int .i64 a0.Hi]]) 8 Try.func46 rfl (by kernel_rfl) (by kernel_rfl) fun a H => ?_
  unfold interval_Width at G
  refine k_seq ?_
  refine k_reg mixed H (.cons [1, 8] (ok_new (fun b => .pointer (some ⟨b, 0, none⟩)) (fun ν1 => [.int .i64 a0.Lo, .int .i64 a0.Hi]) 40 1 8) <|
      .cons [2] (ok_val (fun ν1 => .int .i64 0) 2) <| .nil) (by kernel_rfl) fun ν1 a w' H => ?_
  replace H := H.toL [(1, .slot true (.pointer (some ⟨((ν1 0).n 0), 0, none⟩))), (2, .slot true (.int .i64 0)), (8, .blk ((ν1 0).n 0) [.int .i64 a0.Lo, .int .i64 a0.Hi] 40)] (by kernel_rfl)
  refine k_seq ?_
  refine k_reg mixed H (.cons [3] (ok_val (fun ν2 => .pointer (some ⟨((ν1 0).n 0), 1, none⟩)) 3) <|
      .cons [4] (ok_ld (fun ν2 => .int .i64 a0.Hi) 4 8 1 1 (fun ν2 => ((ν1 0).n 0)) (fun ν2 => [.int .i64 a0.Lo, .int .i64 a0.Hi]) 40) <|
      .cons [5] (ok_val (fun ν2 => .pointer (some ⟨((ν1 0).n 0), 0, none⟩)) 5) <|
      .cons [6] (ok_ld (fun ν2 => .int .i64 a0.Lo) 6 8 0 1 (fun ν2 => ((ν1 0).n 0)) (fun ν2 => [.int .i64 a0.Lo, .int .i64 a0.Hi]) 40) <|
      .cons [7] (ok_val (fun ν2 => .int .i64 (w_i64 (a0.Hi - a0.Lo))) 7) <|
      .cons [2] (ok_val (fun ν2 => .int .i64 (w_i64 (a0.Hi - a0.Lo))) 2) <| .nil) (by kernel_rfl) fun ν2 a w' H => ?_
  replace H := H.toL [(2, .slot true (.int .i64 (w_i64 (a0.Hi - a0.Lo))))] (by kernel_rfl)
  refine k_ret ?_
  obtain rfl := Option.some.inj G
  exact k_done0 H _ (by kernel_rfl) (by kernel_rfl)

set_option maxHeartbeats 4000000 in
theorem slices_Max_int64_int64.calls (k0 : Nat) (a0 : List Int) (p_a0 : Option Addr) (c_a0 : Nat) (r : Int) (w : World) (R_p_a0 : RowAt w 1 p_a0 a0.length (a0.flatMap en_i64)) (G : slices_Max_int64_int64 k0 a0 = some r) :
    Calls Try.prog 83 #[.slice p_a0 a0.length c_a0] w fun e w' => e = .returned (.int .i64 r) ∧ Below w.heap.size w w' := by
  refine k_enterF (args := [.slice p_a0 a0.length c_a0]) 25 [(25, rdK 1 p_a0 a0.length (a0.flatMap en_i64))] (by
    intro x hx
    simp only [List.mem_cons, List.not_mem_nil, or_false] at hx
    rcases hx with rfl
    exact rd_fact R_p_a0 (by decide) _) Try.func83 rfl (by kernel_rfl) (by kernel_rfl) fun a H => ?_
  unfold slices_Max_int64_int64 at G
  refine k_seq ?_
  refine k_reg mixed H (.cons [2] (ok_val (fun ν1 => .int .i64 0) 2) <| .nil) (by kernel_rfl) fun ν1 a w' H => ?_
  replace H := H.toL [(0, .slot true (.slice p_a0 a0.length c_a0)), (2, .slot true (.int .i64 0)), (25, rdK 1 p_a0 a0.length (a0.flatMap en_i64))] (by kernel_rfl)
  refine k_seq ?_
  refine k_seq ?_
  refine k_reg mixed H (.cons [5] (ok_val (fun ν2 => .slice p_a0 a0.length c_a0) 5) <|
      .cons [6] (ok_val (fun ν2 => .int .i64 (a0.length : Int)) 6) <|
      .cons [7] (ok_val (fun ν2 => .bool (decide ((a0.length : Int) < 1))) 7) <| .nil) (by kernel_rfl) fun ν2 a w' H => ?_
  replace H := H.toL [(0, .slot true (.slice p_a0 a0.length c_a0)), (2, .slot true (.int .i64 0)), (7, .slot true (.bool (decide ((a0.length : Int) < 1)))), (25, rdK 1 p_a0 a0.length (a0.flatMap en_i64))] (by kernel_rfl)
  refine k_cond H (by kernel_rfl) (t := decide ((a0.length : Int) < 1)) (by kernel_rfl) (fun c19 => ?_) (fun c19 => ?_)
  · rw [if_pos c19] at G
    cases G
  · rw [if_neg (nt c19)] at G
    refine k_skip ?_
    refine k_seq ?_
    replace G := gd G; obtain ⟨b4, G⟩ := G
    replace G := bnd G; obtain ⟨t5, ht5, G⟩ := G
    refine k_reg mixed H (.cons [9] (ok_val (fun ν3 => .slice p_a0 a0.length c_a0) 9) <|
      .cons [10] (ok_valL [25] (fun ν3 => [rdK 1 p_a0 a0.length (a0.flatMap en_i64)]) (fun ν3 => .pointer (some ⟨hdB p_a0, hdO p_a0 + ((0 : Int).toNat) * 1, none⟩)) (fun ν3 => true) [true, true] 10 (fun ν3 w hg hF => run_of (by kernel_rfl) (run_ix (t := 27) (p := p_a0) (n := a0.length) (cap := c_a0) (k := .i64) (i := (0 : Int)) (sz := 1) (by kernel_rfl) (by kernel_rfl) (rd_of hF.1) b4))) <|
      .cons [11] (ok_valL [25] (fun ν3 => [rdK 1 p_a0 a0.length (a0.flatMap en_i64)]) (fun ν3 => .int .i64 t5) (fun ν3 => true) [true] 11 (fun ν3 w hg hF => ld_of (vs := [.int .i64 t5]) (b := hdB p_a0) (off := hdO p_a0 + ((0 : Int).toNat) * 1 + 0) (m := 1) (by kernel_rfl) (el_cells (rd_of hF.1) en_i64_len ht5 0 1 rfl))) <|
      .cons [3] (ok_val (fun ν3 => .int .i64 t5) 3) <| .nil) (by kernel_rfl) fun ν3 a w' H => ?_
    replace H := H.toL [(0, .slot true (.slice p_a0 a0.length c_a0)), (2, .slot true (.int .i64 0)), (3, .slot true (.int .i64 t5)), (25, rdK 1 p_a0 a0.length (a0.flatMap en_i64))] (by kernel_rfl)
    refine k_seq ?_
    replace G := bnd G; obtain ⟨j7, hj7, G⟩ := G
    refine k_join (fun a w' => Rep w.heap.size w 25 (ofL [(2, .slot true (.int .i64 0)), (3, .slot true (.int .i64 j7))]) a w') ?_ ?_
    · clear H; intro a w' H
      refine k_seq ?_
      refine k_reg mixed H (.cons [24] (ok_val (fun ν8 => .int .i64 j7) 24) <|
      .cons [2] (ok_val (fun ν8 => .int .i64 j7) 2) <| .nil) (by kernel_rfl) fun ν8 a w' H => ?_
      replace H := H.toL [(2, .slot true (.int .i64 j7))] (by kernel_rfl)
      refine k_ret ?_
      obtain rfl := Option.some.inj G
      exact k_done0 H _ (by kernel_rfl) (by kernel_rfl)
    · clear G; replace G := hj7; clear hj7
      refine k_seq ?_
      refine k_reg mixed H (.cons [4] (ok_val (fun ν9 => .int .i64 1) 4) <| .nil) (by kernel_rfl) fun ν9 a w' H => ?_
      replace H := H.toL [(0, .slot true (.slice p_a0 a0.length c_a0)), (2, .slot true (.int .i64 0)), (3, .slot true (.int .i64 t5)), (4, .slot true (.int .i64 1)), (25, rdK 1 p_a0 a0.length (a0.flatMap en_i64))] (by kernel_rfl)
      refine k_block ?_
      refine k_loopJ (fun m a w' => ∃ x10 : Int, ∃ x11 : Int, slices_Max_int64_int64.l12 k0 a0 t5 m x10 x11 = some j7 ∧ Rep w.heap.size w 25 (ofL [(0, .slot true (.slice p_a0 a0.length c_a0)), (2, .slot true (.int .i64 0)), (3, .slot true (.int .i64 x10)), (4, .slot true (.int .i64 x11)), (25, rdK 1 p_a0 a0.length (a0.flatMap en_i64))]) a w') k0 ⟨_, _, G, H.toL _ (by kernel_rfl)⟩ ?_
      clear G H
      rintro (_ | k) a w' ⟨x10, x11, G, H⟩
      · exact absurd G (by unfold slices_Max_int64_int64.l12; exact fun h => by cases h)
      · unfold slices_Max_int64_int64.l12 at G
        refine k_seq ?_
        refine k_seq ?_
        refine k_reg mixed H (.cons [12] (ok_val (fun ν13 => .int .i64 x11) 12) <|
      .cons [13] (ok_val (fun ν13 => .slice p_a0 a0.length c_a0) 13) <|
      .cons [14] (ok_val (fun ν13 => .int .i64 (a0.length : Int)) 14) <|
      .cons [15] (ok_val (fun ν13 => .bool (decide (x11 < (a0.length : Int)))) 15) <| .nil) (by kernel_rfl) fun ν13 a w' H => ?_
        replace H := H.toL [(0, .slot true (.slice p_a0 a0.length c_a0)), (2, .slot true (.int .i64 0)), (3, .slot true (.int .i64 x10)), (4, .slot true (.int .i64 x11)), (12, .slot true (.int .i64 x11)), (13, .slot true (.slice p_a0 a0.length c_a0)), (14, .slot true (.int .i64 (a0.length : Int))), (15, .slot true (.bool (decide (x11 < (a0.length : Int))))), (25, rdK 1 p_a0 a0.length (a0.flatMap en_i64))] (by kernel_rfl)
        refine k_cond H (by kernel_rfl) (t := decide (x11 < (a0.length : Int))) (by kernel_rfl) (fun c18 => ?_) (fun c18 => ?_)
        · rw [if_pos c18] at G
          refine k_skip ?_
          refine k_seq ?_
          refine k_block ?_
          replace G := gd G; obtain ⟨b15, G⟩ := G
          replace G := bnd G; obtain ⟨t16, ht16, G⟩ := G
          refine k_reg mixed H (.cons [18] (ok_val (fun ν14 => .int .i64 x10) 18) <|
      .cons [19] (ok_val (fun ν14 => .slice p_a0 a0.length c_a0) 19) <|
      .cons [20] (ok_val (fun ν14 => .int .i64 x11) 20) <|
      .cons [21] (ok_valL [25] (fun ν14 => [rdK 1 p_a0 a0.length (a0.flatMap en_i64)]) (fun ν14 => .pointer (some ⟨hdB p_a0, hdO p_a0 + x11.toNat * 1, none⟩)) (fun ν14 => true) [true, true] 21 (fun ν14 w hg hF => run_of (by kernel_rfl) (run_ix (t := 27) (p := p_a0) (n := a0.length) (cap := c_a0) (k := .i64) (i := x11) (sz := 1) (by kernel_rfl) (by kernel_rfl) (rd_of hF.1) b15))) <|
      .cons [22] (ok_valL [25] (fun ν14 => [rdK 1 p_a0 a0.length (a0.flatMap en_i64)]) (fun ν14 => .int .i64 t16) (fun ν14 => true) [true] 22 (fun ν14 w hg hF => ld_of (vs := [.int .i64 t16]) (b := hdB p_a0) (off := hdO p_a0 + x11.toNat * 1 + 0) (m := 1) (by kernel_rfl) (el_cells (rd_of hF.1) en_i64_len ht16 0 1 rfl))) <|
      .cons [23] (ok_val (fun ν14 => .int .i64 (mx x10 t16)) 23) <|
      .cons [3] (ok_val (fun ν14 => .int .i64 (mx x10 t16)) 3) <| .nil) (by kernel_rfl) fun ν14 a w' H => ?_
          replace H := H.toL [(0, .slot true (.slice p_a0 a0.length c_a0)), (2, .slot true (.int .i64 0)), (3, .slot true (.int .i64 (mx x10 t16))), (4, .slot true (.int .i64 x11)), (12, .slot true (.int .i64 x11)), (13, .slot true (.slice p_a0 a0.length c_a0)), (14, .slot true (.int .i64 (a0.length : Int))), (15, .slot true (.bool (decide (x11 < (a0.length : Int))))), (18, .slot true (.int .i64 x10)), (19, .slot true (.slice p_a0 a0.length c_a0)), (20, .slot true (.int .i64 x11)), (21, .slot true (.pointer (some ⟨hdB p_a0, hdO p_a0 + x11.toNat * 1, none⟩))), (22, .slot true (.int .i64 t16)), (23, .slot true (.int .i64 (mx x10 t16))), (25, rdK 1 p_a0 a0.length (a0.flatMap en_i64))] (by kernel_rfl)
          refine k_reg mixed H (.cons [16] (ok_val (fun ν17 => .int .i64 x11) 16) <|
      .cons [17] (ok_val (fun ν17 => .int .i64 (w_i64 (x11 + 1))) 17) <|
      .cons [4] (ok_val (fun ν17 => .int .i64 (w_i64 (x11 + 1))) 4) <| .nil) (by kernel_rfl) fun ν17 a w' H => ?_
          replace H := H.toL [(0, .slot true (.slice p_a0 a0.length c_a0)), (2, .slot true (.int .i64 0)), (3, .slot true (.int .i64 (mx x10 t16))), (4, .slot true (.int .i64 (w_i64 (x11 + 1)))), (12, .slot true (.int .i64 x11)), (13, .slot true (.slice p_a0 a0.length c_a0)), (14, .slot true (.int .i64 (a0.length : Int))), (15, .slot true (.bool (decide (x11 < (a0.length : Int))))), (16, .slot true (.int .i64 x11)), (17, .slot true (.int .i64 (w_i64 (x11 + 1)))), (18, .slot true (.int .i64 x10)), (19, .slot true (.slice p_a0 a0.length c_a0)), (20, .slot true (.int .i64 x11)), (21, .slot true (.pointer (some ⟨hdB p_a0, hdO p_a0 + x11.toNat * 1, none⟩))), (22, .slot true (.int .i64 t16)), (23, .slot true (.int .i64 (mx x10 t16))), (25, rdK 1 p_a0 a0.length (a0.flatMap en_i64))] (by kernel_rfl)
          exact ⟨k, Nat.lt_succ_self k, _, _, G, H.toL _ (by kernel_rfl)⟩
        · rw [if_neg (nt c18)] at G
          refine k_exit rfl ?_
          obtain rfl := Option.some.inj G
          exact H.toL _ (by kernel_rfl)

set_option maxHeartbeats 4000000 in
theorem api_Interval_int64_s46.calls (k0 : Nat) (a0 : List TInterval) (p_a0 : Option Addr) (c_a0 : Nat) (r : List Int) (w : World) (R_p_a0 : RowAt w 2 p_a0 a0.length (a0.flatMap en_TInterval)) (G : api_Interval_int64_s46 k0 a0 = some r) :
    Calls Try.prog 82 #[.slice p_a0 a0.length c_a0, .func (.func 46) #[] #[]] w fun e w' => ∃ p cap, e = .returned (.slice p r.length cap) ∧ Below w.heap.size w w' ∧ w'.ownsRow w.heap.size 2 1 (.slice p r.length cap) r.length (r.flatMap en_i64) := by
  refine k_enterF (args := [.slice p_a0 a0.length c_a0, .func (.func 46) #[] #[]]) 26 [(26, rdK 2 p_a0 a0.length (a0.flatMap en_TInterval))] (by
    intro x hx
    simp only [List.mem_cons, List.not_mem_nil, or_false] at hx
    rcases hx with rfl
    exact rd_fact R_p_a0 (by decide) _) Try.func82 rfl (by kernel_rfl) (by kernel_rfl) fun a H => ?_
  unfold api_Interval_int64_s46 at G
  refine k_seq ?_
  refine k_reg mixed H (.cons [4] (ok_val (fun ν1 => .slice none 0 0) 4) <| .nil) (by kernel_rfl) fun ν1 a w' H => ?_
  replace H := H.toL [(0, .slot true (.slice p_a0 a0.length c_a0)), (1, .slot true (.func (.func 46) #[] #[])), (4, .slot true (.slice none 0 0)), (26, rdK 2 p_a0 a0.length (a0.flatMap en_TInterval))] (by kernel_rfl)
  refine k_seq ?_
  replace G := gd G; obtain ⟨b3, G⟩ := G
  refine k_reg mixed H (.cons [8] (ok_val (fun ν2 => .slice p_a0 a0.length c_a0) 8) <|
      .cons [9] (ok_val (fun ν2 => .int .i64 (a0.length : Int)) 9) <|
      .cons [10, 27] (ok_rowL [] (fun ν2 => []) 2 1 (List.replicate (a0.length : Int).toNat (0 : Int)).length ((List.replicate (a0.length : Int).toNat (0 : Int)).flatMap en_i64) 10 27 (fun _ => .none) (fun ν2 w hF => run_make_row (t := 27) (k := .i64) (m := (a0.length : Int)) (en := en_i64) (z := (0 : Int)) en_i64_len inf2 rfl b3 (by kernel_rfl)) (fun _ => .inl rfl)) <|
      .cons [5] (ok_val (fun ν2 => .slice ((ν2 2).o 0) (List.replicate (a0.length : Int).toNat (0 : Int)).length ((ν2 2).n 0)) 5) <| .nil) (by kernel_rfl) fun ν2 a w' H => ?_
  replace H := H.toL [(0, .slot true (.slice p_a0 a0.length c_a0)), (1, .slot true (.func (.func 46) #[] #[])), (4, .slot true (.slice none 0 0)), (5, .slot true (.slice ((ν2 2).o 0) (List.replicate (a0.length : Int).toNat (0 : Int)).length ((ν2 2).n 0))), (26, rdK 2 p_a0 a0.length (a0.flatMap en_TInterval)), (27, owK 2 1 ((ν2 2).o 0) (List.replicate (a0.length : Int).toNat (0 : Int)).length ((ν2 2).n 0) ((List.replicate (a0.length : Int).toNat (0 : Int)).flatMap en_i64))] (by kernel_rfl)
  refine k_seq ?_
  replace G := bnd G; obtain ⟨j5, hj5, G⟩ := G
  refine k_join (fun a w' => ∃ (p_j4 : Option Addr) (c_j4 np_j4 : Nat), np_j4 = j5.length ∧ Rep w.heap.size w 26 (ofL [(4, .slot true (.slice none 0 0)), (5, .slot true (.slice p_j4 np_j4 c_j4)), (27, owK 2 1 p_j4 np_j4 c_j4 (j5.flatMap en_i64))]) a w') ?_ ?_
  · clear H; rintro a w' ⟨p_j4, c_j4, _, rfl, H⟩
    refine k_seq ?_
    refine k_reg mixed H (.cons [25] (ok_val (fun ν6 => .slice p_j4 j5.length c_j4) 25) <|
      .cons [4] (ok_val (fun ν6 => .slice p_j4 j5.length c_j4) 4) <| .nil) (by kernel_rfl) fun ν6 a w' H => ?_
    replace H := H.toL [(4, .slot true (.slice p_j4 j5.length c_j4)), (27, owK 2 1 p_j4 j5.length c_j4 (j5.flatMap en_i64))] (by kernel_rfl)
    refine k_ret ?_
    obtain rfl := Option.some.inj G
    exact k_doneR H (fun p cap => .slice p j5.length cap) p_j4 c_j4 [] 27 2 1 j5.length (j5.flatMap en_i64) (by kernel_rfl) (by kernel_rfl) (by simp) (by kernel_rfl)
  · clear G; replace G := hj5; clear hj5
    refine k_seq ?_
    refine k_reg mixed H (.cons [11] (ok_val (fun ν7 => .slice p_a0 a0.length c_a0) 11) <|
      .cons [12] (ok_val (fun ν7 => .int .i64 (a0.length : Int)) 12) <|
      .cons [13] (ok_val (fun ν7 => .int .i64 0) 13) <| .nil) (by kernel_rfl) fun ν7 a w' H => ?_
    replace H := H.toL [(1, .slot true (.func (.func 46) #[] #[])), (4, .slot true (.slice none 0 0)), (5, .slot true (.slice ((ν2 2).o 0) (List.replicate (a0.length : Int).toNat (0 : Int)).length ((ν2 2).n 0))), (11, .slot true (.slice p_a0 a0.length c_a0)), (12, .slot true (.int .i64 (a0.length : Int))), (13, .slot true (.int .i64 0)), (26, rdK 2 p_a0 a0.length (a0.flatMap en_TInterval)), (27, owK 2 1 ((ν2 2).o 0) (List.replicate (a0.length : Int).toNat (0 : Int)).length ((ν2 2).n 0) ((List.replicate (a0.length : Int).toNat (0 : Int)).flatMap en_i64))] (by kernel_rfl)
    refine k_block ?_
    refine k_loopJ (fun m a w' => ∃ x8 : List Int, ∃ x9 : Int, api_Interval_int64_s46.l10 k0 a0 m x8 x9 = some j5 ∧ ∃ (p_x8 : Option Addr) (c_x8 np_x8 : Nat), np_x8 = x8.length ∧ Rep w.heap.size w 26 (ofL [(1, .slot true (.func (.func 46) #[] #[])), (4, .slot true (.slice none 0 0)), (5, .slot true (.slice p_x8 np_x8 c_x8)), (11, .slot true (.slice p_a0 a0.length c_a0)), (12, .slot true (.int .i64 (a0.length : Int))), (13, .slot true (.int .i64 x9)), (26, rdK 2 p_a0 a0.length (a0.flatMap en_TInterval)), (27, owK 2 1 p_x8 np_x8 c_x8 (x8.flatMap en_i64))]) a w') k0 ⟨_, _, G, ((ν2 2).o 0), ((ν2 2).n 0), _, rfl, H.toL _ (by kernel_rfl)⟩ ?_
    clear G H
    rintro (_ | k) a w' ⟨x8, x9, G, p_x8, c_x8, _, rfl, H⟩
    · exact absurd G (by unfold api_Interval_int64_s46.l10; exact fun h => by cases h)
    · unfold api_Interval_int64_s46.l10 at G
      refine k_seq ?_
      refine k_reg mixed H (.cons [14] (ok_val (fun ν11 => .bool (decide (x9 < (a0.length : Int)))) 14) <| .nil) (by kernel_rfl) fun ν11 a w' H => ?_
      replace H := H.toL [(1, .slot true (.func (.func 46) #[] #[])), (4, .slot true (.slice none 0 0)), (5, .slot true (.slice p_x8 x8.length c_x8)), (11, .slot true (.slice p_a0 a0.length c_a0)), (12, .slot true (.int .i64 (a0.length : Int))), (13, .slot true (.int .i64 x9)), (14, .slot true (.bool (decide (x9 < (a0.length : Int))))), (26, rdK 2 p_a0 a0.length (a0.flatMap en_TInterval)), (27, owK 2 1 p_x8 x8.length c_x8 (x8.flatMap en_i64))] (by kernel_rfl)
      refine k_seq ?_
      refine k_cond H (by kernel_rfl) (t := decide (x9 < (a0.length : Int))) (by kernel_rfl) (fun c20 => ?_) (fun c20 => ?_)
      · rw [if_pos c20] at G
        refine k_skip ?_
        refine k_seq ?_
        refine k_block ?_
        refine k_seq ?_
        replace G := gd G; obtain ⟨b13, G⟩ := G
        replace G := bnd G; obtain ⟨t14, ht14, G⟩ := G
        refine k_reg mixed H (.cons [15] (ok_val (fun ν12 => .int .i64 x9) 15) <|
      .cons [16] (ok_valL [26] (fun ν12 => [rdK 2 p_a0 a0.length (a0.flatMap en_TInterval)]) (fun ν12 => .pointer (some ⟨hdB p_a0, hdO p_a0 + x9.toNat * 2, none⟩)) (fun ν12 => true) [true, true] 16 (fun ν12 w hg hF => run_of (by kernel_rfl) (run_ix (t := 22) (p := p_a0) (n := a0.length) (cap := c_a0) (k := .i64) (i := x9) (sz := 2) (by kernel_rfl) (by kernel_rfl) (rd_of hF.1) b13))) <|
      .cons [17] (ok_valL [26] (fun ν12 => [rdK 2 p_a0 a0.length (a0.flatMap en_TInterval)]) (fun ν12 => .agg #[.int .i64 t14.Lo, .int .i64 t14.Hi]) (fun ν12 => true) [true] 17 (fun ν12 w hg hF => ld_of (vs := [.int .i64 t14.Lo, .int .i64 t14.Hi]) (b := hdB p_a0) (off := hdO p_a0 + x9.toNat * 2 + 0) (m := 2) (by kernel_rfl) (el_cells (rd_of hF.1) en_TInterval_len ht14 0 2 rfl))) <|
      .cons [7, 28] (ok_new (fun b => .pointer (some ⟨b, 0, none⟩)) (fun ν12 => [.int .i64 0, .int .i64 0]) 40 7 28) <|
      .cons [6] (ok_val (fun ν12 => .int .i64 x9) 6) <|
      .cons [28] (ok_as (u' := fun ν12 => [(28, .blk ((ν12 3).n 0) [.int .i64 t14.Lo, .int .i64 t14.Hi] 40)]) (ok_store 28 0 (fun ν12 => ((ν12 3).n 0)) (fun ν12 => [.int .i64 0, .int .i64 0]) (fun ν12 => [.int .i64 t14.Lo, .int .i64 t14.Hi]) 40) (fun _ => by kernel_rfl)) <| .nil) (by kernel_rfl) fun ν12 a w' H => ?_
        replace H := H.toL [(1, .slot true (.func (.func 46) #[] #[])), (4, .slot true (.slice none 0 0)), (5, .slot true (.slice p_x8 x8.length c_x8)), (6, .slot true (.int .i64 x9)), (7, .slot true (.pointer (some ⟨((ν12 3).n 0), 0, none⟩))), (11, .slot true (.slice p_a0 a0.length c_a0)), (12, .slot true (.int .i64 (a0.length : Int))), (13, .slot true (.int .i64 x9)), (14, .slot true (.bool (decide (x9 < (a0.length : Int))))), (15, .slot true (.int .i64 x9)), (16, .slot true (.pointer (some ⟨hdB p_a0, hdO p_a0 + x9.toNat * 2, none⟩))), (17, .slot true (.agg #[.int .i64 t14.Lo, .int .i64 t14.Hi])), (28, .blk ((ν12 3).n 0) [.int .i64 t14.Lo, .int .i64 t14.Hi] 40), (26, rdK 2 p_a0 a0.length (a0.flatMap en_TInterval)), (27, owK 2 1 p_x8 x8.length c_x8 (x8.flatMap en_i64))] (by kernel_rfl)
        replace G := bnd G; obtain ⟨t16, ht16, G⟩ := G
        replace G := gd G; obtain ⟨b17, G⟩ := G
        replace G := bnd G; obtain ⟨t18, ht18, G⟩ := G
        refine k_reg mixed H (.cons [18] (ok_val (fun ν15 => .slice p_x8 x8.length c_x8) 18) <|
      .cons [19] (ok_val (fun ν15 => .int .i64 x9) 19) <|
      .cons [20] (ok_val (fun ν15 => .func (.func 46) #[] #[]) 20) <|
      .cons [21] (ok_ld (fun ν15 => .agg #[.int .i64 t14.Lo, .int .i64 t14.Hi]) 21 28 0 2 (fun ν15 => ((ν12 3).n 0)) (fun ν15 => [.int .i64 t14.Lo, .int .i64 t14.Hi]) 40) <|
      .cons [22] (ok_callv 46 (fun ν15 => #[.agg #[.int .i64 t14.Lo, .int .i64 t14.Hi]]) (.int .i64 t16) 22 [] (fun _ w _ => interval_Width.calls t14 t16 w ht16)) <|
      .cons [23] (ok_valL [27] (fun ν15 => [owK 2 1 p_x8 x8.length c_x8 (x8.flatMap en_i64)]) (fun ν15 => .pointer (some ⟨hdB p_x8, hdO p_x8 + x9.toNat * 1, none⟩)) (fun ν15 => true) [true, true] 23 (fun ν15 w hg hF => run_of (by kernel_rfl) (run_ix (t := 27) (p := p_x8) (n := x8.length) (cap := c_x8) (k := .i64) (i := x9) (sz := 1) (by kernel_rfl) (by kernel_rfl) (owns_row (ow_of hF.1)) b17))) <|
      .cons [27] ((ok_rowsetL 2 1 x8.length (fun ν15 => p_x8) (fun ν15 => c_x8) (x8.flatMap en_i64) _ 27 (fun ν15 w hF => el_store (ow_of hF) en_i64_len (y := t16) (vs := [.int .i64 t16]) ht18 0 (by simp) (by simp) rfl (by kernel_rfl)))) <| .nil) (by kernel_rfl) fun ν15 a w' H => ?_
        replace H := H.toL [(1, .slot true (.func (.func 46) #[] #[])), (4, .slot true (.slice none 0 0)), (5, .slot true (.slice p_x8 x8.length c_x8)), (6, .slot true (.int .i64 x9)), (7, .slot true (.pointer (some ⟨((ν12 3).n 0), 0, none⟩))), (11, .slot true (.slice p_a0 a0.length c_a0)), (12, .slot true (.int .i64 (a0.length : Int))), (13, .slot true (.int .i64 x9)), (14, .slot true (.bool (decide (x9 < (a0.length : Int))))), (15, .slot true (.int .i64 x9)), (16, .slot true (.pointer (some ⟨hdB p_a0, hdO p_a0 + x9.toNat * 2, none⟩))), (17, .slot true (.agg #[.int .i64 t14.Lo, .int .i64 t14.Hi])), (18, .slot true (.slice p_x8 x8.length c_x8)), (19, .slot true (.int .i64 x9)), (20, .slot true (.func (.func 46) #[] #[])), (21, .slot true (.agg #[.int .i64 t14.Lo, .int .i64 t14.Hi])), (22, .slot true (.int .i64 t16)), (23, .slot true (.pointer (some ⟨hdB p_x8, hdO p_x8 + x9.toNat * 1, none⟩))), (28, .blk ((ν12 3).n 0) [.int .i64 t14.Lo, .int .i64 t14.Hi] 40), (26, rdK 2 p_a0 a0.length (a0.flatMap en_TInterval)), (27, owK 2 1 p_x8 x8.length c_x8 ((x8.set x9.toNat t16).flatMap en_i64))] (by kernel_rfl)
        refine k_reg mixed H (.cons [24] (ok_val (fun ν19 => .int .i64 (w_i64 (x9 + 1))) 24) <|
      .cons [13] (ok_val (fun ν19 => .int .i64 (w_i64 (x9 + 1))) 13) <| .nil) (by kernel_rfl) fun ν19 a w' H => ?_
        replace H := H.toL [(1, .slot true (.func (.func 46) #[] #[])), (4, .slot true (.slice none 0 0)), (5, .slot true (.slice p_x8 x8.length c_x8)), (6, .slot true (.int .i64 x9)), (7, .slot true (.pointer (some ⟨((ν12 3).n 0), 0, none⟩))), (11, .slot true (.slice p_a0 a0.length c_a0)), (12, .slot true (.int .i64 (a0.length : Int))), (13, .slot true (.int .i64 (w_i64 (x9 + 1)))), (14, .slot true (.bool (decide (x9 < (a0.length : Int))))), (15, .slot true (.int .i64 x9)), (16, .slot true (.pointer (some ⟨hdB p_a0, hdO p_a0 + x9.toNat * 2, none⟩))), (17, .slot true (.agg #[.int .i64 t14.Lo, .int .i64 t14.Hi])), (18, .slot true (.slice p_x8 x8.length c_x8)), (19, .slot true (.int .i64 x9)), (20, .slot true (.func (.func 46) #[] #[])), (21, .slot true (.agg #[.int .i64 t14.Lo, .int .i64 t14.Hi])), (22, .slot true (.int .i64 t16)), (23, .slot true (.pointer (some ⟨hdB p_x8, hdO p_x8 + x9.toNat * 1, none⟩))), (24, .slot true (.int .i64 (w_i64 (x9 + 1)))), (28, .blk ((ν12 3).n 0) [.int .i64 t14.Lo, .int .i64 t14.Hi] 40), (26, rdK 2 p_a0 a0.length (a0.flatMap en_TInterval)), (27, owK 2 1 p_x8 x8.length c_x8 ((x8.set x9.toNat t16).flatMap en_i64))] (by kernel_rfl)
        exact ⟨k, Nat.lt_succ_self k, _, _, G, p_x8, c_x8, x8.length, by simp, H.toL _ (by kernel_rfl)⟩
      · rw [if_neg (nt c20)] at G
        refine k_exit rfl ?_
        obtain rfl := Option.some.inj G
        exact ⟨p_x8, c_x8, _, rfl, H.toL _ (by kernel_rfl)⟩

set_option maxHeartbeats 4000000 in
theorem box_Width.calls (k0 : Nat) (a0 : List TInterval) (p_a0 : Option Addr) (c_a0 : Nat) (r : Int) (w : World) (R_p_a0 : RowAt w 2 p_a0 a0.length (a0.flatMap en_TInterval)) (G : box_Width k0 a0 = some r) :
    Calls Try.prog 40 #[.slice p_a0 a0.length c_a0] w fun e w' => e = .returned (.int .i64 r) ∧ Below w.heap.size w w' := by
  refine k_enterF (args := [.slice p_a0 a0.length c_a0]) 6 [(6, rdK 2 p_a0 a0.length (a0.flatMap en_TInterval))] (by
    intro x hx
    simp only [List.mem_cons, List.not_mem_nil, or_false] at hx
    rcases hx with rfl
    exact rd_fact R_p_a0 (by decide) _) Try.func40 rfl (by kernel_rfl) (by kernel_rfl) fun a H => ?_
  unfold box_Width at G
  refine k_seq ?_
  refine k_reg mixed H (.cons [2] (ok_val (fun ν1 => .int .i64 0) 2) <| .nil) (by kernel_rfl) fun ν1 a w' H => ?_
  replace H := H.toL [(0, .slot true (.slice p_a0 a0.length c_a0)), (2, .slot true (.int .i64 0)), (6, rdK 2 p_a0 a0.length (a0.flatMap en_TInterval))] (by kernel_rfl)
  refine k_seq ?_
  replace G := bnd G; obtain ⟨t3, ht3, G⟩ := G
  replace G := bnd G; obtain ⟨t4, ht4, G⟩ := G
  refine k_reg mixed H (.cons [3] (ok_val (fun ν2 => .slice p_a0 a0.length c_a0) 3) <|
      .cons [4, 7] (ok_callRL [6] (fun ν2 => [rdK 2 p_a0 a0.length (a0.flatMap en_TInterval)]) 82 (fun ν2 => #[.slice p_a0 a0.length c_a0, .func (.func 46) #[] #[]]) (fun p cap => .slice p t3.length cap) 2 1 t3.length (t3.flatMap en_i64) 4 7 (fun ν2 w hF => api_Interval_int64_s46.calls k0 a0 p_a0 c_a0 t3 w (rd_of hF.1) ht3)) <|
      .cons [5] (ok_callL [7] (fun ν2 => [owK 2 1 ((ν2 1).o 0) t3.length ((ν2 1).n 0) (t3.flatMap en_i64)]) 83 (fun ν2 => #[.slice ((ν2 1).o 0) t3.length ((ν2 1).n 0)]) (.int .i64 t4) 5 (fun ν2 w hF => slices_Max_int64_int64.calls k0 t3 ((ν2 1).o 0) ((ν2 1).n 0) t4 w (owns_row (ow_of hF.1)) ht4)) <|
      .cons [2] (ok_val (fun ν2 => .int .i64 t4) 2) <| .nil) (by kernel_rfl) fun ν2 a w' H => ?_
  replace H := H.toL [(2, .slot true (.int .i64 t4))] (by kernel_rfl)
  refine k_ret ?_
  obtain rfl := Option.some.inj G
  exact k_done0 H _ (by kernel_rfl) (by kernel_rfl)

set_option maxHeartbeats 4000000 in
theorem slices_Index_int64_int64.calls (k0 : Nat) (a0 : List Int) (a1 : Int) (p_a0 : Option Addr) (c_a0 : Nat) (r : Int) (w : World) (R_p_a0 : RowAt w 1 p_a0 a0.length (a0.flatMap en_i64)) (G : slices_Index_int64_int64 k0 a0 a1 = some r) :
    Calls Try.prog 85 #[.slice p_a0 a0.length c_a0, .int .i64 a1] w fun e w' => e = .returned (.int .i64 r) ∧ Below w.heap.size w w' := by
  refine k_enterF (args := [.slice p_a0 a0.length c_a0, .int .i64 a1]) 19 [(19, rdK 1 p_a0 a0.length (a0.flatMap en_i64))] (by
    intro x hx
    simp only [List.mem_cons, List.not_mem_nil, or_false] at hx
    rcases hx with rfl
    exact rd_fact R_p_a0 (by decide) _) Try.func85 rfl (by kernel_rfl) (by kernel_rfl) fun a H => ?_
  unfold slices_Index_int64_int64 at G
  refine k_seq ?_
  refine k_reg mixed H (.cons [4] (ok_val (fun ν1 => .int .i64 0) 4) <| .nil) (by kernel_rfl) fun ν1 a w' H => ?_
  replace H := H.toL [(0, .slot true (.slice p_a0 a0.length c_a0)), (1, .slot true (.int .i64 a1)), (4, .slot true (.int .i64 0)), (19, rdK 1 p_a0 a0.length (a0.flatMap en_i64))] (by kernel_rfl)
  refine k_seq ?_
  replace G := bnd G; obtain ⟨j2, hj2, Gj2⟩ := G
  refine k_join (fun a w' => ∃ j2v, j2 = Sum.inr j2v ∧ Rep w.heap.size w 19 (ofL [(4, .slot true (.int .i64 0))]) a w') ?_ ?_
  · clear H; rintro a w' ⟨j2v, rfl, H⟩; have G := Gj2; clear Gj2; dsimp only at G
    refine k_seq ?_
    refine k_reg mixed H (.cons [4] (ok_val (fun ν3 => .int .i64 (-1)) 4) <| .nil) (by kernel_rfl) fun ν3 a w' H => ?_
    replace H := H.toL [(4, .slot true (.int .i64 (-1)))] (by kernel_rfl)
    refine k_ret ?_
    obtain rfl := Option.some.inj G
    exact k_done0 H _ (by kernel_rfl) (by kernel_rfl)
  · have G := hj2; clear hj2
    refine k_seq ?_
    refine k_reg mixed H (.cons [6] (ok_val (fun ν4 => .slice p_a0 a0.length c_a0) 6) <|
      .cons [7] (ok_val (fun ν4 => .int .i64 (a0.length : Int)) 7) <|
      .cons [8] (ok_val (fun ν4 => .int .i64 0) 8) <| .nil) (by kernel_rfl) fun ν4 a w' H => ?_
    replace H := H.toL [(0, .slot true (.slice p_a0 a0.length c_a0)), (1, .slot true (.int .i64 a1)), (4, .slot true (.int .i64 0)), (7, .slot true (.int .i64 (a0.length : Int))), (8, .slot true (.int .i64 0)), (19, rdK 1 p_a0 a0.length (a0.flatMap en_i64))] (by kernel_rfl)
    refine k_block ?_
    refine k_loopJ (fun m a w' => ∃ x5 : Int, slices_Index_int64_int64.l6 k0 a0 a1 m x5 = some j2 ∧ Rep w.heap.size w 19 (ofL [(0, .slot true (.slice p_a0 a0.length c_a0)), (1, .slot true (.int .i64 a1)), (4, .slot true (.int .i64 0)), (7, .slot true (.int .i64 (a0.length : Int))), (8, .slot true (.int .i64 x5)), (19, rdK 1 p_a0 a0.length (a0.flatMap en_i64))]) a w') k0 ⟨_, G, H.toL _ (by kernel_rfl)⟩ ?_
    clear G H
    rintro (_ | k) a w' ⟨x5, G, H⟩
    · exact absurd G (by unfold slices_Index_int64_int64.l6; exact fun h => by cases h)
    · unfold slices_Index_int64_int64.l6 at G
      refine k_seq ?_
      refine k_reg mixed H (.cons [9] (ok_val (fun ν7 => .bool (decide (x5 < (a0.length : Int)))) 9) <| .nil) (by kernel_rfl) fun ν7 a w' H => ?_
      replace H := H.toL [(0, .slot true (.slice p_a0 a0.length c_a0)), (1, .slot true (.int .i64 a1)), (4, .slot true (.int .i64 0)), (7, .slot true (.int .i64 (a0.length : Int))), (8, .slot true (.int .i64 x5)), (9, .slot true (.bool (decide (x5 < (a0.length : Int))))), (19, rdK 1 p_a0 a0.length (a0.flatMap en_i64))] (by kernel_rfl)
      refine k_seq ?_
      refine k_cond H (by kernel_rfl) (t := decide (x5 < (a0.length : Int))) (by kernel_rfl) (fun c15 => ?_) (fun c15 => ?_)
      · rw [if_pos c15] at G
        refine k_skip ?_
        refine k_seq ?_
        refine k_block ?_
        refine k_seq ?_
        refine k_reg mixed H (.cons [10] (ok_val (fun ν8 => .int .i64 x5) 10) <|
      .cons [5] (ok_val (fun ν8 => .int .i64 x5) 5) <| .nil) (by kernel_rfl) fun ν8 a w' H => ?_
        replace H := H.toL [(0, .slot true (.slice p_a0 a0.length c_a0)), (1, .slot true (.int .i64 a1)), (4, .slot true (.int .i64 0)), (5, .slot true (.int .i64 x5)), (7, .slot true (.int .i64 (a0.length : Int))), (8, .slot true (.int .i64 x5)), (9, .slot true (.bool (decide (x5 < (a0.length : Int))))), (10, .slot true (.int .i64 x5)), (19, rdK 1 p_a0 a0.length (a0.flatMap en_i64))] (by kernel_rfl)
        refine k_seq ?_
        replace G := gd G; obtain ⟨b10, G⟩ := G
        replace G := bnd G; obtain ⟨t11, ht11, G⟩ := G
        refine k_reg mixed H (.cons [11] (ok_val (fun ν9 => .int .i64 a1) 11) <|
      .cons [12] (ok_val (fun ν9 => .slice p_a0 a0.length c_a0) 12) <|
      .cons [13] (ok_val (fun ν9 => .int .i64 x5) 13) <|
      .cons [14] (ok_valL [19] (fun ν9 => [rdK 1 p_a0 a0.length (a0.flatMap en_i64)]) (fun ν9 => .pointer (some ⟨hdB p_a0, hdO p_a0 + x5.toNat * 1, none⟩)) (fun ν9 => true) [true, true] 14 (fun ν9 w hg hF => run_of (by kernel_rfl) (run_ix (t := 27) (p := p_a0) (n := a0.length) (cap := c_a0) (k := .i64) (i := x5) (sz := 1) (by kernel_rfl) (by kernel_rfl) (rd_of hF.1) b10))) <|
      .cons [15] (ok_valL [19] (fun ν9 => [rdK 1 p_a0 a0.length (a0.flatMap en_i64)]) (fun ν9 => .int .i64 t11) (fun ν9 => true) [true] 15 (fun ν9 w hg hF => ld_of (vs := [.int .i64 t11]) (b := hdB p_a0) (off := hdO p_a0 + x5.toNat * 1 + 0) (m := 1) (by kernel_rfl) (el_cells (rd_of hF.1) en_i64_len ht11 0 1 rfl))) <|
      .cons [16] (ok_val (fun ν9 => .bool (a1 == t11)) 16) <| .nil) (by kernel_rfl) fun ν9 a w' H => ?_
        replace H := H.toL [(0, .slot true (.slice p_a0 a0.length c_a0)), (1, .slot true (.int .i64 a1)), (4, .slot true (.int .i64 0)), (5, .slot true (.int .i64 x5)), (7, .slot true (.int .i64 (a0.length : Int))), (8, .slot true (.int .i64 x5)), (9, .slot true (.bool (decide (x5 < (a0.length : Int))))), (10, .slot true (.int .i64 x5)), (11, .slot true (.int .i64 a1)), (12, .slot true (.slice p_a0 a0.length c_a0)), (13, .slot true (.int .i64 x5)), (14, .slot true (.pointer (some ⟨hdB p_a0, hdO p_a0 + x5.toNat * 1, none⟩))), (15, .slot true (.int .i64 t11)), (16, .slot true (.bool (a1 == t11))), (19, rdK 1 p_a0 a0.length (a0.flatMap en_i64))] (by kernel_rfl)
        refine k_cond H (by kernel_rfl) (t := (a1 == t11)) (by kernel_rfl) (fun c14 => ?_) (fun c14 => ?_)
        · rw [if_pos c14] at G
          refine k_seq ?_
          refine k_reg mixed H (.cons [17] (ok_val (fun ν12 => .int .i64 x5) 17) <|
      .cons [4] (ok_val (fun ν12 => .int .i64 x5) 4) <| .nil) (by kernel_rfl) fun ν12 a w' H => ?_
          replace H := H.toL [(0, .slot true (.slice p_a0 a0.length c_a0)), (1, .slot true (.int .i64 a1)), (4, .slot true (.int .i64 x5)), (5, .slot true (.int .i64 x5)), (7, .slot true (.int .i64 (a0.length : Int))), (8, .slot true (.int .i64 x5)), (9, .slot true (.bool (decide (x5 < (a0.length : Int))))), (10, .slot true (.int .i64 x5)), (11, .slot true (.int .i64 a1)), (12, .slot true (.slice p_a0 a0.length c_a0)), (13, .slot true (.int .i64 x5)), (14, .slot true (.pointer (some ⟨hdB p_a0, hdO p_a0 + x5.toNat * 1, none⟩))), (15, .slot true (.int .i64 t11)), (16, .slot true (.bool (a1 == t11))), (17, .slot true (.int .i64 x5)), (19, rdK 1 p_a0 a0.length (a0.flatMap en_i64))] (by kernel_rfl)
          refine k_ret ?_
          obtain rfl := Option.some.inj G
          replace G := Gj2
          obtain rfl := Option.some.inj G
          exact k_done0 H _ (by kernel_rfl) (by kernel_rfl)
        · rw [if_neg (nt c14)] at G
          refine k_skip ?_
          refine k_reg mixed H (.cons [18] (ok_val (fun ν13 => .int .i64 (w_i64 (x5 + 1))) 18) <|
      .cons [8] (ok_val (fun ν13 => .int .i64 (w_i64 (x5 + 1))) 8) <| .nil) (by kernel_rfl) fun ν13 a w' H => ?_
          replace H := H.toL [(0, .slot true (.slice p_a0 a0.length c_a0)), (1, .slot true (.int .i64 a1)), (4, .slot true (.int .i64 0)), (5, .slot true (.int .i64 x5)), (7, .slot true (.int .i64 (a0.length : Int))), (8, .slot true (.int .i64 (w_i64 (x5 + 1)))), (9, .slot true (.bool (decide (x5 < (a0.length : Int))))), (10, .slot true (.int .i64 x5)), (11, .slot true (.int .i64 a1)), (12, .slot true (.slice p_a0 a0.length c_a0)), (13, .slot true (.int .i64 x5)), (14, .slot true (.pointer (some ⟨hdB p_a0, hdO p_a0 + x5.toNat * 1, none⟩))), (15, .slot true (.int .i64 t11)), (16, .slot true (.bool (a1 == t11))), (18, .slot true (.int .i64 (w_i64 (x5 + 1)))), (19, rdK 1 p_a0 a0.length (a0.flatMap en_i64))] (by kernel_rfl)
          exact ⟨k, Nat.lt_succ_self k, _, G, H.toL _ (by kernel_rfl)⟩
      · rw [if_neg (nt c15)] at G
        refine k_exit rfl ?_
        obtain rfl := Option.some.inj G
        exact ⟨_, rfl, H.toL _ (by kernel_rfl)⟩

set_option maxHeartbeats 4000000 in
theorem box_WidestAxis.calls (k0 : Nat) (a0 : List TInterval) (p_a0 : Option Addr) (c_a0 : Nat) (r : Int) (w : World) (R_p_a0 : RowAt w 2 p_a0 a0.length (a0.flatMap en_TInterval)) (G : box_WidestAxis k0 a0 = some r) :
    Calls Try.prog 42 #[.slice p_a0 a0.length c_a0] w fun e w' => e = .returned (.int .i64 r) ∧ Below w.heap.size w w' := by
  refine k_enterF (args := [.slice p_a0 a0.length c_a0]) 8 [(8, rdK 2 p_a0 a0.length (a0.flatMap en_TInterval))] (by
    intro x hx
    simp only [List.mem_cons, List.not_mem_nil, or_false] at hx
    rcases hx with rfl
    exact rd_fact R_p_a0 (by decide) _) Try.func42 rfl (by kernel_rfl) (by kernel_rfl) fun a H => ?_
  unfold box_WidestAxis at G
  refine k_seq ?_
  refine k_reg mixed H (.cons [2] (ok_val (fun ν1 => .int .i64 0) 2) <| .nil) (by kernel_rfl) fun ν1 a w' H => ?_
  replace H := H.toL [(0, .slot true (.slice p_a0 a0.length c_a0)), (2, .slot true (.int .i64 0)), (8, rdK 2 p_a0 a0.length (a0.flatMap en_TInterval))] (by kernel_rfl)
  refine k_seq ?_
  replace G := bnd G; obtain ⟨t3, ht3, G⟩ := G
  replace G := bnd G; obtain ⟨t4, ht4, G⟩ := G
  replace G := bnd G; obtain ⟨t5, ht5, G⟩ := G
  refine k_reg mixed H (.cons [3] (ok_val (fun ν2 => .slice p_a0 a0.length c_a0) 3) <|
      .cons [4, 9] (ok_callRL [8] (fun ν2 => [rdK 2 p_a0 a0.length (a0.flatMap en_TInterval)]) 82 (fun ν2 => #[.slice p_a0 a0.length c_a0, .func (.func 46) #[] #[]]) (fun p cap => .slice p t3.length cap) 2 1 t3.length (t3.flatMap en_i64) 4 9 (fun ν2 w hF => api_Interval_int64_s46.calls k0 a0 p_a0 c_a0 t3 w (rd_of hF.1) ht3)) <|
      .cons [5] (ok_val (fun ν2 => .slice p_a0 a0.length c_a0) 5) <|
      .cons [6] (ok_callL [8] (fun ν2 => [rdK 2 p_a0 a0.length (a0.flatMap en_TInterval)]) 40 (fun ν2 => #[.slice p_a0 a0.length c_a0]) (.int .i64 t4) 6 (fun ν2 w hF => box_Width.calls k0 a0 p_a0 c_a0 t4 w (rd_of hF.1) ht4)) <|
      .cons [7] (ok_callL [9] (fun ν2 => [owK 2 1 ((ν2 1).o 0) t3.length ((ν2 1).n 0) (t3.flatMap en_i64)]) 85 (fun ν2 => #[.slice ((ν2 1).o 0) t3.length ((ν2 1).n 0), .int .i64 t4]) (.int .i64 t5) 7 (fun ν2 w hF => slices_Index_int64_int64.calls k0 t3 t4 ((ν2 1).o 0) ((ν2 1).n 0) t5 w (owns_row (ow_of hF.1)) ht5)) <|
      .cons [2] (ok_val (fun ν2 => .int .i64 t5) 2) <| .nil) (by kernel_rfl) fun ν2 a w' H => ?_
  replace H := H.toL [(2, .slot true (.int .i64 t5))] (by kernel_rfl)
  refine k_ret ?_
  obtain rfl := Option.some.inj G
  exact k_done0 H _ (by kernel_rfl) (by kernel_rfl)

set_option maxHeartbeats 4000000 in
theorem armillarylaw03_span.calls (a0 : Int) (a1 : Int) (r : TInterval) (w : World) (G : armillarylaw03_span a0 a1 = some r) :
    Calls Try.prog 51 #[.int .i64 a0, .int .i64 a1] w fun e w' => e = .returned (.agg #[.int .i64 r.Lo, .int .i64 r.Hi]) ∧ Below w.heap.size w w' := by
  refine k_enter (args := [.int .i64 a0, .int .i64 a1]) 10 Try.func51 rfl (by kernel_rfl) (by kernel_rfl) fun a H => ?_
  unfold armillarylaw03_span at G
  refine k_seq ?_
  refine k_reg mixed H (.cons [4, 10] (ok_new (fun b => .pointer (some ⟨b, 0, none⟩)) (fun ν1 => [.int .i64 0, .int .i64 0]) 40 4 10) <| .nil) (by kernel_rfl) fun ν1 a w' H => ?_
  replace H := H.toL [(0, .slot true (.int .i64 a0)), (1, .slot true (.int .i64 a1)), (4, .slot true (.pointer (some ⟨((ν1 0).n 0), 0, none⟩))), (10, .blk ((ν1 0).n 0) [.int .i64 0, .int .i64 0] 40)] (by kernel_rfl)
  refine k_seq ?_
  refine k_reg mixed H (.cons [5] (ok_val (fun ν2 => .int .i64 a0) 5) <|
      .cons [6] (ok_val (fun ν2 => .int .i64 (w_i64 (a0 * 65536))) 6) <|
      .cons [7] (ok_val (fun ν2 => .int .i64 a1) 7) <|
      .cons [8] (ok_val (fun ν2 => .int .i64 (w_i64 (a1 * 65536))) 8) <|
      .cons [9] (ok_val (fun ν2 => .agg #[.int .i64 (w_i64 (a0 * 65536)), .int .i64 (w_i64 (a1 * 65536))]) 9) <|
      .cons [10] (ok_as (u' := fun ν2 => [(10, .blk ((ν1 0).n 0) [.int .i64 (w_i64 (a0 * 65536)), .int .i64 (w_i64 (a1 * 65536))] 40)]) (ok_store 10 0 (fun ν2 => ((ν1 0).n 0)) (fun ν2 => [.int .i64 0, .int .i64 0]) (fun ν2 => [.int .i64 (w_i64 (a0 * 65536)), .int .i64 (w_i64 (a1 * 65536))]) 40) (fun _ => by kernel_rfl)) <| .nil) (by kernel_rfl) fun ν2 a w' H => ?_
  replace H := H.toL [(4, .slot true (.pointer (some ⟨((ν1 0).n 0), 0, none⟩))), (10, .blk ((ν1 0).n 0) [.int .i64 (w_i64 (a0 * 65536)), .int .i64 (w_i64 (a1 * 65536))] 40)] (by kernel_rfl)
  refine k_ret ?_
  obtain rfl := Option.some.inj G
  exact k_done1 H _ 10 ((ν1 0).n 0) [.int .i64 (w_i64 (a0 * 65536)), .int .i64 (w_i64 (a1 * 65536))] 40 0 2 (by kernel_rfl) (by kernel_rfl) (by kernel_rfl) (by kernel_rfl)

set_option maxHeartbeats 4000000 in
theorem armillarylaw03_entire.calls (r : TInterval) (w : World) (G : armillarylaw03_entire = some r) :
    Calls Try.prog 52 #[] w fun e w' => e = .returned (.agg #[.int .i64 r.Lo, .int .i64 r.Hi]) ∧ Below w.heap.size w w' := by
  refine k_enter (args := []) 2 Try.func52 rfl (by kernel_rfl) (by kernel_rfl) fun a H => ?_
  unfold armillarylaw03_entire at G
  refine k_seq ?_
  refine k_reg mixed H (.cons [0, 2] (ok_new (fun b => .pointer (some ⟨b, 0, none⟩)) (fun ν1 => [.int .i64 0, .int .i64 0]) 40 0 2) <| .nil) (by kernel_rfl) fun ν1 a w' H => ?_
  replace H := H.toL [(0, .slot true (.pointer (some ⟨((ν1 0).n 0), 0, none⟩))), (2, .blk ((ν1 0).n 0) [.int .i64 0, .int .i64 0] 40)] (by kernel_rfl)
  refine k_seq ?_
  refine k_reg mixed H (.cons [1] (ok_val (fun ν2 => .agg #[.int .i64 (-2147483648), .int .i64 2147483648]) 1) <|
      .cons [2] (ok_as (u' := fun ν2 => [(2, .blk ((ν1 0).n 0) [.int .i64 (-2147483648), .int .i64 2147483648] 40)]) (ok_store 2 0 (fun ν2 => ((ν1 0).n 0)) (fun ν2 => [.int .i64 0, .int .i64 0]) (fun ν2 => [.int .i64 (-2147483648), .int .i64 2147483648]) 40) (fun _ => by kernel_rfl)) <| .nil) (by kernel_rfl) fun ν2 a w' H => ?_
  replace H := H.toL [(0, .slot true (.pointer (some ⟨((ν1 0).n 0), 0, none⟩))), (2, .blk ((ν1 0).n 0) [.int .i64 (-2147483648), .int .i64 2147483648] 40)] (by kernel_rfl)
  refine k_ret ?_
  obtain rfl := Option.some.inj G
  exact k_done1 H _ 2 ((ν1 0).n 0) [.int .i64 (-2147483648), .int .i64 2147483648] 40 0 2 (by kernel_rfl) (by kernel_rfl) (by kernel_rfl) (by kernel_rfl)

set_option maxHeartbeats 4000000 in
theorem armillarylaw03_sanity.calls (k0 : Nat)  (r : Bool) (w : World) (G : armillarylaw03_sanity k0 = some r) :
    Calls Try.prog 12 #[] w fun e w' => e = .returned (.bool r) ∧ Below w.heap.size w w' := by
  refine k_enter (args := []) 197 Try.func12 rfl (by kernel_rfl) (by kernel_rfl) fun a H => ?_
  unfold armillarylaw03_sanity at G
  refine k_seq ?_
  refine k_reg mixed H (.cons [0] (ok_val (fun ν1 => .bool false) 0) <| .nil) (by kernel_rfl) fun ν1 a w' H => ?_
  replace H := H.toL [(0, .slot true (.bool false))] (by kernel_rfl)
  refine k_seq ?_
  replace G := bnd G; obtain ⟨t3, ht3, G⟩ := G
  refine k_reg mixed H (.cons [18] (ok_callv 51 (fun ν2 => #[.int .i64 0, .int .i64 1]) (.agg #[.int .i64 t3.Lo, .int .i64 t3.Hi]) 18 [] (fun _ w _ => armillarylaw03_span.calls 0 1 t3 w ht3)) <|
      .cons [19, 197] (ok_new (fun b => .slice (some ⟨b, 0, none⟩) 1 1) (fun ν2 => [.int .i64 t3.Lo, .int .i64 t3.Hi]) 40 19 197) <|
      .cons [1] (ok_val (fun ν2 => .slice (some ⟨((ν2 1).n 0), 0, none⟩) 1 1) 1) <| .nil) (by kernel_rfl) fun ν2 a w' H => ?_
  replace H := H.toL [(0, .slot true (.bool false)), (1, .slot true (.slice (some ⟨((ν2 1).n 0), 0, none⟩) 1 1)), (197, .blk ((ν2 1).n 0) [.int .i64 t3.Lo, .int .i64 t3.Hi] 40)] (by kernel_rfl)
  refine k_seq ?_
  replace G := bnd G; obtain ⟨t5, ht5, G⟩ := G
  refine k_reg mixed H (.cons [20] (ok_callv 51 (fun ν4 => #[.int .i64 3, .int .i64 5]) (.agg #[.int .i64 t5.Lo, .int .i64 t5.Hi]) 20 [] (fun _ w _ => armillarylaw03_span.calls 3 5 t5 w ht5)) <|
      .cons [21, 198] (ok_new (fun b => .slice (some ⟨b, 0, none⟩) 1 1) (fun ν4 => [.int .i64 t5.Lo, .int .i64 t5.Hi]) 40 21 198) <|
      .cons [2] (ok_val (fun ν4 => .slice (some ⟨((ν4 1).n 0), 0, none⟩) 1 1) 2) <| .nil) (by kernel_rfl) fun ν4 a w' H => ?_
  replace H := H.toL [(0, .slot true (.bool false)), (1, .slot true (.slice (some ⟨((ν2 1).n 0), 0, none⟩) 1 1)), (2, .slot true (.slice (some ⟨((ν4 1).n 0), 0, none⟩) 1 1)), (197, .blk ((ν2 1).n 0) [.int .i64 t3.Lo, .int .i64 t3.Hi] 40), (198, .blk ((ν4 1).n 0) [.int .i64 t5.Lo, .int .i64 t5.Hi] 40)] (by kernel_rfl)
  refine k_seq ?_
  replace G := bnd G; obtain ⟨t7, ht7, G⟩ := G
  replace G := bnd G; obtain ⟨t8, ht8, G⟩ := G
  refine k_reg mixed H (.cons [22] (ok_callv 51 (fun ν6 => #[.int .i64 0, .int .i64 4]) (.agg #[.int .i64 t7.Lo, .int .i64 t7.Hi]) 22 [] (fun _ w _ => armillarylaw03_span.calls 0 4 t7 w ht7)) <|
      .cons [23] (ok_callv 51 (fun ν6 => #[.int .i64 1, .int .i64 9]) (.agg #[.int .i64 t8.Lo, .int .i64 t8.Hi]) 23 [] (fun _ w _ => armillarylaw03_span.calls 1 9 t8 w ht8)) <|
      .cons [24, 199] (ok_new (fun b => .slice (some ⟨b, 0, none⟩) 2 2) (fun ν6 => [.int .i64 t7.Lo, .int .i64 t7.Hi, .int .i64 t8.Lo, .int .i64 t8.Hi]) 40 24 199) <|
      .cons [3] (ok_val (fun ν6 => .slice (some ⟨((ν6 2).n 0), 0, none⟩) 2 2) 3) <| .nil) (by kernel_rfl) fun ν6 a w' H => ?_
  replace H := H.toL [(0, .slot true (.bool false)), (1, .slot true (.slice (some ⟨((ν2 1).n 0), 0, none⟩) 1 1)), (2, .slot true (.slice (some ⟨((ν4 1).n 0), 0, none⟩) 1 1)), (3, .slot true (.slice (some ⟨((ν6 2).n 0), 0, none⟩) 2 2)), (197, .blk ((ν2 1).n 0) [.int .i64 t3.Lo, .int .i64 t3.Hi] 40), (198, .blk ((ν4 1).n 0) [.int .i64 t5.Lo, .int .i64 t5.Hi] 40), (199, .blk ((ν6 2).n 0) [.int .i64 t7.Lo, .int .i64 t7.Hi, .int .i64 t8.Lo, .int .i64 t8.Hi] 40)] (by kernel_rfl)
  refine k_seq ?_
  replace H := H.blk_row 197 ((ν2 1).n 0) [.int .i64 t3.Lo, .int .i64 t3.Hi] 40 2 1 (by kernel_rfl) (by kernel_rfl) (by decide)
  replace H := H.blk_row 198 ((ν4 1).n 0) [.int .i64 t5.Lo, .int .i64 t5.Hi] 40 2 1 (by kernel_rfl) (by kernel_rfl) (by decide)
  replace H := H.blk_row 199 ((ν6 2).n 0) [.int .i64 t7.Lo, .int .i64 t7.Hi, .int .i64 t8.Lo, .int .i64 t8.Hi] 40 2 2 (by kernel_rfl) (by kernel_rfl) (by decide)
  replace G := bnd G; obtain ⟨t10, ht10, G⟩ := G
  refine k_reg mixed H (.cons [26] (ok_val (fun ν9 => .slice (some ⟨((ν6 2).n 0), 0, none⟩) ([t7, t8] : List TInterval).length 2) 26) <|
      .cons [27, 200, 201] (ok_callRL2 [199] (fun ν9 => [owK 40 2 (some ⟨((ν6 2).n 0), 0, none⟩) ([t7, t8] : List TInterval).length 2 (([t7, t8] : List TInterval).flatMap en_TInterval)]) 36 (fun ν9 => #[.slice (some ⟨((ν6 2).n 0), 0, none⟩) ([t7, t8] : List TInterval).length 2, .int .i64 1]) (fun p cap p2 cap2 => .tuple #[.slice p t10.1.length cap, .slice p2 t10.2.1.length cap2, .int .i64 t10.2.2]) 40 2 t10.1.length (t10.1.flatMap en_TInterval) 40 2 t10.2.1.length (t10.2.1.flatMap en_TInterval) 27 200 201 (fun ν9 w hF => box_Bisect.calls ([t7, t8] : List TInterval) 1 (some ⟨((ν6 2).n 0), 0, none⟩) 2 t10 w (owns_row (ow_of hF.1)) ht10)) <|
      .cons [25] (ok_val (fun ν9 => .tuple #[.slice ((ν9 1).o 0) t10.1.length ((ν9 1).n 0), .slice ((ν9 1).o 1) t10.2.1.length ((ν9 1).n 1), .int .i64 t10.2.2]) 25) <|
      .cons [28] (ok_val (fun ν9 => .slice ((ν9 1).o 0) t10.1.length ((ν9 1).n 0)) 28) <|
      .cons [29] (ok_val (fun ν9 => .slice ((ν9 1).o 1) t10.2.1.length ((ν9 1).n 1)) 29) <|
      .cons [30] (ok_val (fun ν9 => .int .i64 t10.2.2) 30) <|
      .cons [4] (ok_val (fun ν9 => .slice ((ν9 1).o 0) t10.1.length ((ν9 1).n 0)) 4) <|
      .cons [5] (ok_val (fun ν9 => .slice ((ν9 1).o 1) t10.2.1.length ((ν9 1).n 1)) 5) <|
      .cons [6] (ok_val (fun ν9 => .int .i64 t10.2.2) 6) <| .nil) (by kernel_rfl) fun ν9 a w' H => ?_
  replace H := H.toL [(0, .slot true (.bool false)), (1, .slot true (.slice (some ⟨((ν2 1).n 0), 0, none⟩) ([t3] : List TInterval).length 1)), (2, .slot true (.slice (some ⟨((ν4 1).n 0), 0, none⟩) ([t5] : List TInterval).length 1)), (3, .slot true (.slice (some ⟨((ν6 2).n 0), 0, none⟩) ([t7, t8] : List TInterval).length 2)), (4, .slot true (.slice ((ν9 1).o 0) t10.1.length ((ν9 1).n 0))), (5, .slot true (.slice ((ν9 1).o 1) t10.2.1.length ((ν9 1).n 1))), (6, .slot true (.int .i64 t10.2.2)), (197, owK 40 2 (some ⟨((ν2 1).n 0), 0, none⟩) ([t3] : List TInterval).length 1 (([t3] : List TInterval).flatMap en_TInterval)), (198, owK 40 2 (some ⟨((ν4 1).n 0), 0, none⟩) ([t5] : List TInterval).length 1 (([t5] : List TInterval).flatMap en_TInterval)), (199, owK 40 2 (some ⟨((ν6 2).n 0), 0, none⟩) ([t7, t8] : List TInterval).length 2 (([t7, t8] : List TInterval).flatMap en_TInterval)), (200, owK 40 2 ((ν9 1).o 0) t10.1.length ((ν9 1).n 0) (t10.1.flatMap en_TInterval)), (201, owK 40 2 ((ν9 1).o 1) t10.2.1.length ((ν9 1).n 1) (t10.2.1.flatMap en_TInterval))] (by kernel_rfl)
  refine k_seq ?_
  replace G := bnd G; obtain ⟨t12, ht12, G⟩ := G
  refine k_reg mixed H (.cons [32] (ok_val (fun ν11 => .slice (some ⟨((ν6 2).n 0), 0, none⟩) ([t7, t8] : List TInterval).length 2) 32) <|
      .cons [33, 202, 203] (ok_callRL2 [199] (fun ν11 => [owK 40 2 (some ⟨((ν6 2).n 0), 0, none⟩) ([t7, t8] : List TInterval).length 2 (([t7, t8] : List TInterval).flatMap en_TInterval)]) 36 (fun ν11 => #[.slice (some ⟨((ν6 2).n 0), 0, none⟩) ([t7, t8] : List TInterval).length 2, .int .i64 2]) (fun p cap p2 cap2 => .tuple #[.slice p t12.1.length cap, .slice p2 t12.2.1.length cap2, .int .i64 t12.2.2]) 40 2 t12.1.length (t12.1.flatMap en_TInterval) 40 2 t12.2.1.length (t12.2.1.flatMap en_TInterval) 33 202 203 (fun ν11 w hF => box_Bisect.calls ([t7, t8] : List TInterval) 2 (some ⟨((ν6 2).n 0), 0, none⟩) 2 t12 w (owns_row (ow_of hF.1)) ht12)) <|
      .cons [31] (ok_val (fun ν11 => .tuple #[.slice ((ν11 1).o 0) t12.1.length ((ν11 1).n 0), .slice ((ν11 1).o 1) t12.2.1.length ((ν11 1).n 1), .int .i64 t12.2.2]) 31) <|
      .cons [34] (ok_val (fun ν11 => .slice ((ν11 1).o 0) t12.1.length ((ν11 1).n 0)) 34) <|
      .cons [35] (ok_val (fun ν11 => .slice ((ν11 1).o 1) t12.2.1.length ((ν11 1).n 1)) 35) <|
      .cons [36] (ok_val (fun ν11 => .int .i64 t12.2.2) 36) <|
      .cons [7] (ok_val (fun ν11 => .slice ((ν11 1).o 0) t12.1.length ((ν11 1).n 0)) 7) <|
      .cons [8] (ok_val (fun ν11 => .slice ((ν11 1).o 1) t12.2.1.length ((ν11 1).n 1)) 8) <|
      .cons [9] (ok_val (fun ν11 => .int .i64 t12.2.2) 9) <| .nil) (by kernel_rfl) fun ν11 a w' H => ?_
  replace H := H.toL [(0, .slot true (.bool false)), (1, .slot true (.slice (some ⟨((ν2 1).n 0), 0, none⟩) ([t3] : List TInterval).length 1)), (2, .slot true (.slice (some ⟨((ν4 1).n 0), 0, none⟩) ([t5] : List TInterval).length 1)), (3, .slot true (.slice (some ⟨((ν6 2).n 0), 0, none⟩) ([t7, t8] : List TInterval).length 2)), (4, .slot true (.slice ((ν9 1).o 0) t10.1.length ((ν9 1).n 0))), (5, .slot true (.slice ((ν9 1).o 1) t10.2.1.length ((ν9 1).n 1))), (6, .slot true (.int .i64 t10.2.2)), (9, .slot true (.int .i64 t12.2.2)), (197, owK 40 2 (some ⟨((ν2 1).n 0), 0, none⟩) ([t3] : List TInterval).length 1 (([t3] : List TInterval).flatMap en_TInterval)), (198, owK 40 2 (some ⟨((ν4 1).n 0), 0, none⟩) ([t5] : List TInterval).length 1 (([t5] : List TInterval).flatMap en_TInterval)), (199, owK 40 2 (some ⟨((ν6 2).n 0), 0, none⟩) ([t7, t8] : List TInterval).length 2 (([t7, t8] : List TInterval).flatMap en_TInterval)), (200, owK 40 2 ((ν9 1).o 0) t10.1.length ((ν9 1).n 0) (t10.1.flatMap en_TInterval)), (201, owK 40 2 ((ν9 1).o 1) t10.2.1.length ((ν9 1).n 1) (t10.2.1.flatMap en_TInterval))] (by kernel_rfl)
  refine k_seq ?_
  replace G := bnd G; obtain ⟨t14, ht14, G⟩ := G
  replace G := bnd G; obtain ⟨t15, ht15, G⟩ := G
  refine k_reg mixed H (.cons [38] (ok_callv 52 (fun ν13 => #[]) (.agg #[.int .i64 t14.Lo, .int .i64 t14.Hi]) 38 [] (fun _ w _ => armillarylaw03_entire.calls  t14 w ht14)) <|
      .cons [39, 204] (ok_blkrow 2 1 (ok_new (fun b => .slice (some ⟨b, 0, none⟩) 1 1) (fun ν13 => [.int .i64 t14.Lo, .int .i64 t14.Hi]) 40 39 204) (fun _ => rfl) (by decide)) <|
      .cons [40, 205, 206] (ok_callRL2 [204] (fun ν13 => [owK 40 2 (some ⟨((ν13 1).n 0), 0, none⟩) ([t14] : List TInterval).length 1 (([t14] : List TInterval).flatMap en_TInterval)]) 36 (fun ν13 => #[.slice (some ⟨((ν13 1).n 0), 0, none⟩) ([t14] : List TInterval).length 1, .int .i64 0]) (fun p cap p2 cap2 => .tuple #[.slice p t15.1.length cap, .slice p2 t15.2.1.length cap2, .int .i64 t15.2.2]) 40 2 t15.1.length (t15.1.flatMap en_TInterval) 40 2 t15.2.1.length (t15.2.1.flatMap en_TInterval) 40 205 206 (fun ν13 w hF => box_Bisect.calls ([t14] : List TInterval) 0 (some ⟨((ν13 1).n 0), 0, none⟩) 1 t15 w (owns_row (ow_of hF.1)) ht15)) <|
      .cons [37] (ok_val (fun ν13 => .tuple #[.slice ((ν13 2).o 0) t15.1.length ((ν13 2).n 0), .slice ((ν13 2).o 1) t15.2.1.length ((ν13 2).n 1), .int .i64 t15.2.2]) 37) <|
      .cons [41] (ok_val (fun ν13 => .slice ((ν13 2).o 0) t15.1.length ((ν13 2).n 0)) 41) <|
      .cons [42] (ok_val (fun ν13 => .slice ((ν13 2).o 1) t15.2.1.length ((ν13 2).n 1)) 42) <|
      .cons [43] (ok_val (fun ν13 => .int .i64 t15.2.2) 43) <|
      .cons [10] (ok_val (fun ν13 => .slice ((ν13 2).o 0) t15.1.length ((ν13 2).n 0)) 10) <|
      .cons [11] (ok_val (fun ν13 => .slice ((ν13 2).o 1) t15.2.1.length ((ν13 2).n 1)) 11) <|
      .cons [12] (ok_val (fun ν13 => .int .i64 t15.2.2) 12) <| .nil) (by kernel_rfl) fun ν13 a w' H => ?_
  replace H := H.toL [(0, .slot true (.bool false)), (1, .slot true (.slice (some ⟨((ν2 1).n 0), 0, none⟩) ([t3] : List TInterval).length 1)), (2, .slot true (.slice (some ⟨((ν4 1).n 0), 0, none⟩) ([t5] : List TInterval).length 1)), (3, .slot true (.slice (some ⟨((ν6 2).n 0), 0, none⟩) ([t7, t8] : List TInterval).length 2)), (4, .slot true (.slice ((ν9 1).o 0) t10.1.length ((ν9 1).n 0))), (5, .slot true (.slice ((ν9 1).o 1) t10.2.1.length ((ν9 1).n 1))), (6, .slot true (.int .i64 t10.2.2)), (9, .slot true (.int .i64 t12.2.2)), (12, .slot true (.int .i64 t15.2.2)), (197, owK 40 2 (some ⟨((ν2 1).n 0), 0, none⟩) ([t3] : List TInterval).length 1 (([t3] : List TInterval).flatMap en_TInterval)), (198, owK 40 2 (some ⟨((ν4 1).n 0), 0, none⟩) ([t5] : List TInterval).length 1 (([t5] : List TInterval).flatMap en_TInterval)), (199, owK 40 2 (some ⟨((ν6 2).n 0), 0, none⟩) ([t7, t8] : List TInterval).length 2 (([t7, t8] : List TInterval).flatMap en_TInterval)), (200, owK 40 2 ((ν9 1).o 0) t10.1.length ((ν9 1).n 0) (t10.1.flatMap en_TInterval)), (201, owK 40 2 ((ν9 1).o 1) t10.2.1.length ((ν9 1).n 1) (t10.2.1.flatMap en_TInterval))] (by kernel_rfl)
  refine k_seq ?_
  replace G := bnd G; obtain ⟨t17, ht17, G⟩ := G
  replace G := bnd G; obtain ⟨t18, ht18, G⟩ := G
  replace G := bnd G; obtain ⟨t19, ht19, G⟩ := G
  refine k_reg mixed H (.cons [45] (ok_val (fun ν16 => .slice (some ⟨((ν6 2).n 0), 0, none⟩) ([t7, t8] : List TInterval).length 2) 45) <|
      .cons [46] (ok_callv 51 (fun ν16 => #[.int .i64 3, .int .i64 7]) (.agg #[.int .i64 t17.Lo, .int .i64 t17.Hi]) 46 [] (fun _ w _ => armillarylaw03_span.calls 3 7 t17 w ht17)) <|
      .cons [47] (ok_callv 51 (fun ν16 => #[.int .i64 0, .int .i64 2]) (.agg #[.int .i64 t18.Lo, .int .i64 t18.Hi]) 47 [] (fun _ w _ => armillarylaw03_span.calls 0 2 t18 w ht18)) <|
      .cons [48, 207] (ok_blkrow 2 2 (ok_new (fun b => .slice (some ⟨b, 0, none⟩) 2 2) (fun ν16 => [.int .i64 t17.Lo, .int .i64 t17.Hi, .int .i64 t18.Lo, .int .i64 t18.Hi]) 40 48 207) (fun _ => rfl) (by decide)) <|
      .cons [49, 208] (ok_callRL [199, 207] (fun ν16 => [owK 40 2 (some ⟨((ν6 2).n 0), 0, none⟩) ([t7, t8] : List TInterval).length 2 (([t7, t8] : List TInterval).flatMap en_TInterval), owK 40 2 (some ⟨((ν16 3).n 0), 0, none⟩) ([t17, t18] : List TInterval).length 2 (([t17, t18] : List TInterval).flatMap en_TInterval)]) 14 (fun ν16 => #[.slice (some ⟨((ν6 2).n 0), 0, none⟩) ([t7, t8] : List TInterval).length 2, .slice (some ⟨((ν16 3).n 0), 0, none⟩) ([t17, t18] : List TInterval).length 2]) (fun p cap => .tuple #[.slice p t19.1.length cap, .bool t19.2]) 40 2 t19.1.length (t19.1.flatMap en_TInterval) 49 208 (fun ν16 w hF => box_Intersect.calls ([t7, t8] : List TInterval) ([t17, t18] : List TInterval) (some ⟨((ν6 2).n 0), 0, none⟩) 2 (some ⟨((ν16 3).n 0), 0, none⟩) 2 t19 w (owns_row (ow_of hF.1)) (owns_row (ow_of hF.2.1)) ht19)) <|
      .cons [44] (ok_val (fun ν16 => .tuple #[.slice ((ν16 4).o 0) t19.1.length ((ν16 4).n 0), .bool t19.2]) 44) <|
      .cons [50] (ok_val (fun ν16 => .slice ((ν16 4).o 0) t19.1.length ((ν16 4).n 0)) 50) <|
      .cons [51] (ok_val (fun ν16 => .bool t19.2) 51) <|
      .cons [13] (ok_val (fun ν16 => .slice ((ν16 4).o 0) t19.1.length ((ν16 4).n 0)) 13) <|
      .cons [14] (ok_val (fun ν16 => .bool t19.2) 14) <| .nil) (by kernel_rfl) fun ν16 a w' H => ?_
  replace H := H.toL [(0, .slot true (.bool false)), (1, .slot true (.slice (some ⟨((ν2 1).n 0), 0, none⟩) ([t3] : List TInterval).length 1)), (2, .slot true (.slice (some ⟨((ν4 1).n 0), 0, none⟩) ([t5] : List TInterval).length 1)), (3, .slot true (.slice (some ⟨((ν6 2).n 0), 0, none⟩) ([t7, t8] : List TInterval).length 2)), (4, .slot true (.slice ((ν9 1).o 0) t10.1.length ((ν9 1).n 0))), (5, .slot true (.slice ((ν9 1).o 1) t10.2.1.length ((ν9 1).n 1))), (6, .slot true (.int .i64 t10.2.2)), (9, .slot true (.int .i64 t12.2.2)), (12, .slot true (.int .i64 t15.2.2)), (13, .slot true (.slice ((ν16 4).o 0) t19.1.length ((ν16 4).n 0))), (14, .slot true (.bool t19.2)), (197, owK 40 2 (some ⟨((ν2 1).n 0), 0, none⟩) ([t3] : List TInterval).length 1 (([t3] : List TInterval).flatMap en_TInterval)), (198, owK 40 2 (some ⟨((ν4 1).n 0), 0, none⟩) ([t5] : List TInterval).length 1 (([t5] : List TInterval).flatMap en_TInterval)), (199, owK 40 2 (some ⟨((ν6 2).n 0), 0, none⟩) ([t7, t8] : List TInterval).length 2 (([t7, t8] : List TInterval).flatMap en_TInterval)), (200, owK 40 2 ((ν9 1).o 0) t10.1.length ((ν9 1).n 0) (t10.1.flatMap en_TInterval)), (201, owK 40 2 ((ν9 1).o 1) t10.2.1.length ((ν9 1).n 1) (t10.2.1.flatMap en_TInterval)), (208, owK 40 2 ((ν16 4).o 0) t19.1.length ((ν16 4).n 0) (t19.1.flatMap en_TInterval))] (by kernel_rfl)
  refine k_seq ?_
  replace G := bnd G; obtain ⟨t21, ht21, G⟩ := G
  refine k_reg mixed H (.cons [53] (ok_val (fun ν20 => .slice (some ⟨((ν2 1).n 0), 0, none⟩) ([t3] : List TInterval).length 1) 53) <|
      .cons [54] (ok_val (fun ν20 => .slice (some ⟨((ν4 1).n 0), 0, none⟩) ([t5] : List TInterval).length 1) 54) <|
      .cons [55, 209] (ok_callRL [197, 198] (fun ν20 => [owK 40 2 (some ⟨((ν2 1).n 0), 0, none⟩) ([t3] : List TInterval).length 1 (([t3] : List TInterval).flatMap en_TInterval), owK 40 2 (some ⟨((ν4 1).n 0), 0, none⟩) ([t5] : List TInterval).length 1 (([t5] : List TInterval).flatMap en_TInterval)]) 14 (fun ν20 => #[.slice (some ⟨((ν2 1).n 0), 0, none⟩) ([t3] : List TInterval).length 1, .slice (some ⟨((ν4 1).n 0), 0, none⟩) ([t5] : List TInterval).length 1]) (fun p cap => .tuple #[.slice p t21.1.length cap, .bool t21.2]) 40 2 t21.1.length (t21.1.flatMap en_TInterval) 55 209 (fun ν20 w hF => box_Intersect.calls ([t3] : List TInterval) ([t5] : List TInterval) (some ⟨((ν2 1).n 0), 0, none⟩) 1 (some ⟨((ν4 1).n 0), 0, none⟩) 1 t21 w (owns_row (ow_of hF.1)) (owns_row (ow_of hF.2.1)) ht21)) <|
      .cons [52] (ok_val (fun ν20 => .tuple #[.slice ((ν20 2).o 0) t21.1.length ((ν20 2).n 0), .bool t21.2]) 52) <|
      .cons [56] (ok_val (fun ν20 => .slice ((ν20 2).o 0) t21.1.length ((ν20 2).n 0)) 56) <|
      .cons [57] (ok_val (fun ν20 => .bool t21.2) 57) <|
      .cons [15] (ok_val (fun ν20 => .slice ((ν20 2).o 0) t21.1.length ((ν20 2).n 0)) 15) <|
      .cons [16] (ok_val (fun ν20 => .bool t21.2) 16) <| .nil) (by kernel_rfl) fun ν20 a w' H => ?_
  replace H := H.toL [(0, .slot true (.bool false)), (1, .slot true (.slice (some ⟨((ν2 1).n 0), 0, none⟩) ([t3] : List TInterval).length 1)), (2, .slot true (.slice (some ⟨((ν4 1).n 0), 0, none⟩) ([t5] : List TInterval).length 1)), (3, .slot true (.slice (some ⟨((ν6 2).n 0), 0, none⟩) ([t7, t8] : List TInterval).length 2)), (4, .slot true (.slice ((ν9 1).o 0) t10.1.length ((ν9 1).n 0))), (5, .slot true (.slice ((ν9 1).o 1) t10.2.1.length ((ν9 1).n 1))), (6, .slot true (.int .i64 t10.2.2)), (9, .slot true (.int .i64 t12.2.2)), (12, .slot true (.int .i64 t15.2.2)), (13, .slot true (.slice ((ν16 4).o 0) t19.1.length ((ν16 4).n 0))), (14, .slot true (.bool t19.2)), (16, .slot true (.bool t21.2)), (197, owK 40 2 (some ⟨((ν2 1).n 0), 0, none⟩) ([t3] : List TInterval).length 1 (([t3] : List TInterval).flatMap en_TInterval)), (198, owK 40 2 (some ⟨((ν4 1).n 0), 0, none⟩) ([t5] : List TInterval).length 1 (([t5] : List TInterval).flatMap en_TInterval)), (199, owK 40 2 (some ⟨((ν6 2).n 0), 0, none⟩) ([t7, t8] : List TInterval).length 2 (([t7, t8] : List TInterval).flatMap en_TInterval)), (200, owK 40 2 ((ν9 1).o 0) t10.1.length ((ν9 1).n 0) (t10.1.flatMap en_TInterval)), (201, owK 40 2 ((ν9 1).o 1) t10.2.1.length ((ν9 1).n 1) (t10.2.1.flatMap en_TInterval)), (208, owK 40 2 ((ν16 4).o 0) t19.1.length ((ν16 4).n 0) (t19.1.flatMap en_TInterval))] (by kernel_rfl)
  refine k_seq ?_
  replace G := bnd G; obtain ⟨t23, ht23, G⟩ := G
  refine k_reg mixed H (.cons [58] (ok_val (fun ν22 => .slice (some ⟨((ν6 2).n 0), 0, none⟩) ([t7, t8] : List TInterval).length 2) 58) <|
      .cons [59, 210] (ok_callRL [199] (fun ν22 => [owK 40 2 (some ⟨((ν6 2).n 0), 0, none⟩) ([t7, t8] : List TInterval).length 2 (([t7, t8] : List TInterval).flatMap en_TInterval)]) 38 (fun ν22 => #[.slice (some ⟨((ν6 2).n 0), 0, none⟩) ([t7, t8] : List TInterval).length 2]) (fun p cap => .slice p t23.length cap) 2 1 t23.length (t23.flatMap en_i64) 59 210 (fun ν22 w hF => box_Mid.calls k0 ([t7, t8] : List TInterval) (some ⟨((ν6 2).n 0), 0, none⟩) 2 t23 w (owns_row (ow_of hF.1)) ht23)) <|
      .cons [17] (ok_val (fun ν22 => .slice ((ν22 1).o 0) t23.length ((ν22 1).n 0)) 17) <| .nil) (by kernel_rfl) fun ν22 a w' H => ?_
  replace H := H.toL [(0, .slot true (.bool false)), (1, .slot true (.slice (some ⟨((ν2 1).n 0), 0, none⟩) ([t3] : List TInterval).length 1)), (2, .slot true (.slice (some ⟨((ν4 1).n 0), 0, none⟩) ([t5] : List TInterval).length 1)), (3, .slot true (.slice (some ⟨((ν6 2).n 0), 0, none⟩) ([t7, t8] : List TInterval).length 2)), (4, .slot true (.slice ((ν9 1).o 0) t10.1.length ((ν9 1).n 0))), (5, .slot true (.slice ((ν9 1).o 1) t10.2.1.length ((ν9 1).n 1))), (6, .slot true (.int .i64 t10.2.2)), (9, .slot true (.int .i64 t12.2.2)), (12, .slot true (.int .i64 t15.2.2)), (13, .slot true (.slice ((ν16 4).o 0) t19.1.length ((ν16 4).n 0))), (14, .slot true (.bool t19.2)), (16, .slot true (.bool t21.2)), (17, .slot true (.slice ((ν22 1).o 0) t23.length ((ν22 1).n 0))), (197, owK 40 2 (some ⟨((ν2 1).n 0), 0, none⟩) ([t3] : List TInterval).length 1 (([t3] : List TInterval).flatMap en_TInterval)), (198, owK 40 2 (some ⟨((ν4 1).n 0), 0, none⟩) ([t5] : List TInterval).length 1 (([t5] : List TInterval).flatMap en_TInterval)), (199, owK 40 2 (some ⟨((ν6 2).n 0), 0, none⟩) ([t7, t8] : List TInterval).length 2 (([t7, t8] : List TInterval).flatMap en_TInterval)), (200, owK 40 2 ((ν9 1).o 0) t10.1.length ((ν9 1).n 0) (t10.1.flatMap en_TInterval)), (201, owK 40 2 ((ν9 1).o 1) t10.2.1.length ((ν9 1).n 1) (t10.2.1.flatMap en_TInterval)), (208, owK 40 2 ((ν16 4).o 0) t19.1.length ((ν16 4).n 0) (t19.1.flatMap en_TInterval)), (210, owK 2 1 ((ν22 1).o 0) t23.length ((ν22 1).n 0) (t23.flatMap en_i64))] (by kernel_rfl)
  refine k_seq ?_
  refine k_seq ?_
  refine k_reg mixed H (.cons [60] (ok_val (fun ν24 => .slice ((ν22 1).o 0) t23.length ((ν22 1).n 0)) 60) <|
      .cons [61] (ok_val (fun ν24 => .int .i64 (t23.length : Int)) 61) <|
      .cons [62] (ok_val (fun ν24 => .bool ((t23.length : Int) != 2)) 62) <| .nil) (by kernel_rfl) fun ν24 a w' H => ?_
  replace H := H.toL [(0, .slot true (.bool false)), (1, .slot true (.slice (some ⟨((ν2 1).n 0), 0, none⟩) ([t3] : List TInterval).length 1)), (2, .slot true (.slice (some ⟨((ν4 1).n 0), 0, none⟩) ([t5] : List TInterval).length 1)), (3, .slot true (.slice (some ⟨((ν6 2).n 0), 0, none⟩) ([t7, t8] : List TInterval).length 2)), (4, .slot true (.slice ((ν9 1).o 0) t10.1.length ((ν9 1).n 0))), (5, .slot true (.slice ((ν9 1).o 1) t10.2.1.length ((ν9 1).n 1))), (6, .slot true (.int .i64 t10.2.2)), (9, .slot true (.int .i64 t12.2.2)), (12, .slot true (.int .i64 t15.2.2)), (13, .slot true (.slice ((ν16 4).o 0) t19.1.length ((ν16 4).n 0))), (14, .slot true (.bool t19.2)), (16, .slot true (.bool t21.2)), (17, .slot true (.slice ((ν22 1).o 0) t23.length ((ν22 1).n 0))), (62, .slot true (.bool ((t23.length : Int) != 2))), (197, owK 40 2 (some ⟨((ν2 1).n 0), 0, none⟩) ([t3] : List TInterval).length 1 (([t3] : List TInterval).flatMap en_TInterval)), (198, owK 40 2 (some ⟨((ν4 1).n 0), 0, none⟩) ([t5] : List TInterval).length 1 (([t5] : List TInterval).flatMap en_TInterval)), (199, owK 40 2 (some ⟨((ν6 2).n 0), 0, none⟩) ([t7, t8] : List TInterval).length 2 (([t7, t8] : List TInterval).flatMap en_TInterval)), (200, owK 40 2 ((ν9 1).o 0) t10.1.length ((ν9 1).n 0) (t10.1.flatMap en_TInterval)), (201, owK 40 2 ((ν9 1).o 1) t10.2.1.length ((ν9 1).n 1) (t10.2.1.flatMap en_TInterval)), (208, owK 40 2 ((ν16 4).o 0) t19.1.length ((ν16 4).n 0) (t19.1.flatMap en_TInterval)), (210, owK 2 1 ((ν22 1).o 0) t23.length ((ν22 1).n 0) (t23.flatMap en_i64))] (by kernel_rfl)
  refine k_cond H (by kernel_rfl) (t := ((t23.length : Int) != 2)) (by kernel_rfl) (fun c72 => ?_) (fun c72 => ?_)
  · rw [if_pos c72] at G
    refine k_seq ?_
    refine k_reg mixed H (.cons [0] (ok_val (fun ν25 => .bool false) 0) <| .nil) (by kernel_rfl) fun ν25 a w' H => ?_
    replace H := H.toL [(0, .slot true (.bool false)), (1, .slot true (.slice (some ⟨((ν2 1).n 0), 0, none⟩) ([t3] : List TInterval).length 1)), (2, .slot true (.slice (some ⟨((ν4 1).n 0), 0, none⟩) ([t5] : List TInterval).length 1)), (3, .slot true (.slice (some ⟨((ν6 2).n 0), 0, none⟩) ([t7, t8] : List TInterval).length 2)), (4, .slot true (.slice ((ν9 1).o 0) t10.1.length ((ν9 1).n 0))), (5, .slot true (.slice ((ν9 1).o 1) t10.2.1.length ((ν9 1).n 1))), (6, .slot true (.int .i64 t10.2.2)), (9, .slot true (.int .i64 t12.2.2)), (12, .slot true (.int .i64 t15.2.2)), (13, .slot true (.slice ((ν16 4).o 0) t19.1.length ((ν16 4).n 0))), (14, .slot true (.bool t19.2)), (16, .slot true (.bool t21.2)), (17, .slot true (.slice ((ν22 1).o 0) t23.length ((ν22 1).n 0))), (197, owK 40 2 (some ⟨((ν2 1).n 0), 0, none⟩) ([t3] : List TInterval).length 1 (([t3] : List TInterval).flatMap en_TInterval)), (198, owK 40 2 (some ⟨((ν4 1).n 0), 0, none⟩) ([t5] : List TInterval).length 1 (([t5] : List TInterval).flatMap en_TInterval)), (199, owK 40 2 (some ⟨((ν6 2).n 0), 0, none⟩) ([t7, t8] : List TInterval).length 2 (([t7, t8] : List TInterval).flatMap en_TInterval)), (200, owK 40 2 ((ν9 1).o 0) t10.1.length ((ν9 1).n 0) (t10.1.flatMap en_TInterval)), (201, owK 40 2 ((ν9 1).o 1) t10.2.1.length ((ν9 1).n 1) (t10.2.1.flatMap en_TInterval)), (208, owK 40 2 ((ν16 4).o 0) t19.1.length ((ν16 4).n 0) (t19.1.flatMap en_TInterval)), (210, owK 2 1 ((ν22 1).o 0) t23.length ((ν22 1).n 0) (t23.flatMap en_i64))] (by kernel_rfl)
    refine k_ret ?_
    obtain rfl := Option.some.inj G
    exact k_done0 H _ (by kernel_rfl) (by kernel_rfl)
  · rw [if_neg (nt c72)] at G
    refine k_skip ?_
    refine k_seq ?_
    replace G := bnd G; obtain ⟨t27, ht27, G⟩ := G
    replace G := bnd G; obtain ⟨t28, ht28, G⟩ := G
    replace G := bnd G; obtain ⟨t29, ht29, G⟩ := G
    replace G := bnd G; obtain ⟨t30, ht30, G⟩ := G
    replace G := gd G; obtain ⟨b31, G⟩ := G
    replace G := bnd G; obtain ⟨t32, ht32, G⟩ := G
    replace G := bnd G; obtain ⟨t33, ht33, G⟩ := G
    replace G := gd G; obtain ⟨b34, G⟩ := G
    replace G := bnd G; obtain ⟨t35, ht35, G⟩ := G
    replace G := bnd G; obtain ⟨t36, ht36, G⟩ := G
    replace G := bnd G; obtain ⟨t37, ht37, G⟩ := G
    replace G := gd G; obtain ⟨b38, G⟩ := G
    replace G := bnd G; obtain ⟨t39, ht39, G⟩ := G
    replace G := bnd G; obtain ⟨t40, ht40, G⟩ := G
    replace G := bnd G; obtain ⟨t41, ht41, G⟩ := G
    replace G := gd G; obtain ⟨b42, G⟩ := G
    replace G := bnd G; obtain ⟨t43, ht43, G⟩ := G
    replace G := bnd G; obtain ⟨t44, ht44, G⟩ := G
    replace G := bnd G; obtain ⟨t45, ht45, G⟩ := G
    replace G := gd G; obtain ⟨b46, G⟩ := G
    replace G := bnd G; obtain ⟨t47, ht47, G⟩ := G
    replace G := bnd G; obtain ⟨t48, ht48, G⟩ := G
    replace G := bnd G; obtain ⟨t49, ht49, G⟩ := G
    replace G := gd G; obtain ⟨b50, G⟩ := G
    replace G := bnd G; obtain ⟨t51, ht51, G⟩ := G
    replace G := gd G; obtain ⟨b52, G⟩ := G
    replace G := bnd G; obtain ⟨t53, ht53, G⟩ := G
    replace G := bnd G; obtain ⟨t54, ht54, G⟩ := G
    replace G := bnd G; obtain ⟨t55, ht55, G⟩ := G
    replace G := gd G; obtain ⟨b56, G⟩ := G
    replace G := bnd G; obtain ⟨t57, ht57, G⟩ := G
    replace G := bnd G; obtain ⟨t58, ht58, G⟩ := G
    replace G := gd G; obtain ⟨b59, G⟩ := G
    replace G := bnd G; obtain ⟨t60, ht60, G⟩ := G
    replace G := bnd G; obtain ⟨t61, ht61, G⟩ := G
    replace G := bnd G; obtain ⟨t62, ht62, G⟩ := G
    replace G := gd G; obtain ⟨b63, G⟩ := G
    replace G := bnd G; obtain ⟨t64, ht64, G⟩ := G
    replace G := gd G; obtain ⟨b65, G⟩ := G
    replace G := bnd G; obtain ⟨t66, ht66, G⟩ := G
    replace G := bnd G; obtain ⟨t67, ht67, G⟩ := G
    replace G := bnd G; obtain ⟨t68, ht68, G⟩ := G
    replace G := gd G; obtain ⟨b69, G⟩ := G
    replace G := bnd G; obtain ⟨t70, ht70, G⟩ := G
    replace G := bnd G; obtain ⟨t71, ht71, G⟩ := G
    refine k_reg mixed H (.cons [63] (ok_val (fun ν26 => .slice (some ⟨((ν2 1).n 0), 0, none⟩) ([t3] : List TInterval).length 1) 63) <|
      .cons [64] (ok_val (fun ν26 => .slice (some ⟨((ν4 1).n 0), 0, none⟩) ([t5] : List TInterval).length 1) 64) <|
      .cons [65] (ok_callL [197, 198] (fun ν26 => [owK 40 2 (some ⟨((ν2 1).n 0), 0, none⟩) ([t3] : List TInterval).length 1 (([t3] : List TInterval).flatMap en_TInterval), owK 40 2 (some ⟨((ν4 1).n 0), 0, none⟩) ([t5] : List TInterval).length 1 (([t5] : List TInterval).flatMap en_TInterval)]) 28 (fun ν26 => #[.slice (some ⟨((ν2 1).n 0), 0, none⟩) ([t3] : List TInterval).length 1, .slice (some ⟨((ν4 1).n 0), 0, none⟩) ([t5] : List TInterval).length 1]) (.agg #[.int .i64 t27.Lo, .int .i64 t27.Hi]) 65 (fun ν26 w hF => box_SquaredDistance.calls ([t3] : List TInterval) ([t5] : List TInterval) (some ⟨((ν2 1).n 0), 0, none⟩) 1 (some ⟨((ν4 1).n 0), 0, none⟩) 1 t27 w (owns_row (ow_of hF.1)) (owns_row (ow_of hF.2.1)) ht27)) <|
      .cons [66] (ok_callv 51 (fun ν26 => #[.int .i64 4, .int .i64 25]) (.agg #[.int .i64 t28.Lo, .int .i64 t28.Hi]) 66 [] (fun _ w _ => armillarylaw03_span.calls 4 25 t28 w ht28)) <|
      .cons [67] (ok_val (fun ν26 => .bool ((t27.Lo == t28.Lo) && ((t27.Hi == t28.Hi) && true))) 67 (hv := fun _ _ => run_of (by kernel_rfl) (run_eql_agg (t := 40) (x := (.tmp 65)) (y := (.tmp 66)) (xs := #[.int .i64 t27.Lo, .int .i64 t27.Hi]) (ys := #[.int .i64 t28.Lo, .int .i64 t28.Hi]) (b := ((t27.Lo == t28.Lo) && ((t27.Hi == t28.Hi) && true))) (by kernel_rfl) (by kernel_rfl)))) <|
      .cons [68] (ok_val (fun ν26 => .bool ((t27.Lo == t28.Lo) && ((t27.Hi == t28.Hi) && true))) 68) <|
      .cons [69] (ok_valg (fun ν26 => .slice (some ⟨((ν2 1).n 0), 0, none⟩) ([t3] : List TInterval).length 1) (fun ν26 => (((t27.Lo == t28.Lo) && ((t27.Hi == t28.Hi) && true)) == true)) [true] 69) <|
      .cons [70] (ok_valg (fun ν26 => .slice (some ⟨((ν4 1).n 0), 0, none⟩) ([t5] : List TInterval).length 1) (fun ν26 => (((t27.Lo == t28.Lo) && ((t27.Hi == t28.Hi) && true)) == true)) [true] 70) <|
      .cons [71] (ok_callLg [197, 198] (fun ν26 => [owK 40 2 (some ⟨((ν2 1).n 0), 0, none⟩) ([t3] : List TInterval).length 1 (([t3] : List TInterval).flatMap en_TInterval), owK 40 2 (some ⟨((ν4 1).n 0), 0, none⟩) ([t5] : List TInterval).length 1 (([t5] : List TInterval).flatMap en_TInterval)]) 30 (fun ν26 => #[.slice (some ⟨((ν2 1).n 0), 0, none⟩) ([t3] : List TInterval).length 1, .slice (some ⟨((ν4 1).n 0), 0, none⟩) ([t5] : List TInterval).length 1, .int .i64 65536]) (.bool t29) (fun ν26 => (((t27.Lo == t28.Lo) && ((t27.Hi == t28.Hi) && true)) == true)) [true, false, false, true] 71 (fun ν26 w hg hF => box_Separated.calls ([t3] : List TInterval) ([t5] : List TInterval) 65536 (some ⟨((ν2 1).n 0), 0, none⟩) 1 (some ⟨((ν4 1).n 0), 0, none⟩) 1 t29 w (owns_row (ow_of hF.1)) (owns_row (ow_of hF.2.1)) (ifp ht29 hg))) <|
      .cons [72] (ok_and 68 71 (fun ν26 => true) (fun ν26 => true) (fun ν26 => ((t27.Lo == t28.Lo) && ((t27.Hi == t28.Hi) && true))) (fun ν26 => t29) 72) <|
      .cons [73] (ok_val (fun ν26 => .bool (((t27.Lo == t28.Lo) && ((t27.Hi == t28.Hi) && true)) && t29)) 73) <|
      .cons [74] (ok_valg (fun ν26 => .slice (some ⟨((ν2 1).n 0), 0, none⟩) ([t3] : List TInterval).length 1) (fun ν26 => ((((t27.Lo == t28.Lo) && ((t27.Hi == t28.Hi) && true)) && t29) == true)) [true] 74) <|
      .cons [75] (ok_valg (fun ν26 => .slice (some ⟨((ν4 1).n 0), 0, none⟩) ([t5] : List TInterval).length 1) (fun ν26 => ((((t27.Lo == t28.Lo) && ((t27.Hi == t28.Hi) && true)) && t29) == true)) [true] 75) <|
      .cons [76] (ok_callLg [197, 198] (fun ν26 => [owK 40 2 (some ⟨((ν2 1).n 0), 0, none⟩) ([t3] : List TInterval).length 1 (([t3] : List TInterval).flatMap en_TInterval), owK 40 2 (some ⟨((ν4 1).n 0), 0, none⟩) ([t5] : List TInterval).length 1 (([t5] : List TInterval).flatMap en_TInterval)]) 30 (fun ν26 => #[.slice (some ⟨((ν2 1).n 0), 0, none⟩) ([t3] : List TInterval).length 1, .slice (some ⟨((ν4 1).n 0), 0, none⟩) ([t5] : List TInterval).length 1, .int .i64 131072]) (.bool t30) (fun ν26 => ((((t27.Lo == t28.Lo) && ((t27.Hi == t28.Hi) && true)) && t29) == true)) [true, false, false, true] 76 (fun ν26 w hg hF => box_Separated.calls ([t3] : List TInterval) ([t5] : List TInterval) 131072 (some ⟨((ν2 1).n 0), 0, none⟩) 1 (some ⟨((ν4 1).n 0), 0, none⟩) 1 t30 w (owns_row (ow_of hF.1)) (owns_row (ow_of hF.2.1)) (ifp ht30 hg))) <|
      .cons [77] (ok_valg (fun ν26 => .bool (!t30)) (fun ν26 => ((((t27.Lo == t28.Lo) && ((t27.Hi == t28.Hi) && true)) && t29) == true)) [false] 77) <|
      .cons [78] (ok_and 73 77 (fun ν26 => true) (fun ν26 => true) (fun ν26 => (((t27.Lo == t28.Lo) && ((t27.Hi == t28.Hi) && true)) && t29)) (fun ν26 => (!t30)) 78) <|
      .cons [79] (ok_as (u' := fun ν26 => [(79, .slot true (.bool true))]) (ok_val (fun ν26 => .bool ((((t27.Lo == t28.Lo) && ((t27.Hi == t28.Hi) && true)) && t29) && (!t30))) 79) (fun _ => by rw [b31])) <|
      .cons [80] (ok_gd (ok_val (fun ν26 => .agg #[.int .i64 0, .int .i64 0]) 80) (by intro _; kernel_rfl)) <|
      .cons [81, 211] (ok_gd (ok_blkrow 2 1 (ok_new (fun b => .slice (some ⟨b, 0, none⟩) 1 1) (fun ν26 => [.int .i64 0, .int .i64 0]) 40 81 211) (fun _ => rfl) (by decide)) (by intro _; kernel_rfl)) <|
      .cons [82, 212] (ok_gd (ok_callRL [211] (fun ν26 => [owK 40 2 (some ⟨((ν26 18).n 0), 0, none⟩) ([(⟨0, 0⟩ : TInterval)] : List TInterval).length 1 (([(⟨0, 0⟩ : TInterval)] : List TInterval).flatMap en_TInterval)]) 32 (fun ν26 => #[.slice (some ⟨((ν26 18).n 0), 0, none⟩) ([(⟨0, 0⟩ : TInterval)] : List TInterval).length 1, .int .i64 1]) (fun p cap => .slice p t32.length cap) 40 2 t32.length (t32.flatMap en_TInterval) 82 212 (fun ν26 w hF => box_Inflate.calls k0 ([(⟨0, 0⟩ : TInterval)] : List TInterval) 1 (some ⟨((ν26 18).n 0), 0, none⟩) 1 t32 w (owns_row (ow_of hF.1)) ht32)) (by intro _; kernel_rfl)) <|
      .cons [83] (ok_gd (ok_val (fun ν26 => .agg #[.int .i64 (-1), .int .i64 1]) 83) (by intro _; kernel_rfl)) <|
      .cons [84, 213] (ok_gd (ok_blkrow 2 1 (ok_new (fun b => .slice (some ⟨b, 0, none⟩) 1 1) (fun ν26 => [.int .i64 (-1), .int .i64 1]) 40 84 213) (fun _ => rfl) (by decide)) (by intro _; kernel_rfl)) <|
      .cons [85] (ok_gd (ok_callL [212, 213] (fun ν26 => [owK 40 2 ((ν26 19).o 0) t32.length ((ν26 19).n 0) (t32.flatMap en_TInterval), owK 40 2 (some ⟨((ν26 21).n 0), 0, none⟩) ([(⟨(-1), 1⟩ : TInterval)] : List TInterval).length 1 (([(⟨(-1), 1⟩ : TInterval)] : List TInterval).flatMap en_TInterval)]) 20 (fun ν26 => #[.slice ((ν26 19).o 0) t32.length ((ν26 19).n 0), .slice (some ⟨((ν26 21).n 0), 0, none⟩) ([(⟨(-1), 1⟩ : TInterval)] : List TInterval).length 1]) (.bool t33) 85 (fun ν26 w hF => armillaryref03_Same.calls k0 t32 ([(⟨(-1), 1⟩ : TInterval)] : List TInterval) ((ν26 19).o 0) ((ν26 19).n 0) (some ⟨((ν26 21).n 0), 0, none⟩) 1 t33 w (owns_row (ow_of hF.1)) (owns_row (ow_of hF.2.1)) ht33)) (by intro _; kernel_rfl)) <|
      .cons [86] (ok_pickK (fun ν26 => .bool t33) 86) <|
      .cons [87] (ok_as (u' := fun ν26 => [(87, .slot true (.bool true))]) (ok_val (fun ν26 => .bool t33) 87) (fun _ => by rw [b34])) <|
      .cons [88] (ok_gd (ok_val (fun ν26 => .slice ((ν9 1).o 0) t10.1.length ((ν9 1).n 0)) 88) (by intro _; kernel_rfl)) <|
      .cons [89] (ok_gd (ok_callv 51 (fun ν26 => #[.int .i64 0, .int .i64 4]) (.agg #[.int .i64 t35.Lo, .int .i64 t35.Hi]) 89 [] (fun _ w _ => armillarylaw03_span.calls 0 4 t35 w ht35)) (by intro _; kernel_rfl)) <|
      .cons [90] (ok_gd (ok_callv 51 (fun ν26 => #[.int .i64 1, .int .i64 5]) (.agg #[.int .i64 t36.Lo, .int .i64 t36.Hi]) 90 [] (fun _ w _ => armillarylaw03_span.calls 1 5 t36 w ht36)) (by intro _; kernel_rfl)) <|
      .cons [91, 214] (ok_gd (ok_blkrow 2 2 (ok_new (fun b => .slice (some ⟨b, 0, none⟩) 2 2) (fun ν26 => [.int .i64 t35.Lo, .int .i64 t35.Hi, .int .i64 t36.Lo, .int .i64 t36.Hi]) 40 91 214) (fun _ => rfl) (by decide)) (by intro _; kernel_rfl)) <|
      .cons [92] (ok_gd (ok_callL [200, 214] (fun ν26 => [owK 40 2 ((ν9 1).o 0) t10.1.length ((ν9 1).n 0) (t10.1.flatMap en_TInterval), owK 40 2 (some ⟨((ν26 28).n 0), 0, none⟩) ([t35, t36] : List TInterval).length 2 (([t35, t36] : List TInterval).flatMap en_TInterval)]) 20 (fun ν26 => #[.slice ((ν9 1).o 0) t10.1.length ((ν9 1).n 0), .slice (some ⟨((ν26 28).n 0), 0, none⟩) ([t35, t36] : List TInterval).length 2]) (.bool t37) 92 (fun ν26 w hF => armillaryref03_Same.calls k0 t10.1 ([t35, t36] : List TInterval) ((ν9 1).o 0) ((ν9 1).n 0) (some ⟨((ν26 28).n 0), 0, none⟩) 2 t37 w (owns_row (ow_of hF.1)) (owns_row (ow_of hF.2.1)) ht37)) (by intro _; kernel_rfl)) <|
      .cons [93] (ok_pickK (fun ν26 => .bool t37) 93) <|
      .cons [94] (ok_as (u' := fun ν26 => [(94, .slot true (.bool true))]) (ok_val (fun ν26 => .bool t37) 94) (fun _ => by rw [b38])) <|
      .cons [95] (ok_gd (ok_val (fun ν26 => .slice ((ν9 1).o 1) t10.2.1.length ((ν9 1).n 1)) 95) (by intro _; kernel_rfl)) <|
      .cons [96] (ok_gd (ok_callv 51 (fun ν26 => #[.int .i64 0, .int .i64 4]) (.agg #[.int .i64 t39.Lo, .int .i64 t39.Hi]) 96 [] (fun _ w _ => armillarylaw03_span.calls 0 4 t39 w ht39)) (by intro _; kernel_rfl)) <|
      .cons [97] (ok_gd (ok_callv 51 (fun ν26 => #[.int .i64 5, .int .i64 9]) (.agg #[.int .i64 t40.Lo, .int .i64 t40.Hi]) 97 [] (fun _ w _ => armillarylaw03_span.calls 5 9 t40 w ht40)) (by intro _; kernel_rfl)) <|
      .cons [98, 215] (ok_gd (ok_blkrow 2 2 (ok_new (fun b => .slice (some ⟨b, 0, none⟩) 2 2) (fun ν26 => [.int .i64 t39.Lo, .int .i64 t39.Hi, .int .i64 t40.Lo, .int .i64 t40.Hi]) 40 98 215) (fun _ => rfl) (by decide)) (by intro _; kernel_rfl)) <|
      .cons [99] (ok_gd (ok_callL [201, 215] (fun ν26 => [owK 40 2 ((ν9 1).o 1) t10.2.1.length ((ν9 1).n 1) (t10.2.1.flatMap en_TInterval), owK 40 2 (some ⟨((ν26 35).n 0), 0, none⟩) ([t39, t40] : List TInterval).length 2 (([t39, t40] : List TInterval).flatMap en_TInterval)]) 20 (fun ν26 => #[.slice ((ν9 1).o 1) t10.2.1.length ((ν9 1).n 1), .slice (some ⟨((ν26 35).n 0), 0, none⟩) ([t39, t40] : List TInterval).length 2]) (.bool t41) 99 (fun ν26 w hF => armillaryref03_Same.calls k0 t10.2.1 ([t39, t40] : List TInterval) ((ν9 1).o 1) ((ν9 1).n 1) (some ⟨((ν26 35).n 0), 0, none⟩) 2 t41 w (owns_row (ow_of hF.1)) (owns_row (ow_of hF.2.1)) ht41)) (by intro _; kernel_rfl)) <|
      .cons [100] (ok_pickK (fun ν26 => .bool t41) 100) <|
      .cons [101] (ok_val (fun ν26 => .bool t41) 101) <|
      .cons [102] (ok_valg (fun ν26 => .int .i64 t10.2.2) (fun ν26 => (t41 == true)) [true] 102) <|
      .cons [103] (ok_valg (fun ν26 => .bool (t10.2.2 == 0)) (fun ν26 => (t41 == true)) [false, true] 103) <|
      .cons [104] (ok_and 101 103 (fun ν26 => true) (fun ν26 => true) (fun ν26 => t41) (fun ν26 => (t10.2.2 == 0)) 104) <|
      .cons [105] (ok_val (fun ν26 => .bool (t41 && (t10.2.2 == 0))) 105) <|
      .cons [106] (ok_valg (fun ν26 => .int .i64 t12.2.2) (fun ν26 => ((t41 && (t10.2.2 == 0)) == true)) [true] 106) <|
      .cons [107] (ok_valg (fun ν26 => .bool (t12.2.2 == 1)) (fun ν26 => ((t41 && (t10.2.2 == 0)) == true)) [false, true] 107) <|
      .cons [108] (ok_and 105 107 (fun ν26 => true) (fun ν26 => true) (fun ν26 => (t41 && (t10.2.2 == 0))) (fun ν26 => (t12.2.2 == 1)) 108) <|
      .cons [109] (ok_val (fun ν26 => .bool ((t41 && (t10.2.2 == 0)) && (t12.2.2 == 1))) 109) <|
      .cons [110] (ok_valg (fun ν26 => .int .i64 t15.2.2) (fun ν26 => (((t41 && (t10.2.2 == 0)) && (t12.2.2 == 1)) == true)) [true] 110) <|
      .cons [111] (ok_valg (fun ν26 => .bool (t15.2.2 == 1)) (fun ν26 => (((t41 && (t10.2.2 == 0)) && (t12.2.2 == 1)) == true)) [false, true] 111) <|
      .cons [112] (ok_and 109 111 (fun ν26 => true) (fun ν26 => true) (fun ν26 => ((t41 && (t10.2.2 == 0)) && (t12.2.2 == 1))) (fun ν26 => (t15.2.2 == 1)) 112) <|
      .cons [113] (ok_as (u' := fun ν26 => [(113, .slot true (.bool true))]) (ok_val (fun ν26 => .bool (((t41 && (t10.2.2 == 0)) && (t12.2.2 == 1)) && (t15.2.2 == 1))) 113) (fun _ => by rw [b42])) <|
      .cons [114] (ok_gd (ok_val (fun ν26 => .slice ((ν16 4).o 0) t19.1.length ((ν16 4).n 0)) 114) (by intro _; kernel_rfl)) <|
      .cons [115] (ok_gd (ok_callv 51 (fun ν26 => #[.int .i64 3, .int .i64 4]) (.agg #[.int .i64 t43.Lo, .int .i64 t43.Hi]) 115 [] (fun _ w _ => armillarylaw03_span.calls 3 4 t43 w ht43)) (by intro _; kernel_rfl)) <|
      .cons [116] (ok_gd (ok_callv 51 (fun ν26 => #[.int .i64 1, .int .i64 2]) (.agg #[.int .i64 t44.Lo, .int .i64 t44.Hi]) 116 [] (fun _ w _ => armillarylaw03_span.calls 1 2 t44 w ht44)) (by intro _; kernel_rfl)) <|
      .cons [117, 216] (ok_gd (ok_blkrow 2 2 (ok_new (fun b => .slice (some ⟨b, 0, none⟩) 2 2) (fun ν26 => [.int .i64 t43.Lo, .int .i64 t43.Hi, .int .i64 t44.Lo, .int .i64 t44.Hi]) 40 117 216) (fun _ => rfl) (by decide)) (by intro _; kernel_rfl)) <|
      .cons [118] (ok_gd (ok_callL [208, 216] (fun ν26 => [owK 40 2 ((ν16 4).o 0) t19.1.length ((ν16 4).n 0) (t19.1.flatMap en_TInterval), owK 40 2 (some ⟨((ν26 54).n 0), 0, none⟩) ([t43, t44] : List TInterval).length 2 (([t43, t44] : List TInterval).flatMap en_TInterval)]) 20 (fun ν26 => #[.slice ((ν16 4).o 0) t19.1.length ((ν16 4).n 0), .slice (some ⟨((ν26 54).n 0), 0, none⟩) ([t43, t44] : List TInterval).length 2]) (.bool t45) 118 (fun ν26 w hF => armillaryref03_Same.calls k0 t19.1 ([t43, t44] : List TInterval) ((ν16 4).o 0) ((ν16 4).n 0) (some ⟨((ν26 54).n 0), 0, none⟩) 2 t45 w (owns_row (ow_of hF.1)) (owns_row (ow_of hF.2.1)) ht45)) (by intro _; kernel_rfl)) <|
      .cons [119] (ok_pickK (fun ν26 => .bool t45) 119) <|
      .cons [120] (ok_val (fun ν26 => .bool t45) 120) <|
      .cons [121] (ok_valg (fun ν26 => .bool t19.2) (fun ν26 => (t45 == true)) [true] 121) <|
      .cons [122] (ok_and 120 121 (fun ν26 => true) (fun ν26 => true) (fun ν26 => t45) (fun ν26 => t19.2) 122) <|
      .cons [123] (ok_val (fun ν26 => .bool (t45 && t19.2)) 123) <|
      .cons [124] (ok_valg (fun ν26 => .bool t21.2) (fun ν26 => ((t45 && t19.2) == true)) [true] 124) <|
      .cons [125] (ok_valg (fun ν26 => .bool (!t21.2)) (fun ν26 => ((t45 && t19.2) == true)) [false] 125) <|
      .cons [126] (ok_and 123 125 (fun ν26 => true) (fun ν26 => true) (fun ν26 => (t45 && t19.2)) (fun ν26 => (!t21.2)) 126) <|
      .cons [127] (ok_as (u' := fun ν26 => [(127, .slot true (.bool true))]) (ok_val (fun ν26 => .bool ((t45 && t19.2) && (!t21.2))) 127) (fun _ => by rw [b46])) <|
      .cons [128] (ok_gd (ok_val (fun ν26 => .slice (some ⟨((ν2 1).n 0), 0, none⟩) ([t3] : List TInterval).length 1) 128) (by intro _; kernel_rfl)) <|
      .cons [129] (ok_gd (ok_val (fun ν26 => .slice (some ⟨((ν4 1).n 0), 0, none⟩) ([t5] : List TInterval).length 1) 129) (by intro _; kernel_rfl)) <|
      .cons [130, 217] (ok_gd (ok_callRL [197, 198] (fun ν26 => [owK 40 2 (some ⟨((ν2 1).n 0), 0, none⟩) ([t3] : List TInterval).length 1 (([t3] : List TInterval).flatMap en_TInterval), owK 40 2 (some ⟨((ν4 1).n 0), 0, none⟩) ([t5] : List TInterval).length 1 (([t5] : List TInterval).flatMap en_TInterval)]) 26 (fun ν26 => #[.slice (some ⟨((ν2 1).n 0), 0, none⟩) ([t3] : List TInterval).length 1, .slice (some ⟨((ν4 1).n 0), 0, none⟩) ([t5] : List TInterval).length 1]) (fun p cap => .slice p t47.length cap) 40 2 t47.length (t47.flatMap en_TInterval) 130 217 (fun ν26 w hF => box_Hull.calls ([t3] : List TInterval) ([t5] : List TInterval) (some ⟨((ν2 1).n 0), 0, none⟩) 1 (some ⟨((ν4 1).n 0), 0, none⟩) 1 t47 w (owns_row (ow_of hF.1)) (owns_row (ow_of hF.2.1)) ht47)) (by intro _; kernel_rfl)) <|
      .cons [131] (ok_gd (ok_callv 51 (fun ν26 => #[.int .i64 0, .int .i64 5]) (.agg #[.int .i64 t48.Lo, .int .i64 t48.Hi]) 131 [] (fun _ w _ => armillarylaw03_span.calls 0 5 t48 w ht48)) (by intro _; kernel_rfl)) <|
      .cons [132, 218] (ok_gd (ok_blkrow 2 1 (ok_new (fun b => .slice (some ⟨b, 0, none⟩) 1 1) (fun ν26 => [.int .i64 t48.Lo, .int .i64 t48.Hi]) 40 132 218) (fun _ => rfl) (by decide)) (by intro _; kernel_rfl)) <|
      .cons [133] (ok_gd (ok_callL [217, 218] (fun ν26 => [owK 40 2 ((ν26 67).o 0) t47.length ((ν26 67).n 0) (t47.flatMap en_TInterval), owK 40 2 (some ⟨((ν26 69).n 0), 0, none⟩) ([t48] : List TInterval).length 1 (([t48] : List TInterval).flatMap en_TInterval)]) 20 (fun ν26 => #[.slice ((ν26 67).o 0) t47.length ((ν26 67).n 0), .slice (some ⟨((ν26 69).n 0), 0, none⟩) ([t48] : List TInterval).length 1]) (.bool t49) 133 (fun ν26 w hF => armillaryref03_Same.calls k0 t47 ([t48] : List TInterval) ((ν26 67).o 0) ((ν26 67).n 0) (some ⟨((ν26 69).n 0), 0, none⟩) 1 t49 w (owns_row (ow_of hF.1)) (owns_row (ow_of hF.2.1)) ht49)) (by intro _; kernel_rfl)) <|
      .cons [134] (ok_pickK (fun ν26 => .bool t49) 134) <|
      .cons [135] (ok_val (fun ν26 => .bool t49) 135) <|
      .cons [136] (ok_valg (fun ν26 => .slice ((ν22 1).o 0) t23.length ((ν22 1).n 0)) (fun ν26 => (t49 == true)) [true] 136) <|
      .cons [137] (ok_valL [210] (fun ν26 => [owK 2 1 ((ν22 1).o 0) t23.length ((ν22 1).n 0) (t23.flatMap en_i64)]) (fun ν26 => .pointer (some ⟨hdB ((ν22 1).o 0), hdO ((ν22 1).o 0) + ((0 : Int).toNat) * 1, none⟩)) (fun ν26 => (t49 == true)) [false, true] 137 (fun ν26 w hg hF => run_of (by kernel_rfl) (run_ix (t := 27) (p := ((ν22 1).o 0)) (n := t23.length) (cap := ((ν22 1).n 0)) (k := .i64) (i := (0 : Int)) (sz := 1) (by kernel_rfl) (by kernel_rfl) (owns_row (ow_of hF.1)) (b50 hg)))) <|
      .cons [138] (ok_valL [210] (fun ν26 => [owK 2 1 ((ν22 1).o 0) t23.length ((ν22 1).n 0) (t23.flatMap en_i64)]) (fun ν26 => .int .i64 t51) (fun ν26 => (t49 == true)) [false] 138 (fun ν26 w hg hF => ld_of (vs := [.int .i64 t51]) (b := hdB ((ν22 1).o 0)) (off := hdO ((ν22 1).o 0) + ((0 : Int).toNat) * 1 + 0) (m := 1) (by kernel_rfl) (el_cells (owns_row (ow_of hF.1)) en_i64_len (ifp ht51 hg) 0 1 rfl))) <|
      .cons [139] (ok_valg (fun ν26 => .bool (t51 == 131072)) (fun ν26 => (t49 == true)) [false, true] 139) <|
      .cons [140] (ok_and 135 139 (fun ν26 => true) (fun ν26 => true) (fun ν26 => t49) (fun ν26 => (t51 == 131072)) 140) <|
      .cons [141] (ok_val (fun ν26 => .bool (t49 && (t51 == 131072))) 141) <|
      .cons [142] (ok_valg (fun ν26 => .slice ((ν22 1).o 0) t23.length ((ν22 1).n 0)) (fun ν26 => ((t49 && (t51 == 131072)) == true)) [true] 142) <|
      .cons [143] (ok_valL [210] (fun ν26 => [owK 2 1 ((ν22 1).o 0) t23.length ((ν22 1).n 0) (t23.flatMap en_i64)]) (fun ν26 => .pointer (some ⟨hdB ((ν22 1).o 0), hdO ((ν22 1).o 0) + ((1 : Int).toNat) * 1, none⟩)) (fun ν26 => ((t49 && (t51 == 131072)) == true)) [false, true] 143 (fun ν26 w hg hF => run_of (by kernel_rfl) (run_ix (t := 27) (p := ((ν22 1).o 0)) (n := t23.length) (cap := ((ν22 1).n 0)) (k := .i64) (i := (1 : Int)) (sz := 1) (by kernel_rfl) (by kernel_rfl) (owns_row (ow_of hF.1)) (b52 hg)))) <|
      .cons [144] (ok_valL [210] (fun ν26 => [owK 2 1 ((ν22 1).o 0) t23.length ((ν22 1).n 0) (t23.flatMap en_i64)]) (fun ν26 => .int .i64 t53) (fun ν26 => ((t49 && (t51 == 131072)) == true)) [false] 144 (fun ν26 w hg hF => ld_of (vs := [.int .i64 t53]) (b := hdB ((ν22 1).o 0)) (off := hdO ((ν22 1).o 0) + ((1 : Int).toNat) * 1 + 0) (m := 1) (by kernel_rfl) (el_cells (owns_row (ow_of hF.1)) en_i64_len (ifp ht53 hg) 0 1 rfl))) <|
      .cons [145] (ok_valg (fun ν26 => .bool (t53 == 327680)) (fun ν26 => ((t49 && (t51 == 131072)) == true)) [false, true] 145) <|
      .cons [146] (ok_and 141 145 (fun ν26 => true) (fun ν26 => true) (fun ν26 => (t49 && (t51 == 131072))) (fun ν26 => (t53 == 327680)) 146) <|
      .cons [147] (ok_val (fun ν26 => .bool ((t49 && (t51 == 131072)) && (t53 == 327680))) 147) <|
      .cons [148] (ok_valg (fun ν26 => .slice (some ⟨((ν6 2).n 0), 0, none⟩) ([t7, t8] : List TInterval).length 2) (fun ν26 => (((t49 && (t51 == 131072)) && (t53 == 327680)) == true)) [true] 148) <|
      .cons [149] (ok_callLg [199] (fun ν26 => [owK 40 2 (some ⟨((ν6 2).n 0), 0, none⟩) ([t7, t8] : List TInterval).length 2 (([t7, t8] : List TInterval).flatMap en_TInterval)]) 40 (fun ν26 => #[.slice (some ⟨((ν6 2).n 0), 0, none⟩) ([t7, t8] : List TInterval).length 2]) (.int .i64 t54) (fun ν26 => (((t49 && (t51 == 131072)) && (t53 == 327680)) == true)) [true, false] 149 (fun ν26 w hg hF => box_Width.calls k0 ([t7, t8] : List TInterval) (some ⟨((ν6 2).n 0), 0, none⟩) 2 t54 w (owns_row (ow_of hF.1)) (ifp ht54 hg))) <|
      .cons [150] (ok_valg (fun ν26 => .bool (t54 == 524288)) (fun ν26 => (((t49 && (t51 == 131072)) && (t53 == 327680)) == true)) [false, true] 150) <|
      .cons [151] (ok_and 147 150 (fun ν26 => true) (fun ν26 => true) (fun ν26 => ((t49 && (t51 == 131072)) && (t53 == 327680))) (fun ν26 => (t54 == 524288)) 151) <|
      .cons [152] (ok_val (fun ν26 => .bool (((t49 && (t51 == 131072)) && (t53 == 327680)) && (t54 == 524288))) 152) <|
      .cons [153] (ok_valg (fun ν26 => .slice (some ⟨((ν6 2).n 0), 0, none⟩) ([t7, t8] : List TInterval).length 2) (fun ν26 => ((((t49 && (t51 == 131072)) && (t53 == 327680)) && (t54 == 524288)) == true)) [true] 153) <|
      .cons [154] (ok_callLg [199] (fun ν26 => [owK 40 2 (some ⟨((ν6 2).n 0), 0, none⟩) ([t7, t8] : List TInterval).length 2 (([t7, t8] : List TInterval).flatMap en_TInterval)]) 42 (fun ν26 => #[.slice (some ⟨((ν6 2).n 0), 0, none⟩) ([t7, t8] : List TInterval).length 2]) (.int .i64 t55) (fun ν26 => ((((t49 && (t51 == 131072)) && (t53 == 327680)) && (t54 == 524288)) == true)) [true, false] 154 (fun ν26 w hg hF => box_WidestAxis.calls k0 ([t7, t8] : List TInterval) (some ⟨((ν6 2).n 0), 0, none⟩) 2 t55 w (owns_row (ow_of hF.1)) (ifp ht55 hg))) <|
      .cons [155] (ok_valg (fun ν26 => .bool (t55 == 1)) (fun ν26 => ((((t49 && (t51 == 131072)) && (t53 == 327680)) && (t54 == 524288)) == true)) [false, true] 155) <|
      .cons [156] (ok_and 152 155 (fun ν26 => true) (fun ν26 => true) (fun ν26 => (((t49 && (t51 == 131072)) && (t53 == 327680)) && (t54 == 524288))) (fun ν26 => (t55 == 1)) 156) <|
      .cons [157] (ok_as (u' := fun ν26 => [(157, .slot true (.bool true))]) (ok_val (fun ν26 => .bool ((((t49 && (t51 == 131072)) && (t53 == 327680)) && (t54 == 524288)) && (t55 == 1))) 157) (fun _ => by rw [b56])) <|
      .cons [158] (ok_gd (ok_val (fun ν26 => .slice (some ⟨((ν2 1).n 0), 0, none⟩) ([t3] : List TInterval).length 1) 158) (by intro _; kernel_rfl)) <|
      .cons [159] (ok_gd (ok_callv 52 (fun ν26 => #[]) (.agg #[.int .i64 t57.Lo, .int .i64 t57.Hi]) 159 [] (fun _ w _ => armillarylaw03_entire.calls  t57 w ht57)) (by intro _; kernel_rfl)) <|
      .cons [160, 219] (ok_gd (ok_blkrow 2 1 (ok_new (fun b => .slice (some ⟨b, 0, none⟩) 1 1) (fun ν26 => [.int .i64 t57.Lo, .int .i64 t57.Hi]) 40 160 219) (fun _ => rfl) (by decide)) (by intro _; kernel_rfl)) <|
      .cons [161] (ok_gd (ok_callL [197, 219] (fun ν26 => [owK 40 2 (some ⟨((ν2 1).n 0), 0, none⟩) ([t3] : List TInterval).length 1 (([t3] : List TInterval).flatMap en_TInterval), owK 40 2 (some ⟨((ν26 97).n 0), 0, none⟩) ([t57] : List TInterval).length 1 (([t57] : List TInterval).flatMap en_TInterval)]) 23 (fun ν26 => #[.slice (some ⟨((ν2 1).n 0), 0, none⟩) ([t3] : List TInterval).length 1, .slice (some ⟨((ν26 97).n 0), 0, none⟩) ([t57] : List TInterval).length 1]) (.bool t58) 161 (fun ν26 w hF => box_Subset.calls ([t3] : List TInterval) ([t57] : List TInterval) (some ⟨((ν2 1).n 0), 0, none⟩) 1 (some ⟨((ν26 97).n 0), 0, none⟩) 1 t58 w (owns_row (ow_of hF.1)) (owns_row (ow_of hF.2.1)) ht58)) (by intro _; kernel_rfl)) <|
      .cons [162] (ok_pickK (fun ν26 => .bool t58) 162) <|
      .cons [163] (ok_as (u' := fun ν26 => [(163, .slot true (.bool true))]) (ok_val (fun ν26 => .bool t58) 163) (fun _ => by rw [b59])) <|
      .cons [164] (ok_gd (ok_val (fun ν26 => .slice (some ⟨((ν6 2).n 0), 0, none⟩) ([t7, t8] : List TInterval).length 2) 164) (by intro _; kernel_rfl)) <|
      .cons [165] (ok_gd (ok_callv 51 (fun ν26 => #[.int .i64 0, .int .i64 4]) (.agg #[.int .i64 t60.Lo, .int .i64 t60.Hi]) 165 [] (fun _ w _ => armillarylaw03_span.calls 0 4 t60 w ht60)) (by intro _; kernel_rfl)) <|
      .cons [166] (ok_gd (ok_callv 51 (fun ν26 => #[.int .i64 2, .int .i64 9]) (.agg #[.int .i64 t61.Lo, .int .i64 t61.Hi]) 166 [] (fun _ w _ => armillarylaw03_span.calls 2 9 t61 w ht61)) (by intro _; kernel_rfl)) <|
      .cons [167, 220] (ok_gd (ok_blkrow 2 2 (ok_new (fun b => .slice (some ⟨b, 0, none⟩) 2 2) (fun ν26 => [.int .i64 t60.Lo, .int .i64 t60.Hi, .int .i64 t61.Lo, .int .i64 t61.Hi]) 40 167 220) (fun _ => rfl) (by decide)) (by intro _; kernel_rfl)) <|
      .cons [168] (ok_gd (ok_callL [199, 220] (fun ν26 => [owK 40 2 (some ⟨((ν6 2).n 0), 0, none⟩) ([t7, t8] : List TInterval).length 2 (([t7, t8] : List TInterval).flatMap en_TInterval), owK 40 2 (some ⟨((ν26 104).n 0), 0, none⟩) ([t60, t61] : List TInterval).length 2 (([t60, t61] : List TInterval).flatMap en_TInterval)]) 23 (fun ν26 => #[.slice (some ⟨((ν6 2).n 0), 0, none⟩) ([t7, t8] : List TInterval).length 2, .slice (some ⟨((ν26 104).n 0), 0, none⟩) ([t60, t61] : List TInterval).length 2]) (.bool t62) 168 (fun ν26 w hF => box_Subset.calls ([t7, t8] : List TInterval) ([t60, t61] : List TInterval) (some ⟨((ν6 2).n 0), 0, none⟩) 2 (some ⟨((ν26 104).n 0), 0, none⟩) 2 t62 w (owns_row (ow_of hF.1)) (owns_row (ow_of hF.2.1)) ht62)) (by intro _; kernel_rfl)) <|
      .cons [169] (ok_gd (ok_val (fun ν26 => .bool (!t62)) 169) (by intro _; kernel_rfl)) <|
      .cons [170] (ok_pickK (fun ν26 => .bool (!t62)) 170) <|
      .cons [171] (ok_as (u' := fun ν26 => [(171, .slot true (.bool true))]) (ok_val (fun ν26 => .bool (!t62)) 171) (fun _ => by rw [b63])) <|
      .cons [172] (ok_gd (ok_val (fun ν26 => .slice (some ⟨((ν6 2).n 0), 0, none⟩) ([t7, t8] : List TInterval).length 2) 172) (by intro _; kernel_rfl)) <|
      .cons [173, 221] (ok_gd (ok_blkrow 1 2 (ok_new (fun b => .slice (some ⟨b, 0, none⟩) 2 2) (fun ν26 => [.int .i64 0, .int .i64 65536]) 2 173 221) (fun _ => rfl) (by decide)) (by intro _; kernel_rfl)) <|
      .cons [174] (ok_gd (ok_callL [199, 221] (fun ν26 => [owK 40 2 (some ⟨((ν6 2).n 0), 0, none⟩) ([t7, t8] : List TInterval).length 2 (([t7, t8] : List TInterval).flatMap en_TInterval), owK 2 1 (some ⟨((ν26 110).n 0), 0, none⟩) ([0, 65536] : List Int).length 2 (([0, 65536] : List Int).flatMap en_i64)]) 21 (fun ν26 => #[.slice (some ⟨((ν6 2).n 0), 0, none⟩) ([t7, t8] : List TInterval).length 2, .slice (some ⟨((ν26 110).n 0), 0, none⟩) ([0, 65536] : List Int).length 2]) (.bool t64) 174 (fun ν26 w hF => box_Contains.calls k0 ([t7, t8] : List TInterval) ([0, 65536] : List Int) (some ⟨((ν6 2).n 0), 0, none⟩) 2 (some ⟨((ν26 110).n 0), 0, none⟩) 2 t64 w (owns_row (ow_of hF.1)) (owns_row (ow_of hF.2.1)) ht64)) (by intro _; kernel_rfl)) <|
      .cons [175] (ok_pickK (fun ν26 => .bool t64) 175) <|
      .cons [176] (ok_as (u' := fun ν26 => [(176, .slot true (.bool true))]) (ok_val (fun ν26 => .bool t64) 176) (fun _ => by rw [b65])) <|
      .cons [177] (ok_gd (ok_val (fun ν26 => .slice (some ⟨((ν6 2).n 0), 0, none⟩) ([t7, t8] : List TInterval).length 2) 177) (by intro _; kernel_rfl)) <|
      .cons [178, 222] (ok_gd (ok_blkrow 1 2 (ok_new (fun b => .slice (some ⟨b, 0, none⟩) 2 2) (fun ν26 => [.int .i64 0, .int .i64 0]) 2 178 222) (fun _ => rfl) (by decide)) (by intro _; kernel_rfl)) <|
      .cons [179] (ok_gd (ok_callL [199, 222] (fun ν26 => [owK 40 2 (some ⟨((ν6 2).n 0), 0, none⟩) ([t7, t8] : List TInterval).length 2 (([t7, t8] : List TInterval).flatMap en_TInterval), owK 2 1 (some ⟨((ν26 115).n 0), 0, none⟩) ([0, 0] : List Int).length 2 (([0, 0] : List Int).flatMap en_i64)]) 21 (fun ν26 => #[.slice (some ⟨((ν6 2).n 0), 0, none⟩) ([t7, t8] : List TInterval).length 2, .slice (some ⟨((ν26 115).n 0), 0, none⟩) ([0, 0] : List Int).length 2]) (.bool t66) 179 (fun ν26 w hF => box_Contains.calls k0 ([t7, t8] : List TInterval) ([0, 0] : List Int) (some ⟨((ν6 2).n 0), 0, none⟩) 2 (some ⟨((ν26 115).n 0), 0, none⟩) 2 t66 w (owns_row (ow_of hF.1)) (owns_row (ow_of hF.2.1)) ht66)) (by intro _; kernel_rfl)) <|
      .cons [180] (ok_gd (ok_val (fun ν26 => .bool (!t66)) 180) (by intro _; kernel_rfl)) <|
      .cons [181] (ok_pickK (fun ν26 => .bool (!t66)) 181) <|
      .cons [182] (ok_val (fun ν26 => .bool (!t66)) 182) <|
      .cons [183] (ok_callLg [] (fun ν26 => []) 18 (fun ν26 => #[.slice none ([] : List TInterval).length 0]) (.bool t67) (fun ν26 => ((!t66) == true)) [true, true] 183 (fun ν26 w hg hF => box_Valid.calls k0 ([] : List TInterval) none 0 t67 w (rowAt_nil _ _) (ifp ht67 hg))) <|
      .cons [184] (ok_valg (fun ν26 => .bool (!t67)) (fun ν26 => ((!t66) == true)) [false] 184) <|
      .cons [185] (ok_and 182 184 (fun ν26 => true) (fun ν26 => true) (fun ν26 => (!t66)) (fun ν26 => (!t67)) 185) <|
      .cons [186] (ok_val (fun ν26 => .bool ((!t66) && (!t67))) 186) <|
      .cons [187] (ok_valg (fun ν26 => .slice (some ⟨((ν6 2).n 0), 0, none⟩) ([t7, t8] : List TInterval).length 2) (fun ν26 => (((!t66) && (!t67)) == true)) [true] 187) <|
      .cons [188] (ok_callLg [199] (fun ν26 => [owK 40 2 (some ⟨((ν6 2).n 0), 0, none⟩) ([t7, t8] : List TInterval).length 2 (([t7, t8] : List TInterval).flatMap en_TInterval)]) 18 (fun ν26 => #[.slice (some ⟨((ν6 2).n 0), 0, none⟩) ([t7, t8] : List TInterval).length 2]) (.bool t68) (fun ν26 => (((!t66) && (!t67)) == true)) [true, false] 188 (fun ν26 w hg hF => box_Valid.calls k0 ([t7, t8] : List TInterval) (some ⟨((ν6 2).n 0), 0, none⟩) 2 t68 w (owns_row (ow_of hF.1)) (ifp ht68 hg))) <|
      .cons [189] (ok_and 186 188 (fun ν26 => true) (fun ν26 => true) (fun ν26 => ((!t66) && (!t67))) (fun ν26 => t68) 189) <|
      .cons [190] (ok_as (u' := fun ν26 => [(190, .slot true (.bool true))]) (ok_val (fun ν26 => .bool (((!t66) && (!t67)) && t68)) 190) (fun _ => by rw [b69])) <|
      .cons [191, 223] (ok_gd (ok_blkrow 1 1 (ok_new (fun b => .slice (some ⟨b, 0, none⟩) 1 1) (fun ν26 => [.int .i64 7]) 2 191 223) (fun _ => rfl) (by decide)) (by intro _; kernel_rfl)) <|
      .cons [192, 224] (ok_gd (ok_callRL [223] (fun ν26 => [owK 2 1 (some ⟨((ν26 128).n 0), 0, none⟩) ([7] : List Int).length 1 (([7] : List Int).flatMap en_i64)]) 34 (fun ν26 => #[.slice (some ⟨((ν26 128).n 0), 0, none⟩) ([7] : List Int).length 1]) (fun p cap => .slice p t70.length cap) 40 2 t70.length (t70.flatMap en_TInterval) 192 224 (fun ν26 w hF => box_Point.calls k0 ([7] : List Int) (some ⟨((ν26 128).n 0), 0, none⟩) 1 t70 w (owns_row (ow_of hF.1)) ht70)) (by intro _; kernel_rfl)) <|
      .cons [193] (ok_gd (ok_val (fun ν26 => .agg #[.int .i64 7, .int .i64 7]) 193) (by intro _; kernel_rfl)) <|
      .cons [194, 225] (ok_gd (ok_blkrow 2 1 (ok_new (fun b => .slice (some ⟨b, 0, none⟩) 1 1) (fun ν26 => [.int .i64 7, .int .i64 7]) 40 194 225) (fun _ => rfl) (by decide)) (by intro _; kernel_rfl)) <|
      .cons [195] (ok_gd (ok_callL [224, 225] (fun ν26 => [owK 40 2 ((ν26 129).o 0) t70.length ((ν26 129).n 0) (t70.flatMap en_TInterval), owK 40 2 (some ⟨((ν26 131).n 0), 0, none⟩) ([(⟨7, 7⟩ : TInterval)] : List TInterval).length 1 (([(⟨7, 7⟩ : TInterval)] : List TInterval).flatMap en_TInterval)]) 20 (fun ν26 => #[.slice ((ν26 129).o 0) t70.length ((ν26 129).n 0), .slice (some ⟨((ν26 131).n 0), 0, none⟩) ([(⟨7, 7⟩ : TInterval)] : List TInterval).length 1]) (.bool t71) 195 (fun ν26 w hF => armillaryref03_Same.calls k0 t70 ([(⟨7, 7⟩ : TInterval)] : List TInterval) ((ν26 129).o 0) ((ν26 129).n 0) (some ⟨((ν26 131).n 0), 0, none⟩) 1 t71 w (owns_row (ow_of hF.1)) (owns_row (ow_of hF.2.1)) ht71)) (by intro _; kernel_rfl)) <|
      .cons [196] (ok_pickK (fun ν26 => .bool t71) 196) <|
      .cons [0] (ok_val (fun ν26 => .bool t71) 0) <| .nil) (by kernel_rfl) fun ν26 a w' H => ?_
    replace H := H.toL [(0, .slot true (.bool t71))] (by kernel_rfl)
    refine k_ret ?_
    obtain rfl := Option.some.inj G
    exact k_done0 H _ (by kernel_rfl) (by kernel_rfl)

set_option maxHeartbeats 4000000 in
theorem armillaryref02_IsEntire.calls (a0 : TInterval) (r : Bool) (w : World) (G : armillaryref02_IsEntire a0 = some r) :
    Calls Try.prog 45 #[.agg #[.int .i64 a0.Lo, .int .i64 a0.Hi]] w fun e w' => e = .returned (.bool r) ∧ Below w.heap.size w w' := by
  refine k_enter (args := [.agg #[.int .i64 a0.Lo, .int .i64 a0.Hi]]) 11 Try.func45 rfl (by kernel_rfl) (by kernel_rfl) fun a H => ?_
  unfold armillaryref02_IsEntire at G
  refine k_seq ?_
  refine k_reg mixed H (.cons [1, 11] (ok_new (fun b => .pointer (some ⟨b, 0, none⟩)) (fun ν1 => [.int .i64 a0.Lo, .int .i64 a0.Hi]) 40 1 11) <|
      .cons [2] (ok_val (fun ν1 => .bool false) 2) <| .nil) (by kernel_rfl) fun ν1 a w' H => ?_
  replace H := H.toL [(1, .slot true (.pointer (some ⟨((ν1 0).n 0), 0, none⟩))), (2, .slot true (.bool false)), (11, .blk ((ν1 0).n 0) [.int .i64 a0.Lo, .int .i64 a0.Hi] 40)] (by kernel_rfl)
  refine k_seq ?_
  refine k_reg mixed H (.cons [3] (ok_val (fun ν2 => .pointer (some ⟨((ν1 0).n 0), 0, none⟩)) 3) <|
      .cons [4] (ok_ld (fun ν2 => .int .i64 a0.Lo) 4 11 0 1 (fun ν2 => ((ν1 0).n 0)) (fun ν2 => [.int .i64 a0.Lo, .int .i64 a0.Hi]) 40) <|
      .cons [5] (ok_val (fun ν2 => .bool (a0.Lo == (-2147483648))) 5) <|
      .cons [6] (ok_val (fun ν2 => .bool (a0.Lo == (-2147483648))) 6) <|
      .cons [7] (ok_valg (fun ν2 => .pointer (some ⟨((ν1 0).n 0), 1, none⟩)) (fun ν2 => ((a0.Lo == (-2147483648)) == true)) [true] 7) <|
      .cons [8] (ok_ldg (fun ν2 => .int .i64 a0.Hi) (fun ν2 => ((a0.Lo == (-2147483648)) == true)) [false] 8 11 1 1 (fun ν2 => ((ν1 0).n 0)) (fun ν2 => [.int .i64 a0.Lo, .int .i64 a0.Hi]) 40) <|
      .cons [9] (ok_valg (fun ν2 => .bool (a0.Hi == 2147483648)) (fun ν2 => ((a0.Lo == (-2147483648)) == true)) [false, true] 9) <|
      .cons [10] (ok_and 6 9 (fun ν2 => true) (fun ν2 => true) (fun ν2 => (a0.Lo == (-2147483648))) (fun ν2 => (a0.Hi == 2147483648)) 10) <|
      .cons [2] (ok_val (fun ν2 => .bool ((a0.Lo == (-2147483648)) && (a0.Hi == 2147483648))) 2) <| .nil) (by kernel_rfl) fun ν2 a w' H => ?_
  replace H := H.toL [(2, .slot true (.bool ((a0.Lo == (-2147483648)) && (a0.Hi == 2147483648))))] (by kernel_rfl)
  refine k_ret ?_
  obtain rfl := Option.some.inj G
  exact k_done0 H _ (by kernel_rfl) (by kernel_rfl)

set_option maxHeartbeats 4000000 in
theorem armillaryref02_Number.calls (a0 : Int) (r : Bool) (w : World) (G : armillaryref02_Number a0 = some r) :
    Calls Try.prog 94 #[.int .i64 a0] w fun e w' => e = .returned (.bool r) ∧ Below w.heap.size w w' := by
  refine k_enter (args := [.int .i64 a0]) 9 Try.func94 rfl (by kernel_rfl) (by kernel_rfl) fun a H => ?_
  unfold armillaryref02_Number at G
  refine k_seq ?_
  refine k_reg mixed H (.cons [2] (ok_val (fun ν1 => .bool false) 2) <| .nil) (by kernel_rfl) fun ν1 a w' H => ?_
  replace H := H.toL [(0, .slot true (.int .i64 a0)), (2, .slot true (.bool false))] (by kernel_rfl)
  refine k_seq ?_
  refine k_reg mixed H (.cons [3] (ok_val (fun ν2 => .int .i64 a0) 3) <|
      .cons [4] (ok_val (fun ν2 => .bool (decide (a0 > (-2147483648)))) 4) <|
      .cons [5] (ok_val (fun ν2 => .bool (decide (a0 > (-2147483648)))) 5) <|
      .cons [6] (ok_valg (fun ν2 => .int .i64 a0) (fun ν2 => ((decide (a0 > (-2147483648))) == true)) [true] 6) <|
      .cons [7] (ok_valg (fun ν2 => .bool (decide (a0 < 2147483648))) (fun ν2 => ((decide (a0 > (-2147483648))) == true)) [false, true] 7) <|
      .cons [8] (ok_and 5 7 (fun ν2 => true) (fun ν2 => true) (fun ν2 => decide (a0 > (-2147483648))) (fun ν2 => decide (a0 < 2147483648)) 8) <|
      .cons [2] (ok_val (fun ν2 => .bool ((decide (a0 > (-2147483648))) && (decide (a0 < 2147483648)))) 2) <| .nil) (by kernel_rfl) fun ν2 a w' H => ?_
  replace H := H.toL [(2, .slot true (.bool ((decide (a0 > (-2147483648))) && (decide (a0 < 2147483648)))))] (by kernel_rfl)
  refine k_ret ?_
  obtain rfl := Option.some.inj G
  exact k_done0 H _ (by kernel_rfl) (by kernel_rfl)

set_option maxHeartbeats 4000000 in
theorem armillaryref02_Valid.calls (a0 : TInterval) (r : Bool) (w : World) (G : armillaryref02_Valid a0 = some r) :
    Calls Try.prog 58 #[.agg #[.int .i64 a0.Lo, .int .i64 a0.Hi]] w fun e w' => e = .returned (.bool r) ∧ Below w.heap.size w w' := by
  refine k_enter (args := [.agg #[.int .i64 a0.Lo, .int .i64 a0.Hi]]) 22 Try.func58 rfl (by kernel_rfl) (by kernel_rfl) fun a H => ?_
  unfold armillaryref02_Valid at G
  refine k_seq ?_
  refine k_reg mixed H (.cons [1, 22] (ok_new (fun b => .pointer (some ⟨b, 0, none⟩)) (fun ν1 => [.int .i64 a0.Lo, .int .i64 a0.Hi]) 40 1 22) <|
      .cons [2] (ok_val (fun ν1 => .bool false) 2) <| .nil) (by kernel_rfl) fun ν1 a w' H => ?_
  replace H := H.toL [(1, .slot true (.pointer (some ⟨((ν1 0).n 0), 0, none⟩))), (2, .slot true (.bool false)), (22, .blk ((ν1 0).n 0) [.int .i64 a0.Lo, .int .i64 a0.Hi] 40)] (by kernel_rfl)
  refine k_seq ?_
  replace G := bnd G; obtain ⟨t3, ht3, G⟩ := G
  replace G := bnd G; obtain ⟨t4, ht4, G⟩ := G
  replace G := bnd G; obtain ⟨t5, ht5, G⟩ := G
  refine k_reg mixed H (.cons [3] (ok_ld (fun ν2 => .agg #[.int .i64 a0.Lo, .int .i64 a0.Hi]) 3 22 0 2 (fun ν2 => ((ν1 0).n 0)) (fun ν2 => [.int .i64 a0.Lo, .int .i64 a0.Hi]) 40) <|
      .cons [4] (ok_callv 45 (fun ν2 => #[.agg #[.int .i64 a0.Lo, .int .i64 a0.Hi]]) (.bool t3) 4 [] (fun _ w _ => armillaryref02_IsEntire.calls a0 t3 w ht3)) <|
      .cons [5] (ok_val (fun ν2 => .bool t3) 5) <|
      .cons [6] (ok_valg (fun ν2 => .pointer (some ⟨((ν1 0).n 0), 0, none⟩)) (fun ν2 => (t3 == false)) [true] 6) <|
      .cons [7] (ok_ldg (fun ν2 => .int .i64 a0.Lo) (fun ν2 => (t3 == false)) [false] 7 22 0 1 (fun ν2 => ((ν1 0).n 0)) (fun ν2 => [.int .i64 a0.Lo, .int .i64 a0.Hi]) 40) <|
      .cons [8] (ok_call 94 (fun ν2 => #[.int .i64 a0.Lo]) (.bool t4) (fun ν2 => (t3 == false)) [true, false] 8 [] (fun _ w hg _ => armillaryref02_Number.calls a0.Lo t4 w (ifp ht4 hg))) <|
      .cons [9] (ok_valg (fun ν2 => .bool t4) (fun ν2 => (t3 == false)) [false] 9) <|
      .cons [10] (ok_valg (fun ν2 => .pointer (some ⟨((ν1 0).n 0), 1, none⟩)) (fun ν2 => ((t3 == false) && (t4 == true))) [true] 10) <|
      .cons [11] (ok_ldg (fun ν2 => .int .i64 a0.Hi) (fun ν2 => ((t3 == false) && (t4 == true))) [false] 11 22 1 1 (fun ν2 => ((ν1 0).n 0)) (fun ν2 => [.int .i64 a0.Lo, .int .i64 a0.Hi]) 40) <|
      .cons [12] (ok_call 94 (fun ν2 => #[.int .i64 a0.Hi]) (.bool t5) (fun ν2 => ((t3 == false) && (t4 == true))) [true, false] 12 [] (fun _ w hg _ => armillaryref02_Number.calls a0.Hi t5 w (ifp ht5 hg))) <|
      .cons [13] (ok_and 9 12 (fun ν2 => (t3 == false)) (fun ν2 => (t3 == false)) (fun ν2 => t4) (fun ν2 => t5) 13) <|
      .cons [14] (ok_valg (fun ν2 => .bool (t4 && t5)) (fun ν2 => (t3 == false)) [false] 14) <|
      .cons [15] (ok_valg (fun ν2 => .pointer (some ⟨((ν1 0).n 0), 0, none⟩)) (fun ν2 => ((t3 == false) && ((t4 && t5) == true))) [true] 15) <|
      .cons [16] (ok_ldg (fun ν2 => .int .i64 a0.Lo) (fun ν2 => ((t3 == false) && ((t4 && t5) == true))) [false] 16 22 0 1 (fun ν2 => ((ν1 0).n 0)) (fun ν2 => [.int .i64 a0.Lo, .int .i64 a0.Hi]) 40) <|
      .cons [17] (ok_valg (fun ν2 => .pointer (some ⟨((ν1 0).n 0), 1, none⟩)) (fun ν2 => ((t3 == false) && ((t4 && t5) == true))) [true] 17) <|
      .cons [18] (ok_ldg (fun ν2 => .int .i64 a0.Hi) (fun ν2 => ((t3 == false) && ((t4 && t5) == true))) [false] 18 22 1 1 (fun ν2 => ((ν1 0).n 0)) (fun ν2 => [.int .i64 a0.Lo, .int .i64 a0.Hi]) 40) <|
      .cons [19] (ok_valg (fun ν2 => .bool (decide (a0.Lo ≤ a0.Hi))) (fun ν2 => ((t3 == false) && ((t4 && t5) == true))) [false, false] 19) <|
      .cons [20] (ok_and 14 19 (fun ν2 => (t3 == false)) (fun ν2 => (t3 == false)) (fun ν2 => (t4 && t5)) (fun ν2 => decide (a0.Lo ≤ a0.Hi)) 20) <|
      .cons [21] (ok_or 5 20 (fun ν2 => true) (fun ν2 => true) (fun ν2 => t3) (fun ν2 => ((t4 && t5) && (decide (a0.Lo ≤ a0.Hi)))) 21) <|
      .cons [2] (ok_val (fun ν2 => .bool (t3 || ((t4 && t5) && (decide (a0.Lo ≤ a0.Hi))))) 2) <| .nil) (by kernel_rfl) fun ν2 a w' H => ?_
  replace H := H.toL [(2, .slot true (.bool (t3 || ((t4 && t5) && (decide (a0.Lo ≤ a0.Hi))))))] (by kernel_rfl)
  refine k_ret ?_
  obtain rfl := Option.some.inj G
  exact k_done0 H _ (by kernel_rfl) (by kernel_rfl)

set_option maxHeartbeats 4000000 in
theorem armillaryref02_Entire.calls (r : TInterval) (w : World) (G : armillaryref02_Entire = some r) :
    Calls Try.prog 97 #[] w fun e w' => e = .returned (.agg #[.int .i64 r.Lo, .int .i64 r.Hi]) ∧ Below w.heap.size w w' := by
  refine k_enter (args := []) 2 Try.func97 rfl (by kernel_rfl) (by kernel_rfl) fun a H => ?_
  unfold armillaryref02_Entire at G
  refine k_seq ?_
  refine k_reg mixed H (.cons [0, 2] (ok_new (fun b => .pointer (some ⟨b, 0, none⟩)) (fun ν1 => [.int .i64 0, .int .i64 0]) 40 0 2) <| .nil) (by kernel_rfl) fun ν1 a w' H => ?_
  replace H := H.toL [(0, .slot true (.pointer (some ⟨((ν1 0).n 0), 0, none⟩))), (2, .blk ((ν1 0).n 0) [.int .i64 0, .int .i64 0] 40)] (by kernel_rfl)
  refine k_seq ?_
  refine k_reg mixed H (.cons [1] (ok_val (fun ν2 => .agg #[.int .i64 (-2147483648), .int .i64 2147483648]) 1) <|
      .cons [2] (ok_as (u' := fun ν2 => [(2, .blk ((ν1 0).n 0) [.int .i64 (-2147483648), .int .i64 2147483648] 40)]) (ok_store 2 0 (fun ν2 => ((ν1 0).n 0)) (fun ν2 => [.int .i64 0, .int .i64 0]) (fun ν2 => [.int .i64 (-2147483648), .int .i64 2147483648]) 40) (fun _ => by kernel_rfl)) <| .nil) (by kernel_rfl) fun ν2 a w' H => ?_
  replace H := H.toL [(0, .slot true (.pointer (some ⟨((ν1 0).n 0), 0, none⟩))), (2, .blk ((ν1 0).n 0) [.int .i64 (-2147483648), .int .i64 2147483648] 40)] (by kernel_rfl)
  refine k_ret ?_
  obtain rfl := Option.some.inj G
  exact k_done1 H _ 2 ((ν1 0).n 0) [.int .i64 (-2147483648), .int .i64 2147483648] 40 0 2 (by kernel_rfl) (by kernel_rfl) (by kernel_rfl) (by kernel_rfl)

set_option maxHeartbeats 4000000 in
theorem armillaryref02_Small.calls (a0 : TInterval) (r : TInterval) (w : World) (G : armillaryref02_Small a0 = some r) :
    Calls Try.prog 102 #[.agg #[.int .i64 a0.Lo, .int .i64 a0.Hi]] w fun e w' => e = .returned (.agg #[.int .i64 r.Lo, .int .i64 r.Hi]) ∧ Below w.heap.size w w' := by
  refine k_enter (args := [.agg #[.int .i64 a0.Lo, .int .i64 a0.Hi]]) 18 Try.func102 rfl (by kernel_rfl) (by kernel_rfl) fun a H => ?_
  unfold armillaryref02_Small at G
  refine k_seq ?_
  refine k_reg mixed H (.cons [1, 18] (ok_new (fun b => .pointer (some ⟨b, 0, none⟩)) (fun ν1 => [.int .i64 a0.Lo, .int .i64 a0.Hi]) 40 1 18) <|
      .cons [2, 19] (ok_new (fun b => .pointer (some ⟨b, 0, none⟩)) (fun ν1 => [.int .i64 0, .int .i64 0]) 40 2 19) <| .nil) (by kernel_rfl) fun ν1 a w' H => ?_
  replace H := H.toL [(1, .slot true (.pointer (some ⟨((ν1 0).n 0), 0, none⟩))), (2, .slot true (.pointer (some ⟨((ν1 1).n 0), 0, none⟩))), (18, .blk ((ν1 0).n 0) [.int .i64 a0.Lo, .int .i64 a0.Hi] 40), (19, .blk ((ν1 1).n 0) [.int .i64 0, .int .i64 0] 40)] (by kernel_rfl)
  refine k_seq ?_
  refine k_reg mixed H (.cons [5] (ok_val (fun ν2 => .pointer (some ⟨((ν1 0).n 0), 0, none⟩)) 5) <|
      .cons [6] (ok_ld (fun ν2 => .int .i64 a0.Lo) 6 18 0 1 (fun ν2 => ((ν1 0).n 0)) (fun ν2 => [.int .i64 a0.Lo, .int .i64 a0.Hi]) 40) <|
      .cons [7] (ok_val (fun ν2 => .int .i64 (Int.tmod a0.Lo 16777216)) 7) <|
      .cons [8] (ok_val (fun ν2 => .pointer (some ⟨((ν1 0).n 0), 1, none⟩)) 8) <|
      .cons [9] (ok_ld (fun ν2 => .int .i64 a0.Hi) 9 18 1 1 (fun ν2 => ((ν1 0).n 0)) (fun ν2 => [.int .i64 a0.Lo, .int .i64 a0.Hi]) 40) <|
      .cons [10] (ok_val (fun ν2 => .int .i64 (Int.tmod a0.Hi 16777216)) 10) <|
      .cons [3] (ok_val (fun ν2 => .int .i64 (Int.tmod a0.Lo 16777216)) 3) <|
      .cons [4] (ok_val (fun ν2 => .int .i64 (Int.tmod a0.Hi 16777216)) 4) <| .nil) (by kernel_rfl) fun ν2 a w' H => ?_
  replace H := H.toL [(2, .slot true (.pointer (some ⟨((ν1 1).n 0), 0, none⟩))), (3, .slot true (.int .i64 (Int.tmod a0.Lo 16777216))), (4, .slot true (.int .i64 (Int.tmod a0.Hi 16777216))), (19, .blk ((ν1 1).n 0) [.int .i64 0, .int .i64 0] 40)] (by kernel_rfl)
  refine k_seq ?_
  refine k_reg mixed H (.cons [11] (ok_val (fun ν3 => .int .i64 (Int.tmod a0.Lo 16777216)) 11) <|
      .cons [12] (ok_val (fun ν3 => .int .i64 (Int.tmod a0.Hi 16777216)) 12) <|
      .cons [13] (ok_val (fun ν3 => .int .i64 (mn (Int.tmod a0.Lo 16777216) (Int.tmod a0.Hi 16777216))) 13) <|
      .cons [14] (ok_val (fun ν3 => .int .i64 (Int.tmod a0.Lo 16777216)) 14) <|
      .cons [15] (ok_val (fun ν3 => .int .i64 (Int.tmod a0.Hi 16777216)) 15) <|
      .cons [16] (ok_val (fun ν3 => .int .i64 (mx (Int.tmod a0.Lo 16777216) (Int.tmod a0.Hi 16777216))) 16) <|
      .cons [17] (ok_val (fun ν3 => .agg #[.int .i64 (mn (Int.tmod a0.Lo 16777216) (Int.tmod a0.Hi 16777216)), .int .i64 (mx (Int.tmod a0.Lo 16777216) (Int.tmod a0.Hi 16777216))]) 17) <|
      .cons [19] (ok_as (u' := fun ν3 => [(19, .blk ((ν1 1).n 0) [.int .i64 (mn (Int.tmod a0.Lo 16777216) (Int.tmod a0.Hi 16777216)), .int .i64 (mx (Int.tmod a0.Lo 16777216) (Int.tmod a0.Hi 16777216))] 40)]) (ok_store 19 0 (fun ν3 => ((ν1 1).n 0)) (fun ν3 => [.int .i64 0, .int .i64 0]) (fun ν3 => [.int .i64 (mn (Int.tmod a0.Lo 16777216) (Int.tmod a0.Hi 16777216)), .int .i64 (mx (Int.tmod a0.Lo 16777216) (Int.tmod a0.Hi 16777216))]) 40) (fun _ => by kernel_rfl)) <| .nil) (by kernel_rfl) fun ν3 a w' H => ?_
  replace H := H.toL [(2, .slot true (.pointer (some ⟨((ν1 1).n 0), 0, none⟩))), (19, .blk ((ν1 1).n 0) [.int .i64 (mn (Int.tmod a0.Lo 16777216) (Int.tmod a0.Hi 16777216)), .int .i64 (mx (Int.tmod a0.Lo 16777216) (Int.tmod a0.Hi 16777216))] 40)] (by kernel_rfl)
  refine k_ret ?_
  obtain rfl := Option.some.inj G
  exact k_done1 H _ 19 ((ν1 1).n 0) [.int .i64 (mn (Int.tmod a0.Lo 16777216) (Int.tmod a0.Hi 16777216)), .int .i64 (mx (Int.tmod a0.Lo 16777216) (Int.tmod a0.Hi 16777216))] 40 0 2 (by kernel_rfl) (by kernel_rfl) (by kernel_rfl) (by kernel_rfl)

set_option maxHeartbeats 4000000 in
theorem armillaryref02_Made.calls (a0 : TInterval) (r : TInterval) (w : World) (G : armillaryref02_Made a0 = some r) :
    Calls Try.prog 86 #[.agg #[.int .i64 a0.Lo, .int .i64 a0.Hi]] w fun e w' => e = .returned (.agg #[.int .i64 r.Lo, .int .i64 r.Hi]) ∧ Below w.heap.size w w' := by
  refine k_enter (args := [.agg #[.int .i64 a0.Lo, .int .i64 a0.Hi]]) 13 Try.func86 rfl (by kernel_rfl) (by kernel_rfl) fun a H => ?_
  unfold armillaryref02_Made at G
  refine k_seq ?_
  refine k_reg mixed H (.cons [1, 13] (ok_new (fun b => .pointer (some ⟨b, 0, none⟩)) (fun ν1 => [.int .i64 a0.Lo, .int .i64 a0.Hi]) 40 1 13) <|
      .cons [2, 14] (ok_new (fun b => .pointer (some ⟨b, 0, none⟩)) (fun ν1 => [.int .i64 0, .int .i64 0]) 40 2 14) <| .nil) (by kernel_rfl) fun ν1 a w' H => ?_
  replace H := H.toL [(1, .slot true (.pointer (some ⟨((ν1 0).n 0), 0, none⟩))), (2, .slot true (.pointer (some ⟨((ν1 1).n 0), 0, none⟩))), (13, .blk ((ν1 0).n 0) [.int .i64 a0.Lo, .int .i64 a0.Hi] 40), (14, .blk ((ν1 1).n 0) [.int .i64 0, .int .i64 0] 40)] (by kernel_rfl)
  refine k_seq ?_
  refine k_seq ?_
  replace G := bnd G; obtain ⟨t3, ht3, G⟩ := G
  refine k_reg mixed H (.cons [3] (ok_ld (fun ν2 => .agg #[.int .i64 a0.Lo, .int .i64 a0.Hi]) 3 13 0 2 (fun ν2 => ((ν1 0).n 0)) (fun ν2 => [.int .i64 a0.Lo, .int .i64 a0.Hi]) 40) <|
      .cons [4] (ok_callv 58 (fun ν2 => #[.agg #[.int .i64 a0.Lo, .int .i64 a0.Hi]]) (.bool t3) 4 [] (fun _ w _ => armillaryref02_Valid.calls a0 t3 w ht3)) <| .nil) (by kernel_rfl) fun ν2 a w' H => ?_
  replace H := H.toL [(1, .slot true (.pointer (some ⟨((ν1 0).n 0), 0, none⟩))), (2, .slot true (.pointer (some ⟨((ν1 1).n 0), 0, none⟩))), (4, .slot true (.bool t3)), (13, .blk ((ν1 0).n 0) [.int .i64 a0.Lo, .int .i64 a0.Hi] 40), (14, .blk ((ν1 1).n 0) [.int .i64 0, .int .i64 0] 40)] (by kernel_rfl)
  refine k_cond H (by kernel_rfl) (t := t3) (by kernel_rfl) (fun c11 => ?_) (fun c11 => ?_)
  · rw [if_pos c11] at G
    refine k_seq ?_
    refine k_reg mixed H (.cons [5] (ok_ld (fun ν4 => .agg #[.int .i64 a0.Lo, .int .i64 a0.Hi]) 5 13 0 2 (fun ν4 => ((ν1 0).n 0)) (fun ν4 => [.int .i64 a0.Lo, .int .i64 a0.Hi]) 40) <|
      .cons [14] (ok_as (u' := fun ν4 => [(14, .blk ((ν1 1).n 0) [.int .i64 a0.Lo, .int .i64 a0.Hi] 40)]) (ok_store 14 0 (fun ν4 => ((ν1 1).n 0)) (fun ν4 => [.int .i64 0, .int .i64 0]) (fun ν4 => [.int .i64 a0.Lo, .int .i64 a0.Hi]) 40) (fun _ => by kernel_rfl)) <| .nil) (by kernel_rfl) fun ν4 a w' H => ?_
    replace H := H.toL [(1, .slot true (.pointer (some ⟨((ν1 0).n 0), 0, none⟩))), (2, .slot true (.pointer (some ⟨((ν1 1).n 0), 0, none⟩))), (13, .blk ((ν1 0).n 0) [.int .i64 a0.Lo, .int .i64 a0.Hi] 40), (14, .blk ((ν1 1).n 0) [.int .i64 a0.Lo, .int .i64 a0.Hi] 40)] (by kernel_rfl)
    refine k_ret ?_
    obtain rfl := Option.some.inj G
    exact k_done1 H _ 14 ((ν1 1).n 0) [.int .i64 a0.Lo, .int .i64 a0.Hi] 40 0 2 (by kernel_rfl) (by kernel_rfl) (by kernel_rfl) (by kernel_rfl)
  · rw [if_neg (nt c11)] at G
    refine k_skip ?_
    refine k_seq ?_
    refine k_seq ?_
    refine k_reg mixed H (.cons [6] (ok_val (fun ν5 => .pointer (some ⟨((ν1 0).n 0), 0, none⟩)) 6) <|
      .cons [7] (ok_ld (fun ν5 => .int .i64 a0.Lo) 7 13 0 1 (fun ν5 => ((ν1 0).n 0)) (fun ν5 => [.int .i64 a0.Lo, .int .i64 a0.Hi]) 40) <|
      .cons [8] (ok_val (fun ν5 => .int .i64 (b_and .i64 a0.Lo 31)) 8) <|
      .cons [9] (ok_val (fun ν5 => .bool ((b_and .i64 a0.Lo 31) == 7)) 9) <| .nil) (by kernel_rfl) fun ν5 a w' H => ?_
    replace H := H.toL [(1, .slot true (.pointer (some ⟨((ν1 0).n 0), 0, none⟩))), (2, .slot true (.pointer (some ⟨((ν1 1).n 0), 0, none⟩))), (9, .slot true (.bool ((b_and .i64 a0.Lo 31) == 7))), (13, .blk ((ν1 0).n 0) [.int .i64 a0.Lo, .int .i64 a0.Hi] 40), (14, .blk ((ν1 1).n 0) [.int .i64 0, .int .i64 0] 40)] (by kernel_rfl)
    refine k_cond H (by kernel_rfl) (t := ((b_and .i64 a0.Lo 31) == 7)) (by kernel_rfl) (fun c10 => ?_) (fun c10 => ?_)
    · rw [if_pos c10] at G
      refine k_seq ?_
      replace G := bnd G; obtain ⟨t7, ht7, G⟩ := G
      refine k_reg mixed H (.cons [10] (ok_callv 97 (fun ν6 => #[]) (.agg #[.int .i64 t7.Lo, .int .i64 t7.Hi]) 10 [] (fun _ w _ => armillaryref02_Entire.calls  t7 w ht7)) <|
      .cons [14] (ok_as (u' := fun ν6 => [(14, .blk ((ν1 1).n 0) [.int .i64 t7.Lo, .int .i64 t7.Hi] 40)]) (ok_store 14 0 (fun ν6 => ((ν1 1).n 0)) (fun ν6 => [.int .i64 0, .int .i64 0]) (fun ν6 => [.int .i64 t7.Lo, .int .i64 t7.Hi]) 40) (fun _ => by kernel_rfl)) <| .nil) (by kernel_rfl) fun ν6 a w' H => ?_
      replace H := H.toL [(1, .slot true (.pointer (some ⟨((ν1 0).n 0), 0, none⟩))), (2, .slot true (.pointer (some ⟨((ν1 1).n 0), 0, none⟩))), (13, .blk ((ν1 0).n 0) [.int .i64 a0.Lo, .int .i64 a0.Hi] 40), (14, .blk ((ν1 1).n 0) [.int .i64 t7.Lo, .int .i64 t7.Hi] 40)] (by kernel_rfl)
      refine k_ret ?_
      obtain rfl := Option.some.inj G
      exact k_done1 H _ 14 ((ν1 1).n 0) [.int .i64 t7.Lo, .int .i64 t7.Hi] 40 0 2 (by kernel_rfl) (by kernel_rfl) (by kernel_rfl) (by kernel_rfl)
    · rw [if_neg (nt c10)] at G
      refine k_skip ?_
      refine k_seq ?_
      replace G := bnd G; obtain ⟨t9, ht9, G⟩ := G
      refine k_reg mixed H (.cons [11] (ok_ld (fun ν8 => .agg #[.int .i64 a0.Lo, .int .i64 a0.Hi]) 11 13 0 2 (fun ν8 => ((ν1 0).n 0)) (fun ν8 => [.int .i64 a0.Lo, .int .i64 a0.Hi]) 40) <|
      .cons [12] (ok_callv 102 (fun ν8 => #[.agg #[.int .i64 a0.Lo, .int .i64 a0.Hi]]) (.agg #[.int .i64 t9.Lo, .int .i64 t9.Hi]) 12 [] (fun _ w _ => armillaryref02_Small.calls a0 t9 w ht9)) <|
      .cons [14] (ok_as (u' := fun ν8 => [(14, .blk ((ν1 1).n 0) [.int .i64 t9.Lo, .int .i64 t9.Hi] 40)]) (ok_store 14 0 (fun ν8 => ((ν1 1).n 0)) (fun ν8 => [.int .i64 0, .int .i64 0]) (fun ν8 => [.int .i64 t9.Lo, .int .i64 t9.Hi]) 40) (fun _ => by kernel_rfl)) <| .nil) (by kernel_rfl) fun ν8 a w' H => ?_
      replace H := H.toL [(2, .slot true (.pointer (some ⟨((ν1 1).n 0), 0, none⟩))), (14, .blk ((ν1 1).n 0) [.int .i64 t9.Lo, .int .i64 t9.Hi] 40)] (by kernel_rfl)
      refine k_ret ?_
      obtain rfl := Option.some.inj G
      exact k_done1 H _ 14 ((ν1 1).n 0) [.int .i64 t9.Lo, .int .i64 t9.Hi] 40 0 2 (by kernel_rfl) (by kernel_rfl) (by kernel_rfl) (by kernel_rfl)

set_option maxHeartbeats 4000000 in
theorem armillaryref03_Made.calls (k0 : Nat) (a0 : List TInterval) (a1 : Int) (p_a0 : Option Addr) (c_a0 : Nat) (r : List TInterval) (w : World) (R_p_a0 : RowAt w 2 p_a0 a0.length (a0.flatMap en_TInterval)) (G : armillaryref03_Made k0 a0 a1 = some r) :
    Calls Try.prog 44 #[.slice p_a0 a0.length c_a0, .int .i64 a1] w fun e w' => ∃ p cap, e = .returned (.slice p r.length cap) ∧ Below w.heap.size w w' ∧ w'.ownsRow w.heap.size 40 2 (.slice p r.length cap) r.length (r.flatMap en_TInterval) := by
  refine k_enterF (args := [.slice p_a0 a0.length c_a0, .int .i64 a1]) 29 [(29, rdK 2 p_a0 a0.length (a0.flatMap en_TInterval))] (by
    intro x hx
    simp only [List.mem_cons, List.not_mem_nil, or_false] at hx
    rcases hx with rfl
    exact rd_fact R_p_a0 (by decide) _) Try.func44 rfl (by kernel_rfl) (by kernel_rfl) fun a H => ?_
  unfold armillaryref03_Made at G
  refine k_seq ?_
  refine k_reg mixed H (.cons [4] (ok_val (fun ν1 => .slice none 0 0) 4) <| .nil) (by kernel_rfl) fun ν1 a w' H => ?_
  replace H := H.toL [(0, .slot true (.slice p_a0 a0.length c_a0)), (1, .slot true (.int .i64 a1)), (4, .slot true (.slice none 0 0)), (29, rdK 2 p_a0 a0.length (a0.flatMap en_TInterval))] (by kernel_rfl)
  refine k_seq ?_
  refine k_reg mixed H (.cons [8, 30] (ok_new (fun b => .slice (some ⟨b, 0, none⟩) 0 0) (fun ν2 => []) 40 8 30) <|
      .cons [5] (ok_val (fun ν2 => .slice (some ⟨((ν2 0).n 0), 0, none⟩) 0 0) 5) <| .nil) (by kernel_rfl) fun ν2 a w' H => ?_
  replace H := H.toL [(0, .slot true (.slice p_a0 a0.length c_a0)), (1, .slot true (.int .i64 a1)), (4, .slot true (.slice none 0 0)), (5, .slot true (.slice (some ⟨((ν2 0).n 0), 0, none⟩) 0 0)), (30, .blk ((ν2 0).n 0) [] 40), (29, rdK 2 p_a0 a0.length (a0.flatMap en_TInterval))] (by kernel_rfl)
  refine k_seq ?_
  replace G := bnd G; obtain ⟨j4, hj4, G⟩ := G
  refine k_join (fun a w' => ∃ (p_j3 : Option Addr) (c_j3 np_j3 : Nat), np_j3 = j4.length ∧ Rep w.heap.size w 29 (ofL [(4, .slot true (.slice none 0 0)), (5, .slot true (.slice p_j3 np_j3 c_j3)), (30, owK 40 2 p_j3 np_j3 c_j3 (j4.flatMap en_TInterval))]) a w') ?_ ?_
  · clear H; rintro a w' ⟨p_j3, c_j3, _, rfl, H⟩
    refine k_seq ?_
    refine k_reg mixed H (.cons [28] (ok_val (fun ν5 => .slice p_j3 j4.length c_j3) 28) <|
      .cons [4] (ok_val (fun ν5 => .slice p_j3 j4.length c_j3) 4) <| .nil) (by kernel_rfl) fun ν5 a w' H => ?_
    replace H := H.toL [(4, .slot true (.slice p_j3 j4.length c_j3)), (30, owK 40 2 p_j3 j4.length c_j3 (j4.flatMap en_TInterval))] (by kernel_rfl)
    refine k_ret ?_
    obtain rfl := Option.some.inj G
    exact k_doneR H (fun p cap => .slice p j4.length cap) p_j3 c_j3 [] 30 40 2 j4.length (j4.flatMap en_TInterval) (by kernel_rfl) (by kernel_rfl) (by simp) (by kernel_rfl)
  · clear G; replace G := hj4; clear hj4
    refine k_seq ?_
    refine k_reg mixed H (.cons [6] (ok_val (fun ν6 => .int .i64 0) 6) <| .nil) (by kernel_rfl) fun ν6 a w' H => ?_
    replace H := H.toL [(0, .slot true (.slice p_a0 a0.length c_a0)), (1, .slot true (.int .i64 a1)), (4, .slot true (.slice none 0 0)), (5, .slot true (.slice (some ⟨((ν2 0).n 0), 0, none⟩) 0 0)), (6, .slot true (.int .i64 0)), (30, .blk ((ν2 0).n 0) [] 40), (29, rdK 2 p_a0 a0.length (a0.flatMap en_TInterval))] (by kernel_rfl)
    refine k_block ?_
    replace H := H.blk_row 30 ((ν2 0).n 0) [] 40 2 0 (by kernel_rfl) (by kernel_rfl) (by decide)
    refine k_loopJ (fun m a w' => ∃ x7 : List TInterval, ∃ x8 : Int, armillaryref03_Made.l9 k0 a0 a1 m x7 x8 = some j4 ∧ ∃ (p_x7 : Option Addr) (c_x7 np_x7 : Nat), np_x7 = x7.length ∧ Rep w.heap.size w 29 (ofL [(0, .slot true (.slice p_a0 a0.length c_a0)), (1, .slot true (.int .i64 a1)), (4, .slot true (.slice none 0 0)), (5, .slot true (.slice p_x7 np_x7 c_x7)), (6, .slot true (.int .i64 x8)), (29, rdK 2 p_a0 a0.length (a0.flatMap en_TInterval)), (30, owK 40 2 p_x7 np_x7 c_x7 (x7.flatMap en_TInterval))]) a w') k0 ⟨_, _, G, (some ⟨((ν2 0).n 0), 0, none⟩), 0, _, rfl, H.toL _ (by kernel_rfl)⟩ ?_
    clear G H
    rintro (_ | k) a w' ⟨x7, x8, G, p_x7, c_x7, _, rfl, H⟩
    · exact absurd G (by unfold armillaryref03_Made.l9; exact fun h => by cases h)
    · unfold armillaryref03_Made.l9 at G
      refine k_seq ?_
      refine k_seq ?_
      refine k_reg mixed H (.cons [9] (ok_val (fun ν10 => .int .i64 x8) 9) <|
      .cons [10] (ok_val (fun ν10 => .int .i64 a1) 10) <|
      .cons [11] (ok_val (fun ν10 => .bool (decide (x8 < a1))) 11) <| .nil) (by kernel_rfl) fun ν10 a w' H => ?_
      replace H := H.toL [(0, .slot true (.slice p_a0 a0.length c_a0)), (1, .slot true (.int .i64 a1)), (4, .slot true (.slice none 0 0)), (5, .slot true (.slice p_x7 x7.length c_x7)), (6, .slot true (.int .i64 x8)), (9, .slot true (.int .i64 x8)), (10, .slot true (.int .i64 a1)), (11, .slot true (.bool (decide (x8 < a1)))), (29, rdK 2 p_a0 a0.length (a0.flatMap en_TInterval)), (30, owK 40 2 p_x7 x7.length c_x7 (x7.flatMap en_TInterval))] (by kernel_rfl)
      refine k_cond H (by kernel_rfl) (t := decide (x8 < a1)) (by kernel_rfl) (fun c24 => ?_) (fun c24 => ?_)
      · rw [if_pos c24] at G
        refine k_skip ?_
        refine k_seq ?_
        refine k_block ?_
        refine k_seq ?_
        refine k_reg mixed H (.cons [14] (ok_val (fun ν11 => .agg #[.int .i64 0, .int .i64 0]) 14) <|
      .cons [7, 31] (ok_new (fun b => .pointer (some ⟨b, 0, none⟩)) (fun ν11 => [.int .i64 0, .int .i64 0]) 40 7 31) <|
      .cons [31] (ok_as (u' := fun ν11 => [(31, .blk ((ν11 1).n 0) [.int .i64 0, .int .i64 0] 40)]) (ok_store 31 0 (fun ν11 => ((ν11 1).n 0)) (fun ν11 => [.int .i64 0, .int .i64 0]) (fun ν11 => [.int .i64 0, .int .i64 0]) 40) (fun _ => by kernel_rfl)) <| .nil) (by kernel_rfl) fun ν11 a w' H => ?_
        replace H := H.toL [(0, .slot true (.slice p_a0 a0.length c_a0)), (1, .slot true (.int .i64 a1)), (4, .slot true (.slice none 0 0)), (5, .slot true (.slice p_x7 x7.length c_x7)), (6, .slot true (.int .i64 x8)), (7, .slot true (.pointer (some ⟨((ν11 1).n 0), 0, none⟩))), (9, .slot true (.int .i64 x8)), (10, .slot true (.int .i64 a1)), (11, .slot true (.bool (decide (x8 < a1)))), (14, .slot true (.agg #[.int .i64 0, .int .i64 0])), (31, .blk ((ν11 1).n 0) [.int .i64 0, .int .i64 0] 40), (29, rdK 2 p_a0 a0.length (a0.flatMap en_TInterval)), (30, owK 40 2 p_x7 x7.length c_x7 (x7.flatMap en_TInterval))] (by kernel_rfl)
        refine k_seq ?_
        replace G := bnd G; obtain ⟨j14, hj14, G⟩ := G
        refine k_join (fun a w' => Rep w.heap.size w 29 (ofL [(0, .slot true (.slice p_a0 a0.length c_a0)), (1, .slot true (.int .i64 a1)), (4, .slot true (.slice none 0 0)), (5, .slot true (.slice p_x7 x7.length c_x7)), (6, .slot true (.int .i64 x8)), (7, .slot true (.pointer (some ⟨((ν11 1).n 0), 0, none⟩))), (9, .slot true (.int .i64 x8)), (10, .slot true (.int .i64 a1)), (11, .slot true (.bool (decide (x8 < a1)))), (14, .slot true (.agg #[.int .i64 0, .int .i64 0])), (15, .slot true (.int .i64 x8)), (16, .slot true (.slice p_a0 a0.length c_a0)), (17, .slot true (.int .i64 (a0.length : Int))), (18, .slot true (.bool (decide (x8 < (a0.length : Int))))), (31, .blk ((ν11 1).n 0) [.int .i64 j14.1, .int .i64 j14.2] 40), (29, rdK 2 p_a0 a0.length (a0.flatMap en_TInterval)), (30, owK 40 2 p_x7 x7.length c_x7 (x7.flatMap en_TInterval))]) a w') ?_ ?_
        · clear H; intro a w' H
          replace G := gd G; obtain ⟨b16, G⟩ := G
          refine k_reg mixed H (.cons [24] (ok_val (fun ν15 => .slice p_x7 x7.length c_x7) 24) <|
      .cons [25] (ok_ld (fun ν15 => .agg #[.int .i64 j14.1, .int .i64 j14.2]) 25 31 0 2 (fun ν15 => ((ν11 1).n 0)) (fun ν15 => [.int .i64 j14.1, .int .i64 j14.2]) 40) <|
      .cons [26, 32] (ok_new (fun b => .slice (some ⟨b, 0, none⟩) 1 1) (fun ν15 => [.int .i64 j14.1, .int .i64 j14.2]) 40 26 32) <|
      .cons [27, 30] (ok_rowL [30, 32] (fun ν15 => [owK 40 2 p_x7 x7.length c_x7 (x7.flatMap en_TInterval), .blk ((ν15 2).n 0) [.int .i64 j14.1, .int .i64 j14.2] 40]) 40 2 (x7 ++ [(⟨j14.1, j14.2⟩ : TInterval)]).length ((x7 ++ [(⟨j14.1, j14.2⟩ : TInterval)]).flatMap en_TInterval) 27 30 (fun ν15 => owK 40 2 p_x7 x7.length c_x7 (x7.flatMap en_TInterval)) (fun ν15 w hF => run_app_row (t := 22) (ty := 22) (en := en_TInterval) en_TInterval_len inf40 (ow_of hF.1) hF.2.1 (news := [(⟨j14.1, j14.2⟩ : TInterval)]) rfl (by simp) (by kernel_rfl) b16) (fun _ => .inr trivial)) <|
      .cons [5] (ok_val (fun ν15 => .slice ((ν15 3).o 0) (x7 ++ [(⟨j14.1, j14.2⟩ : TInterval)]).length ((ν15 3).n 0)) 5) <| .nil) (by kernel_rfl) fun ν15 a w' H => ?_
          replace H := H.toL [(0, .slot true (.slice p_a0 a0.length c_a0)), (1, .slot true (.int .i64 a1)), (4, .slot true (.slice none 0 0)), (5, .slot true (.slice ((ν15 3).o 0) (x7 ++ [(⟨j14.1, j14.2⟩ : TInterval)]).length ((ν15 3).n 0))), (6, .slot true (.int .i64 x8)), (7, .slot true (.pointer (some ⟨((ν11 1).n 0), 0, none⟩))), (9, .slot true (.int .i64 x8)), (10, .slot true (.int .i64 a1)), (11, .slot true (.bool (decide (x8 < a1)))), (14, .slot true (.agg #[.int .i64 0, .int .i64 0])), (15, .slot true (.int .i64 x8)), (16, .slot true (.slice p_a0 a0.length c_a0)), (17, .slot true (.int .i64 (a0.length : Int))), (18, .slot true (.bool (decide (x8 < (a0.length : Int))))), (25, .slot true (.agg #[.int .i64 j14.1, .int .i64 j14.2])), (26, .slot true (.slice (some ⟨((ν15 2).n 0), 0, none⟩) 1 1)), (27, .slot true (.slice ((ν15 3).o 0) (x7 ++ [(⟨j14.1, j14.2⟩ : TInterval)]).length ((ν15 3).n 0))), (31, .blk ((ν11 1).n 0) [.int .i64 j14.1, .int .i64 j14.2] 40), (32, .blk ((ν15 2).n 0) [.int .i64 j14.1, .int .i64 j14.2] 40), (29, rdK 2 p_a0 a0.length (a0.flatMap en_TInterval)), (30, owK 40 2 ((ν15 3).o 0) (x7 ++ [(⟨j14.1, j14.2⟩ : TInterval)]).length ((ν15 3).n 0) ((x7 ++ [(⟨j14.1, j14.2⟩ : TInterval)]).flatMap en_TInterval))] (by kernel_rfl)
          refine k_reg mixed H (.cons [12] (ok_val (fun ν17 => .int .i64 x8) 12) <|
      .cons [13] (ok_val (fun ν17 => .int .i64 (w_i64 (x8 + 1))) 13) <|
      .cons [6] (ok_val (fun ν17 => .int .i64 (w_i64 (x8 + 1))) 6) <| .nil) (by kernel_rfl) fun ν17 a w' H => ?_
          replace H := H.toL [(0, .slot true (.slice p_a0 a0.length c_a0)), (1, .slot true (.int .i64 a1)), (4, .slot true (.slice none 0 0)), (5, .slot true (.slice ((ν15 3).o 0) (x7 ++ [(⟨j14.1, j14.2⟩ : TInterval)]).length ((ν15 3).n 0))), (6, .slot true (.int .i64 (w_i64 (x8 + 1)))), (7, .slot true (.pointer (some ⟨((ν11 1).n 0), 0, none⟩))), (9, .slot true (.int .i64 x8)), (10, .slot true (.int .i64 a1)), (11, .slot true (.bool (decide (x8 < a1)))), (12, .slot true (.int .i64 x8)), (13, .slot true (.int .i64 (w_i64 (x8 + 1)))), (14, .slot true (.agg #[.int .i64 0, .int .i64 0])), (15, .slot true (.int .i64 x8)), (16, .slot true (.slice p_a0 a0.length c_a0)), (17, .slot true (.int .i64 (a0.length : Int))), (18, .slot true (.bool (decide (x8 < (a0.length : Int))))), (25, .slot true (.agg #[.int .i64 j14.1, .int .i64 j14.2])), (26, .slot true (.slice (some ⟨((ν15 2).n 0), 0, none⟩) 1 1)), (27, .slot true (.slice ((ν15 3).o 0) (x7 ++ [(⟨j14.1, j14.2⟩ : TInterval)]).length ((ν15 3).n 0))), (31, .blk ((ν11 1).n 0) [.int .i64 j14.1, .int .i64 j14.2] 40), (32, .blk ((ν15 2).n 0) [.int .i64 j14.1, .int .i64 j14.2] 40), (29, rdK 2 p_a0 a0.length (a0.flatMap en_TInterval)), (30, owK 40 2 ((ν15 3).o 0) (x7 ++ [(⟨j14.1, j14.2⟩ : TInterval)]).length ((ν15 3).n 0) ((x7 ++ [(⟨j14.1, j14.2⟩ : TInterval)]).flatMap en_TInterval))] (by kernel_rfl)
          exact ⟨k, Nat.lt_succ_self k, _, _, G, ((ν15 3).o 0), ((ν15 3).n 0), _, rfl, H.toL _ (by kernel_rfl)⟩
        · clear G; replace G := hj14; clear hj14
          refine k_seq ?_
          refine k_reg mixed H (.cons [15] (ok_val (fun ν18 => .int .i64 x8) 15) <|
      .cons [16] (ok_val (fun ν18 => .slice p_a0 a0.length c_a0) 16) <|
      .cons [17] (ok_val (fun ν18 => .int .i64 (a0.length : Int)) 17) <|
      .cons [18] (ok_val (fun ν18 => .bool (decide (x8 < (a0.length : Int)))) 18) <| .nil) (by kernel_rfl) fun ν18 a w' H => ?_
          replace H := H.toL [(0, .slot true (.slice p_a0 a0.length c_a0)), (1, .slot true (.int .i64 a1)), (4, .slot true (.slice none 0 0)), (5, .slot true (.slice p_x7 x7.length c_x7)), (6, .slot true (.int .i64 x8)), (7, .slot true (.pointer (some ⟨((ν11 1).n 0), 0, none⟩))), (9, .slot true (.int .i64 x8)), (10, .slot true (.int .i64 a1)), (11, .slot true (.bool (decide (x8 < a1)))), (14, .slot true (.agg #[.int .i64 0, .int .i64 0])), (15, .slot true (.int .i64 x8)), (16, .slot true (.slice p_a0 a0.length c_a0)), (17, .slot true (.int .i64 (a0.length : Int))), (18, .slot true (.bool (decide (x8 < (a0.length : Int))))), (31, .blk ((ν11 1).n 0) [.int .i64 0, .int .i64 0] 40), (29, rdK 2 p_a0 a0.length (a0.flatMap en_TInterval)), (30, owK 40 2 p_x7 x7.length c_x7 (x7.flatMap en_TInterval))] (by kernel_rfl)
          refine k_cond H (by kernel_rfl) (t := decide (x8 < (a0.length : Int))) (by kernel_rfl) (fun c23 => ?_) (fun c23 => ?_)
          · rw [if_pos c23] at G
            replace G := gd G; obtain ⟨b20, G⟩ := G
            replace G := bnd G; obtain ⟨t21, ht21, G⟩ := G
            replace G := bnd G; obtain ⟨t22, ht22, G⟩ := G
            refine k_reg mixed H (.cons [19] (ok_val (fun ν19 => .slice p_a0 a0.length c_a0) 19) <|
      .cons [20] (ok_val (fun ν19 => .int .i64 x8) 20) <|
      .cons [21] (ok_valL [29] (fun ν19 => [rdK 2 p_a0 a0.length (a0.flatMap en_TInterval)]) (fun ν19 => .pointer (some ⟨hdB p_a0, hdO p_a0 + x8.toNat * 2, none⟩)) (fun ν19 => true) [true, true] 21 (fun ν19 w hg hF => run_of (by kernel_rfl) (run_ix (t := 22) (p := p_a0) (n := a0.length) (cap := c_a0) (k := .i64) (i := x8) (sz := 2) (by kernel_rfl) (by kernel_rfl) (rd_of hF.1) b20))) <|
      .cons [22] (ok_valL [29] (fun ν19 => [rdK 2 p_a0 a0.length (a0.flatMap en_TInterval)]) (fun ν19 => .agg #[.int .i64 t21.Lo, .int .i64 t21.Hi]) (fun ν19 => true) [true] 22 (fun ν19 w hg hF => ld_of (vs := [.int .i64 t21.Lo, .int .i64 t21.Hi]) (b := hdB p_a0) (off := hdO p_a0 + x8.toNat * 2 + 0) (m := 2) (by kernel_rfl) (el_cells (rd_of hF.1) en_TInterval_len ht21 0 2 rfl))) <|
      .cons [23] (ok_callv 86 (fun ν19 => #[.agg #[.int .i64 t21.Lo, .int .i64 t21.Hi]]) (.agg #[.int .i64 t22.Lo, .int .i64 t22.Hi]) 23 [] (fun _ w _ => armillaryref02_Made.calls t21 t22 w ht22)) <|
      .cons [31] (ok_as (u' := fun ν19 => [(31, .blk ((ν11 1).n 0) [.int .i64 t22.Lo, .int .i64 t22.Hi] 40)]) (ok_store 31 0 (fun ν19 => ((ν11 1).n 0)) (fun ν19 => [.int .i64 0, .int .i64 0]) (fun ν19 => [.int .i64 t22.Lo, .int .i64 t22.Hi]) 40) (fun _ => by kernel_rfl)) <| .nil) (by kernel_rfl) fun ν19 a w' H => ?_
            replace H := H.toL [(0, .slot true (.slice p_a0 a0.length c_a0)), (1, .slot true (.int .i64 a1)), (4, .slot true (.slice none 0 0)), (5, .slot true (.slice p_x7 x7.length c_x7)), (6, .slot true (.int .i64 x8)), (7, .slot true (.pointer (some ⟨((ν11 1).n 0), 0, none⟩))), (9, .slot true (.int .i64 x8)), (10, .slot true (.int .i64 a1)), (11, .slot true (.bool (decide (x8 < a1)))), (14, .slot true (.agg #[.int .i64 0, .int .i64 0])), (15, .slot true (.int .i64 x8)), (16, .slot true (.slice p_a0 a0.length c_a0)), (17, .slot true (.int .i64 (a0.length : Int))), (18, .slot true (.bool (decide (x8 < (a0.length : Int))))), (19, .slot true (.slice p_a0 a0.length c_a0)), (20, .slot true (.int .i64 x8)), (21, .slot true (.pointer (some ⟨hdB p_a0, hdO p_a0 + x8.toNat * 2, none⟩))), (22, .slot true (.agg #[.int .i64 t21.Lo, .int .i64 t21.Hi])), (23, .slot true (.agg #[.int .i64 t22.Lo, .int .i64 t22.Hi])), (31, .blk ((ν11 1).n 0) [.int .i64 t22.Lo, .int .i64 t22.Hi] 40), (29, rdK 2 p_a0 a0.length (a0.flatMap en_TInterval)), (30, owK 40 2 p_x7 x7.length c_x7 (x7.flatMap en_TInterval))] (by kernel_rfl)
            obtain rfl := Option.some.inj G
            exact H.toL _ (by kernel_rfl)
          · rw [if_neg (nt c23)] at G
            refine k_skip ?_
            obtain rfl := Option.some.inj G
            exact H.toL _ (by kernel_rfl)
      · rw [if_neg (nt c24)] at G
        refine k_exit rfl ?_
        obtain rfl := Option.some.inj G
        exact ⟨p_x7, c_x7, _, rfl, H.toL _ (by kernel_rfl)⟩

set_option maxHeartbeats 4000000 in
theorem armillarylaw03_boxes.calls (k0 : Nat) (a0 : TInput) (p_a0_A : Option Addr) (c_a0_A : Nat) (p_a0_B : Option Addr) (c_a0_B : Nat) (p_a0_C : Option Addr) (c_a0_C : Nat) (p_a0_P_e0 : Option Addr) (c_a0_P_e0 : Nat) (p_a0_P_e1 : Option Addr) (c_a0_P_e1 : Nat) (r : List TInterval × List TInterval) (w : World) (R_p_a0_A : RowAt w 2 p_a0_A a0.A.length (a0.A.flatMap en_TInterval)) (R_p_a0_B : RowAt w 2 p_a0_B a0.B.length (a0.B.flatMap en_TInterval)) (R_p_a0_C : RowAt w 2 p_a0_C a0.C.length (a0.C.flatMap en_TInterval)) (R_p_a0_P_e0 : RowAt w 1 p_a0_P_e0 a0.P.e0.length (a0.P.e0.flatMap en_u16)) (R_p_a0_P_e1 : RowAt w 1 p_a0_P_e1 a0.P.e1.length (a0.P.e1.flatMap en_u16)) (G : armillarylaw03_boxes k0 a0 = some r) :
    Calls Try.prog 13 #[.agg #[.slice p_a0_A a0.A.length c_a0_A, .slice p_a0_B a0.B.length c_a0_B, .slice p_a0_C a0.C.length c_a0_C, .int .u8 a0.N, .slice p_a0_P_e0 a0.P.e0.length c_a0_P_e0, .slice p_a0_P_e1 a0.P.e1.length c_a0_P_e1]] w fun e w' => ∃ p cap p2 cap2, e = .returned (.tuple #[.slice p r.1.length cap, .slice p2 r.2.length cap2]) ∧ Below w.heap.size w w' ∧ w'.ownsRow w.heap.size 40 2 (.slice p r.1.length cap) r.1.length (r.1.flatMap en_TInterval) ∧ w'.ownsRow w.heap.size 40 2 (.slice p2 r.2.length cap2) r.2.length (r.2.flatMap en_TInterval) ∧ ∀ j, fpOwn p j → ¬ fpOwn p2 j := by
  refine k_enterF (args := [.agg #[.slice p_a0_A a0.A.length c_a0_A, .slice p_a0_B a0.B.length c_a0_B, .slice p_a0_C a0.C.length c_a0_C, .int .u8 a0.N, .slice p_a0_P_e0 a0.P.e0.length c_a0_P_e0, .slice p_a0_P_e1 a0.P.e1.length c_a0_P_e1]]) 18 [(18, rdK 2 p_a0_A a0.A.length (a0.A.flatMap en_TInterval)), (19, rdK 2 p_a0_B a0.B.length (a0.B.flatMap en_TInterval)), (20, rdK 2 p_a0_C a0.C.length (a0.C.flatMap en_TInterval)), (21, rdK 1 p_a0_P_e0 a0.P.e0.length (a0.P.e0.flatMap en_u16)), (22, rdK 1 p_a0_P_e1 a0.P.e1.length (a0.P.e1.flatMap en_u16))] (by
    intro x hx
    simp only [List.mem_cons, List.not_mem_nil, or_false] at hx
    rcases hx with rfl | rfl | rfl | rfl | rfl
    · exact rd_fact R_p_a0_A (by decide) _
    · exact rd_fact R_p_a0_B (by decide) _
    · exact rd_fact R_p_a0_C (by decide) _
    · exact rd_fact R_p_a0_P_e0 (by decide) _
    · exact rd_fact R_p_a0_P_e1 (by decide) _) Try.func13 rfl (by kernel_rfl) (by kernel_rfl) fun a H => ?_
  unfold armillarylaw03_boxes at G
  refine k_seq ?_
  refine k_reg mixed H (.cons [1, 23] (ok_new (fun b => .pointer (some ⟨b, 0, none⟩)) (fun ν1 => [.slice p_a0_A a0.A.length c_a0_A, .slice p_a0_B a0.B.length c_a0_B, .slice p_a0_C a0.C.length c_a0_C, .int .u8 a0.N, .slice p_a0_P_e0 a0.P.e0.length c_a0_P_e0, .slice p_a0_P_e1 a0.P.e1.length c_a0_P_e1]) 26 1 23) <|
      .cons [2] (ok_val (fun ν1 => .slice none 0 0) 2) <|
      .cons [3] (ok_val (fun ν1 => .slice none 0 0) 3) <| .nil) (by kernel_rfl) fun ν1 a w' H => ?_
  replace H := H.toL [(1, .slot true (.pointer (some ⟨((ν1 0).n 0), 0, none⟩))), (2, .slot true (.slice none 0 0)), (3, .slot true (.slice none 0 0)), (23, .blk ((ν1 0).n 0) [.slice p_a0_A a0.A.length c_a0_A, .slice p_a0_B a0.B.length c_a0_B, .slice p_a0_C a0.C.length c_a0_C, .int .u8 a0.N, .slice p_a0_P_e0 a0.P.e0.length c_a0_P_e0, .slice p_a0_P_e1 a0.P.e1.length c_a0_P_e1] 26), (18, rdK 2 p_a0_A a0.A.length (a0.A.flatMap en_TInterval)), (19, rdK 2 p_a0_B a0.B.length (a0.B.flatMap en_TInterval)), (20, rdK 2 p_a0_C a0.C.length (a0.C.flatMap en_TInterval)), (21, rdK 1 p_a0_P_e0 a0.P.e0.length (a0.P.e0.flatMap en_u16)), (22, rdK 1 p_a0_P_e1 a0.P.e1.length (a0.P.e1.flatMap en_u16))] (by kernel_rfl)
  refine k_seq ?_
  refine k_reg mixed H (.cons [5] (ok_val (fun ν2 => .pointer (some ⟨((ν1 0).n 0), 3, none⟩)) 5) <|
      .cons [6] (ok_ld (fun ν2 => .int .u8 a0.N) 6 23 3 1 (fun ν2 => ((ν1 0).n 0)) (fun ν2 => [.slice p_a0_A a0.A.length c_a0_A, .slice p_a0_B a0.B.length c_a0_B, .slice p_a0_C a0.C.length c_a0_C, .int .u8 a0.N, .slice p_a0_P_e0 a0.P.e0.length c_a0_P_e0, .slice p_a0_P_e1 a0.P.e1.length c_a0_P_e1]) 26) <|
      .cons [7] (ok_val (fun ν2 => .int .u8 (Int.tmod a0.N 6)) 7) <|
      .cons [8] (ok_val (fun ν2 => .int .i64 (w_i64 (Int.tmod a0.N 6))) 8) <|
      .cons [9] (ok_val (fun ν2 => .int .i64 (w_i64 (1 + (w_i64 (Int.tmod a0.N 6))))) 9) <|
      .cons [4] (ok_val (fun ν2 => .int .i64 (w_i64 (1 + (w_i64 (Int.tmod a0.N 6))))) 4) <| .nil) (by kernel_rfl) fun ν2 a w' H => ?_
  replace H := H.toL [(1, .slot true (.pointer (some ⟨((ν1 0).n 0), 0, none⟩))), (2, .slot true (.slice none 0 0)), (3, .slot true (.slice none 0 0)), (4, .slot true (.int .i64 (w_i64 (1 + (w_i64 (Int.tmod a0.N 6)))))), (23, .blk ((ν1 0).n 0) [.slice p_a0_A a0.A.length c_a0_A, .slice p_a0_B a0.B.length c_a0_B, .slice p_a0_C a0.C.length c_a0_C, .int .u8 a0.N, .slice p_a0_P_e0 a0.P.e0.length c_a0_P_e0, .slice p_a0_P_e1 a0.P.e1.length c_a0_P_e1] 26), (18, rdK 2 p_a0_A a0.A.length (a0.A.flatMap en_TInterval)), (19, rdK 2 p_a0_B a0.B.length (a0.B.flatMap en_TInterval)), (20, rdK 2 p_a0_C a0.C.length (a0.C.flatMap en_TInterval)), (21, rdK 1 p_a0_P_e0 a0.P.e0.length (a0.P.e0.flatMap en_u16)), (22, rdK 1 p_a0_P_e1 a0.P.e1.length (a0.P.e1.flatMap en_u16))] (by kernel_rfl)
  refine k_seq ?_
  replace G := bnd G; obtain ⟨t4, ht4, G⟩ := G
  replace G := bnd G; obtain ⟨t5, ht5, G⟩ := G
  refine k_reg mixed H (.cons [10] (ok_val (fun ν3 => .pointer (some ⟨((ν1 0).n 0), 0, none⟩)) 10) <|
      .cons [11] (ok_ld (fun ν3 => .slice p_a0_A a0.A.length c_a0_A) 11 23 0 1 (fun ν3 => ((ν1 0).n 0)) (fun ν3 => [.slice p_a0_A a0.A.length c_a0_A, .slice p_a0_B a0.B.length c_a0_B, .slice p_a0_C a0.C.length c_a0_C, .int .u8 a0.N, .slice p_a0_P_e0 a0.P.e0.length c_a0_P_e0, .slice p_a0_P_e1 a0.P.e1.length c_a0_P_e1]) 26) <|
      .cons [12] (ok_val (fun ν3 => .int .i64 (w_i64 (1 + (w_i64 (Int.tmod a0.N 6))))) 12) <|
      .cons [13, 24] (ok_callRL [18] (fun ν3 => [rdK 2 p_a0_A a0.A.length (a0.A.flatMap en_TInterval)]) 44 (fun ν3 => #[.slice p_a0_A a0.A.length c_a0_A, .int .i64 (w_i64 (1 + (w_i64 (Int.tmod a0.N 6))))]) (fun p cap => .slice p t4.length cap) 40 2 t4.length (t4.flatMap en_TInterval) 13 24 (fun ν3 w hF => armillaryref03_Made.calls k0 a0.A (w_i64 (1 + (w_i64 (Int.tmod a0.N 6)))) p_a0_A c_a0_A t4 w (rd_of hF.1) ht4)) <|
      .cons [14] (ok_val (fun ν3 => .pointer (some ⟨((ν1 0).n 0), 1, none⟩)) 14) <|
      .cons [15] (ok_ld (fun ν3 => .slice p_a0_B a0.B.length c_a0_B) 15 23 1 1 (fun ν3 => ((ν1 0).n 0)) (fun ν3 => [.slice p_a0_A a0.A.length c_a0_A, .slice p_a0_B a0.B.length c_a0_B, .slice p_a0_C a0.C.length c_a0_C, .int .u8 a0.N, .slice p_a0_P_e0 a0.P.e0.length c_a0_P_e0, .slice p_a0_P_e1 a0.P.e1.length c_a0_P_e1]) 26) <|
      .cons [16] (ok_val (fun ν3 => .int .i64 (w_i64 (1 + (w_i64 (Int.tmod a0.N 6))))) 16) <|
      .cons [17, 25] (ok_callRL [19] (fun ν3 => [rdK 2 p_a0_B a0.B.length (a0.B.flatMap en_TInterval)]) 44 (fun ν3 => #[.slice p_a0_B a0.B.length c_a0_B, .int .i64 (w_i64 (1 + (w_i64 (Int.tmod a0.N 6))))]) (fun p cap => .slice p t5.length cap) 40 2 t5.length (t5.flatMap en_TInterval) 17 25 (fun ν3 w hF => armillaryref03_Made.calls k0 a0.B (w_i64 (1 + (w_i64 (Int.tmod a0.N 6)))) p_a0_B c_a0_B t5 w (rd_of hF.1) ht5)) <|
      .cons [2] (ok_val (fun ν3 => .slice ((ν3 3).o 0) t4.length ((ν3 3).n 0)) 2) <|
      .cons [3] (ok_val (fun ν3 => .slice ((ν3 7).o 0) t5.length ((ν3 7).n 0)) 3) <| .nil) (by kernel_rfl) fun ν3 a w' H => ?_
  replace H := H.toL [(2, .slot true (.slice ((ν3 3).o 0) t4.length ((ν3 3).n 0))), (3, .slot true (.slice ((ν3 7).o 0) t5.length ((ν3 7).n 0))), (24, owK 40 2 ((ν3 3).o 0) t4.length ((ν3 3).n 0) (t4.flatMap en_TInterval)), (25, owK 40 2 ((ν3 7).o 0) t5.length ((ν3 7).n 0) (t5.flatMap en_TInterval))] (by kernel_rfl)
  refine k_ret ?_
  obtain rfl := Option.some.inj G
  exact k_doneR2 H (fun p cap p2 cap2 => .tuple #[.slice p t4.length cap, .slice p2 t5.length cap2]) ((ν3 3).o 0) ((ν3 3).n 0) ((ν3 7).o 0) ((ν3 7).n 0) [] 24 40 2 t4.length (t4.flatMap en_TInterval) 25 40 2 t5.length (t5.flatMap en_TInterval) (by decide) (by kernel_rfl) (by kernel_rfl) (by kernel_rfl) (by simp) (by kernel_rfl)

set_option maxHeartbeats 4000000 in
theorem armillaryref02_Intersect.calls (a0 : TInterval) (a1 : TInterval) (r : TInterval × Bool) (w : World) (G : armillaryref02_Intersect a0 a1 = some r) :
    Calls Try.prog 55 #[.agg #[.int .i64 a0.Lo, .int .i64 a0.Hi], .agg #[.int .i64 a1.Lo, .int .i64 a1.Hi]] w fun e w' => e = .returned (.tuple #[.agg #[.int .i64 r.1.Lo, .int .i64 r.1.Hi], .bool r.2]) ∧ Below w.heap.size w w' := by
  refine k_enter (args := [.agg #[.int .i64 a0.Lo, .int .i64 a0.Hi], .agg #[.int .i64 a1.Lo, .int .i64 a1.Hi]]) 25 Try.func55 rfl (by kernel_rfl) (by kernel_rfl) fun a H => ?_
  unfold armillaryref02_Intersect at G
  refine k_seq ?_
  refine k_reg mixed H (.cons [2, 25] (ok_new (fun b => .pointer (some ⟨b, 0, none⟩)) (fun ν1 => [.int .i64 a0.Lo, .int .i64 a0.Hi]) 40 2 25) <|
      .cons [3, 26] (ok_new (fun b => .pointer (some ⟨b, 0, none⟩)) (fun ν1 => [.int .i64 a1.Lo, .int .i64 a1.Hi]) 40 3 26) <|
      .cons [4, 27] (ok_new (fun b => .pointer (some ⟨b, 0, none⟩)) (fun ν1 => [.int .i64 0, .int .i64 0]) 40 4 27) <|
      .cons [5] (ok_val (fun ν1 => .bool false) 5) <| .nil) (by kernel_rfl) fun ν1 a w' H => ?_
  replace H := H.toL [(2, .slot true (.pointer (some ⟨((ν1 0).n 0), 0, none⟩))), (3, .slot true (.pointer (some ⟨((ν1 1).n 0), 0, none⟩))), (4, .slot true (.pointer (some ⟨((ν1 2).n 0), 0, none⟩))), (5, .slot true (.bool false)), (25, .blk ((ν1 0).n 0) [.int .i64 a0.Lo, .int .i64 a0.Hi] 40), (26, .blk ((ν1 1).n 0) [.int .i64 a1.Lo, .int .i64 a1.Hi] 40), (27, .blk ((ν1 2).n 0) [.int .i64 0, .int .i64 0] 40)] (by kernel_rfl)
  refine k_seq ?_
  refine k_reg mixed H (.cons [7] (ok_val (fun ν2 => .pointer (some ⟨((ν1 0).n 0), 0, none⟩)) 7) <|
      .cons [8] (ok_ld (fun ν2 => .int .i64 a0.Lo) 8 25 0 1 (fun ν2 => ((ν1 0).n 0)) (fun ν2 => [.int .i64 a0.Lo, .int .i64 a0.Hi]) 40) <|
      .cons [9] (ok_val (fun ν2 => .pointer (some ⟨((ν1 1).n 0), 0, none⟩)) 9) <|
      .cons [10] (ok_ld (fun ν2 => .int .i64 a1.Lo) 10 26 0 1 (fun ν2 => ((ν1 1).n 0)) (fun ν2 => [.int .i64 a1.Lo, .int .i64 a1.Hi]) 40) <|
      .cons [11] (ok_val (fun ν2 => .int .i64 (mx a0.Lo a1.Lo)) 11) <|
      .cons [12] (ok_val (fun ν2 => .pointer (some ⟨((ν1 0).n 0), 1, none⟩)) 12) <|
      .cons [13] (ok_ld (fun ν2 => .int .i64 a0.Hi) 13 25 1 1 (fun ν2 => ((ν1 0).n 0)) (fun ν2 => [.int .i64 a0.Lo, .int .i64 a0.Hi]) 40) <|
      .cons [14] (ok_val (fun ν2 => .pointer (some ⟨((ν1 1).n 0), 1, none⟩)) 14) <|
      .cons [15] (ok_ld (fun ν2 => .int .i64 a1.Hi) 15 26 1 1 (fun ν2 => ((ν1 1).n 0)) (fun ν2 => [.int .i64 a1.Lo, .int .i64 a1.Hi]) 40) <|
      .cons [16] (ok_val (fun ν2 => .int .i64 (mn a0.Hi a1.Hi)) 16) <|
      .cons [17] (ok_val (fun ν2 => .agg #[.int .i64 (mx a0.Lo a1.Lo), .int .i64 (mn a0.Hi a1.Hi)]) 17) <|
      .cons [6, 28] (ok_new (fun b => .pointer (some ⟨b, 0, none⟩)) (fun ν2 => [.int .i64 0, .int .i64 0]) 40 6 28) <|
      .cons [28] (ok_as (u' := fun ν2 => [(28, .blk ((ν2 11).n 0) [.int .i64 (mx a0.Lo a1.Lo), .int .i64 (mn a0.Hi a1.Hi)] 40)]) (ok_store 28 0 (fun ν2 => ((ν2 11).n 0)) (fun ν2 => [.int .i64 0, .int .i64 0]) (fun ν2 => [.int .i64 (mx a0.Lo a1.Lo), .int .i64 (mn a0.Hi a1.Hi)]) 40) (fun _ => by kernel_rfl)) <| .nil) (by kernel_rfl) fun ν2 a w' H => ?_
  replace H := H.toL [(4, .slot true (.pointer (some ⟨((ν1 2).n 0), 0, none⟩))), (5, .slot true (.bool false)), (6, .slot true (.pointer (some ⟨((ν2 11).n 0), 0, none⟩))), (27, .blk ((ν1 2).n 0) [.int .i64 0, .int .i64 0] 40), (28, .blk ((ν2 11).n 0) [.int .i64 (mx a0.Lo a1.Lo), .int .i64 (mn a0.Hi a1.Hi)] 40)] (by kernel_rfl)
  refine k_seq ?_
  refine k_seq ?_
  refine k_reg mixed H (.cons [18] (ok_val (fun ν3 => .pointer (some ⟨((ν2 11).n 0), 0, none⟩)) 18) <|
      .cons [19] (ok_ld (fun ν3 => .int .i64 (mx a0.Lo a1.Lo)) 19 28 0 1 (fun ν3 => ((ν2 11).n 0)) (fun ν3 => [.int .i64 (mx a0.Lo a1.Lo), .int .i64 (mn a0.Hi a1.Hi)]) 40) <|
      .cons [20] (ok_val (fun ν3 => .pointer (some ⟨((ν2 11).n 0), 1, none⟩)) 20) <|
      .cons [21] (ok_ld (fun ν3 => .int .i64 (mn a0.Hi a1.Hi)) 21 28 1 1 (fun ν3 => ((ν2 11).n 0)) (fun ν3 => [.int .i64 (mx a0.Lo a1.Lo), .int .i64 (mn a0.Hi a1.Hi)]) 40) <|
      .cons [22] (ok_val (fun ν3 => .bool (decide ((mx a0.Lo a1.Lo) > (mn a0.Hi a1.Hi)))) 22) <| .nil) (by kernel_rfl) fun ν3 a w' H => ?_
  replace H := H.toL [(4, .slot true (.pointer (some ⟨((ν1 2).n 0), 0, none⟩))), (5, .slot true (.bool false)), (6, .slot true (.pointer (some ⟨((ν2 11).n 0), 0, none⟩))), (22, .slot true (.bool (decide ((mx a0.Lo a1.Lo) > (mn a0.Hi a1.Hi))))), (27, .blk ((ν1 2).n 0) [.int .i64 0, .int .i64 0] 40), (28, .blk ((ν2 11).n 0) [.int .i64 (mx a0.Lo a1.Lo), .int .i64 (mn a0.Hi a1.Hi)] 40)] (by kernel_rfl)
  refine k_cond H (by kernel_rfl) (t := decide ((mx a0.Lo a1.Lo) > (mn a0.Hi a1.Hi))) (by kernel_rfl) (fun c6 => ?_) (fun c6 => ?_)
  · rw [if_pos c6] at G
    refine k_seq ?_
    refine k_reg mixed H (.cons [23] (ok_val (fun ν4 => .agg #[.int .i64 0, .int .i64 0]) 23) <|
      .cons [27] (ok_as (u' := fun ν4 => [(27, .blk ((ν1 2).n 0) [.int .i64 0, .int .i64 0] 40)]) (ok_store 27 0 (fun ν4 => ((ν1 2).n 0)) (fun ν4 => [.int .i64 0, .int .i64 0]) (fun ν4 => [.int .i64 0, .int .i64 0]) 40) (fun _ => by kernel_rfl)) <|
      .cons [5] (ok_val (fun ν4 => .bool false) 5) <| .nil) (by kernel_rfl) fun ν4 a w' H => ?_
    replace H := H.toL [(4, .slot true (.pointer (some ⟨((ν1 2).n 0), 0, none⟩))), (5, .slot true (.bool false)), (6, .slot true (.pointer (some ⟨((ν2 11).n 0), 0, none⟩))), (27, .blk ((ν1 2).n 0) [.int .i64 0, .int .i64 0] 40), (28, .blk ((ν2 11).n 0) [.int .i64 (mx a0.Lo a1.Lo), .int .i64 (mn a0.Hi a1.Hi)] 40)] (by kernel_rfl)
    refine k_ret ?_
    obtain rfl := Option.some.inj G
    exact k_done1 H _ 27 ((ν1 2).n 0) [.int .i64 0, .int .i64 0] 40 0 2 (by kernel_rfl) (by kernel_rfl) (by kernel_rfl) (by kernel_rfl)
  · rw [if_neg (nt c6)] at G
    refine k_skip ?_
    refine k_seq ?_
    refine k_reg mixed H (.cons [24] (ok_ld (fun ν5 => .agg #[.int .i64 (mx a0.Lo a1.Lo), .int .i64 (mn a0.Hi a1.Hi)]) 24 28 0 2 (fun ν5 => ((ν2 11).n 0)) (fun ν5 => [.int .i64 (mx a0.Lo a1.Lo), .int .i64 (mn a0.Hi a1.Hi)]) 40) <|
      .cons [27] (ok_as (u' := fun ν5 => [(27, .blk ((ν1 2).n 0) [.int .i64 (mx a0.Lo a1.Lo), .int .i64 (mn a0.Hi a1.Hi)] 40)]) (ok_store 27 0 (fun ν5 => ((ν1 2).n 0)) (fun ν5 => [.int .i64 0, .int .i64 0]) (fun ν5 => [.int .i64 (mx a0.Lo a1.Lo), .int .i64 (mn a0.Hi a1.Hi)]) 40) (fun _ => by kernel_rfl)) <|
      .cons [5] (ok_val (fun ν5 => .bool true) 5) <| .nil) (by kernel_rfl) fun ν5 a w' H => ?_
    replace H := H.toL [(4, .slot true (.pointer (some ⟨((ν1 2).n 0), 0, none⟩))), (5, .slot true (.bool true)), (27, .blk ((ν1 2).n 0) [.int .i64 (mx a0.Lo a1.Lo), .int .i64 (mn a0.Hi a1.Hi)] 40)] (by kernel_rfl)
    refine k_ret ?_
    obtain rfl := Option.some.inj G
    exact k_done1 H _ 27 ((ν1 2).n 0) [.int .i64 (mx a0.Lo a1.Lo), .int .i64 (mn a0.Hi a1.Hi)] 40 0 2 (by kernel_rfl) (by kernel_rfl) (by kernel_rfl) (by kernel_rfl)

set_option maxHeartbeats 4000000 in
theorem armillaryref03_Intersect.calls (k0 : Nat) (a0 : List TInterval) (a1 : List TInterval) (p_a0 : Option Addr) (c_a0 : Nat) (p_a1 : Option Addr) (c_a1 : Nat) (r : List TInterval × Bool) (w : World) (R_p_a0 : RowAt w 2 p_a0 a0.length (a0.flatMap en_TInterval)) (R_p_a1 : RowAt w 2 p_a1 a1.length (a1.flatMap en_TInterval)) (G : armillaryref03_Intersect k0 a0 a1 = some r) :
    Calls Try.prog 15 #[.slice p_a0 a0.length c_a0, .slice p_a1 a1.length c_a1] w fun e w' => ∃ p cap, e = .returned (.tuple #[.slice p r.1.length cap, .bool r.2]) ∧ Below w.heap.size w w' ∧ w'.ownsRow w.heap.size 40 2 (.slice p r.1.length cap) r.1.length (r.1.flatMap en_TInterval) := by
  refine k_enterF (args := [.slice p_a0 a0.length c_a0, .slice p_a1 a1.length c_a1]) 36 [(36, rdK 2 p_a0 a0.length (a0.flatMap en_TInterval)), (37, rdK 2 p_a1 a1.length (a1.flatMap en_TInterval))] (by
    intro x hx
    simp only [List.mem_cons, List.not_mem_nil, or_false] at hx
    rcases hx with rfl | rfl
    · exact rd_fact R_p_a0 (by decide) _
    · exact rd_fact R_p_a1 (by decide) _) Try.func15 rfl (by kernel_rfl) (by kernel_rfl) fun a H => ?_
  unfold armillaryref03_Intersect at G
  refine k_seq ?_
  refine k_reg mixed H (.cons [4] (ok_val (fun ν1 => .slice none 0 0) 4) <|
      .cons [5] (ok_val (fun ν1 => .bool false) 5) <| .nil) (by kernel_rfl) fun ν1 a w' H => ?_
  replace H := H.toL [(0, .slot true (.slice p_a0 a0.length c_a0)), (1, .slot true (.slice p_a1 a1.length c_a1)), (4, .slot true (.slice none 0 0)), (5, .slot true (.bool false)), (36, rdK 2 p_a0 a0.length (a0.flatMap en_TInterval)), (37, rdK 2 p_a1 a1.length (a1.flatMap en_TInterval))] (by kernel_rfl)
  refine k_seq ?_
  refine k_reg mixed H (.cons [10, 38] (ok_new (fun b => .slice (some ⟨b, 0, none⟩) 0 0) (fun ν2 => []) 40 10 38) <|
      .cons [6] (ok_val (fun ν2 => .slice (some ⟨((ν2 0).n 0), 0, none⟩) 0 0) 6) <| .nil) (by kernel_rfl) fun ν2 a w' H => ?_
  replace H := H.toL [(0, .slot true (.slice p_a0 a0.length c_a0)), (1, .slot true (.slice p_a1 a1.length c_a1)), (4, .slot true (.slice none 0 0)), (5, .slot true (.bool false)), (6, .slot true (.slice (some ⟨((ν2 0).n 0), 0, none⟩) 0 0)), (38, .blk ((ν2 0).n 0) [] 40), (36, rdK 2 p_a0 a0.length (a0.flatMap en_TInterval)), (37, rdK 2 p_a1 a1.length (a1.flatMap en_TInterval))] (by kernel_rfl)
  refine k_seq ?_
  replace G := bnd G; obtain ⟨j4, hj4, Gj4⟩ := G
  refine k_join (fun a w' => ∃ j4v, j4 = Sum.inr j4v ∧ ∃ (p_j3 : Option Addr) (c_j3 np_j3 : Nat), np_j3 = j4v.length ∧ Rep w.heap.size w 36 (ofL [(4, .slot true (.slice none ([] : List TInterval).length 0)), (5, .slot true (.bool false)), (6, .slot true (.slice p_j3 np_j3 c_j3)), (38, owK 40 2 p_j3 np_j3 c_j3 (j4v.flatMap en_TInterval)), (39, owK 40 2 none ([] : List TInterval).length 0 (([] : List TInterval).flatMap en_TInterval))]) a w') ?_ ?_
  · clear H; rintro a w' ⟨j4v, rfl, p_j3, c_j3, _, rfl, H⟩; have G := Gj4; clear Gj4; dsimp only at G
    refine k_seq ?_
    refine k_reg mixed H (.cons [35] (ok_val (fun ν5 => .slice p_j3 j4v.length c_j3) 35) <|
      .cons [4] (ok_val (fun ν5 => .slice p_j3 j4v.length c_j3) 4) <|
      .cons [5] (ok_val (fun ν5 => .bool true) 5) <| .nil) (by kernel_rfl) fun ν5 a w' H => ?_
    replace H := H.toL [(4, .slot true (.slice p_j3 j4v.length c_j3)), (5, .slot true (.bool true)), (38, owK 40 2 p_j3 j4v.length c_j3 (j4v.flatMap en_TInterval))] (by kernel_rfl)
    refine k_ret ?_
    obtain rfl := Option.some.inj G
    exact k_doneR H (fun p cap => .tuple #[.slice p j4v.length cap, .bool true]) p_j3 c_j3 [] 38 40 2 j4v.length (j4v.flatMap en_TInterval) (by kernel_rfl) (by kernel_rfl) (by simp) (by kernel_rfl)
  · have G := hj4; clear hj4
    refine k_seq ?_
    refine k_reg mixed H (.cons [7] (ok_val (fun ν6 => .int .i64 0) 7) <| .nil) (by kernel_rfl) fun ν6 a w' H => ?_
    replace H := H.toL [(0, .slot true (.slice p_a0 a0.length c_a0)), (1, .slot true (.slice p_a1 a1.length c_a1)), (4, .slot true (.slice none 0 0)), (5, .slot true (.bool false)), (6, .slot true (.slice (some ⟨((ν2 0).n 0), 0, none⟩) 0 0)), (7, .slot true (.int .i64 0)), (38, .blk ((ν2 0).n 0) [] 40), (36, rdK 2 p_a0 a0.length (a0.flatMap en_TInterval)), (37, rdK 2 p_a1 a1.length (a1.flatMap en_TInterval))] (by kernel_rfl)
    refine k_block ?_
    replace H := H.nil_row 39 40 2
    replace H := H.blk_row 38 ((ν2 0).n 0) [] 40 2 0 (by kernel_rfl) (by kernel_rfl) (by decide)
    refine k_loopJ (fun m a w' => ∃ x7 : List TInterval, ∃ x8 : Int, armillaryref03_Intersect.l9 k0 a0 a1 m x7 x8 = some j4 ∧ ∃ (p_x7 : Option Addr) (c_x7 np_x7 : Nat), np_x7 = x7.length ∧ Rep w.heap.size w 36 (ofL [(0, .slot true (.slice p_a0 a0.length c_a0)), (1, .slot true (.slice p_a1 a1.length c_a1)), (4, .slot true (.slice none ([] : List TInterval).length 0)), (5, .slot true (.bool false)), (6, .slot true (.slice p_x7 np_x7 c_x7)), (7, .slot true (.int .i64 x8)), (36, rdK 2 p_a0 a0.length (a0.flatMap en_TInterval)), (37, rdK 2 p_a1 a1.length (a1.flatMap en_TInterval)), (38, owK 40 2 p_x7 np_x7 c_x7 (x7.flatMap en_TInterval)), (39, owK 40 2 none ([] : List TInterval).length 0 (([] : List TInterval).flatMap en_TInterval))]) a w') k0 ⟨_, _, G, (some ⟨((ν2 0).n 0), 0, none⟩), 0, _, rfl, H.toL _ (by kernel_rfl)⟩ ?_
    clear G H
    rintro (_ | k) a w' ⟨x7, x8, G, p_x7, c_x7, _, rfl, H⟩
    · exact absurd G (by unfold armillaryref03_Intersect.l9; exact fun h => by cases h)
    · unfold armillaryref03_Intersect.l9 at G
      refine k_seq ?_
      refine k_seq ?_
      refine k_reg mixed H (.cons [11] (ok_val (fun ν10 => .int .i64 x8) 11) <|
      .cons [12] (ok_val (fun ν10 => .slice p_a0 a0.length c_a0) 12) <|
      .cons [13] (ok_val (fun ν10 => .int .i64 (a0.length : Int)) 13) <|
      .cons [14] (ok_val (fun ν10 => .bool (decide (x8 < (a0.length : Int)))) 14) <| .nil) (by kernel_rfl) fun ν10 a w' H => ?_
      replace H := H.toL [(0, .slot true (.slice p_a0 a0.length c_a0)), (1, .slot true (.slice p_a1 a1.length c_a1)), (4, .slot true (.slice none ([] : List TInterval).length 0)), (5, .slot true (.bool false)), (6, .slot true (.slice p_x7 x7.length c_x7)), (7, .slot true (.int .i64 x8)), (11, .slot true (.int .i64 x8)), (12, .slot true (.slice p_a0 a0.length c_a0)), (13, .slot true (.int .i64 (a0.length : Int))), (14, .slot true (.bool (decide (x8 < (a0.length : Int))))), (36, rdK 2 p_a0 a0.length (a0.flatMap en_TInterval)), (37, rdK 2 p_a1 a1.length (a1.flatMap en_TInterval)), (38, owK 40 2 p_x7 x7.length c_x7 (x7.flatMap en_TInterval)), (39, owK 40 2 none ([] : List TInterval).length 0 (([] : List TInterval).flatMap en_TInterval))] (by kernel_rfl)
      refine k_cond H (by kernel_rfl) (t := decide (x8 < (a0.length : Int))) (by kernel_rfl) (fun c23 => ?_) (fun c23 => ?_)
      · rw [if_pos c23] at G
        refine k_skip ?_
        refine k_seq ?_
        refine k_block ?_
        refine k_seq ?_
        replace G := gd G; obtain ⟨b12, G⟩ := G
        replace G := bnd G; obtain ⟨t13, ht13, G⟩ := G
        replace G := gd G; obtain ⟨b14, G⟩ := G
        replace G := bnd G; obtain ⟨t15, ht15, G⟩ := G
        replace G := bnd G; obtain ⟨t16, ht16, G⟩ := G
        refine k_reg mixed H (.cons [18] (ok_val (fun ν11 => .slice p_a0 a0.length c_a0) 18) <|
      .cons [19] (ok_val (fun ν11 => .int .i64 x8) 19) <|
      .cons [20] (ok_valL [36] (fun ν11 => [rdK 2 p_a0 a0.length (a0.flatMap en_TInterval)]) (fun ν11 => .pointer (some ⟨hdB p_a0, hdO p_a0 + x8.toNat * 2, none⟩)) (fun ν11 => true) [true, true] 20 (fun ν11 w hg hF => run_of (by kernel_rfl) (run_ix (t := 22) (p := p_a0) (n := a0.length) (cap := c_a0) (k := .i64) (i := x8) (sz := 2) (by kernel_rfl) (by kernel_rfl) (rd_of hF.1) b12))) <|
      .cons [21] (ok_valL [36] (fun ν11 => [rdK 2 p_a0 a0.length (a0.flatMap en_TInterval)]) (fun ν11 => .agg #[.int .i64 t13.Lo, .int .i64 t13.Hi]) (fun ν11 => true) [true] 21 (fun ν11 w hg hF => ld_of (vs := [.int .i64 t13.Lo, .int .i64 t13.Hi]) (b := hdB p_a0) (off := hdO p_a0 + x8.toNat * 2 + 0) (m := 2) (by kernel_rfl) (el_cells (rd_of hF.1) en_TInterval_len ht13 0 2 rfl))) <|
      .cons [22] (ok_val (fun ν11 => .slice p_a1 a1.length c_a1) 22) <|
      .cons [23] (ok_val (fun ν11 => .int .i64 x8) 23) <|
      .cons [24] (ok_valL [37] (fun ν11 => [rdK 2 p_a1 a1.length (a1.flatMap en_TInterval)]) (fun ν11 => .pointer (some ⟨hdB p_a1, hdO p_a1 + x8.toNat * 2, none⟩)) (fun ν11 => true) [true, true] 24 (fun ν11 w hg hF => run_of (by kernel_rfl) (run_ix (t := 22) (p := p_a1) (n := a1.length) (cap := c_a1) (k := .i64) (i := x8) (sz := 2) (by kernel_rfl) (by kernel_rfl) (rd_of hF.1) b14))) <|
      .cons [25] (ok_valL [37] (fun ν11 => [rdK 2 p_a1 a1.length (a1.flatMap en_TInterval)]) (fun ν11 => .agg #[.int .i64 t15.Lo, .int .i64 t15.Hi]) (fun ν11 => true) [true] 25 (fun ν11 w hg hF => ld_of (vs := [.int .i64 t15.Lo, .int .i64 t15.Hi]) (b := hdB p_a1) (off := hdO p_a1 + x8.toNat * 2 + 0) (m := 2) (by kernel_rfl) (el_cells (rd_of hF.1) en_TInterval_len ht15 0 2 rfl))) <|
      .cons [26] (ok_callv 55 (fun ν11 => #[.agg #[.int .i64 t13.Lo, .int .i64 t13.Hi], .agg #[.int .i64 t15.Lo, .int .i64 t15.Hi]]) (.tuple #[.agg #[.int .i64 t16.1.Lo, .int .i64 t16.1.Hi], .bool t16.2]) 26 [] (fun _ w _ => armillaryref02_Intersect.calls t13 t15 t16 w ht16)) <|
      .cons [17] (ok_val (fun ν11 => .tuple #[.agg #[.int .i64 t16.1.Lo, .int .i64 t16.1.Hi], .bool t16.2]) 17) <|
      .cons [27] (ok_val (fun ν11 => .agg #[.int .i64 t16.1.Lo, .int .i64 t16.1.Hi]) 27) <|
      .cons [28] (ok_val (fun ν11 => .bool t16.2) 28) <|
      .cons [8, 40] (ok_new (fun b => .pointer (some ⟨b, 0, none⟩)) (fun ν11 => [.int .i64 0, .int .i64 0]) 40 8 40) <|
      .cons [40] (ok_as (u' := fun ν11 => [(40, .blk ((ν11 12).n 0) [.int .i64 t16.1.Lo, .int .i64 t16.1.Hi] 40)]) (ok_store 40 0 (fun ν11 => ((ν11 12).n 0)) (fun ν11 => [.int .i64 0, .int .i64 0]) (fun ν11 => [.int .i64 t16.1.Lo, .int .i64 t16.1.Hi]) 40) (fun _ => by kernel_rfl)) <|
      .cons [9] (ok_val (fun ν11 => .bool t16.2) 9) <| .nil) (by kernel_rfl) fun ν11 a w' H => ?_
        replace H := H.toL [(0, .slot true (.slice p_a0 a0.length c_a0)), (1, .slot true (.slice p_a1 a1.length c_a1)), (4, .slot true (.slice none ([] : List TInterval).length 0)), (5, .slot true (.bool false)), (6, .slot true (.slice p_x7 x7.length c_x7)), (7, .slot true (.int .i64 x8)), (8, .slot true (.pointer (some ⟨((ν11 12).n 0), 0, none⟩))), (9, .slot true (.bool t16.2)), (11, .slot true (.int .i64 x8)), (12, .slot true (.slice p_a0 a0.length c_a0)), (13, .slot true (.int .i64 (a0.length : Int))), (14, .slot true (.bool (decide (x8 < (a0.length : Int))))), (17, .slot true (.tuple #[.agg #[.int .i64 t16.1.Lo, .int .i64 t16.1.Hi], .bool t16.2])), (18, .slot true (.slice p_a0 a0.length c_a0)), (19, .slot true (.int .i64 x8)), (20, .slot true (.pointer (some ⟨hdB p_a0, hdO p_a0 + x8.toNat * 2, none⟩))), (21, .slot true (.agg #[.int .i64 t13.Lo, .int .i64 t13.Hi])), (22, .slot true (.slice p_a1 a1.length c_a1)), (23, .slot true (.int .i64 x8)), (24, .slot true (.pointer (some ⟨hdB p_a1, hdO p_a1 + x8.toNat * 2, none⟩))), (25, .slot true (.agg #[.int .i64 t15.Lo, .int .i64 t15.Hi])), (26, .slot true (.tuple #[.agg #[.int .i64 t16.1.Lo, .int .i64 t16.1.Hi], .bool t16.2])), (27, .slot true (.agg #[.int .i64 t16.1.Lo, .int .i64 t16.1.Hi])), (28, .slot true (.bool t16.2)), (40, .blk ((ν11 12).n 0) [.int .i64 t16.1.Lo, .int .i64 t16.1.Hi] 40), (36, rdK 2 p_a0 a0.length (a0.flatMap en_TInterval)), (37, rdK 2 p_a1 a1.length (a1.flatMap en_TInterval)), (38, owK 40 2 p_x7 x7.length c_x7 (x7.flatMap en_TInterval)), (39, owK 40 2 none ([] : List TInterval).length 0 (([] : List TInterval).flatMap en_TInterval))] (by kernel_rfl)
        refine k_seq ?_
        refine k_seq ?_
        refine k_reg mixed H (.cons [29] (ok_val (fun ν17 => .bool t16.2) 29) <|
      .cons [30] (ok_val (fun ν17 => .bool (!t16.2)) 30) <| .nil) (by kernel_rfl) fun ν17 a w' H => ?_
        replace H := H.toL [(0, .slot true (.slice p_a0 a0.length c_a0)), (1, .slot true (.slice p_a1 a1.length c_a1)), (4, .slot true (.slice none ([] : List TInterval).length 0)), (5, .slot true (.bool false)), (6, .slot true (.slice p_x7 x7.length c_x7)), (7, .slot true (.int .i64 x8)), (8, .slot true (.pointer (some ⟨((ν11 12).n 0), 0, none⟩))), (9, .slot true (.bool t16.2)), (11, .slot true (.int .i64 x8)), (12, .slot true (.slice p_a0 a0.length c_a0)), (13, .slot true (.int .i64 (a0.length : Int))), (14, .slot true (.bool (decide (x8 < (a0.length : Int))))), (17, .slot true (.tuple #[.agg #[.int .i64 t16.1.Lo, .int .i64 t16.1.Hi], .bool t16.2])), (18, .slot true (.slice p_a0 a0.length c_a0)), (19, .slot true (.int .i64 x8)), (20, .slot true (.pointer (some ⟨hdB p_a0, hdO p_a0 + x8.toNat * 2, none⟩))), (21, .slot true (.agg #[.int .i64 t13.Lo, .int .i64 t13.Hi])), (22, .slot true (.slice p_a1 a1.length c_a1)), (23, .slot true (.int .i64 x8)), (24, .slot true (.pointer (some ⟨hdB p_a1, hdO p_a1 + x8.toNat * 2, none⟩))), (25, .slot true (.agg #[.int .i64 t15.Lo, .int .i64 t15.Hi])), (26, .slot true (.tuple #[.agg #[.int .i64 t16.1.Lo, .int .i64 t16.1.Hi], .bool t16.2])), (27, .slot true (.agg #[.int .i64 t16.1.Lo, .int .i64 t16.1.Hi])), (28, .slot true (.bool t16.2)), (29, .slot true (.bool t16.2)), (30, .slot true (.bool (!t16.2))), (40, .blk ((ν11 12).n 0) [.int .i64 t16.1.Lo, .int .i64 t16.1.Hi] 40), (36, rdK 2 p_a0 a0.length (a0.flatMap en_TInterval)), (37, rdK 2 p_a1 a1.length (a1.flatMap en_TInterval)), (38, owK 40 2 p_x7 x7.length c_x7 (x7.flatMap en_TInterval)), (39, owK 40 2 none ([] : List TInterval).length 0 (([] : List TInterval).flatMap en_TInterval))] (by kernel_rfl)
        refine k_cond H (by kernel_rfl) (t := (!t16.2)) (by kernel_rfl) (fun c22 => ?_) (fun c22 => ?_)
        · rw [if_pos c22] at G
          refine k_seq ?_
          refine k_reg mixed H (.cons [4] (ok_val (fun ν18 => .slice none 0 0) 4) <|
      .cons [5] (ok_val (fun ν18 => .bool false) 5) <| .nil) (by kernel_rfl) fun ν18 a w' H => ?_
          replace H := H.toL [(0, .slot true (.slice p_a0 a0.length c_a0)), (1, .slot true (.slice p_a1 a1.length c_a1)), (4, .slot true (.slice none 0 0)), (5, .slot true (.bool false)), (6, .slot true (.slice p_x7 x7.length c_x7)), (7, .slot true (.int .i64 x8)), (8, .slot true (.pointer (some ⟨((ν11 12).n 0), 0, none⟩))), (9, .slot true (.bool t16.2)), (11, .slot true (.int .i64 x8)), (12, .slot true (.slice p_a0 a0.length c_a0)), (13, .slot true (.int .i64 (a0.length : Int))), (14, .slot true (.bool (decide (x8 < (a0.length : Int))))), (17, .slot true (.tuple #[.agg #[.int .i64 t16.1.Lo, .int .i64 t16.1.Hi], .bool t16.2])), (18, .slot true (.slice p_a0 a0.length c_a0)), (19, .slot true (.int .i64 x8)), (20, .slot true (.pointer (some ⟨hdB p_a0, hdO p_a0 + x8.toNat * 2, none⟩))), (21, .slot true (.agg #[.int .i64 t13.Lo, .int .i64 t13.Hi])), (22, .slot true (.slice p_a1 a1.length c_a1)), (23, .slot true (.int .i64 x8)), (24, .slot true (.pointer (some ⟨hdB p_a1, hdO p_a1 + x8.toNat * 2, none⟩))), (25, .slot true (.agg #[.int .i64 t15.Lo, .int .i64 t15.Hi])), (26, .slot true (.tuple #[.agg #[.int .i64 t16.1.Lo, .int .i64 t16.1.Hi], .bool t16.2])), (27, .slot true (.agg #[.int .i64 t16.1.Lo, .int .i64 t16.1.Hi])), (28, .slot true (.bool t16.2)), (29, .slot true (.bool t16.2)), (30, .slot true (.bool (!t16.2))), (40, .blk ((ν11 12).n 0) [.int .i64 t16.1.Lo, .int .i64 t16.1.Hi] 40), (36, rdK 2 p_a0 a0.length (a0.flatMap en_TInterval)), (37, rdK 2 p_a1 a1.length (a1.flatMap en_TInterval)), (38, owK 40 2 p_x7 x7.length c_x7 (x7.flatMap en_TInterval))] (by kernel_rfl)
          refine k_ret ?_
          obtain rfl := Option.some.inj G
          replace G := Gj4
          obtain rfl := Option.some.inj G
          replace H := H.nil_row 41 40 2
          exact k_doneR H (fun p cap => .tuple #[.slice p ([] : List TInterval).length cap, .bool false]) none 0 [] 41 40 2 ([] : List TInterval).length (([] : List TInterval).flatMap en_TInterval) (by kernel_rfl) (by kernel_rfl) (by simp) (by kernel_rfl)
        · rw [if_neg (nt c22)] at G
          refine k_skip ?_
          replace G := gd G; obtain ⟨b20, G⟩ := G
          refine k_reg mixed H (.cons [31] (ok_val (fun ν19 => .slice p_x7 x7.length c_x7) 31) <|
      .cons [32] (ok_ld (fun ν19 => .agg #[.int .i64 t16.1.Lo, .int .i64 t16.1.Hi]) 32 40 0 2 (fun ν19 => ((ν11 12).n 0)) (fun ν19 => [.int .i64 t16.1.Lo, .int .i64 t16.1.Hi]) 40) <|
      .cons [33, 42] (ok_new (fun b => .slice (some ⟨b, 0, none⟩) 1 1) (fun ν19 => [.int .i64 t16.1.Lo, .int .i64 t16.1.Hi]) 40 33 42) <|
      .cons [34, 38] (ok_rowL [38, 42] (fun ν19 => [owK 40 2 p_x7 x7.length c_x7 (x7.flatMap en_TInterval), .blk ((ν19 2).n 0) [.int .i64 t16.1.Lo, .int .i64 t16.1.Hi] 40]) 40 2 (x7 ++ [(⟨t16.1.Lo, t16.1.Hi⟩ : TInterval)]).length ((x7 ++ [(⟨t16.1.Lo, t16.1.Hi⟩ : TInterval)]).flatMap en_TInterval) 34 38 (fun ν19 => owK 40 2 p_x7 x7.length c_x7 (x7.flatMap en_TInterval)) (fun ν19 w hF => run_app_row (t := 22) (ty := 22) (en := en_TInterval) en_TInterval_len inf40 (ow_of hF.1) hF.2.1 (news := [(⟨t16.1.Lo, t16.1.Hi⟩ : TInterval)]) rfl (by simp) (by kernel_rfl) b20) (fun _ => .inr trivial)) <|
      .cons [6] (ok_val (fun ν19 => .slice ((ν19 3).o 0) (x7 ++ [(⟨t16.1.Lo, t16.1.Hi⟩ : TInterval)]).length ((ν19 3).n 0)) 6) <| .nil) (by kernel_rfl) fun ν19 a w' H => ?_
          replace H := H.toL [(0, .slot true (.slice p_a0 a0.length c_a0)), (1, .slot true (.slice p_a1 a1.length c_a1)), (4, .slot true (.slice none ([] : List TInterval).length 0)), (5, .slot true (.bool false)), (6, .slot true (.slice ((ν19 3).o 0) (x7 ++ [(⟨t16.1.Lo, t16.1.Hi⟩ : TInterval)]).length ((ν19 3).n 0))), (7, .slot true (.int .i64 x8)), (8, .slot true (.pointer (some ⟨((ν11 12).n 0), 0, none⟩))), (9, .slot true (.bool t16.2)), (11, .slot true (.int .i64 x8)), (12, .slot true (.slice p_a0 a0.length c_a0)), (13, .slot true (.int .i64 (a0.length : Int))), (14, .slot true (.bool (decide (x8 < (a0.length : Int))))), (17, .slot true (.tuple #[.agg #[.int .i64 t16.1.Lo, .int .i64 t16.1.Hi], .bool t16.2])), (18, .slot true (.slice p_a0 a0.length c_a0)), (19, .slot true (.int .i64 x8)), (20, .slot true (.pointer (some ⟨hdB p_a0, hdO p_a0 + x8.toNat * 2, none⟩))), (21, .slot true (.agg #[.int .i64 t13.Lo, .int .i64 t13.Hi])), (22, .slot true (.slice p_a1 a1.length c_a1)), (23, .slot true (.int .i64 x8)), (24, .slot true (.pointer (some ⟨hdB p_a1, hdO p_a1 + x8.toNat * 2, none⟩))), (25, .slot true (.agg #[.int .i64 t15.Lo, .int .i64 t15.Hi])), (26, .slot true (.tuple #[.agg #[.int .i64 t16.1.Lo, .int .i64 t16.1.Hi], .bool t16.2])), (27, .slot true (.agg #[.int .i64 t16.1.Lo, .int .i64 t16.1.Hi])), (28, .slot true (.bool t16.2)), (29, .slot true (.bool t16.2)), (30, .slot true (.bool (!t16.2))), (32, .slot true (.agg #[.int .i64 t16.1.Lo, .int .i64 t16.1.Hi])), (33, .slot true (.slice (some ⟨((ν19 2).n 0), 0, none⟩) 1 1)), (34, .slot true (.slice ((ν19 3).o 0) (x7 ++ [(⟨t16.1.Lo, t16.1.Hi⟩ : TInterval)]).length ((ν19 3).n 0))), (40, .blk ((ν11 12).n 0) [.int .i64 t16.1.Lo, .int .i64 t16.1.Hi] 40), (42, .blk ((ν19 2).n 0) [.int .i64 t16.1.Lo, .int .i64 t16.1.Hi] 40), (36, rdK 2 p_a0 a0.length (a0.flatMap en_TInterval)), (37, rdK 2 p_a1 a1.length (a1.flatMap en_TInterval)), (38, owK 40 2 ((ν19 3).o 0) (x7 ++ [(⟨t16.1.Lo, t16.1.Hi⟩ : TInterval)]).length ((ν19 3).n 0) ((x7 ++ [(⟨t16.1.Lo, t16.1.Hi⟩ : TInterval)]).flatMap en_TInterval)), (39, owK 40 2 none ([] : List TInterval).length 0 (([] : List TInterval).flatMap en_TInterval))] (by kernel_rfl)
          refine k_reg mixed H (.cons [15] (ok_val (fun ν21 => .int .i64 x8) 15) <|
      .cons [16] (ok_val (fun ν21 => .int .i64 (w_i64 (x8 + 1))) 16) <|
      .cons [7] (ok_val (fun ν21 => .int .i64 (w_i64 (x8 + 1))) 7) <| .nil) (by kernel_rfl) fun ν21 a w' H => ?_
          replace H := H.toL [(0, .slot true (.slice p_a0 a0.length c_a0)), (1, .slot true (.slice p_a1 a1.length c_a1)), (4, .slot true (.slice none ([] : List TInterval).length 0)), (5, .slot true (.bool false)), (6, .slot true (.slice ((ν19 3).o 0) (x7 ++ [(⟨t16.1.Lo, t16.1.Hi⟩ : TInterval)]).length ((ν19 3).n 0))), (7, .slot true (.int .i64 (w_i64 (x8 + 1)))), (8, .slot true (.pointer (some ⟨((ν11 12).n 0), 0, none⟩))), (9, .slot true (.bool t16.2)), (11, .slot true (.int .i64 x8)), (12, .slot true (.slice p_a0 a0.length c_a0)), (13, .slot true (.int .i64 (a0.length : Int))), (14, .slot true (.bool (decide (x8 < (a0.length : Int))))), (15, .slot true (.int .i64 x8)), (16, .slot true (.int .i64 (w_i64 (x8 + 1)))), (17, .slot true (.tuple #[.agg #[.int .i64 t16.1.Lo, .int .i64 t16.1.Hi], .bool t16.2])), (18, .slot true (.slice p_a0 a0.length c_a0)), (19, .slot true (.int .i64 x8)), (20, .slot true (.pointer (some ⟨hdB p_a0, hdO p_a0 + x8.toNat * 2, none⟩))), (21, .slot true (.agg #[.int .i64 t13.Lo, .int .i64 t13.Hi])), (22, .slot true (.slice p_a1 a1.length c_a1)), (23, .slot true (.int .i64 x8)), (24, .slot true (.pointer (some ⟨hdB p_a1, hdO p_a1 + x8.toNat * 2, none⟩))), (25, .slot true (.agg #[.int .i64 t15.Lo, .int .i64 t15.Hi])), (26, .slot true (.tuple #[.agg #[.int .i64 t16.1.Lo, .int .i64 t16.1.Hi], .bool t16.2])), (27, .slot true (.agg #[.int .i64 t16.1.Lo, .int .i64 t16.1.Hi])), (28, .slot true (.bool t16.2)), (29, .slot true (.bool t16.2)), (30, .slot true (.bool (!t16.2))), (32, .slot true (.agg #[.int .i64 t16.1.Lo, .int .i64 t16.1.Hi])), (33, .slot true (.slice (some ⟨((ν19 2).n 0), 0, none⟩) 1 1)), (34, .slot true (.slice ((ν19 3).o 0) (x7 ++ [(⟨t16.1.Lo, t16.1.Hi⟩ : TInterval)]).length ((ν19 3).n 0))), (40, .blk ((ν11 12).n 0) [.int .i64 t16.1.Lo, .int .i64 t16.1.Hi] 40), (42, .blk ((ν19 2).n 0) [.int .i64 t16.1.Lo, .int .i64 t16.1.Hi] 40), (36, rdK 2 p_a0 a0.length (a0.flatMap en_TInterval)), (37, rdK 2 p_a1 a1.length (a1.flatMap en_TInterval)), (38, owK 40 2 ((ν19 3).o 0) (x7 ++ [(⟨t16.1.Lo, t16.1.Hi⟩ : TInterval)]).length ((ν19 3).n 0) ((x7 ++ [(⟨t16.1.Lo, t16.1.Hi⟩ : TInterval)]).flatMap en_TInterval)), (39, owK 40 2 none ([] : List TInterval).length 0 (([] : List TInterval).flatMap en_TInterval))] (by kernel_rfl)
          exact ⟨k, Nat.lt_succ_self k, _, _, G, ((ν19 3).o 0), ((ν19 3).n 0), _, rfl, H.toL _ (by kernel_rfl)⟩
      · rw [if_neg (nt c23)] at G
        refine k_exit rfl ?_
        obtain rfl := Option.some.inj G
        exact ⟨_, rfl, p_x7, c_x7, _, rfl, H.toL _ (by kernel_rfl)⟩

set_option maxHeartbeats 4000000 in
theorem armillaryref03_PointIn.calls (k0 : Nat) (a0 : List TInterval) (a1 : List Int) (p_a0 : Option Addr) (c_a0 : Nat) (p_a1 : Option Addr) (c_a1 : Nat) (r : List Int) (w : World) (R_p_a0 : RowAt w 2 p_a0 a0.length (a0.flatMap en_TInterval)) (R_p_a1 : RowAt w 1 p_a1 a1.length (a1.flatMap en_u16)) (G : armillaryref03_PointIn k0 a0 a1 = some r) :
    Calls Try.prog 16 #[.slice p_a0 a0.length c_a0, .slice p_a1 a1.length c_a1] w fun e w' => ∃ p cap, e = .returned (.slice p r.length cap) ∧ Below w.heap.size w w' ∧ w'.ownsRow w.heap.size 2 1 (.slice p r.length cap) r.length (r.flatMap en_i64) := by
  refine k_enterF (args := [.slice p_a0 a0.length c_a0, .slice p_a1 a1.length c_a1]) 57 [(57, rdK 2 p_a0 a0.length (a0.flatMap en_TInterval)), (58, rdK 1 p_a1 a1.length (a1.flatMap en_u16))] (by
    intro x hx
    simp only [List.mem_cons, List.not_mem_nil, or_false] at hx
    rcases hx with rfl | rfl
    · exact rd_fact R_p_a0 (by decide) _
    · exact rd_fact R_p_a1 (by decide) _) Try.func16 rfl (by kernel_rfl) (by kernel_rfl) fun a H => ?_
  unfold armillaryref03_PointIn at G
  refine k_seq ?_
  refine k_reg mixed H (.cons [4] (ok_val (fun ν1 => .slice none 0 0) 4) <| .nil) (by kernel_rfl) fun ν1 a w' H => ?_
  replace H := H.toL [(0, .slot true (.slice p_a0 a0.length c_a0)), (1, .slot true (.slice p_a1 a1.length c_a1)), (4, .slot true (.slice none 0 0)), (57, rdK 2 p_a0 a0.length (a0.flatMap en_TInterval)), (58, rdK 1 p_a1 a1.length (a1.flatMap en_u16))] (by kernel_rfl)
  refine k_seq ?_
  refine k_reg mixed H (.cons [8, 59] (ok_new (fun b => .slice (some ⟨b, 0, none⟩) 0 0) (fun ν2 => []) 2 8 59) <|
      .cons [5] (ok_val (fun ν2 => .slice (some ⟨((ν2 0).n 0), 0, none⟩) 0 0) 5) <| .nil) (by kernel_rfl) fun ν2 a w' H => ?_
  replace H := H.toL [(0, .slot true (.slice p_a0 a0.length c_a0)), (1, .slot true (.slice p_a1 a1.length c_a1)), (4, .slot true (.slice none 0 0)), (5, .slot true (.slice (some ⟨((ν2 0).n 0), 0, none⟩) 0 0)), (59, .blk ((ν2 0).n 0) [] 2), (57, rdK 2 p_a0 a0.length (a0.flatMap en_TInterval)), (58, rdK 1 p_a1 a1.length (a1.flatMap en_u16))] (by kernel_rfl)
  refine k_seq ?_
  replace G := bnd G; obtain ⟨j4, hj4, G⟩ := G
  refine k_join (fun a w' => ∃ (p_j3 : Option Addr) (c_j3 np_j3 : Nat), np_j3 = j4.length ∧ Rep w.heap.size w 57 (ofL [(4, .slot true (.slice none 0 0)), (5, .slot true (.slice p_j3 np_j3 c_j3)), (59, owK 2 1 p_j3 np_j3 c_j3 (j4.flatMap en_i64))]) a w') ?_ ?_
  · clear H; rintro a w' ⟨p_j3, c_j3, _, rfl, H⟩
    refine k_seq ?_
    refine k_reg mixed H (.cons [56] (ok_val (fun ν5 => .slice p_j3 j4.length c_j3) 56) <|
      .cons [4] (ok_val (fun ν5 => .slice p_j3 j4.length c_j3) 4) <| .nil) (by kernel_rfl) fun ν5 a w' H => ?_
    replace H := H.toL [(4, .slot true (.slice p_j3 j4.length c_j3)), (59, owK 2 1 p_j3 j4.length c_j3 (j4.flatMap en_i64))] (by kernel_rfl)
    refine k_ret ?_
    obtain rfl := Option.some.inj G
    exact k_doneR H (fun p cap => .slice p j4.length cap) p_j3 c_j3 [] 59 2 1 j4.length (j4.flatMap en_i64) (by kernel_rfl) (by kernel_rfl) (by simp) (by kernel_rfl)
  · clear G; replace G := hj4; clear hj4
    refine k_seq ?_
    refine k_reg mixed H (.cons [6] (ok_val (fun ν6 => .int .i64 0) 6) <| .nil) (by kernel_rfl) fun ν6 a w' H => ?_
    replace H := H.toL [(0, .slot true (.slice p_a0 a0.length c_a0)), (1, .slot true (.slice p_a1 a1.length c_a1)), (4, .slot true (.slice none 0 0)), (5, .slot true (.slice (some ⟨((ν2 0).n 0), 0, none⟩) 0 0)), (6, .slot true (.int .i64 0)), (59, .blk ((ν2 0).n 0) [] 2), (57, rdK 2 p_a0 a0.length (a0.flatMap en_TInterval)), (58, rdK 1 p_a1 a1.length (a1.flatMap en_u16))] (by kernel_rfl)
    refine k_block ?_
    replace H := H.blk_row 59 ((ν2 0).n 0) [] 2 1 0 (by kernel_rfl) (by kernel_rfl) (by decide)
    refine k_loopJ (fun m a w' => ∃ x7 : List Int, ∃ x8 : Int, armillaryref03_PointIn.l9 k0 a0 a1 m x7 x8 = some j4 ∧ ∃ (p_x7 : Option Addr) (c_x7 np_x7 : Nat), np_x7 = x7.length ∧ Rep w.heap.size w 57 (ofL [(0, .slot true (.slice p_a0 a0.length c_a0)), (1, .slot true (.slice p_a1 a1.length c_a1)), (4, .slot true (.slice none 0 0)), (5, .slot true (.slice p_x7 np_x7 c_x7)), (6, .slot true (.int .i64 x8)), (57, rdK 2 p_a0 a0.length (a0.flatMap en_TInterval)), (58, rdK 1 p_a1 a1.length (a1.flatMap en_u16)), (59, owK 2 1 p_x7 np_x7 c_x7 (x7.flatMap en_i64))]) a w') k0 ⟨_, _, G, (some ⟨((ν2 0).n 0), 0, none⟩), 0, _, rfl, H.toL _ (by kernel_rfl)⟩ ?_
    clear G H
    rintro (_ | k) a w' ⟨x7, x8, G, p_x7, c_x7, _, rfl, H⟩
    · exact absurd G (by unfold armillaryref03_PointIn.l9; exact fun h => by cases h)
    · unfold armillaryref03_PointIn.l9 at G
      refine k_seq ?_
      refine k_seq ?_
      refine k_reg mixed H (.cons [9] (ok_val (fun ν10 => .int .i64 x8) 9) <|
      .cons [10] (ok_val (fun ν10 => .slice p_a0 a0.length c_a0) 10) <|
      .cons [11] (ok_val (fun ν10 => .int .i64 (a0.length : Int)) 11) <|
      .cons [12] (ok_val (fun ν10 => .bool (decide (x8 < (a0.length : Int)))) 12) <| .nil) (by kernel_rfl) fun ν10 a w' H => ?_
      replace H := H.toL [(0, .slot true (.slice p_a0 a0.length c_a0)), (1, .slot true (.slice p_a1 a1.length c_a1)), (4, .slot true (.slice none 0 0)), (5, .slot true (.slice p_x7 x7.length c_x7)), (6, .slot true (.int .i64 x8)), (9, .slot true (.int .i64 x8)), (10, .slot true (.slice p_a0 a0.length c_a0)), (11, .slot true (.int .i64 (a0.length : Int))), (12, .slot true (.bool (decide (x8 < (a0.length : Int))))), (57, rdK 2 p_a0 a0.length (a0.flatMap en_TInterval)), (58, rdK 1 p_a1 a1.length (a1.flatMap en_u16)), (59, owK 2 1 p_x7 x7.length c_x7 (x7.flatMap en_i64))] (by kernel_rfl)
      refine k_cond H (by kernel_rfl) (t := decide (x8 < (a0.length : Int))) (by kernel_rfl) (fun c40 => ?_) (fun c40 => ?_)
      · rw [if_pos c40] at G
        refine k_skip ?_
        refine k_seq ?_
        replace G := bnd G; obtain ⟨j15, hj15, G⟩ := G
        refine k_join (fun a w' => ∃ (p_j11 : Option Addr) (c_j11 np_j11 : Nat), np_j11 = j15.1.length ∧ Rep w.heap.size w 57 (ofL [(0, .slot true (.slice p_a0 a0.length c_a0)), (1, .slot true (.slice p_a1 a1.length c_a1)), (4, .slot true (.slice none 0 0)), (5, .slot true (.slice p_j11 np_j11 c_j11)), (6, .slot true (.int .i64 x8)), (7, .slot true (.int .i64 j15.2.1)), (9, .slot true (.int .i64 x8)), (10, .slot true (.slice p_a0 a0.length c_a0)), (11, .slot true (.int .i64 (a0.length : Int))), (12, .slot true (.bool (decide (x8 < (a0.length : Int))))), (15, .slot true (.int .i64 x8)), (16, .slot true (.slice p_a1 a1.length c_a1)), (17, .slot true (.int .i64 (a1.length : Int))), (18, .slot true (.bool (decide (x8 < (a1.length : Int))))), (24, .slot true (.slice p_a0 a0.length c_a0)), (25, .slot true (.int .i64 x8)), (26, .slot true (.pointer (some ⟨hdB p_a0, hdO p_a0 + x8.toNat * 2, none⟩))), (27, .slot true (.agg #[.int .i64 j15.2.2.1.Lo, .int .i64 j15.2.2.1.Hi])), (28, .slot true (.bool j15.2.2.2)), (57, rdK 2 p_a0 a0.length (a0.flatMap en_TInterval)), (58, rdK 1 p_a1 a1.length (a1.flatMap en_u16)), (59, owK 2 1 p_j11 np_j11 c_j11 (j15.1.flatMap en_i64))]) a w') ?_ ?_
        · clear H; rintro a w' ⟨p_j11, c_j11, _, rfl, H⟩
          refine k_reg mixed H (.cons [13] (ok_val (fun ν16 => .int .i64 x8) 13) <|
      .cons [14] (ok_val (fun ν16 => .int .i64 (w_i64 (x8 + 1))) 14) <|
      .cons [6] (ok_val (fun ν16 => .int .i64 (w_i64 (x8 + 1))) 6) <| .nil) (by kernel_rfl) fun ν16 a w' H => ?_
          replace H := H.toL [(0, .slot true (.slice p_a0 a0.length c_a0)), (1, .slot true (.slice p_a1 a1.length c_a1)), (4, .slot true (.slice none 0 0)), (5, .slot true (.slice p_j11 j15.1.length c_j11)), (6, .slot true (.int .i64 (w_i64 (x8 + 1)))), (7, .slot true (.int .i64 j15.2.1)), (9, .slot true (.int .i64 x8)), (10, .slot true (.slice p_a0 a0.length c_a0)), (11, .slot true (.int .i64 (a0.length : Int))), (12, .slot true (.bool (decide (x8 < (a0.length : Int))))), (13, .slot true (.int .i64 x8)), (14, .slot true (.int .i64 (w_i64 (x8 + 1)))), (15, .slot true (.int .i64 x8)), (16, .slot true (.slice p_a1 a1.length c_a1)), (17, .slot true (.int .i64 (a1.length : Int))), (18, .slot true (.bool (decide (x8 < (a1.length : Int))))), (24, .slot true (.slice p_a0 a0.length c_a0)), (25, .slot true (.int .i64 x8)), (26, .slot true (.pointer (some ⟨hdB p_a0, hdO p_a0 + x8.toNat * 2, none⟩))), (27, .slot true (.agg #[.int .i64 j15.2.2.1.Lo, .int .i64 j15.2.2.1.Hi])), (28, .slot true (.bool j15.2.2.2)), (57, rdK 2 p_a0 a0.length (a0.flatMap en_TInterval)), (58, rdK 1 p_a1 a1.length (a1.flatMap en_u16)), (59, owK 2 1 p_j11 j15.1.length c_j11 (j15.1.flatMap en_i64))] (by kernel_rfl)
          exact ⟨k, Nat.lt_succ_self k, _, _, G, p_j11, c_j11, _, rfl, H.toL _ (by kernel_rfl)⟩
        · clear G; replace G := hj15; clear hj15
          refine k_block ?_
          refine k_seq ?_
          refine k_reg mixed H (.cons [7] (ok_val (fun ν17 => .int .i64 0) 7) <| .nil) (by kernel_rfl) fun ν17 a w' H => ?_
          replace H := H.toL [(0, .slot true (.slice p_a0 a0.length c_a0)), (1, .slot true (.slice p_a1 a1.length c_a1)), (4, .slot true (.slice none 0 0)), (5, .slot true (.slice p_x7 x7.length c_x7)), (6, .slot true (.int .i64 x8)), (7, .slot true (.int .i64 0)), (9, .slot true (.int .i64 x8)), (10, .slot true (.slice p_a0 a0.length c_a0)), (11, .slot true (.int .i64 (a0.length : Int))), (12, .slot true (.bool (decide (x8 < (a0.length : Int))))), (57, rdK 2 p_a0 a0.length (a0.flatMap en_TInterval)), (58, rdK 1 p_a1 a1.length (a1.flatMap en_u16)), (59, owK 2 1 p_x7 x7.length c_x7 (x7.flatMap en_i64))] (by kernel_rfl)
          refine k_seq ?_
          replace G := bnd G; obtain ⟨j19, hj19, G⟩ := G
          refine k_join (fun a w' => Rep w.heap.size w 57 (ofL [(0, .slot true (.slice p_a0 a0.length c_a0)), (1, .slot true (.slice p_a1 a1.length c_a1)), (4, .slot true (.slice none 0 0)), (5, .slot true (.slice p_x7 x7.length c_x7)), (6, .slot true (.int .i64 x8)), (7, .slot true (.int .i64 j19)), (9, .slot true (.int .i64 x8)), (10, .slot true (.slice p_a0 a0.length c_a0)), (11, .slot true (.int .i64 (a0.length : Int))), (12, .slot true (.bool (decide (x8 < (a0.length : Int))))), (15, .slot true (.int .i64 x8)), (16, .slot true (.slice p_a1 a1.length c_a1)), (17, .slot true (.int .i64 (a1.length : Int))), (18, .slot true (.bool (decide (x8 < (a1.length : Int))))), (57, rdK 2 p_a0 a0.length (a0.flatMap en_TInterval)), (58, rdK 1 p_a1 a1.length (a1.flatMap en_u16)), (59, owK 2 1 p_x7 x7.length c_x7 (x7.flatMap en_i64))]) a w') ?_ ?_
          · clear H; intro a w' H
            refine k_seq ?_
            replace G := gd G; obtain ⟨b21, G⟩ := G
            replace G := bnd G; obtain ⟨t22, ht22, G⟩ := G
            replace G := bnd G; obtain ⟨t23, ht23, G⟩ := G
            refine k_reg mixed H (.cons [24] (ok_val (fun ν20 => .slice p_a0 a0.length c_a0) 24) <|
      .cons [25] (ok_val (fun ν20 => .int .i64 x8) 25) <|
      .cons [26] (ok_valL [57] (fun ν20 => [rdK 2 p_a0 a0.length (a0.flatMap en_TInterval)]) (fun ν20 => .pointer (some ⟨hdB p_a0, hdO p_a0 + x8.toNat * 2, none⟩)) (fun ν20 => true) [true, true] 26 (fun ν20 w hg hF => run_of (by kernel_rfl) (run_ix (t := 22) (p := p_a0) (n := a0.length) (cap := c_a0) (k := .i64) (i := x8) (sz := 2) (by kernel_rfl) (by kernel_rfl) (rd_of hF.1) b21))) <|
      .cons [27] (ok_valL [57] (fun ν20 => [rdK 2 p_a0 a0.length (a0.flatMap en_TInterval)]) (fun ν20 => .agg #[.int .i64 t22.Lo, .int .i64 t22.Hi]) (fun ν20 => true) [true] 27 (fun ν20 w hg hF => ld_of (vs := [.int .i64 t22.Lo, .int .i64 t22.Hi]) (b := hdB p_a0) (off := hdO p_a0 + x8.toNat * 2 + 0) (m := 2) (by kernel_rfl) (el_cells (rd_of hF.1) en_TInterval_len ht22 0 2 rfl))) <|
      .cons [28] (ok_callv 45 (fun ν20 => #[.agg #[.int .i64 t22.Lo, .int .i64 t22.Hi]]) (.bool t23) 28 [] (fun _ w _ => armillaryref02_IsEntire.calls t22 t23 w ht23)) <| .nil) (by kernel_rfl) fun ν20 a w' H => ?_
            replace H := H.toL [(0, .slot true (.slice p_a0 a0.length c_a0)), (1, .slot true (.slice p_a1 a1.length c_a1)), (4, .slot true (.slice none 0 0)), (5, .slot true (.slice p_x7 x7.length c_x7)), (6, .slot true (.int .i64 x8)), (7, .slot true (.int .i64 j19)), (9, .slot true (.int .i64 x8)), (10, .slot true (.slice p_a0 a0.length c_a0)), (11, .slot true (.int .i64 (a0.length : Int))), (12, .slot true (.bool (decide (x8 < (a0.length : Int))))), (15, .slot true (.int .i64 x8)), (16, .slot true (.slice p_a1 a1.length c_a1)), (17, .slot true (.int .i64 (a1.length : Int))), (18, .slot true (.bool (decide (x8 < (a1.length : Int))))), (24, .slot true (.slice p_a0 a0.length c_a0)), (25, .slot true (.int .i64 x8)), (26, .slot true (.pointer (some ⟨hdB p_a0, hdO p_a0 + x8.toNat * 2, none⟩))), (27, .slot true (.agg #[.int .i64 t22.Lo, .int .i64 t22.Hi])), (28, .slot true (.bool t23)), (57, rdK 2 p_a0 a0.length (a0.flatMap en_TInterval)), (58, rdK 1 p_a1 a1.length (a1.flatMap en_u16)), (59, owK 2 1 p_x7 x7.length c_x7 (x7.flatMap en_i64))] (by kernel_rfl)
            refine k_cond H (by kernel_rfl) (t := t23) (by kernel_rfl) (fun c34 => ?_) (fun c34 => ?_)
            · rw [if_pos c34] at G
              replace G := gd G; obtain ⟨b25, G⟩ := G
              refine k_reg mixed H (.cons [29] (ok_val (fun ν24 => .slice p_x7 x7.length c_x7) 29) <|
      .cons [30] (ok_val (fun ν24 => .int .i64 j19) 30) <|
      .cons [31, 62] (ok_new (fun b => .slice (some ⟨b, 0, none⟩) 1 1) (fun ν24 => [.int .i64 j19]) 2 31 62) <|
      .cons [32, 59] (ok_rowL [59, 62] (fun ν24 => [owK 2 1 p_x7 x7.length c_x7 (x7.flatMap en_i64), .blk ((ν24 2).n 0) [.int .i64 j19] 2]) 2 1 (x7 ++ [j19]).length ((x7 ++ [j19]).flatMap en_i64) 32 59 (fun ν24 => owK 2 1 p_x7 x7.length c_x7 (x7.flatMap en_i64)) (fun ν24 w hF => run_app_row (t := 27) (ty := 27) (en := en_i64) en_i64_len inf2 (ow_of hF.1) hF.2.1 (news := [j19]) rfl (by simp) (by kernel_rfl) b25) (fun _ => .inr trivial)) <|
      .cons [5] (ok_val (fun ν24 => .slice ((ν24 3).o 0) (x7 ++ [j19]).length ((ν24 3).n 0)) 5) <| .nil) (by kernel_rfl) fun ν24 a w' H => ?_
              replace H := H.toL [(0, .slot true (.slice p_a0 a0.length c_a0)), (1, .slot true (.slice p_a1 a1.length c_a1)), (4, .slot true (.slice none 0 0)), (5, .slot true (.slice ((ν24 3).o 0) (x7 ++ [j19]).length ((ν24 3).n 0))), (6, .slot true (.int .i64 x8)), (7, .slot true (.int .i64 j19)), (9, .slot true (.int .i64 x8)), (10, .slot true (.slice p_a0 a0.length c_a0)), (11, .slot true (.int .i64 (a0.length : Int))), (12, .slot true (.bool (decide (x8 < (a0.length : Int))))), (15, .slot true (.int .i64 x8)), (16, .slot true (.slice p_a1 a1.length c_a1)), (17, .slot true (.int .i64 (a1.length : Int))), (18, .slot true (.bool (decide (x8 < (a1.length : Int))))), (24, .slot true (.slice p_a0 a0.length c_a0)), (25, .slot true (.int .i64 x8)), (26, .slot true (.pointer (some ⟨hdB p_a0, hdO p_a0 + x8.toNat * 2, none⟩))), (27, .slot true (.agg #[.int .i64 t22.Lo, .int .i64 t22.Hi])), (28, .slot true (.bool t23)), (30, .slot true (.int .i64 j19)), (31, .slot true (.slice (some ⟨((ν24 2).n 0), 0, none⟩) 1 1)), (32, .slot true (.slice ((ν24 3).o 0) (x7 ++ [j19]).length ((ν24 3).n 0))), (62, .blk ((ν24 2).n 0) [.int .i64 j19] 2), (57, rdK 2 p_a0 a0.length (a0.flatMap en_TInterval)), (58, rdK 1 p_a1 a1.length (a1.flatMap en_u16)), (59, owK 2 1 ((ν24 3).o 0) (x7 ++ [j19]).length ((ν24 3).n 0) ((x7 ++ [j19]).flatMap en_i64))] (by kernel_rfl)
              obtain rfl := Option.some.inj G
              exact ⟨((ν24 3).o 0), ((ν24 3).n 0), _, rfl, H.toL _ (by kernel_rfl)⟩
            · rw [if_neg (nt c34)] at G
              replace G := gd G; obtain ⟨b27, G⟩ := G
              replace G := bnd G; obtain ⟨t28, ht28, G⟩ := G
              replace G := gd G; obtain ⟨b29, G⟩ := G
              replace G := bnd G; obtain ⟨t30, ht30, G⟩ := G
              replace G := gd G; obtain ⟨b31, G⟩ := G
              replace G := bnd G; obtain ⟨t32, ht32, G⟩ := G
              replace G := gd G; obtain ⟨b33, G⟩ := G
              refine k_reg mixed H (.cons [33] (ok_val (fun ν26 => .slice p_x7 x7.length c_x7) 33) <|
      .cons [34] (ok_val (fun ν26 => .slice p_a0 a0.length c_a0) 34) <|
      .cons [35] (ok_val (fun ν26 => .int .i64 x8) 35) <|
      .cons [36] (ok_valL [57] (fun ν26 => [rdK 2 p_a0 a0.length (a0.flatMap en_TInterval)]) (fun ν26 => .pointer (some ⟨hdB p_a0, hdO p_a0 + x8.toNat * 2, none⟩)) (fun ν26 => true) [true, true] 36 (fun ν26 w hg hF => run_of (by kernel_rfl) (run_ix (t := 22) (p := p_a0) (n := a0.length) (cap := c_a0) (k := .i64) (i := x8) (sz := 2) (by kernel_rfl) (by kernel_rfl) (rd_of hF.1) b27))) <|
      .cons [37] (ok_val (fun ν26 => .pointer (some ⟨hdB p_a0, hdO p_a0 + x8.toNat * 2 + 0, none⟩)) 37) <|
      .cons [38] (ok_valL [57] (fun ν26 => [rdK 2 p_a0 a0.length (a0.flatMap en_TInterval)]) (fun ν26 => .int .i64 t28.Lo) (fun ν26 => true) [true] 38 (fun ν26 w hg hF => ld_of (vs := [.int .i64 t28.Lo]) (b := hdB p_a0) (off := hdO p_a0 + x8.toNat * 2 + 0) (m := 1) (by kernel_rfl) (el_cells (rd_of hF.1) en_TInterval_len ht28 0 1 rfl))) <|
      .cons [39] (ok_val (fun ν26 => .slice p_a0 a0.length c_a0) 39) <|
      .cons [40] (ok_val (fun ν26 => .int .i64 x8) 40) <|
      .cons [41] (ok_valL [57] (fun ν26 => [rdK 2 p_a0 a0.length (a0.flatMap en_TInterval)]) (fun ν26 => .pointer (some ⟨hdB p_a0, hdO p_a0 + x8.toNat * 2, none⟩)) (fun ν26 => true) [true, true] 41 (fun ν26 w hg hF => run_of (by kernel_rfl) (run_ix (t := 22) (p := p_a0) (n := a0.length) (cap := c_a0) (k := .i64) (i := x8) (sz := 2) (by kernel_rfl) (by kernel_rfl) (rd_of hF.1) b29))) <|
      .cons [42] (ok_val (fun ν26 => .pointer (some ⟨hdB p_a0, hdO p_a0 + x8.toNat * 2 + 1, none⟩)) 42) <|
      .cons [43] (ok_valL [57] (fun ν26 => [rdK 2 p_a0 a0.length (a0.flatMap en_TInterval)]) (fun ν26 => .int .i64 t30.Hi) (fun ν26 => true) [true] 43 (fun ν26 w hg hF => ld_of (vs := [.int .i64 t30.Hi]) (b := hdB p_a0) (off := hdO p_a0 + x8.toNat * 2 + 1) (m := 1) (by kernel_rfl) (el_cells (rd_of hF.1) en_TInterval_len ht30 1 1 rfl))) <|
      .cons [44] (ok_val (fun ν26 => .slice p_a0 a0.length c_a0) 44) <|
      .cons [45] (ok_val (fun ν26 => .int .i64 x8) 45) <|
      .cons [46] (ok_valL [57] (fun ν26 => [rdK 2 p_a0 a0.length (a0.flatMap en_TInterval)]) (fun ν26 => .pointer (some ⟨hdB p_a0, hdO p_a0 + x8.toNat * 2, none⟩)) (fun ν26 => true) [true, true] 46 (fun ν26 w hg hF => run_of (by kernel_rfl) (run_ix (t := 22) (p := p_a0) (n := a0.length) (cap := c_a0) (k := .i64) (i := x8) (sz := 2) (by kernel_rfl) (by kernel_rfl) (rd_of hF.1) b31))) <|
      .cons [47] (ok_val (fun ν26 => .pointer (some ⟨hdB p_a0, hdO p_a0 + x8.toNat * 2 + 0, none⟩)) 47) <|
      .cons [48] (ok_valL [57] (fun ν26 => [rdK 2 p_a0 a0.length (a0.flatMap en_TInterval)]) (fun ν26 => .int .i64 t32.Lo) (fun ν26 => true) [true] 48 (fun ν26 w hg hF => ld_of (vs := [.int .i64 t32.Lo]) (b := hdB p_a0) (off := hdO p_a0 + x8.toNat * 2 + 0) (m := 1) (by kernel_rfl) (el_cells (rd_of hF.1) en_TInterval_len ht32 0 1 rfl))) <|
      .cons [49] (ok_val (fun ν26 => .int .i64 (w_i64 (t30.Hi - t32.Lo))) 49) <|
      .cons [50] (ok_val (fun ν26 => .int .i64 j19) 50) <|
      .cons [51] (ok_val (fun ν26 => .int .i64 (w_i64 ((w_i64 (t30.Hi - t32.Lo)) * j19))) 51) <|
      .cons [52] (ok_val (fun ν26 => .int .i64 (w_i64 (Int.tdiv (w_i64 ((w_i64 (t30.Hi - t32.Lo)) * j19)) 65535))) 52) <|
      .cons [53] (ok_val (fun ν26 => .int .i64 (w_i64 (t28.Lo + (w_i64 (Int.tdiv (w_i64 ((w_i64 (t30.Hi - t32.Lo)) * j19)) 65535))))) 53) <|
      .cons [54, 63] (ok_new (fun b => .slice (some ⟨b, 0, none⟩) 1 1) (fun ν26 => [.int .i64 (w_i64 (t28.Lo + (w_i64 (Int.tdiv (w_i64 ((w_i64 (t30.Hi - t32.Lo)) * j19)) 65535))))]) 2 54 63) <|
      .cons [55, 59] (ok_rowL [59, 63] (fun ν26 => [owK 2 1 p_x7 x7.length c_x7 (x7.flatMap en_i64), .blk ((ν26 21).n 0) [.int .i64 (w_i64 (t28.Lo + (w_i64 (Int.tdiv (w_i64 ((w_i64 (t30.Hi - t32.Lo)) * j19)) 65535))))] 2]) 2 1 (x7 ++ [w_i64 (t28.Lo + (w_i64 (Int.tdiv (w_i64 ((w_i64 (t30.Hi - t32.Lo)) * j19)) 65535)))]).length ((x7 ++ [w_i64 (t28.Lo + (w_i64 (Int.tdiv (w_i64 ((w_i64 (t30.Hi - t32.Lo)) * j19)) 65535)))]).flatMap en_i64) 55 59 (fun ν26 => owK 2 1 p_x7 x7.length c_x7 (x7.flatMap en_i64)) (fun ν26 w hF => run_app_row (t := 27) (ty := 27) (en := en_i64) en_i64_len inf2 (ow_of hF.1) hF.2.1 (news := [w_i64 (t28.Lo + (w_i64 (Int.tdiv (w_i64 ((w_i64 (t30.Hi - t32.Lo)) * j19)) 65535)))]) rfl (by simp) (by kernel_rfl) b33) (fun _ => .inr trivial)) <|
      .cons [5] (ok_val (fun ν26 => .slice ((ν26 22).o 0) (x7 ++ [w_i64 (t28.Lo + (w_i64 (Int.tdiv (w_i64 ((w_i64 (t30.Hi - t32.Lo)) * j19)) 65535)))]).length ((ν26 22).n 0)) 5) <| .nil) (by kernel_rfl) fun ν26 a w' H => ?_
              replace H := H.toL [(0, .slot true (.slice p_a0 a0.length c_a0)), (1, .slot true (.slice p_a1 a1.length c_a1)), (4, .slot true (.slice none 0 0)), (5, .slot true (.slice ((ν26 22).o 0) (x7 ++ [w_i64 (t28.Lo + (w_i64 (Int.tdiv (w_i64 ((w_i64 (t30.Hi - t32.Lo)) * j19)) 65535)))]).length ((ν26 22).n 0))), (6, .slot true (.int .i64 x8)), (7, .slot true (.int .i64 j19)), (9, .slot true (.int .i64 x8)), (10, .slot true (.slice p_a0 a0.length c_a0)), (11, .slot true (.int .i64 (a0.length : Int))), (12, .slot true (.bool (decide (x8 < (a0.length : Int))))), (15, .slot true (.int .i64 x8)), (16, .slot true (.slice p_a1 a1.length c_a1)), (17, .slot true (.int .i64 (a1.length : Int))), (18, .slot true (.bool (decide (x8 < (a1.length : Int))))), (24, .slot true (.slice p_a0 a0.length c_a0)), (25, .slot true (.int .i64 x8)), (26, .slot true (.pointer (some ⟨hdB p_a0, hdO p_a0 + x8.toNat * 2, none⟩))), (27, .slot true (.agg #[.int .i64 t22.Lo, .int .i64 t22.Hi])), (28, .slot true (.bool t23)), (34, .slot true (.slice p_a0 a0.length c_a0)), (35, .slot true (.int .i64 x8)), (36, .slot true (.pointer (some ⟨hdB p_a0, hdO p_a0 + x8.toNat * 2, none⟩))), (37, .slot true (.pointer (some ⟨hdB p_a0, hdO p_a0 + x8.toNat * 2 + 0, none⟩))), (38, .slot true (.int .i64 t28.Lo)), (39, .slot true (.slice p_a0 a0.length c_a0)), (40, .slot true (.int .i64 x8)), (41, .slot true (.pointer (some ⟨hdB p_a0, hdO p_a0 + x8.toNat * 2, none⟩))), (42, .slot true (.pointer (some ⟨hdB p_a0, hdO p_a0 + x8.toNat * 2 + 1, none⟩))), (43, .slot true (.int .i64 t30.Hi)), (44, .slot true (.slice p_a0 a0.length c_a0)), (45, .slot true (.int .i64 x8)), (46, .slot true (.pointer (some ⟨hdB p_a0, hdO p_a0 + x8.toNat * 2, none⟩))), (47, .slot true (.pointer (some ⟨hdB p_a0, hdO p_a0 + x8.toNat * 2 + 0, none⟩))), (48, .slot true (.int .i64 t32.Lo)), (49, .slot true (.int .i64 (w_i64 (t30.Hi - t32.Lo)))), (50, .slot true (.int .i64 j19)), (51, .slot true (.int .i64 (w_i64 ((w_i64 (t30.Hi - t32.Lo)) * j19)))), (52, .slot true (.int .i64 (w_i64 (Int.tdiv (w_i64 ((w_i64 (t30.Hi - t32.Lo)) * j19)) 65535)))), (53, .slot true (.int .i64 (w_i64 (t28.Lo + (w_i64 (Int.tdiv (w_i64 ((w_i64 (t30.Hi - t32.Lo)) * j19)) 65535)))))), (54, .slot true (.slice (some ⟨((ν26 21).n 0), 0, none⟩) 1 1)), (55, .slot true (.slice ((ν26 22).o 0) (x7 ++ [w_i64 (t28.Lo + (w_i64 (Int.tdiv (w_i64 ((w_i64 (t30.Hi - t32.Lo)) * j19)) 65535)))]).length ((ν26 22).n 0))), (63, .blk ((ν26 21).n 0) [.int .i64 (w_i64 (t28.Lo + (w_i64 (Int.tdiv (w_i64 ((w_i64 (t30.Hi - t32.Lo)) * j19)) 65535))))] 2), (57, rdK 2 p_a0 a0.length (a0.flatMap en_TInterval)), (58, rdK 1 p_a1 a1.length (a1.flatMap en_u16)), (59, owK 2 1 ((ν26 22).o 0) (x7 ++ [w_i64 (t28.Lo + (w_i64 (Int.tdiv (w_i64 ((w_i64 (t30.Hi - t32.Lo)) * j19)) 65535)))]).length ((ν26 22).n 0) ((x7 ++ [w_i64 (t28.Lo + (w_i64 (Int.tdiv (w_i64 ((w_i64 (t30.Hi - t32.Lo)) * j19)) 65535)))]).flatMap en_i64))] (by kernel_rfl)
              obtain rfl := Option.some.inj G
              exact ⟨((ν26 22).o 0), ((ν26 22).n 0), _, rfl, H.toL _ (by kernel_rfl)⟩
          · clear G; replace G := hj19; clear hj19
            refine k_seq ?_
            refine k_reg mixed H (.cons [15] (ok_val (fun ν35 => .int .i64 x8) 15) <|
      .cons [16] (ok_val (fun ν35 => .slice p_a1 a1.length c_a1) 16) <|
      .cons [17] (ok_val (fun ν35 => .int .i64 (a1.length : Int)) 17) <|
      .cons [18] (ok_val (fun ν35 => .bool (decide (x8 < (a1.length : Int)))) 18) <| .nil) (by kernel_rfl) fun ν35 a w' H => ?_
            replace H := H.toL [(0, .slot true (.slice p_a0 a0.length c_a0)), (1, .slot true (.slice p_a1 a1.length c_a1)), (4, .slot true (.slice none 0 0)), (5, .slot true (.slice p_x7 x7.length c_x7)), (6, .slot true (.int .i64 x8)), (7, .slot true (.int .i64 0)), (9, .slot true (.int .i64 x8)), (10, .slot true (.slice p_a0 a0.length c_a0)), (11, .slot true (.int .i64 (a0.length : Int))), (12, .slot true (.bool (decide (x8 < (a0.length : Int))))), (15, .slot true (.int .i64 x8)), (16, .slot true (.slice p_a1 a1.length c_a1)), (17, .slot true (.int .i64 (a1.length : Int))), (18, .slot true (.bool (decide (x8 < (a1.length : Int))))), (57, rdK 2 p_a0 a0.length (a0.flatMap en_TInterval)), (58, rdK 1 p_a1 a1.length (a1.flatMap en_u16)), (59, owK 2 1 p_x7 x7.length c_x7 (x7.flatMap en_i64))] (by kernel_rfl)
            refine k_cond H (by kernel_rfl) (t := decide (x8 < (a1.length : Int))) (by kernel_rfl) (fun c39 => ?_) (fun c39 => ?_)
            · rw [if_pos c39] at G
              replace G := gd G; obtain ⟨b37, G⟩ := G
              replace G := bnd G; obtain ⟨t38, ht38, G⟩ := G
              refine k_reg mixed H (.cons [19] (ok_val (fun ν36 => .slice p_a1 a1.length c_a1) 19) <|
      .cons [20] (ok_val (fun ν36 => .int .i64 x8) 20) <|
      .cons [21] (ok_valL [58] (fun ν36 => [rdK 1 p_a1 a1.length (a1.flatMap en_u16)]) (fun ν36 => .pointer (some ⟨hdB p_a1, hdO p_a1 + x8.toNat * 1, none⟩)) (fun ν36 => true) [true, true] 21 (fun ν36 w hg hF => run_of (by kernel_rfl) (run_ix (t := 23) (p := p_a1) (n := a1.length) (cap := c_a1) (k := .i64) (i := x8) (sz := 1) (by kernel_rfl) (by kernel_rfl) (rd_of hF.1) b37))) <|
      .cons [22] (ok_valL [58] (fun ν36 => [rdK 1 p_a1 a1.length (a1.flatMap en_u16)]) (fun ν36 => .int .u16 t38) (fun ν36 => true) [true] 22 (fun ν36 w hg hF => ld_of (vs := [.int .u16 t38]) (b := hdB p_a1) (off := hdO p_a1 + x8.toNat * 1 + 0) (m := 1) (by kernel_rfl) (el_cells (rd_of hF.1) en_u16_len ht38 0 1 rfl))) <|
      .cons [23] (ok_val (fun ν36 => .int .i64 (w_i64 t38)) 23) <|
      .cons [7] (ok_val (fun ν36 => .int .i64 (w_i64 t38)) 7) <| .nil) (by kernel_rfl) fun ν36 a w' H => ?_
              replace H := H.toL [(0, .slot true (.slice p_a0 a0.length c_a0)), (1, .slot true (.slice p_a1 a1.length c_a1)), (4, .slot true (.slice none 0 0)), (5, .slot true (.slice p_x7 x7.length c_x7)), (6, .slot true (.int .i64 x8)), (7, .slot true (.int .i64 (w_i64 t38))), (9, .slot true (.int .i64 x8)), (10, .slot true (.slice p_a0 a0.length c_a0)), (11, .slot true (.int .i64 (a0.length : Int))), (12, .slot true (.bool (decide (x8 < (a0.length : Int))))), (15, .slot true (.int .i64 x8)), (16, .slot true (.slice p_a1 a1.length c_a1)), (17, .slot true (.int .i64 (a1.length : Int))), (18, .slot true (.bool (decide (x8 < (a1.length : Int))))), (19, .slot true (.slice p_a1 a1.length c_a1)), (20, .slot true (.int .i64 x8)), (21, .slot true (.pointer (some ⟨hdB p_a1, hdO p_a1 + x8.toNat * 1, none⟩))), (22, .slot true (.int .u16 t38)), (23, .slot true (.int .i64 (w_i64 t38))), (57, rdK 2 p_a0 a0.length (a0.flatMap en_TInterval)), (58, rdK 1 p_a1 a1.length (a1.flatMap en_u16)), (59, owK 2 1 p_x7 x7.length c_x7 (x7.flatMap en_i64))] (by kernel_rfl)
              obtain rfl := Option.some.inj G
              exact H.toL _ (by kernel_rfl)
            · rw [if_neg (nt c39)] at G
              refine k_skip ?_
              obtain rfl := Option.some.inj G
              exact H.toL _ (by kernel_rfl)
      · rw [if_neg (nt c40)] at G
        refine k_exit rfl ?_
        obtain rfl := Option.some.inj G
        exact ⟨p_x7, c_x7, _, rfl, H.toL _ (by kernel_rfl)⟩

set_option maxHeartbeats 4000000 in
theorem armillaryref01_Made.calls (a0 : Int) (r : Int) (w : World) (G : armillaryref01_Made a0 = some r) :
    Calls Try.prog 25 #[.int .i64 a0] w fun e w' => e = .returned (.int .i64 r) ∧ Below w.heap.size w w' := by
  refine k_enter (args := [.int .i64 a0]) 5 Try.func25 rfl (by kernel_rfl) (by kernel_rfl) fun a H => ?_
  unfold armillaryref01_Made at G
  refine k_seq ?_
  refine k_reg mixed H (.cons [2] (ok_val (fun ν1 => .int .i64 0) 2) <| .nil) (by kernel_rfl) fun ν1 a w' H => ?_
  replace H := H.toL [(0, .slot true (.int .i64 a0)), (2, .slot true (.int .i64 0))] (by kernel_rfl)
  refine k_seq ?_
  refine k_reg mixed H (.cons [3] (ok_val (fun ν2 => .int .i64 a0) 3) <|
      .cons [4] (ok_val (fun ν2 => .int .i64 (Int.tmod a0 16777216)) 4) <|
      .cons [2] (ok_val (fun ν2 => .int .i64 (Int.tmod a0 16777216)) 2) <| .nil) (by kernel_rfl) fun ν2 a w' H => ?_
  replace H := H.toL [(2, .slot true (.int .i64 (Int.tmod a0 16777216)))] (by kernel_rfl)
  refine k_ret ?_
  obtain rfl := Option.some.inj G
  exact k_done0 H _ (by kernel_rfl) (by kernel_rfl)

set_option maxHeartbeats 4000000 in
theorem armillarylaw03_magnitude.calls (a0 : Int) (r : Int) (w : World) (G : armillarylaw03_magnitude a0 = some r) :
    Calls Try.prog 17 #[.int .i64 a0] w fun e w' => e = .returned (.int .i64 r) ∧ Below w.heap.size w w' := by
  refine k_enter (args := [.int .i64 a0]) 10 Try.func17 rfl (by kernel_rfl) (by kernel_rfl) fun a H => ?_
  unfold armillarylaw03_magnitude at G
  refine k_seq ?_
  refine k_reg mixed H (.cons [2] (ok_val (fun ν1 => .int .i64 0) 2) <| .nil) (by kernel_rfl) fun ν1 a w' H => ?_
  replace H := H.toL [(0, .slot true (.int .i64 a0)), (2, .slot true (.int .i64 0))] (by kernel_rfl)
  refine k_seq ?_
  replace G := bnd G; obtain ⟨t3, ht3, G⟩ := G
  refine k_reg mixed H (.cons [4] (ok_val (fun ν2 => .int .i64 a0) 4) <|
      .cons [5] (ok_callv 25 (fun ν2 => #[.int .i64 a0]) (.int .i64 t3) 5 [] (fun _ w _ => armillaryref01_Made.calls a0 t3 w ht3)) <|
      .cons [3] (ok_val (fun ν2 => .int .i64 t3) 3) <| .nil) (by kernel_rfl) fun ν2 a w' H => ?_
  replace H := H.toL [(2, .slot true (.int .i64 0)), (3, .slot true (.int .i64 t3))] (by kernel_rfl)
  refine k_seq ?_
  refine k_reg mixed H (.cons [6] (ok_val (fun ν4 => .int .i64 t3) 6) <|
      .cons [7] (ok_val (fun ν4 => .int .i64 t3) 7) <|
      .cons [8] (ok_val (fun ν4 => .int .i64 (w_i64 (0 - t3))) 8) <|
      .cons [9] (ok_val (fun ν4 => .int .i64 (mx t3 (w_i64 (0 - t3)))) 9) <|
      .cons [2] (ok_val (fun ν4 => .int .i64 (mx t3 (w_i64 (0 - t3)))) 2) <| .nil) (by kernel_rfl) fun ν4 a w' H => ?_
  replace H := H.toL [(2, .slot true (.int .i64 (mx t3 (w_i64 (0 - t3)))))] (by kernel_rfl)
  refine k_ret ?_
  obtain rfl := Option.some.inj G
  exact k_done0 H _ (by kernel_rfl) (by kernel_rfl)

set_option maxHeartbeats 4000000 in
theorem armillaryref03_Valid.calls (k0 : Nat) (a0 : List TInterval) (p_a0 : Option Addr) (c_a0 : Nat) (r : Bool) (w : World) (R_p_a0 : RowAt w 2 p_a0 a0.length (a0.flatMap en_TInterval)) (G : armillaryref03_Valid k0 a0 = some r) :
    Calls Try.prog 19 #[.slice p_a0 a0.length c_a0] w fun e w' => e = .returned (.bool r) ∧ Below w.heap.size w w' := by
  refine k_enterF (args := [.slice p_a0 a0.length c_a0]) 24 [(24, rdK 2 p_a0 a0.length (a0.flatMap en_TInterval))] (by
    intro x hx
    simp only [List.mem_cons, List.not_mem_nil, or_false] at hx
    rcases hx with rfl
    exact rd_fact R_p_a0 (by decide) _) Try.func19 rfl (by kernel_rfl) (by kernel_rfl) fun a H => ?_
  unfold armillaryref03_Valid at G
  refine k_seq ?_
  refine k_reg mixed H (.cons [2] (ok_val (fun ν1 => .bool false) 2) <| .nil) (by kernel_rfl) fun ν1 a w' H => ?_
  replace H := H.toL [(0, .slot true (.slice p_a0 a0.length c_a0)), (2, .slot true (.bool false)), (24, rdK 2 p_a0 a0.length (a0.flatMap en_TInterval))] (by kernel_rfl)
  refine k_seq ?_
  replace G := bnd G; obtain ⟨j2, hj2, Gj2⟩ := G
  refine k_join (fun a w' => ∃ j2v, j2 = Sum.inr j2v ∧ Rep w.heap.size w 24 (ofL [(0, .slot true (.slice p_a0 a0.length c_a0)), (2, .slot true (.bool false)), (24, rdK 2 p_a0 a0.length (a0.flatMap en_TInterval))]) a w') ?_ ?_
  · clear H; rintro a w' ⟨j2v, rfl, H⟩; have G := Gj2; clear Gj2; dsimp only at G
    refine k_seq ?_
    refine k_reg mixed H (.cons [16] (ok_val (fun ν3 => .slice p_a0 a0.length c_a0) 16) <|
      .cons [17] (ok_val (fun ν3 => .int .i64 (a0.length : Int)) 17) <|
      .cons [18] (ok_val (fun ν3 => .bool (decide ((a0.length : Int) ≥ 1))) 18) <|
      .cons [19] (ok_val (fun ν3 => .bool (decide ((a0.length : Int) ≥ 1))) 19) <|
      .cons [20] (ok_valg (fun ν3 => .slice p_a0 a0.length c_a0) (fun ν3 => ((decide ((a0.length : Int) ≥ 1)) == true)) [true] 20) <|
      .cons [21] (ok_valg (fun ν3 => .int .i64 (a0.length : Int)) (fun ν3 => ((decide ((a0.length : Int) ≥ 1)) == true)) [false] 21) <|
      .cons [22] (ok_valg (fun ν3 => .bool (decide ((a0.length : Int) ≤ 6))) (fun ν3 => ((decide ((a0.length : Int) ≥ 1)) == true)) [false, true] 22) <|
      .cons [23] (ok_and 19 22 (fun ν3 => true) (fun ν3 => true) (fun ν3 => decide ((a0.length : Int) ≥ 1)) (fun ν3 => decide ((a0.length : Int) ≤ 6)) 23) <|
      .cons [2] (ok_val (fun ν3 => .bool ((decide ((a0.length : Int) ≥ 1)) && (decide ((a0.length : Int) ≤ 6)))) 2) <| .nil) (by kernel_rfl) fun ν3 a w' H => ?_
    replace H := H.toL [(2, .slot true (.bool ((decide ((a0.length : Int) ≥ 1)) && (decide ((a0.length : Int) ≤ 6)))))] (by kernel_rfl)
    refine k_ret ?_
    obtain rfl := Option.some.inj G
    exact k_done0 H _ (by kernel_rfl) (by kernel_rfl)
  · have G := hj2; clear hj2
    refine k_seq ?_
    refine k_reg mixed H (.cons [3] (ok_val (fun ν4 => .int .i64 0) 3) <| .nil) (by kernel_rfl) fun ν4 a w' H => ?_
    replace H := H.toL [(0, .slot true (.slice p_a0 a0.length c_a0)), (2, .slot true (.bool false)), (3, .slot true (.int .i64 0)), (24, rdK 2 p_a0 a0.length (a0.flatMap en_TInterval))] (by kernel_rfl)
    refine k_block ?_
    refine k_loopJ (fun m a w' => ∃ x5 : Int, armillaryref03_Valid.l6 k0 a0 m x5 = some j2 ∧ Rep w.heap.size w 24 (ofL [(0, .slot true (.slice p_a0 a0.length c_a0)), (2, .slot true (.bool false)), (3, .slot true (.int .i64 x5)), (24, rdK 2 p_a0 a0.length (a0.flatMap en_TInterval))]) a w') k0 ⟨_, G, H.toL _ (by kernel_rfl)⟩ ?_
    clear G H
    rintro (_ | k) a w' ⟨x5, G, H⟩
    · exact absurd G (by unfold armillaryref03_Valid.l6; exact fun h => by cases h)
    · unfold armillaryref03_Valid.l6 at G
      refine k_seq ?_
      refine k_seq ?_
      refine k_reg mixed H (.cons [4] (ok_val (fun ν7 => .int .i64 x5) 4) <|
      .cons [5] (ok_val (fun ν7 => .slice p_a0 a0.length c_a0) 5) <|
      .cons [6] (ok_val (fun ν7 => .int .i64 (a0.length : Int)) 6) <|
      .cons [7] (ok_val (fun ν7 => .bool (decide (x5 < (a0.length : Int)))) 7) <| .nil) (by kernel_rfl) fun ν7 a w' H => ?_
      replace H := H.toL [(0, .slot true (.slice p_a0 a0.length c_a0)), (2, .slot true (.bool false)), (3, .slot true (.int .i64 x5)), (4, .slot true (.int .i64 x5)), (5, .slot true (.slice p_a0 a0.length c_a0)), (6, .slot true (.int .i64 (a0.length : Int))), (7, .slot true (.bool (decide (x5 < (a0.length : Int))))), (24, rdK 2 p_a0 a0.length (a0.flatMap en_TInterval))] (by kernel_rfl)
      refine k_cond H (by kernel_rfl) (t := decide (x5 < (a0.length : Int))) (by kernel_rfl) (fun c15 => ?_) (fun c15 => ?_)
      · rw [if_pos c15] at G
        refine k_skip ?_
        refine k_seq ?_
        refine k_block ?_
        refine k_seq ?_
        replace G := gd G; obtain ⟨b9, G⟩ := G
        replace G := bnd G; obtain ⟨t10, ht10, G⟩ := G
        replace G := bnd G; obtain ⟨t11, ht11, G⟩ := G
        refine k_reg mixed H (.cons [10] (ok_val (fun ν8 => .slice p_a0 a0.length c_a0) 10) <|
      .cons [11] (ok_val (fun ν8 => .int .i64 x5) 11) <|
      .cons [12] (ok_valL [24] (fun ν8 => [rdK 2 p_a0 a0.length (a0.flatMap en_TInterval)]) (fun ν8 => .pointer (some ⟨hdB p_a0, hdO p_a0 + x5.toNat * 2, none⟩)) (fun ν8 => true) [true, true] 12 (fun ν8 w hg hF => run_of (by kernel_rfl) (run_ix (t := 22) (p := p_a0) (n := a0.length) (cap := c_a0) (k := .i64) (i := x5) (sz := 2) (by kernel_rfl) (by kernel_rfl) (rd_of hF.1) b9))) <|
      .cons [13] (ok_valL [24] (fun ν8 => [rdK 2 p_a0 a0.length (a0.flatMap en_TInterval)]) (fun ν8 => .agg #[.int .i64 t10.Lo, .int .i64 t10.Hi]) (fun ν8 => true) [true] 13 (fun ν8 w hg hF => ld_of (vs := [.int .i64 t10.Lo, .int .i64 t10.Hi]) (b := hdB p_a0) (off := hdO p_a0 + x5.toNat * 2 + 0) (m := 2) (by kernel_rfl) (el_cells (rd_of hF.1) en_TInterval_len ht10 0 2 rfl))) <|
      .cons [14] (ok_callv 58 (fun ν8 => #[.agg #[.int .i64 t10.Lo, .int .i64 t10.Hi]]) (.bool t11) 14 [] (fun _ w _ => armillaryref02_Valid.calls t10 t11 w ht11)) <|
      .cons [15] (ok_val (fun ν8 => .bool (!t11)) 15) <| .nil) (by kernel_rfl) fun ν8 a w' H => ?_
        replace H := H.toL [(0, .slot true (.slice p_a0 a0.length c_a0)), (2, .slot true (.bool false)), (3, .slot true (.int .i64 x5)), (4, .slot true (.int .i64 x5)), (5, .slot true (.slice p_a0 a0.length c_a0)), (6, .slot true (.int .i64 (a0.length : Int))), (7, .slot true (.bool (decide (x5 < (a0.length : Int))))), (10, .slot true (.slice p_a0 a0.length c_a0)), (11, .slot true (.int .i64 x5)), (12, .slot true (.pointer (some ⟨hdB p_a0, hdO p_a0 + x5.toNat * 2, none⟩))), (13, .slot true (.agg #[.int .i64 t10.Lo, .int .i64 t10.Hi])), (14, .slot true (.bool t11)), (15, .slot true (.bool (!t11))), (24, rdK 2 p_a0 a0.length (a0.flatMap en_TInterval))] (by kernel_rfl)
        refine k_cond H (by kernel_rfl) (t := (!t11)) (by kernel_rfl) (fun c14 => ?_) (fun c14 => ?_)
        · rw [if_pos c14] at G
          refine k_seq ?_
          refine k_reg mixed H (.cons [2] (ok_val (fun ν12 => .bool false) 2) <| .nil) (by kernel_rfl) fun ν12 a w' H => ?_
          replace H := H.toL [(0, .slot true (.slice p_a0 a0.length c_a0)), (2, .slot true (.bool false)), (3, .slot true (.int .i64 x5)), (4, .slot true (.int .i64 x5)), (5, .slot true (.slice p_a0 a0.length c_a0)), (6, .slot true (.int .i64 (a0.length : Int))), (7, .slot true (.bool (decide (x5 < (a0.length : Int))))), (10, .slot true (.slice p_a0 a0.length c_a0)), (11, .slot true (.int .i64 x5)), (12, .slot true (.pointer (some ⟨hdB p_a0, hdO p_a0 + x5.toNat * 2, none⟩))), (13, .slot true (.agg #[.int .i64 t10.Lo, .int .i64 t10.Hi])), (14, .slot true (.bool t11)), (15, .slot true (.bool (!t11))), (24, rdK 2 p_a0 a0.length (a0.flatMap en_TInterval))] (by kernel_rfl)
          refine k_ret ?_
          obtain rfl := Option.some.inj G
          replace G := Gj2
          obtain rfl := Option.some.inj G
          exact k_done0 H _ (by kernel_rfl) (by kernel_rfl)
        · rw [if_neg (nt c14)] at G
          refine k_skip ?_
          refine k_reg mixed H (.cons [8] (ok_val (fun ν13 => .int .i64 x5) 8) <|
      .cons [9] (ok_val (fun ν13 => .int .i64 (w_i64 (x5 + 1))) 9) <|
      .cons [3] (ok_val (fun ν13 => .int .i64 (w_i64 (x5 + 1))) 3) <| .nil) (by kernel_rfl) fun ν13 a w' H => ?_
          replace H := H.toL [(0, .slot true (.slice p_a0 a0.length c_a0)), (2, .slot true (.bool false)), (3, .slot true (.int .i64 (w_i64 (x5 + 1)))), (4, .slot true (.int .i64 x5)), (5, .slot true (.slice p_a0 a0.length c_a0)), (6, .slot true (.int .i64 (a0.length : Int))), (7, .slot true (.bool (decide (x5 < (a0.length : Int))))), (8, .slot true (.int .i64 x5)), (9, .slot true (.int .i64 (w_i64 (x5 + 1)))), (10, .slot true (.slice p_a0 a0.length c_a0)), (11, .slot true (.int .i64 x5)), (12, .slot true (.pointer (some ⟨hdB p_a0, hdO p_a0 + x5.toNat * 2, none⟩))), (13, .slot true (.agg #[.int .i64 t10.Lo, .int .i64 t10.Hi])), (14, .slot true (.bool t11)), (15, .slot true (.bool (!t11))), (24, rdK 2 p_a0 a0.length (a0.flatMap en_TInterval))] (by kernel_rfl)
          exact ⟨k, Nat.lt_succ_self k, _, G, H.toL _ (by kernel_rfl)⟩
      · rw [if_neg (nt c15)] at G
        refine k_exit rfl ?_
        obtain rfl := Option.some.inj G
        exact ⟨_, rfl, H.toL _ (by kernel_rfl)⟩

set_option maxHeartbeats 4000000 in
theorem armillaryref02_Contains.calls (a0 : TInterval) (a1 : Int) (r : Bool) (w : World) (G : armillaryref02_Contains a0 a1 = some r) :
    Calls Try.prog 60 #[.agg #[.int .i64 a0.Lo, .int .i64 a0.Hi], .int .i64 a1] w fun e w' => e = .returned (.bool r) ∧ Below w.heap.size w w' := by
  refine k_enter (args := [.agg #[.int .i64 a0.Lo, .int .i64 a0.Hi], .int .i64 a1]) 19 Try.func60 rfl (by kernel_rfl) (by kernel_rfl) fun a H => ?_
  unfold armillaryref02_Contains at G
  refine k_seq ?_
  refine k_reg mixed H (.cons [2, 19] (ok_new (fun b => .pointer (some ⟨b, 0, none⟩)) (fun ν1 => [.int .i64 a0.Lo, .int .i64 a0.Hi]) 40 2 19) <|
      .cons [4] (ok_val (fun ν1 => .bool false) 4) <| .nil) (by kernel_rfl) fun ν1 a w' H => ?_
  replace H := H.toL [(1, .slot true (.int .i64 a1)), (2, .slot true (.pointer (some ⟨((ν1 0).n 0), 0, none⟩))), (4, .slot true (.bool false)), (19, .blk ((ν1 0).n 0) [.int .i64 a0.Lo, .int .i64 a0.Hi] 40)] (by kernel_rfl)
  refine k_seq ?_
  replace G := bnd G; obtain ⟨t3, ht3, G⟩ := G
  refine k_reg mixed H (.cons [5] (ok_ld (fun ν2 => .agg #[.int .i64 a0.Lo, .int .i64 a0.Hi]) 5 19 0 2 (fun ν2 => ((ν1 0).n 0)) (fun ν2 => [.int .i64 a0.Lo, .int .i64 a0.Hi]) 40) <|
      .cons [6] (ok_callv 45 (fun ν2 => #[.agg #[.int .i64 a0.Lo, .int .i64 a0.Hi]]) (.bool t3) 6 [] (fun _ w _ => armillaryref02_IsEntire.calls a0 t3 w ht3)) <|
      .cons [7] (ok_val (fun ν2 => .bool t3) 7) <|
      .cons [8] (ok_valg (fun ν2 => .pointer (some ⟨((ν1 0).n 0), 0, none⟩)) (fun ν2 => (t3 == false)) [true] 8) <|
      .cons [9] (ok_ldg (fun ν2 => .int .i64 a0.Lo) (fun ν2 => (t3 == false)) [false] 9 19 0 1 (fun ν2 => ((ν1 0).n 0)) (fun ν2 => [.int .i64 a0.Lo, .int .i64 a0.Hi]) 40) <|
      .cons [10] (ok_valg (fun ν2 => .int .i64 a1) (fun ν2 => (t3 == false)) [true] 10) <|
      .cons [11] (ok_valg (fun ν2 => .bool (decide (a0.Lo ≤ a1))) (fun ν2 => (t3 == false)) [false, false] 11) <|
      .cons [12] (ok_valg (fun ν2 => .bool (decide (a0.Lo ≤ a1))) (fun ν2 => (t3 == false)) [false] 12) <|
      .cons [13] (ok_valg (fun ν2 => .int .i64 a1) (fun ν2 => ((t3 == false) && ((decide (a0.Lo ≤ a1)) == true))) [true] 13) <|
      .cons [14] (ok_valg (fun ν2 => .pointer (some ⟨((ν1 0).n 0), 1, none⟩)) (fun ν2 => ((t3 == false) && ((decide (a0.Lo ≤ a1)) == true))) [true] 14) <|
      .cons [15] (ok_ldg (fun ν2 => .int .i64 a0.Hi) (fun ν2 => ((t3 == false) && ((decide (a0.Lo ≤ a1)) == true))) [false] 15 19 1 1 (fun ν2 => ((ν1 0).n 0)) (fun ν2 => [.int .i64 a0.Lo, .int .i64 a0.Hi]) 40) <|
      .cons [16] (ok_valg (fun ν2 => .bool (decide (a1 ≤ a0.Hi))) (fun ν2 => ((t3 == false) && ((decide (a0.Lo ≤ a1)) == true))) [false, false] 16) <|
      .cons [17] (ok_and 12 16 (fun ν2 => (t3 == false)) (fun ν2 => (t3 == false)) (fun ν2 => decide (a0.Lo ≤ a1)) (fun ν2 => decide (a1 ≤ a0.Hi)) 17) <|
      .cons [18] (ok_or 7 17 (fun ν2 => true) (fun ν2 => true) (fun ν2 => t3) (fun ν2 => ((decide (a0.Lo ≤ a1)) && (decide (a1 ≤ a0.Hi)))) 18) <|
      .cons [4] (ok_val (fun ν2 => .bool (t3 || ((decide (a0.Lo ≤ a1)) && (decide (a1 ≤ a0.Hi))))) 4) <| .nil) (by kernel_rfl) fun ν2 a w' H => ?_
  replace H := H.toL [(4, .slot true (.bool (t3 || ((decide (a0.Lo ≤ a1)) && (decide (a1 ≤ a0.Hi))))))] (by kernel_rfl)
  refine k_ret ?_
  obtain rfl := Option.some.inj G
  exact k_done0 H _ (by kernel_rfl) (by kernel_rfl)

set_option maxHeartbeats 4000000 in
theorem armillaryref03_Contains.calls (k0 : Nat) (a0 : List TInterval) (a1 : List Int) (p_a0 : Option Addr) (c_a0 : Nat) (p_a1 : Option Addr) (c_a1 : Nat) (r : Bool) (w : World) (R_p_a0 : RowAt w 2 p_a0 a0.length (a0.flatMap en_TInterval)) (R_p_a1 : RowAt w 1 p_a1 a1.length (a1.flatMap en_i64)) (G : armillaryref03_Contains k0 a0 a1 = some r) :
    Calls Try.prog 22 #[.slice p_a0 a0.length c_a0, .slice p_a1 a1.length c_a1] w fun e w' => e = .returned (.bool r) ∧ Below w.heap.size w w' := by
  refine k_enterF (args := [.slice p_a0 a0.length c_a0, .slice p_a1 a1.length c_a1]) 22 [(22, rdK 2 p_a0 a0.length (a0.flatMap en_TInterval)), (23, rdK 1 p_a1 a1.length (a1.flatMap en_i64))] (by
    intro x hx
    simp only [List.mem_cons, List.not_mem_nil, or_false] at hx
    rcases hx with rfl | rfl
    · exact rd_fact R_p_a0 (by decide) _
    · exact rd_fact R_p_a1 (by decide) _) Try.func22 rfl (by kernel_rfl) (by kernel_rfl) fun a H => ?_
  unfold armillaryref03_Contains at G
  refine k_seq ?_
  refine k_reg mixed H (.cons [4] (ok_val (fun ν1 => .bool false) 4) <| .nil) (by kernel_rfl) fun ν1 a w' H => ?_
  replace H := H.toL [(0, .slot true (.slice p_a0 a0.length c_a0)), (1, .slot true (.slice p_a1 a1.length c_a1)), (4, .slot true (.bool false)), (22, rdK 2 p_a0 a0.length (a0.flatMap en_TInterval)), (23, rdK 1 p_a1 a1.length (a1.flatMap en_i64))] (by kernel_rfl)
  refine k_seq ?_
  replace G := bnd G; obtain ⟨j2, hj2, Gj2⟩ := G
  refine k_join (fun a w' => ∃ j2v, j2 = Sum.inr j2v ∧ Rep w.heap.size w 22 (ofL [(4, .slot true (.bool false))]) a w') ?_ ?_
  · clear H; rintro a w' ⟨j2v, rfl, H⟩; have G := Gj2; clear Gj2; dsimp only at G
    refine k_seq ?_
    refine k_reg mixed H (.cons [4] (ok_val (fun ν3 => .bool true) 4) <| .nil) (by kernel_rfl) fun ν3 a w' H => ?_
    replace H := H.toL [(4, .slot true (.bool true))] (by kernel_rfl)
    refine k_ret ?_
    obtain rfl := Option.some.inj G
    exact k_done0 H _ (by kernel_rfl) (by kernel_rfl)
  · have G := hj2; clear hj2
    refine k_seq ?_
    refine k_reg mixed H (.cons [5] (ok_val (fun ν4 => .int .i64 0) 5) <| .nil) (by kernel_rfl) fun ν4 a w' H => ?_
    replace H := H.toL [(0, .slot true (.slice p_a0 a0.length c_a0)), (1, .slot true (.slice p_a1 a1.length c_a1)), (4, .slot true (.bool false)), (5, .slot true (.int .i64 0)), (22, rdK 2 p_a0 a0.length (a0.flatMap en_TInterval)), (23, rdK 1 p_a1 a1.length (a1.flatMap en_i64))] (by kernel_rfl)
    refine k_block ?_
    refine k_loopJ (fun m a w' => ∃ x5 : Int, armillaryref03_Contains.l6 k0 a0 a1 m x5 = some j2 ∧ Rep w.heap.size w 22 (ofL [(0, .slot true (.slice p_a0 a0.length c_a0)), (1, .slot true (.slice p_a1 a1.length c_a1)), (4, .slot true (.bool false)), (5, .slot true (.int .i64 x5)), (22, rdK 2 p_a0 a0.length (a0.flatMap en_TInterval)), (23, rdK 1 p_a1 a1.length (a1.flatMap en_i64))]) a w') k0 ⟨_, G, H.toL _ (by kernel_rfl)⟩ ?_
    clear G H
    rintro (_ | k) a w' ⟨x5, G, H⟩
    · exact absurd G (by unfold armillaryref03_Contains.l6; exact fun h => by cases h)
    · unfold armillaryref03_Contains.l6 at G
      refine k_seq ?_
      refine k_seq ?_
      refine k_reg mixed H (.cons [6] (ok_val (fun ν7 => .int .i64 x5) 6) <|
      .cons [7] (ok_val (fun ν7 => .slice p_a0 a0.length c_a0) 7) <|
      .cons [8] (ok_val (fun ν7 => .int .i64 (a0.length : Int)) 8) <|
      .cons [9] (ok_val (fun ν7 => .bool (decide (x5 < (a0.length : Int)))) 9) <| .nil) (by kernel_rfl) fun ν7 a w' H => ?_
      replace H := H.toL [(0, .slot true (.slice p_a0 a0.length c_a0)), (1, .slot true (.slice p_a1 a1.length c_a1)), (4, .slot true (.bool false)), (5, .slot true (.int .i64 x5)), (6, .slot true (.int .i64 x5)), (7, .slot true (.slice p_a0 a0.length c_a0)), (8, .slot true (.int .i64 (a0.length : Int))), (9, .slot true (.bool (decide (x5 < (a0.length : Int))))), (22, rdK 2 p_a0 a0.length (a0.flatMap en_TInterval)), (23, rdK 1 p_a1 a1.length (a1.flatMap en_i64))] (by kernel_rfl)
      refine k_cond H (by kernel_rfl) (t := decide (x5 < (a0.length : Int))) (by kernel_rfl) (fun c17 => ?_) (fun c17 => ?_)
      · rw [if_pos c17] at G
        refine k_skip ?_
        refine k_seq ?_
        refine k_block ?_
        refine k_seq ?_
        replace G := gd G; obtain ⟨b9, G⟩ := G
        replace G := bnd G; obtain ⟨t10, ht10, G⟩ := G
        replace G := gd G; obtain ⟨b11, G⟩ := G
        replace G := bnd G; obtain ⟨t12, ht12, G⟩ := G
        replace G := bnd G; obtain ⟨t13, ht13, G⟩ := G
        refine k_reg mixed H (.cons [12] (ok_val (fun ν8 => .slice p_a0 a0.length c_a0) 12) <|
      .cons [13] (ok_val (fun ν8 => .int .i64 x5) 13) <|
      .cons [14] (ok_valL [22] (fun ν8 => [rdK 2 p_a0 a0.length (a0.flatMap en_TInterval)]) (fun ν8 => .pointer (some ⟨hdB p_a0, hdO p_a0 + x5.toNat * 2, none⟩)) (fun ν8 => true) [true, true] 14 (fun ν8 w hg hF => run_of (by kernel_rfl) (run_ix (t := 22) (p := p_a0) (n := a0.length) (cap := c_a0) (k := .i64) (i := x5) (sz := 2) (by kernel_rfl) (by kernel_rfl) (rd_of hF.1) b9))) <|
      .cons [15] (ok_valL [22] (fun ν8 => [rdK 2 p_a0 a0.length (a0.flatMap en_TInterval)]) (fun ν8 => .agg #[.int .i64 t10.Lo, .int .i64 t10.Hi]) (fun ν8 => true) [true] 15 (fun ν8 w hg hF => ld_of (vs := [.int .i64 t10.Lo, .int .i64 t10.Hi]) (b := hdB p_a0) (off := hdO p_a0 + x5.toNat * 2 + 0) (m := 2) (by kernel_rfl) (el_cells (rd_of hF.1) en_TInterval_len ht10 0 2 rfl))) <|
      .cons [16] (ok_val (fun ν8 => .slice p_a1 a1.length c_a1) 16) <|
      .cons [17] (ok_val (fun ν8 => .int .i64 x5) 17) <|
      .cons [18] (ok_valL [23] (fun ν8 => [rdK 1 p_a1 a1.length (a1.flatMap en_i64)]) (fun ν8 => .pointer (some ⟨hdB p_a1, hdO p_a1 + x5.toNat * 1, none⟩)) (fun ν8 => true) [true, true] 18 (fun ν8 w hg hF => run_of (by kernel_rfl) (run_ix (t := 27) (p := p_a1) (n := a1.length) (cap := c_a1) (k := .i64) (i := x5) (sz := 1) (by kernel_rfl) (by kernel_rfl) (rd_of hF.1) b11))) <|
      .cons [19] (ok_valL [23] (fun ν8 => [rdK 1 p_a1 a1.length (a1.flatMap en_i64)]) (fun ν8 => .int .i64 t12) (fun ν8 => true) [true] 19 (fun ν8 w hg hF => ld_of (vs := [.int .i64 t12]) (b := hdB p_a1) (off := hdO p_a1 + x5.toNat * 1 + 0) (m := 1) (by kernel_rfl) (el_cells (rd_of hF.1) en_i64_len ht12 0 1 rfl))) <|
      .cons [20] (ok_callv 60 (fun ν8 => #[.agg #[.int .i64 t10.Lo, .int .i64 t10.Hi], .int .i64 t12]) (.bool t13) 20 [] (fun _ w _ => armillaryref02_Contains.calls t10 t12 t13 w ht13)) <|
      .cons [21] (ok_val (fun ν8 => .bool (!t13)) 21) <| .nil) (by kernel_rfl) fun ν8 a w' H => ?_
        replace H := H.toL [(0, .slot true (.slice p_a0 a0.length c_a0)), (1, .slot true (.slice p_a1 a1.length c_a1)), (4, .slot true (.bool false)), (5, .slot true (.int .i64 x5)), (6, .slot true (.int .i64 x5)), (7, .slot true (.slice p_a0 a0.length c_a0)), (8, .slot true (.int .i64 (a0.length : Int))), (9, .slot true (.bool (decide (x5 < (a0.length : Int))))), (12, .slot true (.slice p_a0 a0.length c_a0)), (13, .slot true (.int .i64 x5)), (14, .slot true (.pointer (some ⟨hdB p_a0, hdO p_a0 + x5.toNat * 2, none⟩))), (15, .slot true (.agg #[.int .i64 t10.Lo, .int .i64 t10.Hi])), (16, .slot true (.slice p_a1 a1.length c_a1)), (17, .slot true (.int .i64 x5)), (18, .slot true (.pointer (some ⟨hdB p_a1, hdO p_a1 + x5.toNat * 1, none⟩))), (19, .slot true (.int .i64 t12)), (20, .slot true (.bool t13)), (21, .slot true (.bool (!t13))), (22, rdK 2 p_a0 a0.length (a0.flatMap en_TInterval)), (23, rdK 1 p_a1 a1.length (a1.flatMap en_i64))] (by kernel_rfl)
        refine k_cond H (by kernel_rfl) (t := (!t13)) (by kernel_rfl) (fun c16 => ?_) (fun c16 => ?_)
        · rw [if_pos c16] at G
          refine k_seq ?_
          refine k_reg mixed H (.cons [4] (ok_val (fun ν14 => .bool false) 4) <| .nil) (by kernel_rfl) fun ν14 a w' H => ?_
          replace H := H.toL [(0, .slot true (.slice p_a0 a0.length c_a0)), (1, .slot true (.slice p_a1 a1.length c_a1)), (4, .slot true (.bool false)), (5, .slot true (.int .i64 x5)), (6, .slot true (.int .i64 x5)), (7, .slot true (.slice p_a0 a0.length c_a0)), (8, .slot true (.int .i64 (a0.length : Int))), (9, .slot true (.bool (decide (x5 < (a0.length : Int))))), (12, .slot true (.slice p_a0 a0.length c_a0)), (13, .slot true (.int .i64 x5)), (14, .slot true (.pointer (some ⟨hdB p_a0, hdO p_a0 + x5.toNat * 2, none⟩))), (15, .slot true (.agg #[.int .i64 t10.Lo, .int .i64 t10.Hi])), (16, .slot true (.slice p_a1 a1.length c_a1)), (17, .slot true (.int .i64 x5)), (18, .slot true (.pointer (some ⟨hdB p_a1, hdO p_a1 + x5.toNat * 1, none⟩))), (19, .slot true (.int .i64 t12)), (20, .slot true (.bool t13)), (21, .slot true (.bool (!t13))), (22, rdK 2 p_a0 a0.length (a0.flatMap en_TInterval)), (23, rdK 1 p_a1 a1.length (a1.flatMap en_i64))] (by kernel_rfl)
          refine k_ret ?_
          obtain rfl := Option.some.inj G
          replace G := Gj2
          obtain rfl := Option.some.inj G
          exact k_done0 H _ (by kernel_rfl) (by kernel_rfl)
        · rw [if_neg (nt c16)] at G
          refine k_skip ?_
          refine k_reg mixed H (.cons [10] (ok_val (fun ν15 => .int .i64 x5) 10) <|
      .cons [11] (ok_val (fun ν15 => .int .i64 (w_i64 (x5 + 1))) 11) <|
      .cons [5] (ok_val (fun ν15 => .int .i64 (w_i64 (x5 + 1))) 5) <| .nil) (by kernel_rfl) fun ν15 a w' H => ?_
          replace H := H.toL [(0, .slot true (.slice p_a0 a0.length c_a0)), (1, .slot true (.slice p_a1 a1.length c_a1)), (4, .slot true (.bool false)), (5, .slot true (.int .i64 (w_i64 (x5 + 1)))), (6, .slot true (.int .i64 x5)), (7, .slot true (.slice p_a0 a0.length c_a0)), (8, .slot true (.int .i64 (a0.length : Int))), (9, .slot true (.bool (decide (x5 < (a0.length : Int))))), (10, .slot true (.int .i64 x5)), (11, .slot true (.int .i64 (w_i64 (x5 + 1)))), (12, .slot true (.slice p_a0 a0.length c_a0)), (13, .slot true (.int .i64 x5)), (14, .slot true (.pointer (some ⟨hdB p_a0, hdO p_a0 + x5.toNat * 2, none⟩))), (15, .slot true (.agg #[.int .i64 t10.Lo, .int .i64 t10.Hi])), (16, .slot true (.slice p_a1 a1.length c_a1)), (17, .slot true (.int .i64 x5)), (18, .slot true (.pointer (some ⟨hdB p_a1, hdO p_a1 + x5.toNat * 1, none⟩))), (19, .slot true (.int .i64 t12)), (20, .slot true (.bool t13)), (21, .slot true (.bool (!t13))), (22, rdK 2 p_a0 a0.length (a0.flatMap en_TInterval)), (23, rdK 1 p_a1 a1.length (a1.flatMap en_i64))] (by kernel_rfl)
          exact ⟨k, Nat.lt_succ_self k, _, G, H.toL _ (by kernel_rfl)⟩
      · rw [if_neg (nt c17)] at G
        refine k_exit rfl ?_
        obtain rfl := Option.some.inj G
        exact ⟨_, rfl, H.toL _ (by kernel_rfl)⟩

set_option maxHeartbeats 4000000 in
theorem armillaryref02_Subset.calls (a0 : TInterval) (a1 : TInterval) (r : Bool) (w : World) (G : armillaryref02_Subset a0 a1 = some r) :
    Calls Try.prog 62 #[.agg #[.int .i64 a0.Lo, .int .i64 a0.Hi], .agg #[.int .i64 a1.Lo, .int .i64 a1.Hi]] w fun e w' => e = .returned (.bool r) ∧ Below w.heap.size w w' := by
  refine k_enter (args := [.agg #[.int .i64 a0.Lo, .int .i64 a0.Hi], .agg #[.int .i64 a1.Lo, .int .i64 a1.Hi]]) 17 Try.func62 rfl (by kernel_rfl) (by kernel_rfl) fun a H => ?_
  unfold armillaryref02_Subset at G
  refine k_seq ?_
  refine k_reg mixed H (.cons [2, 17] (ok_new (fun b => .pointer (some ⟨b, 0, none⟩)) (fun ν1 => [.int .i64 a0.Lo, .int .i64 a0.Hi]) 40 2 17) <|
      .cons [3, 18] (ok_new (fun b => .pointer (some ⟨b, 0, none⟩)) (fun ν1 => [.int .i64 a1.Lo, .int .i64 a1.Hi]) 40 3 18) <|
      .cons [4] (ok_val (fun ν1 => .bool false) 4) <| .nil) (by kernel_rfl) fun ν1 a w' H => ?_
  replace H := H.toL [(2, .slot true (.pointer (some ⟨((ν1 0).n 0), 0, none⟩))), (3, .slot true (.pointer (some ⟨((ν1 1).n 0), 0, none⟩))), (4, .slot true (.bool false)), (17, .blk ((ν1 0).n 0) [.int .i64 a0.Lo, .int .i64 a0.Hi] 40), (18, .blk ((ν1 1).n 0) [.int .i64 a1.Lo, .int .i64 a1.Hi] 40)] (by kernel_rfl)
  refine k_seq ?_
  refine k_reg mixed H (.cons [5] (ok_val (fun ν2 => .pointer (some ⟨((ν1 1).n 0), 0, none⟩)) 5) <|
      .cons [6] (ok_ld (fun ν2 => .int .i64 a1.Lo) 6 18 0 1 (fun ν2 => ((ν1 1).n 0)) (fun ν2 => [.int .i64 a1.Lo, .int .i64 a1.Hi]) 40) <|
      .cons [7] (ok_val (fun ν2 => .pointer (some ⟨((ν1 0).n 0), 0, none⟩)) 7) <|
      .cons [8] (ok_ld (fun ν2 => .int .i64 a0.Lo) 8 17 0 1 (fun ν2 => ((ν1 0).n 0)) (fun ν2 => [.int .i64 a0.Lo, .int .i64 a0.Hi]) 40) <|
      .cons [9] (ok_val (fun ν2 => .bool (decide (a1.Lo ≤ a0.Lo))) 9) <|
      .cons [10] (ok_val (fun ν2 => .bool (decide (a1.Lo ≤ a0.Lo))) 10) <|
      .cons [11] (ok_valg (fun ν2 => .pointer (some ⟨((ν1 0).n 0), 1, none⟩)) (fun ν2 => ((decide (a1.Lo ≤ a0.Lo)) == true)) [true] 11) <|
      .cons [12] (ok_ldg (fun ν2 => .int .i64 a0.Hi) (fun ν2 => ((decide (a1.Lo ≤ a0.Lo)) == true)) [false] 12 17 1 1 (fun ν2 => ((ν1 0).n 0)) (fun ν2 => [.int .i64 a0.Lo, .int .i64 a0.Hi]) 40) <|
      .cons [13] (ok_valg (fun ν2 => .pointer (some ⟨((ν1 1).n 0), 1, none⟩)) (fun ν2 => ((decide (a1.Lo ≤ a0.Lo)) == true)) [true] 13) <|
      .cons [14] (ok_ldg (fun ν2 => .int .i64 a1.Hi) (fun ν2 => ((decide (a1.Lo ≤ a0.Lo)) == true)) [false] 14 18 1 1 (fun ν2 => ((ν1 1).n 0)) (fun ν2 => [.int .i64 a1.Lo, .int .i64 a1.Hi]) 40) <|
      .cons [15] (ok_valg (fun ν2 => .bool (decide (a0.Hi ≤ a1.Hi))) (fun ν2 => ((decide (a1.Lo ≤ a0.Lo)) == true)) [false, false] 15) <|
      .cons [16] (ok_and 10 15 (fun ν2 => true) (fun ν2 => true) (fun ν2 => decide (a1.Lo ≤ a0.Lo)) (fun ν2 => decide (a0.Hi ≤ a1.Hi)) 16) <|
      .cons [4] (ok_val (fun ν2 => .bool ((decide (a1.Lo ≤ a0.Lo)) && (decide (a0.Hi ≤ a1.Hi)))) 4) <| .nil) (by kernel_rfl) fun ν2 a w' H => ?_
  replace H := H.toL [(4, .slot true (.bool ((decide (a1.Lo ≤ a0.Lo)) && (decide (a0.Hi ≤ a1.Hi)))))] (by kernel_rfl)
  refine k_ret ?_
  obtain rfl := Option.some.inj G
  exact k_done0 H _ (by kernel_rfl) (by kernel_rfl)

end Go.Proofs.Ytgccinodonkgjaa
