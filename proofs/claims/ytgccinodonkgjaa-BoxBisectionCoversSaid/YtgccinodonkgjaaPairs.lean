/- The iterator box.pairs: its contract. Own work. -/
import Derived.Test.YtgccinodonkgjaaEn
set_option linter.unusedVariables false
set_option maxRecDepth 100000
namespace Go.Proofs.Ytgccinodonkgjaa
open Go Go.RowKit Go.Sx Go.Proofs
abbrev enI (x : TInterval) : Value := .agg #[.int .i64 x.Lo, .int .i64 x.Hi]
def pairsF (wc : World) (J : World → Prop) (bb b : Nat) (pb : Option Addr) (cb : Nat) (bv : List TInterval) (x : TInterval) (w : World) : Prop :=
  (Below 0 wc w → J w) ∧ w.heap[bb]? = some (.cells [.slice pb bv.length cb].toArray 22 (0, 0)) ∧ RowAt w 2 pb bv.length (bv.flatMap en_TInterval) ∧ w.heap[b]? = some (.cells [.int .i64 x.Lo, .int .i64 x.Hi].toArray 40 (0, 0))
abbrev pairsK (n : Nat) (wc : World) (J : World → Prop) (bb b : Nat) (pb : Option Addr) (cb : Nat) (bv : List TInterval) (x : TInterval) : KV := .fact (· < n) (pairsF wc J bb b pb cb bv x)
theorem pairsK_of {n : Nat} {wc : World} {J : World → Prop} {bb b : Nat} {pb : Option Addr} {cb : Nat} {bv : List TInterval} {x : TInterval} {w : World} (h : (pairsK n wc J bb b pb cb bv x).holds w) : pairsF wc J bb b pb cb bv x w := h w (agree.refl _ _)
set_option maxHeartbeats 4000000 in
theorem box_pairs_1.iter (av bv : List TInterval) (hlen : av.length ≤ bv.length) (hbd : av.length < 1000000) (ba bb : Nat) (pa pb : Option Addr) (ca cb l : Nat) (J : List (TInterval × TInterval) → World → Prop) (JX : World → Prop)
    (hJ : ∀ r W W', J r W → Below W.heap.size W W' → J r W') (hJX : ∀ W W', JX W → Below W.heap.size W W' → JX W')
    (hF : ∀ r W, J r W → W.heap[ba]? = some (.cells [.slice pa av.length ca].toArray 22 (0, 0)) ∧ W.heap[bb]? = some (.cells [.slice pb bv.length cb].toArray 22 (0, 0)) ∧ RowAt W 2 pa av.length (av.flatMap en_TInterval) ∧ RowAt W 2 pb bv.length (bv.flatMap en_TInterval))
    (wc : World) (hJc : ∀ r W, J r W → Below 0 wc W) (hXc : ∀ W, JX W → Below 0 wc W)
    (hY : ∀ x rest W, J (x :: rest) W → YieldAt (WF none) 0 Try.prog l #[enI x.1, enI x.2] W fun e W' => (e = .returned (.bool true) ∧ J rest W') ∨ (e = .returned (.bool false) ∧ JX W'))
    (W : World) (h0 : J (av.zip bv) W) :
    CallsIn (WF none) 0 Try.prog 91 #[.func (.yield l) #[] #[], .pointer (some ⟨ba, 0, none⟩), .pointer (some ⟨bb, 0, none⟩)] W fun e W' => (∃ v, e = .returned v) ∧ (J [] W' ∨ JX W') := by
  refine y_enter (args := [.func (.yield l) #[] #[], .pointer (some ⟨ba, 0, none⟩), .pointer (some ⟨bb, 0, none⟩)]) 22 Try.func91 rfl (by kernel_rfl) (by kernel_rfl) fun a H => ?_
  have hf0 := hF _ _ h0
  replace H := H.again W (Below.refl _ _) (Nat.le_refl _) [(22, bxK ba [.slice pa av.length ca] 22)] (by
    intro x hx
    simp only [List.mem_cons, List.not_mem_nil, or_false] at hx
    subst hx
    exact bx_fact hf0.1 22)
  refine r_seq ?_
  refine r_reg mixed H (.cons [6] (ok_ldK (fun _ => .slice pa av.length ca) 6 22 (bxK ba [.slice pa av.length ca] 22) ba 0 1 [.slice pa av.length ca] (fun w h => bx_of h)) <|
    .cons [7] (ok_val (fun _ => .int .i64 (av.length : Int)) 7) <|
    .cons [8] (ok_val (fun _ => .int .i64 0) 8) <| .nil) (by kernel_rfl) (by kernel_rfl) fun ν1 a w H => ?_
  have hj := hJ _ _ _ h0 H.below
  replace H := (H.restart w (hJc _ _ hj) (Nat.zero_le _)).toL [(0, .slot true (.func (.yield l) #[] #[])), (2, .slot true (.pointer (some ⟨bb, 0, none⟩))), (6, .slot true (.slice pa av.length ca)), (7, .slot true (.int .i64 (av.length : Int))), (8, .slot true (.int .i64 ((0 : Nat) : Int)))] (by kernel_rfl)
  refine r_block ?_
  refine r_loopJ (fun m a w => ∃ i : Nat, m = av.length - i ∧ i ≤ av.length ∧ J ((av.zip bv).drop i) w ∧ Rep 0 wc 22 (ofL [(0, .slot true (.func (.yield l) #[] #[])), (2, .slot true (.pointer (some ⟨bb, 0, none⟩))), (6, .slot true (.slice pa av.length ca)), (7, .slot true (.int .i64 (av.length : Int))), (8, .slot true (.int .i64 (i : Int)))]) a w) av.length ⟨0, by omega, by omega, hj, H⟩ ?_
  clear H hj hf0
  rintro m a w ⟨i, rfl, hi, hj, H⟩
  obtain ⟨hA, hB, hRA, hRB⟩ := hF _ _ hj
  replace H := H.again w (Below.refl w.heap.size w) (Nat.le_refl _) [(24, rdK 2 pa av.length (av.flatMap en_TInterval))] (by
    intro x hx
    simp only [List.mem_cons, List.not_mem_nil, or_false] at hx
    subst hx
    exact rd_fact hRA (by decide) 24)
  refine r_seq ?_
  refine r_reg mixed H (.cons [9] (ok_val (fun _ => .bool (decide ((i : Int) < (av.length : Int)))) 9) <| .nil) (by kernel_rfl) (by kernel_rfl) fun ν2 a w1 H => ?_
  replace H := H.toL [(0, .slot true (.func (.yield l) #[] #[])), (2, .slot true (.pointer (some ⟨bb, 0, none⟩))), (6, .slot true (.slice pa av.length ca)), (7, .slot true (.int .i64 (av.length : Int))), (8, .slot true (.int .i64 (i : Int))), (9, .slot true (.bool (decide ((i : Int) < (av.length : Int))))), (24, rdK 2 pa av.length (av.flatMap en_TInterval))] (by kernel_rfl)
  refine r_seq ?_
  refine r_cond H (by kernel_rfl) (t := decide ((i : Int) < (av.length : Int))) (by kernel_rfl) (fun c => ?_) (fun c => ?_)
  rotate_left
  · have hlt : ¬ ((i : Int) < (av.length : Int)) := of_decide_eq_false c
    refine r_exit rfl ?_
    refine ⟨H.defers, _, run_results H (.tuple #[]) [] (by kernel_rfl) (by simp) (by kernel_rfl), ⟨_, rfl⟩, .inl ?_⟩
    have := hJ _ _ _ hj H.below
    rw [List.drop_eq_nil_of_le (by rw [List.length_zip]; omega)] at this
    exact this
  have hlt : (i : Int) < (av.length : Int) := of_decide_eq_true c
  have hlt' : i < av.length := by omega
  obtain ⟨x, hx⟩ : ∃ x, av[((i : Int)).toNat]? = some x := ⟨av[i], by simp [hlt']⟩
  obtain ⟨y, hy⟩ : ∃ y, bv[((i : Int)).toNat]? = some y := ⟨bv[i], by simp [show i < bv.length by omega]⟩
  have hdrop : (av.zip bv).drop i = (x, y) :: (av.zip bv).drop (i + 1) := by
    have hz : i < (av.zip bv).length := by rw [List.length_zip]; omega
    rw [List.drop_eq_getElem_cons hz]
    congr 1
    have e1 : av[i]? = some x := by simpa using hx
    have e2 : bv[i]? = some y := by simpa using hy
    rw [List.getElem_zip]
    rw [List.getElem?_eq_getElem hlt'] at e1
    rw [List.getElem?_eq_getElem (show i < bv.length by omega)] at e2
    injection e1 with e1
    injection e2 with e2
    rw [e1, e2]
  refine r_skip ?_
  refine r_seq ?_
  refine r_block ?_
  refine r_seq ?_
  refine r_reg mixed H (.cons [10] (ok_val (fun _ => .int .i64 (i : Int)) 10) <|
    .cons [11] (ok_valL [24] (fun _ => [rdK 2 pa av.length (av.flatMap en_TInterval)]) (fun _ => .pointer (some ⟨hdB pa, hdO pa + (i : Int).toNat * 2, none⟩)) (fun _ => true) [true, true] 11 (fun _ w hg hF => run_of (by kernel_rfl) (run_ix (t := 22) (p := pa) (n := av.length) (cap := ca) (k := .i64) (i := (i : Int)) (sz := 2) (by kernel_rfl) (by kernel_rfl) (rd_of hF.1) ⟨by omega, hlt⟩))) <|
    .cons [12] (ok_valL [24] (fun _ => [rdK 2 pa av.length (av.flatMap en_TInterval)]) (fun _ => .agg #[.int .i64 x.Lo, .int .i64 x.Hi]) (fun _ => true) [true] 12 (fun _ w hg hF => ld_of (vs := [.int .i64 x.Lo, .int .i64 x.Hi]) (b := hdB pa) (off := hdO pa + (i : Int).toNat * 2 + 0) (m := 2) (by kernel_rfl) (el_cells (rd_of hF.1) en_TInterval_len hx 0 2 rfl))) <|
    .cons [5, 26] (ok_new (fun b => .pointer (some ⟨b, 0, none⟩)) (fun _ => [.int .i64 0, .int .i64 0]) 40 5 26) <|
    .cons [4] (ok_val (fun _ => .int .i64 (i : Int)) 4) <|
    .cons [26] (ok_as (u' := fun ν => [(26, .blk ((ν 3).n 0) [.int .i64 x.Lo, .int .i64 x.Hi] 40)]) (ok_store 26 0 (fun ν => (ν 3).n 0) (fun _ => [.int .i64 0, .int .i64 0]) (fun _ => [.int .i64 x.Lo, .int .i64 x.Hi]) 40) (fun _ => by kernel_rfl)) <| .nil) (by kernel_rfl) (by kernel_rfl) fun ν3 a w2 H => ?_
  replace H := H.toL [(0, .slot true (.func (.yield l) #[] #[])), (2, .slot true (.pointer (some ⟨bb, 0, none⟩))), (4, .slot true (.int .i64 (i : Int))), (5, .slot true (.pointer (some ⟨(ν3 3).n 0, 0, none⟩))), (6, .slot true (.slice pa av.length ca)), (7, .slot true (.int .i64 (av.length : Int))), (8, .slot true (.int .i64 (i : Int))), (26, .blk ((ν3 3).n 0) [.int .i64 x.Lo, .int .i64 x.Hi] 40)] (by kernel_rfl)
  obtain ⟨b, hb⟩ : ∃ b, (ν3 3).n 0 = b := ⟨_, rfl⟩
  rw [hb] at H
  have hx2 : (KV.blk b [.int .i64 x.Lo, .int .i64 x.Hi] 40).holds w2 := H.holds 26
  have hj2 := hJ _ _ _ hj H.below
  obtain ⟨_, hB2, _, hRB2⟩ := hF _ _ hj2
  have hlb : ∀ {b : Nat} {o : Obj}, w2.heap[b]? = some o → b < w2.heap.size := fun h => (Array.getElem?_eq_some_iff.1 h).1
  have hgk : (pairsK w2.heap.size wc (J ((av.zip bv).drop i)) bb b pb cb bv x).holds w2 := by
    intro w' ha
    refine ⟨fun hb' => ?_, (ha bb (hlb hB2)).trans hB2, hRB2.agree fun k hk => ha k (hRB2.inb (by decide) k hk), (ha b (hlb hx2)).trans hx2⟩
    exact jK_of (w0 := wc) (fun W' h => hJ _ _ _ hj2 h) (hJc _ _ hj2) w' ha hb'
  replace H := (H.again w2 (hJc _ _ hj2) (Nat.zero_le _) [(30, pairsK w2.heap.size wc (J ((av.zip bv).drop i)) bb b pb cb bv x)] (by
    intro z hz
    simp only [List.mem_cons, List.not_mem_nil, or_false] at hz
    subst hz
    exact ⟨⟨_, _, rfl⟩, hgk, fun k hk => hk⟩)).toL [(0, .slot true (.func (.yield l) #[] #[])), (2, .slot true (.pointer (some ⟨bb, 0, none⟩))), (4, .slot true (.int .i64 (i : Int))), (5, .slot true (.pointer (some ⟨b, 0, none⟩))), (6, .slot true (.slice pa av.length ca)), (7, .slot true (.int .i64 (av.length : Int))), (8, .slot true (.int .i64 (i : Int))), (30, pairsK w2.heap.size wc (J ((av.zip bv).drop i)) bb b pb cb bv x)] (by kernel_rfl)
  refine r_seq ?_
  refine r_of (y_reg (Rp := RepO 30 0 wc 22) mixed ⟨H, only_ofL _ (by kernel_rfl)⟩ (.cons [13] (oki (ok_val (fun _ => .func (.yield l) #[] #[]) 13)) <|
    .cons [14] (oki (ok_ldK (fun _ => .agg #[.int .i64 x.Lo, .int .i64 x.Hi]) 14 30 (pairsK w2.heap.size wc (J ((av.zip bv).drop i)) bb b pb cb bv x) b 0 2 [.int .i64 x.Lo, .int .i64 x.Hi] (fun w h => ⟨_, _, (pairsK_of h).2.2.2⟩))) <|
    .cons [15] (oki (ok_ldK (fun _ => .slice pb bv.length cb) 15 30 (pairsK w2.heap.size wc (J ((av.zip bv).drop i)) bb b pb cb bv x) bb 0 1 [.slice pb bv.length cb] (fun w h => ⟨_, _, (pairsK_of h).2.1⟩))) <|
    .cons [16] (oki (ok_val (fun _ => .int .i64 (i : Int)) 16)) <|
    .cons [17] (oki (ok_valL [30] (fun _ => [pairsK w2.heap.size wc (J ((av.zip bv).drop i)) bb b pb cb bv x]) (fun _ => .pointer (some ⟨hdB pb, hdO pb + (i : Int).toNat * 2, none⟩)) (fun _ => true) [true, true] 17 (fun _ w hg hF => run_of (by kernel_rfl) (run_ix (t := 22) (p := pb) (n := bv.length) (cap := cb) (k := .i64) (i := (i : Int)) (sz := 2) (by kernel_rfl) (by kernel_rfl) (pairsK_of hF.1).2.2.1 ⟨by omega, by omega⟩)))) <|
    .cons [18] (oki (ok_valL [30] (fun _ => [pairsK w2.heap.size wc (J ((av.zip bv).drop i)) bb b pb cb bv x]) (fun _ => .agg #[.int .i64 y.Lo, .int .i64 y.Hi]) (fun _ => true) [true] 18 (fun _ w hg hF => ld_of (vs := [.int .i64 y.Lo, .int .i64 y.Hi]) (b := hdB pb) (off := hdO pb + (i : Int).toNat * 2 + 0) (m := 2) (by kernel_rfl) (el_cells (pairsK_of hF.1).2.2.1 en_TInterval_len hy 0 2 rfl)))) <|
    .cons [19, 30] (ok_yield (w0 := wc) 30 (pairsK w2.heap.size wc (J ((av.zip bv).drop i)) bb b pb cb bv x) l (fun _ => #[enI x, enI y]) (J ((av.zip bv).drop i)) (J ((av.zip bv).drop (i + 1))) JX 19
      (by intro _; kernel_rfl) (fun w h hb' => (pairsK_of h).1 hb') (fun _ W1 h1 => hY (x, y) _ W1 (by rw [← hdrop]; exact h1)) (fun W1 W2 h1 h2 => hJ _ _ _ h1 h2) hJX (fun W1 h1 => hJc _ _ h1) hXc) <|
    .cons [20] (oki (ok_val (fun ν => .bool (!(decide ((ν 6).n 0 = 1)))) 20)) <| .nil) (by kernel_rfl) repO_drew fun ν4 a w3 H => ?_)
  have hk30 := H.1.holds 30
  replace hk30 : (bif decide ((ν4 6).n 0 = 1) then jK ((ν4 6).n 1) wc (J ((av.zip bv).drop (i + 1))) else jK ((ν4 6).n 1) wc JX).holds w3 := hk30
  have hbel := H.1.below
  replace H := H.1.toL [(0, .slot true (.func (.yield l) #[] #[])), (2, .slot true (.pointer (some ⟨bb, 0, none⟩))), (6, .slot true (.slice pa av.length ca)), (7, .slot true (.int .i64 (av.length : Int))), (8, .slot true (.int .i64 (i : Int))), (20, .slot true (.bool (!(decide ((ν4 6).n 0 = 1)))))] (by kernel_rfl)
  refine r_cond H (by kernel_rfl) (t := !(decide ((ν4 6).n 0 = 1))) (by kernel_rfl) (fun c => ?_) (fun c => ?_)
  · refine r_ret ?_
    have hn : decide ((ν4 6).n 0 = 1) = false := by simpa using c
    rw [hn] at hk30
    exact ⟨H.defers, _, run_results H (.tuple #[]) [] (by kernel_rfl) (by simp) (by kernel_rfl), ⟨_, rfl⟩, .inr (hk30 w3 (agree.refl _ _) hbel)⟩
  · refine r_skip ?_
    have hn : decide ((ν4 6).n 0 = 1) = true := by simpa using c
    rw [hn] at hk30
    have hj3 : J ((av.zip bv).drop (i + 1)) w3 := hk30 w3 (agree.refl _ _) hbel
    replace H := H.restart w3 (Below.refl w3.heap.size w3) (Nat.le_refl _)
    have hw : IntKind.wrap .i64 ((i : Int) + 1) = ((i + 1 : Nat) : Int) := by
      have : (i : Int) < 1000000 := by omega
      simp [IntKind.wrap, IntKind.bits, IntKind.signed]
      omega
    refine r_reg mixed H (.cons [21] (ok_val (fun _ => .int .i64 (IntKind.wrap .i64 ((i : Int) + 1))) 21) <|
      .cons [8] (ok_val (fun _ => .int .i64 (IntKind.wrap .i64 ((i : Int) + 1))) 8) <| .nil) (by kernel_rfl) (by kernel_rfl) fun ν5 a w4 H => ?_
    have hj4 := hJ _ _ _ hj3 H.below
    replace H := (H.restart w4 (hJc _ _ hj4) (Nat.zero_le _)).toL [(0, .slot true (.func (.yield l) #[] #[])), (2, .slot true (.pointer (some ⟨bb, 0, none⟩))), (6, .slot true (.slice pa av.length ca)), (7, .slot true (.int .i64 (av.length : Int))), (8, .slot true (.int .i64 (IntKind.wrap .i64 ((i : Int) + 1))))] (by kernel_rfl)
    rw [hw] at H
    exact ⟨av.length - (i + 1), by omega, i + 1, rfl, by omega, hj4, H⟩
def pairsFx (ba bb : Nat) (pa pb : Option Addr) (ca cb : Nat) (av bv : List TInterval) (W : World) : Prop :=
  W.heap[ba]? = some (.cells [.slice pa av.length ca].toArray 22 (0, 0)) ∧ W.heap[bb]? = some (.cells [.slice pb bv.length cb].toArray 22 (0, 0)) ∧ RowAt W 2 pa av.length (av.flatMap en_TInterval) ∧ RowAt W 2 pb bv.length (bv.flatMap en_TInterval)
theorem box_pairs_1.ok (av bv : List TInterval) (hlen : av.length ≤ bv.length) (hbd : av.length < 1000000) (ba bb : Nat) (pa pb : Option Addr) (ca cb : Nat) :
    IterOK Try.prog 91 #[.pointer (some ⟨ba, 0, none⟩), .pointer (some ⟨bb, 0, none⟩)] (fun x : TInterval × TInterval => #[enI x.1, enI x.2]) (av.zip bv) (pairsFx ba bb pa pb ca cb av bv) :=
  fun l J JX hJ hJX hF wc hJc hXc hY W h0 => box_pairs_1.iter av bv hlen hbd ba bb pa pb ca cb l J JX hJ hJX hF wc hJc hXc hY W h0
theorem box_pairs.calls (a0 a1 : Option Addr) (n0 c0 n1 c1 : Nat) (w : World) :
    Calls Try.prog 53 #[.slice a0 n0 c0, .slice a1 n1 c1] w fun en w' => ∃ b1 b2, en = .returned (.func (.func 91) #[] #[.pointer (some ⟨b1, 0, none⟩), .pointer (some ⟨b2, 0, none⟩)]) ∧ Below w.heap.size w w' ∧ w.heap.size ≤ b1 ∧ w.heap.size ≤ b2 ∧ b1 ≠ b2 ∧
      w'.heap[b1]? = some (.cells [.slice a0 n0 c0].toArray 22 (0, 0)) ∧ w'.heap[b2]? = some (.cells [.slice a1 n1 c1].toArray 22 (0, 0)) := by
  refine k_enter (args := [.slice a0 n0 c0, .slice a1 n1 c1]) 6 Try.func53 rfl (by kernel_rfl) (by kernel_rfl) fun a H => ?_
  refine k_seq ?_
  refine k_reg mixed H (.cons [2, 6] (ok_new (fun b => .pointer (some ⟨b, 0, none⟩)) (fun _ => [.slice a0 n0 c0]) 22 2 6) <|
    .cons [3, 7] (ok_new (fun b => .pointer (some ⟨b, 0, none⟩)) (fun _ => [.slice a1 n1 c1]) 22 3 7) <|
    .cons [4] (ok_val (fun _ => .nilFunc) 4) <| .nil) (by kernel_rfl) fun ν1 a w1 H => ?_
  obtain ⟨b1, hb1⟩ : ∃ b, (ν1 0).n 0 = b := ⟨_, rfl⟩
  obtain ⟨b2, hb2⟩ : ∃ b, (ν1 1).n 0 = b := ⟨_, rfl⟩
  replace H := H.toL [(2, .slot true (.pointer (some ⟨(ν1 0).n 0, 0, none⟩))), (3, .slot true (.pointer (some ⟨(ν1 1).n 0, 0, none⟩))), (6, .blk ((ν1 0).n 0) [.slice a0 n0 c0] 22), (7, .blk ((ν1 1).n 0) [.slice a1 n1 c1] 22)] (by kernel_rfl)
  rw [hb1, hb2] at H
  refine k_seq ?_
  refine k_reg mixed H (.cons [5] (ok_val (fun _ => .func (.func 91) #[] #[.pointer (some ⟨b1, 0, none⟩), .pointer (some ⟨b2, 0, none⟩)]) 5) <|
    .cons [4] (ok_val (fun _ => .func (.func 91) #[] #[.pointer (some ⟨b1, 0, none⟩), .pointer (some ⟨b2, 0, none⟩)]) 4) <| .nil) (by kernel_rfl) fun ν2 a w2 H => ?_
  replace H := H.toL [(4, .slot true (.func (.func 91) #[] #[.pointer (some ⟨b1, 0, none⟩), .pointer (some ⟨b2, 0, none⟩)])), (6, .blk b1 [.slice a0 n0 c0] 22), (7, .blk b2 [.slice a1 n1 c1] 22)] (by kernel_rfl)
  refine k_ret ?_
  exact ⟨H.defers, _, run_results H (.func (.func 91) #[] #[.pointer (some ⟨b1, 0, none⟩), .pointer (some ⟨b2, 0, none⟩)]) [] (by kernel_rfl) (by simp) (by kernel_rfl), b1, b2, rfl, H.below, H.ge 6 b1 trivial rfl, H.ge 7 b2 trivial rfl,
    fun e => H.disj 6 7 b1 (by decide) trivial rfl e, H.holds 6, H.holds 7⟩
end Go.Proofs.Ytgccinodonkgjaa
