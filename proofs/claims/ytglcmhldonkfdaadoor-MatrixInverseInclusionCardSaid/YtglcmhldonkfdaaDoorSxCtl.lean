/- Sx: words and proofs for walking code by symbolic states (the part 'SxCtl'). Own work, the same for every seat. -/
import Derived.Test.YtglcmhldonkfdaaDoorSxOps
import Derived.Laws.Sem
set_option linter.unusedVariables false
namespace Go.Sx
open Go Go.RowKit
abbrev K := Act → World → Prop
def lookX : List (Nat × K) → Nat → Option K
  | [], _ => none
  | (j, k) :: r, i => bif Nat.beq j i then some k else lookX r i
def mkQ (N : K) (xs : List (Nat × K)) (R : K) : Exit → Act → World → Prop
  | .normal, a, w => N a w
  | .exit i, a, w => match lookX xs i with | some k => k a w | none => False
  | .ret, a, w => R a w
  | _, _, _ => False
section
variable {P : Program} {N R : K} {xs : List (Nat × K)} {a : Act} {w : World}
theorem k_seq {x y : Code} (h : x.wp P (mkQ (y.wp P (mkQ N xs R)) xs R) a w) : (Code.seq x y).wp P (mkQ N xs R) a w :=
  wp_seq (wp_mono h fun e a w q => by cases e <;> exact q)
theorem k_skip (h : N a w) : Code.skip.wp P (mkQ N xs R) a w := wp_skip h
theorem k_ret (h : R a w) : Code.ret.wp P (mkQ N xs R) a w := wp_ret h
theorem k_exit {i : Nat} {k : K} (hk : lookX xs i = some k) (h : k a w) : (Code.exit i).wp P (mkQ N xs R) a w := wp_exit (by simp only [mkQ, hk]; exact h)
theorem k_block {i : Nat} {c : Code} (h : c.wp P (mkQ N ((i, N) :: xs) R) a w) : (Code.block i c).wp P (mkQ N xs R) a w := by
  refine wp_block (wp_mono h fun e a w q => ?_)
  cases e with
  | exit j =>
    simp only [mkQ, lookX] at q
    simp only [Exit.inBlock]
    by_cases hj : j = i
    · subst hj
      rw [show Nat.beq j j = true from Nat.beq_refl j] at q
      simp only [if_true]; exact q
    · have : Nat.beq i j = false := by
        cases hb : Nat.beq i j with
        | false => rfl
        | true => exact absurd (Nat.eq_of_beq_eq_true hb).symm hj
      rw [this] at q
      rw [if_neg hj]; exact q
  | _ => exact q
theorem k_cond {B n : Nat} {w0 : World} {S : St} {c : Operand} {x y : Code} {t : Bool} (hr : Rep B w0 n S a w) (hk : knownB S c = true) (he : envS S c = .bool t)
    (ht : t = true → x.wp P (mkQ N xs R) a w) (hf : t = false → y.wp P (mkQ N xs R) a w) : (Code.cond c x y).wp P (mkQ N xs R) a w :=
  wp_cond_split ((env_eq hr hk).trans he) ht hf
theorem k_cond_true {B n : Nat} {w0 : World} {S : St} {c : Operand} {x y : Code} (hr : Rep B w0 n S a w) (hk : knownB S c = true) (he : envS S c = .bool true) (ht : x.wp P (mkQ N xs R) a w) : (Code.cond c x y).wp P (mkQ N xs R) a w :=
  wp_cond_true ((env_eq hr hk).trans he) ht
theorem k_cond_false {B n : Nat} {w0 : World} {S : St} {c : Operand} {x y : Code} (hr : Rep B w0 n S a w) (hk : knownB S c = true) (he : envS S c = .bool false) (hf : y.wp P (mkQ N xs R) a w) : (Code.cond c x y).wp P (mkQ N xs R) a w :=
  wp_cond_false ((env_eq hr hk).trans he) hf
theorem k_reg {B n id : Nat} {w0 : World} {ops : Array Oper} {draw : Bool} {S0 : St} {Se : Nu → St} {rw : List (List Nat × List Nat)} (hm : P.follows .mixedOrders = true)
    (hr : Rep B w0 n S0 a w) (hc : Chain P ops B w0 n 0 ops.toList (fun _ => S0) rw Se)
    (hi : (!draw || (indep ops.toList rw [] && forward ops.toList 0)) = true)
    (hQ : ∀ ν a w, Rep B w0 n (Se ν) a w → N a w) : (Code.region id ops draw).wp P (mkQ N xs R) a w := wp_reg hm hr hc hi hQ
def loopwp (P : Program) (c : Code) (Q : Exit → Act → World → Prop) (a : Act) (w : World) : Prop :=
  ∀ (b : Frame) (k : List Item) (cs : List Frame), ∃ e a' w', Q e a' w' ∧ Arrives P (lone (b.at a (.code c :: .inLoop c :: k)) cs w) b k cs e a' w'
theorem k_loop {c : Code} {Q : Exit → Act → World → Prop} (h : loopwp P c Q a w) : (Code.loop c).wp P Q a w :=
  fun b k cs => let ⟨e, a', w', q, r⟩ := h b k cs; ⟨e, a', w', q, .of_steps (.one step_loop) r⟩
theorem loop_step {c : Code} (h : c.wp P (mkQ (loopwp P c (mkQ N xs R)) xs R) a w) : loopwp P c (mkQ N xs R) a w := by
  intro b k cs
  obtain ⟨e, a₁, w₁, hq, harr⟩ := h b (.inLoop c :: k) cs
  cases e with
  | normal =>
    obtain ⟨e₂, a₂, w₂, hq₂, harr₂⟩ := hq b k cs
    exact ⟨e₂, a₂, w₂, hq₂, .of_steps (Steps.trans harr (.one step_inLoop)) harr₂⟩
  | exit id => exact ⟨(.exit id), a₁, w₁, by exact hq, .pass (x := .inLoop c) rfl (fun _ _ => .inl (by simp)) harr⟩
  | goto l => exact ⟨(.goto l), a₁, w₁, by exact hq, .pass (x := .inLoop c) rfl (fun _ _ => .inl (by simp)) harr⟩
  | ret => exact ⟨.ret, a₁, w₁, by exact hq, .pass (x := .inLoop c) rfl (fun _ _ => .inl (by simp)) harr⟩
  | panic ch => exact ⟨(.panic ch), a₁, w₁, by exact hq, .pass (x := .inLoop c) rfl (fun _ _ => .inl (by simp)) harr⟩
  | outgrown => exact ⟨.outgrown, a₁, w₁, by exact hq, .pass (x := .inLoop c) rfl (fun _ _ => .inl (by simp)) harr⟩
end
def ofL (l : List (Nat × KV)) : St := updAll (fun _ => .none) l
theorem look_mem {l : List (Nat × KV)} {k : Nat} {v : KV} (h : look l k = some v) : (k, v) ∈ l := by
  induction l with
  | nil => cases h
  | cons p r ih =>
    obtain ⟨k', v'⟩ := p
    rw [look] at h
    cases hr : look r k with
    | some x => rw [hr] at h; simp only [Option.some.injEq] at h; subst h; exact List.mem_cons_of_mem _ (ih hr)
    | none =>
      rw [hr] at h
      simp only at h
      split at h
      · rename_i e; subst e; simp only [Option.some.injEq] at h; subst h; simp
      · cases h
theorem Rep.toL {B n : Nat} {w0 : World} {S : St} {a : Act} {w : World} (h : Rep B w0 n S a w) (l : List (Nat × KV)) (hl : l.map (fun p => S p.1) = l.map (fun p => p.2)) : Rep B w0 n (ofL l) a w := by
  refine h.weak fun k => ?_
  unfold ofL
  rw [updAll_look]
  cases hk : look l k with
  | none => exact .inl rfl
  | some v =>
    right
    have hm := look_mem hk
    have : ∀ p ∈ l, S p.1 = p.2 := fun p hp => by
      obtain ⟨i, hi⟩ := List.mem_iff_getElem?.1 hp
      have := congrArg (fun x => x[i]?) hl
      simp only [List.getElem?_map, hi, Option.map_some, Option.some.injEq] at this
      exact this
    exact (this _ hm).symm
def argL : Nat → List Value → List (Nat × KV)
  | _, [] => []
  | i, v :: vs => (i, .slot true v) :: argL (i + 1) vs
theorem look_argL : ∀ (vs : List Value) (i k : Nat), look (argL i vs) k = if i ≤ k then (vs[k - i]?).map (KV.slot true) else none
  | [], i, k => by simp [argL, look]
  | v :: vs, i, k => by
    rw [argL, look, look_argL vs (i + 1) k]
    by_cases e : k = i
    · subst e; rw [if_neg (by omega), if_pos (Nat.le_refl _)]; simp
    · by_cases h : i ≤ k
      · have h' : i + 1 ≤ k := by omega
        rw [if_pos h', if_pos h, show k - i = (k - (i + 1)) + 1 by omega]
        simp only [List.getElem?_cons_succ]
        cases vs[k - (i + 1)]? <;> simp [e]
      · rw [if_neg (by omega), if_neg h]; simp [e]
theorem rep_enter (args : List Value) (n : Nat) (w : World) (hn : args.length ≤ n) : Rep w.heap.size w n (ofL (argL 0 args)) { tmps := args.toArray ++ Array.replicate (n - args.toArray.size) undef, defers := [] } w where
  defers := rfl
  size := by simp; omega
  slots t c v hs := by
    unfold ofL at hs
    rw [updAll_look, look_argL] at hs
    simp only [Nat.zero_le, if_true, Nat.sub_zero] at hs
    cases hv : args[t]? with
    | none => rw [hv] at hs; cases hs
    | some x =>
      rw [hv] at hs
      simp only [Option.map_some, Option.getD_some, KV.slot.injEq] at hs
      obtain ⟨rfl, rfl⟩ := hs
      have hlt : t < args.length := (List.getElem?_eq_some_iff.1 hv).1
      rw [Array.getElem?_append_left (by simpa using hlt)]
      simpa using hv
  below := Below.refl _ _
  base := Nat.le_refl _
  holds k := by
    unfold ofL; rw [updAll_look, look_argL]
    simp only [Nat.zero_le, if_true, Nat.sub_zero]
    cases args[k]? <;> trivial
  inb k i hi := by
    unfold ofL at hi; rw [updAll_look, look_argL] at hi
    simp only [Nat.zero_le, if_true, Nat.sub_zero] at hi
    cases hv : args[k]? <;> rw [hv] at hi <;> exact hi.elim
  ge k i hx hi := by
    unfold ofL at hi; rw [updAll_look, look_argL] at hi
    simp only [Nat.zero_le, if_true, Nat.sub_zero] at hi
    cases hv : args[k]? <;> rw [hv] at hi <;> exact hi.elim
  disj k k' i hne hx hi hi' := by
    unfold ofL at hi; rw [updAll_look, look_argL] at hi
    simp only [Nat.zero_le, if_true, Nat.sub_zero] at hi
    cases hv : args[k]? <;> rw [hv] at hi <;> exact hi.elim
theorem k_enter {P : Program} {f : FuncId} {fn : Func} {c : Code} {args : List Value} {w : World} {R : Ending → World → Prop} (n : Nat) (hf : P.funcs[f]? = some fn) (hb : fn.body = some c) (hn : fn.ntmps = n) (hl : Nat.ble args.length n = true)
    (h : ∀ a, Rep w.heap.size w n (ofL (argL 0 args)) a w → c.wp P (mkQ (bodyPost P fn R .ret) [] (bodyPost P fn R .ret)) a w) : Calls P f args.toArray w R := by
  refine calls_of_wp hf hb ?_
  have hl' : args.length ≤ n := by simpa using hl
  subst hn
  refine wp_mono (h _ (rep_enter args _ w hl')) fun e a w q => ?_
  cases e with
  | normal => exact q
  | ret => exact q
  | exit i => exact q.elim
  | _ => exact q.elim
def resultsE (fn : Func) (env : Nat → Value) : Sem Value := do
  let vs ← fn.results.mapM fun
    | .tmp t => pure (env t)
    | .cell a t => do loadVar t (← asAddr (env a))
  pure (if h : vs.size = 1 then vs[0] else .tuple vs)
structure Seg where
  b : Nat
  cs : List Value
  off : Nat
  m : Nat
def segA : List Seg → List Addr
  | [] => []
  | s :: r => addrs s.b s.off s.m ++ segA r
def segV : List Seg → List Value
  | [] => []
  | s :: r => (s.cs.drop s.off).take s.m ++ segV r
theorem seg_cells {w : World} : ∀ (l : List Seg), (∀ s ∈ l, (∃ e fz, w.heap[s.b]? = some (.cells s.cs.toArray e fz)) ∧ s.off + s.m ≤ s.cs.length) →
    ∀ (j : Nat) x v, (segA l)[j]? = some x → (segV l)[j]? = some v → w.cell? x = some v
  | [], _, j, x, v, hx, _ => by simp [segA] at hx
  | s :: r, h, j, x, v, hx, hv => by
    obtain ⟨⟨e, fz, hw⟩, hm⟩ := h s (by simp)
    have hlA : (addrs s.b s.off s.m).length = s.m := addrs_length _ _ _
    have hlV : ((s.cs.drop s.off).take s.m).length = s.m := by simp; omega
    by_cases hj : j < s.m
    · rw [segA, List.getElem?_append_left (by omega)] at hx
      rw [segV, List.getElem?_append_left (by omega)] at hv
      obtain ⟨rfl, _⟩ := addrs_get _ _ _ _ _ hx
      rw [List.getElem?_take_of_lt hj, List.getElem?_drop] at hv
      simp [World.cell?, hw, hv]
    · rw [segA, List.getElem?_append_right (by omega), hlA] at hx
      rw [segV, List.getElem?_append_right (by omega), hlV] at hv
      exact seg_cells r (fun s hs => h s (List.mem_cons_of_mem _ hs)) _ x v hx hv
theorem results_eq (fn : Func) (tmps : Array Value) : results fn tmps = resultsE fn (fun t => tmps.getD t undef) := rfl
def resSel (env : Nat → Value) : ResultVar → Sem Value
  | .tmp t => pure (env t)
  | .cell a t => do loadVar t (← asAddr (env a))
def resT : ResultVar → Nat
  | .tmp t => t
  | .cell a _ => a
theorem resSel_congr {env env' : Nat → Value} (x : ResultVar) (h : env (resT x) = env' (resT x)) : resSel env x = resSel env' x := by
  cases x with
  | tmp t => have h' : env t = env' t := h
             simp only [resSel, h']
  | cell a t => have h' : env a = env' a := h
                simp only [resSel, h']
theorem mapM_resSel {env env' : Nat → Value} : ∀ (l : List ResultVar), (∀ x ∈ l, env (resT x) = env' (resT x)) → l.mapM (resSel env) = l.mapM (resSel env')
  | [], _ => rfl
  | x :: l, h => by
    rw [List.mapM_cons, List.mapM_cons, resSel_congr x (h x (by simp)), mapM_resSel l fun y hy => h y (List.mem_cons_of_mem _ hy)]
theorem resultsE_eq (fn : Func) (env : Nat → Value) : resultsE fn env = (do
    let vs ← fn.results.mapM (resSel env)
    pure (if h : vs.size = 1 then vs[0] else .tuple vs)) := by
  unfold resultsE
  congr 2
theorem resultsE_congr (fn : Func) {env env' : Nat → Value} (h : ∀ x ∈ fn.results.toList, env (resT x) = env' (resT x)) : resultsE fn env = resultsE fn env' := by
  rw [resultsE_eq, resultsE_eq, Array.mapM_eq_mapM_toList, Array.mapM_eq_mapM_toList, mapM_resSel _ h]
theorem run_results {P : Program} {B n : Nat} {w0 : World} {S : St} {a : Act} {w : World} (hr : Rep B w0 n S a w) {fn : Func} (v : Value) (segs : List (Nat × Seg))
    (hk : (fn.results.toList).all (fun x => isSlot (S (resT x))) = true)
    (hs : ∀ p ∈ segs, (∃ e, S p.1 = .blk p.2.b p.2.cs e) ∧ Nat.ble (p.2.off + p.2.m) p.2.cs.length = true)
    (hp : peek P (resultsE fn (fun t => envS S (.tmp t))) (segV (segs.map (·.2))) [] = some (v, segA (segs.map (·.2)))) : (results fn a.tmps).run P w = .ok v w := by
  have henv : resultsE fn (fun t => a.tmps.getD t undef) = resultsE fn (fun t => envS S (.tmp t)) :=
    resultsE_congr fn fun x hx => env_eq hr (x := .tmp (resT x)) (List.all_eq_true.1 hk x hx)
  rw [results_eq, henv]
  obtain ⟨m, e, hl, hrun⟩ := peek_run _ _ _ _ _ hp
  simp only [List.nil_append] at e
  subst e
  refine hrun w fun j x u hx hu => seg_cells (segs.map (·.2)) ?_ j x u hx hu
  intro s hs'
  obtain ⟨p, hp1, rfl⟩ := List.mem_map.1 hs'
  obtain ⟨⟨e, he⟩, hle⟩ := hs p hp1
  have := hr.holds p.1
  rw [he] at this
  exact ⟨⟨e, (0, 0), this⟩, by simpa using hle⟩
theorem k_done {P : Program} {n : Nat} {w0 : World} {S : St} {a : Act} {w : World} (hr : Rep w0.heap.size w0 n S a w) {fn : Func} (v : Value) (segs : List (Nat × Seg))
    (hk : (fn.results.toList).all (fun x => isSlot (S (resT x))) = true)
    (hs : ∀ p ∈ segs, (∃ e, S p.1 = .blk p.2.b p.2.cs e) ∧ Nat.ble (p.2.off + p.2.m) p.2.cs.length = true)
    (hp : peek P (resultsE fn (fun t => envS S (.tmp t))) (segV (segs.map (·.2))) [] = some (v, segA (segs.map (·.2)))) :
    bodyPost P fn (fun e w' => e = .returned v ∧ Below w0.heap.size w0 w') .ret a w :=
  ⟨hr.defers, v, run_results hr v segs hk hs hp, rfl, hr.below⟩
theorem k_done0 {P : Program} {n : Nat} {w0 : World} {S : St} {a : Act} {w : World} (hr : Rep w0.heap.size w0 n S a w) {fn : Func} (v : Value)
    (hk : (fn.results.toList).all (fun x => isSlot (S (resT x))) = true)
    (hp : peek P (resultsE fn (fun t => envS S (.tmp t))) [] [] = some (v, [])) :
    bodyPost P fn (fun e w' => e = .returned v ∧ Below w0.heap.size w0 w') .ret a w :=
  k_done hr v [] hk (by simp) hp
theorem k_done1 {P : Program} {n : Nat} {w0 : World} {S : St} {a : Act} {w : World} (hr : Rep w0.heap.size w0 n S a w) {fn : Func} (v : Value) (k b : Nat) (cs : List Value) (e : TypeId) (off m : Nat)
    (hk : (fn.results.toList).all (fun x => isSlot (S (resT x))) = true)
    (hs : S k = .blk b cs e) (hle : Nat.ble (off + m) cs.length = true)
    (hp : peek P (resultsE fn (fun t => envS S (.tmp t))) ((cs.drop off).take m) [] = some (v, addrs b off m)) :
    bodyPost P fn (fun e w' => e = .returned v ∧ Below w0.heap.size w0 w') .ret a w :=
  k_done hr v [(k, ⟨b, cs, off, m⟩)] hk (by intro p hp; simp only [List.mem_singleton] at hp; subst hp; exact ⟨⟨e, hs⟩, hle⟩) (by simpa [segV, segA] using hp)
end Go.Sx
