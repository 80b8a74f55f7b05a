/- Sx: words and proofs for walking code by symbolic states (the part 'Last'). Own work, the same for every seat. -/
import Derived.Test.YtkkodieceehkmaaDoorSxEq
set_option linter.unusedVariables false
namespace Go.Sx
open Go Go.RowKit
theorem elt_int {k : IntKind} {xs : List Int} {j : Nat} {v : Int} (h : xs[j]? = some v) : (xs.map (Value.int k))[0 + j * 1]? = some (.int k v) := by
  rw [Nat.zero_add, Nat.mul_one, List.getElem?_map, h]; rfl
section
variable {P : Program} {ops : Array Oper} {B : Nat} {w0 : World} {n i : Nat} {o : Oper} {Spre : Nu → St}
/-- A choice by a test that is known. -/
theorem ok_pickK (v : Nu → Value) (d : Nat) (hd : o.dst = some d := by rfl) (hdn : Nat.blt d n = true := by rfl) (hsel : noSel o = true := by rfl) (hg : o.guard = none := by rfl)
    (hk : ∀ ν, (o.op.operands.all (knownB (Spre ν))) = true := by intro _; kernel_rfl)
    (hv : ∀ ν w, (execOp (envS (Spre ν)) o).run P w = .ok (.value (v ν)) w := by intro _ _; kernel_rfl) :
    OpOK P ops B w0 n i o Spre (tmpsOf ops o) (fun ν => [(d, .slot true (v ν))]) := by
  have hdn' : d < n := by simpa using hdn
  refine opok_of (c := fun _ => true) (fun _ h => h) (noSel_spec hsel) (fun ν => by unfold wantS; rw [hg]) hk ?_ ?_
  · intro ν S a w hcf; cases hcf
  · intro Q p S a w hpi hct hag hrep hev
    unfold Oper.wp
    obtain ⟨ν0, h0⟩ := Ext.exists p
    rw [hev ν0 h0, hv ν0 w]
    simp only [Oper.upon]
    refine ⟨default, fun ν hν => ?_⟩
    have hν' := hν.of_set hpi
    have e : v ν0 = v ν := by
      have h1 := hv ν0 w
      rw [← hev ν0 h0, hev ν hν', hv ν w] at h1
      injection h1 with h1 _; injection h1 with h1; exact h1.symm
    rw [updAll_one, hd, e]
    exact (hrep ν hν').put hdn' true (v ν)
end
end Go.Sx
namespace Go.Sx
open Go Go.RowKit
section
variable {P : Program} {ops : Array Oper} {B : Nat} {w0 : World} {n i : Nat} {o : Oper} {Spre : Nu → St}
/-- A call that leans on what an entry of the state says. -/
theorem ok_callG (kG : Nat) (gk : KV) (f : FuncId) (args : Nu → Array Value) (v : Value) (c : Nu → Bool) (pat : List Bool) (d : Nat)
    (hC : ∀ ν w, gk.holds w → c ν = true → Calls P f (args ν) w fun e w' => e = .returned v ∧ Below w.heap.size w w')
    (hG : ∀ ν, Spre ν kG = gk := by intro _; kernel_rfl)
    (hd : o.dst = some d := by rfl) (hdn : Nat.blt d n = true := by rfl) (hsel : noSel o = true := by rfl)
    (hc : ∀ ν, wantS ops o (Spre ν) = some (c ν) := by intro _; kernel_rfl) (hk : ∀ ν, (o.op.operands.all (knownB (Spre ν))) = true := by intro _; kernel_rfl)
    (hp : ∀ ν, condsOf o (Spre ν) = pat.map (fun p => bif p then true else c ν) := by intro _; kernel_rfl)
    (hv : ∀ ν w, (execOp (envU (Spre ν)) o).run P w = .ok (.enter f (args ν)) w := by intro _ _; kernel_rfl) :
    OpOK P ops B w0 n i o Spre ([kG] ++ tmpsOf ops o) (fun ν => [(d, .slot (c ν) v)]) :=
  ok_call f args v c pat d [kG] (fun ν w hc' hk' => hC ν w (by have := hk' kG (by simp); rw [hG ν] at this; exact this) hc') hd hdn hsel hc hk hp hv
theorem ok_callvG (kG : Nat) (gk : KV) (f : FuncId) (args : Nu → Array Value) (v : Value) (d : Nat)
    (hC : ∀ ν w, gk.holds w → Calls P f (args ν) w fun e w' => e = .returned v ∧ Below w.heap.size w w')
    (hG : ∀ ν, Spre ν kG = gk := by intro _; kernel_rfl)
    (hd : o.dst = some d := by rfl) (hdn : Nat.blt d n = true := by rfl) (hsel : noSel o = true := by rfl) (hg : o.guard = none := by rfl)
    (hk : ∀ ν, (o.op.operands.all (knownB (Spre ν))) = true := by intro _; kernel_rfl)
    (hp : ∀ ν, (condsOf o (Spre ν)).all id = true := by intro _; kernel_rfl)
    (hv : ∀ ν w, (execOp (envU (Spre ν)) o).run P w = .ok (.enter f (args ν)) w := by intro _ _; kernel_rfl) :
    OpOK P ops B w0 n i o Spre ([kG] ++ tmpsOf ops o) (fun ν => [(d, .slot true v)]) :=
  ok_callv f args v d [kG] (fun ν w hk' => hC ν w (by have := hk' kG (by simp); rw [hG ν] at this; exact this)) hd hdn hsel hg hk hp hv
/-- Cells that an entry of the state speaks of are read. -/
theorem ok_ldK (v : Nu → Value) (d kG : Nat) (gk : KV) (b off m : Nat) (cs : List Value) (hcell : ∀ w, gk.holds w → ∃ e fz, w.heap[b]? = some (.cells cs.toArray e fz))
    (hG : ∀ ν, Spre ν kG = gk := by intro _; kernel_rfl) (hd : o.dst = some d := by rfl) (hdn : Nat.blt d n = true := by rfl) (hsel : noSel o = true := by rfl) (hg : o.guard = none := by rfl)
    (hk : ∀ ν, (o.op.operands.all (knownB (Spre ν))) = true := by intro _; kernel_rfl)
    (hp : ∀ ν, (condsOf o (Spre ν)).all id = true := by intro _; kernel_rfl)
    (hv : ∀ ν, peek P (execOp (envU (Spre ν)) o) ((cs.drop off).take m) [] = some (.value (v ν), addrs b off m) := by intro _; kernel_rfl) :
    OpOK P ops B w0 n i o Spre (kG :: tmpsOf ops o) (fun ν => [(d, .slot true (v ν))]) := by
  have hdn' : d < n := by simpa using hdn
  refine opok_of (c := fun _ => true) (fun _ h => List.mem_cons_of_mem _ h) (noSel_spec hsel) (fun ν => by unfold wantS; rw [hg]) hk ?_ ?_
  · intro ν S a w hcf; cases hcf
  · intro Q p S a w hpi hct hag hrep hev0
    have hev : ∀ ν, Ext p ν → execOp a.eval o = execOp (envU (Spre ν)) o := fun ν hν => (hev0 ν hν).trans (env_strip (noSel_spec hsel) (by simpa using hp ν))
    have hrun : ∀ ν, Ext p ν → (execOp (envU (Spre ν)) o).run P w = .ok (.value (v ν)) w := fun ν hν => by
      obtain ⟨m', e, hl, hr⟩ := peek_run _ _ _ _ _ (hv ν)
      simp only [List.nil_append] at e
      subst e
      refine hr w fun j x u hx hu => ?_
      obtain ⟨rfl, hj⟩ := addrs_get _ _ _ _ _ hx
      have hc : cs[off + j]? = some u := by
        rw [List.getElem?_take_of_lt hj, List.getElem?_drop] at hu; exact hu
      have hh := (hrep ν hν).holds kG
      rw [hag ν hν kG (by simp), hG ν] at hh
      obtain ⟨e, fz, hw⟩ := hcell w hh
      simp [World.cell?, hw, hc]
    unfold Oper.wp
    obtain ⟨ν0, h0⟩ := Ext.exists p
    rw [hev ν0 h0, hrun ν0 h0]
    simp only [Oper.upon]
    refine ⟨default, fun ν hν => ?_⟩
    have hν' := hν.of_set hpi
    have e : v ν0 = v ν := by
      have h1 := hrun ν0 h0
      rw [← hev ν0 h0, hev ν hν', hrun ν hν'] at h1
      injection h1 with h1 _; injection h1 with h1; exact h1.symm
    rw [updAll_one, hd, e]
    exact (hrep ν hν').put hdn' true (v ν)
/-- A call is entered in a world of which something is known. -/
theorem k_enterG {f : FuncId} {fn : Func} {c : Code} {args : List Value} {w : World} {R : Ending → World → Prop} (n : Nat) (kG : Nat) (fp : Nat → Prop) (F : World → Prop) (hF : ∀ w', agree fp w w' → F w') (hin : ∀ i, fp i → i < w.heap.size)
    (hf : P.funcs[f]? = some fn) (hb : fn.body = some c) (hn : fn.ntmps = n) (hl : Nat.ble args.length n = true)
    (h : ∀ a, Rep w.heap.size w n (upd (ofL (argL 0 args)) kG (.fact fp F)) a w → c.wp P (mkQ (bodyPost P fn R .ret) [] (bodyPost P fn R .ret)) a w) : Calls P f args.toArray w R := by
  refine k_enter n hf hb hn hl fun a H => h a (H.ent kG (.fact fp F) (by intro c x h; cases h) hF hin (fun h => h.elim) ?_)
  intro k' j hne hx hj hj'
  rcases hx with hx | hx
  · exact hx
  · unfold ofL at hx
    rw [updAll_look, look_argL] at hx
    simp only [Nat.zero_le, if_true, Nat.sub_zero] at hx
    cases hv : args[k']? <;> rw [hv] at hx <;> exact hx
end
end Go.Sx
namespace Go.Sx
open Go Go.RowKit
section
variable {P : Program} {ops : Array Oper} {B : Nat} {w0 : World} {n i : Nat} {o : Oper} {Spre : Nu → St}
/-- A value out of what the slots hold; the world isn't touched. A test may stand ahead. -/
theorem ok_valgP (v : Nu → Value) (c : Nu → Bool) (pat : List Bool) (d : Nat) (hv : ∀ ν w, c ν = true → (execOp (envU (Spre ν)) o).run P w = .ok (.value (v ν)) w) (hd : o.dst = some d := by rfl) (hdn : Nat.blt d n = true := by rfl) (hsel : noSel o = true := by rfl)
    (hc : ∀ ν, wantS ops o (Spre ν) = some (c ν) := by intro _; kernel_rfl) (hk : ∀ ν, (o.op.operands.all (knownB (Spre ν))) = true := by intro _; kernel_rfl)
    (hp : ∀ ν, condsOf o (Spre ν) = pat.map (fun p => bif p then true else c ν) := by intro _; kernel_rfl)
    :
    OpOK P ops B w0 n i o Spre (tmpsOf ops o) (fun ν => [(d, .slot (c ν) (v ν))]) := by
  have hdn' : d < n := by simpa using hdn
  refine opok_of (c := c) (fun _ h => h) (noSel_spec hsel) hc hk ?_ ?_
  · intro ν S a w hcf hr
    rw [updAll_one, hd]
    have := hr.put hdn' (c ν) (v ν)
    rw [hcf] at this ⊢
    simpa using this
  · intro Q p S a w hpi hct hag hrep hev0
    have hev : ∀ ν, Ext p ν → execOp a.eval o = execOp (envU (Spre ν)) o := fun ν hν => (hev0 ν hν).trans (env_strip (noSel_spec hsel) (by rw [hp ν]; exact pat_true (hct ν hν)))
    unfold Oper.wp
    obtain ⟨ν0, h0⟩ := Ext.exists p
    rw [hev ν0 h0, hv ν0 w (hct ν0 h0)]
    simp only [Oper.upon]
    refine ⟨default, fun ν hν => ?_⟩
    have hν' := hν.of_set hpi
    have e : v ν0 = v ν := by
      have h1 := hv ν0 w (hct ν0 h0)
      rw [← hev ν0 h0, hev ν hν', hv ν w (hct ν hν')] at h1
      injection h1 with h1 _; injection h1 with h1; exact h1.symm
    rw [updAll_one, hd, e]
    have := (hrep ν hν').put hdn' (c ν) (v ν)
    rw [hct ν hν'] at this ⊢
    simpa using this

/-- One cell of a block is read, wherever it lies. -/
theorem ok_ldsg (v : Nu → Value) (d k : Nat) (off : Nu → Nat) (b : Nu → Nat) (cs : Nu → List Value) (e : TypeId) (c : Nu → Bool) (pat : List Bool) (hcell : ∀ ν, c ν = true → (cs ν)[off ν]? = some (v ν)) (hd : o.dst = some d := by rfl) (hdn : Nat.blt d n = true := by rfl) (hsel : noSel o = true := by rfl) 
    (hb : ∀ ν, Spre ν k = .blk (b ν) (cs ν) e := by intro _; kernel_rfl)
    (hc : ∀ ν, wantS ops o (Spre ν) = some (c ν) := by intro _; kernel_rfl) (hk : ∀ ν, (o.op.operands.all (knownB (Spre ν))) = true := by intro _; kernel_rfl)
    (hp : ∀ ν, condsOf o (Spre ν) = pat.map (fun p => bif p then true else c ν) := by intro _; kernel_rfl)
    (hv : ∀ ν, peek P (execOp (envU (Spre ν)) o) [v ν] [] = some (.value (v ν), [⟨b ν, off ν, none⟩]) := by intro _; kernel_rfl) :
    OpOK P ops B w0 n i o Spre (k :: tmpsOf ops o) (fun ν => [(d, .slot (c ν) (v ν))]) := by
  have hdn' : d < n := by simpa using hdn
  refine opok_of (c := c) (fun _ h => List.mem_cons_of_mem _ h) (noSel_spec hsel) hc hk ?_ ?_
  · intro ν S a w hcf hr
    rw [updAll_one, hd]
    have := hr.put hdn' (c ν) (v ν)
    rw [hcf] at this ⊢
    simpa using this
  · intro Q p S a w hpi hct hag hrep hev0
    have hev : ∀ ν, Ext p ν → execOp a.eval o = execOp (envU (Spre ν)) o := fun ν hν => (hev0 ν hν).trans (env_strip (noSel_spec hsel) (by rw [hp ν]; exact pat_true (hct ν hν)))
    have hrun : ∀ ν, Ext p ν → (execOp (envU (Spre ν)) o).run P w = .ok (.value (v ν)) w := fun ν hν => by
      obtain ⟨m', e, hl, hr⟩ := peek_run _ _ _ _ _ (hv ν)
      simp only [List.nil_append] at e
      subst e
      refine hr w fun j x u hx hu => ?_
      cases j with
      | succ j => simp at hx
      | zero =>
        simp only [List.getElem?_cons_zero, Option.some.injEq] at hx hu
        subst hx hu
        have hkS := hag ν hν k (by simp)
        have hh := (hrep ν hν).holds k
        rw [hkS, hb ν] at hh
        simp only [KV.holds] at hh
        simp [World.cell?, hh, hcell ν (hct ν hν)]
    unfold Oper.wp
    obtain ⟨ν0, h0⟩ := Ext.exists p
    rw [hev ν0 h0, hrun ν0 h0]
    simp only [Oper.upon]
    refine ⟨default, fun ν hν => ?_⟩
    have hν' := hν.of_set hpi
    have e : v ν0 = v ν := by
      have h1 := hrun ν0 h0
      rw [← hev ν0 h0, hev ν hν', hrun ν hν'] at h1
      injection h1 with h1 _; injection h1 with h1; exact h1.symm
    rw [updAll_one, hd, e]
    have := (hrep ν hν').put hdn' (c ν) (v ν)
    rw [hct ν hν'] at this ⊢
    simpa using this
end
theorem ifp' {c : Prop} [Decidable c] {q : Prop} (h : c → q) (hc : c) : q := h hc
end Go.Sx
