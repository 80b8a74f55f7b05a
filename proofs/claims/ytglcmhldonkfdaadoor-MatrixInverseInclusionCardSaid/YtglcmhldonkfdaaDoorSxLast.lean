/- Sx: words and proofs for walking code by symbolic states (the part 'SxLast'). Own work, the same for every seat. -/
import Derived.Test.YtglcmhldonkfdaaDoorSxEq
set_option linter.unusedVariables false
namespace Go.Sx
open Go Go.RowKit
theorem elt_int {k : IntKind} {xs : List Int} {j : Nat} {v : Int} (h : xs[j]? = some v) : (xs.map (Value.int k))[0 + j * 1]? = some (.int k v) := by
  rw [Nat.zero_add, Nat.mul_one, List.getElem?_map, h]; rfl
section
variable {P : Program} {ops : Array Oper} {B : Nat} {w0 : World} {n i : Nat} {o : Oper} {Spre : Nu → St}
theorem ok_pickK (v : Nu → Value) (d : Nat) (hd : o.dst = some d := by rfl) (hdn : Nat.blt d n = true := by rfl) (hsel : noSel o = true := by rfl) (hg : o.guard = none := by rfl)
    (hk : ∀ ν, (o.op.operands.all (knownB (Spre ν))) = true := by intro _; kernel_rfl)
    (hv : ∀ ν w, (execOp (envS (Spre ν)) o).run P w = .ok (.value (v ν)) w := by intro _ _; kernel_rfl) :
    OpOK P ops B w0 n i o Spre (tmpsOf ops o) (fun ν => [(d, .slot true (v ν))]) := by
  have hdn' : d < n := by simpa using hdn
  refine opok_of (c := fun _ => true) (fun _ h => h) (noSel_spec hsel) (fun ν => by unfold wantS; rw [hg]) hk ?_ ?_
  · intro ν S a w hcf; cases hcf
  · intro Q p S a w hpi hct hag hrep hev
    unfold Oper.wp
    obtain ⟨ν0, h0⟩ := Ext.exists p
    rw [hev ν0 h0, hv ν0 w]
    simp only [Oper.upon]
    refine ⟨default, fun ν hν => ?_⟩
    have hν' := hν.of_set hpi
    have e : v ν0 = v ν := by
      have h1 := hv ν0 w
      rw [← hev ν0 h0, hev ν hν', hv ν w] at h1
      injection h1 with h1 _; injection h1 with h1; exact h1.symm
    rw [updAll_one, hd, e]
    exact (hrep ν hν').put hdn' true (v ν)
end
end Go.Sx
namespace Go.Sx
open Go Go.RowKit
section
variable {P : Program} {ops : Array Oper} {B : Nat} {w0 : World} {n i : Nat} {o : Oper} {Spre : Nu → St}
theorem ok_ldK (v : Nu → Value) (d kG : Nat) (gk : KV) (b off m : Nat) (cs : List Value) (hcell : ∀ w, gk.holds w → ∃ e fz, w.heap[b]? = some (.cells cs.toArray e fz))
    (hG : ∀ ν, Spre ν kG = gk := by intro _; kernel_rfl) (hd : o.dst = some d := by rfl) (hdn : Nat.blt d n = true := by rfl) (hsel : noSel o = true := by rfl) (hg : o.guard = none := by rfl)
    (hk : ∀ ν, (o.op.operands.all (knownB (Spre ν))) = true := by intro _; kernel_rfl)
    (hp : ∀ ν, (condsOf o (Spre ν)).all id = true := by intro _; kernel_rfl)
    (hv : ∀ ν, peek P (execOp (envU (Spre ν)) o) ((cs.drop off).take m) [] = some (.value (v ν), addrs b off m) := by intro _; kernel_rfl) :
    OpOK P ops B w0 n i o Spre (kG :: tmpsOf ops o) (fun ν => [(d, .slot true (v ν))]) := by
  have hdn' : d < n := by simpa using hdn
  refine opok_of (c := fun _ => true) (fun _ h => List.mem_cons_of_mem _ h) (noSel_spec hsel) (fun ν => by unfold wantS; rw [hg]) hk ?_ ?_
  · intro ν S a w hcf; cases hcf
  · intro Q p S a w hpi hct hag hrep hev0
    have hev : ∀ ν, Ext p ν → execOp a.eval o = execOp (envU (Spre ν)) o := fun ν hν => (hev0 ν hν).trans (env_strip (noSel_spec hsel) (by simpa using hp ν))
    have hrun : ∀ ν, Ext p ν → (execOp (envU (Spre ν)) o).run P w = .ok (.value (v ν)) w := fun ν hν => by
      obtain ⟨m', e, hl, hr⟩ := peek_run _ _ _ _ _ (hv ν)
      simp only [List.nil_append] at e
      subst e
      refine hr w fun j x u hx hu => ?_
      obtain ⟨rfl, hj⟩ := addrs_get _ _ _ _ _ hx
      have hc : cs[off + j]? = some u := by
        rw [List.getElem?_take_of_lt hj, List.getElem?_drop] at hu; exact hu
      have hh := (hrep ν hν).holds kG
      rw [hag ν hν kG (by simp), hG ν] at hh
      obtain ⟨e, fz, hw⟩ := hcell w hh
      simp [World.cell?, hw, hc]
    unfold Oper.wp
    obtain ⟨ν0, h0⟩ := Ext.exists p
    rw [hev ν0 h0, hrun ν0 h0]
    simp only [Oper.upon]
    refine ⟨default, fun ν hν => ?_⟩
    have hν' := hν.of_set hpi
    have e : v ν0 = v ν := by
      have h1 := hrun ν0 h0
      rw [← hev ν0 h0, hev ν hν', hrun ν hν'] at h1
      injection h1 with h1 _; injection h1 with h1; exact h1.symm
    rw [updAll_one, hd, e]
    exact (hrep ν hν').put hdn' true (v ν)
theorem k_enterG {f : FuncId} {fn : Func} {c : Code} {args : List Value} {w : World} {R : Ending → World → Prop} (n : Nat) (kG : Nat) (fp : Nat → Prop) (F : World → Prop) (hF : ∀ w', agree fp w w' → F w') (hin : ∀ i, fp i → i < w.heap.size)
    (hf : P.funcs[f]? = some fn) (hb : fn.body = some c) (hn : fn.ntmps = n) (hl : Nat.ble args.length n = true)
    (h : ∀ a, Rep w.heap.size w n (upd (ofL (argL 0 args)) kG (.fact fp F)) a w → c.wp P (mkQ (bodyPost P fn R .ret) [] (bodyPost P fn R .ret)) a w) : Calls P f args.toArray w R := by
  refine k_enter n hf hb hn hl fun a H => h a (H.ent kG (.fact fp F) (by intro c x h; cases h) hF hin (fun h => h.elim) ?_)
  intro k' j hne hx hj hj'
  rcases hx with hx | hx
  · exact hx
  · unfold ofL at hx
    rw [updAll_look, look_argL] at hx
    simp only [Nat.zero_le, if_true, Nat.sub_zero] at hx
    cases hv : args[k']? <;> rw [hv] at hx <;> exact hx
end
end Go.Sx
namespace Go.Sx
open Go Go.RowKit
section
variable {P : Program} {ops : Array Oper} {B : Nat} {w0 : World} {n i : Nat} {o : Oper} {Spre : Nu → St}
end
end Go.Sx
