/- Sx: words and proofs for walking code by symbolic states (the part 'SxOps'). Own work, the same for every seat. -/
import Derived.Test.YtglcmhldonkfdaaDoorSxCore
set_option linter.unusedVariables false
namespace Go.Sx
open Go Go.RowKit
section
variable {P : Program} {ops : Array Oper} {B : Nat} {w0 : World} {n i : Nat} {o : Oper} {Spre : Nu → St}
theorem updAll_one (S : St) (k : Nat) (v : KV) : updAll S [(k, v)] = upd S k v := rfl
abbrev noSel (o : Oper) : Bool := match o.op with | .select .. => false | _ => true
theorem noSel_spec (h : noSel o = true) (cs : Array SelectCase) (b : Bool) : o.op ≠ .select cs b := by
  intro e; simp only [noSel, e] at h; cases h
theorem ok_valg (v : Nu → Value) (c : Nu → Bool) (pat : List Bool) (d : Nat) (hd : o.dst = some d := by rfl) (hdn : Nat.blt d n = true := by rfl) (hsel : noSel o = true := by rfl)
    (hc : ∀ ν, wantS ops o (Spre ν) = some (c ν) := by intro _; kernel_rfl) (hk : ∀ ν, (o.op.operands.all (knownB (Spre ν))) = true := by intro _; kernel_rfl)
    (hp : ∀ ν, condsOf o (Spre ν) = pat.map (fun p => bif p then true else c ν) := by intro _; kernel_rfl)
    (hv : ∀ ν w, (execOp (envU (Spre ν)) o).run P w = .ok (.value (v ν)) w := by intro _ _; kernel_rfl) :
    OpOK P ops B w0 n i o Spre (tmpsOf ops o) (fun ν => [(d, .slot (c ν) (v ν))]) := by
  have hdn' : d < n := by simpa using hdn
  refine opok_of (c := c) (fun _ h => h) (noSel_spec hsel) hc hk ?_ ?_
  · intro ν S a w hcf hr
    rw [updAll_one, hd]
    have := hr.put hdn' (c ν) (v ν)
    rw [hcf] at this ⊢
    simpa using this
  · intro Q p S a w hpi hct hag hrep hev0
    have hev : ∀ ν, Ext p ν → execOp a.eval o = execOp (envU (Spre ν)) o := fun ν hν => (hev0 ν hν).trans (env_strip (noSel_spec hsel) (by rw [hp ν]; exact pat_true (hct ν hν)))
    unfold Oper.wp
    obtain ⟨ν0, h0⟩ := Ext.exists p
    rw [hev ν0 h0, hv ν0 w]
    simp only [Oper.upon]
    refine ⟨default, fun ν hν => ?_⟩
    have hν' := hν.of_set hpi
    have e : v ν0 = v ν := by
      have h1 := hv ν0 w
      rw [← hev ν0 h0, hev ν hν', hv ν w] at h1
      injection h1 with h1 _; injection h1 with h1; exact h1.symm
    rw [updAll_one, hd, e]
    have := (hrep ν hν').put hdn' (c ν) (v ν)
    rw [hct ν hν'] at this ⊢
    simpa using this
theorem ok_val (v : Nu → Value) (d : Nat) (hd : o.dst = some d := by rfl) (hdn : Nat.blt d n = true := by rfl) (hsel : noSel o = true := by rfl) (hg : o.guard = none := by rfl)
    (hk : ∀ ν, (o.op.operands.all (knownB (Spre ν))) = true := by intro _; kernel_rfl)
    (hp : ∀ ν, (condsOf o (Spre ν)).all id = true := by intro _; kernel_rfl)
    (hv : ∀ ν w, (execOp (envU (Spre ν)) o).run P w = .ok (.value (v ν)) w := by intro _ _; kernel_rfl) :
    OpOK P ops B w0 n i o Spre (tmpsOf ops o) (fun ν => [(d, .slot true (v ν))]) := by
  have hdn' : d < n := by simpa using hdn
  refine opok_of (c := fun _ => true) (fun _ h => h) (noSel_spec hsel) (fun ν => by unfold wantS; rw [hg]) hk ?_ ?_
  · intro ν S a w hcf; cases hcf
  · intro Q p S a w hpi hct hag hrep hev0
    have hev : ∀ ν, Ext p ν → execOp a.eval o = execOp (envU (Spre ν)) o := fun ν hν => (hev0 ν hν).trans (env_strip (noSel_spec hsel) (by simpa using hp ν))
    unfold Oper.wp
    obtain ⟨ν0, h0⟩ := Ext.exists p
    rw [hev ν0 h0, hv ν0 w]
    simp only [Oper.upon]
    refine ⟨default, fun ν hν => ?_⟩
    have hν' := hν.of_set hpi
    have e : v ν0 = v ν := by
      have h1 := hv ν0 w
      rw [← hev ν0 h0, hev ν hν', hv ν w] at h1
      injection h1 with h1 _; injection h1 with h1; exact h1.symm
    rw [updAll_one, hd, e]
    exact (hrep ν hν').put hdn' true (v ν)
theorem ok_and (tc tx : Nat) (g ct t x : Nu → Bool) (d : Nat) (hop : o.op = .pick (.tmp tc) (.tmp tx) (.const (.bool false)) := by rfl) (hd : o.dst = some d := by rfl) (hdn : Nat.blt d n = true := by rfl)
    (hc : ∀ ν, wantS ops o (Spre ν) = some (g ν) := by intro _; kernel_rfl)
    (hT : ∀ ν, Spre ν tc = .slot (ct ν) (.bool (t ν)) := by intro _; kernel_rfl) (hX : ∀ ν, Spre ν tx = .slot (ct ν && (t ν == true)) (.bool (x ν)) := by intro _; kernel_rfl)
    (h1 : ∀ ν, g ν = true → ct ν = true := by first | exact fun _ h => h | exact fun _ _ => rfl) :
    OpOK P ops B w0 n i o Spre (tmpsOf ops o) (fun ν => [(d, .slot (g ν) (.bool (t ν && x ν)))]) := by
  have hdn' : d < n := by simpa using hdn
  have hk : ∀ ν, (o.op.operands.all (knownB (Spre ν))) = true := fun ν => by
    rw [hop]; simp [Op.operands, knownB, hT ν, hX ν, isSlot]
  refine opok_of (c := g) (fun _ h => h) (fun cs b e => by rw [hop] at e; cases e) hc hk ?_ ?_
  · intro ν S a w hcf hr
    rw [updAll_one, hd]
    have := hr.put hdn' (g ν) (.bool (t ν && x ν))
    rw [hcf] at this ⊢
    simpa using this
  · intro Q p S a w hpi hct hag hrep hev
    have hrun : ∀ ν, Ext p ν → (execOp (envS (Spre ν)) o).run P w = .ok (.value (.bool (t ν && x ν))) w := fun ν hν => by
      have e1 : ct ν = true := h1 ν (hct ν hν)
      have : execOp (envS (Spre ν)) o = Sem.pure (.value (if t ν = true then (bif (ct ν && (t ν == true)) then Value.bool (x ν) else undef) else .bool false)) := by
        unfold execOp; rw [hop]; simp only [envS, hT ν, hX ν, e1, cond_true]; rfl
      rw [this, e1]
      cases t ν <;> rfl
    unfold Oper.wp
    obtain ⟨ν0, h0⟩ := Ext.exists p
    rw [hev ν0 h0, hrun ν0 h0]
    simp only [Oper.upon]
    refine ⟨default, fun ν hν => ?_⟩
    have hν' := hν.of_set hpi
    have e : (t ν0 && x ν0) = (t ν && x ν) := by
      have h1 := hrun ν0 h0
      rw [← hev ν0 h0, hev ν hν', hrun ν hν'] at h1
      injection h1 with h1 _; injection h1 with h1; injection h1 with h1; exact h1.symm
    rw [updAll_one, hd, e]
    have := (hrep ν hν').put hdn' (g ν) (.bool (t ν && x ν))
    rw [hct ν hν'] at this ⊢
    simpa using this
theorem ok_or (tc tx : Nat) (g ct t x : Nu → Bool) (d : Nat) (hop : o.op = .pick (.tmp tc) (.const (.bool true)) (.tmp tx) := by rfl) (hd : o.dst = some d := by rfl) (hdn : Nat.blt d n = true := by rfl)
    (hc : ∀ ν, wantS ops o (Spre ν) = some (g ν) := by intro _; kernel_rfl)
    (hT : ∀ ν, Spre ν tc = .slot (ct ν) (.bool (t ν)) := by intro _; kernel_rfl) (hX : ∀ ν, Spre ν tx = .slot (ct ν && (t ν == false)) (.bool (x ν)) := by intro _; kernel_rfl)
    (h1 : ∀ ν, g ν = true → ct ν = true := by first | exact fun _ h => h | exact fun _ _ => rfl) :
    OpOK P ops B w0 n i o Spre (tmpsOf ops o) (fun ν => [(d, .slot (g ν) (.bool (t ν || x ν)))]) := by
  have hdn' : d < n := by simpa using hdn
  have hk : ∀ ν, (o.op.operands.all (knownB (Spre ν))) = true := fun ν => by
    rw [hop]; simp [Op.operands, knownB, hT ν, hX ν, isSlot]
  refine opok_of (c := g) (fun _ h => h) (fun cs b e => by rw [hop] at e; cases e) hc hk ?_ ?_
  · intro ν S a w hcf hr
    rw [updAll_one, hd]
    have := hr.put hdn' (g ν) (.bool (t ν || x ν))
    rw [hcf] at this ⊢
    simpa using this
  · intro Q p S a w hpi hct hag hrep hev
    have hrun : ∀ ν, Ext p ν → (execOp (envS (Spre ν)) o).run P w = .ok (.value (.bool (t ν || x ν))) w := fun ν hν => by
      have e1 : ct ν = true := h1 ν (hct ν hν)
      have : execOp (envS (Spre ν)) o = Sem.pure (.value (if t ν = true then .bool true else (bif (ct ν && (t ν == false)) then Value.bool (x ν) else undef))) := by
        unfold execOp; rw [hop]; simp only [envS, hT ν, hX ν, e1, cond_true]; rfl
      rw [this, e1]
      cases t ν <;> rfl
    unfold Oper.wp
    obtain ⟨ν0, h0⟩ := Ext.exists p
    rw [hev ν0 h0, hrun ν0 h0]
    simp only [Oper.upon]
    refine ⟨default, fun ν hν => ?_⟩
    have hν' := hν.of_set hpi
    have e : (t ν0 || x ν0) = (t ν || x ν) := by
      have h1 := hrun ν0 h0
      rw [← hev ν0 h0, hev ν hν', hrun ν hν'] at h1
      injection h1 with h1 _; injection h1 with h1; injection h1 with h1; exact h1.symm
    rw [updAll_one, hd, e]
    have := (hrep ν hν').put hdn' (g ν) (.bool (t ν || x ν))
    rw [hct ν hν'] at this ⊢
    simpa using this
theorem ok_new (val : Nat → Value) (cs : Nu → List Value) (e : TypeId) (d k : Nat) (hd : o.dst = some d := by rfl) (hdn : Nat.blt d n = true := by rfl) (hkn : Nat.ble n k = true := by rfl)
    (hsel : noSel o = true := by rfl) (hg : o.guard = none := by rfl)
    (hk : ∀ ν, (o.op.operands.all (knownB (Spre ν))) = true := by intro _; kernel_rfl) (hp : ∀ ν, (condsOf o (Spre ν)).all id = true := by intro _; kernel_rfl)
    (hv : ∀ ν w, (execOp (envU (Spre ν)) o).run P w = .ok (.value (val w.heap.size)) { w with heap := w.heap.push (.cells (cs ν).toArray e (0, 0)) } := by intro _ _; kernel_rfl) :
    OpOK P ops B w0 n i o Spre (tmpsOf ops o) (fun ν => [(d, .slot true (val ((ν i).n 0))), (k, .blk ((ν i).n 0) (cs ν) e)]) := by
  have hdn' : d < n := by simpa using hdn
  have hkn' : n ≤ k := by simpa using hkn
  refine opok_of (c := fun _ => true) (fun _ h => h) (noSel_spec hsel) (fun ν => by unfold wantS; rw [hg]) hk ?_ ?_
  · intro ν S a w hcf; cases hcf
  · intro Q p S a w hpi hct hag hrep hev0
    have hev : ∀ ν, Ext p ν → execOp a.eval o = execOp (envU (Spre ν)) o := fun ν hν => (hev0 ν hν).trans (env_strip (noSel_spec hsel) (by simpa using hp ν))
    unfold Oper.wp
    obtain ⟨ν0, h0⟩ := Ext.exists p
    rw [hev ν0 h0, hv ν0 w]
    simp only [Oper.upon]
    refine ⟨Gh.of (fun _ => w.heap.size) fun _ => none, fun ν hν => ?_⟩
    have hν' := hν.of_set hpi
    have e0 : (ν i).n 0 = w.heap.size := by rw [hν.at_set]
    have ec : (cs ν0).toArray = (cs ν).toArray := by
      have h1 := hv ν0 w
      rw [← hev ν0 h0, hev ν hν', hv ν w] at h1
      injection h1 with _ h1
      have h2 := congrArg (fun x : World => x.heap[w.heap.size]?) h1
      simp only [Array.getElem?_push, if_true, Option.some.injEq, Obj.cells.injEq] at h2
      exact h2.1.symm
    rw [e0, ec, hd]
    have hb : Below w.heap.size w { w with heap := w.heap.push (.cells (cs ν).toArray e (0, 0)) } := (Below.refl _ w).alloc (Nat.le_refl _) _
    have hr1 := ((hrep ν hν').world hb).put hdn' true (val w.heap.size)
    refine hr1.ent k (.blk w.heap.size (cs ν) e) (by intro c x h; cases h) ?_ ?_ ?_ ?_
    · show (w.heap.push _)[w.heap.size]? = _
      simp
    · intro j hj; have hj' : j = w.heap.size := hj; subst hj'; show _ < (w.heap.push _).size; simp
    · intro _ j hj; have hj' : j = w.heap.size := hj; subst hj'; exact (hrep ν hν').base
    · intro k' j hne _ hj hj'
      have hj2 : j = w.heap.size := hj
      subst hj2
      by_cases ed : k' = d
      · subst ed; rw [upd_same] at hj'; exact hj'
      · rw [upd_ne _ _ ed] at hj'
        exact Nat.lt_irrefl _ ((hrep ν hν').inb k' _ hj')
def peek {α : Type} (p : Program) : Sem α → List Value → List Addr → Option (α × List Addr)
  | .pure a, [], l => some (a, l)
  | .load _ x k, v :: vs, l => peek p (k v) vs (l ++ [x])
  | .program k, vs, l => peek p (k p) vs l
  | .mark _ k, vs, l => peek p k vs l
  | _, _, _ => none
theorem peek_run {α : Type} {p : Program} : ∀ (s : Sem α) (vs : List Value) (l : List Addr) (a : α) (l' : List Addr), peek p s vs l = some (a, l') →
    ∃ m, l' = l ++ m ∧ m.length = vs.length ∧ ∀ w : World, (∀ (j : Nat) x v, m[j]? = some x → vs[j]? = some v → w.cell? x = some v) → s.run p w = .ok a w := by
  intro s
  induction s with
  | pure a =>
    intro vs l a' l' h
    cases vs with
    | nil => simp only [peek, Option.some.injEq, Prod.mk.injEq] at h; obtain ⟨rfl, rfl⟩ := h; exact ⟨[], by simp, rfl, fun w _ => rfl⟩
    | cons v vs => simp [peek] at h
  | load m x k ih =>
    intro vs l a' l' h
    cases vs with
    | nil => simp [peek] at h
    | cons v vs =>
      simp only [peek] at h
      obtain ⟨m', e, hl, hr⟩ := ih v vs (l ++ [x]) a' l' h
      refine ⟨x :: m', by rw [e]; simp, by simp [hl], fun w hw => ?_⟩
      have h0 : w.cell? x = some v := hw 0 x v rfl rfl
      simp only [Sem.run, h0]
      exact hr w fun j y u hy hu => hw (j + 1) y u (by simpa using hy) (by simpa using hu)
  | program k ih =>
    intro vs l a' l' h
    simp only [peek] at h
    obtain ⟨m', e, hl, hr⟩ := ih p vs l a' l' h
    exact ⟨m', e, hl, fun w hw => by simp only [Sem.run]; exact hr w hw⟩
  | mark m k ih =>
    intro vs l a' l' h
    simp only [peek] at h
    obtain ⟨m', e, hl, hr⟩ := ih vs l a' l' h
    exact ⟨m', e, hl, fun w hw => by simp only [Sem.run]; exact hr w hw⟩
  | _ => intro vs l a' l' h; simp [peek] at h
def addrs (b off : Nat) : Nat → List Addr
  | 0 => []
  | m + 1 => ⟨b, off, none⟩ :: addrs b (off + 1) m
theorem addrs_get (b : Nat) : ∀ (m off j : Nat) (x : Addr), (addrs b off m)[j]? = some x → x = ⟨b, off + j, none⟩ ∧ j < m
  | 0, off, j, x, h => by simp [addrs] at h
  | m + 1, off, 0, x, h => by simp only [addrs, List.getElem?_cons_zero, Option.some.injEq] at h; exact ⟨h.symm, by omega⟩
  | m + 1, off, j + 1, x, h => by
    simp only [addrs, List.getElem?_cons_succ] at h
    obtain ⟨h1, h2⟩ := addrs_get b m (off + 1) j x h
    exact ⟨by rw [h1]; congr 1; omega, by omega⟩
theorem addrs_length (b : Nat) : ∀ (m off : Nat), (addrs b off m).length = m
  | 0, off => rfl
  | m + 1, off => by simp [addrs, addrs_length b m (off + 1)]
theorem ok_load (v : Nu → Value) (c : Nu → Bool) (d k off m : Nat) (b : Nu → Nat) (cs : Nu → List Value) (hb : ∀ ν, (∃ e, Spre ν k = .blk (b ν) (cs ν) e) ∨ (∃ e fz, Spre ν k = .rblk (b ν) (cs ν) e fz)) (pat : List Bool) (hd : o.dst = some d := by rfl) (hdn : Nat.blt d n = true := by rfl) (hsel : noSel o = true := by rfl)
    (hc : ∀ ν, wantS ops o (Spre ν) = some (c ν) := by intro _; kernel_rfl) (hk : ∀ ν, (o.op.operands.all (knownB (Spre ν))) = true := by intro _; kernel_rfl)
    (hp : ∀ ν, condsOf o (Spre ν) = pat.map (fun p => bif p then true else c ν) := by intro _; kernel_rfl)
    (hv : ∀ ν, peek P (execOp (envU (Spre ν)) o) (((cs ν).drop off).take m) [] = some (.value (v ν), addrs (b ν) off m) := by intro _; kernel_rfl) :
    OpOK P ops B w0 n i o Spre (k :: tmpsOf ops o) (fun ν => [(d, .slot (c ν) (v ν))]) := by
  have hdn' : d < n := by simpa using hdn
  refine opok_of (c := c) (fun _ h => List.mem_cons_of_mem _ h) (noSel_spec hsel) hc hk ?_ ?_
  · intro ν S a w hcf hr
    rw [updAll_one, hd]
    have := hr.put hdn' (c ν) (v ν)
    rw [hcf] at this ⊢
    simpa using this
  · intro Q p S a w hpi hct hag hrep hev0
    have hev : ∀ ν, Ext p ν → execOp a.eval o = execOp (envU (Spre ν)) o := fun ν hν => (hev0 ν hν).trans (env_strip (noSel_spec hsel) (by rw [hp ν]; exact pat_true (hct ν hν)))
    have hrun : ∀ ν, Ext p ν → (execOp (envU (Spre ν)) o).run P w = .ok (.value (v ν)) w := fun ν hν => by
      obtain ⟨m', e, hl, hr⟩ := peek_run _ _ _ _ _ (hv ν)
      simp only [List.nil_append] at e
      subst e
      refine hr w fun j x u hx hu => ?_
      obtain ⟨rfl, hj⟩ := addrs_get _ _ _ _ _ hx
      have hcell : (cs ν)[off + j]? = some u := by
        rw [List.getElem?_take_of_lt hj, List.getElem?_drop] at hu; exact hu
      have hkS := hag ν hν k (by simp)
      have hh := (hrep ν hν).holds k
      rw [hkS] at hh
      rcases hb ν with ⟨e, he⟩ | ⟨e, fz, he⟩ <;> rw [he] at hh <;> simp only [KV.holds] at hh <;> simp [World.cell?, hh, hcell]
    unfold Oper.wp
    obtain ⟨ν0, h0⟩ := Ext.exists p
    rw [hev ν0 h0, hrun ν0 h0]
    simp only [Oper.upon]
    refine ⟨default, fun ν hν => ?_⟩
    have hν' := hν.of_set hpi
    have e : v ν0 = v ν := by
      have h1 := hrun ν0 h0
      rw [← hev ν0 h0, hev ν hν', hrun ν hν'] at h1
      injection h1 with h1 _; injection h1 with h1; exact h1.symm
    rw [updAll_one, hd, e]
    have := (hrep ν hν').put hdn' (c ν) (v ν)
    rw [hct ν hν'] at this ⊢
    simpa using this
theorem ok_ldg (v : Nu → Value) (c : Nu → Bool) (pat : List Bool) (d k off m : Nat) (b : Nu → Nat) (cs : Nu → List Value) (e : TypeId) (hd : o.dst = some d := by rfl) (hdn : Nat.blt d n = true := by rfl) (hsel : noSel o = true := by rfl)
    (hb : ∀ ν, Spre ν k = .blk (b ν) (cs ν) e := by intro _; kernel_rfl)
    (hc : ∀ ν, wantS ops o (Spre ν) = some (c ν) := by intro _; kernel_rfl) (hk : ∀ ν, (o.op.operands.all (knownB (Spre ν))) = true := by intro _; kernel_rfl)
    (hp : ∀ ν, condsOf o (Spre ν) = pat.map (fun p => bif p then true else c ν) := by intro _; kernel_rfl)
    (hv : ∀ ν, peek P (execOp (envU (Spre ν)) o) (((cs ν).drop off).take m) [] = some (.value (v ν), addrs (b ν) off m) := by intro _; kernel_rfl) :
    OpOK P ops B w0 n i o Spre (k :: tmpsOf ops o) (fun ν => [(d, .slot (c ν) (v ν))]) :=
  ok_load v c d k off m b cs (fun ν => .inl ⟨e, hb ν⟩) pat hd hdn hsel hc hk hp hv
theorem ok_ld (v : Nu → Value) (d k off m : Nat) (b : Nu → Nat) (cs : Nu → List Value) (e : TypeId) (hd : o.dst = some d := by rfl) (hdn : Nat.blt d n = true := by rfl) (hsel : noSel o = true := by rfl) (hg : o.guard = none := by rfl)
    (hb : ∀ ν, Spre ν k = .blk (b ν) (cs ν) e := by intro _; kernel_rfl)
    (hk : ∀ ν, (o.op.operands.all (knownB (Spre ν))) = true := by intro _; kernel_rfl)
    (hp : ∀ ν, (condsOf o (Spre ν)).all id = true := by intro _; kernel_rfl)
    (hv : ∀ ν, peek P (execOp (envU (Spre ν)) o) (((cs ν).drop off).take m) [] = some (.value (v ν), addrs (b ν) off m) := by intro _; kernel_rfl) :
    OpOK P ops B w0 n i o Spre (k :: tmpsOf ops o) (fun ν => [(d, .slot true (v ν))]) :=
  ok_load v (fun _ => true) d k off m b cs (fun ν => .inl ⟨e, hb ν⟩) (o.op.operands.toList.map fun _ => true) hd hdn hsel (fun ν => by unfold wantS; rw [hg]) hk
    (fun ν => by
      have := hp ν
      simp only [List.all_eq_true] at this
      rw [condsOf] at this ⊢
      simp only [List.map_map]
      exact List.map_congr_left fun x hx => this _ (List.mem_map.2 ⟨x, hx, rfl⟩)) hv
def poke {α : Type} (p : Program) : Sem α → List (Addr × Value) → Option (α × List (Addr × Value))
  | .pure a, l => some (a, l)
  | .store _ _ (.agg _) _, _ | .store _ _ (.tuple _) _, _ => none
  | .store _ x v k, l => poke p k (l ++ [(x, v)])
  | .program k, l => poke p (k p) l
  | .mark _ k, l => poke p k l
  | _, _ => none
def setAll (w : World) : List (Addr × Value) → World
  | [] => w
  | (x, v) :: r => setAll (w.setCell x v) r
theorem setCell_blk {w : World} {b j : Nat} {cs : Array Value} {e : TypeId} (h : w.heap[b]? = some (.cells cs e (0, 0))) (v : Value) : (w.setCell ⟨b, j, none⟩ v).heap[b]? = some (.cells (cs.setIfInBounds j v) e (0, 0)) := by
  simp [World.setCell, Array.getElem?_modify, h]
theorem poke_run {α : Type} {p : Program} {b : Nat} {e : TypeId} : ∀ (s : Sem α) (l : List (Addr × Value)) (a : α) (l' : List (Addr × Value)), poke p s l = some (a, l') →
    ∃ m, l' = l ++ m ∧ ∀ (w : World) (cs : Array Value), w.heap[b]? = some (.cells cs e (0, 0)) → (∀ x ∈ m, x.1.block = b ∧ x.1.spot = none ∧ x.1.off < cs.size) → s.run p w = .ok a (setAll w m) := by
  intro s
  induction s with
  | pure a =>
    intro l a' l' h
    simp only [poke, Option.some.injEq, Prod.mk.injEq] at h
    obtain ⟨rfl, rfl⟩ := h
    exact ⟨[], by simp, fun w cs _ _ => rfl⟩
  | store md x v k ih =>
    intro l a' l' h
    have hcase : poke p k (l ++ [(x, v)]) = some (a', l') ∧ (∀ c, v ≠ .agg c) ∧ (∀ c, v ≠ .tuple c) := by
      cases v <;> simp only [poke] at h <;> first | cases h | exact ⟨h, by simp, by simp⟩
    obtain ⟨h1, hna, hnt⟩ := hcase
    obtain ⟨m, e1, hr⟩ := ih (l ++ [(x, v)]) a' l' h1
    refine ⟨(x, v) :: m, by rw [e1]; simp, fun w cs hw hm => ?_⟩
    obtain ⟨hb, hsp, hlt⟩ := hm (x, v) (by simp)
    obtain ⟨xb, xo, xs⟩ := x
    simp only at hb hsp hlt
    subst hb hsp
    have hc : w.cell? ⟨xb, xo, none⟩ = some cs[xo] := by simp [World.cell?, hw, Array.getElem?_eq_getElem hlt]
    have hf : w.frozen? ⟨xb, xo, none⟩ = false := by simp [World.frozen?, hw]
    have : (Sem.store md ⟨xb, xo, none⟩ v k).run p w = k.run p (w.setCell ⟨xb, xo, none⟩ v) := by
      cases v <;> simp only [Sem.run, hc, hf] <;> first | exact absurd rfl (hna _) | exact absurd rfl (hnt _) | rfl
    rw [this]
    exact hr _ (cs.setIfInBounds xo v) (setCell_blk hw v) fun y hy => by
      obtain ⟨y1, y2, y3⟩ := hm y (List.mem_cons_of_mem _ hy)
      exact ⟨y1, y2, by simpa using y3⟩
  | program k ih =>
    intro l a' l' h
    simp only [poke] at h
    obtain ⟨m, e1, hr⟩ := ih p l a' l' h
    exact ⟨m, e1, fun w cs hw hm => by simp only [Sem.run]; exact hr w cs hw hm⟩
  | mark md k ih =>
    intro l a' l' h
    simp only [poke] at h
    obtain ⟨m, e1, hr⟩ := ih l a' l' h
    exact ⟨m, e1, fun w cs hw hm => by simp only [Sem.run]; exact hr w cs hw hm⟩
  | _ => intro l a' l' h; simp [poke] at h
def lay (cs : List Value) (off : Nat) : List Value → List Value
  | [] => cs
  | v :: vs => lay (cs.set off v) (off + 1) vs
theorem setAll_addrs {b : Nat} {e : TypeId} : ∀ (vs : List Value) (w : World) (cs : List Value) (off : Nat), w.heap[b]? = some (.cells cs.toArray e (0, 0)) →
    (setAll w ((addrs b off vs.length).zip vs)).heap[b]? = some (.cells (lay cs off vs).toArray e (0, 0)) ∧ Below b w (setAll w ((addrs b off vs.length).zip vs)) ∧
      (∀ j, j ≠ b → (setAll w ((addrs b off vs.length).zip vs)).heap[j]? = w.heap[j]?) ∧ (setAll w ((addrs b off vs.length).zip vs)).heap.size = w.heap.size
  | [], w, cs, off, h => ⟨h, Below.refl _ _, fun _ _ => rfl, rfl⟩
  | v :: vs, w, cs, off, h => by
    have h1 := setCell_blk (j := off) h v
    have e1 : cs.toArray.setIfInBounds off v = (cs.set off v).toArray := by simp
    rw [e1] at h1
    obtain ⟨i1, i2, i3, i4⟩ := setAll_addrs vs (w.setCell ⟨b, off, none⟩ v) (cs.set off v) (off + 1) h1
    refine ⟨i1, Below.trans ((Below.refl b w).setCell (p := ⟨b, off, none⟩) (Nat.le_refl _) v) i2, fun j hj => (i3 j hj).trans (Below.heap_setCell _ _ _ _ hj), i4.trans (by simp [World.setCell])⟩
theorem ok_store (k off : Nat) (b : Nu → Nat) (cs : Nu → List Value) (vs : Nu → List Value) (e : TypeId) (hd : o.dst = none := by rfl) (hg : o.guard = none := by rfl) (hkn : Nat.ble n k = true := by rfl) (hsel : noSel o = true := by rfl)
    (hk : ∀ ν, (o.op.operands.all (knownB (Spre ν))) = true := by intro _; kernel_rfl) (hp : ∀ ν, (condsOf o (Spre ν)).all id = true := by intro _; kernel_rfl)
    (hb : ∀ ν, Spre ν k = .blk (b ν) (cs ν) e := by intro _; kernel_rfl) (hlen : ∀ ν, Nat.ble (off + (vs ν).length) (cs ν).length = true := by intro _; kernel_rfl)
    (hv : ∀ ν, poke P (execOp (envU (Spre ν)) o) [] = some (.skip, (addrs (b ν) off (vs ν).length).zip (vs ν)) := by intro _; kernel_rfl) :
    OpOK P ops B w0 n i o Spre (k :: tmpsOf ops o) (fun ν => [(k, .blk (b ν) (lay (cs ν) off (vs ν)) e)]) := by
  have hkn' : n ≤ k := by simpa using hkn
  refine opok_of (c := fun _ => true) (fun _ h => List.mem_cons_of_mem _ h) (noSel_spec hsel) (fun ν => by unfold wantS; rw [hg]) hk ?_ ?_
  · intro ν S a w hcf; cases hcf
  · intro Q p S a w hpi hct hag hrep hev0
    have hev : ∀ ν, Ext p ν → execOp a.eval o = execOp (envU (Spre ν)) o := fun ν hν => (hev0 ν hν).trans (env_strip (noSel_spec hsel) (by simpa using hp ν))
    have hblk : ∀ ν, Ext p ν → w.heap[b ν]? = some (.cells (cs ν).toArray e (0, 0)) := fun ν hν => by
      have := (hrep ν hν).holds k
      rw [hag ν hν k (by simp), hb ν] at this
      exact this
    have hrun : ∀ ν, Ext p ν → (execOp (envU (Spre ν)) o).run P w = .ok .skip (setAll w ((addrs (b ν) off (vs ν).length).zip (vs ν))) := fun ν hν => by
      obtain ⟨m', em, hr⟩ := poke_run (b := b ν) (e := e) _ _ _ _ (hv ν)
      simp only [List.nil_append] at em
      subst em
      refine hr w _ (hblk ν hν) fun x hx => ?_
      obtain ⟨j, hj⟩ := List.mem_iff_getElem?.1 hx
      rw [List.getElem?_zip_eq_some] at hj
      obtain ⟨hx1, hlt⟩ := addrs_get _ _ _ _ _ hj.1
      rw [hx1]
      have := hlen ν
      simp only [Nat.ble_eq] at this
      exact ⟨rfl, rfl, by simp only [List.size_toArray]; omega⟩
    unfold Oper.wp
    obtain ⟨ν0, h0⟩ := Ext.exists p
    rw [hev ν0 h0, hrun ν0 h0]
    simp only [Oper.upon]
    refine ⟨default, fun ν hν => ?_⟩
    have hν' := hν.of_set hpi
    have ew : setAll w ((addrs (b ν0) off (vs ν0).length).zip (vs ν0)) = setAll w ((addrs (b ν) off (vs ν).length).zip (vs ν)) := by
      have h1 := hrun ν0 h0
      rw [← hev ν0 h0, hev ν hν', hrun ν hν'] at h1
      injection h1 with _ h1; exact h1.symm
    rw [ew, updAll_one, hd]
    obtain ⟨i1, i2, i3, i4⟩ := setAll_addrs (b := b ν) (e := e) (vs ν) w (cs ν) off (hblk ν hν')
    have hS : S ν k = .blk (b ν) (cs ν) e := (hag ν hν' k (by simp)).trans (hb ν)
    have hr := hrep ν hν'
    have hge : B ≤ b ν := hr.ge k (b ν) (by rw [hS]; trivial) (by rw [hS]; rfl)
    have hin : b ν < w.heap.size := hr.inb k (b ν) (by rw [hS]; rfl)
    refine ⟨hr.defers, hr.size, ?_, ?_, ?_, ?_, ?_, ?_, ?_⟩
    · intro t c x hs
      by_cases et : t = k
      · subst et; rw [upd_same] at hs; cases hs
      · rw [upd_ne _ _ et] at hs; exact hr.slots t c x hs
    · exact hr.below.trans (i2.mono hge)
    · rw [i4]; exact hr.base
    · intro j
      by_cases ej : j = k
      · subst ej; rw [upd_same]; exact i1
      · rw [upd_ne _ _ ej]
        refine KV.holds_agree (hr.holds j) fun x hx => i3 x fun hxb => ?_
        subst hxb
        exact hr.disj k j (b ν) (Ne.symm ej) (by rw [hS]; trivial) (by rw [hS]; rfl) hx
    · intro j x hx
      rw [i4]
      by_cases ej : j = k
      · subst ej; rw [upd_same] at hx; have hx' : x = b ν := hx; subst hx'; exact hin
      · rw [upd_ne _ _ ej] at hx; exact hr.inb j x hx
    · intro j x hxe hx
      by_cases ej : j = k
      · subst ej; rw [upd_same] at hx; have hx' : x = b ν := hx; subst hx'; exact hge
      · rw [upd_ne _ _ ej] at hx hxe; exact hr.ge j x hxe hx
    · intro j j' x hne hxe hx hx'
      by_cases ej : j = k
      · subst ej
        rw [upd_same] at hx
        rw [upd_ne _ _ (Ne.symm hne)] at hx'
        have hxb : x = b ν := hx
        subst hxb
        exact hr.disj j j' (b ν) hne (by rw [hS]; trivial) (by rw [hS]; rfl) hx'
      · rw [upd_ne _ _ ej] at hx hxe
        by_cases ej' : j' = k
        · subst ej'
          rw [upd_same] at hx'
          have hxb : x = b ν := hx'
          subst hxb
          exact hr.disj j j' (b ν) hne hxe hx (by rw [hS]; rfl)
        · rw [upd_ne _ _ ej'] at hx'
          exact hr.disj j j' x hne hxe hx hx'
theorem ok_call (f : FuncId) (args : Nu → Array Value) (v : Value) (c : Nu → Bool) (pat : List Bool) (d : Nat) (ks : List Nat)
    (hC : ∀ ν w, c ν = true → (∀ k ∈ ks, (Spre ν k).holds w) → Calls P f (args ν) w fun e w' => e = .returned v ∧ Below w.heap.size w w')
    (hd : o.dst = some d := by rfl) (hdn : Nat.blt d n = true := by rfl) (hsel : noSel o = true := by rfl)
    (hc : ∀ ν, wantS ops o (Spre ν) = some (c ν) := by intro _; kernel_rfl) (hk : ∀ ν, (o.op.operands.all (knownB (Spre ν))) = true := by intro _; kernel_rfl)
    (hp : ∀ ν, condsOf o (Spre ν) = pat.map (fun p => bif p then true else c ν) := by intro _; kernel_rfl)
    (hv : ∀ ν w, (execOp (envU (Spre ν)) o).run P w = .ok (.enter f (args ν)) w := by intro _ _; kernel_rfl) :
    OpOK P ops B w0 n i o Spre (ks ++ tmpsOf ops o) (fun ν => [(d, .slot (c ν) v)]) := by
  have hdn' : d < n := by simpa using hdn
  refine opok_of (c := c) (fun _ h => List.mem_append_right _ h) (noSel_spec hsel) hc hk ?_ ?_
  · intro ν S a w hcf hr
    rw [updAll_one, hd]
    have := hr.put hdn' (c ν) v
    rw [hcf] at this ⊢
    simpa using this
  · intro Q p S a w hpi hct hag hrep hev0
    have hev : ∀ ν, Ext p ν → execOp a.eval o = execOp (envU (Spre ν)) o := fun ν hν => (hev0 ν hν).trans (env_strip (noSel_spec hsel) (by rw [hp ν]; exact pat_true (hct ν hν)))
    unfold Oper.wp
    obtain ⟨ν0, h0⟩ := Ext.exists p
    rw [hev ν0 h0, hv ν0 w]
    simp only [Oper.upon]
    refine (hC ν0 w (hct ν0 h0) fun k hk' => ?_).mono ?_
    · have := (hrep ν0 h0).holds k
      rw [hag ν0 h0 k (List.mem_append_left _ hk')] at this; exact this
    · rintro e w' ⟨rfl, hb⟩
      refine ⟨default, fun ν hν => ?_⟩
      have hν' := hν.of_set hpi
      rw [updAll_one, hd]
      have := ((hrep ν hν').world hb).put hdn' (c ν) v
      rw [hct ν hν'] at this ⊢
      simpa using this
theorem ok_callv (f : FuncId) (args : Nu → Array Value) (v : Value) (d : Nat) (ks : List Nat)
    (hC : ∀ ν w, (∀ k ∈ ks, (Spre ν k).holds w) → Calls P f (args ν) w fun e w' => e = .returned v ∧ Below w.heap.size w w')
    (hd : o.dst = some d := by rfl) (hdn : Nat.blt d n = true := by rfl) (hsel : noSel o = true := by rfl) (hg : o.guard = none := by rfl)
    (hk : ∀ ν, (o.op.operands.all (knownB (Spre ν))) = true := by intro _; kernel_rfl)
    (hp : ∀ ν, (condsOf o (Spre ν)).all id = true := by intro _; kernel_rfl)
    (hv : ∀ ν w, (execOp (envU (Spre ν)) o).run P w = .ok (.enter f (args ν)) w := by intro _ _; kernel_rfl) :
    OpOK P ops B w0 n i o Spre (ks ++ tmpsOf ops o) (fun ν => [(d, .slot true v)]) :=
  ok_call f args v (fun _ => true) (o.op.operands.toList.map fun _ => true) d ks (fun ν w _ => hC ν w) hd hdn hsel (fun ν => by unfold wantS; rw [hg]) hk
    (fun ν => by
      have := hp ν
      simp only [List.all_eq_true] at this
      rw [condsOf] at this ⊢
      simp only [List.map_map]
      exact List.map_congr_left fun x hx => this _ (List.mem_map.2 ⟨x, hx, rfl⟩)) hv
end
section
variable {P : Program} {ops : Array Oper} {B : Nat} {w0 : World} {n : Nat}
def tokOK (i : Nat) (R : List Nat) : Bool := R.all fun k => Nat.blt k TK || Nat.blt k (TK + i)
theorem tokOK_spec {i : Nat} {R : List Nat} (h : tokOK i R = true) {j : Nat} (hj : TK + j ∈ R) : j < i := by
  have h1 := List.all_eq_true.1 h _ hj
  simp only [Bool.or_eq_true, Nat.blt_eq] at h1
  omega
inductive Chain (P : Program) (ops : Array Oper) (B : Nat) (w0 : World) (n : Nat) : Nat → List Oper → (Nu → St) → List (List Nat × List Nat) → (Nu → St) → Prop
  | nil {i : Nat} {S : Nu → St} : Chain P ops B w0 n i [] S [] S
  | cons {i : Nat} {o : Oper} {rest : List Oper} {S Se : Nu → St} {R : List Nat} {rw : List (List Nat × List Nat)} {u : Nu → List (Nat × KV)} (W : List Nat) (h : OpOK P ops B w0 n i o S R u)
      (t : Chain P ops B w0 n (i + 1) rest (fun ν => updAll (S ν) (u ν)) rw Se) (hW : ∀ ν, (u ν).map Prod.fst = W := by intro _; kernel_rfl) (hT : tokOK i R = true := by kernel_rfl) : Chain P ops B w0 n i (o :: rest) S ((R, W) :: rw) Se
def PNu.free (p : PNu) (i : Nat) : Prop := ∀ j, i ≤ j → p j = none
set_option linter.unusedVariables false in
theorem Chain.inorder {Q : Exit → Act → World → Prop} {Se : Nu → St} : ∀ (l : List Oper) (i : Nat) (S : Nu → St) (rw : List (List Nat × List Nat)) (p : PNu) (a : Act) (w : World),
    Chain P ops B w0 n i l S rw Se → (∀ j, l[j]? = ops[i + j]?) → p.free i → (∀ j, j < i → ∃ g, p j = some g) → (∀ ν, Ext p ν → Rep B w0 n (S ν) a w) →
    (∀ p a w, (∀ ν, Ext p ν → Rep B w0 n (Se ν) a w) → Q .normal a w) → wpOps P ops Q (List.range' i l.length) a w
  | [], i, S, rw, p, a, w, hc, hl, hp, hs, hr, hQ => by
    cases hc
    exact hQ p a w hr
  | o :: rest, i, S, rw, p, a, w, hc, hl, hp, hs, hr, hQ => by
    cases hc with
    | cons W h t hW hT =>
      simp only [List.length_cons, List.range'_succ]
      rw [wpOps_cons]
      refine wpOp_mono ?_ (h Q p S a w (fun ν _ k _ => rfl) (hp i (Nat.le_refl _)) (by simpa using (hl 0).symm) hr (fun j hj => hs j (tokOK_spec hT hj)))
      rintro a' w' ⟨g, hg⟩
      exact Chain.inorder rest (i + 1) _ _ (p.set i g) a' w' t (fun j => by have := hl (j + 1); simpa [Nat.add_assoc, Nat.add_comm 1 j] using this)
        (fun j hj => by have := hp j (by omega); simp only [PNu.set, this]; rw [if_neg (by omega)]) (fun j hj => by
          by_cases e : j = i
          · exact ⟨g, by simp [PNu.set, e]⟩
          · obtain ⟨g', hg'⟩ := hs j (by omega)
            exact ⟨g', by simp [PNu.set, e, hg']⟩) hg hQ
def can (u : Nat → Nu → List (Nat × KV)) (D : Nat → Bool) (S0 : St) (ν : Nu) : Nat → St
  | 0 => S0
  | m + 1 => if D m then updAll (can u D S0 ν m) (u m ν) else can u D S0 ν m
theorem can_congr {u : Nat → Nu → List (Nat × KV)} {D D' : Nat → Bool} {S0 : St} {ν : Nu} {k : Nat} : ∀ (m : Nat), (∀ j, j < m → k ∈ (u j ν).map Prod.fst → D j = D' j) → can u D S0 ν m k = can u D' S0 ν m k
  | 0, _ => rfl
  | m + 1, h => by
    have ih := can_congr (u := u) (D := D) (D' := D') (S0 := S0) (ν := ν) (k := k) m (fun j hj => h j (by omega))
    simp only [can]
    by_cases hk : k ∈ (u m ν).map Prod.fst
    · rw [h m (by omega) hk]
      cases D' m with
      | true => simp only [if_true]; rw [updAll_look, updAll_look, ih]
      | false => simpa using ih
    · have e : ∀ S : St, updAll S (u m ν) k = S k := fun S => by rw [updAll_look, look_none hk]; rfl
      have e1 : ∀ (b : Bool) (S : St), (if b = true then updAll S (u m ν) else S) k = S k := fun b S => by cases b <;> simp [e]
      rw [e1, e1, ih]
theorem can_add {u : Nat → Nu → List (Nat × KV)} {D : Nat → Bool} {S0 : St} {ν : Nu} {i : Nat} (hi : D i = false) (k : Nat) : ∀ (m : Nat), i < m →
    (∀ j, i < j → j < m → D j = true → k ∈ (u i ν).map Prod.fst → k ∉ (u j ν).map Prod.fst) →
    can u (fun j => D j || decide (j = i)) S0 ν m k = updAll (can u D S0 ν m) (u i ν) k := by
  intro m hm h
  by_cases hk : k ∈ (u i ν).map Prod.fst
  · obtain ⟨x, hx⟩ := look_some hk
    rw [updAll_look, hx]
    -- from i + 1 on nothing turns k
    have key : ∀ m, i < m → (∀ j, i < j → j < m → D j = true → k ∉ (u j ν).map Prod.fst) → can u (fun j => D j || decide (j = i)) S0 ν m k = x := by
      intro m
      induction m with
      | zero => intro hm; omega
      | succ m ih =>
        intro hm h
        simp only [can]
        by_cases e : m = i
        · subst e
          simp only [decide_true, Bool.or_true, if_true]
          rw [updAll_look, hx]; rfl
        · have ih' := ih (by omega) (fun j h1 h2 => h j h1 (by omega))
          have e1 : (D m || decide (m = i)) = D m := by simp [e]
          simp only [e1]
          cases hD : D m with
          | true => simp only [if_true]; rw [updAll_look, look_none (h m (by omega) (by omega) hD), Option.getD_none, ih']
          | false => simpa using ih'
    rw [key m hm (fun j h1 h2 h3 => h j h1 h2 h3 hk)]; rfl
  · rw [updAll_look, look_none hk, Option.getD_none]
    exact can_congr m fun j hj hkj => by
      have : j ≠ i := fun e => hk (e ▸ hkj)
      simp [this]
def disj (x y : List Nat) : Bool := x.all fun k => !(y.contains k)
def edgeTo (o : Oper) (i : Nat) : Bool := o.after.any fun e => Region.binds .any e && Nat.beq e.on i
def indepAt (o : Oper) (R W : List Nat) : Nat → List (List Nat × List Nat) → Bool
  | _, [] => true
  | i, (R', W') :: rest => ((disj W' R && disj W' W && disj R' W && !(R.contains (TK + i))) || edgeTo o i) && indepAt o R W (i + 1) rest
def indep : List Oper → List (List Nat × List Nat) → List (List Nat × List Nat) → Bool
  | o :: os, (R, W) :: rw, pre => indepAt o R W 0 pre && indep os rw (pre ++ [(R, W)])
  | _, _, _ => true
def forward : List Oper → Nat → Bool
  | [], _ => true
  | o :: os, i => (o.after.all fun e => !Region.binds .any e || Nat.blt e.on i) && forward os (i + 1)
theorem indepAt_spec {o : Oper} {R W : List Nat} : ∀ (l : List (List Nat × List Nat)) (b : Nat), indepAt o R W b l = true → ∀ j R' W', l[j]? = some (R', W') → edgeTo o (b + j) = true ∨ (disj W' R = true ∧ disj W' W = true ∧ disj R' W = true ∧ TK + (b + j) ∉ R)
  | [], b, h, j, R', W', hj => by simp at hj
  | (R0, W0') :: rest, b, h, j, R', W', hj => by
    simp only [indepAt, Bool.and_eq_true, Bool.or_eq_true] at h
    cases j with
    | zero =>
      simp only [List.getElem?_cons_zero, Option.some.injEq, Prod.mk.injEq] at hj
      obtain ⟨rfl, rfl⟩ := hj
      rcases h.1 with ⟨⟨⟨h1, h2⟩, h3⟩, h4⟩ | h1
      · exact .inr ⟨h1, h2, h3, by simpa using h4⟩
      · exact .inl (by simpa using h1)
    | succ j =>
      have := indepAt_spec rest (b + 1) h.2 j R' W' (by simpa using hj)
      rw [show b + 1 + j = b + (j + 1) by omega] at this
      exact this
theorem indep_spec : ∀ (os : List Oper) (rw pre : List (List Nat × List Nat)), indep os rw pre = true → ∀ j o R W, os[j]? = some o → rw[j]? = some (R, W) →
    ∀ i R' W', i < pre.length + j → (pre ++ rw)[i]? = some (R', W') → edgeTo o i = true ∨ (disj W' R = true ∧ disj W' W = true ∧ disj R' W = true ∧ TK + i ∉ R)
  | [], rw, pre, h, j, o, R, W, ho, hr => by simp at ho
  | o0 :: os, [], pre, h, j, o, R, W, ho, hr => by simp at hr
  | o0 :: os, (R0, W0') :: rw, pre, h, j, o, R, W, ho, hr => by
    simp only [indep, Bool.and_eq_true] at h
    intro i R' W' hi hx
    cases j with
    | zero =>
      simp only [List.getElem?_cons_zero, Option.some.injEq, Prod.mk.injEq] at ho hr
      obtain ⟨rfl, rfl⟩ := hr
      subst ho
      have := indepAt_spec pre 0 h.1 i R' W' (by rw [List.getElem?_append_left (by omega)] at hx; exact hx)
      simpa using this
    | succ j =>
      refine indep_spec os rw (pre ++ [(R0, W0')]) h.2 j o R W (by simpa using ho) (by simpa using hr) i R' W' (by simp; omega) (by simpa using hx)
theorem disj_spec {x y : List Nat} (h : disj x y = true) {k : Nat} (hk : k ∈ x) : k ∉ y := by
  simp only [disj, List.all_eq_true, Bool.not_eq_true'] at h
  have := h k hk
  simpa using this
theorem forward_spec : ∀ (os : List Oper) (b : Nat), forward os b = true → ∀ j o, os[j]? = some o → ∀ e ∈ o.after, Region.binds .any e = true → e.on < b + j
  | [], b, h, j, o, ho => by simp at ho
  | o0 :: os, b, h, j, o, ho => by
    simp only [forward, Bool.and_eq_true] at h
    intro e he hb
    cases j with
    | zero =>
      simp only [List.getElem?_cons_zero, Option.some.injEq] at ho
      subst ho
      have := Array.all_eq_true_iff_forall_mem.1 h.1 e he
      simp [hb] at this
      omega
    | succ j =>
      have := forward_spec os (b + 1) h.2 j o (by simpa using ho) e he hb
      omega
theorem Chain.parts {Se : Nu → St} : ∀ (l : List Oper) (i : Nat) (S : Nu → St) (rw : List (List Nat × List Nat)), Chain P ops B w0 n i l S rw Se → rw.length = l.length ∧
    ∃ us : Nat → Nu → List (Nat × KV), (∀ j o, l[j]? = some o → ∃ R W, rw[j]? = some (R, W) ∧ (∀ ν, (us j ν).map Prod.fst = W) ∧ tokOK (i + j) R = true ∧ OpOK P ops B w0 n (i + j) o (fun ν => can us (fun _ => true) (S ν) ν j) R (us j)) ∧
      ∀ ν, Se ν = can us (fun _ => true) (S ν) ν l.length
  | [], i, S, rw, h => by
    cases h
    exact ⟨rfl, fun _ _ => [], fun j o h => by simp at h, fun ν => rfl⟩
  | o0 :: l, i, S, rw, h => by
    cases h with
    | @cons _ _ _ _ _ R rw' u W h t hW hT =>
      obtain ⟨h1, us, h2, h3⟩ := Chain.parts l (i + 1) _ rw' t
      have hshift : ∀ (ν : Nu) (m : Nat), can (fun j ν => match j with | 0 => u ν | j + 1 => us j ν) (fun _ => true) (S ν) ν (m + 1) = can us (fun _ => true) (updAll (S ν) (u ν)) ν m := by
        intro ν m
        induction m with
        | zero => simp [can]
        | succ m ih =>
          rw [can, ih]
          simp [can]
      refine ⟨by simp [h1], fun j ν => match j with | 0 => u ν | j + 1 => us j ν, fun j o ho => ?_, fun ν => ?_⟩
      · cases j with
        | zero =>
          simp only [List.getElem?_cons_zero, Option.some.injEq] at ho
          subst ho
          exact ⟨R, W, rfl, hW, hT, h⟩
        | succ j =>
          obtain ⟨R', W', hr, hW', hT', ho'⟩ := h2 j o (by simpa using ho)
          refine ⟨R', W', by simpa using hr, hW', ?_⟩
          simp only [hshift]
          rw [show i + (j + 1) = i + 1 + j by omega]
          exact ⟨hT', ho'⟩
      · rw [h3 ν, ← hshift]; rfl
theorem Chain.anyorder {Q : Exit → Act → World → Prop} {S0 : St} {Se : Nu → St} {rw : List (List Nat × List Nat)} {a : Act} {w : World} (hc : Chain P ops B w0 n 0 ops.toList (fun _ => S0) rw Se)
    (hi : indep ops.toList rw [] = true) (hf : forward ops.toList 0 = true) (hr : Rep B w0 n S0 a w)
    (hQ : ∀ ν a w, Rep B w0 n (Se ν) a w → Q .normal a w) (fuel : Nat) (hfuel : ops.size ≤ fuel) : wpAny P .any ops Q fuel (Array.replicate ops.size false) a w := by
  obtain ⟨hlen, us, hus, hSe⟩ := Chain.parts _ _ _ _ hc
  have hl : ops.toList.length = ops.size := Array.length_toList
  have hget : ∀ j o, ops[j]? = some o → ops.toList[j]? = some o := fun j o h => by rw [Array.getElem?_toList]; exact h
  -- the done set
  let D (L : Array Bool) : Nat → Bool := fun j => L.getD j false
  have main : ∀ (fuel : Nat) (L : Array Bool) (p : PNu) (a : Act) (w : World), L.size = ops.size → (∀ j, D L j = false → p j = none) → (∀ j, D L j = true → ∃ g, p j = some g) →
      (∀ j o, D L j = true → ops[j]? = some o → ∀ e ∈ o.after, Region.binds .any e = true → D L e.on = true) →
      (∀ ν, Ext p ν → Rep B w0 n (can us (D L) S0 ν ops.size) a w) → ((List.range ops.size).filter fun j => !D L j).length ≤ fuel → wpAny P .any ops Q fuel L a w := by
    intro fuel
    have hdone : ∀ (L : Array Bool) (p : PNu) (a : Act) (w : World), L.size = ops.size →
      (∀ j o, D L j = true → ops[j]? = some o → ∀ e ∈ o.after, Region.binds .any e = true → D L e.on = true) →
      (∀ ν, Ext p ν → Rep B w0 n (can us (D L) S0 ν ops.size) a w) → Region.ready .any ops L = [] → Q .normal a w := by
      intro L p a w hL hdown hrep hno
      have hall : ∀ j, j < ops.size → D L j = true := by
        intro j
        induction j using Nat.strongRecOn with
        | _ j ih =>
          intro hj
          cases hD : D L j with
          | true => rfl
          | false =>
            have : j ∈ Region.ready .any ops L := by
              rw [mem_ready]
              refine ⟨?_, ops[j], by simp [hj], fun e he hb => ?_⟩
              · have : L.getD j false = false := hD
                simp only [Array.getD_eq_getD_getElem?] at this ⊢
                rw [Array.getElem?_eq_getElem (by omega)] at this ⊢
                exact this
              · have h1 := forward_spec _ _ hf j ops[j] (by simp [hj]) e he hb
                simp only [Nat.zero_add] at h1
                exact ih e.on h1 (by omega)
            rw [hno] at this; cases this
      obtain ⟨ν, hν⟩ := Ext.exists p
      refine hQ ν a w ((hrep ν hν).congr fun k => ?_)
      rw [hSe ν, hl]
      exact can_congr _ fun j hj _ => (hall j hj).symm
    induction fuel with
    | zero =>
      intro L p a w hL hp hps hdown hrep hcount
      have hno : Region.ready .any ops L = [] := by
        cases hrd : Region.ready .any ops L with
        | nil => rfl
        | cons j rest =>
          exfalso
          have hj : j ∈ Region.ready .any ops L := by rw [hrd]; simp
          obtain ⟨h1, o, ho, _⟩ := mem_ready.1 hj
          have hjs : j < ops.size := (Array.getElem?_eq_some_iff.1 ho).1
          have : j ∈ (List.range ops.size).filter fun j => !D L j := by
            simp only [List.mem_filter, List.mem_range, hjs, true_and, Bool.not_eq_true']
            show L.getD j false = false
            simp only [Array.getD_eq_getD_getElem?] at h1 ⊢
            rw [Array.getElem?_eq_getElem (by omega)] at h1 ⊢
            exact h1
          have := List.length_pos_of_mem this
          omega
      exact ⟨hno, hdone L p a w hL hdown hrep hno⟩
    | succ fuel ih =>
      intro L p a w hL hp hps hdown hrep hcount
      refine ⟨hdone L p a w hL hdown hrep, fun i hi' => ?_⟩
      obtain ⟨hLi, o, ho, hpre⟩ := mem_ready.1 hi'
      have his : i < ops.size := (Array.getElem?_eq_some_iff.1 ho).1
      have hDi : D L i = false := by
        show L.getD i false = false
        simp only [Array.getD_eq_getD_getElem?] at hLi ⊢
        rw [Array.getElem?_eq_getElem (by omega)] at hLi ⊢
        exact hLi
      obtain ⟨R, W, hrw, hW, hT, hok⟩ := hus i o (hget i o ho)
      simp only [Nat.zero_add] at hok hT
      -- what touches what it touches is done if it stands before it, and isn't done if it stands behind it
      have hord : ∀ j, j < ops.size → j ≠ i → (∃ R' W', rw[j]? = some (R', W') ∧ ¬ (disj W' R = true ∧ disj W' W = true ∧ disj R' W = true) ∧ j < i) ∨ (∃ R' W', rw[j]? = some (R', W') ∧ ¬ (disj W R' = true ∧ disj W W' = true ∧ disj R W' = true) ∧ i < j) → D L j = decide (j < i) := by
        intro j hj hne hcase
        rcases hcase with ⟨R', W', hr', hn, hlt⟩ | ⟨R', W', hr', hn, hlt⟩
        · have := indep_spec _ _ _ hi i o R W (hget i o ho) hrw j R' W' (by simpa using hlt) (by simpa using hr')
          have he := this.resolve_right fun q => hn ⟨q.1, q.2.1, q.2.2.1⟩
          simp only [edgeTo, Array.any_eq_true'] at he
          obtain ⟨e, he1, he2⟩ := he
          simp only [Bool.and_eq_true, Nat.beq_eq] at he2
          have := hpre e he1 he2.1
          rw [he2.2] at this
          simp only [hlt, decide_true]; exact this
        · obtain ⟨oj, hoj⟩ : ∃ oj, ops[j]? = some oj := ⟨ops[j], by simp [hj]⟩
          have := indep_spec _ _ _ hi j oj R' W' (hget j oj hoj) hr' i R W (by simpa using hlt) (by simpa using hrw)
          have he := this.resolve_right fun q => hn ⟨q.1, q.2.1, q.2.2.1⟩
          simp only [edgeTo, Array.any_eq_true'] at he
          obtain ⟨e, he1, he2⟩ := he
          simp only [Bool.and_eq_true, Nat.beq_eq] at he2
          cases hDj : D L j with
          | false => have : ¬ j < i := by omega
                     simp [this]
          | true =>
            have h3 := hdown j oj hDj hoj e he1 he2.1
            rw [he2.2, hDi] at h3; cases h3
      have hag : ∀ ν, Ext p ν → ∀ k ∈ R, can us (D L) S0 ν ops.size k = can us (fun _ => true) S0 ν i k := by
        intro ν _ k hk
        have e1 : can us (D L) S0 ν ops.size k = can us (fun j => decide (j < i)) S0 ν ops.size k := by
          refine can_congr _ fun j hj hkj => ?_
          by_cases hji : j = i
          · subst hji; rw [hDi]; simp
          · obtain ⟨oj, hoj⟩ : ∃ oj, ops[j]? = some oj := ⟨ops[j], by simp [hj]⟩
            obtain ⟨R', W', hrw', hW', _, _⟩ := hus j oj (hget j oj hoj)
            rw [hW' ν] at hkj
            refine hord j hj hji ?_
            rcases Nat.lt_or_ge j i with hlt | hge
            · exact .inl ⟨R', W', hrw', fun hd => disj_spec hd.1 hkj hk, hlt⟩
            · exact .inr ⟨R', W', hrw', fun hd => disj_spec hd.2.2 hk hkj, by omega⟩
        rw [e1]
        have key : ∀ m, i ≤ m → can us (fun j => decide (j < i)) S0 ν m k = can us (fun _ => true) S0 ν i k := by
          intro m
          induction m with
          | zero => intro hm; have : i = 0 := by omega
                    subst this; rfl
          | succ m ihm =>
            intro hm
            by_cases e : i = m + 1
            · subst e
              exact can_congr _ fun j hj _ => by simp [hj]
            · rw [can, if_neg (by simp; omega)]
              exact ihm (by omega)
        exact key _ (by omega)
      have hJ : ∀ j, TK + j ∈ R → ∃ g, p j = some g := by
        intro j hj
        have hlt := tokOK_spec hT hj
        obtain ⟨oj, hoj⟩ : ∃ oj, ops[j]? = some oj := ⟨ops[j]'(by omega), by simp [show j < ops.size by omega]⟩
        obtain ⟨R', W', hrw', _, _, _⟩ := hus j oj (hget j oj hoj)
        have := indep_spec _ _ _ hi i o R W (hget i o ho) hrw j R' W' (by simpa using hlt) (by simpa using hrw')
        have he := this.resolve_right fun q => q.2.2.2 hj
        simp only [edgeTo, Array.any_eq_true'] at he
        obtain ⟨e, he1, he2⟩ := he
        simp only [Bool.and_eq_true, Nat.beq_eq] at he2
        have h3 := hpre e he1 he2.1
        rw [he2.2] at h3
        exact hps j h3
      refine wpOp_mono ?_ (hok Q p (fun ν => can us (D L) S0 ν ops.size) a w hag (hp i hDi) ho hrep hJ)
      rintro a' w' ⟨g, hg⟩
      have hDset : ∀ j, D (L.setIfInBounds i true) j = (D L j || decide (j = i)) := by
        intro j
        show (L.setIfInBounds i true).getD j false = _
        by_cases e : j = i
        · subst e
          simp [Array.getD_eq_getD_getElem?, hL, his]
        · rw [getD_set_ne false (fun h => e h.symm)]
          simp [e, D]
      refine ih (L.setIfInBounds i true) (p.set i g) a' w' (by simp [hL]) ?_ ?_ ?_ ?_ ?_
      · intro j hj
        rw [hDset] at hj
        simp only [Bool.or_eq_false_iff, decide_eq_false_iff_not] at hj
        simp only [PNu.set, hj.2, if_false]
        exact hp j hj.1
      · intro j hj
        rw [hDset] at hj
        by_cases e : j = i
        · exact ⟨g, by simp [PNu.set, e]⟩
        · obtain ⟨g', hg'⟩ := hps j (by simpa [e] using hj)
          exact ⟨g', by simp [PNu.set, e, hg']⟩
      · intro j oj hj hoj e he hb
        rw [hDset] at hj ⊢
        simp only [Bool.or_eq_true, decide_eq_true_eq] at hj ⊢
        rcases hj with hj | hj
        · exact .inl (hdown j oj hj hoj e he hb)
        · subst hj
          rw [ho] at hoj
          injection hoj with hoj
          subst hoj
          exact .inl (hpre e he hb)
      · intro ν hν
        refine (hg ν hν).congr fun k => ?_
        have hfun : D (L.setIfInBounds i true) = fun j => D L j || decide (j = i) := funext hDset
        rw [hfun]
        refine can_add hDi k _ his ?_
        intro j hij hj hDj hki hkj
        obtain ⟨oj, hoj⟩ : ∃ oj, ops[j]? = some oj := ⟨ops[j], by simp [hj]⟩
        obtain ⟨R', W', hrw', hW', _, _⟩ := hus j oj (hget j oj hoj)
        rw [hW ν] at hki
        rw [hW' ν] at hkj
        have := hord j hj (by omega) (.inr ⟨R', W', hrw', fun hd => disj_spec hd.2.1 hki hkj, hij⟩)
        rw [hDj] at this
        simp at this
        omega
      · have hsub : ((List.range ops.size).filter fun j => !D (L.setIfInBounds i true) j) = ((List.range ops.size).filter fun j => !D L j).filter fun j => !decide (j = i) := by
          rw [List.filter_filter]
          refine List.filter_congr fun j _ => ?_
          rw [hDset]
          cases D L j <;> simp
        rw [hsub]
        have hmem : i ∈ (List.range ops.size).filter fun j => !D L j := by simp [his, hDi]
        have : (((List.range ops.size).filter fun j => !D L j).filter fun j => !decide (j = i)).length < ((List.range ops.size).filter fun j => !D L j).length := by
          refine List.length_filter_lt_length_iff_exists.2 ⟨i, hmem, by simp⟩
        omega
  have hno : ∀ j, ¬ D (Array.replicate ops.size false) j = true := fun j hj => by
    have : (Array.replicate ops.size false).getD j false = true := hj
    by_cases hjs : j < ops.size <;> simp [Array.getD_eq_getD_getElem?, hjs] at this
  refine main fuel _ (fun _ => none) a w (by simp) (fun _ _ => rfl) (fun j hj => absurd hj (hno j)) ?_ ?_ ?_
  · intro j o hj
    have : (Array.replicate ops.size false).getD j false = true := hj
    by_cases hjs : j < ops.size <;> simp [Array.getD_eq_getD_getElem?, hjs] at this
  · intro ν _
    refine hr.congr fun k => ?_
    have key : ∀ m, can us (D (Array.replicate ops.size false)) S0 ν m = S0 := by
      intro m
      induction m with
      | zero => rfl
      | succ m ih =>
        have : D (Array.replicate ops.size false) m = false := by
          show (Array.replicate ops.size false).getD m false = false
          by_cases hjs : m < ops.size <;> simp [Array.getD_eq_getD_getElem?, hjs]
        rw [can, this]; simpa using ih
    rw [key]
  · refine Nat.le_trans (List.length_filter_le _ _) ?_
    simpa using hfuel
theorem wp_reg {draw : Bool} {id : Nat} {Q : Exit → Act → World → Prop} {S0 : St} {Se : Nu → St} {rw : List (List Nat × List Nat)} {a : Act} {w : World} (hm : P.follows .mixedOrders = true)
    (hr : Rep B w0 n S0 a w) (hc : Chain P ops B w0 n 0 ops.toList (fun _ => S0) rw Se)
    (hi : (!draw || (indep ops.toList rw [] && forward ops.toList 0)) = true)
    (hQ : ∀ ν a w, Rep B w0 n (Se ν) a w → Q .normal a w) : (Code.region id ops draw).wp P Q a w := by
  cases draw with
  | false =>
    refine wp_region ?_
    have := Chain.inorder (Q := Q) ops.toList 0 (fun _ => S0) rw (fun _ => none) a w hc (fun j => by simp) (fun _ _ => rfl) (fun _ h => absurd h (Nat.not_lt_zero _)) (fun _ _ => hr)
      (fun p a w h => by obtain ⟨ν, hν⟩ := Ext.exists p; exact hQ ν a w (h ν hν))
    rw [List.range_eq_range', ← Array.length_toList]
    exact this
  | true =>
    simp only [Bool.not_true, Bool.false_or, Bool.and_eq_true] at hi
    refine wp_region_any hm ?_
    have hr' : Rep B w0 n S0 a { w with drawn := w.drawn + 1 } := hr.world ⟨rfl, rfl, rfl, Nat.le_refl _, fun _ _ => rfl⟩
    exact Chain.anyorder hc hi.1 hi.2 hr' hQ _ (Nat.le_refl _)
end
end Go.Sx
