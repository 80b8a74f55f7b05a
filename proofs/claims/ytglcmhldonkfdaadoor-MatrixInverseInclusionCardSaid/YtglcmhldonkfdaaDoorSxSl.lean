/- Sx: rows of elements (slices) in the symbolic state: reading, making, appending, storing. Own work. -/
import Derived.Test.YtglcmhldonkfdaaDoorSxLast
import Derived.Laws.AppendOwn
import Derived.Laws.MakeOwn
import Derived.Laws.OwnMore
set_option linter.unusedVariables false
namespace Go.Sx
open Go Go.RowKit
def fpOwn (p : Option Addr) (i : Nat) : Prop := ∃ a, p = some a ∧ a.block = i
def fpRow (p : Option Addr) (n : Nat) (i : Nat) : Prop := 0 < n ∧ ∃ a, p = some a ∧ a.block = i
def RowAt (w : World) (sz : Nat) (p : Option Addr) (n : Nat) (xs : List Value) : Prop :=
  xs.length = n * sz ∧ (n = 0 ∨ ∃ b off, p = some ⟨b, off, none⟩ ∧ ∀ j u, xs[j]? = some u → w.cell? ⟨b, off + j, none⟩ = some u)
abbrev owK (e : TypeId) (sz : Nat) (p : Option Addr) (n cap : Nat) (xs : List Value) : KV := .own (fpOwn p) (fun w => w.ownsRow 0 e sz (.slice p n cap) n xs)
theorem RowAt.agree {w w' : World} {sz n : Nat} {p : Option Addr} {xs : List Value} (h : RowAt w sz p n xs) (ha : agree (fpRow p n) w w') : RowAt w' sz p n xs := by
  refine ⟨h.1, ?_⟩
  rcases h.2 with h0 | ⟨b, off, rfl, hc⟩
  · exact .inl h0
  · rcases Nat.eq_zero_or_pos n with h0 | h0
    · exact .inl h0
    · refine .inr ⟨b, off, rfl, fun j u hu => ?_⟩
      rw [← hc j u hu]
      exact World.cell?_of_block (ha b ⟨h0, _, rfl, rfl⟩)
theorem RowAt.inb {w : World} {sz n : Nat} {p : Option Addr} {xs : List Value} (h : RowAt w sz p n xs) (hs : 0 < sz) (i : Nat) (hi : fpRow p n i) : i < w.heap.size := by
  obtain ⟨h0, a, rfl, rfl⟩ := hi
  rcases h.2 with h1 | ⟨b, off, e, hc⟩
  · omega
  · obtain rfl := Option.some.inj e
    have hl : 0 < xs.length := by rw [h.1]; exact Nat.mul_pos h0 hs
    exact World.block_lt_of_cell? w ⟨b, off + 0, none⟩ (hc 0 _ (List.getElem?_eq_getElem hl))
theorem owns_row {w : World} {base sz n cap : Nat} {e : TypeId} {p : Option Addr} {xs : List Value} (h : w.ownsRow base e sz (.slice p n cap) n xs) : RowAt w sz p n xs := by
  refine ⟨h.1, ?_⟩
  rcases h.2 with ⟨hv, h0⟩ | ⟨g, c, cur, hv, _, hg, hn, _, hs, ht⟩
  · exact .inl h0
  · injection hv with h1 _ _
    refine .inr ⟨g, 0, h1, fun j u hu => ?_⟩
    have hj : j < xs.length := (List.getElem?_eq_some_iff.1 hu).1
    rw [← ht, List.getElem?_take_of_lt (by rw [← h.1]; exact hj)] at hu
    simp only [World.cell?, hg, Nat.zero_add]
    simpa using hu
theorem owns_agree {w w' : World} {base sz n cap : Nat} {e : TypeId} {p : Option Addr} {xs : List Value} (h : w.ownsRow base e sz (.slice p n cap) n xs) (ha : agree (fpOwn p) w w') : w'.ownsRow base e sz (.slice p n cap) n xs := by
  refine ⟨h.1, ?_⟩
  rcases h.2 with h0 | ⟨g, c, cur, hv, hb, hg, rest⟩
  · exact .inl h0
  · have hv' := hv
    injection hv with h1 _ _
    exact .inr ⟨g, c, cur, hv', hb, (ha g ⟨_, h1, rfl⟩).trans hg, rest⟩
theorem owns_lt {w : World} {base sz n cap : Nat} {e : TypeId} {p : Option Addr} {xs : List Value} (h : w.ownsRow base e sz (.slice p n cap) n xs) (i : Nat) (hi : fpOwn p i) : base ≤ i ∧ i < w.heap.size := by
  obtain ⟨a, rfl, rfl⟩ := hi
  exact h.lt a.block rfl
def hdB (p : Option Addr) : Nat := match p with | some a => a.block | none => 0
def hdO (p : Option Addr) : Nat := match p with | some a => a.off | none => 0
theorem RowAt.cell {w : World} {sz n : Nat} {p : Option Addr} {xs : List Value} (h : RowAt w sz p n xs) {j : Nat} {u : Value} (hu : xs[j]? = some u) : w.cell? ⟨hdB p, hdO p + j, none⟩ = some u := by
  rcases h.2 with h1 | ⟨b, off, rfl, hc⟩
  · have := (List.getElem?_eq_some_iff.1 hu).1
    rw [h.1, h1, Nat.zero_mul] at this
    omega
  · exact hc j u hu
theorem run_ix {P : Program} {w : World} {t : TypeId} {p : Option Addr} {n cap : Nat} {k : IntKind} {i : Int} {sz : Nat} {xs : List Value} (hu : P.underlying t = some (.slice (P.elem t))) (hs : (P.info? (P.elem t)).map (·.size) = some sz) (hr : RowAt w sz p n xs) (h : 0 ≤ i ∧ i < n) :
    (Sem.bind (Instr.indexAt t (.slice p n cap) (.int k i)) fun v => Sem.pure (Next.value v)).run P w = .ok (.value (.pointer (some ⟨hdB p, hdO p + i.toNat * sz, none⟩))) w := by
  rcases hr.2 with h1 | ⟨b, off, rfl, hc⟩
  · omega
  · exact run_indexAddr hu hs h
theorem ld_of {P : Program} {w : World} {s : Sem Next} {vs : List Value} {v : Value} {b off m : Nat} (hp : peek P s vs [] = some (.value v, addrs b off m)) (hc : ∀ j u, vs[j]? = some u → w.cell? ⟨b, off + j, none⟩ = some u) : s.run P w = .ok (.value v) w := by
  obtain ⟨m', e, hl, hr⟩ := peek_run _ _ _ _ _ hp
  simp only [List.nil_append] at e
  subst e
  refine hr w fun j x u hx hu => ?_
  obtain ⟨rfl, hj⟩ := addrs_get _ _ _ _ _ hx
  exact hc j u hu
structure But (fp : Nat → Prop) (w w' : World) : Prop where
  os : w'.os = w.os
  tape : w'.tape = w.tape
  output : w'.output = w.output
  size : w.heap.size ≤ w'.heap.size
  block : ∀ i, i < w.heap.size → ¬ fp i → w'.heap[i]? = w.heap[i]?
theorem Rep.but {B : Nat} {w0 : World} {n : Nat} {S : St} {a : Act} {w w' : World} {fp : Nat → Prop} (h : Rep B w0 n S a w) (hg : But fp w w') (hfp : ∀ i, fp i → B ≤ i) (hd : ∀ k i, fp i → ¬ (S k).fp i) : Rep B w0 n S a w' where
  defers := h.defers
  size := h.size
  slots := h.slots
  below := h.below.trans ⟨hg.os, hg.tape, hg.output, hg.size, fun i hi => hg.block i (Nat.lt_of_lt_of_le hi h.base) (fun hf => by have := hfp i hf; omega)⟩
  base := Nat.le_trans h.base hg.size
  holds k := KV.holds_agree (h.holds k) fun i hi => hg.block i (h.inb k i hi) (fun hf => hd k i hf hi)
  inb k i hi := Nat.lt_of_lt_of_le (h.inb k i hi) hg.size
  ge := h.ge
  disj := h.disj
section
variable {P : Program} {ops : Array Oper} {B : Nat} {w0 : World} {n i : Nat} {o : Oper} {Spre : Nu → St}
theorem ok_valF (ks : List Nat) (v : Nu → Value) (c : Nu → Bool) (pat : List Bool) (d : Nat) (hv : ∀ ν w, c ν = true → (∀ k ∈ ks, (Spre ν k).holds w) → (execOp (envU (Spre ν)) o).run P w = .ok (.value (v ν)) w) (hd : o.dst = some d := by rfl) (hdn : Nat.blt d n = true := by rfl) (hsel : noSel o = true := by rfl)
    (hc : ∀ ν, wantS ops o (Spre ν) = some (c ν) := by intro _; kernel_rfl) (hk : ∀ ν, (o.op.operands.all (knownB (Spre ν))) = true := by intro _; kernel_rfl)
    (hp : ∀ ν, condsOf o (Spre ν) = pat.map (fun p => bif p then true else c ν) := by intro _; kernel_rfl) :
    OpOK P ops B w0 n i o Spre (ks ++ tmpsOf ops o) (fun ν => [(d, .slot (c ν) (v ν))]) := by
  have hdn' : d < n := by simpa using hdn
  refine opok_of (c := c) (fun _ h => List.mem_append_right _ h) (noSel_spec hsel) hc hk ?_ ?_
  · intro ν S a w hcf hr
    rw [updAll_one, hd]
    have := hr.put hdn' (c ν) (v ν)
    rw [hcf] at this ⊢
    simpa using this
  · intro Q p S a w hpi hct hag hrep hev0
    have hev : ∀ ν, Ext p ν → execOp a.eval o = execOp (envU (Spre ν)) o := fun ν hν => (hev0 ν hν).trans (env_strip (noSel_spec hsel) (by rw [hp ν]; exact pat_true (hct ν hν)))
    have hF : ∀ ν, Ext p ν → ∀ k ∈ ks, (Spre ν k).holds w := fun ν hν k hk' => by
      have := (hrep ν hν).holds k
      rw [hag ν hν k (List.mem_append_left _ hk')] at this
      exact this
    unfold Oper.wp
    obtain ⟨ν0, h0⟩ := Ext.exists p
    rw [hev ν0 h0, hv ν0 w (hct ν0 h0) (hF ν0 h0)]
    simp only [Oper.upon]
    refine ⟨default, fun ν hν => ?_⟩
    have hν' := hν.of_set hpi
    have e : v ν0 = v ν := by
      have h1 := hv ν0 w (hct ν0 h0) (hF ν0 h0)
      rw [← hev ν0 h0, hev ν hν', hv ν w (hct ν hν') (hF ν hν')] at h1
      injection h1 with h1 _; injection h1 with h1; exact h1.symm
    rw [updAll_one, hd, e]
    have := (hrep ν hν').put hdn' (c ν) (v ν)
    rw [hct ν hν'] at this ⊢
    simpa using this
theorem ok_row (ks : List Nat) (e : TypeId) (sz : Nat) (n' : Nat) (xs' : List Value) (d k : Nat)
    (hv : ∀ ν w, (∀ k ∈ ks, (Spre ν k).holds w) → ∃ p cap w', (execOp (envU (Spre ν)) o).run P w = .ok (.value (.slice p n' cap)) w' ∧ w'.ownsRow 0 e sz (.slice p n' cap) n' xs' ∧ But (Spre ν k).fp w w' ∧ ∀ j, fpOwn p j → w.heap.size ≤ j ∨ (Spre ν k).fp j)
    (hx : ∀ ν, (Spre ν k).fp = (fun _ => False) ∨ (Spre ν k).excl)
    (hd : o.dst = some d := by rfl) (hdn : Nat.blt d n = true := by rfl) (hkn : Nat.ble n k = true := by rfl) (hsel : noSel o = true := by rfl) (hg : o.guard = none := by rfl)
    (hk : ∀ ν, (o.op.operands.all (knownB (Spre ν))) = true := by intro _; kernel_rfl) (hp : ∀ ν, (condsOf o (Spre ν)).all id = true := by intro _; kernel_rfl) :
    OpOK P ops B w0 n i o Spre (k :: ks ++ tmpsOf ops o) (fun ν => [(d, .slot true (.slice ((ν i).o 0) n' ((ν i).n 0))), (k, owK e sz ((ν i).o 0) n' ((ν i).n 0) xs')]) := by
  have hdn' : d < n := by simpa using hdn
  have hkn' : n ≤ k := by simpa using hkn
  refine opok_of (c := fun _ => true) (fun _ h => List.mem_append_right _ h) (noSel_spec hsel) (fun ν => by unfold wantS; rw [hg]) hk ?_ ?_
  · intro ν S a w hcf; cases hcf
  · intro Q p S a w hpi hct hag hrep hev0
    have hev : ∀ ν, Ext p ν → execOp a.eval o = execOp (envU (Spre ν)) o := fun ν hν => (hev0 ν hν).trans (env_strip (noSel_spec hsel) (by simpa using hp ν))
    have hF : ∀ ν, Ext p ν → ∀ k ∈ ks, (Spre ν k).holds w := fun ν hν j hj => by
      have := (hrep ν hν).holds j
      rw [hag ν hν j (by simp [hj])] at this
      exact this
    unfold Oper.wp
    obtain ⟨ν0, h0⟩ := Ext.exists p
    obtain ⟨q, cap, w', hrun, hown, hbut, hnew⟩ := hv ν0 w (hF ν0 h0)
    rw [hev ν0 h0, hrun]
    simp only [Oper.upon]
    refine ⟨Gh.of (fun _ => cap) fun _ => q, fun ν hν => ?_⟩
    have hν' := hν.of_set hpi
    have e0 : (ν i).o 0 = q := by rw [hν.at_set]
    have e1 : (ν i).n 0 = cap := by rw [hν.at_set]
    rw [e0, e1, hd]
    obtain ⟨q', cap', w2, hrun2, hown2, hbut2, hnew2⟩ := hv ν w (hF ν hν')
    have heq : (.ok (.value (.slice q n' cap)) w' : Result Next) = .ok (.value (.slice q' n' cap')) w2 := by
      rw [← hrun, ← hrun2, ← hev ν0 h0, hev ν hν']
    injection heq with g1 g2
    injection g1 with g1
    injection g1 with g1 _ g3
    subst g1 g2 g3
    have hSk : S ν k = Spre ν k := hag ν hν' k (by simp)
    have hr := hrep ν hν'
    have hfB : ∀ j, (Spre ν k).fp j → B ≤ j := fun j hj => by
      rcases hx ν with hx | hx
      · rw [hx] at hj; exact hj.elim
      · exact hr.ge k j (by rw [hSk]; exact hx) (by rw [hSk]; exact hj)
    have hdis : ∀ k' j, k' ≠ k → (Spre ν k).fp j → ¬ (S ν k').fp j := fun k' j hne hj => by
      rcases hx ν with hx | hx
      · rw [hx] at hj; exact hj.elim
      · exact hr.disj k k' j (Ne.symm hne) (by rw [hSk]; exact hx) (by rw [hSk]; exact hj)
    have r1 : Rep B w0 n (upd (S ν) k .none) a w := hr.weak fun j => by
      by_cases ej : j = k
      · subst ej; rw [upd_same]; exact .inl rfl
      · rw [upd_ne _ _ ej]; exact .inr rfl
    have r2 := r1.but hbut2 hfB (fun k' j hj hj' => by
      by_cases ej : k' = k
      · subst ej; rw [upd_same] at hj'; exact hj'
      · rw [upd_ne _ _ ej] at hj'; exact hdis k' j ej hj hj')
    have r3 := r2.put hdn' true (.slice q n' cap)
    have r4 := r3.ent k (owK e sz q n' cap xs') (by intro c x h; cases h) (fun w3 ha => owns_agree hown2 ha) (fun j hj => (owns_lt hown2 j hj).2)
      (fun _ j hj => by
        rcases hnew2 j hj with h | h
        · exact Nat.le_trans hr.base h
        · exact hfB j h)
      (fun k' j hne _ hj hj' => by
        by_cases ed : k' = d
        · subst ed; rw [upd_same] at hj'; exact hj'
        · rw [upd_ne _ _ ed, upd_ne _ _ hne] at hj'
          rcases hnew2 j hj with h | h
          · have := hr.inb k' j hj'; omega
          · exact hdis k' j hne h hj')
    refine r4.congr fun j => ?_
    show upd (upd (S ν) d _) k _ j = upd (upd (upd (S ν) k .none) d _) k _ j
    by_cases ej : j = k
    · subst ej; rw [upd_same, upd_same]
    · rw [upd_ne _ _ ej, upd_ne _ _ ej]
      by_cases ed : j = d
      · subst ed; rw [upd_same, upd_same]
      · rw [upd_ne _ _ ed, upd_ne _ _ ed, upd_ne _ _ ej]
end
end Go.Sx
