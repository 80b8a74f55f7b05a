/- Sx: words and proofs for walking code by symbolic states (the part 'Rk'). Own work, the same for every seat. -/
import Derived.Test.YtkkodieceehkmaaDoorSxSlG
import Derived.RangeFuncRecord
set_option linter.unusedVariables false
set_option linter.unusedSimpArgs false
/- Sx: captured blocks, objects, who stands before whom: what the parts Rf..Rj hold of these, where no range over a function is walked. Own work. -/
namespace Go.Sx
open Go Go.RowKit
def predsOf (o : Oper) : List Nat := (o.after.toList.filter fun e => Region.binds .any e).map (·.on)
def DownC (ops : List Oper) (D : Nat → Bool) : Prop := ∀ (j : Nat) o, D j = true → ops[j]? = some o → ∀ e ∈ predsOf o, D e = true
abbrev bxK (b : Nat) (cs : List Value) (e : TypeId) : KV := .fact (· = b) (fun w => w.heap[b]? = some (.cells cs.toArray e (0, 0)))
theorem bx_fact {w : World} {b : Nat} {cs : List Value} {e : TypeId} (h : w.heap[b]? = some (.cells cs.toArray e (0, 0))) (k : Nat) : (∃ fp F, (k, bxK b cs e).2 = .fact fp F) ∧ (bxK b cs e).holds w ∧ ∀ i, (bxK b cs e).fp i → i < w.heap.size :=
  ⟨⟨_, _, rfl⟩, fun w' ha => (ha b rfl).trans h, fun i hi => by have e : i = b := hi; subst e; exact (Array.getElem?_eq_some_iff.1 h).1⟩
theorem bx_of {w : World} {b : Nat} {cs : List Value} {e : TypeId} (h : (bxK b cs e).holds w) : ∃ e fz, w.heap[b]? = some (.cells cs.toArray e fz) := ⟨_, _, h w (agree.refl _ _)⟩

abbrev obK (l : Nat) (o : Obj) : KV := .own (· = l) (fun w => w.heap[l]? = some o)
theorem Rep.newOb {B : Nat} {w0 : World} {n : Nat} {S : St} {a : Act} {w : World} (h : Rep B w0 n S a w) (k : Nat) (o : Obj) : Rep B w0 n (upd S k (obK w.heap.size o)) a (w.alloc o) := by
  have hb : Below w.heap.size w (w.alloc o) := (Below.refl _ w).alloc (Nat.le_refl _) _
  refine (h.world hb).ent k (obK w.heap.size o) (by intro c x h; cases h) ?_ ?_ ?_ ?_
  · intro w' ha
    exact (ha w.heap.size rfl).trans (World.alloc_heap_new w o)
  · intro j hj
    have hj' : j = w.heap.size := hj
    subst hj'; simp
  · intro _ j hj
    have hj' : j = w.heap.size := hj
    subst hj'; exact h.base
  · intro k' j _ _ hj hj'
    have hj2 : j = w.heap.size := hj
    subst hj2
    exact Nat.lt_irrefl _ (h.inb k' _ hj')
theorem ob_of {w : World} {l : Nat} {o : Obj} (h : (obK l o).holds w) : w.heap[l]? = some o := h w (agree.refl _ _)
theorem Rep.putOb {B : Nat} {w0 : World} {n : Nat} {S : St} {a : Act} {w : World} (h : Rep B w0 n S a w) (k l : Nat) (o o' : Obj) (hk : S k = obK l o) : Rep B w0 n (upd S k (obK l o')) a (w.putObj l o') := by
  have hh : w.heap[l]? = some o := ob_of (by rw [← hk]; exact h.holds k)
  have hl : l < w.heap.size := (Array.getElem?_eq_some_iff.1 hh).1
  have hx : (S k).excl := by rw [hk]; trivial
  have hfl : (S k).fp l := by rw [hk]; rfl
  have hBl : B ≤ l := h.ge k l hx hfl
  have hsz : (w.putObj l o').heap.size = w.heap.size := by simp [World.putObj]
  have hoth : ∀ i, i ≠ l → (w.putObj l o').heap[i]? = w.heap[i]? := fun i hi => World.putObj_heap_other (fun e => hi (by rw [e]))
  have hnl : ∀ k', k' ≠ k → ¬ (S k').fp l := fun k' hne hf => h.disj k k' l (Ne.symm hne) hx hfl hf
  exact {
    defers := h.defers
    size := h.size
    slots := fun t c v hs => by
      by_cases e : t = k
      · subst e; rw [upd_same] at hs; cases hs
      · rw [upd_ne _ _ e] at hs; exact h.slots t c v hs
    below := ⟨h.below.os, h.below.tape, h.below.output, by rw [hsz]; exact h.below.size, fun i hi => (hoth i (by omega)).trans (h.below.block i hi)⟩
    base := by rw [hsz]; exact h.base
    holds := fun j => by
      by_cases e : j = k
      · subst e; rw [upd_same]
        intro w' ha
        exact (ha l rfl).trans (World.putObj_heap_same hl)
      · rw [upd_ne _ _ e]
        exact KV.holds_agree (h.holds j) fun i hi => hoth i (fun e2 => hnl j e (by rw [← e2]; exact hi))
    inb := fun j i hi => by
      rw [hsz]
      by_cases e : j = k
      · subst e; rw [upd_same] at hi; have e2 : i = l := hi; subst e2; exact hl
      · rw [upd_ne _ _ e] at hi; exact h.inb j i hi
    ge := fun j i hx' hi => by
      by_cases e : j = k
      · subst e; rw [upd_same] at hi; have e2 : i = l := hi; subst e2; exact hBl
      · rw [upd_ne _ _ e] at hi hx'; exact h.ge j i hx' hi
    disj := fun j j' i hne hx' hi hi' => by
      by_cases e : j = k
      · subst e
        rw [upd_same] at hi
        have e2 : i = l := hi
        subst e2
        rw [upd_ne _ _ (Ne.symm hne)] at hi'
        exact hnl j' (Ne.symm hne) hi'
      · rw [upd_ne _ _ e] at hi hx'
        by_cases e' : j' = k
        · subst e'
          rw [upd_same] at hi'
          have e2 : i = l := hi'
          subst e2
          exact hnl j e hi
        · rw [upd_ne _ _ e'] at hi'
          exact h.disj j j' i hne hx' hi hi' }
end Go.Sx
