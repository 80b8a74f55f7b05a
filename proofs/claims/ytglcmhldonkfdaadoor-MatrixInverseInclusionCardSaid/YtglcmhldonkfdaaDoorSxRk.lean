/- Sx: words and proofs for walking code by symbolic states (the part 'SxRk'). Own work, the same for every seat. -/
import Derived.Test.YtglcmhldonkfdaaDoorSxSlG
import Derived.RangeFuncRecord
set_option linter.unusedVariables false
set_option linter.unusedSimpArgs false
namespace Go.Sx
open Go Go.RowKit
def predsOf (o : Oper) : List Nat := (o.after.toList.filter fun e => Region.binds .any e).map (·.on)
def DownC (ops : List Oper) (D : Nat → Bool) : Prop := ∀ (j : Nat) o, D j = true → ops[j]? = some o → ∀ e ∈ predsOf o, D e = true
abbrev bxK (b : Nat) (cs : List Value) (e : TypeId) : KV := .fact (· = b) (fun w => w.heap[b]? = some (.cells cs.toArray e (0, 0)))
theorem bx_fact {w : World} {b : Nat} {cs : List Value} {e : TypeId} (h : w.heap[b]? = some (.cells cs.toArray e (0, 0))) (k : Nat) : (∃ fp F, (k, bxK b cs e).2 = .fact fp F) ∧ (bxK b cs e).holds w ∧ ∀ i, (bxK b cs e).fp i → i < w.heap.size :=
  ⟨⟨_, _, rfl⟩, fun w' ha => (ha b rfl).trans h, fun i hi => by have e : i = b := hi; subst e; exact (Array.getElem?_eq_some_iff.1 h).1⟩
theorem bx_of {w : World} {b : Nat} {cs : List Value} {e : TypeId} (h : (bxK b cs e).holds w) : ∃ e fz, w.heap[b]? = some (.cells cs.toArray e fz) := ⟨_, _, h w (agree.refl _ _)⟩
end Go.Sx
