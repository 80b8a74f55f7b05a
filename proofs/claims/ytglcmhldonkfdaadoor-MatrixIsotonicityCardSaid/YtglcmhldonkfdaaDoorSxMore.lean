/- Sx: words and proofs for walking code by symbolic states (the part 'SxMore'). Own work, the same for every seat. -/
import Derived.Test.YtglcmhldonkfdaaDoorSxCtl
import Derived.Scope
import Derived.Laws.Entries
import Derived.Laws.Strings
set_option linter.unusedVariables false
namespace Go.Sx
open Go Go.RowKit
section
variable {P : Program} {N R : K} {xs : List (Nat × K)} {a : Act} {w : World}
theorem k_join {c : Code} (J : K) (hJ : ∀ a w, J a w → N a w) (h : c.wp P (mkQ J xs R) a w) : c.wp P (mkQ N xs R) a w :=
  wp_mono h fun e a w q => by
    cases e with
    | normal => exact hJ a w q
    | _ => exact q
theorem k_loopJ {c : Code} (J : Nat → K) (m : Nat) (h0 : J m a w) (hs : ∀ m a w, J m a w → c.wp P (mkQ (fun a w => ∃ m', m' < m ∧ J m' a w) xs R) a w) : (Code.loop c).wp P (mkQ N xs R) a w := by
  refine k_loop ?_
  have : ∀ m a w, J m a w → loopwp P c (mkQ N xs R) a w := by
    intro m
    induction m using Nat.strongRecOn with
    | _ m ih =>
      intro a w hJ
      refine loop_step (wp_mono (hs m a w hJ) fun e a w q => ?_)
      cases e with
      | normal => obtain ⟨m', hm, hj⟩ := q; exact ih m' hm a w hj
      | _ => exact q
  exact this m a w h0
end
theorem bnd {α β : Type} {o : Option α} {f : α → Option β} {r : β} (h : o.bind f = some r) : ∃ a, o = some a ∧ f a = some r := by
  cases o with
  | none => cases h
  | some a => exact ⟨a, rfl, h⟩
theorem ifp {c : Prop} [Decidable c] {α : Type} {x y : Option α} {r : α} (h : (if c then x else y) = some r) (hc : c) : x = some r := by rw [if_pos hc] at h; exact h
theorem nt {b : Bool} (h : b = false) : ¬ (b = true) := by rw [h]; exact Bool.false_ne_true
theorem gd {c : Prop} [Decidable c] {α : Type} {x : Option α} {r : α} (h : (if c then x else none) = some r) : c ∧ x = some r := by
  by_cases hc : c
  · rw [if_pos hc] at h; exact ⟨hc, h⟩
  · rw [if_neg hc] at h; cases h
theorem run_of {α : Type} {P : Program} {s s' : Sem α} {w : World} {r : Result α} (e : s' = s) (h : s.run P w = r) : s'.run P w = r := e ▸ h
section
variable {P : Program} {w : World}
theorem run_quo {k : IntKind} {x y : Int} (h : y ≠ 0) : (Sem.bind (Op.intDiv .quo k x y) fun v => Sem.pure (Next.value v)).run P w = .ok (.value (.int k (k.wrap (x.tdiv y)))) w := by
  simp only [Op.intDiv, if_neg h]; rfl
theorem run_rem {k : IntKind} {x y : Int} (h : y ≠ 0) : (Sem.bind (Op.intDiv .rem k x y) fun v => Sem.pure (Next.value v)).run P w = .ok (.value (.int k (x.tmod y))) w := by
  simp only [Op.intDiv, if_neg h]; rfl
theorem run_next {α : Type} {x : Sem α} {f : α → Sem Next} {v : α} {r : Result Next} (h : x.run P w = .ok v w) (h' : (f v).run P w = r) : (Sem.bind x f).run P w = r := by
  show (x >>= f).run P w = r
  rw [Sem.run_bind, h]; exact h'
theorem run_sizeOf' {e sz : Nat} (h : (P.info? e).map (·.size) = some sz) : (sizeOf e).run P w = .ok sz w := by
  obtain ⟨i, hi, rfl⟩ := Option.map_eq_some_iff.1 h
  simp [sizeOf, typeInfo, hi]
theorem run_indexAddr {t : TypeId} {b o len cap : Nat} {k : IntKind} {i : Int} {sz : Nat} (hu : P.underlying t = some (.slice (P.elem t))) (hs : (P.info? (P.elem t)).map (·.size) = some sz) (h : 0 ≤ i ∧ i < len) :
    (Sem.bind (Instr.indexAt t (.slice (some ⟨b, o, none⟩) len cap) (.int k i)) fun v => Sem.pure (Next.value v)).run P w = .ok (.value (.pointer (some ⟨b, o + i.toNat * sz, none⟩))) w := by
  refine run_next (v := .pointer (some ⟨b, o + i.toNat * sz, none⟩)) ?_ rfl
  rw [run_indexAt_slice w t ⟨b, o, none⟩ len cap k i hu, if_pos h, run_sizeOf' hs]
  simp only [Result.andThen_ok]
  rw [Addr.add_lit]
end
section
variable {P : Program} {ops : Array Oper} {B : Nat} {w0 : World} {n i : Nat} {o : Oper} {Spre : Nu → St}
theorem ok_as {R : List Nat} {u u' : Nu → List (Nat × KV)} (h : OpOK P ops B w0 n i o Spre R u) (e : ∀ ν, u ν = u' ν) : OpOK P ops B w0 n i o Spre R u' := by
  have : u = u' := funext e
  subst this; exact h
end
end Go.Sx
