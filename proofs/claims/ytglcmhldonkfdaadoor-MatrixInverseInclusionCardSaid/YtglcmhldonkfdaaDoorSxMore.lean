/- Sx: words and proofs for walking code by symbolic states (the part 'SxMore'). Own work, the same for every seat. -/
import Derived.Test.YtglcmhldonkfdaaDoorSxCtl
import Derived.Scope
import Derived.Laws.Entries
import Derived.Laws.Strings
set_option linter.unusedVariables false
namespace Go.Sx
open Go Go.RowKit
section
variable {P : Program} {N R : K} {xs : List (Nat × K)} {a : Act} {w : World}
theorem k_join {c : Code} (J : K) (hJ : ∀ a w, J a w → N a w) (h : c.wp P (mkQ J xs R) a w) : c.wp P (mkQ N xs R) a w :=
  wp_mono h fun e a w q => by
    cases e with
    | normal => exact hJ a w q
    | _ => exact q
theorem k_loopJ {c : Code} (J : Nat → K) (m : Nat) (h0 : J m a w) (hs : ∀ m a w, J m a w → c.wp P (mkQ (fun a w => ∃ m', m' < m ∧ J m' a w) xs R) a w) : (Code.loop c).wp P (mkQ N xs R) a w := by
  refine k_loop ?_
  have : ∀ m a w, J m a w → loopwp P c (mkQ N xs R) a w := by
    intro m
    induction m using Nat.strongRecOn with
    | _ m ih =>
      intro a w hJ
      refine loop_step (wp_mono (hs m a w hJ) fun e a w q => ?_)
      cases e with
      | normal => obtain ⟨m', hm, hj⟩ := q; exact ih m' hm a w hj
      | _ => exact q
  exact this m a w h0
end
theorem bnd {α β : Type} {o : Option α} {f : α → Option β} {r : β} (h : o.bind f = some r) : ∃ a, o = some a ∧ f a = some r := by
  cases o with
  | none => cases h
  | some a => exact ⟨a, rfl, h⟩
theorem ifp {c : Prop} [Decidable c] {α : Type} {x y : Option α} {r : α} (h : (if c then x else y) = some r) (hc : c) : x = some r := by rw [if_pos hc] at h; exact h
theorem nt {b : Bool} (h : b = false) : ¬ (b = true) := by rw [h]; exact Bool.false_ne_true
theorem gd {c : Prop} [Decidable c] {α : Type} {x : Option α} {r : α} (h : (if c then x else none) = some r) : c ∧ x = some r := by
  by_cases hc : c
  · rw [if_pos hc] at h; exact ⟨hc, h⟩
  · rw [if_neg hc] at h; cases h
theorem run_of {α : Type} {P : Program} {s s' : Sem α} {w : World} {r : Result α} (e : s' = s) (h : s.run P w = r) : s'.run P w = r := e ▸ h
section
variable {P : Program} {w : World}
theorem run_quo {k : IntKind} {x y : Int} (h : y ≠ 0) : (Sem.bind (Op.intDiv .quo k x y) fun v => Sem.pure (Next.value v)).run P w = .ok (.value (.int k (k.wrap (x.tdiv y)))) w := by
  simp only [Op.intDiv, if_neg h]; rfl
theorem run_rem {k : IntKind} {x y : Int} (h : y ≠ 0) : (Sem.bind (Op.intDiv .rem k x y) fun v => Sem.pure (Next.value v)).run P w = .ok (.value (.int k (x.tmod y))) w := by
  simp only [Op.intDiv, if_neg h]; rfl
theorem run_next {α : Type} {x : Sem α} {f : α → Sem Next} {v : α} {r : Result Next} (h : x.run P w = .ok v w) (h' : (f v).run P w = r) : (Sem.bind x f).run P w = r := by
  show (x >>= f).run P w = r
  rw [Sem.run_bind, h]; exact h'
theorem run_sizeOf' {e sz : Nat} (h : (P.info? e).map (·.size) = some sz) : (sizeOf e).run P w = .ok sz w := by
  obtain ⟨i, hi, rfl⟩ := Option.map_eq_some_iff.1 h
  simp [sizeOf, typeInfo, hi]
theorem run_indexAddr {t : TypeId} {b o len cap : Nat} {k : IntKind} {i : Int} {sz : Nat} (hu : P.underlying t = some (.slice (P.elem t))) (hs : (P.info? (P.elem t)).map (·.size) = some sz) (h : 0 ≤ i ∧ i < len) :
    (Sem.bind (Instr.indexAt t (.slice (some ⟨b, o, none⟩) len cap) (.int k i)) fun v => Sem.pure (Next.value v)).run P w = .ok (.value (.pointer (some ⟨b, o + i.toNat * sz, none⟩))) w := by
  refine run_next (v := .pointer (some ⟨b, o + i.toNat * sz, none⟩)) ?_ rfl
  rw [run_indexAt_slice w t ⟨b, o, none⟩ len cap k i hu, if_pos h, run_sizeOf' hs]
  simp only [Result.andThen_ok]
  rw [Addr.add_lit]
end
section
variable {P : Program} {ops : Array Oper} {B : Nat} {w0 : World} {n i : Nat} {o : Oper} {Spre : Nu → St}
theorem ok_as {R : List Nat} {u u' : Nu → List (Nat × KV)} (h : OpOK P ops B w0 n i o Spre R u) (e : ∀ ν, u ν = u' ν) : OpOK P ops B w0 n i o Spre R u' := by
  have : u = u' := funext e
  subst this; exact h
theorem ok_lds (v : Nu → Value) (d k : Nat) (off : Nu → Nat) (b : Nu → Nat) (cs : Nu → List Value) (e : TypeId) (hcell : ∀ ν, (cs ν)[off ν]? = some (v ν)) (hd : o.dst = some d := by rfl) (hdn : Nat.blt d n = true := by rfl) (hsel : noSel o = true := by rfl) (hg : o.guard = none := by rfl)
    (hb : ∀ ν, Spre ν k = .blk (b ν) (cs ν) e := by intro _; kernel_rfl)
    (hk : ∀ ν, (o.op.operands.all (knownB (Spre ν))) = true := by intro _; kernel_rfl)
    (hp : ∀ ν, (condsOf o (Spre ν)).all id = true := by intro _; kernel_rfl)
    (hv : ∀ ν, peek P (execOp (envU (Spre ν)) o) [v ν] [] = some (.value (v ν), [⟨b ν, off ν, none⟩]) := by intro _; kernel_rfl) :
    OpOK P ops B w0 n i o Spre (k :: tmpsOf ops o) (fun ν => [(d, .slot true (v ν))]) := by
  have hdn' : d < n := by simpa using hdn
  refine opok_of (c := fun _ => true) (fun _ h => List.mem_cons_of_mem _ h) (noSel_spec hsel) (fun ν => by unfold wantS; rw [hg]) hk ?_ ?_
  · intro ν S a w hcf; cases hcf
  · intro Q p S a w hpi hct hag hrep hev0
    have hev : ∀ ν, Ext p ν → execOp a.eval o = execOp (envU (Spre ν)) o := fun ν hν => (hev0 ν hν).trans (env_strip (noSel_spec hsel) (by simpa using hp ν))
    have hrun : ∀ ν, Ext p ν → (execOp (envU (Spre ν)) o).run P w = .ok (.value (v ν)) w := fun ν hν => by
      obtain ⟨m', e, hl, hr⟩ := peek_run _ _ _ _ _ (hv ν)
      simp only [List.nil_append] at e
      subst e
      refine hr w fun j x u hx hu => ?_
      cases j with
      | succ j => simp at hx
      | zero =>
        simp only [List.getElem?_cons_zero, Option.some.injEq] at hx hu
        subst hx hu
        have hkS := hag ν hν k (by simp)
        have hh := (hrep ν hν).holds k
        rw [hkS, hb ν] at hh
        simp only [KV.holds] at hh
        simp [World.cell?, hh, hcell ν]
    unfold Oper.wp
    obtain ⟨ν0, h0⟩ := Ext.exists p
    rw [hev ν0 h0, hrun ν0 h0]
    simp only [Oper.upon]
    refine ⟨default, fun ν hν => ?_⟩
    have hν' := hν.of_set hpi
    have e : v ν0 = v ν := by
      have h1 := hrun ν0 h0
      rw [← hev ν0 h0, hev ν hν', hrun ν hν'] at h1
      injection h1 with h1 _; injection h1 with h1; exact h1.symm
    rw [updAll_one, hd, e]
    exact (hrep ν hν').put hdn' true (v ν)
end
end Go.Sx
