/- Sx: words and proofs for walking code by symbolic states (the part 'Rj'). Own work, the same for every seat. -/
import Derived.Test.YtkkodieceehkmaaDoorSxRi
set_option linter.unusedVariables false
set_option linter.unusedSimpArgs false
namespace Go.Sx
open Go Go.RowKit

/-! ### Functions that hold a range over a function: entry and end; a call that lays two blocks -/
def RM (P : Program) (fn : Func) (R : Ending → World → Prop) (a : Act) (w : World) : Prop := LeavesInM Fence.wide 0 P fn a.tmps R a.defers .returning w
theorem enters_fn {P : Program} {f : FuncId} {fn : Func} {c : Code} (hf : P.funcs[f]? = some fn) (hname : (fn.name == "runtime.NumGoroutine") = false) (hb : fn.body = some c) (args : Array Value) (w : World) : (callFunc f args).run P w = .ok (.enter f args) w := by
  have h1 : fn.name ≠ "runtime.NumGoroutine" := by simpa using hname
  simp [callFunc, hf, h1, hb, mark]
theorem k_enterM {P : Program} {f : FuncId} {fn : Func} {c : Code} {args : List Value} {w : World} {R : Ending → World → Prop} (n : Nat) (fs : List (Nat × KV)) (hfs : ∀ x ∈ fs, (∃ fp F, x.2 = .fact fp F) ∧ x.2.holds w ∧ ∀ i, x.2.fp i → i < w.heap.size)
    (hf : P.funcs[f]? = some fn) (hb : fn.body = some c) (hn : fn.ntmps = n) (hl : Nat.ble args.length n = true)
    (h : ∀ a, Rep w.heap.size w n (updAll (ofL (argL 0 args)) fs) a w → c.wp P (mkQ (RM P fn R) [] (RM P fn R)) a w) : Calls P f args.toArray w R := by
  have hl' : args.length ≤ n := by simpa using hl
  subst hn
  refine callsIn_wide.1 (callsIn_of_wp_marks (n := 0) hf hb trivial (wpIn_wide.2 ?_) rfl)
  refine wp_mono (h _ (Rep.facts fs _ (rep_enter args _ w hl') (fun k hx => ?_) hfs)) fun e a w q => ?_
  · unfold ofL at hx
    rw [updAll_look, look_argL] at hx
    simp only [Nat.zero_le, if_true, Nat.sub_zero] at hx
    cases hv : args[k]? <;> rw [hv] at hx <;> exact hx
  · cases e with
    | normal => exact q
    | ret => exact q
    | exit i => exact q.elim
    | _ => exact q.elim
theorem k_mark {P : Program} {B n : Nat} {w0 : World} {S : St} {a : Act} {w : World} {fn : Func} {R : Ending → World → Prop} {D : Nat} (kD : Nat) (hr : Rep B w0 n S a w) (hk : S kD = obK D (.deferred (some [])))
    (h : ∀ w', Rep B w0 n (upd S kD .none) a w' → bodyPost P fn R .ret a w') : RM P fn R (Act.wd a [markD D]) w := by
  have hD : w.heap[D]? = some (.deferred (some [])) := ob_of (by rw [← hk]; exact hr.holds kD)
  have h1 := hr.putOb kD D _ (.deferred none) hk
  have h2 : Rep B w0 n (upd S kD .none) a (w.putObj D (.deferred none)) := h1.weak fun k => by
    by_cases e : k = kD
    · subst e; left; rw [upd_same]
    · right; rw [upd_ne _ _ e, upd_ne _ _ e]
  obtain ⟨_, v, hv, hR⟩ := h _ h2
  unfold RM
  have hd : (Act.wd a [markD D]).defers = [markD D] := by simp [Act.wd, hr.defers]
  rw [hd]
  exact ⟨by simp, .inl ⟨D, _, rfl, run_takeDeferred hD, v, hv, hR⟩⟩
theorem k_after {P : Program} {c : Code} {D : Nat} {M : K} {a : Act} {w : World} (h : rwp none [markD D] P c (mkQ (fun a w => M (Act.wd a [markD D]) w) [] (fun a w => M (Act.wd a [markD D]) w)) a w) : c.wp P (mkQ M [] M) (Act.wd a [markD D]) w :=
  r_out h fun e a0 w' q => by
    cases e with
    | normal => exact q
    | ret => exact q
    | exit i => exact q.elim
    | _ => exact q.elim
section
variable {P : Program} {ro : Option Nat} {ds : List Deferred} {N : K} {xs : List (Nat × K)} {R : K} {a : Act} {w : World}
theorem r_cond_true {B n : Nat} {w0 : World} {S : St} {c : Operand} {x y : Code} (hr : Rep B w0 n S a w) (hk : knownB S c = true) (he : envS S c = .bool true) (ht : rwp ro ds P x (mkQ N xs R) a w) : rwp ro ds P (Code.cond c x y) (mkQ N xs R) a w :=
  wpIn_cond_true (by rw [wd_eval]; exact (env_eq hr hk).trans he) ht
theorem r_cond_false {B n : Nat} {w0 : World} {S : St} {c : Operand} {x y : Code} (hr : Rep B w0 n S a w) (hk : knownB S c = true) (he : envS S c = .bool false) (hf : rwp ro ds P y (mkQ N xs R) a w) : rwp ro ds P (Code.cond c x y) (mkQ N xs R) a w :=
  wpIn_cond_false (by rw [wd_eval]; exact (env_eq hr hk).trans he) hf
end
section
variable {P : Program} {ops : Array Oper} {B : Nat} {w0 : World} {n i : Nat} {o : Oper} {Spre : Nu → St}
theorem ok_callB2 (f : FuncId) (args : Nu → Array Value) (v : Nat → Nat → Value) (cs1 cs2 : List Value) (e1 e2 : TypeId) (d k1 k2 : Nat)
    (hC : ∀ ν w, Calls P f (args ν) w fun en w' => ∃ b1 b2, en = .returned (v b1 b2) ∧ Below w.heap.size w w' ∧ w.heap.size ≤ b1 ∧ w.heap.size ≤ b2 ∧ b1 ≠ b2 ∧ w'.heap[b1]? = some (.cells cs1.toArray e1 (0, 0)) ∧ w'.heap[b2]? = some (.cells cs2.toArray e2 (0, 0)))
    (hd : o.dst = some d := by rfl) (hdn : Nat.blt d n = true := by rfl) (hkn1 : Nat.ble n k1 = true := by rfl) (hkn2 : Nat.blt k1 k2 = true := by rfl) (hsel : noSel o = true := by rfl) (hg : o.guard = none := by rfl)
    (hk : ∀ ν, (o.op.operands.all (knownB (Spre ν))) = true := by intro _; kernel_rfl) (hp : ∀ ν, (condsOf o (Spre ν)).all id = true := by intro _; kernel_rfl)
    (hv : ∀ ν w, (execOp (envU (Spre ν)) o).run P w = .ok (.enter f (args ν)) w := by intro _ _; kernel_rfl) :
    OpOK P ops B w0 n i o Spre (tmpsOf ops o) (fun ν => [(d, .slot true (v ((ν i).n 0) ((ν i).n 1))), (k1, .blk ((ν i).n 0) cs1 e1), (k2, .blk ((ν i).n 1) cs2 e2)]) := by
  have hdn' : d < n := by simpa using hdn
  have hkn2' : k1 < k2 := by simpa using hkn2
  refine opok_of (c := fun _ => true) (fun _ h => h) (noSel_spec hsel) (fun ν => by unfold wantS; rw [hg]) hk ?_ ?_
  · intro ν S a w hcf; cases hcf
  · intro Q p S a w hpi hct hag hrep hev0
    have hev : ∀ ν, Ext p ν → execOp a.eval o = execOp (envU (Spre ν)) o := fun ν hν => (hev0 ν hν).trans (env_strip (noSel_spec hsel) (by simpa using hp ν))
    unfold Oper.wp
    obtain ⟨ν0, h0⟩ := Ext.exists p
    rw [hev ν0 h0, hv ν0 w]
    simp only [Oper.upon]
    refine (hC ν0 w).mono ?_
    rintro en w' ⟨b1, b2, rfl, hb, hb1, hb2, hne, h1, h2⟩
    refine ⟨⟨fun j => if j = 0 then b1 else b2, fun _ => none⟩, fun ν hν => ?_⟩
    have hν' := hν.of_set hpi
    have ea : (ν i).n 0 = b1 := by rw [hν.at_set]; rfl
    have eb : (ν i).n 1 = b2 := by rw [hν.at_set]; rfl
    rw [ea, eb, hd]
    have hr := hrep ν hν'
    have r3 := (hr.world hb).put hdn' true (v b1 b2)
    have hold : ∀ k' j, (upd (S ν) d (.slot true (v b1 b2)) k').fp j → j < w.heap.size := fun k' j hj => by
      by_cases ed : k' = d
      · subst ed; rw [upd_same] at hj; exact hj.elim
      · rw [upd_ne _ _ ed] at hj
        exact hr.inb k' j hj
    have r4 := r3.ent k1 (.blk b1 cs1 e1) (by intro c x h; cases h) h1 (fun j hj => by have e : j = b1 := hj; subst e; exact (Array.getElem?_eq_some_iff.1 h1).1) (fun _ j hj => by have e : j = b1 := hj; subst e; exact Nat.le_trans hr.base hb1)
      (fun k' j _ _ hj hj' => by
        have e : j = b1 := hj
        have h3 := hold k' j hj'
        omega)
    refine r4.ent k2 (.blk b2 cs2 e2) (by intro c x h; cases h) h2 (fun j hj => by have e : j = b2 := hj; subst e; exact (Array.getElem?_eq_some_iff.1 h2).1) (fun _ j hj => by have e : j = b2 := hj; subst e; exact Nat.le_trans hr.base hb2) ?_
    intro k' j hne' _ hj hj'
    have e : j = b2 := hj
    by_cases ek : k' = k1
    · subst ek
      rw [upd_same] at hj'
      have e' : j = b1 := hj'
      omega
    · rw [upd_ne _ _ ek] at hj'
      have := hold k' j hj'
      omega
end
end Go.Sx
