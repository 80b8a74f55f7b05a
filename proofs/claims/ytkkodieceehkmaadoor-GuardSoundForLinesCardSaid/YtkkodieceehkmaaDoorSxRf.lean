/- Sx: words and proofs for walking code by symbolic states (the part 'Rf'). Own work, the same for every seat. -/
import Derived.Test.YtkkodieceehkmaaDoorSxSlG
import Derived.RangeFuncRecord
import Derived.RangeFuncIn
import Derived.RangeFuncLeaves
import Derived.RangeFuncCalls
import Derived.OrdersIn
import Derived.TacticsIn
set_option linter.unusedVariables false
set_option linter.unusedSimpArgs false
namespace Go.Sx
open Go Go.RowKit

/-! ### Code in a round of a range over a function, or behind one: the same walk -/
abbrev WF (ro : Option Nat) : Fence := { Fence.wide with round := ro }
def Act.wd (a : Act) (ds : List Deferred) : Act := { a with defers := a.defers ++ ds }
theorem wd_eval (a : Act) (ds : List Deferred) : (Act.wd a ds).eval = a.eval := funext fun x => by cases x <;> rfl
theorem wd_put (a : Act) (ds : List Deferred) (d : Option Tmp) (v : Value) : (Act.wd a ds).put d v = Act.wd (a.put d v) ds := by cases d <;> rfl
theorem wd_nil (a : Act) : Act.wd a [] = a := by simp [Act.wd]
def noDef (o : Oper) : Bool := match o.op with | .defer _ => false | _ => true
theorem noDef_spec {o : Oper} (h : noDef o = true) (c : _) : o.op ≠ .defer c := by
  intro e; unfold noDef at h; rw [e] at h; cases h
theorem room_WF (ro : Option Nat) (n : Nat) : (WF ro).room n := fun _ h => by cases h
theorem callsIn_WF {ro : Option Nat} {n : Nat} {P : Program} {f : FuncId} {args : Array Value} {w : World} {R : Ending → World → Prop} (h : Calls P f args w R) : CallsIn (WF ro) n P f args w R :=
  (callsIn_wide (n := n)).2 h
theorem rowsIn_WF {ro : Option Nat} {n : Nat} {P : Program} {row : String} {args : Array Value} {w : World} {R : Value → World → Prop} (h : Rows P row args w R) : RowsIn (WF ro) n P row args w R :=
  fun c cs _ => let ⟨v, w', r, s⟩ := h c cs; ⟨v, w', r, (StepsIn.of_steps s).mono fun m _ => fenced_wide P m⟩

section
variable {P : Program} {ops : Array Oper} {ro : Option Nat} {m : Nat} {ds : List Deferred} {Q : Exit → Act → World → Prop} {QN : Act → World → Prop}

abbrev onlyN (QN : Act → World → Prop) : Exit → Act → World → Prop := fun e a w => e = .normal ∧ QN a w
theorem op_in {i : Nat} {K : Act → World → Prop} {a : Act} {w : World} (hd : ∀ o, ops[i]? = some o → noDef o = true) (h : wpOp P ops (onlyN QN) i K a w) :
    wpOpIn (WF ro) m P ops Q i (fun a' w' => ∃ a0, a' = Act.wd a0 ds ∧ K a0 w') (Act.wd a ds) w := by
  unfold wpOp at h
  unfold wpOpIn
  split
  · rename_i ho
    rw [ho] at h
    exact ⟨a, rfl, h⟩
  · rename_i o ho
    rw [ho] at h
    dsimp only at h
    have hy : yielded ops (Act.wd a ds).tmps = yielded ops a.tmps := rfl
    rw [hy]
    split
    · rename_i hw
      rw [if_pos hw] at h
      rcases h with h | ⟨_, a1, w1, e, _⟩
      · refine ⟨fun _ _ => trivial, ?_⟩
        have hs : o.semAt (WF ro).round (Act.wd a ds).eval = execOp a.eval o := by
          rw [wd_eval]
          cases hr : (WF ro).round with
          | none => rfl
          | some l => exact Oper.semAt_some l _ o (noDef_spec (hd o ho))
        rw [hs]
        unfold Oper.wp at h
        generalize (execOp a.eval o).run P w = r at *
        cases r with
        | ok x w' =>
          cases x with
          | value v => exact ⟨_, wd_put _ _ _ _, h⟩
          | skip => exact ⟨_, wd_put _ _ _ _, h⟩
          | defer d =>
            refine ⟨_, ?_, h⟩
            rw [← wd_put]; rfl
          | enter f args =>
            refine ⟨fun e => (by cases e), callsIn_WF (Calls.mono h fun e w'' he => ?_)⟩
            cases e with
            | returned v => exact ⟨_, wd_put _ _ _ _, he⟩
            | panicked c => cases he.1
            | outgrown => obtain ⟨_, _, e, _⟩ := he; cases e
          | row r args => exact ⟨fun e => (by cases e), rowsIn_WF (Rows.mono h fun v w'' he => ⟨_, wd_put _ _ _ _, he⟩)⟩
          | _ => exact False.elim h
        | halt x w' =>
          cases x with
          | panic v => cases h.1
          | _ => exact False.elim h
      · cases e
    · rename_i hw
      rw [if_neg hw] at h
      exact ⟨fun _ _ => trivial, _, wd_put _ _ _ _, h⟩
theorem ops_in (hd : ∀ (j : Nat) o, ops[j]? = some o → noDef o = true) (hq : ∀ a w, QN a w → Q .normal (Act.wd a ds) w) : ∀ (l : List Nat) (a : Act) (w : World), wpOps P ops (onlyN QN) l a w → wpOpsIn (WF ro) m P ops Q l (Act.wd a ds) w
  | [], a, w, h => hq a w h.2
  | i :: l, a, w, h => by
    rw [wpOpsIn_cons]
    rw [wpOps_cons] at h
    refine wpOpIn_mono ?_ (op_in (hd i) h)
    rintro a' w' ⟨a0, rfl, hk⟩
    exact ops_in hd hq l a0 w' hk
theorem any_in (hd : ∀ (j : Nat) o, ops[j]? = some o → noDef o = true) (hq : ∀ a w, QN a w → Q .normal (Act.wd a ds) w) : ∀ (f : Nat) (L : Array Bool) (a : Act) (w : World), wpAny P .any ops (onlyN QN) f L a w → wpAnyIn (WF ro) m P .any ops Q f L (Act.wd a ds) w
  | 0, L, a, w, h => ⟨h.1, hq a w h.2.2⟩
  | f + 1, L, a, w, h => ⟨fun e => hq a w (h.1 e).2, fun i hi => by
    refine wpOpIn_mono ?_ (op_in (hd i) (h.2 i hi))
    rintro a' w' ⟨a0, rfl, hk⟩
    exact any_in hd hq f _ a0 w' hk⟩
end

/-- A walk in a round (ro), or with deferred marks (ds) that it doesn't look at. -/
def rwp (ro : Option Nat) (ds : List Deferred) (P : Program) (c : Code) (Q : Exit → Act → World → Prop) (a : Act) (w : World) : Prop :=
  c.wpIn (WF ro) 0 P (fun e a' w' => ∃ a0, a' = Act.wd a0 ds ∧ Q e a0 w') (Act.wd a ds) w

section
variable {P : Program} {ro : Option Nat} {ds : List Deferred} {N : K} {xs : List (Nat × K)} {R : K} {a : Act} {w : World}
theorem r_reg {ops : Array Oper} {B n id : Nat} {w0 : World} {draw : Bool} {S0 : St} {Se : Nu → St} {rw : List (List Nat × List Nat)} (hm : P.follows .mixedOrders = true)
    (hr : Rep B w0 n S0 a w) (hc : Chain P ops B w0 n 0 ops.toList (fun _ => S0) rw Se)
    (hi : (!draw || (indep ops.toList rw [] && forward ops.toList 0)) = true) (hd : ops.toList.all noDef = true)
    (hQ : ∀ ν a w, Rep B w0 n (Se ν) a w → N a w) : rwp ro ds P (Code.region id ops draw) (mkQ N xs R) a w := by
  have hd' : ∀ (j : Nat) o, ops[j]? = some o → noDef o = true := fun j o ho => List.all_eq_true.1 hd o (by
    rw [Array.mem_toList_iff]; exact Array.mem_of_getElem? ho)
  cases draw with
  | false =>
    refine wpIn_region (ops_in (QN := N) hd' (fun a w h => ⟨a, rfl, h⟩) _ a w ?_)
    have := Chain.inorder (Q := onlyN N) ops.toList 0 (fun _ => S0) rw (fun _ => none) a w hc (fun j => by simp) (fun _ _ => rfl) (fun _ _ => hr)
      (fun p a w h => by obtain ⟨ν, hν⟩ := Ext.exists p; exact ⟨rfl, hQ ν a w (h ν hν)⟩)
    rw [List.range_eq_range', ← Array.length_toList]
    exact this
  | true =>
    simp only [Bool.not_true, Bool.false_or, Bool.and_eq_true] at hi
    refine wpIn_region_any hm (any_in (QN := N) hd' (fun a w h => ⟨a, rfl, h⟩) _ _ a _ ?_)
    have hr' : Rep B w0 n S0 a { w with drawn := w.drawn + 1 } := hr.world ⟨rfl, rfl, rfl, Nat.le_refl _, fun _ _ => rfl⟩
    exact Chain.anyorder hc hi.1 hi.2 hr' (fun ν a w h => ⟨rfl, hQ ν a w h⟩) _ (Nat.le_refl _)
theorem r_mono {c : Code} {Q Q' : Exit → Act → World → Prop} (h : rwp ro ds P c Q a w) (hq : ∀ e a w, Q e a w → Q' e a w) : rwp ro ds P c Q' a w :=
  wpIn_mono h fun e a' w' ⟨a0, e1, h1⟩ => ⟨a0, e1, hq _ _ _ h1⟩
theorem r_seq {x y : Code} (h : rwp ro ds P x (mkQ (rwp ro ds P y (mkQ N xs R)) xs R) a w) : rwp ro ds P (Code.seq x y) (mkQ N xs R) a w := by
  refine wpIn_seq (wpIn_mono h fun e _ _ hh => ?_)
  cases e with
  | normal => obtain ⟨a0, rfl, h1⟩ := hh; exact h1
  | _ => exact hh
theorem r_skip (h : N a w) : rwp ro ds P Code.skip (mkQ N xs R) a w := wpIn_skip ⟨a, rfl, h⟩
theorem r_label {l : Nat} (h : N a w) : rwp ro ds P (Code.label l) (mkQ N xs R) a w := wpIn_label ⟨a, rfl, h⟩
theorem r_ret (h : R a w) : rwp ro ds P Code.ret (mkQ N xs R) a w := wpIn_ret ⟨a, rfl, h⟩
theorem r_exit {i : Nat} {k : K} (hk : lookX xs i = some k) (h : k a w) : rwp ro ds P (Code.exit i) (mkQ N xs R) a w := wpIn_exit ⟨a, rfl, by simp only [mkQ, hk]; exact h⟩
theorem r_block {i : Nat} {c : Code} (h : rwp ro ds P c (mkQ N ((i, N) :: xs) R) a w) : rwp ro ds P (Code.block i c) (mkQ N xs R) a w := by
  refine wpIn_block (wpIn_mono h fun e a' w' hh => ?_)
  obtain ⟨a0, rfl, q⟩ := hh
  cases e with
  | exit j =>
    simp only [mkQ, lookX] at q
    simp only [Exit.inBlock]
    by_cases hj : j = i
    · subst hj
      rw [show Nat.beq j j = true from Nat.beq_refl j] at q
      simp only [if_true]; exact ⟨a0, rfl, q⟩
    · have : Nat.beq i j = false := by
        cases hb : Nat.beq i j with
        | false => rfl
        | true => exact absurd (Nat.eq_of_beq_eq_true hb).symm hj
      rw [this] at q
      rw [if_neg hj]; exact ⟨a0, rfl, q⟩
  | _ => exact ⟨a0, rfl, q⟩
theorem r_cond {B n : Nat} {w0 : World} {S : St} {c : Operand} {x y : Code} {t : Bool} (hr : Rep B w0 n S a w) (hk : knownB S c = true) (he : envS S c = .bool t)
    (ht : t = true → rwp ro ds P x (mkQ N xs R) a w) (hf : t = false → rwp ro ds P y (mkQ N xs R) a w) : rwp ro ds P (Code.cond c x y) (mkQ N xs R) a w :=
  wpIn_cond_split (by rw [wd_eval]; exact (env_eq hr hk).trans he) ht hf
theorem r_join {c : Code} (J : K) (hJ : ∀ a w, J a w → N a w) (h : rwp ro ds P c (mkQ J xs R) a w) : rwp ro ds P c (mkQ N xs R) a w :=
  r_mono h fun e a w q => by cases e <;> first | exact hJ a w q | exact q
/-- Out of the marked walk. -/
theorem r_out {c : Code} {Q Q' : Exit → Act → World → Prop} (h : rwp none ds P c Q a w) (hq : ∀ e a0 w', Q e a0 w' → Q' e (Act.wd a0 ds) w') : c.wp P Q' (Act.wd a ds) w :=
  (wpIn_wide (n := 0)).1 (wpIn_mono h fun e a' w' ⟨a0, e1, h1⟩ => by subst e1; exact hq _ _ _ h1)
end
end Go.Sx
