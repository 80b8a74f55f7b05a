/- Sx: words and proofs for walking code by symbolic states (the part 'Y'). Own work, the same for every seat. -/
import Derived.Test.YtkkodieceehkmaaDoorSxX
import Derived.ChangeKeysEq
set_option linter.unusedVariables false
set_option linter.unusedSimpArgs false
namespace Go.Sx
open Go Go.RowKit

/-! ### A map that is made, filled and handed back -/
section
variable {P : Program} {ops : Array Oper} {B : Nat} {w0 : World} {n i : Nat} {o : Oper} {Spre : Nu → St}
theorem ok_mkmap (d k : Nat) (hd : o.dst = some d := by rfl) (hdn : Nat.blt d n = true := by rfl) (hsel : noSel o = true := by rfl) (hg : o.guard = none := by rfl)
    (hk : ∀ ν, (o.op.operands.all (knownB (Spre ν))) = true := by intro _; kernel_rfl) (hp : ∀ ν, (condsOf o (Spre ν)).all id = true := by intro _; kernel_rfl)
    (hv : ∀ ν w, (execOp (envU (Spre ν)) o).run P w = .ok (.value (.map (some w.heap.size))) (w.alloc (.map #[] 0)) := by intro _ _; kernel_rfl) :
    OpOK P ops B w0 n i o Spre (tmpsOf ops o) (fun ν => [(d, .slot true (.map (some ((ν i).n 0)))), (k, obK ((ν i).n 0) (.map #[] 0))]) := by
  have hdn' : d < n := by simpa using hdn
  refine opok_of (c := fun _ => true) (fun _ h => h) (noSel_spec hsel) (fun ν => by unfold wantS; rw [hg]) hk ?_ ?_
  · intro ν S a w hcf; cases hcf
  · intro Q p S a w hpi hct hag hrep hev0
    have hev : ∀ ν, Ext p ν → execOp a.eval o = execOp (envU (Spre ν)) o := fun ν hν => (hev0 ν hν).trans (env_strip (noSel_spec hsel) (by simpa using hp ν))
    unfold Oper.wp
    obtain ⟨ν0, h0⟩ := Ext.exists p
    rw [hev ν0 h0, hv ν0 w]
    simp only [Oper.upon]
    refine ⟨⟨fun _ => w.heap.size, fun _ => none⟩, fun ν hν => ?_⟩
    have hr := hrep ν (hν.of_set hpi)
    rw [hν.at_set, hd]
    exact (hr.put hdn' true (.map (some w.heap.size))).newOb k (.map #[] 0)
theorem ok_insert (k : Nat) (l : Nu → Nat) (o1 o2 : Obj) (hv : ∀ ν w, w.heap[l ν]? = some o1 → (execOp (envU (Spre ν)) o).run P w = .ok .skip (w.putObj (l ν) o2))
    (hb : ∀ ν, Spre ν k = obK (l ν) o1 := by intro _; kernel_rfl) (hd : o.dst = none := by rfl) (hkn : Nat.ble n k = true := by rfl) (hsel : noSel o = true := by rfl) (hg : o.guard = none := by rfl)
    (hk : ∀ ν, (o.op.operands.all (knownB (Spre ν))) = true := by intro _; kernel_rfl) (hp : ∀ ν, (condsOf o (Spre ν)).all id = true := by intro _; kernel_rfl) :
    OpOK P ops B w0 n i o Spre (k :: tmpsOf ops o) (fun ν => [(k, obK (l ν) o2)]) := by
  refine opok_of (c := fun _ => true) (fun _ h => List.mem_cons_of_mem _ h) (noSel_spec hsel) (fun ν => by unfold wantS; rw [hg]) hk ?_ ?_
  · intro ν S a w hcf; cases hcf
  · intro Q p S a w hpi hct hag hrep hev0
    have hev : ∀ ν, Ext p ν → execOp a.eval o = execOp (envU (Spre ν)) o := fun ν hν => (hev0 ν hν).trans (env_strip (noSel_spec hsel) (by simpa using hp ν))
    have hS : ∀ ν, Ext p ν → S ν k = obK (l ν) o1 := fun ν hν => (hag ν hν k (by simp)).trans (hb ν)
    have hw : ∀ ν, Ext p ν → w.heap[l ν]? = some o1 := fun ν hν => ob_of (by rw [← hS ν hν]; exact (hrep ν hν).holds k)
    unfold Oper.wp
    obtain ⟨ν0, h0⟩ := Ext.exists p
    rw [hev ν0 h0, hv ν0 w (hw ν0 h0)]
    simp only [Oper.upon]
    refine ⟨default, fun ν hν => ?_⟩
    have hν' := hν.of_set hpi
    have heq : (.ok .skip (w.putObj (l ν0) o2) : Result Next) = .ok .skip (w.putObj (l ν) o2) := by rw [← hv ν0 w (hw ν0 h0), ← hv ν w (hw ν hν'), ← hev ν0 h0, hev ν hν']
    injection heq with _ e
    rw [e, hd]
    exact (hrep ν hν').putOb k (l ν) o1 o2 (hS ν hν')
/-- A call that hands back a new map. -/
theorem ok_callOb (f : FuncId) (args : Nu → Array Value) (ob : Obj) (d k : Nat)
    (hC : ∀ ν w, Calls P f (args ν) w fun en w' => ∃ l, en = .returned (.map (some l)) ∧ Below w.heap.size w w' ∧ w.heap.size ≤ l ∧ w'.heap[l]? = some ob)
    (hd : o.dst = some d := by rfl) (hdn : Nat.blt d n = true := by rfl) (hsel : noSel o = true := by rfl) (hg : o.guard = none := by rfl)
    (hk : ∀ ν, (o.op.operands.all (knownB (Spre ν))) = true := by intro _; kernel_rfl) (hp : ∀ ν, (condsOf o (Spre ν)).all id = true := by intro _; kernel_rfl)
    (hv : ∀ ν w, (execOp (envU (Spre ν)) o).run P w = .ok (.enter f (args ν)) w := by intro _ _; kernel_rfl) :
    OpOK P ops B w0 n i o Spre (tmpsOf ops o) (fun ν => [(d, .slot true (.map (some ((ν i).n 0)))), (k, obF ((ν i).n 0) ob)]) := by
  have hdn' : d < n := by simpa using hdn
  refine opok_of (c := fun _ => true) (fun _ h => h) (noSel_spec hsel) (fun ν => by unfold wantS; rw [hg]) hk ?_ ?_
  · intro ν S a w hcf; cases hcf
  · intro Q p S a w hpi hct hag hrep hev0
    have hev : ∀ ν, Ext p ν → execOp a.eval o = execOp (envU (Spre ν)) o := fun ν hν => (hev0 ν hν).trans (env_strip (noSel_spec hsel) (by simpa using hp ν))
    unfold Oper.wp
    obtain ⟨ν0, h0⟩ := Ext.exists p
    rw [hev ν0 h0, hv ν0 w]
    simp only [Oper.upon]
    refine (hC ν0 w).mono ?_
    rintro en w' ⟨l, rfl, hbw, hl, hob⟩
    refine ⟨⟨fun _ => l, fun _ => none⟩, fun ν hν => ?_⟩
    have hr := hrep ν (hν.of_set hpi)
    rw [hν.at_set, hd]
    have hF := obF_fact hob k
    refine ((hr.world hbw).put hdn' true (.map (some l))).ent k (obF l ob) (by intro c x h; cases h) hF.2.1 hF.2.2 (fun h => h.elim) ?_
    intro k' j hne hx hj hj'
    have e : j = l := hj
    subst e
    by_cases ed : k' = d
    · subst ed; rw [upd_same] at hj'; exact hj'
    · rw [upd_ne _ _ ed] at hj'
      have := hr.inb k' j hj'
      omega
end
theorem run_insert {P : Program} {w : World} {t l k e : Nat} {n : Int} {kd : IntKind} {es : Array MapEntry} {clock : Nat} {v : Value} {s : Sem Next} (hs : s = Sem.bind (Instr.mapUpdate t (.map (some l)) (.int kd n) v) fun _ => Sem.pure Next.skip)
    (hw : w.heap[l]? = some (.map es clock)) (ht : P.underlying t = some (.map k e)) (hk : P.underlying k = some (.int kd)) (hf : Instr.findNow (.int kd) (.int kd n) es.toList 0 = some none) :
    s.run P w = .ok .skip (w.putObj l (.map (es.push ⟨.int kd n, v, clock⟩) (clock + 1))) := by
  subst hs
  have hg : (getObj l : Sem Obj).run P w = .ok (.map es clock) w := by simp [getObj, Sem.run, hw]
  have hset : ∀ o', (setObj l o' : Sem Unit).run P w = .ok () (w.putObj l o') := fun o' => by simp [setObj, Sem.run, hw, World.putObj]
  have h1 : (Instr.mapUpdate t (.map (some l)) (.int kd n) v).run P w = .ok () (w.putObj l (.map (es.push ⟨.int kd n, v, clock⟩) (clock + 1))) := by
    unfold Instr.mapUpdate Instr.findKey
    simp [run_underlying ht, hg, run_checkKey_int hk, run_underlying hk, hf, hset]
  show (Sem.bind _ _).run P w = _
  rw [show (Sem.bind (Instr.mapUpdate t (.map (some l)) (.int kd n) v) fun _ => Sem.pure Next.skip) = (Instr.mapUpdate t (.map (some l)) (.int kd n) v >>= fun _ => Sem.pure Next.skip) from rfl, Sem.run_bind, h1]
  rfl
theorem k_doneOb {P : Program} {n : Nat} {w0 : World} {S : St} {a : Act} {w : World} (hr : Rep w0.heap.size w0 n S a w) {fn : Func} (k l : Nat) (ob : Obj) (hS : S k = obK l ob)
    (hk : (fn.results.toList).all (fun x => isSlot (S (resT x))) = true)
    (hp : peek P (resultsE fn (fun t => envS S (.tmp t))) [] [] = some (.map (some l), [])) :
    bodyPost P fn (fun en w' => ∃ l, en = .returned (.map (some l)) ∧ Below w0.heap.size w0 w' ∧ w0.heap.size ≤ l ∧ w'.heap[l]? = some ob) .ret a w :=
  ⟨hr.defers, .map (some l), run_results hr _ [] hk (by simp) hp, l, rfl, hr.below, hr.ge k l (by rw [hS]; trivial) (by rw [hS]; rfl), ob_of (by rw [← hS]; exact hr.holds k)⟩
end Go.Sx

namespace Go.Sx
open Go Go.RowKit
/-! ### '==' of two arrays -/
def eqIs (P : Program) (E : TypeId → Value → Value → Option Bool) (e : TypeId) (c : Nat) (xs ys : Array Value) : List Nat → Option Bool
  | [] => some true
  | i :: is =>
    match partV P e xs (i * c), partV P e ys (i * c) with
    | some a, some b => match E e a b, eqIs P E e c xs ys is with
      | some x, some r => some (x && r)
      | _, _ => none
    | _, _ => none
theorem eqIs_run {P : Program} {E : TypeId → Value → Value → Option Bool} {d : Nat} {e c : Nat} {xs ys : Array Value} (hE : ∀ t a b r, E t a b = some r → ∀ w : World, (Op.equalIn d t a b).run P w = .ok r w) :
    ∀ (is : List Nat) (r : Bool), eqIs P E e c xs ys is = some r → ∀ w : World, (Op.eqItems d e c xs ys is).run P w = .ok r w
  | [], r, h, w => by
    simp only [eqIs, Option.some.injEq] at h; subst h; rfl
  | i :: is, r, h, w => by
    rw [eqIs] at h
    cases ha : partV P e xs (i * c) with
    | none => simp [ha] at h
    | some a =>
      cases hb : partV P e ys (i * c) with
      | none => simp [ha, hb] at h
      | some b =>
        rw [ha, hb] at h
        simp only at h
        cases he : E e a b with
        | none => simp [he] at h
        | some x =>
          cases hr : eqIs P E e c xs ys is with
          | none => simp [he, hr] at h
          | some r' =>
            rw [he, hr] at h
            simp only [Option.some.injEq] at h
            subst h
            rw [Op.eqItems]
            simp only [Sem.run_bind, partV_run ha, partV_run hb, Result.andThen_ok, hE e a b x he, Sem.run_ite]
            cases x with
            | true => simp only [Bool.not_true, Bool.false_eq_true, if_false, Bool.true_and]; exact eqIs_run hE is r' hr w
            | false => rfl
theorem run_eql_arr {P : Program} {w : World} {t e n c : TypeId} {x y : Operand} {xs ys : Array Value} {b : Bool} (hg : P.eqGuardType P.depth t = false) (hu : P.underlying t = some (.array n e)) (hi : (P.info? e).isSome = true) (hc : P.cellsOf e = c) (h : eqIs P (eqV P 9999) e c xs ys (List.range n) = some b) :
    (Sem.bind (Sem.bind (eqGuard .eql t x y (.agg xs) (.agg ys)) fun _ => binOp .eql t (.agg xs) (.agg ys)) fun v => Sem.pure (Next.value v)).run P w = .ok (.value (.bool b)) w := by
  obtain ⟨i, hi⟩ := Option.isSome_iff_exists.1 hi
  refine run_next (v := .bool b) ?_ rfl
  show ((eqGuard .eql t x y (.agg xs) (.agg ys)) >>= fun _ => binOp .eql t (.agg xs) (.agg ys)).run P w = _
  have he : (Op.equalIn 10000 t (.agg xs) (.agg ys)).run P w = .ok b w := by
    rw [show (10000 : Nat) = 9999 + 1 from rfl, run_equalIn_array w 9999 xs ys hu hi, hc]
    exact eqIs_run (fun t a b r h w => eqV_run 9999 t a b r h w) _ b h w
  rw [Sem.run_bind, run_eqGuard_agg w .eql t x y xs ys hg, Result.andThen_ok, run_eql_struct, he]
  rfl
end Go.Sx
