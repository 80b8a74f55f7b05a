/- The framework's texts, put together. Own work. -/
import Derived.Test.YtbpgobecpmjaeaaDoorSxAll0
import Derived.Carry
import Derived.Lib.AppendZeros
import Derived.ChangeKeysEq
import Derived.WalkKit
import Derived.ProofKit
import Derived.OpenShut
import Derived.ShutString
import Derived.ChangeOld
import Derived.Below
import Derived.SizedLaws
import Derived.LaidMore
import Derived.LaidByTextLater
import Derived.SevenTiedAt
import Derived.Stop.Joined
import Derived.KernelRfl
import Derived.Deep.Slices
set_option linter.unusedVariables false
set_option linter.unusedSimpArgs false
namespace Go.Sx
open Go Go.RowKit
section
variable {P : Program} {ops : Array Oper} {B : Nat} {w0 : World} {n i : Nat} {o : Oper} {Spre : Nu → St}
end
theorem run_app_rows1 {T : Type} {P : Program} {w : World} {t ty e : TypeId} {sz bytes : Nat} {zc : List Value} {en : T → List Value} {l m : List T} {p p2 : Option Addr} {cap cap2 : Nat} {s : Sem Next} (hen : ∀ x, (en x).length = sz) (hone : ∀ x, (en x).all (·.oneCell') = true) (I : Inf P e sz bytes zc)
    (hown : w.ownsRow 0 e sz (.slice p l.length cap) l.length (l.flatMap en)) (R : RowAt w sz p2 m.length (m.flatMap en)) (hm : 0 < m.length ∧ m.length < 1000000 ∧ l.length < 1000000)
    (hs : s = Sem.bind (Builtin.append_ #[t, t] ty #[.slice p l.length cap, .slice p2 m.length cap2]) fun v => Sem.pure (Next.value v))
    (ht : P.underlying t = some (.slice e) := by kernel_rfl) (hsz : 0 < sz := by decide) (hby : bytes ≤ 100000 := by decide) (hz : zc.length = sz := by rfl) :
    ∃ p' cap' w', s.run P w = .ok (.value (.slice p' (l ++ m).length cap')) w' ∧ w'.ownsRow 0 e sz (.slice p' (l ++ m).length cap') (l ++ m).length ((l ++ m).flatMap en) ∧ But (fpOwn p) w w' ∧ ∀ j, fpOwn p' j → w.heap.size ≤ j ∨ fpOwn p j := by
  obtain ⟨i, z, hi, hz0, hi1, hi2, hz2⟩ := I.parts
  subst hs
  rcases R.2 with h0 | ⟨b2, off, rfl, hc⟩
  · omega
  rw [List.length_append, List.flatMap_append]
  exact app_row (P := P) (ty := ty) ht hi hz0 hi1 hi2 (by rw [← hz, ← hz2]; simp) hsz hown (a := ⟨b2, off, none⟩) (c := cap2) (news := m.flatMap en) (flat_len hen m) hm.1 (fun j u hu => by rw [Addr.add_lit]; exact hc j u hu)
    (fun u hu => by
      obtain ⟨x, _, hx⟩ := List.mem_flatMap.1 hu
      exact List.all_eq_true.1 (hone x) u hx) (by omega) hby
theorem run_app_none {P : Program} {w : World} {t ty e : TypeId} {sz n cap cap2 : Nat} {p p2 : Option Addr} (ht : P.underlying t = some (.slice e)) (hi : (P.info? e).map (·.size) = some sz) (hc : n ≤ cap) :
    (Builtin.append_ #[t, t] ty #[.slice p n cap, .slice p2 0 cap2]).run P w = .ok (.slice p n cap) w := by
  have hu := run_underlying (P := P) (w := w) ht
  have hz := run_sizeOf' (P := P) (w := w) hi
  have h0 : (Builtin.lenOf (.slice p2 0 cap2)).run P w = .ok 0 w := rfl
  have hf : (Builtin.firstCells sz 0 (.slice p2 0 cap2)).run P w = .ok #[] w := by
    cases p2 with
    | none => rfl
    | some a => simp [Builtin.firstCells, loadCells, loadCellsFrom, Sem.run]
  unfold Builtin.append_
  cases p with
  | none => simp [hu, hz, h0, hc, hf]
  | some a => simp [hu, hz, h0, hc, hf, storeCells]
theorem run_app_rows {T : Type} {P : Program} {w : World} {t ty e : TypeId} {sz bytes : Nat} {zc : List Value} {en : T → List Value} {l m : List T} {p p2 : Option Addr} {cap cap2 : Nat} {s : Sem Next} (hen : ∀ x, (en x).length = sz) (hone : ∀ x, (en x).all (·.oneCell') = true) (I : Inf P e sz bytes zc)
    (hown : w.ownsRow 0 e sz (.slice p l.length cap) l.length (l.flatMap en)) (R : RowAt w sz p2 m.length (m.flatMap en)) (hm : m.length < 1000000 ∧ l.length < 1000000)
    (hs : s = Sem.bind (Builtin.append_ #[t, t] ty #[.slice p l.length cap, .slice p2 m.length cap2]) fun v => Sem.pure (Next.value v))
    (ht : P.underlying t = some (.slice e) := by kernel_rfl) (hsz : 0 < sz := by decide) (hby : bytes ≤ 100000 := by decide) (hz : zc.length = sz := by rfl) :
    ∃ p' cap' w', s.run P w = .ok (.value (.slice p' (l ++ m).length cap')) w' ∧ w'.ownsRow 0 e sz (.slice p' (l ++ m).length cap') (l ++ m).length ((l ++ m).flatMap en) ∧ But (fpOwn p) w w' ∧ ∀ j, fpOwn p' j → w.heap.size ≤ j ∨ fpOwn p j := by
  rcases Nat.eq_zero_or_pos m.length with h0 | h0
  · obtain rfl := List.eq_nil_of_length_eq_zero h0
    obtain ⟨i, z, hi, hz0, hi1, hi2, hz2⟩ := I.parts
    subst hs
    refine ⟨p, cap, w, run_to ?_, by simpa using hown, ⟨rfl, rfl, rfl, Nat.le_refl _, fun _ _ _ => rfl⟩, fun j h => .inr h⟩
    rw [List.append_nil]
    exact run_app_none ht (by rw [hi]; exact congrArg some hi1) (owns_cap hown)
  · exact run_app_rows1 hen hone I hown R ⟨h0, hm⟩ hs ht hsz hby hz
theorem run_lohim {T : Type} {P : Program} {w : World} {t sz cap : Nat} {p : Option Addr} {l : List T} {k k' k2 : IntKind} {lo hi : Int} {s : Sem Next} (hs : s = Sem.bind (Instr.sliceAt t (.slice p l.length cap) (some (.int k lo)) (some (.int k' hi)) (some (.int k2 hi))) fun v => Sem.pure (Next.value v)) (b : 0 ≤ lo ∧ lo ≤ hi ∧ hi ≤ (l.length : Int)) (hc : l.length ≤ cap)
    (ht : P.underlying t = some (.slice (P.elem t)) := by kernel_rfl) (he : (P.info? (P.elem t)).map (·.size) = some sz := by kernel_rfl) : s.run P w = .ok (.value (.slice (viewP p lo.toNat sz hi.toNat) ((l.take hi.toNat).drop lo.toNat).length (hi.toNat - lo.toNat))) w := by
  subst hs
  refine run_next (v := .slice (viewP p lo.toNat sz hi.toNat) ((l.take hi.toNat).drop lo.toNat).length (hi.toNat - lo.toNat)) ?_ rfl
  rw [run_sliceAt_slice _ _ _ _ _ _ ht, run_slice_lhm _ _ _ _ _ ht _ _ _ _ _ _ b.1 b.2.1 (by omega) (by omega), run_sizeOf' he, Result.andThen_ok, List.length_drop, List.length_take, Nat.min_eq_left (by omega)]
  rfl
theorem RowC.cut {w : World} {sz n cap c : Nat} {p : Option Addr} {xs : List Value} (h : RowC w sz p n cap xs) (hc : n ≤ c) : RowC w sz p n c xs := ⟨hc, h.2⟩
theorem RowC.lohim {T : Type} {w : World} {en : T → List Value} {sz cap : Nat} {p : Option Addr} {l : List T} (h : RowC w sz p l.length cap (l.flatMap en)) (hen : ∀ x, (en x).length = sz) {lo hi : Int} (b : 0 ≤ lo ∧ lo ≤ hi ∧ hi ≤ (l.length : Int)) :
    RowC w sz (viewP p lo.toNat sz hi.toNat) ((l.take hi.toNat).drop lo.toNat).length (hi.toNat - lo.toNat) (((l.take hi.toNat).drop lo.toNat).flatMap en) :=
  ((h.high hen ⟨by omega, b.2.2⟩).cut (c := hi.toNat) (by rw [List.length_take]; omega)).low hen ⟨b.1, by rw [List.length_take]; omega⟩
abbrev obF (l : Nat) (o : Obj) : KV := .fact (· = l) (fun w => w.heap[l]? = some o)
theorem obF_of {w : World} {l : Nat} {o : Obj} (h : (obF l o).holds w) : w.heap[l]? = some o := h w (agree.refl _ _)
theorem obF_fact {w : World} {l : Nat} {o : Obj} (h : w.heap[l]? = some o) (k : Nat) : (∃ fp F, (k, obF l o).2 = .fact fp F) ∧ (obF l o).holds w ∧ ∀ i, (obF l o).fp i → i < w.heap.size :=
  ⟨⟨_, _, rfl⟩, fun w' ha => (ha l rfl).trans h, fun i hi => by subst hi; exact (Array.getElem?_eq_some_iff.1 h).1⟩
theorem run_checkKey_int {P : Program} {w : World} {b : Bool} {k : Nat} {kd : IntKind} {n : Int} (hk : P.underlying k = some (.int kd)) : (Instr.checkKey b 10000 k (.int kd n)).run P w = .ok () w := by
  show (Instr.checkKey b (9999 + 1) k (.int kd n)).run P w = .ok () w
  generalize 9999 = d
  unfold Instr.checkKey
  simp [run_underlying hk]
theorem run_lookup {P : Program} {w : World} {t l k e m i : Nat} {n : Int} {kd : IntKind} {es : Array MapEntry} {clock : Nat} {v : Value} {s : Sem Next} (hs : s = Sem.bind (Instr.lookup t (.map (some l)) (.int kd n) false) fun v => Sem.pure (Next.value v))
    (hn : n = (m : Int)) (hw : w.heap[l]? = some (.map es clock)) (ht : P.underlying t = some (.map k e)) (hk : P.underlying k = some (.int kd)) (hf : Instr.findNow (.int kd) (.int kd m) es.toList 0 = some (some (i, v))) : s.run P w = .ok (.value v) w := by
  subst hs hn
  refine run_next (v := v) ?_ rfl
  have hg : (getObj l : Sem Obj).run P w = .ok (.map es clock) w := by simp [getObj, Sem.run, hw]
  unfold Instr.lookup Instr.findKey
  simp [run_underlying ht, hg, run_checkKey_int hk, run_underlying hk, hf]
section
variable {P : Program} {ops : Array Oper} {B : Nat} {w0 : World} {n i : Nat} {o : Oper} {Spre : Nu → St}
theorem ok_mkmap (d k : Nat) (hd : o.dst = some d := by rfl) (hdn : Nat.blt d n = true := by rfl) (hsel : noSel o = true := by rfl) (hg : o.guard = none := by rfl)
    (hk : ∀ ν, (o.op.operands.all (knownB (Spre ν))) = true := by intro _; kernel_rfl) (hp : ∀ ν, (condsOf o (Spre ν)).all id = true := by intro _; kernel_rfl)
    (hv : ∀ ν w, (execOp (envU (Spre ν)) o).run P w = .ok (.value (.map (some w.heap.size))) (w.alloc (.map #[] 0)) := by intro _ _; kernel_rfl) :
    OpOK P ops B w0 n i o Spre (tmpsOf ops o) (fun ν => [(d, .slot true (.map (some ((ν i).n 0)))), (k, obK ((ν i).n 0) (.map #[] 0))]) := by
  have hdn' : d < n := by simpa using hdn
  refine opok_of (c := fun _ => true) (fun _ h => h) (noSel_spec hsel) (fun ν => by unfold wantS; rw [hg]) hk ?_ ?_
  · intro ν S a w hcf; cases hcf
  · intro Q p S a w hpi hct hag hrep hev0
    have hev : ∀ ν, Ext p ν → execOp a.eval o = execOp (envU (Spre ν)) o := fun ν hν => (hev0 ν hν).trans (env_strip (noSel_spec hsel) (by simpa using hp ν))
    unfold Oper.wp
    obtain ⟨ν0, h0⟩ := Ext.exists p
    rw [hev ν0 h0, hv ν0 w]
    simp only [Oper.upon]
    refine ⟨Gh.of (fun _ => w.heap.size) fun _ => none, fun ν hν => ?_⟩
    have hr := hrep ν (hν.of_set hpi)
    rw [hν.at_set, hd]
    exact (hr.put hdn' true (.map (some w.heap.size))).newOb k (.map #[] 0)
theorem ok_insert (k : Nat) (l : Nu → Nat) (o1 o2 : Obj) (hv : ∀ ν w, w.heap[l ν]? = some o1 → (execOp (envU (Spre ν)) o).run P w = .ok .skip (w.putObj (l ν) o2))
    (hb : ∀ ν, Spre ν k = obK (l ν) o1 := by intro _; kernel_rfl) (hd : o.dst = none := by rfl) (hkn : Nat.ble n k = true := by rfl) (hsel : noSel o = true := by rfl) (hg : o.guard = none := by rfl)
    (hk : ∀ ν, (o.op.operands.all (knownB (Spre ν))) = true := by intro _; kernel_rfl) (hp : ∀ ν, (condsOf o (Spre ν)).all id = true := by intro _; kernel_rfl) :
    OpOK P ops B w0 n i o Spre (k :: tmpsOf ops o) (fun ν => [(k, obK (l ν) o2)]) := by
  refine opok_of (c := fun _ => true) (fun _ h => List.mem_cons_of_mem _ h) (noSel_spec hsel) (fun ν => by unfold wantS; rw [hg]) hk ?_ ?_
  · intro ν S a w hcf; cases hcf
  · intro Q p S a w hpi hct hag hrep hev0
    have hev : ∀ ν, Ext p ν → execOp a.eval o = execOp (envU (Spre ν)) o := fun ν hν => (hev0 ν hν).trans (env_strip (noSel_spec hsel) (by simpa using hp ν))
    have hS : ∀ ν, Ext p ν → S ν k = obK (l ν) o1 := fun ν hν => (hag ν hν k (by simp)).trans (hb ν)
    have hw : ∀ ν, Ext p ν → w.heap[l ν]? = some o1 := fun ν hν => ob_of (by rw [← hS ν hν]; exact (hrep ν hν).holds k)
    unfold Oper.wp
    obtain ⟨ν0, h0⟩ := Ext.exists p
    rw [hev ν0 h0, hv ν0 w (hw ν0 h0)]
    simp only [Oper.upon]
    refine ⟨default, fun ν hν => ?_⟩
    have hν' := hν.of_set hpi
    have heq : (.ok .skip (w.putObj (l ν0) o2) : Result Next) = .ok .skip (w.putObj (l ν) o2) := by rw [← hv ν0 w (hw ν0 h0), ← hv ν w (hw ν hν'), ← hev ν0 h0, hev ν hν']
    injection heq with _ e
    rw [e, hd]
    exact (hrep ν hν').putOb k (l ν) o1 o2 (hS ν hν')
theorem ok_callOb (f : FuncId) (args : Nu → Array Value) (ob : Obj) (d k : Nat)
    (hC : ∀ ν w, Calls P f (args ν) w fun en w' => ∃ l, en = .returned (.map (some l)) ∧ Below w.heap.size w w' ∧ w.heap.size ≤ l ∧ w'.heap[l]? = some ob)
    (hd : o.dst = some d := by rfl) (hdn : Nat.blt d n = true := by rfl) (hsel : noSel o = true := by rfl) (hg : o.guard = none := by rfl)
    (hk : ∀ ν, (o.op.operands.all (knownB (Spre ν))) = true := by intro _; kernel_rfl) (hp : ∀ ν, (condsOf o (Spre ν)).all id = true := by intro _; kernel_rfl)
    (hv : ∀ ν w, (execOp (envU (Spre ν)) o).run P w = .ok (.enter f (args ν)) w := by intro _ _; kernel_rfl) :
    OpOK P ops B w0 n i o Spre (tmpsOf ops o) (fun ν => [(d, .slot true (.map (some ((ν i).n 0)))), (k, obF ((ν i).n 0) ob)]) := by
  have hdn' : d < n := by simpa using hdn
  refine opok_of (c := fun _ => true) (fun _ h => h) (noSel_spec hsel) (fun ν => by unfold wantS; rw [hg]) hk ?_ ?_
  · intro ν S a w hcf; cases hcf
  · intro Q p S a w hpi hct hag hrep hev0
    have hev : ∀ ν, Ext p ν → execOp a.eval o = execOp (envU (Spre ν)) o := fun ν hν => (hev0 ν hν).trans (env_strip (noSel_spec hsel) (by simpa using hp ν))
    unfold Oper.wp
    obtain ⟨ν0, h0⟩ := Ext.exists p
    rw [hev ν0 h0, hv ν0 w]
    simp only [Oper.upon]
    refine (hC ν0 w).mono ?_
    rintro en w' ⟨l, rfl, hbw, hl, hob⟩
    refine ⟨Gh.of (fun _ => l) fun _ => none, fun ν hν => ?_⟩
    have hr := hrep ν (hν.of_set hpi)
    rw [hν.at_set, hd]
    have hF := obF_fact hob k
    refine ((hr.world hbw).put hdn' true (.map (some l))).ent k (obF l ob) (by intro c x h; cases h) hF.2.1 hF.2.2 (fun h => h.elim) ?_
    intro k' j hne hx hj hj'
    have e : j = l := hj
    subst e
    by_cases ed : k' = d
    · subst ed; rw [upd_same] at hj'; exact hj'
    · rw [upd_ne _ _ ed] at hj'
      have := hr.inb k' j hj'
      omega
end
theorem run_insert {P : Program} {w : World} {t l k e : Nat} {n : Int} {kd : IntKind} {es : Array MapEntry} {clock : Nat} {v : Value} {s : Sem Next} (hs : s = Sem.bind (Instr.mapUpdate t (.map (some l)) (.int kd n) v) fun _ => Sem.pure Next.skip)
    (hw : w.heap[l]? = some (.map es clock)) (ht : P.underlying t = some (.map k e)) (hk : P.underlying k = some (.int kd)) (hf : Instr.findNow (.int kd) (.int kd n) es.toList 0 = some none) :
    s.run P w = .ok .skip (w.putObj l (.map (es.push ⟨.int kd n, v, clock⟩) (clock + 1))) := by
  subst hs
  have hg : (getObj l : Sem Obj).run P w = .ok (.map es clock) w := by simp [getObj, Sem.run, hw]
  have hset : ∀ o', (setObj l o' : Sem Unit).run P w = .ok () (w.putObj l o') := fun o' => by simp [setObj, Sem.run, hw, World.putObj]
  have h1 : (Instr.mapUpdate t (.map (some l)) (.int kd n) v).run P w = .ok () (w.putObj l (.map (es.push ⟨.int kd n, v, clock⟩) (clock + 1))) := by
    unfold Instr.mapUpdate Instr.findKey
    simp [run_underlying ht, hg, run_checkKey_int hk, run_underlying hk, hf, hset]
  show (Sem.bind _ _).run P w = _
  rw [show (Sem.bind (Instr.mapUpdate t (.map (some l)) (.int kd n) v) fun _ => Sem.pure Next.skip) = (Instr.mapUpdate t (.map (some l)) (.int kd n) v >>= fun _ => Sem.pure Next.skip) from rfl, Sem.run_bind, h1]
  rfl
theorem k_doneOb {P : Program} {n : Nat} {w0 : World} {S : St} {a : Act} {w : World} (hr : Rep w0.heap.size w0 n S a w) {fn : Func} (k l : Nat) (ob : Obj) (hS : S k = obK l ob)
    (hk : (fn.results.toList).all (fun x => isSlot (S (resT x))) = true)
    (hp : peek P (resultsE fn (fun t => envS S (.tmp t))) [] [] = some (.map (some l), [])) :
    bodyPost P fn (fun en w' => ∃ l, en = .returned (.map (some l)) ∧ Below w0.heap.size w0 w' ∧ w0.heap.size ≤ l ∧ w'.heap[l]? = some ob) .ret a w :=
  ⟨hr.defers, .map (some l), run_results hr _ [] hk (by simp) hp, l, rfl, hr.below, hr.ge k l (by rw [hS]; trivial) (by rw [hS]; rfl), ob_of (by rw [← hS]; exact hr.holds k)⟩
end Go.Sx
namespace Go.Sx
open Go Go.RowKit
end Go.Sx
set_option linter.unusedVariables false
set_option linter.unusedSimpArgs false
namespace Go.Sx
open Go Go.RowKit
def maskOf (ms : List Nat) (o : Oper) : Nat := (predsOf o).foldr (fun e m => (m ||| 2 ^ e) ||| ms.getD e 0) 0
def indepU : List Oper → List (List Nat × List Nat) → Nat → List (Nat × List Nat × List Nat) → List Nat → Bool
  | o :: os, (R, W) :: rw, i, pre, ms => (pre.all fun x => Nat.testBit (maskOf ms o) x.1 || (disj x.2.2 R && disj x.2.2 W && disj x.2.1 W && !(R.contains (TK + x.1)))) && indepU os rw (i + 1) ((i, R, W) :: pre) (ms ++ [maskOf ms o])
  | _, _, _, _, _ => true
theorem mask_spec {ms : List Nat} {k : Nat} : ∀ {l : List Nat}, Nat.testBit (l.foldr (fun e m => (m ||| 2 ^ e) ||| ms.getD e 0) 0) k = true → ∃ e ∈ l, k = e ∨ Nat.testBit (ms.getD e 0) k = true
  | [], h => by simp at h
  | e :: l, h => by
    simp only [List.foldr_cons, Nat.testBit_or, Bool.or_eq_true] at h
    rcases h with (h | h) | h
    · obtain ⟨e', he', hk⟩ := mask_spec (l := l) h
      exact ⟨e', List.mem_cons_of_mem _ he', hk⟩
    · rw [Nat.testBit_two_pow] at h
      exact ⟨e, by simp, .inl (of_decide_eq_true h).symm⟩
    · exact ⟨e, by simp, .inr h⟩
def MasksOK (ops : List Oper) (ms : List Nat) : Prop := ms.length ≤ ops.length ∧ ∀ (m b : Nat) (o : Oper), ms[m]? = some b → ops[m]? = some o → ∀ k, Nat.testBit b k = true → ∀ D, DownC ops D → (∀ e ∈ predsOf o, D e = true) → D k = true
theorem mask_ok {ops : List Oper} {ms : List Nat} (h : MasksOK ops ms) {o : Oper} {k : Nat} (hk : Nat.testBit (maskOf ms o) k = true) {D : Nat → Bool} (hD : DownC ops D) (hp : ∀ e ∈ predsOf o, D e = true) : D k = true := by
  obtain ⟨e, he, hk⟩ := mask_spec hk
  rcases hk with rfl | hk
  · exact hp _ he
  · cases hb : ms[e]? with
    | none => simp [List.getD, hb] at hk
    | some b =>
      simp only [List.getD, hb, Option.getD_some] at hk
      cases ho : ops[e]? with
      | none =>
        exfalso
        have h1 : e < ms.length := (List.getElem?_eq_some_iff.1 hb).1
        have h2 := h.1
        rw [List.getElem?_eq_none_iff] at ho
        omega
      | some oe => exact h.2 e b oe hb ho k hk D hD (hD e oe (hp e he) ho)
theorem indepU_aux {ops : List Oper} {rwA : List (List Nat × List Nat)} : ∀ (os : List Oper) (rw : List (List Nat × List Nat)) (i : Nat) (pre : List (Nat × List Nat × List Nat)) (ms : List Nat), indepU os rw i pre ms = true → ms.length = i → MasksOK ops ms →
    (∀ j, os[j]? = ops[i + j]?) → (∀ j, rw[j]? = rwA[i + j]?) → (∀ m R W, m < i → rwA[m]? = some (R, W) → (m, R, W) ∈ pre) →
    ∀ (j : Nat) (o : Oper) (R W : List Nat), i ≤ j → ops[j]? = some o → rwA[j]? = some (R, W) → ∀ (m : Nat) (R' W' : List Nat), m < j → rwA[m]? = some (R', W') →
    ∀ D, DownC ops D → (∀ e ∈ predsOf o, D e = true) → D m = true ∨ (disj W' R = true ∧ disj W' W = true ∧ disj R' W = true ∧ TK + m ∉ R)
  | [], rw, i, pre, ms, _, _, _, hos, _, _, j, o, R, W, hij, ho, _ => by
    have := hos (j - i)
    rw [show i + (j - i) = j by omega, ho] at this
    simp at this
  | o0 :: os, [], i, pre, ms, _, _, _, _, hrw, _, j, o, R, W, hij, _, hr => by
    have := hrw (j - i)
    rw [show i + (j - i) = j by omega, hr] at this
    simp at this
  | o0 :: os, (R0, W0) :: rw, i, pre, ms, h, hl, hM, hos, hrw, hpre, j, o, R, W, hij, ho, hr => by
    rw [indepU, Bool.and_eq_true] at h
    intro m R' W' hmj hm D hD hp
    have h0 : ops[i]? = some o0 := by have := hos 0; simpa using this.symm
    have hr0 : rwA[i]? = some (R0, W0) := by have := hrw 0; simpa using this.symm
    by_cases e : j = i
    · subst e
      obtain rfl : o0 = o := Option.some.inj (h0.symm.trans ho)
      obtain ⟨rfl, rfl⟩ : R0 = R ∧ W0 = W := by have := Option.some.inj (hr0.symm.trans hr); simpa using this
      have h1 := List.all_eq_true.1 h.1 (m, R', W') (hpre m R' W' hmj hm)
      simp only [Bool.or_eq_true, Bool.and_eq_true] at h1
      rcases h1 with h1 | h1
      · exact .inl (mask_ok hM h1 hD hp)
      · exact .inr ⟨h1.1.1.1, h1.1.1.2, h1.1.2, by simpa using h1.2⟩
    · refine indepU_aux os rw (i + 1) ((i, R0, W0) :: pre) (ms ++ [maskOf ms o0]) h.2 (by simp [hl]) ⟨?_, ?_⟩ (fun k => ?_) (fun k => ?_) (fun m R W hmi hr => ?_) j o R W (by omega) ho hr m R' W' hmj hm D hD hp
      · have := (List.getElem?_eq_some_iff.1 h0).1
        simp only [List.length_append, List.length_cons, List.length_nil]
        omega
      · intro m b o' hb ho' k hk D hD hp
        by_cases em : m < ms.length
        · rw [List.getElem?_append_left em] at hb
          exact hM.2 m b o' hb ho' k hk D hD hp
        · have em' : m = i := by
            have := (List.getElem?_eq_some_iff.1 hb).1
            simp at this
            omega
          subst em'
          rw [List.getElem?_append_right (by omega), hl] at hb
          simp at hb
          subst hb
          obtain rfl : o0 = o' := Option.some.inj (h0.symm.trans ho')
          exact mask_ok hM hk hD hp
      · have := hos (k + 1)
        rw [List.getElem?_cons_succ] at this
        rw [this, show i + (k + 1) = i + 1 + k by omega]
      · have := hrw (k + 1)
        rw [List.getElem?_cons_succ] at this
        rw [this, show i + (k + 1) = i + 1 + k by omega]
      · by_cases em : m = i
        · subst em
          have := Option.some.inj (hr0.symm.trans hr)
          rw [← this]; simp
        · exact List.mem_cons_of_mem _ (hpre m R W (by omega) hr)
theorem indepU_spec {ops : List Oper} {rw : List (List Nat × List Nat)} (h : indepU ops rw 0 [] [] = true) {i j : Nat} {o : Oper} {R W R' W' : List Nat} (hij : i < j) (ho : ops[j]? = some o) (hj : rw[j]? = some (R, W)) (hi : rw[i]? = some (R', W'))
    {D : Nat → Bool} (hD : DownC ops D) (hp : ∀ e ∈ predsOf o, D e = true) : D i = true ∨ (disj W' R = true ∧ disj W' W = true ∧ disj R' W = true ∧ TK + i ∉ R) :=
  indepU_aux ops rw 0 [] [] h rfl ⟨Nat.zero_le _, fun m b o h => by simp at h⟩ (fun j => by simp) (fun j => by simp) (fun m R W hm => by omega) j o R W (Nat.zero_le _) ho hj i R' W' hij hi D hD hp
section
variable {P : Program} {ops : Array Oper} {B : Nat} {w0 : World} {n : Nat}
theorem Chain.anyorderT {Q : Exit → Act → World → Prop} {S0 : St} {Se : Nu → St} {rw : List (List Nat × List Nat)} {a : Act} {w : World} (hc : Chain P ops B w0 n 0 ops.toList (fun _ => S0) rw Se)
    (hi : indepU ops.toList rw 0 [] [] = true) (hf : forward ops.toList 0 = true) (hr : Rep B w0 n S0 a w)
    (hQ : ∀ ν a w, Rep B w0 n (Se ν) a w → Q .normal a w) (fuel : Nat) (hfuel : ops.size ≤ fuel) : wpAny P .any ops Q fuel (Array.replicate ops.size false) a w := by
  obtain ⟨hlen, us, hus, hSe⟩ := Chain.parts _ _ _ _ hc
  have hl : ops.toList.length = ops.size := Array.length_toList
  have hget : ∀ j o, ops[j]? = some o → ops.toList[j]? = some o := fun j o h => by rw [Array.getElem?_toList]; exact h
  -- the done set
  let D (L : Array Bool) : Nat → Bool := fun j => L.getD j false
  have main : ∀ (fuel : Nat) (L : Array Bool) (p : PNu) (a : Act) (w : World), L.size = ops.size → (∀ j, D L j = false → p j = none) → (∀ j, D L j = true → ∃ g, p j = some g) →
      (∀ j o, D L j = true → ops[j]? = some o → ∀ e ∈ o.after, Region.binds .any e = true → D L e.on = true) →
      (∀ ν, Ext p ν → Rep B w0 n (can us (D L) S0 ν ops.size) a w) → ((List.range ops.size).filter fun j => !D L j).length ≤ fuel → wpAny P .any ops Q fuel L a w := by
    intro fuel
    have hdone : ∀ (L : Array Bool) (p : PNu) (a : Act) (w : World), L.size = ops.size →
      (∀ j o, D L j = true → ops[j]? = some o → ∀ e ∈ o.after, Region.binds .any e = true → D L e.on = true) →
      (∀ ν, Ext p ν → Rep B w0 n (can us (D L) S0 ν ops.size) a w) → Region.ready .any ops L = [] → Q .normal a w := by
      intro L p a w hL hdown hrep hno
      have hall : ∀ j, j < ops.size → D L j = true := by
        intro j
        induction j using Nat.strongRecOn with
        | _ j ih =>
          intro hj
          cases hD : D L j with
          | true => rfl
          | false =>
            have : j ∈ Region.ready .any ops L := by
              rw [mem_ready]
              refine ⟨?_, ops[j], by simp [hj], fun e he hb => ?_⟩
              · have : L.getD j false = false := hD
                simp only [Array.getD_eq_getD_getElem?] at this ⊢
                rw [Array.getElem?_eq_getElem (by omega)] at this ⊢
                exact this
              · have h1 := forward_spec _ _ hf j ops[j] (by simp [hj]) e he hb
                simp only [Nat.zero_add] at h1
                exact ih e.on h1 (by omega)
            rw [hno] at this; cases this
      obtain ⟨ν, hν⟩ := Ext.exists p
      refine hQ ν a w ((hrep ν hν).congr fun k => ?_)
      rw [hSe ν, hl]
      exact can_congr _ fun j hj _ => (hall j hj).symm
    induction fuel with
    | zero =>
      intro L p a w hL hp hps hdown hrep hcount
      have hno : Region.ready .any ops L = [] := by
        cases hrd : Region.ready .any ops L with
        | nil => rfl
        | cons j rest =>
          exfalso
          have hj : j ∈ Region.ready .any ops L := by rw [hrd]; simp
          obtain ⟨h1, o, ho, _⟩ := mem_ready.1 hj
          have hjs : j < ops.size := (Array.getElem?_eq_some_iff.1 ho).1
          have : j ∈ (List.range ops.size).filter fun j => !D L j := by
            simp only [List.mem_filter, List.mem_range, hjs, true_and, Bool.not_eq_true']
            show L.getD j false = false
            simp only [Array.getD_eq_getD_getElem?] at h1 ⊢
            rw [Array.getElem?_eq_getElem (by omega)] at h1 ⊢
            exact h1
          have := List.length_pos_of_mem this
          omega
      exact ⟨hno, hdone L p a w hL hdown hrep hno⟩
    | succ fuel ih =>
      intro L p a w hL hp hps hdown hrep hcount
      refine ⟨hdone L p a w hL hdown hrep, fun i hi' => ?_⟩
      obtain ⟨hLi, o, ho, hpre⟩ := mem_ready.1 hi'
      have his : i < ops.size := (Array.getElem?_eq_some_iff.1 ho).1
      have hDi : D L i = false := by
        show L.getD i false = false
        simp only [Array.getD_eq_getD_getElem?] at hLi ⊢
        rw [Array.getElem?_eq_getElem (by omega)] at hLi ⊢
        exact hLi
      obtain ⟨R, W, hrw, hW, hT, hok⟩ := hus i o (hget i o ho)
      simp only [Nat.zero_add] at hok hT
      -- what touches what it touches is done if it stands before it, and isn't done if it stands behind it
      have hord : ∀ j, j < ops.size → j ≠ i → (∃ R' W', rw[j]? = some (R', W') ∧ ¬ (disj W' R = true ∧ disj W' W = true ∧ disj R' W = true) ∧ j < i) ∨ (∃ R' W', rw[j]? = some (R', W') ∧ ¬ (disj W R' = true ∧ disj W W' = true ∧ disj R W' = true) ∧ i < j) → D L j = decide (j < i) := by
        intro j hj hne hcase
        have hDC : DownC ops.toList (D L) := fun j' o' hDj' ho' e he => by
          obtain ⟨e', he', rfl⟩ := List.mem_map.1 he
          rw [List.mem_filter] at he'
          exact hdown j' o' hDj' (by simpa using ho') e' (by simpa using he'.1) he'.2
        rcases hcase with ⟨R', W', hr', hn, hlt⟩ | ⟨R', W', hr', hn, hlt⟩
        · have h3 := indepU_spec hi hlt (hget i o ho) hrw hr' hDC (fun e he => by
            obtain ⟨e', he', rfl⟩ := List.mem_map.1 he
            rw [List.mem_filter] at he'
            exact hpre e' (by simpa using he'.1) he'.2)
          have := h3.resolve_right fun q => hn ⟨q.1, q.2.1, q.2.2.1⟩
          simp only [hlt, decide_true]; exact this
        · obtain ⟨oj, hoj⟩ : ∃ oj, ops[j]? = some oj := ⟨ops[j], by simp [hj]⟩
          cases hDj : D L j with
          | false => have : ¬ j < i := by omega
                     simp [this]
          | true =>
            have h3 := indepU_spec hi hlt (hget j oj hoj) hr' hrw hDC (hDC j oj hDj (hget j oj hoj))
            have := h3.resolve_right fun q => hn ⟨q.1, q.2.1, q.2.2.1⟩
            rw [hDi] at this; cases this
      have hag : ∀ ν, Ext p ν → ∀ k ∈ R, can us (D L) S0 ν ops.size k = can us (fun _ => true) S0 ν i k := by
        intro ν _ k hk
        have e1 : can us (D L) S0 ν ops.size k = can us (fun j => decide (j < i)) S0 ν ops.size k := by
          refine can_congr _ fun j hj hkj => ?_
          by_cases hji : j = i
          · subst hji; rw [hDi]; simp
          · obtain ⟨oj, hoj⟩ : ∃ oj, ops[j]? = some oj := ⟨ops[j], by simp [hj]⟩
            obtain ⟨R', W', hrw', hW', _, _⟩ := hus j oj (hget j oj hoj)
            rw [hW' ν] at hkj
            refine hord j hj hji ?_
            rcases Nat.lt_or_ge j i with hlt | hge
            · exact .inl ⟨R', W', hrw', fun hd => disj_spec hd.1 hkj hk, hlt⟩
            · exact .inr ⟨R', W', hrw', fun hd => disj_spec hd.2.2 hk hkj, by omega⟩
        rw [e1]
        have key : ∀ m, i ≤ m → can us (fun j => decide (j < i)) S0 ν m k = can us (fun _ => true) S0 ν i k := by
          intro m
          induction m with
          | zero => intro hm; have : i = 0 := by omega
                    subst this; rfl
          | succ m ihm =>
            intro hm
            by_cases e : i = m + 1
            · subst e
              exact can_congr _ fun j hj _ => by simp [hj]
            · rw [can, if_neg (by simp; omega)]
              exact ihm (by omega)
        exact key _ (by omega)
      have hJ : ∀ j, TK + j ∈ R → ∃ g, p j = some g := by
        intro j hj
        have hlt := tokOK_spec hT hj
        have hDC : DownC ops.toList (D L) := fun j' o' hDj' ho' e he => by
          obtain ⟨e', he', rfl⟩ := List.mem_map.1 he
          rw [List.mem_filter] at he'
          exact hdown j' o' hDj' (by simpa using ho') e' (by simpa using he'.1) he'.2
        obtain ⟨oj, hoj⟩ : ∃ oj, ops[j]? = some oj := ⟨ops[j]'(by omega), by simp [show j < ops.size by omega]⟩
        obtain ⟨R', W', hrw', _, _, _⟩ := hus j oj (hget j oj hoj)
        have h3 := indepU_spec hi hlt (hget i o ho) hrw hrw' hDC (fun e he => by
            obtain ⟨e', he', rfl⟩ := List.mem_map.1 he
            rw [List.mem_filter] at he'
            exact hpre e' (by simpa using he'.1) he'.2)
        exact hps j (h3.resolve_right fun q => q.2.2.2 hj)
      refine wpOp_mono ?_ (hok Q p (fun ν => can us (D L) S0 ν ops.size) a w hag (hp i hDi) ho hrep hJ)
      rintro a' w' ⟨g, hg⟩
      have hDset : ∀ j, D (L.setIfInBounds i true) j = (D L j || decide (j = i)) := by
        intro j
        show (L.setIfInBounds i true).getD j false = _
        by_cases e : j = i
        · subst e
          simp [Array.getD_eq_getD_getElem?, hL, his]
        · rw [getD_set_ne false (fun h => e h.symm)]
          simp [e, D]
      refine ih (L.setIfInBounds i true) (p.set i g) a' w' (by simp [hL]) ?_ ?_ ?_ ?_ ?_
      · intro j hj
        rw [hDset] at hj
        simp only [Bool.or_eq_false_iff, decide_eq_false_iff_not] at hj
        simp only [PNu.set, hj.2, if_false]
        exact hp j hj.1
      · intro j hj
        rw [hDset] at hj
        by_cases e : j = i
        · exact ⟨g, by simp [PNu.set, e]⟩
        · obtain ⟨g', hg'⟩ := hps j (by simpa [e] using hj)
          exact ⟨g', by simp [PNu.set, e, hg']⟩
      · intro j oj hj hoj e he hb
        rw [hDset] at hj ⊢
        simp only [Bool.or_eq_true, decide_eq_true_eq] at hj ⊢
        rcases hj with hj | hj
        · exact .inl (hdown j oj hj hoj e he hb)
        · subst hj
          rw [ho] at hoj
          injection hoj with hoj
          subst hoj
          exact .inl (hpre e he hb)
      · intro ν hν
        refine (hg ν hν).congr fun k => ?_
        have hfun : D (L.setIfInBounds i true) = fun j => D L j || decide (j = i) := funext hDset
        rw [hfun]
        refine can_add hDi k _ his ?_
        intro j hij hj hDj hki hkj
        obtain ⟨oj, hoj⟩ : ∃ oj, ops[j]? = some oj := ⟨ops[j], by simp [hj]⟩
        obtain ⟨R', W', hrw', hW', _, _⟩ := hus j oj (hget j oj hoj)
        rw [hW ν] at hki
        rw [hW' ν] at hkj
        have := hord j hj (by omega) (.inr ⟨R', W', hrw', fun hd => disj_spec hd.2.1 hki hkj, hij⟩)
        rw [hDj] at this
        simp at this
        omega
      · have hsub : ((List.range ops.size).filter fun j => !D (L.setIfInBounds i true) j) = ((List.range ops.size).filter fun j => !D L j).filter fun j => !decide (j = i) := by
          rw [List.filter_filter]
          refine List.filter_congr fun j _ => ?_
          rw [hDset]
          cases D L j <;> simp
        rw [hsub]
        have hmem : i ∈ (List.range ops.size).filter fun j => !D L j := by simp [his, hDi]
        have : (((List.range ops.size).filter fun j => !D L j).filter fun j => !decide (j = i)).length < ((List.range ops.size).filter fun j => !D L j).length := by
          refine List.length_filter_lt_length_iff_exists.2 ⟨i, hmem, by simp⟩
        omega
  have hno : ∀ j, ¬ D (Array.replicate ops.size false) j = true := fun j hj => by
    have : (Array.replicate ops.size false).getD j false = true := hj
    by_cases hjs : j < ops.size <;> simp [Array.getD_eq_getD_getElem?, hjs] at this
  refine main fuel _ (fun _ => none) a w (by simp) (fun _ _ => rfl) (fun j hj => absurd hj (hno j)) ?_ ?_ ?_
  · intro j o hj
    have : (Array.replicate ops.size false).getD j false = true := hj
    by_cases hjs : j < ops.size <;> simp [Array.getD_eq_getD_getElem?, hjs] at this
  · intro ν _
    refine hr.congr fun k => ?_
    have key : ∀ m, can us (D (Array.replicate ops.size false)) S0 ν m = S0 := by
      intro m
      induction m with
      | zero => rfl
      | succ m ih =>
        have : D (Array.replicate ops.size false) m = false := by
          show (Array.replicate ops.size false).getD m false = false
          by_cases hjs : m < ops.size <;> simp [Array.getD_eq_getD_getElem?, hjs]
        rw [can, this]; simpa using ih
    rw [key]
  · refine Nat.le_trans (List.length_filter_le _ _) ?_
    simpa using hfuel
end
theorem k_regT {P : Program} {N R : K} {xs : List (Nat × K)} {a : Act} {w : World} {B n id : Nat} {w0 : World} {ops : Array Oper} {draw : Bool} {S0 : St} {Se : Nu → St} {rw : List (List Nat × List Nat)} (hm : P.follows .mixedOrders = true)
    (hr : Rep B w0 n S0 a w) (hc : Chain P ops B w0 n 0 ops.toList (fun _ => S0) rw Se)
    (hi : (draw && (indepU ops.toList rw 0 [] [] && forward ops.toList 0)) = true)
    (hQ : ∀ ν a w, Rep B w0 n (Se ν) a w → N a w) : (Code.region id ops draw).wp P (mkQ N xs R) a w := by
  cases draw with
  | false => cases hi
  | true =>
    simp only [Bool.true_and, Bool.and_eq_true] at hi
    refine wp_region_any hm ?_
    have hr' : Rep B w0 n S0 a { w with drawn := w.drawn + 1 } := hr.world ⟨rfl, rfl, rfl, Nat.le_refl _, fun _ _ => rfl⟩
    exact Chain.anyorderT hc hi.1 hi.2 hr' (fun ν a w h => hQ ν a w h) _ (Nat.le_refl _)
end Go.Sx
set_option linter.unusedVariables false
namespace Go.Sx
open Go Go.RowKit
abbrev vI (n : Int) : Value := .int .i64 n
abbrev vP (b o : Nat) : Value := .pointer (some ⟨b, o, none⟩)
abbrev sI (n : Int) : KV := .slot true (.int .i64 n)
abbrev sB (b : Bool) : KV := .slot true (.bool b)
abbrev sP (b o : Nat) : KV := .slot true (.pointer (some ⟨b, o, none⟩))
abbrev sS (p : Option Addr) (n c : Nat) : KV := .slot true (.slice p n c)
abbrev rdl {T : Type} (fr : Nat → Prop) (sz : Nat) (p : Option Addr) (c : Nat) (l : List T) (en : T → List Value) : KV := rdF fr sz p l.length c (l.flatMap en)
theorem Rep.toM {B n : Nat} {w0 : World} {S : St} {a : Act} {w : World} (h : Rep B w0 n S a w) (l : List (Nat × KV)) (hl : l.map (fun p => S p.1) = l.map (fun p => p.2) := by kernel_rfl) : Rep B w0 n (ofL l) a w := h.toL l hl
def kpS : List Nat → St → St
  | [], _ => fun _ => .none
  | k :: r, S => fun i => bif Nat.beq i k then S i else kpS r S i
theorem kpS_or (S : St) (k : Nat) : ∀ l : List Nat, kpS l S k = .none ∨ kpS l S k = S k
  | [] => .inl rfl
  | j :: r => by
    show (bif Nat.beq k j then S k else kpS r S k) = .none ∨ (bif Nat.beq k j then S k else kpS r S k) = S k
    cases Nat.beq k j with
    | true => exact .inr rfl
    | false => exact kpS_or S k r
theorem Rep.kp {B n : Nat} {w0 : World} {S : St} {a : Act} {w : World} (h : Rep B w0 n S a w) (l : List Nat) : Rep B w0 n (kpS l S) a w := h.weak fun k => kpS_or S k l
section
variable {P : Program} {ops : Array Oper} {B : Nat} {w0 : World} {n : Nat}
theorem Chain.v {i : Nat} {o : Oper} {rest : List Oper} {S Se : Nu → St} {rw : List (List Nat × List Nat)} (d : Nat) (v : Value) (t : Chain P ops B w0 n (i + 1) rest (fun ν => updAll (S ν) [(d, .slot true v)]) rw Se)
    (hd : o.dst = some d := by rfl) (hdn : Nat.blt d n = true := by rfl) (hsel : noSel o = true := by rfl) (hg : o.guard = none := by rfl)
    (hk : ∀ ν, (o.op.operands.all (knownB (S ν))) = true := by intro _; kernel_rfl) (hp : ∀ ν, (condsOf o (S ν)).all id = true := by intro _; kernel_rfl)
    (hv : ∀ ν w, (execOp (envU (S ν)) o).run P w = .ok (.value v) w := by intro _ _; kernel_rfl) (hT : tokOK i (tmpsOf ops o) = true := by kernel_rfl) : Chain P ops B w0 n i (o :: rest) S ((tmpsOf ops o, [d]) :: rw) Se :=
  .cons [d] (ok_val (fun _ => v) d hd hdn hsel hg hk hp hv) t (fun _ => rfl) hT
end
theorem k_rg {P : Program} {N R : K} {xs : List (Nat × K)} {a : Act} {w : World} {B n id : Nat} {w0 : World} {ops : Array Oper} {draw : Bool} {S0 : St} {Se : Nu → St} {rw : List (List Nat × List Nat)} (hm : P.follows .mixedOrders = true)
    (hr : Rep B w0 n S0 a w) (hc : Chain P ops B w0 n 0 ops.toList (fun _ => S0) rw Se) (hQ : ∀ ν a w, Rep B w0 n (Se ν) a w → N a w)
    (hi : (!draw || (indep ops.toList rw [] && forward ops.toList 0)) = true := by kernel_rfl) : (Code.region id ops draw).wp P (mkQ N xs R) a w := k_reg hm hr hc hi hQ
end Go.Sx
set_option linter.unusedVariables false
set_option linter.unusedSimpArgs false
namespace Go.Sx
open Go Go.RowKit
theorem RowAt.len {T : Type} {w : World} {sz n : Nat} {p : Option Addr} {en : T → List Value} {l : List T} (R : RowAt w sz p n (l.flatMap en)) (hen : ∀ x, (en x).length = sz) (hs : 0 < sz) : n = l.length := by
  have := R.1
  rw [flat_len hen] at this
  exact (Nat.eq_of_mul_eq_mul_right hs this).symm
theorem owns_len {T : Type} {w : World} {base e sz n cap : Nat} {p : Option Addr} {en : T → List Value} {l : List T} (R : w.ownsRow base e sz (.slice p n cap) n (l.flatMap en)) (hen : ∀ x, (en x).length = sz) (hs : 0 < sz) : n = l.length := (owns_row R).len hen hs
theorem rdA {w : World} {sz n cap : Nat} {p : Option Addr} {xs : List Value} (R : RowC w sz p n cap xs) (hs : 0 < sz := by decide) : (rdF anyF sz p n cap xs).holds w := (rdF_fact R (fun _ _ => trivial) hs 0).2.1
theorem dnA {G : Type} {w : World} {E : Part G} {L : List G} (R : RdL E w L) : (dnK anyF E L).holds w := dn_holds R fun _ _ => trivial
theorem ix_row {T X : Type} {P : Program} {w : World} {t : TypeId} {p : Option Addr} {n cap : Nat} {k : IntKind} {i : Int} {sz : Nat} {en : T → List Value} {l : List T} {x : List X} {s : Sem Next} (R : RowAt w sz p n (l.flatMap en)) (hen : ∀ x, (en x).length = sz) (hl : x.length = l.length) (h : 0 ≤ i ∧ i < (x.length : Int))
    (hs : s = Sem.bind (Instr.indexAt t (.slice p n cap) (.int k i)) fun v => Sem.pure (Next.value v)) (hu : P.underlying t = some (.slice (P.elem t)) := by kernel_rfl) (he : (P.info? (P.elem t)).map (·.size) = some sz := by kernel_rfl) (hz : 0 < sz := by decide) :
    s.run P w = .ok (.value (.pointer (some ⟨hdB p, hdO p + i.toNat * sz, none⟩))) w := by
  have hn := R.len hen hz
  subst hs
  exact run_ix hu he R ⟨h.1, by omega⟩
theorem el_cellsN {T : Type} {w : World} {en : T → List Value} {sz n : Nat} {p : Option Addr} {l : List T} (R : RowAt w sz p n (l.flatMap en)) (hen : ∀ x, (en x).length = sz) {i : Nat} {x : T} (hx : l[i]? = some x) (f m : Nat) {vs : List Value} (hvs : ((en x).drop f).take m = vs) (hz : 0 < sz := by decide) :
    ∀ j u, vs[j]? = some u → w.cell? ⟨hdB p, hdO p + i * sz + f + j, none⟩ = some u := by
  have hn := R.len hen hz
  subst hn
  exact el_cells R hen hx f m hvs
theorem ld_row {T : Type} {P : Program} {w : World} {en : T → List Value} {sz n : Nat} {p : Option Addr} {l : List T} {s : Sem Next} {i : Nat} {x : T} {v : Value} (R : RowAt w sz p n (l.flatMap en)) (hen : ∀ x, (en x).length = sz) (hx : l[i]? = some x) (f m : Nat) (vs : List Value) (hvs : ((en x).drop f).take m = vs)
    (hp : peek P s vs [] = some (.value v, addrs (hdB p) (hdO p + i * sz + f) m)) (hz : 0 < sz := by decide) : s.run P w = .ok (.value v) w :=
  ld_of hp (el_cellsN R hen hx f m hvs hz)
theorem el_storeN {T : Type} {P : Program} {w : World} {e : TypeId} {sz n : Nat} {en : T → List Value} {l : List T} {p : Option Addr} {cap : Nat} {s : Sem Next} {i : Nat} {x y : T} {vs : List Value} (hown : w.ownsRow 0 e sz (.slice p n cap) n (l.flatMap en)) (hen : ∀ x, (en x).length = sz)
    (hx : l[i]? = some x) (f : Nat) (h0 : 0 < vs.length) (hf : f + vs.length ≤ sz) (he : en y = lay (en x) f vs)
    (hp : poke P s [] = some (.skip, (addrs (hdB p) (hdO p + (i * sz + f)) vs.length).zip vs)) (hz : 0 < sz := by decide) :
    ∃ w', s.run P w = .ok .skip w' ∧ w'.ownsRow 0 e sz (.slice p n cap) n ((l.set i y).flatMap en) ∧ But (fpOwn p) w w' := by
  have hn := owns_len hown hen hz
  subst hn
  exact el_store hown hen hx f h0 hf he hp
theorem run_app_rowN {T : Type} {P : Program} {w : World} {t ty e eb : TypeId} {sz bytes b n : Nat} {zc cs : List Value} {en : T → List Value} {l : List T} {p : Option Addr} {cap : Nat} {s : Sem Next} (hen : ∀ x, (en x).length = sz) (I : Inf P e sz bytes zc)
    (hown : w.ownsRow 0 e sz (.slice p n cap) n (l.flatMap en)) (hblk : (KV.blk b cs eb).holds w) {news : List T} (hcs : cs = news.flatMap en) (hm : 0 < news.length ∧ news.length < 1000)
    (hs : s = Sem.bind (Builtin.append_ #[t, t] ty #[.slice p n cap, .slice (some ⟨b, 0, none⟩) news.length news.length]) fun v => Sem.pure (Next.value v)) (hl : l.length < 1000000)
    (ht : P.underlying t = some (.slice e) := by kernel_rfl) (h1 : cs.all (·.oneCell') = true := by kernel_rfl) (hsz : 0 < sz := by decide) (hby : bytes ≤ 100000 := by decide) (hz : zc.length = sz := by rfl) :
    ∃ p' cap' w', s.run P w = .ok (.value (.slice p' (l ++ news).length cap')) w' ∧ w'.ownsRow 0 e sz (.slice p' (l ++ news).length cap') (l ++ news).length ((l ++ news).flatMap en) ∧ But (fpOwn p) w w' ∧ ∀ j, fpOwn p' j → w.heap.size ≤ j ∨ fpOwn p j := by
  have hn := owns_len hown hen hsz
  subst hn
  exact run_app_row hen I hown hblk hcs hm hs hl ht h1 hsz hby hz
theorem run_app_rowsN {T : Type} {P : Program} {w : World} {t ty e : TypeId} {sz bytes n n2 : Nat} {zc : List Value} {en : T → List Value} {l m : List T} {p p2 : Option Addr} {cap cap2 : Nat} {s : Sem Next} (hen : ∀ x, (en x).length = sz) (hone : ∀ x, (en x).all (·.oneCell') = true) (I : Inf P e sz bytes zc)
    (hown : w.ownsRow 0 e sz (.slice p n cap) n (l.flatMap en)) (R : RowAt w sz p2 n2 (m.flatMap en)) (hm : m.length < 1000000 ∧ l.length < 1000000)
    (hs : s = Sem.bind (Builtin.append_ #[t, t] ty #[.slice p n cap, .slice p2 n2 cap2]) fun v => Sem.pure (Next.value v))
    (ht : P.underlying t = some (.slice e) := by kernel_rfl) (hsz : 0 < sz := by decide) (hby : bytes ≤ 100000 := by decide) (hz : zc.length = sz := by rfl) :
    ∃ p' cap' w', s.run P w = .ok (.value (.slice p' (l ++ m).length cap')) w' ∧ w'.ownsRow 0 e sz (.slice p' (l ++ m).length cap') (l ++ m).length ((l ++ m).flatMap en) ∧ But (fpOwn p) w w' ∧ ∀ j, fpOwn p' j → w.heap.size ≤ j ∨ fpOwn p j := by
  have hn := owns_len hown hen hsz
  have hn2 := R.len hen hsz
  subst hn hn2
  exact run_app_rows hen hone I hown R hm hs ht hsz hby hz
theorem run_lenN {P : Program} {w : World} {s : Sem Next} {n m : Nat} (h : n = m) (hr : s.run P w = .ok (.value (.int .i64 (n : Int))) w) : s.run P w = .ok (.value (.int .i64 (m : Int))) w := h ▸ hr
theorem inb_ow {w : World} {e sz n cap : Nat} {p : Option Addr} {xs : List Value} (h : w.ownsRow 0 e sz (.slice p n cap) n xs) : ∀ i, fpOwn p i → i < w.heap.size := fun i hi => (owns_lt h i hi).2
theorem tv_app {P : Program} {w : World} {e sz m cap n : Nat} {p : Option Addr} {xs ys : List Value} {s : Sem Next} (h : ∃ p' cap' w', s.run P w = .ok (.value (.slice p' n cap')) w' ∧ w'.ownsRow 0 e sz (.slice p' n cap') n ys ∧ But (fpOwn p) w w' ∧ ∀ j, fpOwn p' j → w.heap.size ≤ j ∨ fpOwn p j) :
    ∃ (g : Gh) (w' : World), s.run P w = .ok (.value (.slice (g.o 0) n (g.n 0))) w' ∧ But (owK e sz p m cap xs).fp w w' ∧ (owK e sz (g.o 0) n (g.n 0) ys).holds w' ∧ (∀ i, (owK e sz (g.o 0) n (g.n 0) ys).fp i → i < w'.heap.size) ∧ ∀ i, (owK e sz (g.o 0) n (g.n 0) ys).fp i → w.heap.size ≤ i ∨ (owK e sz p m cap xs).fp i := by
  obtain ⟨p', cap', w', h1, h2, h3, h4⟩ := h
  exact ⟨Gh.of (fun _ => cap') fun _ => p', w', h1, h3, fun w2 ha => owns_agree h2 ha, inb_ow h2, h4⟩
theorem tv_set {P : Program} {w : World} {e sz n cap : Nat} {p : Option Addr} {xs ys : List Value} {s : Sem Next} (h : ∃ w', s.run P w = .ok .skip w' ∧ w'.ownsRow 0 e sz (.slice p n cap) n ys ∧ But (fpOwn p) w w') :
    ∃ (g : Gh) (w' : World), s.run P w = .ok .skip w' ∧ But (owK e sz p n cap xs).fp w w' ∧ (owK e sz p n cap ys).holds w' ∧ (∀ i, (owK e sz p n cap ys).fp i → i < w'.heap.size) ∧ ∀ i, (owK e sz p n cap ys).fp i → w.heap.size ≤ i ∨ (owK e sz p n cap xs).fp i := by
  obtain ⟨w', h1, h2, h3⟩ := h
  exact ⟨default, w', h1, h3, fun w2 ha => owns_agree h2 ha, inb_ow h2, fun i hi => .inr hi⟩
theorem tv_appF {P : Program} {w : World} {e sz m cap n : Nat} {p : Option Addr} {xs ys : List Value} {s : Sem Next} {F : KV} {C : Nat → Prop} (h : ∃ p' cap' w', s.run P w = .ok (.value (.slice p' n cap')) w' ∧ w'.ownsRow 0 e sz (.slice p' n cap') n ys ∧ But (fpOwn p) w w' ∧ ∀ j, fpOwn p' j → w.heap.size ≤ j ∨ fpOwn p j) (hF : F.holds w ∧ ∀ i, F.fp i → C i ∧ i < w.heap.size) :
    ∃ (g : Gh) (w' : World), s.run P w = .ok (.value (.slice (g.o 0) n (g.n 0))) w' ∧ But (owK e sz p m cap xs).fp w w' ∧ (owK e sz (g.o 0) n (g.n 0) ys).holds w' ∧ (∀ i, (owK e sz (g.o 0) n (g.n 0) ys).fp i → i < w'.heap.size) ∧ (∀ i, (owK e sz (g.o 0) n (g.n 0) ys).fp i → w.heap.size ≤ i ∨ (owK e sz p m cap xs).fp i) ∧ F.holds w ∧ ∀ i, F.fp i → C i ∧ i < w.heap.size := by
  obtain ⟨g, w', h1, h2, h3, h4, h5⟩ := tv_app (m := m) (cap := cap) (xs := xs) h
  exact ⟨g, w', h1, h2, h3, h4, h5, hF⟩
theorem dn_app {G : Type} {w : World} {fr : Nat → Prop} {E : Part G} {L : List G} {y : G} {Ks : List KV} (hD : (dnK fr E L).holds w) (hm : dnK fr E L ∈ Ks) (hy : E.rd w y) (hf : ∀ i, E.fp y i → factFp Ks i ∧ fr i) : (dnK fr E (L ++ [y])).holds w ∧ ∀ i, (dnK fr E (L ++ [y])).fp i → factFp Ks i ∧ i < w.heap.size := by
  have hr := rdl_app (dn_of hD) hy
  exact ⟨dn_holds hr fun j hj => (fpl_app hj).elim (dn_fr hD j) fun h => (hf j h).2, fun i hi => ⟨(fpl_app hi).elim (fun h => ⟨_, hm, fun h => h, h⟩) fun h => (hf i h).1, hr.inb i hi⟩⟩
theorem ff_of {Ks : List KV} {K : KV} {i : Nat} {fr : Nat → Prop} (hm : K ∈ Ks) (hx : ¬ K.excl) (hi : K.fp i) (hf : fr i) : factFp Ks i ∧ fr i := ⟨⟨K, hm, hx, hi⟩, hf⟩
section
variable {T : Type} {P : Program} {w : World} {e e2 sz m cap : Nat} {en : T → List Value} {p : Option Addr} {H L : List (Sl T)} {s : Sem Next}
theorem tn_take {i n2 : Nat} {q : Option Addr} {c : Nat} {l : List T} (N : (nsK e e2 sz en p m cap L L).holds w) (ho : (owK e2 sz q n2 c (l.flatMap en)).holds w) (hd : ∀ b, (owK e2 sz q n2 c (l.flatMap en)).fp b → ¬ (nsK e e2 sz en p m cap L L).fp b ∧ b < w.heap.size) (hen : ∀ x, (en x).length = sz) (hz : 0 < sz)
    (h : n2 = l.length → w.ownsRow 0 e 1 (.slice p m cap) m (L.flatMap enSl) → ∃ w', s.run P w = .ok .skip w' ∧ w'.ownsRow 0 e 1 (.slice p m cap) m ((L.set i ⟨q, c, l⟩).flatMap enSl) ∧ But (fpOwn p) w w') :
    ∃ (g : Gh) (w' : World), s.run P w = .ok .skip w' ∧ But (nsK e e2 sz en p m cap L L).fp w w' ∧ (nsK e e2 sz en p m cap (L.set i ⟨q, c, l⟩) (L.set i ⟨q, c, l⟩)).holds w' ∧ (∀ b, (nsK e e2 sz en p m cap (L.set i ⟨q, c, l⟩) (L.set i ⟨q, c, l⟩)).fp b → b < w'.heap.size) ∧ ∀ b, (nsK e e2 sz en p m cap (L.set i ⟨q, c, l⟩) (L.set i ⟨q, c, l⟩)).fp b → w.heap.size ≤ b ∨ (nsK e e2 sz en p m cap L L).fp b ∨ (owK e2 sz q n2 c (l.flatMap en)).fp b := by
  have hN := ns_of N
  have hw := ow_of ho
  have hn := owns_len hw hen hz
  subst hn
  obtain ⟨w', h1, h2, h3⟩ := h rfl hN.hd
  have hN1 := hN.head h2 h3 fun b hb => .inr hb
  have hN2 := hN1.takeSet (owns_but hw h3 fun b h1 h2 => (hd b h1).1 (.inl h2)) (fun b hb => (hd b hb).1) i
  exact ⟨default, w', h1, h3.mono fun b hb => .inl hb, hN2.holds, hN2.lt, fun b hb => .inr (fpNs_set hb)⟩
theorem tn_push {n2 : Nat} {q : Option Addr} {c : Nat} {l : List T} (N : (nsK e e2 sz en p m cap L L).holds w) (ho : (owK e2 sz q n2 c (l.flatMap en)).holds w) (hd : ∀ b, (owK e2 sz q n2 c (l.flatMap en)).fp b → ¬ (nsK e e2 sz en p m cap L L).fp b ∧ b < w.heap.size) (hen : ∀ x, (en x).length = sz) (hz : 0 < sz)
    (h : n2 = l.length → w.ownsRow 0 e 1 (.slice p m cap) m (L.flatMap enSl) → ∃ p' cap' w', s.run P w = .ok (.value (.slice p' (L ++ [(⟨q, c, l⟩ : Sl T)]).length cap')) w' ∧ w'.ownsRow 0 e 1 (.slice p' (L ++ [(⟨q, c, l⟩ : Sl T)]).length cap') (L ++ [(⟨q, c, l⟩ : Sl T)]).length ((L ++ [(⟨q, c, l⟩ : Sl T)]).flatMap enSl) ∧ But (fpOwn p) w w' ∧ ∀ j, fpOwn p' j → w.heap.size ≤ j ∨ fpOwn p j) :
    ∃ (g : Gh) (w' : World), s.run P w = .ok (.value (.slice (g.o 0) (L ++ [(⟨q, c, l⟩ : Sl T)]).length (g.n 0))) w' ∧ But (nsK e e2 sz en p m cap L L).fp w w' ∧ (nsK e e2 sz en (g.o 0) (L ++ [(⟨q, c, l⟩ : Sl T)]).length (g.n 0) (L ++ [⟨q, c, l⟩]) (L ++ [⟨q, c, l⟩])).holds w' ∧ (∀ b, (nsK e e2 sz en (g.o 0) (L ++ [(⟨q, c, l⟩ : Sl T)]).length (g.n 0) (L ++ [⟨q, c, l⟩]) (L ++ [⟨q, c, l⟩])).fp b → b < w'.heap.size) ∧
      ∀ b, (nsK e e2 sz en (g.o 0) (L ++ [(⟨q, c, l⟩ : Sl T)]).length (g.n 0) (L ++ [⟨q, c, l⟩]) (L ++ [⟨q, c, l⟩])).fp b → w.heap.size ≤ b ∨ (nsK e e2 sz en p m cap L L).fp b ∨ (owK e2 sz q n2 c (l.flatMap en)).fp b := by
  have hN := ns_of N
  have hw := ow_of ho
  have hn := owns_len hw hen hz
  subst hn
  obtain ⟨p', cap', w', h1, h2, h3, h4⟩ := h rfl hN.hd
  have hN1 := hN.head h2 h3 h4
  have hnew : ∀ b, fpOwn q b → ¬ fpNs p' L b := fun b hb hb' => by
    rcases fpNs_head (w := w) h4 hb' with h5 | h5
    · have := (hd b hb).2; omega
    · exact (hd b hb).1 h5
  have hN2 := hN1.takeApp (owns_but hw h3 fun b h1 h2 => (hd b h1).1 (.inl h2)) hnew
  refine ⟨Gh.of (fun _ => cap') fun _ => p', w', h1, h3.mono fun b hb => .inl hb, hN2.holds, hN2.lt, fun b hb => ?_⟩
  rcases fpNs_app hb with h5 | h5
  · exact (fpNs_head (w := w) h4 h5).imp id .inl
  · exact .inr (.inr h5)
end
theorem Rep.nest0 {T : Type} {B n : Nat} {w0 : World} {S : St} {a : Act} {w : World} {e m cap : Nat} {p : Option Addr} {H : List (Sl T)} (h : Rep B w0 n S a w) (k e2 sz : Nat) (en : T → List Value) (hk : S k = owK e 1 p m cap (H.flatMap enSl)) (h0 : ∀ x ∈ H, x = (⟨none, 0, []⟩ : Sl T)) : Rep B w0 n (upd S k (nsK e e2 sz en p m cap H H)) a w :=
  h.conv k (nsK e e2 sz en p m cap H H) hk trivial (by intro c x h; cases h) (fun w hw => (nest_new (ow_of hw) h0).holds) (fun i hi => nest_fp0 h0 hi)
theorem ok_nest0 {T : Type} {P : Program} {ops : Array Oper} {B : Nat} {w0 : World} {n i : Nat} {o : Oper} {Spre : Nu → St} {R : List Nat} {d k : Nat} {X : Nu → KV} {p : Nu → Option Addr} {cap : Nu → Nat} {e m : Nat} {H : List (Sl T)} (e2 sz : Nat) (en : T → List Value)
    (h : OpOK P ops B w0 n i o Spre R (fun ν => [(d, X ν), (k, owK e 1 (p ν) m (cap ν) (H.flatMap enSl))])) (h0 : ∀ x ∈ H, x = (⟨none, 0, []⟩ : Sl T)) : OpOK P ops B w0 n i o Spre R (fun ν => [(d, X ν), (k, nsK e e2 sz en (p ν) m (cap ν) H H)]) :=
  ok_mono h fun ν S a w hr => by
    have h1 : Rep B w0 n (upd (upd S d (X ν)) k (owK e 1 (p ν) m (cap ν) (H.flatMap enSl))) a w := hr
    have h2 := h1.nest0 k e2 sz en (upd_same _ _ _) h0
    refine h2.congr fun j => ?_
    show upd (upd S d (X ν)) k _ j = upd (upd (upd S d (X ν)) k _) k _ j
    by_cases ej : j = k
    · subst ej; rw [upd_same, upd_same]
    · rw [upd_ne _ _ ej, upd_ne _ _ ej, upd_ne _ _ ej]
end Go.Sx
namespace Go.Sx
open Go Go.RowKit
theorem Rep.nestOpen {T : Type} {B n : Nat} {w0 : World} {S : St} {a : Act} {w : World} {e m cap : Nat} {p : Option Addr} {H : List (Sl T)} (h : Rep B w0 n S a w) (k e2 sz : Nat) (en : T → List Value) (hk : S k = owK e 1 p m cap (H.flatMap enSl)) : Rep B w0 n (upd S k (nsK e e2 sz en p m cap H [])) a w :=
  h.conv k (nsK e e2 sz en p m cap H []) hk trivial (by intro c x h; cases h) (fun w hw => NestAt.holds ⟨ow_of hw, fun i x h => by simp at h, fun i j x y _ h => by simp at h, fun i x h => by simp at h⟩) (fun i hi => by
    rcases hi with hi | ⟨j, x, h, _⟩
    · exact hi
    · simp at h)
end Go.Sx
namespace Go.Sx
open Go Go.RowKit
theorem k_doneZ {P : Program} {B n : Nat} {w0 : World} {S : St} {a : Act} {w : World} (hr : Rep B w0 n S a w) {fn : Func} (v : Gh → Value) (g : Gh) (Ms Fs : List KV) (Es : Gh → List Fam) (fr : Nat → Prop) (ks : List Nat) (segs : List (Nat × Seg)) (v0 : Value) (Es0 : List Fam)
    (hv : v g = v0) (hEs : Es g = Es0) (hfr : fr = frI w0.heap.size Fs) (hcase : (B = w0.heap.size ∧ Ms = []) ∨ S KFr = frM Ms w0) (hE : ∀ K ∈ Es0, Fam.OK K)
    (hs : ∀ p ∈ segs, (∃ e, S p.1 = .blk p.2.b p.2.cs e) ∧ Nat.ble (p.2.off + p.2.m) p.2.cs.length = true)
    (hks : ks.map S = Es0.map (fun K => K fr) := by kernel_rfl) (hnd : (nodupB ks && !(ks.contains KFr)) = true := by rfl)
    (hk : (fn.results.toList).all (fun x => isSlot (S (resT x))) = true := by kernel_rfl)
    (hp : peek P (resultsE fn (fun t => envS S (.tmp t))) (segV (segs.map (·.2))) [] = some (v0, segA (segs.map (·.2))) := by kernel_rfl) :
    bodyPost P fn (fun e w' => ∃ g : Gh, e = .returned (v g) ∧ But (fpK Ms) w0 w' ∧ OutOK w0.heap.size (fpK Ms) (frI w0.heap.size Fs) (Es g) w') .ret a w := by
  subst hv hEs
  exact k_doneY hr v g Ms Fs Es fr ks segs hfr hcase hks hnd hE hk hs hp
theorem Rep.dup {B n : Nat} {w0 : World} {S : St} {a : Act} {w : World} (h : Rep B w0 n S a w) (k k2 : Nat) {K : KV} (hk : S k = K) (hx : ¬ K.excl) (hs : ∀ c x, K ≠ .slot c x) : Rep B w0 n (upd S k2 K) a w :=
  h.addF k2 K [k] [K] (by rw [List.map_singleton, hk]) hx hs (fun hF => hF.1) fun hF i hi => ⟨K, by simp, hx, hi⟩
end Go.Sx
namespace Go.Sx
open Go Go.RowKit
end Go.Sx
namespace Go.Sx
open Go Go.RowKit
section
variable {fr : Nat → Prop} {Ks : List KV} {w : World}
theorem sub_rd0 {sz n cap : Nat} {p : Option Addr} {xs : List Value} (R : RowC w sz p n cap xs) (hf : ∀ i, fpRow p n i → ∃ K' ∈ Ks, K'.fp i) (hs : 0 < sz := by decide) : SubF false fr Ks w (rdF anyF sz p n cap xs) :=
  ⟨rdA R hs, fun i hi => by obtain ⟨K, h1, h2⟩ := hf i hi; exact ⟨K, h1, h2, fun h => by cases h⟩⟩
theorem sub_rd1 {sz n cap : Nat} {p : Option Addr} {xs : List Value} (R : RowC w sz p n cap xs) (hf : ∀ i, fpRow p n i → factFp Ks i ∧ fr i) (hs : 0 < sz := by decide) : SubF true fr Ks w (rdF anyF sz p n cap xs) :=
  ⟨rdA R hs, fun i hi => by obtain ⟨⟨K, h1, h2, h3⟩, h4⟩ := hf i hi; exact ⟨K, h1, h3, fun _ => ⟨h2, h4⟩⟩⟩
theorem sub_dn0 {G : Type} {E : Part G} {L : List G} (R : RdL E w L) (hf : ∀ i, fpL E L i → ∃ K' ∈ Ks, K'.fp i) : SubF false fr Ks w (dnK anyF E L) :=
  ⟨dnA R, fun i hi => by obtain ⟨K, h1, h2⟩ := hf i hi; exact ⟨K, h1, h2, fun h => by cases h⟩⟩
theorem sub_k {K : KV} (h : K.holds w) (hm : K ∈ Ks) : SubF false fr Ks w K := ⟨h, fun i hi => ⟨K, hm, hi, fun h => by cases h⟩⟩
end
end Go.Sx
namespace Go.Sx
open Go Go.RowKit
theorem famx_cons {K : Fam} {Es : List Fam} (h : (K anyF).excl) (r : ∀ K ∈ Es, (K anyF).excl) : ∀ K' ∈ K :: Es, (K' anyF).excl := fun K' hK => by
  rcases List.mem_cons.1 hK with rfl | hK
  · exact h
  · exact r K' hK
theorem sl_get {T : Type} {x : List (List T)} {L : List (Sl T)} (h : x = L.map Sl.l) {i : Nat} {t : List T} (ht : x[i]? = some t) : ∃ p c, L[i]? = some ⟨p, c, t⟩ := by
  obtain ⟨⟨p, c, l⟩, hy, rfl⟩ := map_get h ht
  exact ⟨p, c, hy⟩
end Go.Sx
namespace Go.Sx
open Go Go.RowKit
structure PtrOK (p : Option Addr) (n m : Nat) : Prop where
  len : n = m
  ptr : n = 0 ∨ ∃ b off, p = some ⟨b, off, none⟩
theorem Rep.at {B n : Nat} {w0 : World} {S : St} {a : Act} {w : World} (h : Rep B w0 n S a w) (k : Nat) {K : KV} (hk : S k = K) : K.holds w := hk ▸ h.holds k
theorem ptr_of {T : Type} {w : World} {sz n : Nat} {p : Option Addr} {en : T → List Value} {l : List T} (R : RowAt w sz p n (l.flatMap en)) (hen : ∀ x, (en x).length = sz) (hs : 0 < sz := by decide) : PtrOK p n l.length :=
  ⟨R.len hen hs, R.2.imp id fun ⟨b, off, h, _⟩ => ⟨b, off, h⟩⟩
theorem ix_pure {X : Type} {P : Program} {w : World} {t : TypeId} {p : Option Addr} {n cap m : Nat} {k : IntKind} {i : Int} {sz : Nat} {x : List X} {s : Sem Next} (R : PtrOK p n m) (hl : x.length = m) (h : 0 ≤ i ∧ i < (x.length : Int))
    (hs : s = Sem.bind (Instr.indexAt t (.slice p n cap) (.int k i)) fun v => Sem.pure (Next.value v)) (hu : P.underlying t = some (.slice (P.elem t)) := by kernel_rfl) (he : (P.info? (P.elem t)).map (·.size) = some sz := by kernel_rfl) :
    s.run P w = .ok (.value (.pointer (some ⟨hdB p, hdO p + i.toNat * sz, none⟩))) w := by
  have hn := R.len
  subst hs
  rcases R.ptr with h0 | ⟨b, off, rfl⟩
  · omega
  · exact run_indexAddr hu he ⟨h.1, by omega⟩
end Go.Sx
set_option linter.unusedVariables false
set_option linter.unusedSimpArgs false
namespace Go.Sx
open Go Go.RowKit
section
variable {P : Program} {N R : K} {xs : List (Nat × K)} {a : Act} {w : World} {B n id : Nat} {w0 : World} {ops : Array Oper} {draw : Bool} {S0 : St} {Se : Nu → St} {rw : List (List Nat × List Nat)}
end
section
variable {P : Program} {ops : Array Oper} {B : Nat} {w0 : World} {n : Nat} {i : Nat} {o : Oper} {Spre : Nu → St}
end
end Go.Sx
set_option linter.unusedVariables false
set_option linter.unusedSimpArgs false
set_option linter.unusedSectionVars false
namespace Go.Sx
open Go Go.RowKit
def esF {T : Type} (ek : T → Value) (vk : IntKind) : Nat → List (T × Int) → List MapEntry
  | _, [] => []
  | i, e :: r => ⟨ek e.1, .int vk e.2, i⟩ :: esF ek vk (i + 1) r
def mpO {T : Type} (ek : T → Value) (vk : IntKind) (l : List (T × Int)) : Obj := .map (esF ek vk 0 l).toArray l.length
abbrev mpK {T : Type} (b : Nat) (ek : T → Value) (vk : IntKind) (l : List (T × Int)) : KV := obK b (mpO ek vk l)
theorem esF_len {T : Type} (ek : T → Value) (vk : IntKind) : ∀ (l : List (T × Int)) (i : Nat), (esF ek vk i l).length = l.length
  | [], _ => rfl
  | e :: r, i => by rw [esF, List.length_cons, esF_len ek vk r, List.length_cons]
theorem esF_app {T : Type} (ek : T → Value) (vk : IntKind) (x : T) (v : Int) : ∀ (l : List (T × Int)) (i : Nat), esF ek vk i (l ++ [(x, v)]) = esF ek vk i l ++ [⟨ek x, .int vk v, i + l.length⟩]
  | [], i => rfl
  | e :: r, i => by
    show (⟨_, _, _⟩ : MapEntry) :: esF ek vk (i + 1) (r ++ [(x, v)]) = _
    rw [esF_app ek vk x v r (i + 1), List.length_cons, show i + 1 + r.length = i + (r.length + 1) by omega]
    rfl
theorem mpO_push {T : Type} (ek : T → Value) (vk : IntKind) (x : T) (v : Int) (l : List (T × Int)) : Obj.map ((esF ek vk 0 l).toArray.push ⟨ek x, .int vk v, l.length⟩) (l.length + 1) = mpO ek vk (l ++ [(x, v)]) := by
  unfold mpO
  rw [esF_app, Nat.zero_add, List.length_append, List.length_singleton, List.push_toArray]
structure KeyOK {T : Type} [DecidableEq T] (P : Program) (kt : TypeId) (ek : T → Value) : Prop where
  chk : ∀ (w : World) (em : Bool) (x : T), (Instr.checkKey em 10000 kt (ek x)).run P w = .ok () w
  find : ∀ (w : World) (vk : IntKind) (x : T) (l : List (T × Int)), (Instr.findKey kt (ek x) (esF ek vk 0 l)).run P w = .ok ((mfind x 0 l).map fun q => (q.1, .int vk q.2)) w
theorem findAsking_esF {T : Type} [DecidableEq T] {P : Program} {kt : TypeId} {ek : T → Value} (heq : ∀ (w : World) (x y : T), (Op.equal kt (ek x) (ek y)).run P w = .ok (decide (x = y)) w) (w : World) (vk : IntKind) (x : T) :
    ∀ (l : List (T × Int)) (i : Nat), (Instr.findAsking kt (ek x) (esF ek vk i l) i).run P w = .ok ((mfind x i l).map fun q => (q.1, .int vk q.2)) w
  | [], i => by simp [esF, mfind, Instr.findAsking]
  | e :: r, i => by
    rw [esF, mfind, Instr.findAsking]
    by_cases h : x = e.1
    · rw [if_pos h]; simp [heq, h]
    · rw [if_neg h]; simp [heq, h, findAsking_esF heq w vk x r (i + 1)]
theorem findNow_int {T : Type} [DecidableEq T] {kd vk : IntKind} {ek : T → Value} (k : T → Int) (hek : ∀ x, ek x = .int kd (k x)) (hk : ∀ x y, k x = k y ↔ x = y) (x : T) :
    ∀ (l : List (T × Int)) (i : Nat), Instr.findNow (.int kd) (ek x) (esF ek vk i l) i = some ((mfind x i l).map fun q => (q.1, .int vk q.2))
  | [], i => rfl
  | e :: r, i => by
    rw [esF, mfind, Instr.findNow]
    simp only [hek, Instr.sameNow, if_true]
    by_cases h : x = e.1
    · rw [if_pos h]
      have : (k x == k e.1) = true := by simpa using (hk _ _).2 h
      rw [this]; rfl
    · rw [if_neg h]
      have : (k x == k e.1) = false := by simpa using fun q => h ((hk _ _).1 q)
      rw [this]
      have := findNow_int (vk := vk) k hek hk x r (i + 1)
      rw [hek] at this
      exact this
theorem keyOK_int {P : Program} {kt : TypeId} {kd : IntKind} (hk : P.underlying kt = some (.int kd)) : KeyOK P kt (fun x : Int => .int kd x) where
  chk w em x := run_checkKey_int hk
  find w vk x l := by
    unfold Instr.findKey
    have := findNow_int (kd := kd) (vk := vk) (ek := fun x : Int => .int kd x) (fun x => x) (fun _ => rfl) (fun _ _ => Iff.rfl) x l 0
    simp [run_underlying hk, this]
theorem keyOK_agg {T : Type} [DecidableEq T] {P : Program} {kt : TypeId} {ek : T → Value} (hs : (match P.underlying kt with | some (.struct _) => true | _ => false) = true) (hc : ∀ (w : World) (em : Bool) (x : T), (Instr.checkKey em 10000 kt (ek x)).run P w = .ok () w)
    (he : ∀ x y, eqV P 10000 kt (ek x) (ek y) = some (decide (x = y))) : KeyOK P kt ek where
  chk := hc
  find w vk x l := by
    obtain ⟨fs, hu⟩ : ∃ fs, P.underlying kt = some (.struct fs) := by
      split at hs
      · exact ⟨_, by assumption⟩
      · cases hs
    have h1 : (Instr.findKey kt (ek x) (esF ek vk 0 l)).run P w = (Instr.findAsking kt (ek x) (esF ek vk 0 l)).run P w := by
      cases l with
      | nil => simp [esF, Instr.findKey, run_underlying hu, Instr.findNow, Instr.findAsking]
      | cons e r => simp [esF, Instr.findKey, run_underlying hu, Instr.findNow, Instr.sameNow]
    rw [h1]
    exact findAsking_esF (fun w x y => eqV_run 10000 kt _ _ _ (he x y) w) w vk x l 0
section
variable {T : Type} [DecidableEq T] {P : Program} {w : World} {t kt e b : Nat} {ek : T → Value} {vk : IntKind} {l : List (T × Int)} {x : T}
theorem get_ob (hw : w.heap[b]? = some (mpO ek vk l)) : (getObj b : Sem Obj).run P w = .ok (.map (esF ek vk 0 l).toArray l.length) w := by
  have : w.heap[b]? = some (.map (esF ek vk 0 l).toArray l.length) := hw
  simp [getObj, Sem.run, this]
theorem run_mlook (K : KeyOK P kt ek) (hw : w.heap[b]? = some (mpO ek vk l)) (ht : P.underlying t = some (.map kt e)) (hz : (zeroValue e).run P w = .ok (.int vk 0) w) :
    (Instr.lookup t (.map (some b)) (ek x) true).run P w = .ok (.tuple #[.int vk ((mget l x).getD 0), .bool (mget l x).isSome]) w := by
  unfold Instr.lookup mget
  cases h : mfind x 0 l with
  | none => simp [run_underlying ht, get_ob hw, K.chk, K.find, h, hz]
  | some q => simp [run_underlying ht, get_ob hw, K.chk, K.find, h]
theorem run_mlook0 (K : KeyOK P kt ek) (hw : w.heap[b]? = some (mpO ek vk l)) (ht : P.underlying t = some (.map kt e)) (hz : (zeroValue e).run P w = .ok (.int vk 0) w) :
    (Instr.lookup t (.map (some b)) (ek x) false).run P w = .ok (.int vk ((mget l x).getD 0)) w := by
  unfold Instr.lookup mget
  cases h : mfind x 0 l with
  | none => simp [run_underlying ht, get_ob hw, K.chk, K.find, h, hz]
  | some q => simp [run_underlying ht, get_ob hw, K.chk, K.find, h]
theorem run_ment (K : KeyOK P kt ek) (hw : w.heap[b]? = some (mpO ek vk l)) (ht : P.underlying t = some (.map kt e)) (hz : (zeroValue e).run P w = .ok (.int vk 0) w) (ha : (mget l x).isSome = false) :
    (Instr.mapEntry t (.map (some b)) (ek x)).run P w = .ok (.tuple #[.int vk 0, goInt (l.length : Int)]) (w.putObj b (mpO ek vk (l ++ [(x, 0)]))) := by
  have hn : mfind x 0 l = none := by
    unfold mget at ha
    cases h : mfind x 0 l with
    | none => rfl
    | some q => rw [h] at ha; cases ha
  have hset : ∀ o', (setObj b o' : Sem Unit).run P w = .ok () (w.putObj b o') := fun o' => by
    have : w.heap[b]? = some (.map (esF ek vk 0 l).toArray l.length) := hw
    simp [setObj, Sem.run, this, World.putObj]
  unfold Instr.mapEntry
  simp [run_underlying ht, get_ob hw, K.chk, K.find, hn, hz, hset, ← mpO_push]
theorem findIdx_last (l : List (T × Int)) (v : Int) : ((esF ek vk 0 (l ++ [(x, v)])).toArray.findIdx? fun e => (e.born : Int) == (l.length : Int)) = some l.length := by
  have key : ∀ (l : List (T × Int)) (i : Nat), (esF ek vk i (l ++ [(x, v)])).findIdx? (fun e => (e.born : Int) == ((i + l.length : Nat) : Int)) = some l.length := by
    intro l
    induction l with
    | nil => intro i; simp [esF]
    | cons e r ih =>
      intro i
      show ((⟨_, _, _⟩ : MapEntry) :: esF ek vk (i + 1) (r ++ [(x, v)])).findIdx? _ = _
      rw [List.findIdx?_cons]
      have h : ((i : Int) == ((i + (e :: r).length : Nat) : Int)) = false := by
        rw [beq_eq_false_iff_ne]; simp; omega
      simp only [h, Bool.false_eq_true, if_false]
      have := ih (i + 1)
      rw [show i + 1 + r.length = i + (e :: r).length by simp; omega] at this
      rw [this]; rfl
  have := key l 0
  rw [Nat.zero_add] at this
  simpa using this
theorem modify_last (l : List (T × Int)) (v v' : Int) : (esF ek vk 0 (l ++ [(x, v)])).toArray.modify l.length (fun e => { e with val := .int vk v' }) = (esF ek vk 0 (l ++ [(x, v')])).toArray := by
  rw [esF_app, esF_app]
  apply Array.ext'
  have hl := esF_len ek vk l 0
  apply List.ext_getElem?
  intro i
  simp only [Array.toList_modify, List.getElem?_modify]
  by_cases h : i < (esF ek vk 0 l).length
  · rw [List.getElem?_append_left h, List.getElem?_append_left h]; have : l.length ≠ i := by omega
    simp [this]
  · by_cases h2 : i = (esF ek vk 0 l).length
    · subst h2; simp [hl]
    · rw [List.getElem?_eq_none (by simp; omega), List.getElem?_eq_none (by simp; omega)]; simp
theorem run_mest {st v : Int} (hw : w.heap[b]? = some (mpO ek vk (l ++ [(x, 0)]))) (hs : st = (l.length : Int)) :
    (Instr.entryStore t (.map (some b)) (.int .i64 st) (.int vk v)).run P w = .ok () (w.putObj b (mpO ek vk (l ++ [(x, v)]))) := by
  subst hs
  have hset : ∀ o', (setObj b o' : Sem Unit).run P w = .ok () (w.putObj b o') := fun o' => by
    have : w.heap[b]? = some (.map (esF ek vk 0 (l ++ [(x, 0)])).toArray (l ++ [(x, 0)]).length) := hw
    simp [setObj, Sem.run, this, World.putObj]
  unfold Instr.entryStore
  have h1 := findIdx_last (ek := ek) (vk := vk) (x := x) l 0
  have h2 := modify_last (ek := ek) (vk := vk) (x := x) l 0 v
  have hi : (asInt (.int .i64 (l.length : Int)) : Sem Int).run P w = .ok (l.length : Int) w := by simp [asInt, asIntOf]
  simp only [Sem.run_bind, get_ob hw, Result.andThen_ok, hi, h1, h2, hset]
  simp [mpO]
end
theorem tv_ob {P : Program} {w : World} {b : Nat} {o o' : Obj} {s : Sem Next} {r : Next} (hK : (obK b o).holds w) (h : s.run P w = .ok r (w.putObj b o')) :
    ∃ (g : Gh) (w' : World), s.run P w = .ok r w' ∧ But (obK b o).fp w w' ∧ (obK b o').holds w' ∧ (∀ i, (obK b o').fp i → i < w'.heap.size) ∧ ∀ i, (obK b o').fp i → w.heap.size ≤ i ∨ (obK b o).fp i := by
  have hh : w.heap[b]? = some o := ob_of hK
  have hl : b < w.heap.size := (Array.getElem?_eq_some_iff.1 hh).1
  have hsz : (w.putObj b o').heap.size = w.heap.size := by simp [World.putObj]
  have hoth : ∀ i, i ≠ b → (w.putObj b o').heap[i]? = w.heap[i]? := fun i hi => World.putObj_heap_other (fun e => hi (by rw [e]))
  refine ⟨default, w.putObj b o', h, ?_, ?_, ?_, fun i hi => .inr hi⟩
  · exact ⟨rfl, rfl, rfl, by rw [hsz]; exact Nat.le_refl _, fun i _ hi => hoth i hi⟩
  · intro w2 ha
    exact (ha b rfl).trans (World.putObj_heap_same hl)
  · intro i hi
    have e : i = b := hi
    subst e; rw [hsz]; exact hl
section
variable {T : Type} [DecidableEq T] {P : Program} {w : World} {t kt e b : Nat} {ek : T → Value} {vk : IntKind} {l : List (T × Int)} {x : T} {s : Sem Next}
theorem r_mlook (K : KeyOK P kt ek) (hw : w.heap[b]? = some (mpO ek vk l)) (hs : s = Sem.bind (Instr.lookup t (.map (some b)) (ek x) true) (fun v => Sem.pure (Next.value v)) := by kernel_rfl) (ht : P.underlying t = some (.map kt e) := by kernel_rfl) (hz : (zeroValue e).run P w = .ok (.int vk 0) w := by kernel_rfl) :
    s.run P w = .ok (.value (.tuple #[.int vk ((mget l x).getD 0), .bool (mget l x).isSome])) w := by
  subst hs; exact run_next (run_mlook K hw ht hz) rfl
theorem r_mlook0 (K : KeyOK P kt ek) (hw : w.heap[b]? = some (mpO ek vk l)) (hs : s = Sem.bind (Instr.lookup t (.map (some b)) (ek x) false) (fun v => Sem.pure (Next.value v)) := by kernel_rfl) (ht : P.underlying t = some (.map kt e) := by kernel_rfl) (hz : (zeroValue e).run P w = .ok (.int vk 0) w := by kernel_rfl) :
    s.run P w = .ok (.value (.int vk ((mget l x).getD 0))) w := by
  subst hs; exact run_next (run_mlook0 K hw ht hz) rfl
theorem r_ment (K : KeyOK P kt ek) (hw : w.heap[b]? = some (mpO ek vk l)) (ha : (mget l x).isSome = false) (hs : s = Sem.bind (Instr.mapEntry t (.map (some b)) (ek x)) (fun v => Sem.pure (Next.value v)) := by kernel_rfl) (ht : P.underlying t = some (.map kt e) := by kernel_rfl) (hz : (zeroValue e).run P w = .ok (.int vk 0) w := by kernel_rfl) :
    s.run P w = .ok (.value (.tuple #[.int vk 0, .int .i64 (l.length : Int)])) (w.putObj b (mpO ek vk (l ++ [(x, 0)]))) := by
  subst hs
  show (Instr.mapEntry t (.map (some b)) (ek x) >>= fun v => Sem.pure (Next.value v)).run P w = _
  rw [Sem.run_bind, run_ment K hw ht hz ha]; rfl
theorem r_mupd {v : Int} (K : KeyOK P kt ek) (hw : w.heap[b]? = some (mpO ek vk l)) (ha : (mget l x).isSome = false) (hs : s = Sem.bind (Instr.mapUpdate t (.map (some b)) (ek x) (.int vk v)) (fun _ => Sem.pure Next.skip) := by kernel_rfl) (ht : P.underlying t = some (.map kt e) := by kernel_rfl) :
    s.run P w = .ok .skip (w.putObj b (mpO ek vk (l ++ [(x, v)]))) := by
  have hn : mfind x 0 l = none := by
    unfold mget at ha
    cases h : mfind x 0 l with
    | none => rfl
    | some q => rw [h] at ha; cases ha
  have hset : ∀ o', (setObj b o' : Sem Unit).run P w = .ok () (w.putObj b o') := fun o' => by
    have : w.heap[b]? = some (.map (esF ek vk 0 l).toArray l.length) := hw
    simp [setObj, Sem.run, this, World.putObj]
  have h1 : (Instr.mapUpdate t (.map (some b)) (ek x) (.int vk v)).run P w = .ok () (w.putObj b (mpO ek vk (l ++ [(x, v)]))) := by
    unfold Instr.mapUpdate
    simp [run_underlying ht, get_ob hw, K.chk, K.find, hn, hset, ← mpO_push]
  subst hs
  show (Instr.mapUpdate t (.map (some b)) (ek x) (.int vk v) >>= fun _ => Sem.pure Next.skip).run P w = _
  rw [Sem.run_bind, h1]; rfl
theorem r_mest {v : Int} (hw : w.heap[b]? = some (mpO ek vk (l ++ [(x, 0)]))) (hs : s = Sem.bind (Instr.entryStore t (.map (some b)) (.int .i64 (l.length : Int)) (.int vk v)) (fun _ => Sem.pure Next.skip) := by kernel_rfl) :
    s.run P w = .ok .skip (w.putObj b (mpO ek vk (l ++ [(x, v)]))) := by
  subst hs
  show (Instr.entryStore t (.map (some b)) (.int .i64 (l.length : Int)) (.int vk v) >>= fun _ => Sem.pure Next.skip).run P w = _
  rw [Sem.run_bind, run_mest hw rfl]; rfl
end
theorem sub_ob {fr : Nat → Prop} {Ks : List KV} {w : World} {b : Nat} {o : Obj} (h : w.heap[b]? = some o) {K : KV} (hm : K ∈ Ks) (hf : K.fp b) : SubF false fr Ks w (obF b o) :=
  ⟨(obF_fact h 0).2.1, fun i hi => ⟨K, hm, by have e' : i = b := hi; rw [e']; exact hf, fun h => by cases h⟩⟩
theorem elt_str {xs : List ByteArray} {j : Nat} {v : ByteArray} (h : xs[j]? = some v) : (xs.map Value.string)[0 + j * 1]? = some (.string v) := by
  rw [Nat.zero_add, Nat.mul_one, List.getElem?_map, h]; rfl
end Go.Sx
namespace Go.Sx
open Go
def Fits : List (Option IntKind) → List Value → Prop
  | [], [] => True
  | some k :: ks, v :: vs => (∃ n, v = .int k n ∧ k.has n) ∧ Fits ks vs
  | none :: ks, v :: vs => (∃ b, v = .bool b) ∧ Fits ks vs
  | _, _ => False
theorem fits_nil {vs : List Value} (h : Fits [] vs) : vs = [] := by
  cases vs with
  | nil => rfl
  | cons v vs => exact h.elim
theorem fits_int {k : IntKind} {ks : List (Option IntKind)} {vs : List Value} (h : Fits (some k :: ks) vs) : ∃ n vs', vs = .int k n :: vs' ∧ k.has n ∧ Fits ks vs' := by
  cases vs with
  | nil => exact h.elim
  | cons v vs =>
    obtain ⟨⟨n, rfl, hn⟩, hr⟩ := h
    exact ⟨n, vs, rfl, hn, hr⟩
def glue (c : TypeId → Nat) (f : TypeId → DataW (List UInt8) → Option (List Value)) : Nat → List (TypeId × Nat × DataW (List UInt8)) → Option (List Value × Nat)
  | off, [] => some ([], off)
  | off, (t, o, x) :: r => if o = off then (f t x).bind fun vs => (glue c f (off + c t) r).map fun y => (vs ++ y.1, y.2) else none
theorem glue_drop {c : TypeId → Nat} {f : TypeId → DataW (List UInt8) → Option (List Value)} {cs : List Value} : ∀ (ps : List (TypeId × Nat × DataW (List UInt8))) (off : Nat) (vs : List Value) (last : Nat), glue c f off ps = some (vs, last) → cs.length = last →
    (∀ p ∈ ps, ∀ us, f p.1 p.2.2 = some us → (cs.drop p.2.1).take (c p.1) = us) → cs.drop off = vs
  | [], off, vs, last, h, hl, _ => by
    simp only [glue, Option.some.injEq, Prod.mk.injEq] at h
    obtain ⟨rfl, rfl⟩ := h
    simp [hl]
  | (t, o, x) :: r, off, vs, last, h, hl, hp => by
    unfold glue at h
    split at h
    · rename_i ho
      subst ho
      obtain ⟨us, hus, h⟩ := Option.bind_eq_some_iff.1 h
      obtain ⟨y, hy, h⟩ := Option.map_eq_some_iff.1 h
      obtain ⟨y1, y2⟩ := y
      simp only [Prod.mk.injEq] at h
      obtain ⟨rfl, rfl⟩ := h
      have h1 := hp _ (List.mem_cons_self ..) us hus
      have h2 := glue_drop r (o + c t) y1 y2 hy hl fun p hq => hp p (List.mem_cons_of_mem _ hq)
      rw [← List.take_append_drop (c t) (cs.drop o), h1, List.drop_drop, h2]
    · cases h
def tabs (P : Program) : Nat → TypeId → DataW (List UInt8) → Option (List Value)
  | 0, _, _ => none
  | d + 1, t, x =>
    match P.underlying t, x with
    | some (.array n e), .agg ds => if ds.length = n then (glue P.cellsOf (tabs P d) 0 (ds.mapIdx fun i y => (e, i * P.cellsOf e, y))).bind fun y => if y.2 = P.cellsOf t then some y.1 else none else none
    | some (.struct fs), .agg ds => (glue P.cellsOf (tabs P d) 0 (List.zipWith (fun f y => (f.type, f.offset, y)) fs.toList ds)).bind fun y => if y.2 = P.cellsOf t then some y.1 else none
    | some (.func ..), .nil => some [.nilFunc]
    | some (.func ..), .held (b :: r) =>
      match (List.range P.funcs.size).filter fun f => (P.funcs[f]?).any (·.name.toUTF8.data.toList == b :: r) with
      | [f0] => some [.func (.func f0) #[] #[]]
      | _ => none
    | _, _ => none
theorem cells_of_tabs {P : Program} {w : World} {base : Nat} {sp : Nat → Bool} : ∀ (d : Nat) (t : TypeId) (x : DataW (List UInt8)) (vs : List Value), tabs P d t x = some vs → ∀ (fuel : Nat) (cs : List Value) (q : List MemPlace),
    DataW.trod (funcToken P) P w base sp true fuel t cs = some (x, q) → cs = vs
  | 0, _, _, _, h => by cases h
  | d + 1, t, x, vs, h => by
    intro fuel cs q ht
    unfold tabs at h
    split at h
    · rename_i n e ds hu
      split at h
      · rename_i hn
        obtain ⟨⟨y1, y2⟩, hy, h⟩ := Option.bind_eq_some_iff.1 h
        split at h
        · rename_i hc
          obtain rfl := Option.some.inj h
          obtain ⟨xs, m, rfl, hx, hl, hxs, hel⟩ := DataW.trod_array hu ht
          simp only [Prod.mk.injEq, DataW.agg.injEq] at hx
          obtain ⟨rfl, _⟩ := hx
          have := glue_drop (cs := cs) _ 0 y1 y2 hy (hl.trans hc.symm) (fun p hp us hus => by
            obtain ⟨i, hi⟩ := List.mem_iff_getElem?.1 hp
            rw [List.getElem?_mapIdx] at hi
            obtain ⟨z, hz, rfl⟩ := Option.map_eq_some_iff.1 hi
            rw [List.getElem?_map] at hz
            obtain ⟨u, hu', rfl⟩ := Option.map_eq_some_iff.1 hz
            have hi' : i < n := by rw [← hxs]; exact (List.getElem?_eq_some_iff.1 hu').1
            exact cells_of_tabs d e u.1 us hus m _ u.2 ((hel i hi').trans hu'))
          simpa using this
        · cases h
      · cases h
    · rename_i fs ds hu
      obtain ⟨⟨y1, y2⟩, hy, h⟩ := Option.bind_eq_some_iff.1 h
      split at h
      · rename_i hc
        obtain rfl := Option.some.inj h
        obtain ⟨xs, m, rfl, hx, hl, hxs, hel⟩ := DataW.trod_struct hu ht
        simp only [Prod.mk.injEq, DataW.agg.injEq] at hx
        obtain ⟨rfl, _⟩ := hx
        have := glue_drop (cs := cs) _ 0 y1 y2 hy (hl.trans hc.symm) (fun p hp us hus => by
          obtain ⟨i, hi⟩ := List.mem_iff_getElem?.1 hp
          rw [List.getElem?_zipWith] at hi
          cases hf : fs.toList[i]? with
          | none => simp [hf] at hi
          | some f =>
            cases hz : (xs.map (·.1))[i]? with
            | none => simp [hf, hz] at hi
            | some z =>
              simp only [hf, hz, Option.some.injEq] at hi
              subst hi
              rw [List.getElem?_map] at hz
              obtain ⟨u, hu', rfl⟩ := Option.map_eq_some_iff.1 hz
              exact cells_of_tabs d f.type u.1 us hus m _ u.2 ((hel i f (by simpa using hf)).trans hu'))
        simpa using this
      · cases h
    · rename_i a b c hu
      obtain rfl := Option.some.inj h
      cases fuel with
      | zero => simp [DataW.trod] at ht
      | succ n =>
        unfold DataW.trod at ht
        rw [hu] at ht
        split at ht <;> simp_all
    · rename_i a b c x1 x2 hu
      split at h
      · rename_i f0 hf
        obtain rfl := Option.some.inj h
        have : ∃ v, cs = [v] := by
          cases fuel with
          | zero => simp [DataW.trod] at ht
          | succ n =>
            unfold DataW.trod at ht
            rw [hu] at ht
            split at ht <;> simp_all
        obtain ⟨v, rfl⟩ := this
        rw [func_of_trod hu hf ht]
      · cases h
    · cases h
theorem glob_block {P : Program} {laid : List (String × DataW Unit)} {w : World} (h : laidMetH P laid w) {n : String} {d : DataW Unit} (hx : (n, DataW.iface "func table" d) ∈ laid) (g : Nat) (t : TypeId) (fuel : Nat) (vs : List Value)
    (hg : P.globalNamed n = some g) (ht : (P.globals[g]?).map (·.type) = some t) (hv : tabs P fuel t d.funcsOut = some vs) : ∃ e fz, w.heap[g]? = some (.cells vs.toArray e fz) := by
  obtain ⟨g', t', cs, fuel', p, hg', ht', hc, hd⟩ := h.funcs hx
  obtain rfl := Option.some.inj (hg.symm.trans hg')
  obtain rfl := Option.some.inj (ht.symm.trans ht')
  have hcs := cells_of_tabs fuel t _ vs hv fuel' _ p hd
  unfold World.var? at hc
  rw [hg] at hc
  simp only [Option.bind_some] at hc
  split at hc
  · rename_i c e fz he
    obtain rfl := Option.some.inj hc
    refine ⟨e, fz, ?_⟩
    rw [← hcs]
    simpa using he
  · cases hc
end Go.Sx
set_option linter.unusedVariables false
set_option linter.unusedSimpArgs false
namespace Go.Sx
open Go Go.RowKit
inductive Lf where
  | cell (k : Option IntKind)
  | row (ks : List (Option IntKind))
  | rows (ks : List (Option IntKind))
def Lf.ok (w : World) : Lf → Value → Prop
  | .cell (some k), v => ∃ n, v = .int k n ∧ k.has n
  | .cell none, v => ∃ b, v = .bool b
  | .row ks, v => ∃ p cap, ∃ vs : List (List Value), v = .slice p vs.length cap ∧ RowC w ks.length p vs.length cap vs.flatten ∧ ∀ x ∈ vs, Fits ks x
  | .rows ks, v => ∃ p cap, ∃ us : List Value, v = .slice p us.length cap ∧ RowC w 1 p us.length cap us ∧ ∀ u ∈ us, ∃ p cap, ∃ vs : List (List Value), u = .slice p vs.length cap ∧ RowC w ks.length p vs.length cap vs.flatten ∧ ∀ x ∈ vs, Fits ks x
def Oks (w : World) : List Lf → List Value → Prop
  | [], [] => True
  | l :: ls, v :: vs => l.ok w v ∧ Oks w ls vs
  | _, _ => False
theorem oks_append {w : World} : ∀ {a b : List Lf} {x y : List Value}, Oks w a x → Oks w b y → Oks w (a ++ b) (x ++ y)
  | [], _, [], _, _, h => h
  | [], _, _ :: _, _, h, _ => h.elim
  | _ :: _, _, [], _, h, _ => h.elim
  | _ :: _, _, _ :: _, _, ⟨h, h'⟩, k => ⟨h, oks_append h' k⟩
theorem oks_nil {w : World} {vs : List Value} (h : Oks w [] vs) : vs = [] := by
  cases vs with
  | nil => rfl
  | cons v vs => exact h.elim
theorem oks_int {w : World} {k : IntKind} {ls : List Lf} {vs : List Value} (h : Oks w (.cell (some k) :: ls) vs) : ∃ n vs', vs = .int k n :: vs' ∧ k.has n ∧ Oks w ls vs' := by
  cases vs with
  | nil => exact h.elim
  | cons v vs => obtain ⟨⟨n, rfl, hn⟩, hr⟩ := h; exact ⟨n, vs, rfl, hn, hr⟩
theorem oks_row {T : Type} {w : World} {ks : List (Option IntKind)} {ls : List Lf} {vs : List Value} (en : T → List Value) (Pr : T → Prop) (he : ∀ x, Fits ks x → ∃ y : T, x = en y ∧ Pr y) (h : Oks w (.row ks :: ls) vs) :
    ∃ p cap, ∃ l : List T, ∃ vs', vs = .slice p l.length cap :: vs' ∧ RowC w ks.length p l.length cap (l.flatMap en) ∧ (∀ y ∈ l, Pr y) ∧ Oks w ls vs' := by
  cases vs with
  | nil => exact h.elim
  | cons v vs =>
    obtain ⟨⟨p, cap, us, rfl, hR, hu⟩, hr⟩ := h
    have : ∃ l : List T, l.length = us.length ∧ us.flatten = l.flatMap en ∧ ∀ y ∈ l, Pr y := by
      clear hR
      induction us with
      | nil => exact ⟨[], rfl, rfl, by simp⟩
      | cons x us ih =>
        obtain ⟨l, h1, h2, h3⟩ := ih (fun y hy => hu y (List.mem_cons_of_mem _ hy))
        obtain ⟨y, rfl, hy⟩ := he x (hu x (List.mem_cons_self ..))
        exact ⟨y :: l, by simp [h1], by simp [h2], fun z hz => by
          rcases List.mem_cons.1 hz with rfl | hz
          · exact hy
          · exact h3 z hz⟩
    obtain ⟨l, h1, h2, h3⟩ := this
    refine ⟨p, cap, l, vs, by rw [h1], ?_, h3, hr⟩
    rw [h1, ← h2]; exact hR
def lglue (c : TypeId → Nat) (f : TypeId → Option (List Lf)) : Nat → List (TypeId × Nat) → Option (List Lf × Nat)
  | off, [] => some ([], off)
  | off, (t, o) :: r => if o = off then (f t).bind fun ls => (lglue c f (off + c t) r).map fun y => (ls ++ y.1, y.2) else none
theorem lglue_ok {w : World} {c : TypeId → Nat} {f : TypeId → Option (List Lf)} {cs : List Value} : ∀ (ps : List (TypeId × Nat)) (off : Nat) (ls : List Lf) (last : Nat), lglue c f off ps = some (ls, last) → cs.length = last →
    (∀ p ∈ ps, ∀ l, f p.1 = some l → Oks w l ((cs.drop p.2).take (c p.1))) → Oks w ls (cs.drop off)
  | [], off, ls, last, h, hl, _ => by
    unfold lglue at h
    injection h with h
    injection h with h1 h2
    subst h1 h2
    rw [List.drop_eq_nil_of_le (by omega)]
    trivial
  | (t, o) :: r, off, ls, last, h, hl, hp => by
    unfold lglue at h
    split at h
    · rename_i ho
      subst ho
      obtain ⟨us, hus, h⟩ := Option.bind_eq_some_iff.1 h
      obtain ⟨⟨y1, y2⟩, hy, h⟩ := Option.map_eq_some_iff.1 h
      simp only [Prod.mk.injEq] at h
      obtain ⟨rfl, rfl⟩ := h
      have h1 := hp _ (List.mem_cons_self ..) us hus
      have h2 := lglue_ok r (o + c t) y1 y2 hy hl fun p hq => hp p (List.mem_cons_of_mem _ hq)
      rw [← List.take_append_drop (c t) (cs.drop o), List.drop_drop]
      exact oks_append h1 h2
    · cases h
def cellsOnly : List Lf → Option (List (Option IntKind))
  | [] => some []
  | .cell k :: r => (cellsOnly r).map (k :: ·)
  | .row _ :: _ => none
  | .rows _ :: _ => none
theorem oks_length {w : World} : ∀ {ls : List Lf} {vs : List Value}, Oks w ls vs → vs.length = ls.length
  | [], [], _ => rfl
  | [], _ :: _, h => h.elim
  | _ :: _, [], h => h.elim
  | _ :: _, _ :: _, h => by simp [oks_length h.2]
theorem fits_of_oks {w : World} : ∀ {ls : List Lf} {ks : List (Option IntKind)} {vs : List Value}, cellsOnly ls = some ks → Oks w ls vs → Fits ks vs
  | [], _, [], h, _ => by obtain rfl := Option.some.inj h; trivial
  | [], _, _ :: _, _, h => h.elim
  | .cell k :: r, _, [], _, h => by cases k <;> exact h.elim
  | .cell (some k) :: r, ks, v :: vs, h, ho => by
    obtain ⟨ks', h1, rfl⟩ := Option.map_eq_some_iff.1 h
    exact ⟨ho.1, fits_of_oks h1 ho.2⟩
  | .cell none :: r, ks, v :: vs, h, ho => by
    obtain ⟨ks', h1, rfl⟩ := Option.map_eq_some_iff.1 h
    exact ⟨ho.1, fits_of_oks h1 ho.2⟩
  | .row _ :: _, _, _, h, _ => by cases h
  | .rows _ :: _, _, _, h, _ => by cases h
def rowOf (ls : List Lf) : Option (List Lf) :=
  match cellsOnly ls with
  | some ks => some [.row ks]
  | none => match ls with
    | [.row ks] => some [.rows ks]
    | _ => none
theorem rowOf_ok {w : World} {ls r : List Lf} (h : rowOf ls = some r) {p : Option Addr} {cap : Nat} {vs : List (List Value)} (hR : RowC w ls.length p vs.length cap vs.flatten) (hv : ∀ x ∈ vs, Oks w ls x) : Oks w r [.slice p vs.length cap] := by
  unfold rowOf at h
  split at h
  · rename_i ks hk
    obtain rfl := Option.some.inj h
    have hl : ∀ (ls : List Lf) (ks : List (Option IntKind)), cellsOnly ls = some ks → ks.length = ls.length := by
      intro ls
      induction ls with
      | nil => intro ks h; obtain rfl := Option.some.inj h; rfl
      | cons a ls ih =>
        intro ks h
        cases a with
        | cell k => obtain ⟨ks', h1, rfl⟩ := Option.map_eq_some_iff.1 h; simp [ih ks' h1]
        | row k => cases h
        | rows k => cases h
    refine ⟨⟨p, cap, vs, rfl, ?_, fun x hx => fits_of_oks hk (hv x hx)⟩, trivial⟩
    rw [hl _ ks hk]; exact hR
  · split at h
    case h_2 => cases h
    rename_i ks hk
    obtain rfl := Option.some.inj h
    have h1 : ∀ x ∈ vs, ∃ u, x = [u] ∧ (Lf.row ks).ok w u := fun x hx => by
      have := hv x hx
      match x, this with
      | [], h => exact h.elim
      | [u], h => exact ⟨u, rfl, h.1⟩
      | _ :: _ :: _, h => exact h.2.elim
    have h2 : ∃ us : List Value, us.length = vs.length ∧ vs.flatten = us ∧ ∀ u ∈ us, (Lf.row ks).ok w u := by
      clear hR hv
      induction vs with
      | nil => exact ⟨[], rfl, rfl, by simp⟩
      | cons x vs ih =>
        obtain ⟨us, a, b, c⟩ := ih fun y hy => h1 y (List.mem_cons_of_mem _ hy)
        obtain ⟨u, rfl, hu⟩ := h1 x (List.mem_cons_self ..)
        refine ⟨u :: us, by simp [a], by simp [b], fun z hz => ?_⟩
        rcases List.mem_cons.1 hz with rfl | hz
        · exact hu
        · exact c z hz
    obtain ⟨us, a, b, c⟩ := h2
    refine ⟨⟨p, cap, us, by rw [a], ?_, c⟩, trivial⟩
    rw [a, ← b]; exact hR
def leavesOf (P : Program) : Nat → TypeId → Option (List Lf)
  | 0, _ => none
  | d + 1, t =>
    match P.underlying t with
    | some .bool => some [.cell none]
    | some (.int k) => some [.cell (some k)]
    | some (.struct fs) => (lglue P.cellsOf (leavesOf P d) 0 (fs.toList.map fun f => (f.type, f.offset))).bind fun y => if y.2 = P.cellsOf t then some y.1 else none
    | some (.array n e) => (lglue P.cellsOf (leavesOf P d) 0 ((List.range n).map fun i => (e, i * P.cellsOf e))).bind fun y => if y.2 = P.cellsOf t then some y.1 else none
    | some (.slice e) => (leavesOf P d e).bind fun ls => if 0 < ls.length ∧ ls.length = P.cellsOf e then rowOf ls else none
    | _ => none
theorem flat_cells {w : World} {b z : Nat} : ∀ (vs : List (List Value)) (off : Nat), (∀ (i : Nat) (x : List Value), vs[i]? = some x → x.length = z ∧ ∀ (k : Nat) (u : Value), x[k]? = some u → w.cell? ⟨b, off + i * z + k, none⟩ = some u) →
    ∀ (j : Nat) (u : Value), vs.flatten[j]? = some u → w.cell? ⟨b, off + j, none⟩ = some u
  | [], _, _, j, u, h => by simp at h
  | x :: vs, off, H, j, u, h => by
    have h0 := H 0 x rfl
    rw [List.flatten_cons] at h
    by_cases hj : j < x.length
    · rw [List.getElem?_append_left hj] at h
      have := h0.2 j u h
      simpa using this
    · rw [List.getElem?_append_right (by omega)] at h
      have := flat_cells vs (off + z) (fun i y hy => ⟨(H (i + 1) y hy).1, fun k u hu => by
        have := (H (i + 1) y hy).2 k u hu
        rwa [show off + (i + 1) * z + k = off + z + i * z + k by rw [Nat.add_mul]; omega] at this⟩) _ u h
      rw [show off + z + (j - x.length) = off + j by rw [h0.1]; rw [h0.1] at hj; omega] at this
      exact this
theorem flat_length {z : Nat} : ∀ (vs : List (List Value)), (∀ x ∈ vs, x.length = z) → vs.flatten.length = vs.length * z
  | [], _ => by simp
  | x :: vs, h => by
    rw [List.flatten_cons, List.length_append, h x (List.mem_cons_self ..), flat_length vs (fun y hy => h y (List.mem_cons_of_mem _ hy)), List.length_cons, Nat.add_mul]
    omega
theorem leaves_ok {H : Type} {enc : TypeId × Value → H} {P : Program} {w : World} {base : Nat} {sp : Nat → Bool} {held : Bool} : ∀ (d : Nat) (t : TypeId) (ls : List Lf), leavesOf P d t = some ls →
    ∀ (fuel : Nat) (cs : List Value) (x : DataW H × List MemPlace), DataW.trod enc P w base sp held fuel t cs = some x → Oks w ls cs
  | 0, _, _, h => by cases h
  | d + 1, t, ls, h => by
    intro fuel cs x ht
    unfold leavesOf at h
    split at h
    · rename_i hu
      obtain rfl := Option.some.inj h
      cases fuel with
      | zero => simp [DataW.trod] at ht
      | succ n =>
        unfold DataW.trod at ht
        rw [hu] at ht
        split at ht <;> simp_all [Oks, Lf.ok]
    · rename_i k hu
      obtain rfl := Option.some.inj h
      cases fuel with
      | zero => simp [DataW.trod] at ht
      | succ n =>
        unfold DataW.trod at ht
        rw [hu] at ht
        split at ht <;> simp_all [Oks, Lf.ok]
        obtain ⟨⟨_, hw⟩, _⟩ := ht
        simpa [Lit.wf, IntKind.has] using hw
    · rename_i fs hu
      obtain ⟨⟨y1, y2⟩, hy, h⟩ := Option.bind_eq_some_iff.1 h
      split at h
      · rename_i hc
        obtain rfl := Option.some.inj h
        obtain ⟨xs, m, _, _, hl, hxs, hel⟩ := DataW.trod_struct hu ht
        have := lglue_ok (w := w) (cs := cs) _ 0 y1 y2 hy (hl.trans hc.symm) (fun p hp us hus => by
          obtain ⟨f, hf, rfl⟩ := List.mem_map.1 hp
          obtain ⟨i, hi⟩ := List.mem_iff_getElem?.1 hf
          have hi' : fs[i]? = some f := by simpa using hi
          have hx := hel i f hi'
          have hi2 : i < xs.length := by rw [hxs]; exact (Array.getElem?_eq_some_iff.1 hi').1
          rw [List.getElem?_eq_getElem hi2] at hx
          exact leaves_ok d f.type us hus m _ _ hx)
        simpa using this
      · cases h
    · rename_i n e hu
      obtain ⟨⟨y1, y2⟩, hy, h⟩ := Option.bind_eq_some_iff.1 h
      split at h
      · rename_i hc
        obtain rfl := Option.some.inj h
        obtain ⟨xs, m, _, _, hl, hxs, hel⟩ := DataW.trod_array hu ht
        have := lglue_ok (w := w) (cs := cs) _ 0 y1 y2 hy (hl.trans hc.symm) (fun p hp us hus => by
          obtain ⟨i, hi, rfl⟩ := List.mem_map.1 hp
          have hi' : i < n := List.mem_range.1 hi
          have hx := hel i hi'
          rw [List.getElem?_eq_getElem (show i < xs.length by omega)] at hx
          exact leaves_ok d e us hus m _ _ hx)
        simpa using this
      · cases h
    · rename_i e hu
      obtain ⟨ls', hls, h⟩ := Option.bind_eq_some_iff.1 h
      split at h
      · rename_i hz
        rcases Deep.open_slice hu ht with ⟨rfl, _⟩ | ⟨a, len, cap, m, n, D, Pl, rfl, hb, hl, hm, hmm, _, hx⟩
        · exact rowOf_ok h (vs := []) ⟨Nat.le_refl _, by simp, .inl rfl⟩ (by simp)
        · have hlm : len ≤ m := by rw [hmm]; split <;> omega
          obtain ⟨V, hV⟩ := Deep.choose_lt (α := List Value) (p := fun i v => w.cells? base (a.add (i * P.cellsOf e)) (P.cellsOf e) = some v ∧ DataW.trod enc P w base sp held n e v = some (D i, Pl i)) hx
          have hfit : ∀ i, i < len → Oks w ls' (V i) := fun i hi => leaves_ok d e ls' hls n _ _ (hV i (by omega)).2
          have hvl : ((List.range len).map V).length = len := by simp
          have hel : ∀ (i : Nat) (x : List Value), ((List.range len).map V)[i]? = some x → i < len ∧ x = V i := fun i x hx => by
            have hi := (List.getElem?_eq_some_iff.1 hx).1
            rw [List.length_map, List.length_range] at hi
            refine ⟨hi, ?_⟩
            simp [hi] at hx
            exact hx.symm
          have := rowOf_ok (w := w) h (p := some a) (cap := cap) (vs := (List.range len).map V) ⟨by rw [hvl]; exact hl, ?_, ?_⟩ ?_
          · rwa [hvl] at this
          · exact flat_length _ fun x hx => by obtain ⟨i, hi, rfl⟩ := List.mem_map.1 hx; exact oks_length (hfit i (List.mem_range.1 hi))
          · rcases Nat.eq_zero_or_pos len with h0 | h0
            · left; rw [hvl, h0]
            · right
              have hcell : ∀ i, i < len → ∀ (k : Nat) (u : Value), (V i)[k]? = some u → w.cell? ((a.add (i * ls'.length)).add k) = some u := fun i hi k u hu => by
                have h1 := (hV i (by omega)).1
                unfold World.cells? at h1
                rw [if_pos (by unfold Addr.add; split <;> exact hb)] at h1
                have hk : k < P.cellsOf e := by
                  have := (List.getElem?_eq_some_iff.1 hu).1
                  rw [oks_length (hfit i hi)] at this; omega
                have := mapM_some_get h1 k k (by simp [hk])
                rw [hz.2]
                exact this.trans hu
              have hsp : a.spot = none := by
                have hv0 := oks_length (hfit 0 h0)
                have := hcell 0 h0 0 _ (List.getElem?_eq_getElem (by omega))
                have e0 : (a.add (0 * ls'.length)).add 0 = a := by simp [Addr.add]
                rw [e0] at this
                unfold World.cell? at this
                split at this
                · split at this
                  · cases this
                  · rename_i hs; simpa using hs
                · cases this
              obtain ⟨b, off, spot⟩ := a
              subst hsp
              refine ⟨b, off, rfl, flat_cells (z := ls'.length) _ off fun i x hx => ?_⟩
              obtain ⟨hi, rfl⟩ := hel i x hx
              refine ⟨oks_length (hfit i hi), fun k u hu => ?_⟩
              have := hcell i hi k u hu
              rw [Deep.add_add] at this
              have e1 : (⟨b, off, none⟩ : Addr).add (i * ls'.length + k) = ⟨b, off + i * ls'.length + k, none⟩ := by
                unfold Addr.add
                split
                · rename_i h00; simp [h00, Nat.add_assoc]
                · simp [Nat.add_assoc]
              rwa [e1] at this
          · intro x hx
            obtain ⟨i, hi, rfl⟩ := List.mem_map.1 hx
            exact hfit i (List.mem_range.1 hi)
      · cases h
    · cases h
end Go.Sx
namespace Go.Sx
open Go
theorem agg_of {P : Program} {w : World} {r : Reach} {base : Nat} {t : TypeId} {v : Value} (hagg : (match P.underlying t with | some (.struct _) => true | some (.array _ _) => true | _ => false) = true) (h : Value.okWide P w r base t v) : ∃ vs, v = .agg (List.toArray vs) := by
  have h' : ∃ cs, v = .agg cs ∧ cs.size = P.cellsOf t ∧ Row.okWide P w r base t cs := by
    unfold Value.okWide at h
    split at h
    · exact h
    · exact h
    · rename_i h1 h2
      exfalso
      split at hagg
      · rename_i fs hf; exact h1 fs hf
      · rename_i n e hf; exact h2 n e hf
      · cases hagg
  obtain ⟨cs, rfl, _⟩ := h'
  exact ⟨cs.toList, by simp⟩
end Go.Sx
