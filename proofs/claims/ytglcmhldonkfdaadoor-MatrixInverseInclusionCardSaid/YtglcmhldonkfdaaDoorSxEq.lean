/- Sx: words and proofs for walking code by symbolic states (the part 'SxEq'). Own work, the same for every seat. -/
import Derived.Test.YtglcmhldonkfdaaDoorSxMore
import Derived.Laws.StructEq
set_option linter.unusedVariables false
namespace Go.Sx
open Go Go.RowKit
def partV (P : Program) (t : TypeId) (cs : Array Value) (off : Nat) : Option Value := (peek P (part t cs off) [] []).map (·.1)
def eqFs (P : Program) (E : TypeId → Value → Value → Option Bool) (xs ys : Array Value) : List Field → Option Bool
  | [] => some true
  | f :: fs =>
    if f.name ≠ "_" then
      match partV P f.type xs f.offset, partV P f.type ys f.offset with
      | some a, some b => match E f.type a b, eqFs P E xs ys fs with
        | some e, some r => some (e && r)
        | _, _ => none
      | _, _ => none
    else eqFs P E xs ys fs
def eqV (P : Program) : Nat → TypeId → Value → Value → Option Bool
  | 0, _, _, _ => none
  | d + 1, t, a, b =>
    match P.underlying t, a, b with
    | some (.int _), .int k a, .int k' b => if k = k' then some (a == b) else none
    | some .bool, .bool a, .bool b => some (a == b)
    | some (.struct fs), .agg xs, .agg ys => if P.stoodInHeld t then none else eqFs P (eqV P d) xs ys fs.toList
    | _, _, _ => none
theorem partV_run {P : Program} {t : TypeId} {cs : Array Value} {off : Nat} {v : Value} (h : partV P t cs off = some v) (w : World) : (part t cs off).run P w = .ok v w := by
  unfold partV at h
  obtain ⟨⟨v', l⟩, hp, rfl⟩ := Option.map_eq_some_iff.1 h
  obtain ⟨m, e, hl, hr⟩ := peek_run _ _ _ _ _ hp
  exact hr w fun j x u hx hu => by simp at hu
theorem eqFs_run {P : Program} {E : TypeId → Value → Value → Option Bool} {d : Nat} {xs ys : Array Value} (hE : ∀ t a b r, E t a b = some r → ∀ w : World, (Op.equalIn d t a b).run P w = .ok r w) :
    ∀ (fs : List Field) (r : Bool), eqFs P E xs ys fs = some r → ∀ w : World, (Op.eqFields d xs ys fs).run P w = .ok r w
  | [], r, h, w => by
    simp only [eqFs, Option.some.injEq] at h; subst h; rfl
  | f :: fs, r, h, w => by
    rw [eqFs] at h
    by_cases hn : f.name ≠ "_"
    · rw [if_pos hn] at h
      cases ha : partV P f.type xs f.offset with
      | none => simp [ha] at h
      | some a =>
        cases hb : partV P f.type ys f.offset with
        | none => simp [ha, hb] at h
        | some b =>
          rw [ha, hb] at h
          simp only at h
          cases he : E f.type a b with
          | none => simp [he] at h
          | some e =>
            cases hr : eqFs P E xs ys fs with
            | none => simp [he, hr] at h
            | some r' =>
              rw [he, hr] at h
              simp only [Option.some.injEq] at h
              subst h
              rw [Op.eqFields, if_pos hn]
              simp only [Sem.run_bind, partV_run ha, partV_run hb, Result.andThen_ok, hE f.type a b e he, Sem.run_ite]
              cases e with
              | true => simp only [Bool.not_true, Bool.false_eq_true, if_false, Bool.true_and]; exact eqFs_run hE fs r' hr w
              | false => rfl
    · rw [if_neg hn] at h
      rw [Op.eqFields, if_neg hn]
      exact eqFs_run hE fs r h w
theorem eqV_run {P : Program} : ∀ (d : Nat) (t : TypeId) (a b : Value) (r : Bool), eqV P d t a b = some r → ∀ w : World, (Op.equalIn d t a b).run P w = .ok r w := by
  intro d
  induction d with
  | zero => intro t a b r h; simp [eqV] at h
  | succ d ih =>
    intro t a b r h w
    unfold eqV at h
    cases hu : P.underlying t with
    | none => rw [hu] at h; cases h
    | some u =>
      rw [hu] at h
      cases u with
      | int k0 =>
        cases a with
        | int k a =>
          cases b with
          | int k' b =>
            simp only at h
            by_cases hk : k = k'
            · subst hk
              rw [if_pos rfl] at h
              injection h with h; subst h
              exact run_equalIn_int w d t k k0 a b hu
            · rw [if_neg hk] at h; cases h
          | _ => cases h
        | _ => cases h
      | bool =>
        cases a with
        | bool a =>
          cases b with
          | bool b =>
            simp only at h
            injection h with h; subst h
            exact run_equalIn_bool' w d t a b hu
          | _ => cases h
        | _ => cases h
      | struct fs =>
        cases a with
        | agg xs =>
          cases b with
          | agg ys =>
            simp only at h
            by_cases hst : P.stoodInHeld t = true
            · rw [if_pos hst] at h; cases h
            · rw [if_neg hst] at h
              have hf : P.fieldsOf t = fs := by simp [Program.fieldsOf, hu]
              rw [run_equalIn_struct w d t xs ys (by rw [hf]; exact hu) (by simpa using hst), hf]
              exact eqFs_run ih fs.toList r h w
          | _ => cases h
        | _ => cases h
      | _ => cases h
theorem run_eql_agg {P : Program} {w : World} {t : TypeId} {x y : Operand} {xs ys : Array Value} {b : Bool} (hg : P.eqGuardType P.depth t = false) (h : eqV P 10000 t (.agg xs) (.agg ys) = some b) :
    (Sem.bind (Sem.bind (eqGuard .eql t x y (.agg xs) (.agg ys)) fun _ => binOp .eql t (.agg xs) (.agg ys)) fun v => Sem.pure (Next.value v)).run P w = .ok (.value (.bool b)) w := by
  refine run_next (v := .bool b) ?_ rfl
  show ((eqGuard .eql t x y (.agg xs) (.agg ys)) >>= fun _ => binOp .eql t (.agg xs) (.agg ys)).run P w = _
  rw [Sem.run_bind, run_eqGuard_agg w .eql t x y xs ys hg, Result.andThen_ok, run_eql_struct, eqV_run 10000 t _ _ b h]
  rfl
theorem run_neq_agg {P : Program} {w : World} {t : TypeId} {x y : Operand} {xs ys : Array Value} {b : Bool} (hg : P.eqGuardType P.depth t = false) (h : eqV P 10000 t (.agg xs) (.agg ys) = some b) :
    (Sem.bind (Sem.bind (eqGuard .neq t x y (.agg xs) (.agg ys)) fun _ => binOp .neq t (.agg xs) (.agg ys)) fun v => Sem.pure (Next.value v)).run P w = .ok (.value (.bool (!b))) w := by
  refine run_next (v := .bool (!b)) ?_ rfl
  show ((eqGuard .neq t x y (.agg xs) (.agg ys)) >>= fun _ => binOp .neq t (.agg xs) (.agg ys)).run P w = _
  rw [Sem.run_bind, run_eqGuard_agg w .neq t x y xs ys hg, Result.andThen_ok, run_neq_struct, eqV_run 10000 t _ _ b h]
  rfl
section
variable {P : Program} {ops : Array Oper} {B : Nat} {w0 : World} {n i : Nat} {o : Oper} {Spre : Nu → St}
theorem ok_offB (d : Nat) (hd : o.dst = some d := by rfl) (hdn : Nat.blt d n = true := by rfl) (hsel : noSel o = true := by rfl)
    (hc : ∀ ν, wantS ops o (Spre ν) = some false := by intro _; kernel_rfl) (hk : ∀ ν, (o.op.operands.all (knownB (Spre ν))) = true := by intro _; kernel_rfl) :
    OpOK P ops B w0 n i o Spre (tmpsOf ops o) (fun ν => [(d, .slot false (.bool false))]) := by
  have hdn' : d < n := by simpa using hdn
  refine opok_of (c := fun _ => false) (fun _ h => h) (noSel_spec hsel) hc hk ?_ ?_
  · intro ν S a w _ hr
    rw [updAll_one, hd]
    exact hr.put hdn' false (.bool false)
  · intro Q p S a w hpi hct hag hrep hev
    obtain ⟨ν0, h0⟩ := Ext.exists p
    exact absurd (hct ν0 h0) (by simp)
end
end Go.Sx
