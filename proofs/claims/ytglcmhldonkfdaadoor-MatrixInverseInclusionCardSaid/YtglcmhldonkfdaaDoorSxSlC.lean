/- Sx: rows: the forms that the printer uses (facts of entries told by their looks), elements of lists. Own work. -/
import Derived.Test.YtglcmhldonkfdaaDoorSxSlB
set_option linter.unusedVariables false
namespace Go.Sx
open Go Go.RowKit
def AllH : List KV → World → Prop
  | [], _ => True
  | K :: r, w => K.holds w ∧ AllH r w
theorem allH_of {S : St} {w : World} : ∀ (ks : List Nat) (Ks : List KV), ks.map S = Ks → (∀ k ∈ ks, (S k).holds w) → AllH Ks w
  | [], Ks, h, _ => by
    cases Ks with
    | nil => trivial
    | cons _ _ => cases h
  | k :: ks, Ks, h, hf => by
    cases Ks with
    | nil => cases h
    | cons K r =>
      simp only [List.map_cons, List.cons.injEq] at h
      exact ⟨h.1 ▸ hf k (by simp), allH_of ks r h.2 fun j hj => hf j (List.mem_cons_of_mem _ hj)⟩
section
variable {P : Program} {ops : Array Oper} {B : Nat} {w0 : World} {n i : Nat} {o : Oper} {Spre : Nu → St}
theorem ok_valL (ks : List Nat) (Ks : Nu → List KV) (v : Nu → Value) (c : Nu → Bool) (pat : List Bool) (d : Nat) (hv : ∀ ν w, c ν = true → AllH (Ks ν) w → (execOp (envU (Spre ν)) o).run P w = .ok (.value (v ν)) w)
    (hK : ∀ ν, ks.map (Spre ν) = Ks ν := by intro _; kernel_rfl) (hd : o.dst = some d := by rfl) (hdn : Nat.blt d n = true := by rfl) (hsel : noSel o = true := by rfl)
    (hc : ∀ ν, wantS ops o (Spre ν) = some (c ν) := by intro _; kernel_rfl) (hk : ∀ ν, (o.op.operands.all (knownB (Spre ν))) = true := by intro _; kernel_rfl)
    (hp : ∀ ν, condsOf o (Spre ν) = pat.map (fun p => bif p then true else c ν) := by intro _; kernel_rfl) :
    OpOK P ops B w0 n i o Spre (ks ++ tmpsOf ops o) (fun ν => [(d, .slot (c ν) (v ν))]) :=
  ok_valF ks v c pat d (fun ν w h1 h2 => hv ν w h1 (allH_of ks _ (hK ν) h2)) hd hdn hsel hc hk hp
theorem ok_rowL (ks : List Nat) (Ks : Nu → List KV) (e : TypeId) (sz : Nat) (n' : Nat) (xs' : List Value) (d k : Nat) (Kold : Nu → KV)
    (hv : ∀ ν w, AllH (Ks ν) w → ∃ p cap w', (execOp (envU (Spre ν)) o).run P w = .ok (.value (.slice p n' cap)) w' ∧ w'.ownsRow 0 e sz (.slice p n' cap) n' xs' ∧ But (Kold ν).fp w w' ∧ ∀ j, fpOwn p j → w.heap.size ≤ j ∨ (Kold ν).fp j)
    (hx : ∀ ν, (Kold ν).fp = (fun _ => False) ∨ (Kold ν).excl)
    (hold : ∀ ν, Spre ν k = Kold ν := by intro _; kernel_rfl)
    (hK : ∀ ν, ks.map (Spre ν) = Ks ν := by intro _; kernel_rfl)
    (hd : o.dst = some d := by rfl) (hdn : Nat.blt d n = true := by rfl) (hkn : Nat.ble n k = true := by rfl) (hsel : noSel o = true := by rfl) (hg : o.guard = none := by rfl)
    (hk : ∀ ν, (o.op.operands.all (knownB (Spre ν))) = true := by intro _; kernel_rfl) (hp : ∀ ν, (condsOf o (Spre ν)).all id = true := by intro _; kernel_rfl) :
    OpOK P ops B w0 n i o Spre (k :: ks ++ tmpsOf ops o) (fun ν => [(d, .slot true (.slice ((ν i).o 0) n' ((ν i).n 0))), (k, owK e sz ((ν i).o 0) n' ((ν i).n 0) xs')]) :=
  ok_row ks e sz n' xs' d k (fun ν w h2 => by rw [hold ν]; exact hv ν w (allH_of ks _ (hK ν) h2)) (fun ν => by rw [hold ν]; exact hx ν) hd hdn hkn hsel hg hk hp
theorem ok_callL (ks : List Nat) (Ks : Nu → List KV) (f : FuncId) (args : Nu → Array Value) (v : Value) (d : Nat)
    (hC : ∀ ν w, AllH (Ks ν) w → Calls P f (args ν) w fun e w' => e = .returned v ∧ Below w.heap.size w w')
    (hK : ∀ ν, ks.map (Spre ν) = Ks ν := by intro _; kernel_rfl)
    (hd : o.dst = some d := by rfl) (hdn : Nat.blt d n = true := by rfl) (hsel : noSel o = true := by rfl) (hg : o.guard = none := by rfl)
    (hk : ∀ ν, (o.op.operands.all (knownB (Spre ν))) = true := by intro _; kernel_rfl)
    (hp : ∀ ν, (condsOf o (Spre ν)).all id = true := by intro _; kernel_rfl)
    (hv : ∀ ν w, (execOp (envU (Spre ν)) o).run P w = .ok (.enter f (args ν)) w := by intro _ _; kernel_rfl) :
    OpOK P ops B w0 n i o Spre (ks ++ tmpsOf ops o) (fun ν => [(d, .slot true v)]) :=
  ok_callv f args v d ks (fun ν w h => hC ν w (allH_of ks _ (hK ν) h)) hd hdn hsel hg hk hp hv
theorem ok_callLg (ks : List Nat) (Ks : Nu → List KV) (f : FuncId) (args : Nu → Array Value) (v : Value) (c : Nu → Bool) (pat : List Bool) (d : Nat)
    (hC : ∀ ν w, c ν = true → AllH (Ks ν) w → Calls P f (args ν) w fun e w' => e = .returned v ∧ Below w.heap.size w w')
    (hK : ∀ ν, ks.map (Spre ν) = Ks ν := by intro _; kernel_rfl)
    (hd : o.dst = some d := by rfl) (hdn : Nat.blt d n = true := by rfl) (hsel : noSel o = true := by rfl)
    (hc : ∀ ν, wantS ops o (Spre ν) = some (c ν) := by intro _; kernel_rfl) (hk : ∀ ν, (o.op.operands.all (knownB (Spre ν))) = true := by intro _; kernel_rfl)
    (hp : ∀ ν, condsOf o (Spre ν) = pat.map (fun p => bif p then true else c ν) := by intro _; kernel_rfl)
    (hv : ∀ ν w, (execOp (envU (Spre ν)) o).run P w = .ok (.enter f (args ν)) w := by intro _ _; kernel_rfl) :
    OpOK P ops B w0 n i o Spre (ks ++ tmpsOf ops o) (fun ν => [(d, .slot (c ν) v)]) :=
  ok_call f args v c pat d ks (fun ν w hc' h => hC ν w hc' (allH_of ks _ (hK ν) h)) hd hdn hsel hc hk hp hv
end
theorem flat_len {T : Type} {en : T → List Value} {sz : Nat} (hen : ∀ x, (en x).length = sz) : ∀ l : List T, (l.flatMap en).length = l.length * sz
  | [] => by simp
  | x :: l => by rw [List.flatMap_cons, List.length_append, hen, flat_len hen l, List.length_cons, Nat.add_mul]; omega
theorem flat_get {T : Type} {en : T → List Value} {sz : Nat} (hen : ∀ x, (en x).length = sz) : ∀ (l : List T) (i : Nat) (x : T), l[i]? = some x → ∀ (j : Nat) (u : Value), (en x)[j]? = some u → (l.flatMap en)[i * sz + j]? = some u
  | [], i, x, h, _, _, _ => by simp at h
  | y :: l, 0, x, h, j, u, hu => by
    obtain rfl : y = x := by simpa using h
    have hj := (List.getElem?_eq_some_iff.1 hu).1
    rw [List.flatMap_cons, Nat.zero_mul, Nat.zero_add, List.getElem?_append_left hj]
    exact hu
  | y :: l, i + 1, x, h, j, u, hu => by
    have := flat_get hen l i x (by simpa using h) j u hu
    rw [List.flatMap_cons, List.getElem?_append_right (by rw [hen, Nat.add_mul]; omega), hen]
    rw [← this]
    congr 1
    rw [Nat.add_mul]; omega
theorem lay_eq (vs : List Value) : ∀ (cs : List Value) (off : Nat), off + vs.length ≤ cs.length → lay cs off vs = cs.take off ++ vs ++ cs.drop (off + vs.length) := by
  induction vs with
  | nil => intro cs off h; simp [lay]
  | cons v vs ih =>
    intro cs off h
    simp only [List.length_cons] at h
    rw [lay, ih _ _ (by simpa using by omega)]
    have h1 : off < cs.length := by omega
    rw [List.take_set, List.drop_set]
    apply List.ext_getElem?
    intro m
    simp only [List.length_cons]
    grind
theorem flat_set {T : Type} {en : T → List Value} {sz : Nat} (hen : ∀ x, (en x).length = sz) : ∀ (l : List T) (i : Nat) (x y : T) (f : Nat) (vs : List Value), l[i]? = some x → f + vs.length ≤ sz → en y = lay (en x) f vs → lay (l.flatMap en) (i * sz + f) vs = (l.set i y).flatMap en
  | [], i, x, y, f, vs, h, _, _ => by simp at h
  | z :: l, 0, x, y, f, vs, h, hf, he => by
    obtain rfl : z = x := by simpa using h
    rw [List.set_cons_zero, List.flatMap_cons, List.flatMap_cons, he, Nat.zero_mul, Nat.zero_add]
    rw [lay_eq _ _ _ (by rw [List.length_append, hen]; omega), lay_eq _ _ _ (by rw [hen]; exact hf)]
    rw [List.take_append_of_le_length (by rw [hen]; omega), List.drop_append_of_le_length (by rw [hen]; omega)]
    simp [List.append_assoc]
  | z :: l, i + 1, x, y, f, vs, h, hf, he => by
    have ih := flat_set hen l i x y f vs (by simpa using h) hf he
    have hi : i < l.length := (List.getElem?_eq_some_iff.1 (by simpa using h : l[i]? = some x)).1
    have hle : i * sz + f + vs.length ≤ (l.flatMap en).length := by
      rw [flat_len hen]
      have : (i + 1) * sz ≤ l.length * sz := Nat.mul_le_mul_right _ hi
      rw [Nat.add_mul] at this
      omega
    rw [List.set_cons_succ, List.flatMap_cons, List.flatMap_cons, ← ih]
    rw [lay_eq _ _ _ hle, lay_eq _ _ _ (by rw [List.length_append, hen, Nat.add_mul]; omega)]
    have e1 : (i + 1) * sz + f = (en z).length + (i * sz + f) := by rw [hen, Nat.add_mul]; omega
    have e2 : (i + 1) * sz + f + vs.length = (en z).length + (i * sz + f + vs.length) := by rw [hen, Nat.add_mul]; omega
    rw [e2, e1, List.take_length_add_append, List.drop_length_add_append]
    simp [List.append_assoc]
theorem el_cells {T : Type} {w : World} {en : T → List Value} {sz : Nat} {p : Option Addr} {l : List T} (R : RowAt w sz p l.length (l.flatMap en)) (hen : ∀ x, (en x).length = sz) {i : Nat} {x : T} (hx : l[i]? = some x) (f m : Nat) {vs : List Value} (hvs : ((en x).drop f).take m = vs) :
    ∀ j u, vs[j]? = some u → w.cell? ⟨hdB p, hdO p + i * sz + f + j, none⟩ = some u := by
  intro j u hu
  have hj : j < m := by
    have := (List.getElem?_eq_some_iff.1 hu).1
    rw [← hvs, List.length_take] at this
    omega
  rw [← hvs, List.getElem?_take_of_lt hj, List.getElem?_drop] at hu
  have := R.cell (flat_get hen l i x hx (f + j) u hu)
  rw [← this]
  congr 2
  omega
end Go.Sx
