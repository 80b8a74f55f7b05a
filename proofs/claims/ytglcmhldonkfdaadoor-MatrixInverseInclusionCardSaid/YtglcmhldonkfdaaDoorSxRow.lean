/- Sx, the row's words: arguments that are plain structs opened, a table of functions read. Own work. -/
import Derived.WalkKit
import Derived.ProofKit
import Derived.OpenShut
import Derived.ShutString
import Derived.ChangeOld
import Derived.Below
import Derived.SizedLaws
import Derived.LaidMore
import Derived.LaidByTextLater
import Derived.SevenTiedAt
import Derived.Stop.Joined
import Derived.KernelRfl
namespace Go.Sx
open Go
def Fits : List (Option IntKind) → List Value → Prop
  | [], [] => True
  | some k :: ks, v :: vs => (∃ n, v = .int k n ∧ k.has n) ∧ Fits ks vs
  | none :: ks, v :: vs => (∃ b, v = .bool b) ∧ Fits ks vs
  | _, _ => False
theorem fits_nil {vs : List Value} (h : Fits [] vs) : vs = [] := by
  cases vs with
  | nil => rfl
  | cons v vs => exact h.elim
theorem fits_int {k : IntKind} {ks : List (Option IntKind)} {vs : List Value} (h : Fits (some k :: ks) vs) : ∃ n vs', vs = .int k n :: vs' ∧ k.has n ∧ Fits ks vs' := by
  cases vs with
  | nil => exact h.elim
  | cons v vs =>
    obtain ⟨⟨n, rfl, hn⟩, hr⟩ := h
    exact ⟨n, vs, rfl, hn, hr⟩
def glue (c : TypeId → Nat) (f : TypeId → DataW (List UInt8) → Option (List Value)) : Nat → List (TypeId × Nat × DataW (List UInt8)) → Option (List Value × Nat)
  | off, [] => some ([], off)
  | off, (t, o, x) :: r => if o = off then (f t x).bind fun vs => (glue c f (off + c t) r).map fun y => (vs ++ y.1, y.2) else none
theorem glue_drop {c : TypeId → Nat} {f : TypeId → DataW (List UInt8) → Option (List Value)} {cs : List Value} : ∀ (ps : List (TypeId × Nat × DataW (List UInt8))) (off : Nat) (vs : List Value) (last : Nat), glue c f off ps = some (vs, last) → cs.length = last →
    (∀ p ∈ ps, ∀ us, f p.1 p.2.2 = some us → (cs.drop p.2.1).take (c p.1) = us) → cs.drop off = vs
  | [], off, vs, last, h, hl, _ => by
    simp only [glue, Option.some.injEq, Prod.mk.injEq] at h
    obtain ⟨rfl, rfl⟩ := h
    simp [hl]
  | (t, o, x) :: r, off, vs, last, h, hl, hp => by
    unfold glue at h
    split at h
    · rename_i ho
      subst ho
      obtain ⟨us, hus, h⟩ := Option.bind_eq_some_iff.1 h
      obtain ⟨y, hy, h⟩ := Option.map_eq_some_iff.1 h
      obtain ⟨y1, y2⟩ := y
      simp only [Prod.mk.injEq] at h
      obtain ⟨rfl, rfl⟩ := h
      have h1 := hp _ (List.mem_cons_self ..) us hus
      have h2 := glue_drop r (o + c t) y1 y2 hy hl fun p hq => hp p (List.mem_cons_of_mem _ hq)
      rw [← List.take_append_drop (c t) (cs.drop o), h1, List.drop_drop, h2]
    · cases h
def tabs (P : Program) : Nat → TypeId → DataW (List UInt8) → Option (List Value)
  | 0, _, _ => none
  | d + 1, t, x =>
    match P.underlying t, x with
    | some (.array n e), .agg ds => if ds.length = n then (glue P.cellsOf (tabs P d) 0 (ds.mapIdx fun i y => (e, i * P.cellsOf e, y))).bind fun y => if y.2 = P.cellsOf t then some y.1 else none else none
    | some (.struct fs), .agg ds => (glue P.cellsOf (tabs P d) 0 (List.zipWith (fun f y => (f.type, f.offset, y)) fs.toList ds)).bind fun y => if y.2 = P.cellsOf t then some y.1 else none
    | some (.func ..), .nil => some [.nilFunc]
    | some (.func ..), .held (b :: r) =>
      match (List.range P.funcs.size).filter fun f => (P.funcs[f]?).any (·.name.toUTF8.data.toList == b :: r) with
      | [f0] => some [.func (.func f0) #[] #[]]
      | _ => none
    | _, _ => none
theorem cells_of_tabs {P : Program} {w : World} {base : Nat} {sp : Nat → Bool} : ∀ (d : Nat) (t : TypeId) (x : DataW (List UInt8)) (vs : List Value), tabs P d t x = some vs → ∀ (fuel : Nat) (cs : List Value) (q : List MemPlace),
    DataW.trod (funcToken P) P w base sp true fuel t cs = some (x, q) → cs = vs
  | 0, _, _, _, h => by cases h
  | d + 1, t, x, vs, h => by
    intro fuel cs q ht
    unfold tabs at h
    split at h
    · rename_i n e ds hu
      split at h
      · rename_i hn
        obtain ⟨⟨y1, y2⟩, hy, h⟩ := Option.bind_eq_some_iff.1 h
        split at h
        · rename_i hc
          obtain rfl := Option.some.inj h
          obtain ⟨xs, m, rfl, hx, hl, hxs, hel⟩ := DataW.trod_array hu ht
          simp only [Prod.mk.injEq, DataW.agg.injEq] at hx
          obtain ⟨rfl, _⟩ := hx
          have := glue_drop (cs := cs) _ 0 y1 y2 hy (hl.trans hc.symm) (fun p hp us hus => by
            obtain ⟨i, hi⟩ := List.mem_iff_getElem?.1 hp
            rw [List.getElem?_mapIdx] at hi
            obtain ⟨z, hz, rfl⟩ := Option.map_eq_some_iff.1 hi
            rw [List.getElem?_map] at hz
            obtain ⟨u, hu', rfl⟩ := Option.map_eq_some_iff.1 hz
            have hi' : i < n := by rw [← hxs]; exact (List.getElem?_eq_some_iff.1 hu').1
            exact cells_of_tabs d e u.1 us hus m _ u.2 ((hel i hi').trans hu'))
          simpa using this
        · cases h
      · cases h
    · rename_i fs ds hu
      obtain ⟨⟨y1, y2⟩, hy, h⟩ := Option.bind_eq_some_iff.1 h
      split at h
      · rename_i hc
        obtain rfl := Option.some.inj h
        obtain ⟨xs, m, rfl, hx, hl, hxs, hel⟩ := DataW.trod_struct hu ht
        simp only [Prod.mk.injEq, DataW.agg.injEq] at hx
        obtain ⟨rfl, _⟩ := hx
        have := glue_drop (cs := cs) _ 0 y1 y2 hy (hl.trans hc.symm) (fun p hp us hus => by
          obtain ⟨i, hi⟩ := List.mem_iff_getElem?.1 hp
          rw [List.getElem?_zipWith] at hi
          cases hf : fs.toList[i]? with
          | none => simp [hf] at hi
          | some f =>
            cases hz : (xs.map (·.1))[i]? with
            | none => simp [hf, hz] at hi
            | some z =>
              simp only [hf, hz, Option.some.injEq] at hi
              subst hi
              rw [List.getElem?_map] at hz
              obtain ⟨u, hu', rfl⟩ := Option.map_eq_some_iff.1 hz
              exact cells_of_tabs d f.type u.1 us hus m _ u.2 ((hel i f (by simpa using hf)).trans hu'))
        simpa using this
      · cases h
    · rename_i a b c hu
      obtain rfl := Option.some.inj h
      cases fuel with
      | zero => simp [DataW.trod] at ht
      | succ n =>
        unfold DataW.trod at ht
        rw [hu] at ht
        split at ht <;> simp_all
    · rename_i a b c x1 x2 hu
      split at h
      · rename_i f0 hf
        obtain rfl := Option.some.inj h
        have : ∃ v, cs = [v] := by
          cases fuel with
          | zero => simp [DataW.trod] at ht
          | succ n =>
            unfold DataW.trod at ht
            rw [hu] at ht
            split at ht <;> simp_all
        obtain ⟨v, rfl⟩ := this
        rw [func_of_trod hu hf ht]
      · cases h
    · cases h
theorem glob_block {P : Program} {laid : List (String × DataW Unit)} {w : World} (h : laidMetH P laid w) {n : String} {d : DataW Unit} (hx : (n, DataW.iface "func table" d) ∈ laid) (g : Nat) (t : TypeId) (fuel : Nat) (vs : List Value)
    (hg : P.globalNamed n = some g) (ht : (P.globals[g]?).map (·.type) = some t) (hv : tabs P fuel t d.funcsOut = some vs) : ∃ e fz, w.heap[g]? = some (.cells vs.toArray e fz) := by
  obtain ⟨g', t', cs, fuel', p, hg', ht', hc, hd⟩ := h.funcs hx
  obtain rfl := Option.some.inj (hg.symm.trans hg')
  obtain rfl := Option.some.inj (ht.symm.trans ht')
  have hcs := cells_of_tabs fuel t _ vs hv fuel' _ p hd
  unfold World.var? at hc
  rw [hg] at hc
  simp only [Option.bind_some] at hc
  split at hc
  · rename_i c e fz he
    obtain rfl := Option.some.inj hc
    refine ⟨e, fz, ?_⟩
    rw [← hcs]
    simpa using he
  · cases hc
end Go.Sx
