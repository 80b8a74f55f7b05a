/- Sx: words and proofs for walking code by symbolic states (the part 'SxRowB'). Own work, the same for every seat. -/
import Derived.Test.YtglcmhldonkfdaaDoorSxRow
import Derived.Test.YtglcmhldonkfdaaDoorSxV
import Derived.Deep.Slices
set_option linter.unusedVariables false
set_option linter.unusedSimpArgs false
namespace Go.Sx
open Go Go.RowKit
inductive Lf where
  | cell (k : Option IntKind)
  | row (ks : List (Option IntKind))
def Lf.ok (w : World) : Lf → Value → Prop
  | .cell (some k), v => ∃ n, v = .int k n ∧ k.has n
  | .cell none, v => ∃ b, v = .bool b
  | .row ks, v => ∃ p cap, ∃ vs : List (List Value), v = .slice p vs.length cap ∧ RowC w ks.length p vs.length cap vs.flatten ∧ ∀ x ∈ vs, Fits ks x
def Oks (w : World) : List Lf → List Value → Prop
  | [], [] => True
  | l :: ls, v :: vs => l.ok w v ∧ Oks w ls vs
  | _, _ => False
theorem oks_append {w : World} : ∀ {a b : List Lf} {x y : List Value}, Oks w a x → Oks w b y → Oks w (a ++ b) (x ++ y)
  | [], _, [], _, _, h => h
  | [], _, _ :: _, _, h, _ => h.elim
  | _ :: _, _, [], _, h, _ => h.elim
  | _ :: _, _, _ :: _, _, ⟨h, h'⟩, k => ⟨h, oks_append h' k⟩
theorem oks_nil {w : World} {vs : List Value} (h : Oks w [] vs) : vs = [] := by
  cases vs with
  | nil => rfl
  | cons v vs => exact h.elim
theorem oks_int {w : World} {k : IntKind} {ls : List Lf} {vs : List Value} (h : Oks w (.cell (some k) :: ls) vs) : ∃ n vs', vs = .int k n :: vs' ∧ k.has n ∧ Oks w ls vs' := by
  cases vs with
  | nil => exact h.elim
  | cons v vs => obtain ⟨⟨n, rfl, hn⟩, hr⟩ := h; exact ⟨n, vs, rfl, hn, hr⟩
theorem oks_row {T : Type} {w : World} {ks : List (Option IntKind)} {ls : List Lf} {vs : List Value} (en : T → List Value) (Pr : T → Prop) (he : ∀ x, Fits ks x → ∃ y : T, x = en y ∧ Pr y) (h : Oks w (.row ks :: ls) vs) :
    ∃ p cap, ∃ l : List T, ∃ vs', vs = .slice p l.length cap :: vs' ∧ RowC w ks.length p l.length cap (l.flatMap en) ∧ (∀ y ∈ l, Pr y) ∧ Oks w ls vs' := by
  cases vs with
  | nil => exact h.elim
  | cons v vs =>
    obtain ⟨⟨p, cap, us, rfl, hR, hu⟩, hr⟩ := h
    have : ∃ l : List T, l.length = us.length ∧ us.flatten = l.flatMap en ∧ ∀ y ∈ l, Pr y := by
      clear hR
      induction us with
      | nil => exact ⟨[], rfl, rfl, by simp⟩
      | cons x us ih =>
        obtain ⟨l, h1, h2, h3⟩ := ih (fun y hy => hu y (List.mem_cons_of_mem _ hy))
        obtain ⟨y, rfl, hy⟩ := he x (hu x (List.mem_cons_self ..))
        exact ⟨y :: l, by simp [h1], by simp [h2], fun z hz => by
          rcases List.mem_cons.1 hz with rfl | hz
          · exact hy
          · exact h3 z hz⟩
    obtain ⟨l, h1, h2, h3⟩ := this
    refine ⟨p, cap, l, vs, by rw [h1], ?_, h3, hr⟩
    rw [h1, ← h2]; exact hR
def lglue (c : TypeId → Nat) (f : TypeId → Option (List Lf)) : Nat → List (TypeId × Nat) → Option (List Lf × Nat)
  | off, [] => some ([], off)
  | off, (t, o) :: r => if o = off then (f t).bind fun ls => (lglue c f (off + c t) r).map fun y => (ls ++ y.1, y.2) else none
theorem lglue_ok {w : World} {c : TypeId → Nat} {f : TypeId → Option (List Lf)} {cs : List Value} : ∀ (ps : List (TypeId × Nat)) (off : Nat) (ls : List Lf) (last : Nat), lglue c f off ps = some (ls, last) → cs.length = last →
    (∀ p ∈ ps, ∀ l, f p.1 = some l → Oks w l ((cs.drop p.2).take (c p.1))) → Oks w ls (cs.drop off)
  | [], off, ls, last, h, hl, _ => by
    unfold lglue at h
    injection h with h
    injection h with h1 h2
    subst h1 h2
    rw [List.drop_eq_nil_of_le (by omega)]
    trivial
  | (t, o) :: r, off, ls, last, h, hl, hp => by
    unfold lglue at h
    split at h
    · rename_i ho
      subst ho
      obtain ⟨us, hus, h⟩ := Option.bind_eq_some_iff.1 h
      obtain ⟨⟨y1, y2⟩, hy, h⟩ := Option.map_eq_some_iff.1 h
      simp only [Prod.mk.injEq] at h
      obtain ⟨rfl, rfl⟩ := h
      have h1 := hp _ (List.mem_cons_self ..) us hus
      have h2 := lglue_ok r (o + c t) y1 y2 hy hl fun p hq => hp p (List.mem_cons_of_mem _ hq)
      rw [← List.take_append_drop (c t) (cs.drop o), List.drop_drop]
      exact oks_append h1 h2
    · cases h
def cellsOnly : List Lf → Option (List (Option IntKind))
  | [] => some []
  | .cell k :: r => (cellsOnly r).map (k :: ·)
  | .row _ :: _ => none
theorem fits_of_oks {w : World} : ∀ {ls : List Lf} {ks : List (Option IntKind)} {vs : List Value}, cellsOnly ls = some ks → Oks w ls vs → Fits ks vs
  | [], _, [], h, _ => by obtain rfl := Option.some.inj h; trivial
  | [], _, _ :: _, _, h => h.elim
  | .cell k :: r, _, [], _, h => by cases k <;> exact h.elim
  | .cell (some k) :: r, ks, v :: vs, h, ho => by
    obtain ⟨ks', h1, rfl⟩ := Option.map_eq_some_iff.1 h
    exact ⟨ho.1, fits_of_oks h1 ho.2⟩
  | .cell none :: r, ks, v :: vs, h, ho => by
    obtain ⟨ks', h1, rfl⟩ := Option.map_eq_some_iff.1 h
    exact ⟨ho.1, fits_of_oks h1 ho.2⟩
  | .row _ :: _, _, _, h, _ => by cases h
theorem fits_length : ∀ {ks : List (Option IntKind)} {vs : List Value}, Fits ks vs → vs.length = ks.length
  | [], [], _ => rfl
  | [], _ :: _, h => h.elim
  | some _ :: _, [], h => h.elim
  | none :: _, [], h => h.elim
  | some _ :: _, _ :: _, h => by simp [fits_length h.2]
  | none :: _, _ :: _, h => by simp [fits_length h.2]
def leavesOf (P : Program) : Nat → TypeId → Option (List Lf)
  | 0, _ => none
  | d + 1, t =>
    match P.underlying t with
    | some .bool => some [.cell none]
    | some (.int k) => some [.cell (some k)]
    | some (.struct fs) => (lglue P.cellsOf (leavesOf P d) 0 (fs.toList.map fun f => (f.type, f.offset))).bind fun y => if y.2 = P.cellsOf t then some y.1 else none
    | some (.array n e) => (lglue P.cellsOf (leavesOf P d) 0 ((List.range n).map fun i => (e, i * P.cellsOf e))).bind fun y => if y.2 = P.cellsOf t then some y.1 else none
    | some (.slice e) => (leavesOf P d e).bind fun ls => (cellsOnly ls).bind fun ks => if 0 < ks.length ∧ ks.length = P.cellsOf e then some [.row ks] else none
    | _ => none
theorem flat_cells {w : World} {b z : Nat} : ∀ (vs : List (List Value)) (off : Nat), (∀ (i : Nat) (x : List Value), vs[i]? = some x → x.length = z ∧ ∀ (k : Nat) (u : Value), x[k]? = some u → w.cell? ⟨b, off + i * z + k, none⟩ = some u) →
    ∀ (j : Nat) (u : Value), vs.flatten[j]? = some u → w.cell? ⟨b, off + j, none⟩ = some u
  | [], _, _, j, u, h => by simp at h
  | x :: vs, off, H, j, u, h => by
    have h0 := H 0 x rfl
    rw [List.flatten_cons] at h
    by_cases hj : j < x.length
    · rw [List.getElem?_append_left hj] at h
      have := h0.2 j u h
      simpa using this
    · rw [List.getElem?_append_right (by omega)] at h
      have := flat_cells vs (off + z) (fun i y hy => ⟨(H (i + 1) y hy).1, fun k u hu => by
        have := (H (i + 1) y hy).2 k u hu
        rwa [show off + (i + 1) * z + k = off + z + i * z + k by rw [Nat.add_mul]; omega] at this⟩) _ u h
      rw [show off + z + (j - x.length) = off + j by rw [h0.1]; rw [h0.1] at hj; omega] at this
      exact this
theorem flat_length {z : Nat} : ∀ (vs : List (List Value)), (∀ x ∈ vs, x.length = z) → vs.flatten.length = vs.length * z
  | [], _ => by simp
  | x :: vs, h => by
    rw [List.flatten_cons, List.length_append, h x (List.mem_cons_self ..), flat_length vs (fun y hy => h y (List.mem_cons_of_mem _ hy)), List.length_cons, Nat.add_mul]
    omega
theorem leaves_ok {H : Type} {enc : TypeId × Value → H} {P : Program} {w : World} {base : Nat} {sp : Nat → Bool} {held : Bool} : ∀ (d : Nat) (t : TypeId) (ls : List Lf), leavesOf P d t = some ls →
    ∀ (fuel : Nat) (cs : List Value) (x : DataW H × List MemPlace), DataW.trod enc P w base sp held fuel t cs = some x → Oks w ls cs
  | 0, _, _, h => by cases h
  | d + 1, t, ls, h => by
    intro fuel cs x ht
    unfold leavesOf at h
    split at h
    · rename_i hu
      obtain rfl := Option.some.inj h
      cases fuel with
      | zero => simp [DataW.trod] at ht
      | succ n =>
        unfold DataW.trod at ht
        rw [hu] at ht
        split at ht <;> simp_all [Oks, Lf.ok]
    · rename_i k hu
      obtain rfl := Option.some.inj h
      cases fuel with
      | zero => simp [DataW.trod] at ht
      | succ n =>
        unfold DataW.trod at ht
        rw [hu] at ht
        split at ht <;> simp_all [Oks, Lf.ok]
        obtain ⟨⟨_, hw⟩, _⟩ := ht
        simpa [Lit.wf, IntKind.has] using hw
    · rename_i fs hu
      obtain ⟨⟨y1, y2⟩, hy, h⟩ := Option.bind_eq_some_iff.1 h
      split at h
      · rename_i hc
        obtain rfl := Option.some.inj h
        obtain ⟨xs, m, _, _, hl, hxs, hel⟩ := DataW.trod_struct hu ht
        have := lglue_ok (w := w) (cs := cs) _ 0 y1 y2 hy (hl.trans hc.symm) (fun p hp us hus => by
          obtain ⟨f, hf, rfl⟩ := List.mem_map.1 hp
          obtain ⟨i, hi⟩ := List.mem_iff_getElem?.1 hf
          have hi' : fs[i]? = some f := by simpa using hi
          have hx := hel i f hi'
          have hi2 : i < xs.length := by rw [hxs]; exact (Array.getElem?_eq_some_iff.1 hi').1
          rw [List.getElem?_eq_getElem hi2] at hx
          exact leaves_ok d f.type us hus m _ _ hx)
        simpa using this
      · cases h
    · rename_i n e hu
      obtain ⟨⟨y1, y2⟩, hy, h⟩ := Option.bind_eq_some_iff.1 h
      split at h
      · rename_i hc
        obtain rfl := Option.some.inj h
        obtain ⟨xs, m, _, _, hl, hxs, hel⟩ := DataW.trod_array hu ht
        have := lglue_ok (w := w) (cs := cs) _ 0 y1 y2 hy (hl.trans hc.symm) (fun p hp us hus => by
          obtain ⟨i, hi, rfl⟩ := List.mem_map.1 hp
          have hi' : i < n := List.mem_range.1 hi
          have hx := hel i hi'
          rw [List.getElem?_eq_getElem (show i < xs.length by omega)] at hx
          exact leaves_ok d e us hus m _ _ hx)
        simpa using this
      · cases h
    · rename_i e hu
      obtain ⟨ls', hls, h⟩ := Option.bind_eq_some_iff.1 h
      obtain ⟨ks, hks, h⟩ := Option.bind_eq_some_iff.1 h
      split at h
      · rename_i hz
        obtain rfl := Option.some.inj h
        rcases Deep.open_slice hu ht with ⟨rfl, _⟩ | ⟨a, len, cap, m, n, D, Pl, rfl, hb, hl, hm, hmm, _, hx⟩
        · exact ⟨⟨none, 0, [], rfl, ⟨Nat.le_refl _, by simp, .inl rfl⟩, by simp⟩, trivial⟩
        · have hlm : len ≤ m := by rw [hmm]; split <;> omega
          obtain ⟨V, hV⟩ := Deep.choose_lt (α := List Value) (p := fun i v => w.cells? base (a.add (i * P.cellsOf e)) (P.cellsOf e) = some v ∧ DataW.trod enc P w base sp held n e v = some (D i, Pl i)) hx
          have hfit : ∀ i, i < len → Fits ks (V i) := fun i hi => fits_of_oks hks (leaves_ok d e ls' hls n _ _ (hV i (by omega)).2)
          have hvl : ((List.range len).map V).length = len := by simp
          have hel : ∀ (i : Nat) (x : List Value), ((List.range len).map V)[i]? = some x → i < len ∧ x = V i := fun i x hx => by
            have hi := (List.getElem?_eq_some_iff.1 hx).1
            rw [List.length_map, List.length_range] at hi
            refine ⟨hi, ?_⟩
            simp [hi] at hx
            exact hx.symm
          refine ⟨⟨some a, cap, (List.range len).map V, by rw [hvl], ⟨by rw [hvl]; exact hl, ?_, ?_⟩, ?_⟩, trivial⟩
          · exact flat_length _ fun x hx => by obtain ⟨i, hi, rfl⟩ := List.mem_map.1 hx; exact fits_length (hfit i (List.mem_range.1 hi))
          · rcases Nat.eq_zero_or_pos len with h0 | h0
            · left; rw [hvl, h0]
            · right
              have hcell : ∀ i, i < len → ∀ (k : Nat) (u : Value), (V i)[k]? = some u → w.cell? ((a.add (i * ks.length)).add k) = some u := fun i hi k u hu => by
                have h1 := (hV i (by omega)).1
                unfold World.cells? at h1
                rw [if_pos (by unfold Addr.add; split <;> exact hb)] at h1
                have hk : k < P.cellsOf e := by
                  have := (List.getElem?_eq_some_iff.1 hu).1
                  rw [fits_length (hfit i hi)] at this; omega
                have := mapM_some_get h1 k k (by simp [hk])
                rw [hz.2]
                exact this.trans hu
              have hsp : a.spot = none := by
                have hv0 := fits_length (hfit 0 h0)
                have := hcell 0 h0 0 _ (List.getElem?_eq_getElem (by omega))
                have e0 : (a.add (0 * ks.length)).add 0 = a := by simp [Addr.add]
                rw [e0] at this
                unfold World.cell? at this
                split at this
                · split at this
                  · cases this
                  · rename_i hs; simpa using hs
                · cases this
              obtain ⟨b, off, spot⟩ := a
              subst hsp
              refine ⟨b, off, rfl, flat_cells (z := ks.length) _ off fun i x hx => ?_⟩
              obtain ⟨hi, rfl⟩ := hel i x hx
              refine ⟨fits_length (hfit i hi), fun k u hu => ?_⟩
              have := hcell i hi k u hu
              rw [Deep.add_add] at this
              have e1 : (⟨b, off, none⟩ : Addr).add (i * ks.length + k) = ⟨b, off + i * ks.length + k, none⟩ := by
                unfold Addr.add
                split
                · rename_i h00; simp [h00, Nat.add_assoc]
                · simp [Nat.add_assoc]
              rwa [e1] at this
          · intro x hx
            obtain ⟨i, hi, rfl⟩ := List.mem_map.1 hx
            exact hfit i (List.mem_range.1 hi)
      · cases h
    · cases h
end Go.Sx
namespace Go.Sx
open Go
theorem agg_of {P : Program} {w : World} {r : Reach} {base : Nat} {t : TypeId} {v : Value} (hagg : (match P.underlying t with | some (.struct _) => true | some (.array _ _) => true | _ => false) = true) (h : Value.okWide P w r base t v) : ∃ vs, v = .agg (List.toArray vs) := by
  have h' : ∃ cs, v = .agg cs ∧ cs.size = P.cellsOf t ∧ Row.okWide P w r base t cs := by
    unfold Value.okWide at h
    split at h
    · exact h
    · exact h
    · rename_i h1 h2
      exfalso
      split at hagg
      · rename_i fs hf; exact h1 fs hf
      · rename_i n e hf; exact h2 n e hf
      · cases hagg
  obtain ⟨cs, rfl, _⟩ := h'
  exact ⟨cs.toList, by simp⟩
end Go.Sx
