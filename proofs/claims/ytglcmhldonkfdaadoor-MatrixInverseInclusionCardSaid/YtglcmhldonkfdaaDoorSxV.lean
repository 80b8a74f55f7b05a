/- Sx: words and proofs for walking code by symbolic states (the part 'SxV'). Own work, the same for every seat. -/
import Derived.Test.YtglcmhldonkfdaaDoorSxRk
import Derived.Laws.Slices
set_option linter.unusedVariables false
set_option linter.unusedSimpArgs false
namespace Go.Sx
open Go Go.RowKit
def RowC (w : World) (sz : Nat) (p : Option Addr) (n cap : Nat) (xs : List Value) : Prop := n ≤ cap ∧ RowAt w sz p n xs
abbrev rdF (fr : Nat → Prop) (sz : Nat) (p : Option Addr) (n cap : Nat) (xs : List Value) : KV := .fact (fpRow p n) (fun w => RowC w sz p n cap xs ∧ ∀ j, fpRow p n j → fr j)
theorem rdF_of {fr : Nat → Prop} {w : World} {sz n cap : Nat} {p : Option Addr} {xs : List Value} (h : (rdF fr sz p n cap xs).holds w) : RowC w sz p n cap xs := (h w (agree.refl _ _)).1
theorem rdF_fact {fr : Nat → Prop} {w : World} {sz n cap : Nat} {p : Option Addr} {xs : List Value} (h : RowC w sz p n cap xs) (hf : ∀ j, fpRow p n j → fr j) (hs : 0 < sz) (k : Nat) : (∃ fp F, (k, rdF fr sz p n cap xs).2 = .fact fp F) ∧ (rdF fr sz p n cap xs).holds w ∧ ∀ i, (rdF fr sz p n cap xs).fp i → i < w.heap.size :=
  ⟨⟨_, _, rfl⟩, fun w' ha => ⟨⟨h.1, h.2.agree ha⟩, hf⟩, h.2.inb hs⟩
theorem owns_cap {w : World} {base e sz n cap : Nat} {p : Option Addr} {xs : List Value} (h : w.ownsRow base e sz (.slice p n cap) n xs) : n ≤ cap := by
  rcases h.2 with ⟨hv, h0⟩ | ⟨g, c, cur, hv, _, hg, hn, _⟩
  · omega
  · injection hv with _ _ h3; omega
theorem owns_rowC {w : World} {base e sz n cap : Nat} {p : Option Addr} {xs : List Value} (h : w.ownsRow base e sz (.slice p n cap) n xs) : RowC w sz p n cap xs := ⟨owns_cap h, owns_row h⟩
theorem rowC_nil {T : Type} {w : World} {sz : Nat} {en : T → List Value} : RowC w sz none ([] : List T).length 0 (([] : List T).flatMap en) := ⟨Nat.le_refl _, by simp, .inl rfl⟩
theorem fp_own {p : Option Addr} {n j : Nat} (h : fpRow p n j) : fpOwn p j := by
  obtain ⟨_, a, rfl, rfl⟩ := h
  exact ⟨a, rfl, rfl⟩
def viewP (p : Option Addr) (lo sz cap : Nat) : Option Addr := if cap = lo then p else p.map (·.add (lo * sz))
theorem flat_drop {T : Type} {en : T → List Value} {sz : Nat} (hen : ∀ x, (en x).length = sz) : ∀ (l : List T) (k : Nat), (l.drop k).flatMap en = (l.flatMap en).drop (k * sz)
  | l, 0 => by simp
  | [], k + 1 => by simp
  | x :: l, k + 1 => by
    have h1 : (k + 1) * sz = (en x).length + k * sz := by rw [hen x, Nat.add_mul, Nat.one_mul, Nat.add_comm]
    rw [List.drop_succ_cons, flat_drop hen l k, List.flatMap_cons, h1, List.drop_append, List.drop_of_length_le (i := (en x).length + k * sz) (l := en x) (Nat.le_add_right _ _), List.nil_append, Nat.add_sub_cancel_left]
theorem RowC.low {T : Type} {w : World} {en : T → List Value} {sz cap : Nat} {p : Option Addr} {l : List T} (h : RowC w sz p l.length cap (l.flatMap en)) (hen : ∀ x, (en x).length = sz) {lo : Int} (b : 0 ≤ lo ∧ lo ≤ (l.length : Int)) :
    RowC w sz (viewP p lo.toNat sz cap) (l.drop lo.toNat).length (cap - lo.toNat) ((l.drop lo.toNat).flatMap en) := by
  obtain ⟨k, rfl⟩ : ∃ k : Nat, lo = (k : Int) := ⟨lo.toNat, by omega⟩
  rw [Int.toNat_natCast, List.length_drop]
  have hk : k ≤ l.length := by omega
  have h1 := h.1
  refine ⟨by omega, ?_, ?_⟩
  · have := flat_len hen (l.drop k)
    rw [this, List.length_drop]
  · rcases Nat.eq_zero_or_pos (l.length - k) with h0 | h0
    · exact .inl h0
    · rcases h.2.2 with hz | ⟨b', off, rfl, hc⟩
      · omega
      · right
        have hne : ¬ cap = k := by omega
        refine ⟨b', off + k * sz, ?_, fun j u hu => ?_⟩
        · unfold viewP
          rw [if_neg hne]
          simp only [Option.map_some, Option.some.injEq]
          unfold Addr.add
          split
          · rename_i h00; simp [h00]
          · rfl
        · rw [flat_drop hen, List.getElem?_drop] at hu
          have := hc _ u hu
          rwa [show off + (k * sz + j) = off + k * sz + j by omega] at this
theorem fpRow_low {p : Option Addr} {l n lo sz cap j : Nat} (hn : l ≤ n) (h : fpRow (viewP p lo sz cap) l j) : fpRow p n j := by
  obtain ⟨h0, a, e, rfl⟩ := h
  unfold viewP at e
  split at e
  · exact ⟨by omega, a, e, rfl⟩
  · cases p with
    | none => simp at e
    | some q =>
      simp only [Option.map_some, Option.some.injEq] at e
      subst e
      refine ⟨by omega, q, rfl, ?_⟩
      unfold Addr.add
      split <;> rfl
theorem run_low {T : Type} {P : Program} {w : World} {t sz cap : Nat} {p : Option Addr} {l : List T} {k : IntKind} {lo : Int} {s : Sem Next} (hs : s = Sem.bind (Instr.sliceAt t (.slice p l.length cap) (some (.int k lo)) none none) fun v => Sem.pure (Next.value v)) (b : 0 ≤ lo ∧ lo ≤ (l.length : Int))
    (ht : P.underlying t = some (.slice (P.elem t)) := by kernel_rfl) (he : (P.info? (P.elem t)).map (·.size) = some sz := by kernel_rfl) : s.run P w = .ok (.value (.slice (viewP p lo.toNat sz cap) (l.drop lo.toNat).length (cap - lo.toNat))) w := by
  subst hs
  refine run_next (v := .slice (viewP p lo.toNat sz cap) (l.drop lo.toNat).length (cap - lo.toNat)) ?_ rfl
  rw [run_sliceAt_slice _ _ _ _ _ _ ht, run_slice_l _ _ _ _ _ ht _ _ b.1 b.2, run_sizeOf' he, Result.andThen_ok, List.length_drop]
  rfl
theorem run_high {T : Type} {P : Program} {w : World} {t sz cap : Nat} {p : Option Addr} {l : List T} {k : IntKind} {hi : Int} {s : Sem Next} (hs : s = Sem.bind (Instr.sliceAt t (.slice p l.length cap) none (some (.int k hi)) none) fun v => Sem.pure (Next.value v)) (b : 0 ≤ hi ∧ hi ≤ (l.length : Int)) (hc : l.length ≤ cap)
    (ht : P.underlying t = some (.slice (P.elem t)) := by kernel_rfl) (he : (P.info? (P.elem t)).map (·.size) = some sz := by kernel_rfl) : s.run P w = .ok (.value (.slice p (l.take hi.toNat).length cap)) w := by
  subst hs
  refine run_next (v := .slice p (l.take hi.toNat).length cap) ?_ rfl
  rw [run_sliceAt_slice _ _ _ _ _ _ ht, run_slice_h _ _ _ _ _ ht _ _ b.1 (by omega), run_sizeOf' he, Result.andThen_ok, List.length_take, Nat.min_eq_left (by omega)]
  unfold sliced
  rw [Nat.zero_mul, Nat.sub_zero, Nat.sub_zero]
  congr 2
  split
  · rfl
  · cases p with
    | none => rfl
    | some a => rfl
end Go.Sx
