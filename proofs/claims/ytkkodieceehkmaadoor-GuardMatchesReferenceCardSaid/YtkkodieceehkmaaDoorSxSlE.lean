/- Sx: rows: a row appended to nothing; a row held against nil. Own work. -/
import Derived.Test.YtkkodieceehkmaaDoorSxSlD
set_option linter.unusedVariables false
namespace Go.Sx
open Go Go.RowKit
theorem But.mono {fp fp' : Nat → Prop} {w w' : World} (h : But fp w w') (hf : ∀ i, fp i → fp' i) : But fp' w w' :=
  ⟨h.os, h.tape, h.output, h.size, fun i hi hn => h.block i hi fun hx => hn (hf i hx)⟩
theorem run_app_all {T : Type} {P : Program} {w : World} {t ty e : TypeId} {sz bytes b : Nat} {zc : List Value} {en : T → List Value} {l : List T} {p : Option Addr} {cap : Nat} {s : Sem Next} (hen : ∀ x, (en x).length = sz) (hone : ∀ x, (en x).all (·.oneCell') = true) (I : Inf P e sz bytes zc)
    (hblk : (KV.blk b [] e).holds w) (R : RowAt w sz p l.length (l.flatMap en)) (hl : 0 < l.length ∧ l.length < 1000000)
    (hs : s = Sem.bind (Builtin.append_ #[t, t] ty #[.slice (some ⟨b, 0, none⟩) 0 0, .slice p l.length cap]) fun v => Sem.pure (Next.value v))
    (ht : P.underlying t = some (.slice e) := by kernel_rfl) (hsz : 0 < sz := by decide) (hby : bytes ≤ 100000 := by decide) (hz : zc.length = sz := by rfl) :
    ∃ p' cap' w', s.run P w = .ok (.value (.slice p' l.length cap')) w' ∧ w'.ownsRow 0 e sz (.slice p' l.length cap') l.length (l.flatMap en) ∧ But (KV.blk b [] e).fp w w' ∧ ∀ j, fpOwn p' j → w.heap.size ≤ j ∨ (KV.blk b [] e).fp j := by
  obtain ⟨i, z, hi, hz0, hi1, hi2, hz2⟩ := I.parts
  subst hs
  have hb : w.heap[b]? = some (.cells #[] e (0, 0)) := hblk
  have hown : w.ownsRow 0 e sz (.slice (some ⟨b, 0, none⟩) 0 0) 0 [] := ⟨by simp, .inr ⟨b, 0, #[], rfl, Nat.zero_le _, hb, Nat.le_refl _, Nat.zero_le _, by simp, by simp⟩⟩
  rcases R.2 with h0 | ⟨b2, off, rfl, hc⟩
  · omega
  obtain ⟨p', cap', w', h1, h2, h3, h4⟩ := app_row (P := P) (ty := ty) ht hi hz0 hi1 hi2 (by rw [← hz, ← hz2]; simp) hsz hown (a := ⟨b2, off, none⟩) (c := cap) (news := l.flatMap en) (flat_len hen l) hl.1 (fun j u hu => by rw [Addr.add_lit]; exact hc j u hu)
    (fun u hu => by
      obtain ⟨x, _, hx⟩ := List.mem_flatMap.1 hu
      exact List.all_eq_true.1 (hone x) u hx) (by omega) hby
  simp only [Nat.zero_add, List.nil_append] at h1 h2
  have hfp : ∀ j, fpOwn (some (⟨b, 0, none⟩ : Addr)) j → (KV.blk b [] e).fp j := fun j ⟨a, ha, hj⟩ => by
    obtain rfl := Option.some.inj ha
    exact hj.symm
  exact ⟨p', cap', w', h1, h2, h3.mono hfp, fun j hj => (h4 j hj).imp id (hfp j)⟩
theorem RowAt.some {w : World} {sz n : Nat} {p : Option Addr} {xs : List Value} (h : RowAt w sz p n xs) (h0 : 0 < n) : ∃ a, p = some a := by
  rcases h.2 with h1 | ⟨b, off, e, _⟩
  · omega
  · exact ⟨_, e⟩
theorem nil_cmp {P : Program} {w : World} {s : Sem Next} {sz n : Nat} {p : Option Addr} {xs : List Value} {r : Result Next} (h : RowAt w sz p n xs) (h0 : 0 < n) (hs : ∀ a, p = some a → s.run P w = r) : s.run P w = r := by
  obtain ⟨a, ha⟩ := h.some h0
  exact hs a ha
end Go.Sx
