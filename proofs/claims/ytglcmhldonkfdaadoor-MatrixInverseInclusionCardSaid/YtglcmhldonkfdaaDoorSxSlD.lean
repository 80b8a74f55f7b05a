/- Sx: rows: appends, makes and stores in the printer's words. Own work. -/
import Derived.Test.YtglcmhldonkfdaaDoorSxSlC
set_option linter.unusedVariables false
namespace Go.Sx
open Go Go.RowKit
def Inf (P : Program) (e : TypeId) (sz bytes : Nat) (zc : List Value) : Prop :=
  (P.info? e).map (fun i => (i.zero.map (·.cells.toList), i.size, i.bytes)) = some (some zc, sz, bytes)
theorem Inf.parts {P : Program} {e : TypeId} {sz bytes : Nat} {zc : List Value} (h : Inf P e sz bytes zc) : ∃ i z, P.info? e = some i ∧ i.zero = some z ∧ i.size = sz ∧ i.bytes = bytes ∧ z.cells.toList = zc := by
  unfold Inf at h
  obtain ⟨i, hi, h⟩ := Option.map_eq_some_iff.1 h
  simp only [Prod.mk.injEq] at h
  obtain ⟨hz, h1, h2⟩ := h
  obtain ⟨z, hz1, hz2⟩ := Option.map_eq_some_iff.1 hz
  exact ⟨i, z, hi, hz1, h1, h2, hz2⟩
theorem run_app_row {T : Type} {P : Program} {w : World} {t ty e eb : TypeId} {sz bytes b : Nat} {zc cs : List Value} {en : T → List Value} {l : List T} {p : Option Addr} {cap : Nat} {s : Sem Next} (hen : ∀ x, (en x).length = sz) (I : Inf P e sz bytes zc)
    (hown : w.ownsRow 0 e sz (.slice p l.length cap) l.length (l.flatMap en)) (hblk : (KV.blk b cs eb).holds w) {news : List T} (hcs : cs = news.flatMap en) (hm : 0 < news.length ∧ news.length < 1000)
    (hs : s = Sem.bind (Builtin.append_ #[t, t] ty #[.slice p l.length cap, .slice (some ⟨b, 0, none⟩) news.length news.length]) fun v => Sem.pure (Next.value v)) (hl : l.length < 1000000)
    (ht : P.underlying t = some (.slice e) := by kernel_rfl) (h1 : cs.all (·.oneCell') = true := by kernel_rfl) (hsz : 0 < sz := by decide) (hby : bytes ≤ 100000 := by decide) (hz : zc.length = sz := by rfl) :
    ∃ p' cap' w', s.run P w = .ok (.value (.slice p' (l ++ news).length cap')) w' ∧ w'.ownsRow 0 e sz (.slice p' (l ++ news).length cap') (l ++ news).length ((l ++ news).flatMap en) ∧ But (fpOwn p) w w' ∧ ∀ j, fpOwn p' j → w.heap.size ≤ j ∨ fpOwn p j := by
  obtain ⟨i, z, hi, hz0, hi1, hi2, hz2⟩ := I.parts
  subst hs
  have hb : w.heap[b]? = some (.cells cs.toArray eb (0, 0)) := hblk
  rw [List.length_append, List.flatMap_append]
  refine app_row ht hi hz0 hi1 hi2 (by rw [← hz, ← hz2]; simp) hsz hown (a := ⟨b, 0, none⟩) (news := news.flatMap en) (flat_len hen news) hm.1 (fun j u hu => ?_) (fun u hu => ?_) (by omega) hby
  · rw [← hcs] at hu
    rw [Addr.add_lit]
    simp [World.cell?, hb, hu]
  · rw [← hcs] at hu
    exact List.all_eq_true.1 h1 u hu
theorem madeCells_flat {T : Type} {en : T → List Value} {sz : Nat} (hen : ∀ x, (en x).length = sz) (z : T) (zc : Array Value) (hz : zc.toList = en z) (hs : 0 < sz) (n : Nat) : (madeCells zc (n * sz)).toList = (List.replicate n z).flatMap en := by
  have hzs : zc.size = sz := by rw [← hen z, ← hz, Array.length_toList]
  apply List.ext_getElem?
  intro j
  by_cases hj : j < n * sz
  · have h1 : j / sz < n := Nat.div_lt_of_lt_mul (by rw [Nat.mul_comm]; exact hj)
    have h2 : j % sz < sz := Nat.mod_lt _ hs
    have h3 : j / sz * sz + j % sz = j := by rw [Nat.mul_comm]; exact Nat.div_add_mod j sz
    have h4 : (en z)[j % sz]? = some zc[j % zc.size]! := by
      rw [← hz, hzs, Array.getElem?_toList]
      rw [getElem!_pos zc (j % sz) (by omega)]
      exact Array.getElem?_eq_getElem (by omega)
    have h5 := flat_get hen (List.replicate n z) (j / sz) z (by rw [List.getElem?_replicate, if_pos h1]) (j % sz) _ h4
    rw [h3] at h5
    rw [h5]
    simp [madeCells, hj]
  · rw [List.getElem?_eq_none (by simp [madeCells]; omega), List.getElem?_eq_none (by rw [flat_len hen, List.length_replicate]; omega)]
theorem run_make_row {T : Type} {P : Program} {w : World} {t e : TypeId} {sz bytes : Nat} {zc : List Value} {en : T → List Value} {z : T} {k : IntKind} {m : Int} {s : Sem Next} (hen : ∀ x, (en x).length = sz) (I : Inf P e sz bytes zc) (hz : zc = en z) (hm : 0 ≤ m ∧ m < 1000000)
    (hs : s = Sem.bind (Instr.makeSlice t (.int k m) (.int k m)) fun v => Sem.pure (Next.value v)) (ht : P.underlying t = some (.slice e) := by kernel_rfl) (hsz : 0 < sz := by decide) (hsz2 : sz ≤ 16 := by decide) (hby : bytes ≤ 100000 := by decide) :
    ∃ p' cap' w', s.run P w = .ok (.value (.slice p' (List.replicate m.toNat z).length cap')) w' ∧ w'.ownsRow 0 e sz (.slice p' (List.replicate m.toNat z).length cap') (List.replicate m.toNat z).length ((List.replicate m.toNat z).flatMap en) ∧ But (fun _ => False) w w' ∧ ∀ j, fpOwn p' j → w.heap.size ≤ j ∨ False := by
  obtain ⟨i, zv, hi, hz0, hi1, hi2, hz2⟩ := I.parts
  subst hs
  obtain ⟨c, rfl⟩ : ∃ c : Nat, m = (c : Int) := ⟨m.toNat, by omega⟩
  rw [List.length_replicate, Int.toNat_natCast]
  have hc : c < 1000000 := by omega
  have hcs : c * sz ≤ 16777216 := by
    have := Nat.mul_le_mul (Nat.le_of_lt hc) hsz2
    omega
  have hcb : bytes * c ≤ 281474976710656 := by
    have := Nat.mul_le_mul hby (Nat.le_of_lt hc)
    omega
  rw [← madeCells_flat hen z zv.cells (by rw [hz2, hz]) hsz]
  exact make_row ht hi hz0 hi1 hi2 hcs hcb (by omega) _
theorem el_store {T : Type} {P : Program} {w : World} {e : TypeId} {sz : Nat} {en : T → List Value} {l : List T} {p : Option Addr} {cap : Nat} {s : Sem Next} {i : Nat} {x y : T} {vs : List Value} (hown : w.ownsRow 0 e sz (.slice p l.length cap) l.length (l.flatMap en)) (hen : ∀ x, (en x).length = sz)
    (hx : l[i]? = some x) (f : Nat) (h0 : 0 < vs.length) (hf : f + vs.length ≤ sz) (he : en y = lay (en x) f vs)
    (hp : poke P s [] = some (.skip, (addrs (hdB p) (hdO p + (i * sz + f)) vs.length).zip vs)) :
    ∃ w', s.run P w = .ok .skip w' ∧ w'.ownsRow 0 e sz (.slice p l.length cap) l.length ((l.set i y).flatMap en) ∧ But (fpOwn p) w w' := by
  have hi : i < l.length := (List.getElem?_eq_some_iff.1 hx).1
  have hle : i * sz + f + vs.length ≤ l.length * sz := by
    have : (i + 1) * sz ≤ l.length * sz := Nat.mul_le_mul_right _ hi
    rw [Nat.add_mul] at this
    omega
  rw [← flat_set hen l i x y f vs hx hf he]
  exact set_row hown hle h0 hp
end Go.Sx
