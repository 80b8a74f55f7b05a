/- Sx: words and proofs for walking code by symbolic states (the part 'SyE'). Own work, the same for every seat. -/
import Derived.Test.YtglcmhldonkfdaaDoorSyD
import Derived.Carry
import Derived.Lib.AppendZeros
import Derived.ChangeKeysEq
set_option linter.unusedVariables false
set_option linter.unusedSimpArgs false
namespace Go.Sx
open Go Go.RowKit
section
variable {P : Program} {ops : Array Oper} {B : Nat} {w0 : World} {n i : Nat} {o : Oper} {Spre : Nu → St}
end
theorem run_app_rows1 {T : Type} {P : Program} {w : World} {t ty e : TypeId} {sz bytes : Nat} {zc : List Value} {en : T → List Value} {l m : List T} {p p2 : Option Addr} {cap cap2 : Nat} {s : Sem Next} (hen : ∀ x, (en x).length = sz) (hone : ∀ x, (en x).all (·.oneCell') = true) (I : Inf P e sz bytes zc)
    (hown : w.ownsRow 0 e sz (.slice p l.length cap) l.length (l.flatMap en)) (R : RowAt w sz p2 m.length (m.flatMap en)) (hm : 0 < m.length ∧ m.length < 1000000 ∧ l.length < 1000000)
    (hs : s = Sem.bind (Builtin.append_ #[t, t] ty #[.slice p l.length cap, .slice p2 m.length cap2]) fun v => Sem.pure (Next.value v))
    (ht : P.underlying t = some (.slice e) := by kernel_rfl) (hsz : 0 < sz := by decide) (hby : bytes ≤ 100000 := by decide) (hz : zc.length = sz := by rfl) :
    ∃ p' cap' w', s.run P w = .ok (.value (.slice p' (l ++ m).length cap')) w' ∧ w'.ownsRow 0 e sz (.slice p' (l ++ m).length cap') (l ++ m).length ((l ++ m).flatMap en) ∧ But (fpOwn p) w w' ∧ ∀ j, fpOwn p' j → w.heap.size ≤ j ∨ fpOwn p j := by
  obtain ⟨i, z, hi, hz0, hi1, hi2, hz2⟩ := I.parts
  subst hs
  rcases R.2 with h0 | ⟨b2, off, rfl, hc⟩
  · omega
  rw [List.length_append, List.flatMap_append]
  exact app_row (P := P) (ty := ty) ht hi hz0 hi1 hi2 (by rw [← hz, ← hz2]; simp) hsz hown (a := ⟨b2, off, none⟩) (c := cap2) (news := m.flatMap en) (flat_len hen m) hm.1 (fun j u hu => by rw [Addr.add_lit]; exact hc j u hu)
    (fun u hu => by
      obtain ⟨x, _, hx⟩ := List.mem_flatMap.1 hu
      exact List.all_eq_true.1 (hone x) u hx) (by omega) hby
theorem run_app_none {P : Program} {w : World} {t ty e : TypeId} {sz n cap cap2 : Nat} {p p2 : Option Addr} (ht : P.underlying t = some (.slice e)) (hi : (P.info? e).map (·.size) = some sz) (hc : n ≤ cap) :
    (Builtin.append_ #[t, t] ty #[.slice p n cap, .slice p2 0 cap2]).run P w = .ok (.slice p n cap) w := by
  have hu := run_underlying (P := P) (w := w) ht
  have hz := run_sizeOf' (P := P) (w := w) hi
  have h0 : (Builtin.lenOf (.slice p2 0 cap2)).run P w = .ok 0 w := rfl
  have hf : (Builtin.firstCells sz 0 (.slice p2 0 cap2)).run P w = .ok #[] w := by
    cases p2 with
    | none => rfl
    | some a => simp [Builtin.firstCells, loadCells, loadCellsFrom, Sem.run]
  unfold Builtin.append_
  cases p with
  | none => simp [hu, hz, h0, hc, hf]
  | some a => simp [hu, hz, h0, hc, hf, storeCells]
theorem run_app_rows {T : Type} {P : Program} {w : World} {t ty e : TypeId} {sz bytes : Nat} {zc : List Value} {en : T → List Value} {l m : List T} {p p2 : Option Addr} {cap cap2 : Nat} {s : Sem Next} (hen : ∀ x, (en x).length = sz) (hone : ∀ x, (en x).all (·.oneCell') = true) (I : Inf P e sz bytes zc)
    (hown : w.ownsRow 0 e sz (.slice p l.length cap) l.length (l.flatMap en)) (R : RowAt w sz p2 m.length (m.flatMap en)) (hm : m.length < 1000000 ∧ l.length < 1000000)
    (hs : s = Sem.bind (Builtin.append_ #[t, t] ty #[.slice p l.length cap, .slice p2 m.length cap2]) fun v => Sem.pure (Next.value v))
    (ht : P.underlying t = some (.slice e) := by kernel_rfl) (hsz : 0 < sz := by decide) (hby : bytes ≤ 100000 := by decide) (hz : zc.length = sz := by rfl) :
    ∃ p' cap' w', s.run P w = .ok (.value (.slice p' (l ++ m).length cap')) w' ∧ w'.ownsRow 0 e sz (.slice p' (l ++ m).length cap') (l ++ m).length ((l ++ m).flatMap en) ∧ But (fpOwn p) w w' ∧ ∀ j, fpOwn p' j → w.heap.size ≤ j ∨ fpOwn p j := by
  rcases Nat.eq_zero_or_pos m.length with h0 | h0
  · obtain rfl := List.eq_nil_of_length_eq_zero h0
    obtain ⟨i, z, hi, hz0, hi1, hi2, hz2⟩ := I.parts
    subst hs
    refine ⟨p, cap, w, run_to ?_, by simpa using hown, ⟨rfl, rfl, rfl, Nat.le_refl _, fun _ _ _ => rfl⟩, fun j h => .inr h⟩
    rw [List.append_nil]
    exact run_app_none ht (by rw [hi]; exact congrArg some hi1) (owns_cap hown)
  · exact run_app_rows1 hen hone I hown R ⟨h0, hm⟩ hs ht hsz hby hz
theorem run_cut0 {T : Type} {P : Program} {w : World} {t e sz cap : Nat} {en : T → List Value} {l : List T} {p : Option Addr} {k : IntKind} {hi : Int} {s : Sem Next} (hown : w.ownsRow 0 e sz (.slice p l.length cap) l.length (l.flatMap en)) (hh : hi = 0)
    (hs : s = Sem.bind (Instr.sliceAt t (.slice p l.length cap) none (some (.int k hi)) none) fun v => Sem.pure (Next.value v))
    (ht : P.underlying t = some (.slice (P.elem t)) := by kernel_rfl) (he : (P.info? (P.elem t)).map (·.size) = some sz := by kernel_rfl) :
    ∃ p' cap' w', s.run P w = .ok (.value (.slice p' ([] : List T).length cap')) w' ∧ w'.ownsRow 0 e sz (.slice p' ([] : List T).length cap') ([] : List T).length (([] : List T).flatMap en) ∧ But (fpOwn p) w w' ∧ ∀ j, fpOwn p' j → w.heap.size ≤ j ∨ fpOwn p j := by
  subst hh
  have hr := run_high (P := P) (w := w) (t := t) (sz := sz) (cap := cap) (p := p) (l := l) (k := k) (hi := 0) hs ⟨Int.le_refl _, by omega⟩ (owns_cap hown) ht he
  refine ⟨p, cap, w, hr, ?_, ⟨rfl, rfl, rfl, Nat.le_refl _, fun _ _ _ => rfl⟩, fun j hj => .inr hj⟩
  refine ⟨by simp, ?_⟩
  rcases hown.2 with ⟨hv, h0⟩ | ⟨g, c, cur, hv, hb, hg, hn, hm, hsz, htk⟩
  · injection hv with h1 h2 h3
    subst h1 h3
    exact .inl ⟨rfl, rfl⟩
  · injection hv with h1 _ h3
    subst h1 h3
    exact .inr ⟨g, cap, cur, rfl, hb, hg, by simp, hm, hsz, by simp⟩
theorem zeroCells_flat {T : Type} {en : T → List Value} {sz : Nat} (hen : ∀ x, (en x).length = sz) (z : T) (zc : Array Value) (hz : zc.toList = en z) (hs : 0 < sz) (n : Nat) : (Builtin.zeroCells zc n).toList = (List.replicate n z).flatMap en := by
  have hzs : zc.size = sz := by rw [← hen z, ← hz, Array.length_toList]
  rw [← madeCells_flat hen z zc hz hs n, ← hzs]
  rfl
theorem run_app_zeros {T : Type} {P : Program} {w : World} {t tn ty e : TypeId} {sz bytes : Nat} {zc : List Value} {en : T → List Value} {z : T} {k kn : IntKind} {m : Int} {s : Sem Next} (hen : ∀ x, (en x).length = sz) (I : Inf P e sz bytes zc) (hz : zc = en z) (hm : 0 < m ∧ m < 1000000)
    (hs : s = Sem.bind (Builtin.append_ #[t, tn] ty #[.slice none 0 0, .int k m]) fun v => Sem.pure (Next.value v)) (ht : P.underlying t = some (.slice e) := by kernel_rfl) (htn : P.underlying tn = some (.int kn) := by kernel_rfl) (hsz : 0 < sz := by decide) (hby : bytes ≤ 100000 := by decide) :
    ∃ p' cap' w', s.run P w = .ok (.value (.slice p' (List.replicate m.toNat z).length cap')) w' ∧ w'.ownsRow 0 e sz (.slice p' (List.replicate m.toNat z).length cap') (List.replicate m.toNat z).length ((List.replicate m.toNat z).flatMap en) ∧ But (fun _ => False) w w' ∧ ∀ j, fpOwn p' j → w.heap.size ≤ j ∨ False := by
  obtain ⟨i, zv, hi, hz0, hi1, hi2, hz2⟩ := I.parts
  subst hs
  obtain ⟨c, rfl⟩ : ∃ c : Nat, m = (c : Int) := ⟨m.toNat, by omega⟩
  rw [List.length_replicate, Int.toNat_natCast]
  have hc : c < 1000000 := by omega
  have hcb : c * i.bytes ≤ 281474976710656 := by
    rw [hi2]
    have := Nat.mul_le_mul (Nat.le_of_lt hc) hby
    omega
  have hr := Lib.run_append_nil_zeros (P := P) w t tn ty e i zv k kn ht htn hi hz0 c (by omega) (by omega) (by omega) hcb
  have hflat := zeroCells_flat hen z zv.cells (by rw [hz2, hz]) hsz
  have hge := grownCap_ge w c 0 e
  have hle := grownCap_le_maxLen w c 0 e (by simp only [maxLen]; omega)
  have hzs : zv.cells.size = sz := by rw [← hen z, ← hz, ← hz2, Array.length_toList]
  refine ⟨_, _, _, run_to hr, ⟨?_, .inr ⟨w.heap.size, grownCap w c 0 e, _, rfl, Nat.zero_le _, World.alloc_heap_new w.drew _, hge, hle, ?_, ?_⟩⟩, ⟨rfl, rfl, rfl, ?_, fun j hj _ => ?_⟩, fun j hj => ?_⟩
  · rw [flat_len hen, List.length_replicate]
  · simp only [Array.size_append, size_zeroCells, hzs, ← Nat.add_mul]
    congr 1
    omega
  · rw [Array.toList_append, hflat c]
    have : ((List.replicate c z).flatMap en).length = c * sz := by rw [flat_len hen, List.length_replicate]
    rw [← this, List.take_append_of_le_length (Nat.le_refl _), List.take_length]
  · show w.heap.size ≤ (w.heap.push _).size
    rw [Array.size_push]; omega
  · show (w.heap.push _)[j]? = _
    rw [Array.getElem?_push_lt hj, Array.getElem?_eq_getElem hj]
  · obtain ⟨a, ha, rfl⟩ := hj
    obtain rfl := Option.some.inj ha
    exact .inl (Nat.le_refl _)
section
variable {P : Program} {ops : Array Oper} {B : Nat} {w0 : World} {n i : Nat} {o : Oper} {Spre : Nu → St}
end
end Go.Sx
namespace Go.Sx
open Go Go.RowKit
end Go.Sx
