/- Sx: words and proofs for walking code by symbolic states (the part 'X'). Own work, the same for every seat. -/
import Derived.Test.YtkkodieceehkmaaDoorSxW
import Derived.Carry
set_option linter.unusedVariables false
set_option linter.unusedSimpArgs false
namespace Go.Sx
open Go Go.RowKit

/-! ### What the printer uses of facts -/
theorem frP_in {N : Nat} {L : List (Option Addr × Nat)} {p : Option Addr} {n : Nat} (hx : (p, n) ∈ L) (j : Nat) (h : fpRow p n j) : frP N L j := .inr ⟨(p, n), hx, h⟩
theorem ins_as {frC : Nat → Prop} {Ks : List KV} {ins ins' : List (Option Addr × Nat)} (h : InsOK frC Ks ins') (e : ins = ins' := by kernel_rfl) : InsOK frC Ks ins := e ▸ h
theorem rowsF_nil {fr : Nat → Prop} {w : World} {o : Nat → Option Addr} {c : Nat → Nat} {i : Nat} : RowsF fr w o c i [] := trivial
theorem rowsF_cons {fr : Nat → Prop} {w : World} {o : Nat → Option Addr} {c : Nat → Nat} {i sz n cap : Nat} {p : Option Addr} {xs : List Value} {r : List (Nat × Nat × List Value)} (hs : 0 < sz) (h : RowC w sz p n cap xs ∧ ∀ j, fpRow p n j → fr j) (ho : o i = p) (hc : c i = cap) (hr : RowsF fr w o c (i + 1) r) : RowsF fr w o c i ((sz, n, xs) :: r) := by
  subst ho hc
  exact ⟨⟨hs, h⟩, hr⟩
section
variable {P : Program} {ops : Array Oper} {B : Nat} {w0 : World} {n i : Nat} {o : Oper} {Spre : Nu → St}
/-- A new row is told as one that is read only. -/
theorem ok_demo {R : List Nat} {d k : Nat} {X : Nu → KV} {p : Nu → Option Addr} {cap : Nu → Nat} {e sz m : Nat} {xs : List Value} (fr : Nat → Prop) (hf : ∀ j, B ≤ j → fr j) (hsz : 0 < sz) (h : OpOK P ops B w0 n i o Spre R (fun ν => [(d, X ν), (k, owK e sz (p ν) m (cap ν) xs)])) :
    OpOK P ops B w0 n i o Spre R (fun ν => [(d, X ν), (k, rdF fr sz (p ν) m (cap ν) xs)]) :=
  ok_mono h fun ν S a w hr => by
    have h1 : Rep B w0 n (upd (upd S d (X ν)) k (owK e sz (p ν) m (cap ν) xs)) a w := hr
    have h2 := h1.demote fr k e sz (p ν) m (cap ν) xs (upd_same _ _ _) hsz hf
    refine h2.congr fun j => ?_
    show upd (upd S d (X ν)) k _ j = upd (upd (upd S d (X ν)) k _) k _ j
    by_cases ej : j = k
    · subst ej; rw [upd_same, upd_same]
    · rw [upd_ne _ _ ej, upd_ne _ _ ej, upd_ne _ _ ej]
end
/-! ### Appends of rows -/
theorem run_app_rows {T : Type} {P : Program} {w : World} {t ty e : TypeId} {sz bytes : Nat} {zc : List Value} {en : T → List Value} {l m : List T} {p p2 : Option Addr} {cap cap2 : Nat} {s : Sem Next} (hen : ∀ x, (en x).length = sz) (hone : ∀ x, (en x).all (·.oneCell') = true) (I : Inf P e sz bytes zc)
    (hown : w.ownsRow 0 e sz (.slice p l.length cap) l.length (l.flatMap en)) (R : RowAt w sz p2 m.length (m.flatMap en)) (hm : 0 < m.length ∧ m.length < 1000000 ∧ l.length < 1000000)
    (hs : s = Sem.bind (Builtin.append_ #[t, t] ty #[.slice p l.length cap, .slice p2 m.length cap2]) fun v => Sem.pure (Next.value v))
    (ht : P.underlying t = some (.slice e) := by kernel_rfl) (hsz : 0 < sz := by decide) (hby : bytes ≤ 100000 := by decide) (hz : zc.length = sz := by rfl) :
    ∃ p' cap' w', s.run P w = .ok (.value (.slice p' (l ++ m).length cap')) w' ∧ w'.ownsRow 0 e sz (.slice p' (l ++ m).length cap') (l ++ m).length ((l ++ m).flatMap en) ∧ But (fpOwn p) w w' ∧ ∀ j, fpOwn p' j → w.heap.size ≤ j ∨ fpOwn p j := by
  obtain ⟨i, z, hi, hz0, hi1, hi2, hz2⟩ := I.parts
  subst hs
  rcases R.2 with h0 | ⟨b2, off, rfl, hc⟩
  · omega
  rw [List.length_append, List.flatMap_append]
  exact app_row (P := P) (ty := ty) ht hi hz0 hi1 hi2 (by rw [← hz, ← hz2]; simp) hsz hown (a := ⟨b2, off, none⟩) (c := cap2) (news := m.flatMap en) (flat_len hen m) hm.1 (fun j u hu => by rw [Addr.add_lit]; exact hc j u hu)
    (fun u hu => by
      obtain ⟨x, _, hx⟩ := List.mem_flatMap.1 hu
      exact List.all_eq_true.1 (hone x) u hx) (by omega) hby
theorem run_app_lit {T : Type} {P : Program} {w : World} {t ty e : TypeId} {sz bytes b : Nat} {zc cs : List Value} {en : T → List Value} {l m : List T} {p2 : Option Addr} {cap2 : Nat} {s : Sem Next} (hen : ∀ x, (en x).length = sz) (hone : ∀ x, (en x).all (·.oneCell') = true) (I : Inf P e sz bytes zc)
    (hblk : (KV.blk b cs e).holds w) (hcs : cs = l.flatMap en) (R : RowAt w sz p2 m.length (m.flatMap en)) (hm : 0 < m.length ∧ m.length < 1000000) (hl : l.length < 1000000)
    (hs : s = Sem.bind (Builtin.append_ #[t, t] ty #[.slice (some ⟨b, 0, none⟩) l.length l.length, .slice p2 m.length cap2]) fun v => Sem.pure (Next.value v))
    (ht : P.underlying t = some (.slice e) := by kernel_rfl) (hsz : 0 < sz := by decide) (hby : bytes ≤ 100000 := by decide) (hz : zc.length = sz := by rfl) :
    ∃ p' cap' w', s.run P w = .ok (.value (.slice p' (l ++ m).length cap')) w' ∧ w'.ownsRow 0 e sz (.slice p' (l ++ m).length cap') (l ++ m).length ((l ++ m).flatMap en) ∧ But (KV.blk b cs e).fp w w' ∧ ∀ j, fpOwn p' j → w.heap.size ≤ j ∨ (KV.blk b cs e).fp j := by
  have hb : w.heap[b]? = some (.cells cs.toArray e (0, 0)) := hblk
  have hlen := flat_len hen l
  have hown : w.ownsRow 0 e sz (.slice (some ⟨b, 0, none⟩) l.length l.length) l.length (l.flatMap en) := by
    refine ⟨hlen, .inr ⟨b, l.length, cs.toArray, rfl, Nat.zero_le _, hb, Nat.le_refl _, by simp only [maxLen]; omega, by rw [hcs]; simp [hlen], ?_⟩⟩
    rw [hcs, ← hlen]; exact List.take_length
  obtain ⟨p', cap', w', h1, h2, h3, h4⟩ := run_app_rows hen hone I hown R ⟨hm.1, hm.2, hl⟩ hs ht hsz hby hz
  have hfp : ∀ j, fpOwn (some (⟨b, 0, none⟩ : Addr)) j → (KV.blk b cs e).fp j := fun j ⟨a, ha, hj⟩ => by
    obtain rfl := Option.some.inj ha
    exact hj.symm
  exact ⟨p', cap', w', h1, h2, h3.mono hfp, fun j hj => (h4 j hj).imp id (hfp j)⟩
/-! ### A part with its capacity told -/
theorem run_lohim {T : Type} {P : Program} {w : World} {t sz cap : Nat} {p : Option Addr} {l : List T} {k k' k2 : IntKind} {lo hi : Int} {s : Sem Next} (hs : s = Sem.bind (Instr.sliceAt t (.slice p l.length cap) (some (.int k lo)) (some (.int k' hi)) (some (.int k2 hi))) fun v => Sem.pure (Next.value v)) (b : 0 ≤ lo ∧ lo ≤ hi ∧ hi ≤ (l.length : Int)) (hc : l.length ≤ cap)
    (ht : P.underlying t = some (.slice (P.elem t)) := by kernel_rfl) (he : (P.info? (P.elem t)).map (·.size) = some sz := by kernel_rfl) : s.run P w = .ok (.value (.slice (viewP p lo.toNat sz hi.toNat) ((l.take hi.toNat).drop lo.toNat).length (hi.toNat - lo.toNat))) w := by
  subst hs
  refine run_next (v := .slice (viewP p lo.toNat sz hi.toNat) ((l.take hi.toNat).drop lo.toNat).length (hi.toNat - lo.toNat)) ?_ rfl
  rw [run_sliceAt_slice _ _ _ _ _ _ ht, run_slice_lhm _ _ _ _ _ ht _ _ _ _ _ _ b.1 b.2.1 (by omega) (by omega), run_sizeOf' he, Result.andThen_ok, List.length_drop, List.length_take, Nat.min_eq_left (by omega)]
  rfl
theorem RowC.cut {w : World} {sz n cap c : Nat} {p : Option Addr} {xs : List Value} (h : RowC w sz p n cap xs) (hc : n ≤ c) : RowC w sz p n c xs := ⟨hc, h.2⟩
theorem RowC.lohim {T : Type} {w : World} {en : T → List Value} {sz cap : Nat} {p : Option Addr} {l : List T} (h : RowC w sz p l.length cap (l.flatMap en)) (hen : ∀ x, (en x).length = sz) {lo hi : Int} (b : 0 ≤ lo ∧ lo ≤ hi ∧ hi ≤ (l.length : Int)) :
    RowC w sz (viewP p lo.toNat sz hi.toNat) ((l.take hi.toNat).drop lo.toNat).length (hi.toNat - lo.toNat) (((l.take hi.toNat).drop lo.toNat).flatMap en) :=
  ((h.high hen ⟨by omega, b.2.2⟩).cut (c := hi.toNat) (by rw [List.length_take]; omega)).low hen ⟨b.1, by rw [List.length_take]; omega⟩
/-! ### Objects that are read only: maps -/
abbrev obF (l : Nat) (o : Obj) : KV := .fact (· = l) (fun w => w.heap[l]? = some o)
theorem obF_of {w : World} {l : Nat} {o : Obj} (h : (obF l o).holds w) : w.heap[l]? = some o := h w (agree.refl _ _)
theorem obF_fact {w : World} {l : Nat} {o : Obj} (h : w.heap[l]? = some o) (k : Nat) : (∃ fp F, (k, obF l o).2 = .fact fp F) ∧ (obF l o).holds w ∧ ∀ i, (obF l o).fp i → i < w.heap.size :=
  ⟨⟨_, _, rfl⟩, fun w' ha => (ha l rfl).trans h, fun i hi => by subst hi; exact (Array.getElem?_eq_some_iff.1 h).1⟩
theorem run_checkKey_int {P : Program} {w : World} {b : Bool} {k : Nat} {kd : IntKind} {n : Int} (hk : P.underlying k = some (.int kd)) : (Instr.checkKey b 10000 k (.int kd n)).run P w = .ok () w := by
  show (Instr.checkKey b (9999 + 1) k (.int kd n)).run P w = .ok () w
  generalize 9999 = d
  unfold Instr.checkKey
  simp [run_underlying hk]
theorem run_lookup {P : Program} {w : World} {t l k e m i : Nat} {n : Int} {kd : IntKind} {es : Array MapEntry} {clock : Nat} {v : Value} {s : Sem Next} (hs : s = Sem.bind (Instr.lookup t (.map (some l)) (.int kd n) false) fun v => Sem.pure (Next.value v))
    (hn : n = (m : Int)) (hw : w.heap[l]? = some (.map es clock)) (ht : P.underlying t = some (.map k e)) (hk : P.underlying k = some (.int kd)) (hf : Instr.findNow (.int kd) (.int kd m) es.toList 0 = some (some (i, v))) : s.run P w = .ok (.value v) w := by
  subst hs hn
  refine run_next (v := v) ?_ rfl
  have hg : (getObj l : Sem Obj).run P w = .ok (.map es clock) w := by simp [getObj, Sem.run, hw]
  unfold Instr.lookup Instr.findKey
  simp [run_underlying ht, hg, run_checkKey_int hk, run_underlying hk, hf]
end Go.Sx
namespace Go.Sx
theorem fpRow_high {p : Option Addr} {n m j : Nat} (hn : m ≤ n) (h : fpRow p m j) : fpRow p n j := ⟨Nat.lt_of_lt_of_le h.1 hn, h.2⟩
end Go.Sx
theorem List.length_take_le_self {α : Type _} (n : Nat) (l : List α) : (l.take n).length ≤ l.length := by rw [List.length_take]; omega
