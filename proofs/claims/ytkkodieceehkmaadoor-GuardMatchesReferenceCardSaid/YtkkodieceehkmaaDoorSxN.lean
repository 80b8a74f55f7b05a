/- Sx: words and proofs for walking code by symbolic states (the part 'N'). Own work, the same for every seat. -/
import Derived.Test.YtkkodieceehkmaaDoorSxY
import Derived.Lib.AppendZeros
set_option linter.unusedVariables false
set_option linter.unusedSimpArgs false
namespace Go.Sx
open Go Go.RowKit

/-! ### Rows of rows: each header with its row -/
structure Sl (T : Type) where
  p : Option Addr
  cap : Nat
  l : List T
def enSl {T : Type} (x : Sl T) : List Value := [.slice x.p x.l.length x.cap]
theorem enSl_len {T : Type} (x : Sl T) : (enSl x).length = 1 := rfl
def RowsC {T : Type} (w : World) (sz : Nat) (en : T → List Value) (L : List (Sl T)) : Prop := ∀ x ∈ L, RowC w sz x.p x.l.length x.cap (x.l.flatMap en)
def fpSl {T : Type} (L : List (Sl T)) (j : Nat) : Prop := ∃ x ∈ L, fpRow x.p x.l.length j
abbrev rdN {T : Type} (fr : Nat → Prop) (sz : Nat) (en : T → List Value) (L : List (Sl T)) : KV := .fact (fpSl L) (fun w => RowsC w sz en L ∧ ∀ j, fpSl L j → fr j)
section
variable {T : Type} {w : World} {sz : Nat} {en : T → List Value} {L : List (Sl T)} {x : List (List T)} {fr : Nat → Prop}
theorem rdN_of (h : (rdN fr sz en L).holds w) : RowsC w sz en L := (h w (agree.refl _ _)).1
theorem rdN_fr (h : (rdN fr sz en L).holds w) : ∀ j, fpSl L j → fr j := (h w (agree.refl _ _)).2
theorem RowsC.agree {w' : World} (h : RowsC w sz en L) (ha : agree (fpSl L) w w') : RowsC w' sz en L := fun x hx => ⟨(h x hx).1, (h x hx).2.agree fun i hi => ha i ⟨x, hx, hi⟩⟩
theorem RowsC.inb (h : RowsC w sz en L) (hs : 0 < sz) (i : Nat) (hi : fpSl L i) : i < w.heap.size := by
  obtain ⟨x, hx, hi⟩ := hi
  exact (h x hx).2.inb hs i hi
theorem rdN_fact (h : RowsC w sz en L) (hf : ∀ j, fpSl L j → fr j) (hs : 0 < sz) (k : Nat) : (∃ fp F, (k, rdN fr sz en L).2 = .fact fp F) ∧ (rdN fr sz en L).holds w ∧ ∀ i, (rdN fr sz en L).fp i → i < w.heap.size :=
  ⟨⟨_, _, rfl⟩, fun w' ha => ⟨h.agree ha, hf⟩, h.inb hs⟩
theorem sl_len (h : x = L.map Sl.l) : x.length = L.length := by rw [h, List.length_map]
theorem sl_get (h : x = L.map Sl.l) {i : Nat} {t : List T} (ht : x[i]? = some t) : ∃ p c, L[i]? = some ⟨p, c, t⟩ := by
  rw [h, List.getElem?_map] at ht
  obtain ⟨⟨p, c, l⟩, hy, rfl⟩ := Option.map_eq_some_iff.1 ht
  exact ⟨p, c, hy⟩
theorem sl_row (F : RowsC w sz en L) {i : Nat} {p : Option Addr} {c : Nat} {t : List T} (hy : L[i]? = some ⟨p, c, t⟩) : RowC w sz p t.length c (t.flatMap en) := F _ (List.mem_of_getElem? hy)
theorem sl_fp {i : Nat} {p : Option Addr} {c j : Nat} {t : List T} (hy : L[i]? = some ⟨p, c, t⟩) (h : fpRow p t.length j) : fpSl L j := ⟨_, List.mem_of_getElem? hy, h⟩
theorem rowsC_nil : RowsC w sz en ([] : List (Sl T)) := fun x hx => by cases hx
theorem rowsC_cons {p : Option Addr} {c : Nat} {l : List T} (F : RowC w sz p l.length c (l.flatMap en)) (r : RowsC w sz en L) : RowsC w sz en (⟨p, c, l⟩ :: L) := fun x hx => by
  rcases List.mem_cons.1 hx with rfl | hx
  · exact F
  · exact r x hx
theorem sl_app (h : x = L.map Sl.l) (p : Option Addr) (c : Nat) (l : List T) : x ++ [l] = (L ++ [⟨p, c, l⟩] : List (Sl T)).map Sl.l := by rw [h, List.map_append]; rfl
theorem Rep.newN {B n : Nat} {w0 : World} {S : St} {a : Act} {T : Type} (en : T → List Value) {w : World} (h : Rep B w0 n S a w) (k : Nat) (fr : Nat → Prop) (sz : Nat) : Rep B w0 n (upd S k (rdN fr sz en [])) a w :=
  h.ent k _ (by intro c x h; cases h) (fun w' ha => ⟨rowsC_nil, fun j ⟨x, hx, _⟩ => by cases hx⟩) (fun i ⟨x, hx, _⟩ => by cases hx) (fun h => h.elim) (fun k' i _ _ ⟨x, hx, _⟩ => by cases hx)
theorem Rep.addN {B n : Nat} {w0 : World} {S : St} {a : Act} (h : Rep B w0 n S a w) (k kb : Nat) {p : Option Addr} {c : Nat} {l : List T} (hk : S k = rdN fr sz en L) (hb : (S kb).excl = False) (F : RowC w sz p l.length c (l.flatMap en)) (hf : ∀ j, fpRow p l.length j → fr j ∧ (S kb).fp j) (hs : 0 < sz) :
    Rep B w0 n (upd S k (rdN fr sz en (L ++ [⟨p, c, l⟩]))) a w := by
  have hh := h.holds k
  rw [hk] at hh
  have h1 := rdN_of hh
  have h2 := rdN_fr hh
  have hR : RowsC w sz en (L ++ [⟨p, c, l⟩]) := fun x hx => by
    rcases List.mem_append.1 hx with hx | hx
    · exact h1 x hx
    · obtain rfl := List.mem_singleton.1 hx; exact F
  have hcase : ∀ j, fpSl (L ++ [⟨p, c, l⟩]) j → fpSl L j ∨ fpRow p l.length j := fun j ⟨x, hx, hj⟩ => by
    rcases List.mem_append.1 hx with hx | hx
    · exact .inl ⟨x, hx, hj⟩
    · obtain rfl := List.mem_singleton.1 hx; exact .inr hj
  have hF := rdN_fact (fr := fr) hR (fun j hj => (hcase j hj).elim (h2 j) fun h => (hf j h).1) hs k
  refine h.ent k _ (by intro c x h; cases h) hF.2.1 hF.2.2 (fun h => h.elim) fun k' j hne hx hj hj' => ?_
  rcases hx with hx | hx
  · exact hx.elim
  · rcases hcase j hj with h3 | h3
    · exact h.disj k' k j hne hx hj' (by rw [hk]; exact h3)
    · have : k' ≠ kb := fun e => by rw [e, hb] at hx; exact hx
      exact h.disj k' kb j this hx hj' (hf j h3).2
end
/-! ### Rows of rows handed back -/
def mkL {T : Type} (o : Nat → Option Addr) (c : Nat → Nat) : Nat → List (List T) → List (Sl T)
  | _, [] => []
  | i, l :: r => ⟨o i, c i, l⟩ :: mkL o c (i + 1) r
theorem mkL_l {T : Type} {o : Nat → Option Addr} {c : Nat → Nat} : ∀ (i : Nat) (x : List (List T)), x = (mkL o c i x).map Sl.l
  | _, [] => rfl
  | i, l :: r => by rw [mkL, List.map_cons, ← mkL_l (i + 1) r]
def oL {T : Type} (p : Option Addr) (L : List (Sl T)) (i : Nat) : Option Addr := match i with | 0 => p | j + 1 => match L[j]? with | some x => x.p | none => none
def cL {T : Type} (cap : Nat) (L : List (Sl T)) (i : Nat) : Nat := match i with | 0 => cap | j + 1 => match L[j]? with | some x => x.cap | none => 0
theorem mkL_of {T : Type} {p : Option Addr} {cap : Nat} {L : List (Sl T)} : ∀ (M : List (Sl T)) (i : Nat), (∀ j x, M[j]? = some x → L[i + j]? = some x) → mkL (oL p L) (cL cap L) (i + 1) (M.map Sl.l) = M
  | [], _, _ => rfl
  | y :: M, i, h => by
    have h0 : L[i]? = some y := h 0 y rfl
    rw [List.map_cons, mkL, mkL_of M (i + 1) fun j x hx => by have := h (j + 1) x (by simpa using hx); rwa [show i + (j + 1) = i + 1 + j by omega] at this]
    show (⟨match L[i]? with | some x => x.p | none => none, match L[i]? with | some x => x.cap | none => 0, y.l⟩ : Sl T) :: M = y :: M
    rw [h0]
structure RowsN {T : Type} (fr : Nat → Prop) (w : World) (sz : Nat) (en : T → List Value) (p : Option Addr) (cap : Nat) (L : List (Sl T)) : Prop where
  hd : RowC w 1 p L.length cap (L.flatMap enSl)
  hfr : ∀ j, fpRow p L.length j → fr j
  inn : RowsC w sz en L
  ifr : ∀ j, fpSl L j → fr j
theorem k_doneN {T : Type} {P : Program} {n : Nat} {w0 : World} {S : St} {a : Act} {w : World} (hr : Rep w0.heap.size w0 n S a w) {fn : Func} (fr : Nat → Prop) {sz e : Nat} {en : T → List Value} {L : List (Sl T)} {x : List (List T)} {p : Option Addr} {cap : Nat} (k kI : Nat) (hx : x = L.map Sl.l)
    (hk : S k = owK e 1 p L.length cap (L.flatMap enSl)) (hkI : S kI = rdN fr sz en L) (hB : ∀ j, w0.heap.size ≤ j → fr j)
    (hks : (fn.results.toList).all (fun x => isSlot (S (resT x))) = true)
    (hp : peek P (resultsE fn (fun t => envS S (.tmp t))) [] [] = some (.slice p L.length cap, [])) :
    bodyPost P fn (fun e' w' => ∃ g : Gh, e' = .returned (.slice (g.o 0) (mkL g.o g.n 1 x).length (g.n 0)) ∧ Below w0.heap.size w0 w' ∧ RowsN fr w' sz en (g.o 0) (g.n 0) (mkL g.o g.n 1 x)) .ret a w := by
  have hm : mkL (oL p L) (cL cap L) 1 x = L := by rw [hx]; exact mkL_of L 0 fun j x hx => by rwa [Nat.zero_add]
  have hI := hr.holds kI
  rw [hkI] at hI
  have ho := hr.owRow k hk
  refine ⟨hr.defers, .slice p L.length cap, run_results hr _ [] hks (by simp) hp, ⟨cL cap L, oL p L⟩, ?_, hr.below, ?_⟩
  · show _ = Ending.returned (.slice p (mkL (oL p L) (cL cap L) 1 x).length cap)
    rw [hm]
  · show RowsN fr w sz en p cap (mkL (oL p L) (cL cap L) 1 x)
    rw [hm]
    exact ⟨ho.1, fun j hj => hB j (ho.2 j hj), rdN_of hI, rdN_fr hI⟩
section
variable {P : Program} {ops : Array Oper} {B : Nat} {w0 : World} {n i : Nat} {o : Oper} {Spre : Nu → St}
theorem ok_callN {T : Type} (ks : List Nat) (Ks : Nu → List KV) (f : FuncId) (args : Nu → Array Value) (sz : Nat) (en : T → List Value) (x : List (List T)) (frC : Nat → Prop) (d k : Nat) (hs : 0 < sz)
    (hC : ∀ ν w, AllH (Ks ν) w → Calls P f (args ν) w fun e' w' => ∃ g : Gh, e' = .returned (.slice (g.o 0) (mkL g.o g.n 1 x).length (g.n 0)) ∧ Below w.heap.size w w' ∧ RowsN (frP w.heap.size (insV (args ν).toList)) w' sz en (g.o 0) (g.n 0) (mkL g.o g.n 1 x))
    (hI : ∀ ν w, AllH (Ks ν) w → InsOK frC (Ks ν) (insV (args ν).toList)) (hB : ∀ j, w0.heap.size ≤ j → frC j)
    (hK : ∀ ν, ks.map (Spre ν) = Ks ν := by intro _; kernel_rfl)
    (hd : o.dst = some d := by rfl) (hdn : Nat.blt d n = true := by rfl) (hkn : Nat.ble n k = true := by rfl) (hsel : noSel o = true := by rfl) (hg : o.guard = none := by rfl)
    (hk : ∀ ν, (o.op.operands.all (knownB (Spre ν))) = true := by intro _; kernel_rfl) (hp : ∀ ν, (condsOf o (Spre ν)).all id = true := by intro _; kernel_rfl)
    (hv : ∀ ν w, (execOp (envU (Spre ν)) o).run P w = .ok (.enter f (args ν)) w := by intro _ _; kernel_rfl) :
    OpOK P ops B w0 n i o Spre (ks ++ tmpsOf ops o) (fun ν => [(d, .slot true (.slice ((ν i).o 0) (mkL (ν i).o (ν i).n 1 x).length ((ν i).n 0))), (k, rdF frC 1 ((ν i).o 0) (mkL (ν i).o (ν i).n 1 x).length ((ν i).n 0) ((mkL (ν i).o (ν i).n 1 x).flatMap enSl)), (k + 1, rdN frC sz en (mkL (ν i).o (ν i).n 1 x))]) := by
  have hdn' : d < n := by simpa using hdn
  refine opok_of (c := fun _ => true) (fun _ h => List.mem_append_right _ h) (noSel_spec hsel) (fun ν => by unfold wantS; rw [hg]) hk ?_ ?_
  · intro ν S a w hcf; cases hcf
  · intro Q p S a w hpi hct hag hrep hev0
    have hev : ∀ ν, Ext p ν → execOp a.eval o = execOp (envU (Spre ν)) o := fun ν hν => (hev0 ν hν).trans (env_strip (noSel_spec hsel) (by simpa using hp ν))
    have hSK : ∀ ν, Ext p ν → ks.map (S ν) = Ks ν := fun ν hν => (map_ag fun k hk' => hag ν hν k (List.mem_append_left _ hk')).trans (hK ν)
    have hall : ∀ ν, Ext p ν → AllH (Ks ν) w := fun ν hν => allH_of ks _ (hSK ν hν) fun k hk' => (hrep ν hν).holds k
    unfold Oper.wp
    obtain ⟨ν0, h0⟩ := Ext.exists p
    have hargs : ∀ ν, Ext p ν → args ν = args ν0 := fun ν hν => by
      have h1 := hv ν0 w
      rw [← hev ν0 h0, hev ν hν, hv ν w] at h1
      injection h1 with h1 _; injection h1
    rw [hev ν0 h0, hv ν0 w]
    simp only [Oper.upon]
    refine (hC ν0 w (hall ν0 h0)).mono ?_
    rintro e' w' ⟨g, rfl, hb, hrows⟩
    refine ⟨g, fun ν hν => ?_⟩
    have hν' := hν.of_set hpi
    have hr := hrep ν hν'
    rw [hν.at_set, hd]
    have h1 := hr.ins hB (hI ν w (hall ν hν')) (hSK ν hν')
    rw [hargs ν hν'] at h1
    have r3 := (hr.world hb).put hdn' true (.slice (g.o 0) (mkL g.o g.n 1 x).length (g.n 0))
    have hno : ∀ k' j, (upd (S ν) d (.slot true (.slice (g.o 0) (mkL g.o g.n 1 x).length (g.n 0))) k').excl → frP w.heap.size (insV (args ν0).toList) j → ¬ (upd (S ν) d (.slot true (.slice (g.o 0) (mkL g.o g.n 1 x).length (g.n 0))) k').fp j := fun k' j hx hj => by
      by_cases ed : k' = d
      · subst ed; rw [upd_same] at hx; exact hx.elim
      · rw [upd_ne _ _ ed] at hx ⊢; exact (h1 j hj).2 k' hx
    have hF := rdF_fact (fr := frC) hrows.hd (fun j hj => (h1 j (hrows.hfr j hj)).1) (by decide) k
    have r4 := r3.ent k _ (by intro c x h; cases h) hF.2.1 hF.2.2 (fun h => h.elim) (fun k' j hne hx hj => by
      rcases hx with hx | hx
      · exact hx.elim
      · exact hno k' j hx (hrows.hfr j hj))
    have hG := rdN_fact (fr := frC) hrows.inn (fun j hj => (h1 j (hrows.ifr j hj)).1) hs (k + 1)
    refine r4.ent (k + 1) _ (by intro c x h; cases h) hG.2.1 hG.2.2 (fun h => h.elim) (fun k' j hne hx hj => ?_)
    rcases hx with hx | hx
    · exact hx.elim
    · by_cases ek : k' = k
      · subst ek; rw [upd_same] at hx; exact hx.elim
      · rw [upd_ne _ _ ek] at hx ⊢; exact hno k' j hx (hrows.ifr j hj)
end
/-! ### Growing nothing -/
theorem run_app_nil {T : Type} {P : Program} {w : World} {t ty e : TypeId} {sz bytes : Nat} {zc : List Value} {en : T → List Value} {m : List T} {p2 : Option Addr} {cap2 : Nat} {s : Sem Next} (hen : ∀ x, (en x).length = sz) (hone : ∀ x, (en x).all (·.oneCell') = true) (I : Inf P e sz bytes zc)
    (R : RowAt w sz p2 m.length (m.flatMap en)) (hm : 0 < m.length ∧ m.length < 1000000)
    (hs : s = Sem.bind (Builtin.append_ #[t, t] ty #[.slice none 0 0, .slice p2 m.length cap2]) fun v => Sem.pure (Next.value v))
    (ht : P.underlying t = some (.slice e) := by kernel_rfl) (hsz : 0 < sz := by decide) (hby : bytes ≤ 100000 := by decide) (hz : zc.length = sz := by rfl) :
    ∃ p' cap' w', s.run P w = .ok (.value (.slice p' m.length cap')) w' ∧ w'.ownsRow 0 e sz (.slice p' m.length cap') m.length (m.flatMap en) ∧ But (fun _ => False) w w' ∧ ∀ j, fpOwn p' j → w.heap.size ≤ j ∨ False := by
  have hown : w.ownsRow 0 e sz (.slice none ([] : List T).length 0) ([] : List T).length (([] : List T).flatMap en) := ⟨by simp, .inl ⟨rfl, rfl⟩⟩
  obtain ⟨p', cap', w', h1, h2, h3, h4⟩ := run_app_rows (l := []) hen hone I hown R ⟨hm.1, hm.2, by simp⟩ hs ht hsz hby hz
  have hfp : ∀ j, fpOwn (none : Option Addr) j → False := fun j ⟨a, ha, _⟩ => by cases ha
  exact ⟨p', cap', w', h1, h2, h3.mono hfp, fun j hj => (h4 j hj).imp id (hfp j)⟩
/-- An own row cut to nothing. -/
theorem run_cut0 {T : Type} {P : Program} {w : World} {t e sz cap : Nat} {en : T → List Value} {l : List T} {p : Option Addr} {k : IntKind} {hi : Int} {s : Sem Next} (hown : w.ownsRow 0 e sz (.slice p l.length cap) l.length (l.flatMap en)) (hh : hi = 0)
    (hs : s = Sem.bind (Instr.sliceAt t (.slice p l.length cap) none (some (.int k hi)) none) fun v => Sem.pure (Next.value v))
    (ht : P.underlying t = some (.slice (P.elem t)) := by kernel_rfl) (he : (P.info? (P.elem t)).map (·.size) = some sz := by kernel_rfl) :
    ∃ p' cap' w', s.run P w = .ok (.value (.slice p' ([] : List T).length cap')) w' ∧ w'.ownsRow 0 e sz (.slice p' ([] : List T).length cap') ([] : List T).length (([] : List T).flatMap en) ∧ But (fpOwn p) w w' ∧ ∀ j, fpOwn p' j → w.heap.size ≤ j ∨ fpOwn p j := by
  subst hh
  have hr := run_high (P := P) (w := w) (t := t) (sz := sz) (cap := cap) (p := p) (l := l) (k := k) (hi := 0) hs ⟨Int.le_refl _, by omega⟩ (owns_cap hown) ht he
  refine ⟨p, cap, w, hr, ?_, ⟨rfl, rfl, rfl, Nat.le_refl _, fun _ _ _ => rfl⟩, fun j hj => .inr hj⟩
  refine ⟨by simp, ?_⟩
  rcases hown.2 with ⟨hv, h0⟩ | ⟨g, c, cur, hv, hb, hg, hn, hm, hsz, htk⟩
  · injection hv with h1 h2 h3
    subst h1 h3
    exact .inl ⟨rfl, rfl⟩
  · injection hv with h1 _ h3
    subst h1 h3
    exact .inr ⟨g, cap, cur, rfl, hb, hg, by simp, hm, hsz, by simp⟩
end Go.Sx
namespace Go.Sx
open Go Go.RowKit
theorem Rep.addV {T : Type} {sz : Nat} {en : T → List Value} {L : List (Sl T)} {fr : Nat → Prop} {B n : Nat} {w0 : World} {S : St} {a : Act} {w : World} (h : Rep B w0 n S a w) (k kb : Nat) (p : Option Addr) (c : Nat) (l : List T) {szb m capb : Nat} {pb : Option Addr} {xsb : List Value} (hk : S k = rdN fr sz en L) (hkb : S kb = rdF fr szb pb m capb xsb)
    (F : RowC w szb pb m capb xsb → RowC w sz p l.length c (l.flatMap en)) (hf : ∀ j, fpRow p l.length j → fpRow pb m j) (hs : 0 < sz) : Rep B w0 n (upd S k (rdN fr sz en (L ++ [⟨p, c, l⟩]))) a w := by
  have hb := h.rdRow kb hkb
  exact h.addN k kb hk (by rw [hkb]; rfl) (F hb.1) (fun j hj => ⟨hb.2 j (hf j hj), by rw [hkb]; exact hf j hj⟩) hs
end Go.Sx

namespace Go.Sx
open Go Go.RowKit
theorem zeroCells_flat {T : Type} {en : T → List Value} {sz : Nat} (hen : ∀ x, (en x).length = sz) (z : T) (zc : Array Value) (hz : zc.toList = en z) (hs : 0 < sz) (n : Nat) : (Builtin.zeroCells zc n).toList = (List.replicate n z).flatMap en := by
  have hzs : zc.size = sz := by rw [← hen z, ← hz, Array.length_toList]
  rw [← madeCells_flat hen z zc hz hs n, ← hzs]
  rfl
theorem run_app_zeros {T : Type} {P : Program} {w : World} {t tn ty e : TypeId} {sz bytes : Nat} {zc : List Value} {en : T → List Value} {z : T} {k kn : IntKind} {m : Int} {s : Sem Next} (hen : ∀ x, (en x).length = sz) (I : Inf P e sz bytes zc) (hz : zc = en z) (hm : 0 < m ∧ m < 1000000)
    (hs : s = Sem.bind (Builtin.append_ #[t, tn] ty #[.slice none 0 0, .int k m]) fun v => Sem.pure (Next.value v)) (ht : P.underlying t = some (.slice e) := by kernel_rfl) (htn : P.underlying tn = some (.int kn) := by kernel_rfl) (hsz : 0 < sz := by decide) (hby : bytes ≤ 100000 := by decide) :
    ∃ p' cap' w', s.run P w = .ok (.value (.slice p' (List.replicate m.toNat z).length cap')) w' ∧ w'.ownsRow 0 e sz (.slice p' (List.replicate m.toNat z).length cap') (List.replicate m.toNat z).length ((List.replicate m.toNat z).flatMap en) ∧ But (fun _ => False) w w' ∧ ∀ j, fpOwn p' j → w.heap.size ≤ j ∨ False := by
  obtain ⟨i, zv, hi, hz0, hi1, hi2, hz2⟩ := I.parts
  subst hs
  obtain ⟨c, rfl⟩ : ∃ c : Nat, m = (c : Int) := ⟨m.toNat, by omega⟩
  rw [List.length_replicate, Int.toNat_natCast]
  have hc : c < 1000000 := by omega
  have hcb : c * i.bytes ≤ 281474976710656 := by
    rw [hi2]
    have := Nat.mul_le_mul (Nat.le_of_lt hc) hby
    omega
  have hr := Lib.run_append_nil_zeros (P := P) w t tn ty e i zv k kn ht htn hi hz0 c (by omega) (by omega) (by omega) hcb
  have hflat := zeroCells_flat hen z zv.cells (by rw [hz2, hz]) hsz
  have hge := grownCap_ge w c 0 e
  have hle := grownCap_le_maxLen w c 0 e (by simp only [maxLen]; omega)
  have hzs : zv.cells.size = sz := by rw [← hen z, ← hz, ← hz2, Array.length_toList]
  refine ⟨_, _, _, run_to hr, ⟨?_, .inr ⟨w.heap.size, grownCap w c 0 e, _, rfl, Nat.zero_le _, World.alloc_heap_new w.drew _, hge, hle, ?_, ?_⟩⟩, ⟨rfl, rfl, rfl, ?_, fun j hj _ => ?_⟩, fun j hj => ?_⟩
  · rw [flat_len hen, List.length_replicate]
  · simp only [Array.size_append, size_zeroCells, hzs, ← Nat.add_mul]
    congr 1
    omega
  · rw [Array.toList_append, hflat c]
    have : ((List.replicate c z).flatMap en).length = c * sz := by rw [flat_len hen, List.length_replicate]
    rw [← this, List.take_append_of_le_length (Nat.le_refl _), List.take_length]
  · show w.heap.size ≤ (w.heap.push _).size
    rw [Array.size_push]; omega
  · show (w.heap.push _)[j]? = _
    rw [Array.getElem?_push_lt hj, Array.getElem?_eq_getElem hj]
  · obtain ⟨a, ha, rfl⟩ := hj
    obtain rfl := Option.some.inj ha
    exact .inl (Nat.le_refl _)
end Go.Sx
