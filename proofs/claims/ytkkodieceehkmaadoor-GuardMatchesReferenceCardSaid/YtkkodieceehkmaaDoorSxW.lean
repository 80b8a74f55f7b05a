/- Sx: words and proofs for walking code by symbolic states (the part 'W'). Own work, the same for every seat. -/
import Derived.Test.YtkkodieceehkmaaDoorSxV
set_option linter.unusedVariables false
set_option linter.unusedSimpArgs false
namespace Go.Sx
open Go Go.RowKit

/-! ### Rows handed back as facts; a block that a call may write -/
def RowsF (fr : Nat → Prop) (w : World) (o : Nat → Option Addr) (c : Nat → Nat) : Nat → List (Nat × Nat × List Value) → Prop
  | _, [] => True
  | i, x :: r => (0 < x.1 ∧ RowC w x.1 (o i) x.2.1 (c i) x.2.2 ∧ ∀ j, fpRow (o i) x.2.1 j → fr j) ∧ RowsF fr w o c (i + 1) r
def rowEnts (fr : Nat → Prop) (o : Nat → Option Addr) (c : Nat → Nat) (k : Nat) : Nat → List (Nat × Nat × List Value) → List (Nat × KV)
  | _, [] => []
  | i, x :: r => (k + i, rdF fr x.1 (o i) x.2.1 (c i) x.2.2) :: rowEnts fr o c k (i + 1) r
theorem rdF_excl {fr : Nat → Prop} {sz n cap : Nat} {p : Option Addr} {xs : List Value} : ¬ (rdF fr sz p n cap xs).excl := fun h => h
theorem Rep.rowsF {fr frC : Nat → Prop} {o : Nat → Option Addr} {c : Nat → Nat} {B n k : Nat} {w0 : World} {a : Act} {w : World} : ∀ (rs : List (Nat × Nat × List Value)) (i : Nat) (S : St), Rep B w0 n S a w → RowsF fr w o c i rs →
    (∀ j, fr j → j < w.heap.size → frC j ∧ ∀ k', (S k').excl → ¬ (S k').fp j) → Rep B w0 n (updAll S (rowEnts frC o c k i rs)) a w
  | [], _, S, h, _, _ => h
  | x :: r, i, S, h, hr, hf => by
    obtain ⟨⟨hsz, hR, hfp⟩, hr⟩ := hr
    have hin := fun j hj => hR.2.inb hsz j hj
    have hF := rdF_fact (fr := frC) hR (fun j hj => (hf j (hfp j hj) (hin j hj)).1) hsz (k + i)
    have h1 := h.ent (k + i) (rdF frC x.1 (o i) x.2.1 (c i) x.2.2) (by intro c x h; cases h) hF.2.1 hF.2.2 (fun h => h.elim) (fun k' j hne hx hj => by
      rcases hx with hx | hx
      · exact hx.elim
      · exact (hf j (hfp j hj) (hin j hj)).2 k' hx)
    refine Rep.rowsF r (i + 1) _ h1 hr fun j hj hjw => ⟨(hf j hj hjw).1, fun k' hx => ?_⟩
    by_cases e : k' = k + i
    · subst e; rw [upd_same] at hx; exact hx.elim
    · rw [upd_ne _ _ e] at hx ⊢; exact (hf j hj hjw).2 k' hx
/-- The rows that went into a call are facts of the caller. -/
def InsOK (frC : Nat → Prop) (Ks : List KV) (ins : List (Option Addr × Nat)) : Prop := ∀ x ∈ ins, ∀ j, fpRow x.1 x.2 j → frC j ∧ ∃ K ∈ Ks, ¬ K.excl ∧ K.fp j
theorem ins_nil {frC : Nat → Prop} {Ks : List KV} : InsOK frC Ks [] := fun x hx => by cases hx
theorem ins_cons {frC : Nat → Prop} {Ks : List KV} {p : Option Addr} {n : Nat} {r : List (Option Addr × Nat)} (K : KV) (hK : K ∈ Ks) (hx : ¬ K.excl) (h : ∀ j, fpRow p n j → frC j ∧ K.fp j) (hr : InsOK frC Ks r) : InsOK frC Ks ((p, n) :: r) := fun x hxr j hj => by
  rcases List.mem_cons.1 hxr with rfl | hxr
  · exact ⟨(h j hj).1, K, hK, hx, (h j hj).2⟩
  · exact hr x hxr j hj
theorem ins_emp {frC : Nat → Prop} {Ks : List KV} {p : Option Addr} {r : List (Option Addr × Nat)} (hr : InsOK frC Ks r) : InsOK frC Ks ((p, 0) :: r) := fun x hxr j hj => by
  rcases List.mem_cons.1 hxr with rfl | hxr
  · exact absurd hj.1 (Nat.lt_irrefl 0)
  · exact hr x hxr j hj
section
variable {P : Program} {ops : Array Oper} {B : Nat} {w0 : World} {n i : Nat} {o : Oper} {Spre : Nu → St}
/-- The rows among values. -/
def insV1 : Nat → Value → List (Option Addr × Nat)
  | _, .slice p n _ => [(p, n)]
  | d + 1, .agg vs => vs.toList.flatMap (insV1 d)
  | _, _ => []
def insV (vs : List Value) : List (Option Addr × Nat) := vs.flatMap (insV1 9)
theorem Rep.ins {frC : Nat → Prop} {S : St} {a : Act} {w : World} {ks : List Nat} {Ks : List KV} {ins : List (Option Addr × Nat)} (hr : Rep B w0 n S a w) (hB : ∀ j, w0.heap.size ≤ j → frC j) (hI : InsOK frC Ks ins) (hks : ks.map S = Ks) :
    ∀ j, frP w.heap.size ins j → frC j ∧ ∀ k', (S k').excl → ¬ (S k').fp j := by
  rintro j (hj | ⟨x, hx, hj⟩)
  · exact ⟨hB j (Nat.le_trans hr.below.size hj), fun k' _ hk => by have := hr.inb k' j hk; omega⟩
  · obtain ⟨h1, K, hK, hne, hfp⟩ := hI x hx j hj
    rw [← hks] at hK
    obtain ⟨k, _, rfl⟩ := List.mem_map.1 hK
    refine ⟨h1, fun k' hex hk => ?_⟩
    have : k' ≠ k := fun e => hne (e ▸ hex)
    exact hr.disj k' k j this hex hk hfp
theorem map_ag {S S' : St} : ∀ {ks : List Nat}, (∀ k ∈ ks, S k = S' k) → ks.map S = ks.map S'
  | [], _ => rfl
  | k :: ks, h => by rw [List.map_cons, List.map_cons, h k (by simp), map_ag fun j hj => h j (List.mem_cons_of_mem _ hj)]
/-- A call that hands back rows as facts. -/
theorem ok_callF (ks : List Nat) (Ks : Nu → List KV) (f : FuncId) (args : Nu → Array Value) (v : Gh → Value) (rs : List (Nat × Nat × List Value)) (frC : Nat → Prop) (d k : Nat)
    (hC : ∀ ν w, AllH (Ks ν) w → Calls P f (args ν) w fun en w' => ∃ g : Gh, en = .returned (v g) ∧ Below w.heap.size w w' ∧ RowsF (frP w.heap.size (insV (args ν).toList)) w' g.o g.n 0 rs)
    (hI : ∀ ν w, AllH (Ks ν) w → InsOK frC (Ks ν) (insV (args ν).toList)) (hB : ∀ j, w0.heap.size ≤ j → frC j)
    (hK : ∀ ν, ks.map (Spre ν) = Ks ν := by intro _; kernel_rfl)
    (hd : o.dst = some d := by rfl) (hdn : Nat.blt d n = true := by rfl) (hkn : Nat.ble n k = true := by rfl) (hsel : noSel o = true := by rfl) (hg : o.guard = none := by rfl)
    (hk : ∀ ν, (o.op.operands.all (knownB (Spre ν))) = true := by intro _; kernel_rfl) (hp : ∀ ν, (condsOf o (Spre ν)).all id = true := by intro _; kernel_rfl)
    (hv : ∀ ν w, (execOp (envU (Spre ν)) o).run P w = .ok (.enter f (args ν)) w := by intro _ _; kernel_rfl) :
    OpOK P ops B w0 n i o Spre (ks ++ tmpsOf ops o) (fun ν => (d, .slot true (v (ν i))) :: rowEnts frC (ν i).o (ν i).n k 0 rs) := by
  have hdn' : d < n := by simpa using hdn
  refine opok_of (c := fun _ => true) (fun _ h => List.mem_append_right _ h) (noSel_spec hsel) (fun ν => by unfold wantS; rw [hg]) hk ?_ ?_
  · intro ν S a w hcf; cases hcf
  · intro Q p S a w hpi hct hag hrep hev0
    have hev : ∀ ν, Ext p ν → execOp a.eval o = execOp (envU (Spre ν)) o := fun ν hν => (hev0 ν hν).trans (env_strip (noSel_spec hsel) (by simpa using hp ν))
    have hSK : ∀ ν, Ext p ν → ks.map (S ν) = Ks ν := fun ν hν => (map_ag fun k hk' => hag ν hν k (List.mem_append_left _ hk')).trans (hK ν)
    have hall : ∀ ν, Ext p ν → AllH (Ks ν) w := fun ν hν => allH_of ks _ (hSK ν hν) fun k hk' => (hrep ν hν).holds k
    unfold Oper.wp
    obtain ⟨ν0, h0⟩ := Ext.exists p
    have hargs : ∀ ν, Ext p ν → args ν = args ν0 := fun ν hν => by
      have h1 := hv ν0 w
      rw [← hev ν0 h0, hev ν hν, hv ν w] at h1
      injection h1 with h1 _; injection h1
    rw [hev ν0 h0, hv ν0 w]
    simp only [Oper.upon]
    refine (hC ν0 w (hall ν0 h0)).mono ?_
    rintro en w' ⟨g, rfl, hb, hrows⟩
    refine ⟨g, fun ν hν => ?_⟩
    have hν' := hν.of_set hpi
    have hr := hrep ν hν'
    rw [hν.at_set, hd]
    have h1 := hr.ins hB (hI ν w (hall ν hν')) (hSK ν hν')
    rw [hargs ν hν'] at h1
    have r3 := (hr.world hb).put hdn' true (v g)
    refine Rep.rowsF rs 0 _ r3 hrows fun j hj hjw => ⟨(h1 j hj).1, fun k' hx => ?_⟩
    by_cases ed : k' = d
    · subst ed; rw [upd_same] at hx; exact hx.elim
    · rw [upd_ne _ _ ed] at hx ⊢; exact (h1 j hj).2 k' hx
/-- A call that may write one block of the caller's own, told by a pointer among the arguments. -/
theorem ok_callX (ks : List Nat) (Ks : Nu → List KV) (f : FuncId) (args : Nu → Array Value) (v : Gh → Value) (rs : List (Nat × Nat × List Value)) (frC : Nat → Prop) (d k kb jb : Nat) (b : Nu → Nat) (cs : Nu → List Value) (cs' : Gh → List Value) (e : TypeId)
    (hC : ∀ ν w, (KV.blk (b ν) (cs ν) e).holds w → AllH (Ks ν) w → (∀ K ∈ Ks ν, ¬ K.fp (b ν)) → Calls P f (args ν) w fun en w' => ∃ g : Gh, en = .returned (v g) ∧ But (· = b ν) w w' ∧ (KV.blk (b ν) (cs' g) e).holds w' ∧ RowsF (frP w.heap.size (insV (cs ν ++ (args ν).toList))) w' g.o g.n 0 rs)
    (hI : ∀ ν w, AllH (Ks ν) w → InsOK frC (Ks ν) (insV (cs ν ++ (args ν).toList))) (hB : ∀ j, w0.heap.size ≤ j → frC j)
    (hK : ∀ ν, ks.map (Spre ν) = Ks ν := by intro _; kernel_rfl) (hb : ∀ ν, Spre ν kb = .blk (b ν) (cs ν) e := by intro _; kernel_rfl) (hkn2 : ks.all (fun k => !Nat.beq k kb) = true := by rfl) (hj : ∀ ν, (args ν)[jb]? = some (.pointer (some ⟨b ν, 0, none⟩)) := by intro _; kernel_rfl)
    (hd : o.dst = some d := by rfl) (hdn : Nat.blt d n = true := by rfl) (hkn : Nat.ble n k = true := by rfl) (hkb : Nat.ble n kb = true := by rfl) (hkk : Nat.blt kb k = true := by rfl) (hsel : noSel o = true := by rfl) (hg : o.guard = none := by rfl)
    (hk : ∀ ν, (o.op.operands.all (knownB (Spre ν))) = true := by intro _; kernel_rfl) (hp : ∀ ν, (condsOf o (Spre ν)).all id = true := by intro _; kernel_rfl)
    (hv : ∀ ν w, (execOp (envU (Spre ν)) o).run P w = .ok (.enter f (args ν)) w := by intro _ _; kernel_rfl) :
    OpOK P ops B w0 n i o Spre (kb :: ks ++ tmpsOf ops o) (fun ν => (d, .slot true (v (ν i))) :: (kb, .blk (b ν) (cs' (ν i)) e) :: rowEnts frC (ν i).o (ν i).n k 0 rs) := by
  have hdn' : d < n := by simpa using hdn
  have hkb' : n ≤ kb := by simpa using hkb
  refine opok_of (c := fun _ => true) (fun _ h => List.mem_append_right _ h) (noSel_spec hsel) (fun ν => by unfold wantS; rw [hg]) hk ?_ ?_
  · intro ν S a w hcf; cases hcf
  · intro Q p S a w hpi hct hag hrep hev0
    have hev : ∀ ν, Ext p ν → execOp a.eval o = execOp (envU (Spre ν)) o := fun ν hν => (hev0 ν hν).trans (env_strip (noSel_spec hsel) (by simpa using hp ν))
    have hSK : ∀ ν, Ext p ν → ks.map (S ν) = Ks ν := fun ν hν => (map_ag fun k hk' => hag ν hν k (List.mem_append_left _ (List.mem_cons_of_mem _ hk'))).trans (hK ν)
    have hSb : ∀ ν, Ext p ν → S ν kb = .blk (b ν) (cs ν) e := fun ν hν => (hag ν hν kb (by simp)).trans (hb ν)
    have hblk : ∀ ν, Ext p ν → (KV.blk (b ν) (cs ν) e).holds w := fun ν hν => by
      have := (hrep ν hν).holds kb
      rwa [hSb ν hν] at this
    have hall : ∀ ν, Ext p ν → AllH (Ks ν) w := fun ν hν => allH_of ks _ (hSK ν hν) fun k hk' => (hrep ν hν).holds k
    have hnot : ∀ ν, Ext p ν → ∀ K ∈ Ks ν, ¬ K.fp (b ν) := fun ν hν K hK' hf => by
      rw [← hSK ν hν] at hK'
      obtain ⟨k', hk', rfl⟩ := List.mem_map.1 hK'
      refine (hrep ν hν).disj kb k' (b ν) (fun e => ?_) (by rw [hSb ν hν]; trivial) (by rw [hSb ν hν]; rfl) hf
      have := List.all_eq_true.1 hkn2 k' hk'
      rw [← e, show Nat.beq kb kb = true from Nat.beq_refl kb] at this
      cases this
    unfold Oper.wp
    obtain ⟨ν0, h0⟩ := Ext.exists p
    have hargs : ∀ ν, Ext p ν → args ν = args ν0 := fun ν hν => by
      have h1 := hv ν0 w
      rw [← hev ν0 h0, hev ν hν, hv ν w] at h1
      injection h1 with h1 _; injection h1
    have hbe : ∀ ν, Ext p ν → b ν = b ν0 := fun ν hν => by
      have h1 := hj ν
      rw [hargs ν hν, hj ν0] at h1
      injection h1 with h1; injection h1 with h1; injection h1 with h1; injection h1 with h1
      exact h1.symm
    have hcse : ∀ ν, Ext p ν → cs ν = cs ν0 := fun ν hν => by
      have h1 : w.heap[b ν]? = some (.cells (cs ν).toArray e (0, 0)) := hblk ν hν
      have h2 : w.heap[b ν0]? = some (.cells (cs ν0).toArray e (0, 0)) := hblk ν0 h0
      rw [hbe ν hν, h2] at h1
      injection h1 with h1; injection h1 with h1
      exact (List.toArray_inj h1).symm
    rw [hev ν0 h0, hv ν0 w]
    simp only [Oper.upon]
    refine (hC ν0 w (hblk ν0 h0) (hall ν0 h0) (hnot ν0 h0)).mono ?_
    rintro en w' ⟨g, rfl, hbut, hnew, hrows⟩
    refine ⟨g, fun ν hν => ?_⟩
    have hν' := hν.of_set hpi
    have hr := hrep ν hν'
    rw [hν.at_set, hd]
    have h1 := hr.ins hB (hI ν w (hall ν hν')) (hSK ν hν')
    rw [hargs ν hν', hcse ν hν'] at h1
    rw [← hbe ν hν'] at hbut hnew
    have hown : ∀ k' j, k' ≠ kb → j = b ν → ¬ (S ν k').fp j := fun k' j hne hj hf => hr.disj kb k' j (Ne.symm hne) (by rw [hSb ν hν']; trivial) (by rw [hSb ν hν']; exact hj) hf
    have hBb : B ≤ b ν := hr.ge kb (b ν) (by rw [hSb ν hν']; trivial) (by rw [hSb ν hν']; rfl)
    have q1 : Rep B w0 n (upd (S ν) kb .none) a w := hr.weak fun j => by
      by_cases ej : j = kb
      · subst ej; rw [upd_same]; exact .inl rfl
      · rw [upd_ne _ _ ej]; exact .inr rfl
    have q2 := q1.but hbut (fun j hj => by subst hj; exact hBb) (fun k' j hj hj' => by
      by_cases ej : k' = kb
      · subst ej; rw [upd_same] at hj'; exact hj'
      · rw [upd_ne _ _ ej] at hj'; exact hown k' j ej hj hj')
    have q3 := q2.put hdn' true (v g)
    have q4 := q3.ent kb (.blk (b ν) (cs' g) e) (by intro c x h; cases h) hnew (fun j hj => by
        subst hj
        exact (Array.getElem?_eq_some_iff.1 hnew).1)
      (fun _ j hj => by subst hj; exact hBb) (fun k' j hne _ hj hj' => by
        by_cases ed : k' = d
        · subst ed; rw [upd_same] at hj'; exact hj'
        · rw [upd_ne _ _ ed, upd_ne _ _ hne] at hj'
          exact hown k' j hne hj hj')
    have q5 : Rep B w0 n (upd (upd (S ν) d (.slot true (v g))) kb (.blk (b ν) (cs' g) e)) _ w' := q4.congr fun j => by
      by_cases ej : j = kb
      · subst ej; rw [upd_same, upd_same]
      · rw [upd_ne _ _ ej, upd_ne _ _ ej]
        by_cases ed : j = d
        · subst ed; rw [upd_same, upd_same]
        · rw [upd_ne _ _ ed, upd_ne _ _ ed, upd_ne _ _ ej]
    refine Rep.rowsF rs 0 _ q5 hrows fun j hj hjw => ⟨(h1 j hj).1, fun k' hx hf => ?_⟩
    by_cases ek : k' = kb
    · subst ek
      rw [upd_same] at hf
      exact (h1 j hj).2 k' (by rw [hSb ν hν']; trivial) (by rw [hSb ν hν']; exact hf)
    · rw [upd_ne _ _ ek] at hx hf
      by_cases ed : k' = d
      · subst ed; rw [upd_same] at hx; exact hx.elim
      · rw [upd_ne _ _ ed] at hx hf; exact (h1 j hj).2 k' hx hf
end

/-! ### A function's end: rows as facts -/
theorem k_doneF {P : Program} {n : Nat} {w0 : World} {S : St} {a : Act} {w : World} (hr : Rep w0.heap.size w0 n S a w) {fn : Func} (v : Gh → Value) (g : Gh) (fr : Nat → Prop) (rs : List (Nat × Nat × List Value)) (segs : List (Nat × Seg))
    (hrows : RowsF fr w g.o g.n 0 rs)
    (hk : (fn.results.toList).all (fun x => isSlot (S (resT x))) = true)
    (hs : ∀ p ∈ segs, (∃ e, S p.1 = .blk p.2.b p.2.cs e) ∧ Nat.ble (p.2.off + p.2.m) p.2.cs.length = true)
    (hp : peek P (resultsE fn (fun t => envS S (.tmp t))) (segV (segs.map (·.2))) [] = some (v g, segA (segs.map (·.2)))) :
    bodyPost P fn (fun en w' => ∃ g : Gh, en = .returned (v g) ∧ Below w0.heap.size w0 w' ∧ RowsF fr w' g.o g.n 0 rs) .ret a w :=
  ⟨hr.defers, v g, run_results hr _ segs hk hs hp, g, rfl, hr.below, hrows⟩
theorem Rep.rdRow {B n : Nat} {w0 : World} {S : St} {a : Act} {w : World} (h : Rep B w0 n S a w) (k : Nat) {fr : Nat → Prop} {sz m cap : Nat} {p : Option Addr} {xs : List Value} (hk : S k = rdF fr sz p m cap xs) : RowC w sz p m cap xs ∧ ∀ j, fpRow p m j → fr j := by
  have hh := h.holds k
  rw [hk] at hh
  exact ⟨rdF_of hh, rdF_fr hh⟩
theorem Rep.owRow {B n : Nat} {w0 : World} {S : St} {a : Act} {w : World} (h : Rep B w0 n S a w) (k : Nat) {e sz m cap : Nat} {p : Option Addr} {xs : List Value} (hk : S k = owK e sz p m cap xs) : RowC w sz p m cap xs ∧ ∀ j, fpRow p m j → B ≤ j := by
  have hh := h.holds k
  rw [hk] at hh
  exact ⟨owns_rowC (ow_of hh), fun j hj => h.ge k j (by rw [hk]; trivial) (by rw [hk]; exact fp_own hj)⟩

/-! ### A function that may write one block that isn't its own -/
abbrev frK (b : Nat) (w : World) : KV := .fact (fun i => b < i ∧ i < w.heap.size) (fun w' => ∀ i, b < i → i < w.heap.size → w'.heap[i]? = w.heap[i]?)
abbrev KF : Nat := 999998
theorem Rep.lower {B B' n : Nat} {w0 : World} {S : St} {a : Act} {w : World} (h : Rep B w0 n S a w) (hx : ∀ k, ¬ (S k).excl) (hB : B' ≤ B) : Rep B' w0 n S a w where
  defers := h.defers
  size := h.size
  slots := h.slots
  below := h.below.mono hB
  base := Nat.le_trans hB h.base
  holds := h.holds
  inb := h.inb
  ge k i hk _ := (hx k hk).elim
  disj k k' i _ hk _ := (hx k hk).elim
theorem facts_excl : ∀ (fs : List (Nat × KV)) (S : St), (∀ k, ¬ (S k).excl) → (∀ x ∈ fs, ¬ x.2.excl) → ∀ k, ¬ (updAll S fs k).excl
  | [], S, h, _, k => h k
  | (j, v) :: r, S, h, hf, k => facts_excl r _ (fun k' => by
      by_cases e : k' = j
      · subst e; rw [upd_same]; exact hf (k', v) (by simp)
      · rw [upd_ne _ _ e]; exact h k') (fun x hx => hf x (List.mem_cons_of_mem _ hx)) k
theorem facts_fp {b : Nat} : ∀ (fs : List (Nat × KV)) (S : St), (∀ k, ¬ (S k).fp b) → (∀ x ∈ fs, ¬ x.2.fp b) → ∀ k, ¬ (updAll S fs k).fp b
  | [], S, h, _, k => h k
  | (j, v) :: r, S, h, hf, k => facts_fp r _ (fun k' => by
      by_cases e : k' = j
      · subst e; rw [upd_same]; exact hf (k', v) (by simp)
      · rw [upd_ne _ _ e]; exact h k') (fun x hx => hf x (List.mem_cons_of_mem _ hx)) k
theorem argL_slot (args : List Value) (k : Nat) : ofL (argL 0 args) k = .none ∨ ∃ v, ofL (argL 0 args) k = .slot true v := by
  unfold ofL
  rw [updAll_look, look_argL]
  simp only [Nat.zero_le, if_true, Nat.sub_zero]
  cases args[k]? with
  | none => exact .inl rfl
  | some v => exact .inr ⟨v, rfl⟩
theorem k_enterX {P : Program} {f : FuncId} {fn : Func} {c : Code} {args : List Value} {w : World} {R : Ending → World → Prop} (n : Nat) (fs : List (Nat × KV)) (kb b : Nat) (cs : List Value) (e : TypeId) (hb : (KV.blk b cs e).holds w)
    (hfs : ∀ x ∈ fs, ((∃ fp F, x.2 = .fact fp F) ∧ x.2.holds w ∧ ∀ i, x.2.fp i → i < w.heap.size) ∧ ¬ x.2.fp b)
    (hf : P.funcs[f]? = some fn) (hbd : fn.body = some c) (hn : fn.ntmps = n) (hl : Nat.ble args.length n = true)
    (h : ∀ a, Rep b w n (upd (upd (updAll (ofL (argL 0 args)) fs) KF (frK b w)) kb (.blk b cs e)) a w → c.wp P (mkQ (bodyPost P fn R .ret) [] (bodyPost P fn R .ret)) a w) : Calls P f args.toArray w R := by
  refine k_enterF n fs (fun x hx => (hfs x hx).1) hf hbd hn hl fun a H => h a ?_
  have hbs : b < w.heap.size := (Array.getElem?_eq_some_iff.1 hb).1
  have hex : ∀ k, ¬ (updAll (ofL (argL 0 args)) fs k).excl := facts_excl fs _ (fun k => by
    rcases argL_slot args k with h | ⟨v, h⟩ <;> rw [h] <;> exact fun h => h) fun x hx => by
      obtain ⟨⟨⟨fp, F, hv⟩, _⟩, _⟩ := hfs x hx
      rw [hv]; exact fun h => h
  have hfp : ∀ k, ¬ (updAll (ofL (argL 0 args)) fs k).fp b := facts_fp fs _ (fun k => by
    rcases argL_slot args k with h | ⟨v, h⟩ <;> rw [h] <;> exact fun h => h) fun x hx => (hfs x hx).2
  have h1 := H.lower hex (Nat.le_of_lt hbs)
  have h2 := h1.ent KF (frK b w) (by intro c x h; cases h) (fun w' ha i h1 h2 => ha i ⟨h1, h2⟩) (fun i hi => hi.2) (fun h => h.elim) (fun k' j _ hx _ => by
    rcases hx with hx | hx
    · exact hx.elim
    · exact (hex k' hx).elim)
  refine h2.ent kb _ (by intro c x h; cases h) hb (fun j hj => by subst hj; exact hbs) (fun _ j hj => by subst hj; exact Nat.le_refl _) (fun k' j hne _ hj hj' => ?_)
  subst hj
  by_cases ek : k' = KF
  · subst ek
    rw [upd_same] at hj'
    exact Nat.lt_irrefl _ hj'.1
  · rw [upd_ne _ _ ek] at hj'
    exact hfp k' hj'
theorem k_doneX {P : Program} {n b : Nat} {w0 : World} {S : St} {a : Act} {w : World} (hr : Rep b w0 n S a w) {fn : Func} (kb : Nat) (cs : List Value) (e : TypeId) (v : Gh → Value) (cs' : Gh → List Value) (g : Gh) (fr : Nat → Prop) (rs : List (Nat × Nat × List Value)) (segs : List (Nat × Seg))
    (hkb : S kb = .blk b cs e) (hkf : S KF = frK b w0) (hcs : cs = cs' g)
    (hrows : RowsF fr w g.o g.n 0 rs)
    (hk : (fn.results.toList).all (fun x => isSlot (S (resT x))) = true)
    (hs : ∀ p ∈ segs, (∃ e, S p.1 = .blk p.2.b p.2.cs e) ∧ Nat.ble (p.2.off + p.2.m) p.2.cs.length = true)
    (hp : peek P (resultsE fn (fun t => envS S (.tmp t))) (segV (segs.map (·.2))) [] = some (v g, segA (segs.map (·.2)))) :
    bodyPost P fn (fun en w' => ∃ g : Gh, en = .returned (v g) ∧ But (· = b) w0 w' ∧ (KV.blk b (cs' g) e).holds w' ∧ RowsF fr w' g.o g.n 0 rs) .ret a w := by
  have h1 := hr.holds kb
  rw [hkb] at h1
  have h2 := hr.holds KF
  rw [hkf] at h2
  have h3 : ∀ i, b < i → i < w0.heap.size → w.heap[i]? = w0.heap[i]? := h2 w (agree.refl _ _)
  refine ⟨hr.defers, v g, run_results hr _ segs hk hs hp, g, rfl, ⟨hr.below.os, hr.below.tape, hr.below.output, hr.below.size, fun i hi hne => ?_⟩, hcs ▸ h1, hrows⟩
  rcases Nat.lt_trichotomy i b with h | h | h
  · exact hr.below.block i h
  · exact absurd h hne
  · exact h3 i h hi
/-- An own row of such a function lies in new memory. -/
theorem Rep.owRowX {b n : Nat} {w0 : World} {S : St} {a : Act} {w : World} (h : Rep b w0 n S a w) (k : Nat) {e sz m cap : Nat} {p : Option Addr} {xs : List Value} (hk : S k = owK e sz p m cap xs) (kb : Nat) {cs : List Value} {eb : TypeId} (hkb : S kb = .blk b cs eb) (hkf : S KF = frK b w0) (hne : Nat.beq k kb = false) : RowC w sz p m cap xs ∧ ∀ j, fpRow p m j → w0.heap.size ≤ j := by
  obtain ⟨h1, h2⟩ := h.owRow k hk
  refine ⟨h1, fun j hj => ?_⟩
  have hfp : (S k).fp j := by rw [hk]; exact fp_own hj
  have hx : (S k).excl := by rw [hk]; trivial
  have hb := h2 j hj
  rcases Nat.lt_or_ge j w0.heap.size with hlt | hge
  · exfalso
    rcases Nat.lt_or_ge b j with hbj | hbj
    · have hne' : k ≠ KF := fun e => by rw [e, hkf] at hx; exact hx
      exact h.disj k KF j hne' hx hfp (by rw [hkf]; exact ⟨hbj, hlt⟩)
    · have hjb : j = b := by omega
      have hne' : k ≠ kb := fun e => by rw [e, show Nat.beq kb kb = true from Nat.beq_refl kb] at hne; cases hne
      exact h.disj k kb j hne' hx hfp (by rw [hkb]; exact hjb)
  · exact hge
end Go.Sx
