/- Sx: words and proofs for walking code by symbolic states (the part 'SyA'). Own work, the same for every seat. -/
import Derived.Test.YtglcmhldonkfdaaDoorSxV
set_option linter.unusedVariables false
set_option linter.unusedSimpArgs false
namespace Go.Sx
open Go Go.RowKit
def fpK (Ks : List KV) (i : Nat) : Prop := ∃ K ∈ Ks, K.fp i
def anyF : Nat → Prop := fun _ => True
structure OwnH (Ms Cs : List KV) (w : World) : Prop where
  one : ∀ K ∈ Ms, K.holds w ∧ K.excl ∧ ∀ i, K.fp i → i < w.heap.size
  two : Ms.Pairwise fun K K' => ∀ i, K.fp i → ¬ K'.fp i
  off : ∀ K ∈ Ms, ∀ K' ∈ Cs, ∀ i, K.fp i → ¬ K'.fp i
theorem allH_map {B n : Nat} {w0 : World} {S : St} {a : Act} {w : World} (h : Rep B w0 n S a w) : ∀ ks : List Nat, AllH (ks.map S) w
  | [] => trivial
  | k :: ks => ⟨h.holds k, allH_map h ks⟩
def nodupB : List Nat → Bool
  | [] => true
  | k :: r => !(r.contains k) && nodupB r
theorem nodupB_spec : ∀ {l : List Nat}, nodupB l = true → l.Pairwise (· ≠ ·)
  | [], _ => .nil
  | k :: r, h => by
    simp only [nodupB, Bool.and_eq_true, Bool.not_eq_true', List.contains_eq_mem, decide_eq_false_iff_not] at h
    exact .cons (fun j hj e => h.1 (e ▸ hj)) (nodupB_spec h.2)
def exclB : KV → Bool
  | .blk .. => true
  | .own .. => true
  | _ => false
theorem exclB_iff {K : KV} : exclB K = true ↔ K.excl := by cases K <;> simp [exclB, KV.excl]
theorem Rep.ownH {B n : Nat} {w0 : World} {S : St} {a : Act} {w : World} (h : Rep B w0 n S a w) {js ks : List Nat} (hx : ∀ j ∈ js, (S j).excl) (hn : js.Pairwise (· ≠ ·)) (ho : ∀ j ∈ js, ∀ k ∈ ks, j ≠ k) : OwnH (js.map S) (ks.map S) w where
  one K hK := by
    obtain ⟨j, hj, rfl⟩ := List.mem_map.1 hK
    exact ⟨h.holds j, hx j hj, h.inb j⟩
  two := by
    rw [List.pairwise_map]
    refine (hn.imp_of_mem fun {j j'} hj hj' hne i hi hi' => ?_)
    exact h.disj j j' i hne (hx j hj) hi hi'
  off K hK K' hK' i hi hi' := by
    obtain ⟨j, hj, rfl⟩ := List.mem_map.1 hK
    obtain ⟨k, hk, rfl⟩ := List.mem_map.1 hK'
    exact h.disj j k i (ho j hj k hk) (hx j hj) hi hi'
theorem fpK_map {S : St} {js : List Nat} {i : Nat} : fpK (js.map S) i ↔ ∃ j ∈ js, (S j).fp i := by
  unfold fpK
  constructor
  · rintro ⟨K, hK, hi⟩
    obtain ⟨j, hj, rfl⟩ := List.mem_map.1 hK
    exact ⟨j, hj, hi⟩
  · rintro ⟨j, hj, hi⟩
    exact ⟨_, List.mem_map.2 ⟨j, hj, rfl⟩, hi⟩
theorem updAll_app : ∀ (l m : List (Nat × KV)) (S : St), updAll S (l ++ m) = updAll (updAll S l) m
  | [], _, _ => rfl
  | (k, v) :: l, m, S => updAll_app l m _
structure NewOK (N : Nat) (M F : Nat → Prop) (us : List (Nat × KV)) (w' : World) : Prop where
  one : ∀ p ∈ us, (∀ c x, p.2 ≠ .slot c x) ∧ p.2.holds w' ∧ (∀ i, p.2.fp i → i < w'.heap.size) ∧ (p.2.excl → ∀ i, p.2.fp i → N ≤ i ∨ M i) ∧ (¬ p.2.excl → ∀ i, p.2.fp i → N ≤ i ∨ F i)
  two : us.Pairwise fun p q => p.1 ≠ q.1 ∧ (p.2.excl ∨ q.2.excl → ∀ i, p.2.fp i → ¬ q.2.fp i)
def offL (js : List Nat) : List (Nat × KV) := js.map fun j => (j, KV.none)
theorem offL_at {S : St} {js : List Nat} {k : Nat} : updAll S (offL js) k = if k ∈ js then .none else S k := by
  rw [updAll_look]
  by_cases h : k ∈ js
  · obtain ⟨x, hx⟩ := look_some (l := offL js) (k := k) (by simpa [offL] using h)
    have := look_mem hx
    obtain ⟨j, _, e⟩ := List.mem_map.1 this
    rw [hx, if_pos h, ← (Prod.mk.inj e).2]; rfl
  · rw [look_none (by simpa [offL] using h), if_neg h]; rfl
theorem Rep.adds {B n : Nat} {w0 : World} {a : Act} {w' : World} : ∀ (us : List (Nat × KV)) (S : St), Rep B w0 n S a w' →
    (∀ p ∈ us, (∀ c x, p.2 ≠ .slot c x) ∧ p.2.holds w' ∧ (∀ i, p.2.fp i → i < w'.heap.size) ∧ (p.2.excl → ∀ i, p.2.fp i → B ≤ i)) →
    (us.Pairwise fun p q => p.1 ≠ q.1 ∧ (p.2.excl ∨ q.2.excl → ∀ i, p.2.fp i → ¬ q.2.fp i)) →
    (∀ p ∈ us, ∀ k, k ≠ p.1 → (p.2.excl ∨ (S k).excl) → ∀ i, p.2.fp i → ¬ (S k).fp i) → Rep B w0 n (updAll S us) a w'
  | [], S, h, _, _, _ => h
  | (k, v) :: us, S, h, h1, h2, h3 => by
    cases h2 with
    | cons h2a h2b =>
      have q := h1 (k, v) (by simp)
      have r := h.ent k v q.1 q.2.1 q.2.2.1 q.2.2.2 (fun k' i hne hx hi => h3 (k, v) (by simp) k' hne hx i hi)
      refine Rep.adds us _ r (fun p hp => h1 p (List.mem_cons_of_mem _ hp)) h2b fun p hp k' hne hx i hi => ?_
      by_cases e : k' = k
      · subst e
        rw [upd_same] at hx ⊢
        exact fun hi' => (h2a p hp).2 hx.symm i hi' hi
      · rw [upd_ne _ _ e] at hx ⊢
        exact h3 p (List.mem_cons_of_mem _ hp) k' hne hx i hi
theorem Rep.turn {B n : Nat} {w0 : World} {S : St} {a : Act} {w w' : World} (h : Rep B w0 n S a w) (js : List Nat) (hjs : ∀ j ∈ js, (S j).excl) {F : Nat → Prop}
    (hF : ∀ i, F i → ∀ k, k ∉ js → (S k).excl → ¬ (S k).fp i) (hbut : But (fpK (js.map S)) w w') (us : List (Nat × KV)) (hn : NewOK w.heap.size (fpK (js.map S)) F us w') :
    Rep B w0 n (updAll (updAll S (offL js)) us) a w' := by
  have hM : ∀ i, fpK (js.map S) i → B ≤ i ∧ i < w.heap.size := fun i hi => by
    obtain ⟨j, hj, hi⟩ := fpK_map.1 hi
    exact ⟨h.ge j i (hjs j hj) hi, h.inb j i hi⟩
  have hMd : ∀ i, fpK (js.map S) i → ∀ k, ¬ (updAll S (offL js) k).fp i := fun i hi k hk => by
    obtain ⟨j, hj, hi⟩ := fpK_map.1 hi
    rw [offL_at] at hk
    by_cases e : k ∈ js
    · rw [if_pos e] at hk; exact hk
    · rw [if_neg e] at hk
      exact h.disj j k i (fun e' => e (e' ▸ hj)) (hjs j hj) hi hk
  have r1 : Rep B w0 n (updAll S (offL js)) a w := h.weak fun k => by
    rw [offL_at]
    by_cases e : k ∈ js
    · rw [if_pos e]; exact .inl rfl
    · rw [if_neg e]; exact .inr rfl
  have r2 := r1.but hbut (fun i hi => (hM i hi).1) (fun k i hi => hMd i hi k)
  refine Rep.adds us _ r2 (fun p hp => ?_) hn.two fun p hp k hne hx i hi => ?_
  · obtain ⟨q1, q2, q3, q4, q5⟩ := hn.one p hp
    exact ⟨q1, q2, q3, fun hx i hi => (q4 hx i hi).elim (fun h1 => Nat.le_trans h.base h1) fun h1 => (hM i h1).1⟩
  · obtain ⟨q1, q2, q3, q4, q5⟩ := hn.one p hp
    intro hk
    have hold : i < w.heap.size := r1.inb k i hk
    by_cases ex : p.2.excl
    · rcases q4 ex i hi with h1 | h1
      · omega
      · exact hMd i h1 k hk
    · rcases q5 ex i hi with h1 | h1
      · omega
      · have hx' := hx.resolve_left ex
        rw [offL_at] at hx' hk
        by_cases e : k ∈ js
        · rw [if_pos e] at hx'; exact hx'
        · rw [if_neg e] at hx' hk
          exact hF i h1 k e hx' hk
def factFp (Ks : List KV) (i : Nat) : Prop := ∃ K ∈ Ks, ¬ K.excl ∧ K.fp i
theorem J_eq {J R : List Nat} {p : PNu} (hJ : ∀ j, TK + j ∈ R → ∃ g, p j = some g) (hR : ∀ j ∈ J, TK + j ∈ R) {ν ν' : Nu} (h : Ext p ν) (h' : Ext p ν') : ∀ j ∈ J, ν j = ν' j := fun j hj => by
  obtain ⟨g, hg⟩ := hJ j (hR j hj)
  rw [h j g hg, h' j g hg]
abbrev tks (J : List Nat) : List Nat := J.map fun j => TK + j
section
variable {P : Program} {ops : Array Oper} {B : Nat} {w0 : World} {n i : Nat} {o : Oper} {Spre : Nu → St}
abbrev outN (d : Option Nat) (v : Value) : Next := match d with | some _ => .value v | none => .skip
abbrev outK (d : Option Nat) (v : Value) : List (Nat × KV) := match d with | some t => [(t, .slot true v)] | none => []
theorem ok_turn (J : List Nat) (ks : List Nat) (Ks : Nu → List KV) (js : List Nat) (Js : Nu → List KV) (d : Option Nat) (v : Nu → Gh → Value) (us : Nu → Gh → List (Nat × KV))
    (hv : ∀ ν w, AllH (Ks ν) w → OwnH (Js ν) (Ks ν) w → ∃ g w', (execOp (envU (Spre ν)) o).run P w = .ok (outN d (v ν g)) w' ∧ But (fpK (Js ν)) w w' ∧ NewOK w.heap.size (fpK (Js ν)) (fun i => fpK (Js ν) i ∨ factFp (Ks ν) i) (us ν g) w')
    (hloc : ∀ ν ν', (∀ j ∈ J, ν j = ν' j) → Ks ν = Ks ν' ∧ Js ν = Js ν' ∧ v ν = v ν' ∧ us ν = us ν' := by exact fun _ _ _ => ⟨rfl, rfl, rfl, rfl⟩)
    (hK : ∀ ν, ks.map (Spre ν) = Ks ν := by intro _; kernel_rfl) (hJs : ∀ ν, js.map (Spre ν) = Js ν := by intro _; kernel_rfl) (hx : ∀ ν, (Js ν).all exclB = true := by intro _; kernel_rfl)
    (hkeys : (nodupB js && js.all fun j => Nat.ble n j && !(ks.contains j)) = true := by rfl)
    (hd : o.dst = d := by rfl) (hdn : (match d with | some t => Nat.blt t n | none => true) = true := by rfl) (hsel : noSel o = true := by rfl) (hg : o.guard = none := by rfl)
    (hk : ∀ ν, (o.op.operands.all (knownB (Spre ν))) = true := by intro _; kernel_rfl) (hp : ∀ ν, (condsOf o (Spre ν)).all id = true := by intro _; kernel_rfl) :
    OpOK P ops B w0 n i o Spre (tks J ++ ks ++ js ++ tmpsOf ops o) (fun ν => outK d (v ν (ν i)) ++ (offL js ++ us ν (ν i))) := by
  simp only [Bool.and_eq_true] at hkeys
  have hnd := nodupB_spec hkeys.1
  have hjk : ∀ j ∈ js, n ≤ j ∧ j ∉ ks := fun j hj => by
    have := List.all_eq_true.1 hkeys.2 j hj
    simpa using this
  refine opok_ofJ (c := fun _ => true) (fun _ h => List.mem_append_right _ h) (noSel_spec hsel) (fun ν => by unfold wantS; rw [hg]) hk ?_ ?_
  · intro ν S a w hcf; cases hcf
  · intro Q p S a w hpi hct hag hrep hev0 hJ
    have hev : ∀ ν, Ext p ν → execOp a.eval o = execOp (envU (Spre ν)) o := fun ν hν => (hev0 ν hν).trans (env_strip (noSel_spec hsel) (by simpa using hp ν))
    have hSK : ∀ ν, Ext p ν → ks.map (S ν) = Ks ν := fun ν hν => (List.map_congr_left fun k hk' => hag ν hν k (by simp [hk'])).trans (hK ν)
    have hSJ : ∀ ν, Ext p ν → js.map (S ν) = Js ν := fun ν hν => (List.map_congr_left fun k hk' => hag ν hν k (by simp [hk'])).trans (hJs ν)
    have hJe : ∀ ν ν', Ext p ν → Ext p ν' → Ks ν = Ks ν' ∧ Js ν = Js ν' ∧ v ν = v ν' ∧ us ν = us ν' := fun ν ν' hν hν' => hloc ν ν' (J_eq hJ (fun j hj => by simp [hj]) hν hν')
    have hexc : ∀ ν, Ext p ν → ∀ j ∈ js, (S ν j).excl := fun ν hν j hj => by
      have h1 : S ν j ∈ Js ν := by rw [← hSJ ν hν]; exact List.mem_map.2 ⟨j, hj, rfl⟩
      exact exclB_iff.1 (List.all_eq_true.1 (hx ν) _ h1)
    unfold Oper.wp
    obtain ⟨ν0, h0⟩ := Ext.exists p
    have hA0 : AllH (Ks ν0) w := by rw [← hSK ν0 h0]; exact allH_map (hrep ν0 h0) ks
    have hO0 : OwnH (Js ν0) (Ks ν0) w := by rw [← hSK ν0 h0, ← hSJ ν0 h0]; exact (hrep ν0 h0).ownH (hexc ν0 h0) hnd fun j hj k hk' e => (hjk j hj).2 (e ▸ hk')
    obtain ⟨g, w', hrun, hbut, hnew⟩ := hv ν0 w hA0 hO0
    rw [hev ν0 h0, hrun]
    have fin : ∀ ν, Ext (p.set i g) ν → ∀ a' : Act, (∀ ν', Ext p ν' → Rep B w0 n (updAll (S ν') (outK d (v ν0 g))) a' w) → Rep B w0 n (updAll (S ν) (outK d (v ν (ν i)) ++ (offL js ++ us ν (ν i)))) a' w' := by
      intro ν hν a' hput
      have hν' := hν.of_set hpi
      have hr := hput ν hν'
      obtain ⟨e1, e2, ev, eu⟩ := hJe ν ν0 hν' h0
      rw [hν.at_set, ev, eu]
      have hSd : ∀ k, n ≤ k → updAll (S ν) (outK d (v ν0 g)) k = S ν k := fun k hk' => by
        cases d with
        | none => rfl
        | some t =>
          have : t < n := by simpa using hdn
          exact upd_ne _ _ (by omega)
      have e3 : js.map (updAll (S ν) (outK d (v ν0 g))) = Js ν0 := by
        rw [← e2, ← hSJ ν hν']
        exact List.map_congr_left fun j hj => hSd j (hjk j hj).1
      have e4 : updAll (S ν) (outK d (v ν0 g) ++ (offL js ++ us ν0 g)) = updAll (updAll (updAll (S ν) (outK d (v ν0 g))) (offL js)) (us ν0 g) := by
        rw [updAll_app, updAll_app]
      rw [e4]
      refine hr.turn js (fun j hj => by rw [hSd j (hjk j hj).1]; exact hexc ν hν' j hj) (F := fun i => fpK (Js ν0) i ∨ factFp (Ks ν0) i) ?_ (by rw [e3]; exact hbut) _ (by rw [e3]; exact hnew)
      intro x hx' k hkj hkx hkf
      rcases hx' with hx' | ⟨K, hK', hne, hKf⟩
      · rw [← e3] at hx'
        obtain ⟨j, hj, hx'⟩ := fpK_map.1 hx'
        exact hr.disj j k x (fun e => hkj (e ▸ hj)) (by rw [hSd j (hjk j hj).1]; exact hexc ν hν' j hj) hx' hkf
      · rw [← e1, ← hSK ν hν'] at hK'
        obtain ⟨k2, hk2, rfl⟩ := List.mem_map.1 hK'
        have hkn : updAll (S ν) (outK d (v ν0 g)) k = S ν k := by
          cases d with
          | none => rfl
          | some t =>
            by_cases e : k = t
            · subst e
              have e' : updAll (S ν) (outK (some k) (v ν0 g)) k = .slot true (v ν0 g) := upd_same _ _ _
              rw [e'] at hkx; exact hkx.elim
            · exact upd_ne _ _ e
        rw [hkn] at hkx hkf
        refine (hrep ν hν').disj k k2 x (fun e => hne (e ▸ hkx)) hkx hkf hKf
    cases d with
    | none =>
      simp only [outN, Oper.upon, hd]
      exact ⟨g, fun ν hν => fin ν hν a fun ν' hν' => hrep ν' hν'⟩
    | some t =>
      simp only [outN, Oper.upon, hd]
      exact ⟨g, fun ν hν => fin ν hν _ fun ν' hν' => (hrep ν' hν').put (by simpa using hdn) true (v ν0 g)⟩
end
end Go.Sx
