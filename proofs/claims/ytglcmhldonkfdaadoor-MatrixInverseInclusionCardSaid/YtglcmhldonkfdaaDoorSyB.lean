/- Sx: words and proofs for walking code by symbolic states (the part 'SyB'). Own work, the same for every seat. -/
import Derived.Test.YtglcmhldonkfdaaDoorSyA
set_option linter.unusedVariables false
set_option linter.unusedSimpArgs false
namespace Go.Sx
open Go Go.RowKit
abbrev Fam := (Nat → Prop) → KV
structure Fam.OK (K : Fam) : Prop where
  fp : ∀ fr fr', (K fr).fp = (K fr').fp
  ex : ∀ fr fr', (K fr).excl ↔ (K fr').excl
  sl : ∀ fr c x, K fr ≠ .slot c x
  up : ∀ fr fr' w, (K fr).holds w → (¬ (K fr).excl → ∀ i, (K fr).fp i → fr' i) → (K fr').holds w
  lo : ∀ fr w, ¬ (K fr).excl → (K fr).holds w → ∀ i, (K fr).fp i → fr i
  inb : ∀ fr w, (K fr).holds w → ∀ i, (K fr).fp i → i < w.heap.size
def frI (N : Nat) (Fs : List KV) (i : Nat) : Prop := N ≤ i ∨ fpK Fs i
structure OutOK (N : Nat) (M Fr : Nat → Prop) (Es : List Fam) (w' : World) : Prop where
  one : ∀ K ∈ Es, (K anyF).holds w' ∧ ((K anyF).excl → ∀ i, (K anyF).fp i → N ≤ i ∨ M i) ∧ (¬ (K anyF).excl → ∀ i, (K anyF).fp i → Fr i)
  two : Es.Pairwise fun K K' => (K anyF).excl ∨ (K' anyF).excl → ∀ i, (K anyF).fp i → ¬ (K' anyF).fp i
def zipK (fr : Nat → Prop) : List Nat → List Fam → List (Nat × KV)
  | k :: ks, K :: Es => (k, K fr) :: zipK fr ks Es
  | _, _ => []
theorem zipK_mem {fr : Nat → Prop} : ∀ {ks : List Nat} {Es : List Fam} {p : Nat × KV}, p ∈ zipK fr ks Es → p.1 ∈ ks ∧ ∃ K ∈ Es, p.2 = K fr
  | [], _, _, h => by cases h
  | _ :: _, [], _, h => by cases h
  | k :: ks, K :: Es, p, h => by
    rcases List.mem_cons.1 h with rfl | h
    · exact ⟨by simp, K, by simp, rfl⟩
    · obtain ⟨h1, K', h2, h3⟩ := zipK_mem h
      exact ⟨List.mem_cons_of_mem _ h1, K', List.mem_cons_of_mem _ h2, h3⟩
theorem zipK_two {fr : Nat → Prop} {R : (Nat × KV) → (Nat × KV) → Prop} : ∀ {ks : List Nat} {Es : List Fam}, ks.Pairwise (· ≠ ·) → Es.Pairwise (fun K K' => ∀ k k', k ≠ k' → R (k, K fr) (k', K' fr)) → (zipK fr ks Es).Pairwise R
  | [], _, _, _ => .nil
  | _ :: _, [], _, _ => .nil
  | k :: ks, K :: Es, h1, h2 => by
    cases h1 with
    | cons a b =>
      cases h2 with
      | cons c d =>
        refine .cons (fun p hp => ?_) (zipK_two b d)
        obtain ⟨q1, K', q2, q3⟩ := zipK_mem hp
        obtain ⟨p1, p2⟩ := p
        simp only at q1 q3
        subst q3
        exact c K' q2 k p1 (a p1 q1)
theorem OutOK.new {N : Nat} {M Fr F fr : Nat → Prop} {Es : List Fam} {w' : World} {out : List Nat} (h : OutOK N M Fr Es w') (hE : ∀ K ∈ Es, Fam.OK K) (hn : out.Pairwise (· ≠ ·)) (hF : ∀ i, Fr i → N ≤ i ∨ F i) (hfr : ∀ i, Fr i → fr i) :
    NewOK N M F (zipK fr out Es) w' where
  one p hp := by
    obtain ⟨_, K, hK, e⟩ := zipK_mem hp
    have hO := hE K hK
    obtain ⟨q1, q2, q3⟩ := h.one K hK
    have hfp : (K fr).fp = (K anyF).fp := hO.fp _ _
    have hh : (K fr).holds w' := hO.up anyF fr w' q1 fun ex i hi => hfr i (q3 ex i hi)
    rw [e]
    exact ⟨hO.sl fr, hh, hO.inb fr w' hh, fun hx i hi => q2 ((hO.ex fr anyF).1 hx) i (hfp ▸ hi), fun hx i hi => hF i (q3 (fun h => hx ((hO.ex fr anyF).2 h)) i (hfp ▸ hi))⟩
  two := zipK_two hn (h.two.imp_of_mem fun {K K'} hK hK' hp k k' hne => ⟨hne, fun hx i hi hi' => hp (by
    rcases hx with hx | hx
    · exact .inl (((hE K hK).ex _ _).1 hx)
    · exact .inr (((hE K' hK').ex _ _).1 hx)) i (by rw [(hE K hK).fp anyF fr]; exact hi) (by rw [(hE K' hK').fp anyF fr]; exact hi')⟩)
def SubF (ff : Bool) (fr : Nat → Prop) (Ks : List KV) (w : World) (K : KV) : Prop := K.holds w ∧ ∀ i, K.fp i → ∃ K' ∈ Ks, K'.fp i ∧ (ff = true → ¬ K'.excl ∧ fr i)
def SubL (ff : Bool) (fr : Nat → Prop) (Ks : List KV) (w : World) : List KV → Prop
  | [] => True
  | K :: r => SubF ff fr Ks w K ∧ SubL ff fr Ks w r
theorem SubL.all {ff : Bool} {fr : Nat → Prop} {Ks : List KV} {w : World} : ∀ {Fs : List KV}, SubL ff fr Ks w Fs → AllH Fs w
  | [], _ => trivial
  | _ :: _, h => ⟨h.1.1, SubL.all h.2⟩
theorem SubL.mem {ff : Bool} {fr : Nat → Prop} {Ks : List KV} {w : World} : ∀ {Fs : List KV}, SubL ff fr Ks w Fs → ∀ K ∈ Fs, SubF ff fr Ks w K
  | [], _, K, hK => by cases hK
  | K0 :: r, h, K, hK => by
    rcases List.mem_cons.1 hK with rfl | hK
    · exact h.1
    · exact SubL.mem h.2 K hK
section
variable {P : Program} {ops : Array Oper} {B : Nat} {w0 : World} {n i : Nat} {o : Oper} {Spre : Nu → St}
theorem ok_callY (ff : Bool) (fr : Nat → Prop) (J : List Nat) (ks : List Nat) (Ks : Nu → List KV) (js : List Nat) (Js : Nu → List KV) (f : FuncId) (args : Nu → Array Value) (Bs Fs : Nu → List KV) (v : Nu → Gh → Value) (Es : Nu → Gh → List Fam) (out : List Nat) (d : Nat)
    (hC : ∀ ν w, AllH (Bs ν) w → AllH (Fs ν) w → OwnH (Js ν) (Bs ν ++ Fs ν) w → Calls P f (args ν) w fun e w' => ∃ g : Gh, e = .returned (v ν g) ∧ But (fpK (Js ν)) w w' ∧ OutOK w.heap.size (fpK (Js ν)) (frI w.heap.size (Fs ν)) (Es ν g) w')
    (hS : ∀ ν w, AllH (Ks ν) w → SubL false fr (Ks ν) w (Bs ν) ∧ SubL ff fr (Ks ν) w (Fs ν))
    (hE : ∀ ν g, ∀ K ∈ Es ν g, Fam.OK K) (hff : ff = true ∨ ∀ ν g, ∀ K ∈ Es ν g, (K anyF).excl) (hB : ff = true → ∀ j, w0.heap.size ≤ j → fr j)
    (hloc : ∀ ν ν', (∀ j ∈ J, ν j = ν' j) → Ks ν = Ks ν' ∧ Js ν = Js ν' ∧ Bs ν = Bs ν' ∧ Fs ν = Fs ν' ∧ v ν = v ν' ∧ Es ν = Es ν' := by exact fun _ _ _ => ⟨rfl, rfl, rfl, rfl, rfl, rfl⟩)
    (hK : ∀ ν, ks.map (Spre ν) = Ks ν := by intro _; kernel_rfl) (hJs : ∀ ν, js.map (Spre ν) = Js ν := by intro _; kernel_rfl) (hx : ∀ ν, (Js ν).all exclB = true := by intro _; kernel_rfl)
    (hkeys : (nodupB js && js.all (fun j => Nat.ble n j && !(ks.contains j)) && nodupB out) = true := by rfl)
    (hd : o.dst = some d := by rfl) (hdn : Nat.blt d n = true := by rfl) (hsel : noSel o = true := by rfl) (hg : o.guard = none := by rfl)
    (hk : ∀ ν, (o.op.operands.all (knownB (Spre ν))) = true := by intro _; kernel_rfl) (hp : ∀ ν, (condsOf o (Spre ν)).all id = true := by intro _; kernel_rfl)
    (hv : ∀ ν w, (execOp (envU (Spre ν)) o).run P w = .ok (.enter f (args ν)) w := by intro _ _; kernel_rfl) :
    OpOK P ops B w0 n i o Spre (tks J ++ ks ++ js ++ tmpsOf ops o) (fun ν => (d, .slot true (v ν (ν i))) :: (offL js ++ zipK fr out (Es ν (ν i)))) := by
  simp only [Bool.and_eq_true] at hkeys
  have hnd := nodupB_spec hkeys.1.1
  have hno := nodupB_spec hkeys.2
  have hdn' : d < n := by simpa using hdn
  have hjk : ∀ j ∈ js, n ≤ j ∧ j ∉ ks := fun j hj => by
    have := List.all_eq_true.1 hkeys.1.2 j hj
    simpa using this
  refine opok_ofJ (c := fun _ => true) (fun _ h => List.mem_append_right _ h) (noSel_spec hsel) (fun ν => by unfold wantS; rw [hg]) hk ?_ ?_
  · intro ν S a w hcf; cases hcf
  · intro Q p S a w hpi hct hag hrep hev0 hJ
    have hev : ∀ ν, Ext p ν → execOp a.eval o = execOp (envU (Spre ν)) o := fun ν hν => (hev0 ν hν).trans (env_strip (noSel_spec hsel) (by simpa using hp ν))
    have hSK : ∀ ν, Ext p ν → ks.map (S ν) = Ks ν := fun ν hν => (List.map_congr_left fun k hk' => hag ν hν k (by simp [hk'])).trans (hK ν)
    have hSJ : ∀ ν, Ext p ν → js.map (S ν) = Js ν := fun ν hν => (List.map_congr_left fun k hk' => hag ν hν k (by simp [hk'])).trans (hJs ν)
    have hJe : ∀ ν ν', Ext p ν → Ext p ν' → Ks ν = Ks ν' ∧ Js ν = Js ν' ∧ Bs ν = Bs ν' ∧ Fs ν = Fs ν' ∧ v ν = v ν' ∧ Es ν = Es ν' := fun ν ν' hν hν' => hloc ν ν' (J_eq hJ (fun j hj => by simp [hj]) hν hν')
    have hexc : ∀ ν, Ext p ν → ∀ j ∈ js, (S ν j).excl := fun ν hν j hj => by
      have h1 : S ν j ∈ Js ν := by rw [← hSJ ν hν]; exact List.mem_map.2 ⟨j, hj, rfl⟩
      exact exclB_iff.1 (List.all_eq_true.1 (hx ν) _ h1)
    unfold Oper.wp
    obtain ⟨ν0, h0⟩ := Ext.exists p
    have hA0 : AllH (Ks ν0) w := by rw [← hSK ν0 h0]; exact allH_map (hrep ν0 h0) ks
    obtain ⟨s1, s2⟩ := hS ν0 w hA0
    have hO0 : OwnH (Js ν0) (Bs ν0 ++ Fs ν0) w := by
      have hO := (hrep ν0 h0).ownH (ks := ks) (hexc ν0 h0) hnd fun j hj k hk' e => (hjk j hj).2 (e ▸ hk')
      rw [hSK ν0 h0, hSJ ν0 h0] at hO
      refine ⟨hO.one, hO.two, fun K hK' K' hK2 x hx1 hx2 => ?_⟩
      obtain ⟨K3, h3, h4, _⟩ : ∃ K'' ∈ Ks ν0, K''.fp x ∧ True := by
        rcases List.mem_append.1 hK2 with h | h
        · obtain ⟨K3, h3, h4, _⟩ := (s1.mem K' h).2 x hx2; exact ⟨K3, h3, h4, trivial⟩
        · obtain ⟨K3, h3, h4, _⟩ := (s2.mem K' h).2 x hx2; exact ⟨K3, h3, h4, trivial⟩
      exact hO.off K hK' K3 h3 x hx1 h4
    rw [hev ν0 h0, hv ν0 w]
    simp only [Oper.upon]
    refine (hC ν0 w s1.all s2.all hO0).mono ?_
    rintro e w' ⟨g, rfl, hbut, hout⟩
    refine ⟨g, fun ν hν => ?_⟩
    have hν' := hν.of_set hpi
    obtain ⟨e1, e2, _, _, ev, eE⟩ := hJe ν ν0 hν' h0
    rw [hν.at_set, hd, ev, eE]
    have hr := (hrep ν hν').put hdn' true (v ν0 g)
    have hSd : ∀ k, k ≠ d → upd (S ν) d (.slot true (v ν0 g)) k = S ν k := fun k hk' => upd_ne _ _ hk'
    have e3 : js.map (upd (S ν) d (.slot true (v ν0 g))) = Js ν0 := by
      rw [← e2, ← hSJ ν hν']
      exact List.map_congr_left fun j hj => hSd j (by have := (hjk j hj).1; omega)
    show Rep B w0 n (updAll (upd (S ν) d (.slot true (v ν0 g))) (offL js ++ zipK fr out (Es ν0 g))) _ w'
    rw [updAll_app]
    have hNE : NewOK w.heap.size (fpK (Js ν0)) (fun x => fpK (Js ν0) x ∨ (ff = true ∧ factFp (Ks ν0) x)) (zipK fr out (Es ν0 g)) w' := by
      rcases hff with hff | hff
      · refine hout.new (hE ν0 g) hno (fun x hx1 => ?_) (fun x hx1 => ?_)
        · rcases hx1 with h1 | ⟨K, hK', h1⟩
          · exact .inl h1
          · obtain ⟨K', q1, q2, q3⟩ := (s2.mem K hK').2 x h1
            exact .inr (.inr ⟨hff, K', q1, (q3 hff).1, q2⟩)
        · rcases hx1 with h1 | ⟨K, hK', h1⟩
          · exact hB hff x (Nat.le_trans hr.below.size h1)
          · obtain ⟨K', q1, q2, q3⟩ := (s2.mem K hK').2 x h1
            exact (q3 hff).2
      · refine ⟨fun p hp => ?_, (zipK_two hno (hout.two.imp_of_mem fun {K K'} hK hK' hp k k' hne => ⟨hne, fun hx i hi hi' => hp (.inl (hff ν0 g K hK)) i (by rw [(hE ν0 g K hK).fp anyF fr]; exact hi) (by rw [(hE ν0 g K' hK').fp anyF fr]; exact hi')⟩))⟩
        obtain ⟨_, K, hK', e⟩ := zipK_mem hp
        have hO := hE ν0 g K hK'
        obtain ⟨q1, q2, q3⟩ := hout.one K hK'
        have hex := hff ν0 g K hK'
        have hh : (K fr).holds w' := hO.up anyF fr w' q1 fun hne => absurd hex hne
        rw [e]
        exact ⟨hO.sl fr, hh, hO.inb fr w' hh, fun hx i hi => q2 hex i (by rw [hO.fp anyF fr]; exact hi), fun hx => absurd ((hO.ex fr anyF).2 hex) hx⟩
    refine hr.turn js (fun j hj => by rw [hSd j (by have := (hjk j hj).1; omega)]; exact hexc ν hν' j hj) ?_ (by rw [e3]; exact hbut) _ (by rw [e3]; exact hNE)
    intro x hx' k hkj hkx hkf
    have hkd : k ≠ d := fun e => by subst e; rw [upd_same] at hkx; exact hkx
    rw [hSd k hkd] at hkx hkf
    rcases hx' with hx' | ⟨_, K, hK', hne, hKf⟩
    · rw [← e2, ← hSJ ν hν'] at hx'
      obtain ⟨j, hj, hx'⟩ := fpK_map.1 hx'
      exact (hrep ν hν').disj j k x (fun e => hkj (e ▸ hj)) (hexc ν hν' j hj) hx' hkf
    · rw [← e1, ← hSK ν hν'] at hK'
      obtain ⟨k2, hk2, rfl⟩ := List.mem_map.1 hK'
      exact (hrep ν hν').disj k k2 x (fun e => hne (e ▸ hkx)) hkx hkf hKf
end
abbrev frM (Ms : List KV) (w : World) : KV := .fact (fun i => i < w.heap.size ∧ ¬ fpK Ms i) (fun w' => ∀ i, i < w.heap.size → ¬ fpK Ms i → w'.heap[i]? = w.heap[i]?)
abbrev KFr : Nat := 999998
theorem Rep.low {B n : Nat} {w0 : World} {S : St} {a : Act} {w : World} (h : Rep B w0 n S a w) (hx : ∀ k, ¬ (S k).excl) : Rep 0 w0 n S a w where
  defers := h.defers
  size := h.size
  slots := h.slots
  below := h.below.mono (Nat.zero_le _)
  base := Nat.zero_le _
  holds := h.holds
  inb := h.inb
  ge k i hk _ := (hx k hk).elim
  disj k k' i _ hk _ := (hx k hk).elim
theorem facts_no : ∀ (fs : List (Nat × KV)) (S : St), (∀ k, ¬ (S k).excl) → (∀ x ∈ fs, ¬ x.2.excl) → ∀ k, ¬ (updAll S fs k).excl
  | [], S, h, _, k => h k
  | (j, v) :: r, S, h, hf, k => facts_no r _ (fun k' => by
      by_cases e : k' = j
      · subst e; rw [upd_same]; exact hf (k', v) (by simp)
      · rw [upd_ne _ _ e]; exact h k') (fun x hx => hf x (List.mem_cons_of_mem _ hx)) k
theorem facts_off {M : Nat → Prop} : ∀ (fs : List (Nat × KV)) (S : St), (∀ k i, M i → ¬ (S k).fp i) → (∀ x ∈ fs, ∀ i, M i → ¬ x.2.fp i) → ∀ k i, M i → ¬ (updAll S fs k).fp i
  | [], S, h, _, k => h k
  | (j, v) :: r, S, h, hf, k => facts_off r _ (fun k' => by
      by_cases e : k' = j
      · subst e; rw [upd_same]; exact hf (k', v) (by simp)
      · rw [upd_ne _ _ e]; exact h k') (fun x hx => hf x (List.mem_cons_of_mem _ hx)) k
theorem argL_sl (args : List Value) (k : Nat) : ofL (argL 0 args) k = .none ∨ ∃ v, ofL (argL 0 args) k = .slot true v := by
  unfold ofL
  rw [updAll_look, look_argL]
  simp only [Nat.zero_le, if_true, Nat.sub_zero]
  cases args[k]? with
  | none => exact .inl rfl
  | some v => exact .inr ⟨v, rfl⟩
theorem ownH_sub {Ms Cs Ds : List KV} {w : World} (h : OwnH Ms Cs w) (hs : ∀ D ∈ Ds, ∃ C ∈ Cs, ∀ i, D.fp i → C.fp i) : OwnH Ms Ds w :=
  ⟨h.one, h.two, fun K hK K' hK' i hi hi' => by
    obtain ⟨C, hC, hf⟩ := hs K' hK'
    exact h.off K hK C hC i hi (hf i hi')⟩
theorem ownH_fps {Ms Cs Ds : List KV} {w : World} (h : OwnH Ms Cs w) (hs : Ds.map KV.fp = Cs.map KV.fp) : OwnH Ms Ds w :=
  ownH_sub h fun D hD => by
    have : D.fp ∈ Cs.map KV.fp := by rw [← hs]; exact List.mem_map.2 ⟨D, hD, rfl⟩
    obtain ⟨C, hC, e⟩ := List.mem_map.1 this
    exact ⟨C, hC, fun i hi => by rw [e]; exact hi⟩
theorem k_enterY {P : Program} {f : FuncId} {fn : Func} {c : Code} {args : List Value} {w : World} {R : Ending → World → Prop} (n : Nat) (fs os : List (Nat × KV)) (hos : OwnH (os.map Prod.snd) (fs.map Prod.snd) w)
    (hfs : ∀ x ∈ fs, (∃ fp F, x.2 = .fact fp F) ∧ x.2.holds w ∧ ∀ i, x.2.fp i → i < w.heap.size)
    (hkeys : nodupB (os.map Prod.fst) = true)
    (hf : P.funcs[f]? = some fn) (hbd : fn.body = some c) (hn : fn.ntmps = n) (hl : Nat.ble args.length n = true)
    (h : ∀ a, Rep 0 w n (updAll (upd (updAll (ofL (argL 0 args)) fs) KFr (frM (os.map Prod.snd) w)) os) a w → c.wp P (mkQ (bodyPost P fn R .ret) [] (bodyPost P fn R .ret)) a w) : Calls P f args.toArray w R := by
  refine k_enterF n fs hfs hf hbd hn hl fun a H => h a ?_
  have hex : ∀ k, ¬ (updAll (ofL (argL 0 args)) fs k).excl := facts_no fs _ (fun k => by
    rcases argL_sl args k with h | ⟨v, h⟩ <;> rw [h] <;> exact fun h => h) fun x hx => by
      obtain ⟨⟨fp, F, hv⟩, _⟩ := hfs x hx
      rw [hv]; exact fun h => h
  have hoff : ∀ k i, fpK (os.map Prod.snd) i → ¬ (updAll (ofL (argL 0 args)) fs k).fp i := facts_off fs _ (fun k i _ => by
    rcases argL_sl args k with h | ⟨v, h⟩ <;> rw [h] <;> exact fun h => h) fun x hx i ⟨K, hK, hi⟩ hi' => hos.off K hK x.2 (List.mem_map.2 ⟨x, hx, rfl⟩) i hi hi'
  have h2 := H.low hex |>.ent KFr (frM (os.map Prod.snd) w) (by intro c x h; cases h) (fun w' ha i h1 h2 => ha i ⟨h1, h2⟩) (fun i hi => hi.1) (fun h => h.elim) (fun k' j _ hx _ => by
    rcases hx with hx | hx
    · exact hx.elim
    · exact (hex k' hx).elim)
  refine Rep.adds os _ h2 (fun p hp => ?_) ?_ fun p hp k hne hx i hi => ?_
  · obtain ⟨q1, q2, q3⟩ := hos.one p.2 (List.mem_map.2 ⟨p, hp, rfl⟩)
    exact ⟨fun c x e => by rw [e] at q2; exact q2, q1, q3, fun _ i _ => Nat.zero_le i⟩
  · have h3 := nodupB_spec hkeys
    have h4 := hos.two
    rw [List.pairwise_map] at h3 h4
    exact (h3.and h4).imp fun ⟨a, b⟩ => ⟨a, fun _ => b⟩
  · have hM : fpK (os.map Prod.snd) i := ⟨p.2, List.mem_map.2 ⟨p, hp, rfl⟩, hi⟩
    by_cases ek : k = KFr
    · subst ek
      rw [upd_same]
      exact fun hi' => hi'.2 hM
    · rw [upd_ne _ _ ek]
      exact hoff k i hM
theorem k_doneY {P : Program} {B n : Nat} {w0 : World} {S : St} {a : Act} {w : World} (hr : Rep B w0 n S a w) {fn : Func} (v : Gh → Value) (g : Gh) (Ms Fs : List KV) (Es : Gh → List Fam) (fr : Nat → Prop) (ks : List Nat) (segs : List (Nat × Seg))
    (hfr : fr = frI w0.heap.size Fs) (hcase : (B = w0.heap.size ∧ Ms = []) ∨ S KFr = frM Ms w0)
    (hks : ks.map S = (Es g).map (fun K => K fr)) (hnd : (nodupB ks && !(ks.contains KFr)) = true) (hE : ∀ K ∈ Es g, Fam.OK K)
    (hk : (fn.results.toList).all (fun x => isSlot (S (resT x))) = true)
    (hs : ∀ p ∈ segs, (∃ e, S p.1 = .blk p.2.b p.2.cs e) ∧ Nat.ble (p.2.off + p.2.m) p.2.cs.length = true)
    (hp : peek P (resultsE fn (fun t => envS S (.tmp t))) (segV (segs.map (·.2))) [] = some (v g, segA (segs.map (·.2)))) :
    bodyPost P fn (fun e w' => ∃ g : Gh, e = .returned (v g) ∧ But (fpK Ms) w0 w' ∧ OutOK w0.heap.size (fpK Ms) (frI w0.heap.size Fs) (Es g) w') .ret a w := by
  have hno : ∀ i, ¬ fpK [] i := fun i ⟨K, hK, _⟩ => by cases hK
  have hbut : But (fpK Ms) w0 w := by
    rcases hcase with ⟨h1, h2⟩ | h1
    · subst h2; exact ⟨hr.below.os, hr.below.tape, hr.below.output, hr.below.size, fun i hi _ => hr.below.block i (by omega)⟩
    · have h2 := hr.holds KFr
      rw [h1] at h2
      exact ⟨hr.below.os, hr.below.tape, hr.below.output, hr.below.size, h2 w (agree.refl _ _)⟩
  simp only [Bool.and_eq_true, Bool.not_eq_true', List.contains_eq_mem, decide_eq_false_iff_not] at hnd
  have hmem : ∀ K ∈ Es g, ∃ k ∈ ks, S k = K fr := fun K hK => by
    have : K fr ∈ ks.map S := by rw [hks]; exact List.mem_map.2 ⟨K, hK, rfl⟩
    obtain ⟨k, hk, e⟩ := List.mem_map.1 this
    exact ⟨k, hk, e⟩
  refine ⟨hr.defers, v g, run_results hr _ segs hk hs hp, g, rfl, hbut, fun K hK => ?_, ?_⟩
  · obtain ⟨k, hkk, e⟩ := hmem K hK
    have hO := hE K hK
    have hh : (K fr).holds w := by rw [← e]; exact hr.holds k
    refine ⟨hO.up fr anyF w hh fun _ _ _ => trivial, fun hx i hi => ?_, fun hx i hi => ?_⟩
    · have hi' : (S k).fp i := by rw [e, hO.fp fr anyF]; exact hi
      have hx' : (S k).excl := by rw [e]; exact (hO.ex _ _).1 hx
      rcases hcase with ⟨h1, h2⟩ | h1
      · exact .inl (by have := hr.ge k i hx' hi'; omega)
      · rcases Nat.lt_or_ge i w0.heap.size with hlt | hge
        · refine .inr (Classical.byContradiction fun hM => ?_)
          exact hr.disj k KFr i (fun e => hnd.2 (e ▸ hkk)) hx' hi' (by rw [h1]; exact ⟨hlt, hM⟩)
        · exact .inl hge
    · rw [← hfr]
      exact hO.lo fr w (fun h => hx ((hO.ex _ _).1 h)) hh i (by rw [hO.fp fr anyF]; exact hi)
  · -- disjoint: the keys are distinct
    have h1 := nodupB_spec hnd.1
    have h2 : (ks.map S).Pairwise fun A A' => (A.excl ∨ A'.excl) → ∀ i, A.fp i → ¬ A'.fp i := by
      rw [List.pairwise_map]
      refine h1.imp fun {k k'} hne hx i hi hi' => ?_
      rcases hx with hx | hx
      · exact hr.disj k k' i hne hx hi hi'
      · exact hr.disj k' k i (Ne.symm hne) hx hi' hi
    rw [hks, List.pairwise_map] at h2
    refine h2.imp_of_mem fun {K K'} hK hK' hp hx i hi hi' => hp ?_ i (by rw [(hE K hK).fp fr anyF]; exact hi) (by rw [(hE K' hK').fp fr anyF]; exact hi')
    rcases hx with hx | hx
    · exact .inl (((hE K hK).ex _ _).1 hx)
    · exact .inr (((hE K' hK').ex _ _).1 hx)
end Go.Sx
