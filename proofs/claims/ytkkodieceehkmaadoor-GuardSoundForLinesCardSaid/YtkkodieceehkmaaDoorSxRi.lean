/- Sx: words and proofs for walking code by symbolic states (the part 'Ri'). Own work, the same for every seat. -/
import Derived.Test.YtkkodieceehkmaaDoorSxRh
set_option linter.unusedVariables false
set_option linter.unusedSimpArgs false
namespace Go.Sx
open Go Go.RowKit

/-! ### The statement 'for x, y := range g { .. }' -/
abbrev obK (l : Nat) (o : Obj) : KV := .own (· = l) (fun w => w.heap[l]? = some o)
abbrev markD (D : Nat) : Deferred := { target := .collected D, args := #[] }
theorem Rep.newOb {B : Nat} {w0 : World} {n : Nat} {S : St} {a : Act} {w : World} (h : Rep B w0 n S a w) (k : Nat) (o : Obj) : Rep B w0 n (upd S k (obK w.heap.size o)) a (w.alloc o) := by
  have hb : Below w.heap.size w (w.alloc o) := (Below.refl _ w).alloc (Nat.le_refl _) _
  refine (h.world hb).ent k (obK w.heap.size o) (by intro c x h; cases h) ?_ ?_ ?_ ?_
  · intro w' ha
    exact (ha w.heap.size rfl).trans (World.alloc_heap_new w o)
  · intro j hj
    have hj' : j = w.heap.size := hj
    subst hj'; simp
  · intro _ j hj
    have hj' : j = w.heap.size := hj
    subst hj'; exact h.base
  · intro k' j _ _ hj hj'
    have hj2 : j = w.heap.size := hj
    subst hj2
    exact Nat.lt_irrefl _ (h.inb k' _ hj')
theorem ob_of {w : World} {l : Nat} {o : Obj} (h : (obK l o).holds w) : w.heap[l]? = some o := h w (agree.refl _ _)
theorem Rep.putOb {B : Nat} {w0 : World} {n : Nat} {S : St} {a : Act} {w : World} (h : Rep B w0 n S a w) (k l : Nat) (o o' : Obj) (hk : S k = obK l o) : Rep B w0 n (upd S k (obK l o')) a (w.putObj l o') := by
  have hh : w.heap[l]? = some o := ob_of (by rw [← hk]; exact h.holds k)
  have hl : l < w.heap.size := (Array.getElem?_eq_some_iff.1 hh).1
  have hx : (S k).excl := by rw [hk]; trivial
  have hfl : (S k).fp l := by rw [hk]; rfl
  have hBl : B ≤ l := h.ge k l hx hfl
  have hsz : (w.putObj l o').heap.size = w.heap.size := by simp [World.putObj]
  have hoth : ∀ i, i ≠ l → (w.putObj l o').heap[i]? = w.heap[i]? := fun i hi => World.putObj_heap_other (fun e => hi (by rw [e]))
  have hnl : ∀ k', k' ≠ k → ¬ (S k').fp l := fun k' hne hf => h.disj k k' l (Ne.symm hne) hx hfl hf
  exact {
    defers := h.defers
    size := h.size
    slots := fun t c v hs => by
      by_cases e : t = k
      · subst e; rw [upd_same] at hs; cases hs
      · rw [upd_ne _ _ e] at hs; exact h.slots t c v hs
    below := ⟨h.below.os, h.below.tape, h.below.output, by rw [hsz]; exact h.below.size, fun i hi => (hoth i (by omega)).trans (h.below.block i hi)⟩
    base := by rw [hsz]; exact h.base
    holds := fun j => by
      by_cases e : j = k
      · subst e; rw [upd_same]
        intro w' ha
        exact (ha l rfl).trans (World.putObj_heap_same hl)
      · rw [upd_ne _ _ e]
        exact KV.holds_agree (h.holds j) fun i hi => hoth i (fun e2 => hnl j e (by rw [← e2]; exact hi))
    inb := fun j i hi => by
      rw [hsz]
      by_cases e : j = k
      · subst e; rw [upd_same] at hi; have e2 : i = l := hi; subst e2; exact hl
      · rw [upd_ne _ _ e] at hi; exact h.inb j i hi
    ge := fun j i hx' hi => by
      by_cases e : j = k
      · subst e; rw [upd_same] at hi; have e2 : i = l := hi; subst e2; exact hBl
      · rw [upd_ne _ _ e] at hi hx'; exact h.ge j i hx' hi
    disj := fun j j' i hne hx' hi hi' => by
      by_cases e : j = k
      · subst e
        rw [upd_same] at hi
        have e2 : i = l := hi
        subst e2
        rw [upd_ne _ _ (Ne.symm hne)] at hi'
        exact hnl j' (Ne.symm hne) hi'
      · rw [upd_ne _ _ e] at hi hx'
        by_cases e' : j' = k
        · subst e'
          rw [upd_same] at hi'
          have e2 : i = l := hi'
          subst e2
          exact hnl j e hi
        · rw [upd_ne _ _ e'] at hi'
          exact h.disj j j' i hne hx' hi hi' }
theorem ofL_look (l : List (Nat × KV)) (k : Nat) : ofL l k = (look l k).getD .none := by unfold ofL; rw [updAll_look]
/-- The slots of one frame, the entries of another's state. -/
theorem Rep.mix {B : Nat} {w0 : World} {n : Nat} {S : St} {a a3 : Act} {w w3 : World} (h : Rep B w0 n S a w) (L : List (Nat × KV)) (hL : (L.all fun x => !isSlot x.2) = true) (h3 : Rep B w0 n (ofL L) a3 w3) : Rep B w0 n (updAll (slotsOf S) L) a w3 := by
  have key : ∀ k, (∃ v, look L k = some v ∧ updAll (slotsOf S) L k = v ∧ ofL L k = v) ∨ (look L k = none ∧ updAll (slotsOf S) L k = slotsOf S k) := by
    intro k
    rw [updAll_look, ofL_look]
    cases hl : look L k with
    | none => exact .inr ⟨rfl, rfl⟩
    | some v => exact .inl ⟨v, rfl, rfl, rfl⟩
  exact {
    defers := h.defers
    size := h.size
    slots := fun t c v hs => by
      rcases key t with ⟨x, h1, h2, _⟩ | ⟨_, h2⟩
      · exfalso
        have := List.all_eq_true.1 hL _ (look_mem h1)
        rw [h2] at hs
        rw [hs] at this
        cases this
      · rw [h2] at hs
        exact h.slots t c v (slotsOf_slot hs)
    below := h3.below
    base := h3.base
    holds := fun k => by
      rcases key k with ⟨x, _, h2, h4⟩ | ⟨_, h2⟩
      · rw [h2, ← h4]; exact h3.holds k
      · rw [h2]; exact slotsOf_holds
    inb := fun k i hi => by
      rcases key k with ⟨x, _, h2, h4⟩ | ⟨_, h2⟩
      · rw [h2, ← h4] at hi; exact h3.inb k i hi
      · rw [h2] at hi; exact (slotsOf_fp hi).elim
    ge := fun k i hx hi => by
      rcases key k with ⟨x, _, h2, h4⟩ | ⟨_, h2⟩
      · rw [h2, ← h4] at hi hx; exact h3.ge k i hx hi
      · rw [h2] at hi; exact (slotsOf_fp hi).elim
    disj := fun k k' i hne hx hi hi' => by
      rcases key k with ⟨x, _, h2, h4⟩ | ⟨_, h2⟩
      · rcases key k' with ⟨x', _, h2', h4'⟩ | ⟨_, h2'⟩
        · rw [h2, ← h4] at hi hx
          rw [h2', ← h4'] at hi'
          exact h3.disj k k' i hne hx hi hi'
        · rw [h2'] at hi'; exact slotsOf_fp hi'
      · rw [h2] at hi; exact slotsOf_fp hi }

/-- What a function's value that is ranged over gives: each of xs0 in turn; or a round has said 'no more'. Fx: what it reads behind a round. -/
def IterOK {α : Type} (P : Program) (gf : Nat) (lb : Array Value) (encs : α → Array Value) (xs0 : List α) (Fx : World → Prop) : Prop :=
  ∀ (l : Nat) (J : List α → World → Prop) (JX : World → Prop), (∀ r W W', J r W → Below W.heap.size W W' → J r W') → (∀ W W', JX W → Below W.heap.size W W' → JX W') → (∀ r W, J r W → Fx W) →
    ∀ wc : World, (∀ r W, J r W → Below 0 wc W) → (∀ W, JX W → Below 0 wc W) →
    (∀ x rest W, J (x :: rest) W → YieldAt (WF none) 0 P l (encs x) W fun e W' => (e = .returned (.bool true) ∧ J rest W') ∨ (e = .returned (.bool false) ∧ JX W')) →
    ∀ W, J xs0 W → CallsIn (WF none) 0 P gf (#[.func (.yield l) #[] #[]] ++ lb) W fun e W' => (∃ v, e = .returned v) ∧ (J [] W' ∨ JX W')

abbrev okE (kl kD : Nat) (x : Nat × KV) : Bool := !isSlot x.2 && (!Nat.beq x.1 kl && !Nat.beq x.1 kD)
theorem k_range2 {α : Type} {P : Program} {B n : Nat} {w0 : World} {S : St} {a : Act} {w : World} {N : K} {xs : List (Nat × K)} {R : K} {g : Operand} {p1 p2 : Tmp} {assign body : Code} {gf : Nat} {lb : Array Value}
    (e1 e2 : α → Value) (xs0 : List α) (Fx : World → Prop) (kl kD : Nat) (Inv : List α → List (Nat × KV) → Prop) (InvX : List (Nat × KV) → Prop) (L0 : List (Nat × KV))
    (hr : Rep B w0 n S a w) (hk : knownB S g = true) (hg : envS S g = .func (.func gf) #[] lb) (eg : ∀ args w, (callFunc gf args).run P w = .ok (.enter gf args) w)
    (hit : IterOK P gf lb (fun x => #[e1 x, e2 x]) xs0 Fx) (hp1 : Nat.blt p1 n = true) (hp2 : Nat.blt p2 n = true)
    (h0 : Inv xs0 L0) (hn0 : L0.all (okE kl kD) = true) (hs0 : L0.map (fun x => S x.1) = L0.map (·.2)) (hkl : S kl = .none) (hkD : S kD = .none) (hne : Nat.beq kD kl = false)
    (hF : ∀ r L a W, Inv r L → Rep B w0 n (updAll (slotsOf S) L) a W → Fx W)
    (hround : ∀ (l D : Nat) (oR oD : Obj) (x : α) (rest : List α) (L : List (Nat × KV)) (a1 : Act) (w1 : World), Inv (x :: rest) L →
      Rep B w0 n (updAll (updAll (slotsOf S) L) [(kl, obK l oR), (kD, obK D oD), (p1, .slot true (e1 x)), (p2, .slot true (e2 x))]) a1 w1 →
      rwp (some l) [] P assign (mkQ (fun a2 w2 => ∃ S2, Rep B w0 n S2 a2 w2 ∧ S2 kl = obK l oR ∧ ∀ oB w3, Rep B w0 n (upd S2 kl (obK l oB)) a2 w3 →
        rwp (some l) [] P body (mkQ (fun a3 w4 => ∃ L', Inv rest L' ∧ L'.all (okE kl kD) = true ∧ Rep B w0 n (ofL (L' ++ [(kl, obK l oB), (kD, obK D oD)])) a3 w4) []
          (fun a3 w4 => ∃ L', InvX L' ∧ L'.all (okE kl kD) = true ∧ Rep B w0 n (ofL (L' ++ [(kl, obK l oB), (kD, obK D oD)])) a3 w4)) a2 w3) [] (fun _ _ => False)) a1 w1)
    (hdone : ∀ (D : Nat) (L : List (Nat × KV)) (W : World), Inv [] L → Rep B w0 n (updAll (updAll (slotsOf S) L) [(kD, obK D (.deferred (some [])))]) a W → N (Act.wd a [markD D]) W)
    (hstop : ∀ (D : Nat) (L : List (Nat × KV)) (W : World), InvX L → Rep B w0 n (updAll (updAll (slotsOf S) L) [(kD, obK D (.deferred (some [])))]) a W → R (Act.wd a [markD D]) W) :
    (Code.rangeFunc g #[p1, p2] assign body).wp P (mkQ N xs R) a w := by
  have hp1' : p1 < n := by simpa using hp1
  have hp2' : p2 < n := by simpa using hp2
  have hne' : kD ≠ kl := fun e => by subst e; rw [show Nat.beq kD kD = true from Nat.beq_refl kD] at hne; cases hne
  have hge : a.eval g = .func (.func gf) #[] lb := (env_eq hr hk).trans hg
  refine (wpIn_wide (n := 0)).1 (wpIn_rangeFunc fun fn hfn => ?_)
  obtain ⟨rec, hrec⟩ : ∃ rec : LoopState → Option Code → Loop, rec = fun st pe => { state := st, pending := pe, fn, tmps := a.tmps, params := #[p1, p2], assign, body, defers := w.heap.size } := ⟨_, rfl⟩
  obtain ⟨D, hD⟩ : ∃ D, D = w.heap.size := ⟨_, rfl⟩
  obtain ⟨l, hl⟩ : ∃ l, l = w.heap.size + 1 := ⟨_, rfl⟩
  -- the state between two rounds
  let st : List (Nat × KV) → Loop → St := fun L r => updAll (updAll (slotsOf S) L) [(kl, obK l (.loop r)), (kD, obK D (.deferred (some [])))]
  let J : List α → World → Prop := fun r W => ∃ L, Inv r L ∧ L.all (okE kl kD) = true ∧ Rep B w0 n (st L (rec .ready none)) a W
  let JX : World → Prop := fun W => ∃ L, InvX L ∧ L.all (okE kl kD) = true ∧ Rep B w0 n (st L (rec .done (some .ret))) a W
  have hst_kl : ∀ L r, st L r kl = obK l (.loop r) := fun L r => by
    show upd (upd _ kl _) kD _ kl = _
    rw [upd_ne _ _ (Ne.symm hne'), upd_same]
  have hst_kD : ∀ L r, st L r kD = obK D (.deferred (some [])) := fun L r => by
    show upd (upd _ kl _) kD _ kD = _
    rw [upd_same]
  have hLk : ∀ L, L.all (okE kl kD) = true → ∀ k, (k = kl ∨ k = kD) → updAll (slotsOf S) L k = .none := fun L hL k hk' => by
    have hnone : S k = .none := by
      rcases hk' with rfl | rfl
      · exact hkl
      · exact hkD
    rw [updAll_look]
    cases hlk : look L k with
    | some v =>
      exfalso
      have h1 := List.all_eq_true.1 hL _ (look_mem hlk)
      simp only [okE, Bool.and_eq_true, Bool.not_eq_true'] at h1
      rcases hk' with rfl | rfl
      · have := h1.2.1; rw [show Nat.beq k k = true from Nat.beq_refl k] at this; cases this
      · have := h1.2.2; rw [show Nat.beq k k = true from Nat.beq_refl k] at this; cases this
    | none =>
      show slotsOf S k = .none
      unfold slotsOf; rw [hnone]
  -- the record turns
  have hturn : ∀ L r r' W, Rep B w0 n (st L r) a W → Rep B w0 n (st L r') a (W.putObj l (.loop r')) := fun L r r' W h => by
    refine (h.putOb kl l (.loop r) (.loop r') (hst_kl L r)).congr fun k => ?_
    show upd (upd _ kl _) kD _ k = upd (upd (upd _ kl _) kD _) kl _ k
    by_cases e : k = kl
    · subst e; rw [upd_ne _ _ (Ne.symm hne'), upd_same, upd_same]
    · rw [upd_ne _ _ e]
      by_cases e' : k = kD
      · subst e'; rw [upd_same, upd_same]
      · rw [upd_ne _ _ e', upd_ne _ _ e, upd_ne _ _ e', upd_ne _ _ e]
  have hW1 : Rep B w0 n (st L0 (rec .ready none)) a ((w.alloc (.deferred (some []))).alloc (.loop (rec .ready none))) := by
    have hS : Rep B w0 n S a w := hr
    have h1 := hS.newOb kD (.deferred (some []))
    have h2 := h1.newOb kl (.loop (rec .ready none))
    rw [World.size_alloc] at h2
    have h2' : Rep B w0 n (upd (upd S kD (obK D (.deferred (some [])))) kl (obK l (.loop (rec .ready none)))) a ((w.alloc (.deferred (some []))).alloc (.loop (rec .ready none))) := by rw [hD, hl]; exact h2
    -- entries not told are forgotten
    refine (h2'.weak (S' := st L0 (rec .ready none)) fun k => ?_)
    show upd (upd _ kl _) kD _ k = _ ∨ upd (upd _ kl _) kD _ k = _
    by_cases e : k = kD
    · subst e; right; rw [upd_same, upd_ne _ _ hne', upd_same]
    · rw [upd_ne _ _ e]
      by_cases e' : k = kl
      · subst e'; right; rw [upd_same, upd_same]
      · rw [upd_ne _ _ e', upd_ne _ _ e', upd_ne _ _ e, updAll_look]
        cases hlk : look L0 k with
        | some v =>
          right
          have hm := look_mem hlk
          obtain ⟨i, hi⟩ := List.mem_iff_getElem?.1 hm
          have h3 : (L0.map (fun x => S x.1))[i]? = (L0.map (·.2))[i]? := by rw [hs0]
          simp only [List.getElem?_map, hi, Option.map_some, Option.some.injEq] at h3
          exact h3.symm
        | none =>
          show slotsOf S k = _ ∨ slotsOf S k = _
          unfold slotsOf
          split
          · rename_i hsl; right; rw [hsl]
          · left; rfl
  refine ⟨l, [markD D], (w.alloc (.deferred (some []))).alloc (.loop (rec .ready none)), { target := .fn (.func gf) lb, args := #[.func (.yield l) #[] #[]] }, (w.alloc (.deferred (some []))).alloc (.loop (rec .ready none)), gf,
    #[.func (.yield l) #[] #[]] ++ lb, (w.alloc (.deferred (some []))).alloc (.loop (rec .ready none)), ?_, ?_, ?_, ?_, fun e => (by cases e), ?_⟩
  · rw [hrec, hl, hD]; exact run_enterLoop_outer _ _ _ _ _
  · simp only [resolve, hge]
    simp [go_sem]
  · intro f' hf'; trivial
  · simp [invoke, go_sem, eg]
  · refine (hit l J JX ?_ ?_ ?_ w0 ?_ ?_ ?_ _ ⟨L0, h0, hn0, hW1⟩).mono ?_
    · rintro r W W' ⟨L, h1, h2, h3⟩ hb; exact ⟨L, h1, h2, h3.world hb⟩
    · rintro W W' ⟨L, h1, h2, h3⟩ hb; exact ⟨L, h1, h2, h3.world hb⟩
    · rintro r W ⟨L, h1, h2, h3⟩
      refine hF r L a W h1 (h3.weak fun k => ?_)
      by_cases e : k = kl
      · subst e; left; exact hLk L h2 k (.inl rfl)
      · by_cases e' : k = kD
        · subst e'; left; exact hLk L h2 k (.inr rfl)
        · right
          show _ = upd (upd _ kl _) kD _ k
          rw [upd_ne _ _ e', upd_ne _ _ e]
    · rintro r W ⟨L, h1, h2, h3⟩; exact h3.below.mono (Nat.zero_le _)
    · rintro W ⟨L, h1, h2, h3⟩; exact h3.below.mono (Nat.zero_le _)
    · -- a round
      rintro x rest W ⟨L, hI, hLo, hRep⟩
      have hlr : W.heap[l]? = some (.loop (rec .ready none)) := ob_of (by rw [← hst_kl L]; exact hRep.holds kl)
      have hy := run_yield (P := P) (args := #[e1 x, e2 x]) hlr (by rw [hrec]; rfl)
      rw [hrec] at hy
      refine ⟨fn, _, assign, body, hy, roundIn_of_wpIn (F := WF none) (n := 0) hfn ?_⟩
      have hr1 : Rep B w0 n (upd (upd (st L (rec .ready none)) p1 (.slot true (e1 x))) p2 (.slot true (e2 x))) ((a.put (some p1) (e1 x)).put (some p2) (e2 x)) W := (hRep.put hp1' true (e1 x)).put hp2' true (e2 x)
      have hact : ({ tmps := (#[p1, p2].zip #[e1 x, e2 x]).foldl (fun tmps (x : Tmp × Value) => tmps.setIfInBounds x.1 x.2) a.tmps, defers := [] } : Act) = (a.put (some p1) (e1 x)).put (some p2) (e2 x) := by
        simp [Act.put, hr.defers]
      have hgo := hround l D (.loop (rec .ready none)) (.deferred (some [])) x rest L _ W hI hr1
      have := r_in hgo
      rw [← hact] at this
      refine wpIn_mono this ?_
      intro e a2 w2 hq
      cases e with
      | normal =>
        obtain ⟨S2, hR2, hS2, hbody⟩ := hq
        have hl2 : w2.heap[l]? = some (.loop (rec .ready none)) := ob_of (by rw [← hS2]; exact hR2.holds kl)
        refine ⟨_, run_beginRound hl2 (by rw [hrec]), ?_⟩
        refine wpIn_mono (r_in (hbody _ _ (hR2.putOb kl l _ _ hS2))) ?_
        have fin : ∀ (jump : Option Code) (a3 : Act) (W3 : World) (L' : List (Nat × KV)), L'.all (okE kl kD) = true → Rep B w0 n (ofL (L' ++ [(kl, obK l (.loop { rec .ready none with state := .busy })), (kD, obK D (.deferred (some [])))])) a3 W3 →
            (Instr.endRound l jump).run P W3 = .ok (.bool jump.isNone) (W3.putObj l (.loop (rec (if jump.isNone then .ready else .done) jump))) ∧ Rep B w0 n (st L' (rec (if jump.isNone then .ready else .done) jump)) a (W3.putObj l (.loop (rec (if jump.isNone then .ready else .done) jump))) := by
          intro jump a3 W3 L' hns hR3
          have hmix := hr.mix _ (by rw [List.all_append, Bool.and_eq_true]; exact ⟨List.all_eq_true.2 fun x hx => by have := List.all_eq_true.1 hns x hx; simp only [okE, Bool.and_eq_true] at this; exact this.1, rfl⟩) hR3
          have hst' : ∀ k, st L' { rec .ready none with state := .busy } k = updAll (slotsOf S) (L' ++ [(kl, obK l (.loop { rec .ready none with state := .busy })), (kD, obK D (.deferred (some [])))]) k := by
            intro k
            have : ∀ (A C : List (Nat × KV)) (T : St), updAll T (A ++ C) = updAll (updAll T A) C := by
              intro A
              induction A with
              | nil => intro C T; rfl
              | cons x A ih => intro C T; obtain ⟨j, v⟩ := x; exact ih C _
            rw [this]
          have h5 := hmix.congr hst'
          have hl3 : W3.heap[l]? = some (.loop { rec .ready none with state := .busy }) := ob_of (by rw [← hst_kl L']; exact h5.holds kl)
          have he := run_endRound (P := P) jump hl3
          rw [hrec] at he
          refine ⟨by rw [hrec]; exact he, hturn L' _ _ W3 h5⟩
        intro e a3 W3 hq3
        cases e with
        | normal =>
          obtain ⟨L', hI', hns, hR3⟩ := hq3
          obtain ⟨h6, h7⟩ := fin none a3 W3 L' hns hR3
          exact ⟨_, _, h6, .inl ⟨rfl, L', hI', hns, h7⟩⟩
        | ret =>
          obtain ⟨L', hI', hns, hR3⟩ := hq3
          obtain ⟨h6, h7⟩ := fin (some .ret) a3 W3 L' hns hR3
          exact ⟨_, _, h6, .inr ⟨rfl, L', hI', hns, h7⟩⟩
        | exit i => exact hq3.elim
        | goto t => exact hq3.elim
        | panic c => exact hq3.elim
        | outgrown => exact hq3.elim
      | exit i => exact hq.elim
      | ret => exact hq.elim
      | goto t => exact hq.elim
      | panic c => exact hq.elim
      | outgrown => exact hq.elim
    · -- behind it
      have hdef : ({ a with defers := [markD D] ++ a.defers } : Act) = Act.wd a [markD D] := by simp [Act.wd, hr.defers]
      have hfor : ∀ L r W, L.all (okE kl kD) = true → Rep B w0 n (st L r) a W → Rep B w0 n (updAll (updAll (slotsOf S) L) [(kD, obK D (.deferred (some [])))]) a W := by
        intro L r W h2 h
        refine h.weak fun k => ?_
        show upd _ kD _ k = _ ∨ upd _ kD _ k = upd (upd _ kl _) kD _ k
        by_cases e' : k = kD
        · subst e'; right; rw [upd_same, upd_same]
        · rw [upd_ne _ _ e', upd_ne _ _ e']
          by_cases e : k = kl
          · subst e; left; exact hLk L h2 k (.inl rfl)
          · right; rw [upd_ne _ _ e]
      rintro e W2 ⟨⟨v, rfl⟩, (⟨L, hI, hLo, hR2⟩ | ⟨L, hI, hLo, hR2⟩)⟩
      · have hl2 : W2.heap[l]? = some (.loop (rec .ready none)) := ob_of (by rw [← hst_kl L]; exact hR2.holds kl)
        refine ⟨none, _, by have := run_endLoop (P := P) hl2 (by rw [hrec]; simp); rw [hrec] at this; exact this, ?_⟩
        have h3 := hdone D L _ hI (hfor L _ _ hLo (hturn L _ { rec .ready none with state := .exhausted } W2 hR2))
        rw [hdef]
        rw [hrec] at h3
        exact h3
      · have hl2 : W2.heap[l]? = some (.loop (rec .done (some .ret))) := ob_of (by rw [← hst_kl L]; exact hR2.holds kl)
        refine ⟨some .ret, _, by have := run_endLoop (P := P) hl2 (by rw [hrec]; simp); rw [hrec] at this; exact this, ?_⟩
        have h3 := hstop D L _ hI (hfor L _ _ hLo (hturn L _ { rec .done (some .ret) with state := .exhausted } W2 hR2))
        rw [hdef]
        rw [hrec] at h3
        exact wpIn_ret h3
end Go.Sx
