/- Sx: words and proofs for walking code by symbolic states (the part 'Rh'). Own work, the same for every seat. -/
import Derived.Test.YtkkodieceehkmaaDoorSxRg
import Derived.RangeFuncSeq
import Derived.LoopNIn
import Derived.CallsIn
set_option linter.unusedVariables false
set_option linter.unusedSimpArgs false
namespace Go.Sx
open Go Go.RowKit

/-! ### Frames whose world turns from without: the slots stay -/
def slotsOf (S : St) : St := fun k => match S k with | .slot c v => .slot c v | _ => .none
theorem slotsOf_slot {S : St} {k : Nat} {c : Bool} {v : Value} (h : slotsOf S k = .slot c v) : S k = .slot c v := by
  unfold slotsOf at h
  split at h
  · rename_i e; rw [e]; exact h
  · cases h
theorem slotsOf_fp {S : St} {k i : Nat} : ¬ (slotsOf S k).fp i := by
  unfold slotsOf
  split <;> exact fun h => h
theorem slotsOf_holds {S : St} {k : Nat} {w : World} : (slotsOf S k).holds w := by
  unfold slotsOf
  split <;> trivial
theorem Rep.restart {B B' : Nat} {w0 w1 w : World} {n : Nat} {S : St} {a : Act} (h : Rep B w0 n S a w) (w' : World) (hb : Below B' w1 w') (hB : B' ≤ w'.heap.size) : Rep B' w1 n (slotsOf S) a w' where
  defers := h.defers
  size := h.size
  slots t c v hs := h.slots t c v (slotsOf_slot hs)
  below := hb
  base := hB
  holds k := slotsOf_holds
  inb k i hi := (slotsOf_fp hi).elim
  ge k i _ hi := (slotsOf_fp hi).elim
  disj k k' i _ _ hi := (slotsOf_fp hi).elim
theorem slotsOf_excl {S : St} (k : Nat) : ¬ (slotsOf S k).excl := by
  unfold slotsOf
  split <;> exact fun h => h
/-- The same frame, begun anew in a world of which some facts are known. -/
theorem Rep.again {B B' : Nat} {w0 w1 w : World} {n : Nat} {S : St} {a : Act} (h : Rep B w0 n S a w) (w' : World) (hb : Below B' w1 w') (hB : B' ≤ w'.heap.size) (fs : List (Nat × KV))
    (hfs : ∀ x ∈ fs, (∃ fp F, x.2 = .fact fp F) ∧ x.2.holds w' ∧ ∀ i, x.2.fp i → i < w'.heap.size) : Rep B' w1 n (updAll (slotsOf S) fs) a w' :=
  Rep.facts fs _ (h.restart w' hb hB) slotsOf_excl hfs

/-- A block, as a fact. -/
abbrev bxK (b : Nat) (cs : List Value) (e : TypeId) : KV := .fact (· = b) (fun w => w.heap[b]? = some (.cells cs.toArray e (0, 0)))
theorem bx_fact {w : World} {b : Nat} {cs : List Value} {e : TypeId} (h : w.heap[b]? = some (.cells cs.toArray e (0, 0))) (k : Nat) : (∃ fp F, (k, bxK b cs e).2 = .fact fp F) ∧ (bxK b cs e).holds w ∧ ∀ i, (bxK b cs e).fp i → i < w.heap.size :=
  ⟨⟨_, _, rfl⟩, fun w' ha => (ha b rfl).trans h, fun i hi => by have e : i = b := hi; subst e; exact (Array.getElem?_eq_some_iff.1 h).1⟩
theorem bx_of {w : World} {b : Nat} {cs : List Value} {e : TypeId} (h : (bxK b cs e).holds w) : ∃ e fz, w.heap[b]? = some (.cells cs.toArray e fz) := ⟨_, _, h w (agree.refl _ _)⟩

section
variable {P : Program} {ro : Option Nat} {ds : List Deferred} {N : K} {xs : List (Nat × K)} {R : K} {a : Act} {w : World}
theorem r_loopJ {c : Code} (J : Nat → K) (m : Nat) (h0 : J m a w) (hs : ∀ m a w, J m a w → rwp ro ds P c (mkQ (fun a w => ∃ m', m' < m ∧ J m' a w) xs R) a w) : rwp ro ds P (Code.loop c) (mkQ N xs R) a w := by
  have key : ∀ (M m : Nat) (a : Act) (w : World), m < M → J m a w → Code.roundsIn (WF ro) 0 P c (fun e a' w' => ∃ a0, a' = Act.wd a0 ds ∧ mkQ N xs R e a0 w') M (Act.wd a ds) w := by
    intro M
    induction M with
    | zero => intro m a w h; exact absurd h (Nat.not_lt_zero _)
    | succ M ih =>
      intro m a w hm hJ
      refine wpIn_mono (hs m a w hJ) fun e _ w' hh => ?_
      obtain ⟨a0, rfl, q⟩ := hh
      cases e with
      | normal => obtain ⟨m', hm', hj⟩ := q; exact ih m' a0 w' (by omega) hj
      | _ => exact ⟨a0, rfl, q⟩
  exact wpIn_loop_rounds (m + 1) (key _ m a w (Nat.lt_succ_self m) h0)
/-- Into the marked walk. -/
theorem r_in {c : Code} {Q : Exit → Act → World → Prop} (h : rwp ro [] P c Q a w) : c.wpIn (WF ro) 0 P Q a w := by
  have := wpIn_mono h (Q' := Q) fun e a' w' ⟨a0, e1, h1⟩ => by rw [e1, wd_nil]; exact h1
  rwa [wd_nil] at this
theorem r_of {c : Code} {Q : Exit → Act → World → Prop} (h : c.wpIn (WF ro) 0 P Q a w) : rwp ro [] P c Q a w := by
  unfold rwp
  rw [wd_nil]
  exact wpIn_mono h fun e a' w' q => ⟨a', (wd_nil a').symm, q⟩
end

/-! ### A call of yield -/
abbrev jK (N : Nat) (w0 : World) (J : World → Prop) : KV := .fact (· < N) (fun w => Below 0 w0 w → J w)
theorem jK_of {w w0 : World} {J : World → Prop} (hJ : ∀ W', Below w.heap.size w W' → J W') (hb : Below 0 w0 w) : (jK w.heap.size w0 J).holds w :=
  fun w' ha hb' => hJ w' ⟨hb'.os.trans hb.os.symm, hb'.tape.trans hb.tape.symm, hb'.output.trans hb.output.symm, by
    rcases Nat.eq_zero_or_pos w.heap.size with h0 | h0
    · omega
    · have h1 := ha (w.heap.size - 1) (show w.heap.size - 1 < w.heap.size by omega)
      rw [Array.getElem?_eq_getElem (show w.heap.size - 1 < w.heap.size by omega)] at h1
      have := (Array.getElem?_eq_some_iff.1 h1).1
      omega, fun k hk => ha k hk⟩

theorem ok_yield {P : Program} {ops : Array Oper} {n i : Nat} {o : Oper} {Spre : Nu → St} {w0 : World} (kJ : Nat) (gk : KV) (l : Nat) (args : Nu → Array Value) (Jr Jn JX : World → Prop) (d : Nat)
    (hG : ∀ ν, Spre ν kJ = gk) (hgk : ∀ w, gk.holds w → Below 0 w0 w → Jr w)
    (hY : ∀ ν W, Jr W → YieldAt (WF none) 0 P l (args ν) W fun e W' => (e = .returned (.bool true) ∧ Jn W') ∨ (e = .returned (.bool false) ∧ JX W'))
    (hJn : ∀ W W', Jn W → Below W.heap.size W W' → Jn W') (hJX : ∀ W W', JX W → Below W.heap.size W W' → JX W') (hJ0 : ∀ W, Jn W → Below 0 w0 W) (hX0 : ∀ W, JX W → Below 0 w0 W)
    (hd : o.dst = some d := by rfl) (hdn : Nat.blt d n = true := by rfl) (hkn : Nat.ble n kJ = true := by rfl) (hsel : noSel o = true := by rfl) (hg : o.guard = none := by rfl)
    (hk : ∀ ν, (o.op.operands.all (knownB (Spre ν))) = true := by intro _; kernel_rfl)
    (hp : ∀ ν, (condsOf o (Spre ν)).all id = true := by intro _; kernel_rfl)
    (hv : ∀ ν w, (execOp (envU (Spre ν)) o).run P w = (Instr.yield l (args ν)).run P w := by intro _ _; kernel_rfl) :
    OpOKi none P ops (RepO kJ 0 w0 n) i o Spre (kJ :: tmpsOf ops o) (fun ν => [(d, .slot true (.bool (decide ((ν i).n 0 = 1)))), (kJ, bif decide ((ν i).n 0 = 1) then jK ((ν i).n 1) w0 Jn else jK ((ν i).n 1) w0 JX)]) := by
  have hdn' : d < n := by simpa using hdn
  have hkn' : n ≤ kJ := by simpa using hkn
  intro Q p S a w hag hpi hoi hrep
  obtain ⟨ν0, h0⟩ := Ext.exists p
  have hRk : ∀ ν, Ext p ν → ∀ k ∈ tmpsOf ops o, S ν k = Spre ν k := fun ν hν k hk' => hag ν hν k (List.mem_cons_of_mem _ hk')
  have hev : execOp a.eval o = execOp (envU (Spre ν0)) o := by
    have h1 : execOp a.eval o = execOp (envS (Spre ν0)) o := by
      refine execOp_congr o (noSel_spec hsel) fun x hx => ?_
      have h1 : knownB (S ν0) x = true := by
        rw [knownB_congr (ops := ops) (hRk ν0 h0) x hx]
        exact Array.all_eq_true_iff_forall_mem.1 (hk ν0) x hx
      rw [env_eq (hrep ν0 h0).1 h1]
      exact envS_congr (ops := ops) (hRk ν0 h0) x hx
    exact h1.trans (env_strip (noSel_spec hsel) (by simpa using hp ν0))
  unfold wpOpIn
  simp only [hoi]
  have hwant : Region.wanted o (yielded ops a.tmps) = true := want_eq (hrep ν0 h0).1 (by unfold wantS; rw [hg])
  rw [if_pos hwant]
  refine ⟨fun _ _ => trivial, ?_⟩
  have hj : Jr w := by
    refine hgk w ?_ (hrep ν0 h0).1.below
    have := (hrep ν0 h0).1.holds kJ
    rw [hag ν0 h0 kJ (List.mem_cons_self ..), hG ν0] at this
    exact this
  obtain ⟨fn, tmps, assign, body, hy, hR⟩ := hY ν0 w hj
  have hs : o.semAt (WF none).round a.eval = execOp a.eval o := rfl
  rw [hs, hev, hv ν0 w, hy]
  refine ⟨fun e => (by cases e), hR.mono ?_⟩
  have fin : ∀ (b : Bool) (W' : World) (g : Gh), g = ⟨fun j => if j = 0 then (if b then 1 else 0) else W'.heap.size, fun _ => none⟩ → Below 0 w0 W' → (if b then Jn W' else JX W') →
      ∃ g, ∀ ν, Ext (p.set i g) ν → RepO kJ 0 w0 n (updAll (S ν) [(d, .slot true (.bool (decide ((ν i).n 0 = 1)))), (kJ, bif decide ((ν i).n 0 = 1) then jK ((ν i).n 1) w0 Jn else jK ((ν i).n 1) w0 JX)]) (a.put o.dst (.bool b)) W' := by
    intro b W' g hgg hB hJJ
    refine ⟨g, fun ν hν => ?_⟩
    have hν' := hν.of_set hpi
    have eg : ν i = g := hν.at_set
    have e0 : decide ((ν i).n 0 = 1) = b := by rw [eg, hgg]; cases b <;> rfl
    have e1 : (ν i).n 1 = W'.heap.size := by rw [eg, hgg]; rfl
    rw [e0, e1, hd]
    have hrs : Rep 0 w0 n (slotsOf (S ν)) a W' := (hrep ν hν').1.restart W' hB (Nat.zero_le _)
    have hr1 := hrs.put hdn' true (.bool b)
    have hv' : (bif b then jK W'.heap.size w0 Jn else jK W'.heap.size w0 JX).holds W' := by
      cases b with
      | true => exact jK_of (fun W2 h2 => hJn W' W2 hJJ h2) hB
      | false => exact jK_of (fun W2 h2 => hJX W' W2 hJJ h2) hB
    have hfp : ∀ j, (bif b then jK W'.heap.size w0 Jn else jK W'.heap.size w0 JX).fp j → j < W'.heap.size := by cases b <;> exact fun j h => h
    have hex : ¬ (bif b then jK W'.heap.size w0 Jn else jK W'.heap.size w0 JX).excl := by cases b <;> exact fun h => h
    have hnx : ∀ k', ¬ (upd (slotsOf (S ν)) d (.slot true (.bool b)) k').excl := by
      intro k'
      by_cases e : k' = d
      · subst e; rw [upd_same]; exact fun h => h
      · rw [upd_ne _ _ e]; exact slotsOf_excl k'
    have hr2 := hr1.ent kJ (bif b then jK W'.heap.size w0 Jn else jK W'.heap.size w0 JX) (by intro c x; cases b <;> exact fun h => by cases h) hv' hfp (fun h => (hex h).elim)
      (fun k' j _ ho => by
        rcases ho with ho | ho
        · exact (hex ho).elim
        · exact (hnx k' ho).elim)
    have hst : ∀ k, updAll (S ν) [(d, .slot true (.bool b)), (kJ, bif b then jK W'.heap.size w0 Jn else jK W'.heap.size w0 JX)] k = upd (upd (slotsOf (S ν)) d (.slot true (.bool b))) kJ (bif b then jK W'.heap.size w0 Jn else jK W'.heap.size w0 JX) k := by
      intro k
      show upd (upd (S ν) d _) kJ _ k = _
      by_cases e : k = kJ
      · subst e; rw [upd_same, upd_same]
      · rw [upd_ne _ _ e, upd_ne _ _ e]
        by_cases e' : k = d
        · subst e'; rw [upd_same, upd_same]
        · rw [upd_ne _ _ e', upd_ne _ _ e']
          unfold slotsOf
          rcases (hrep ν hν').2 k e with h1 | h1
          · rw [h1]
          · split
            · rename_i h2; exact h2
            · rename_i h2; unfold isSlot at h1; split at h1
              · rename_i c v h3; exact absurd h3 (h2 c v)
              · cases h1
    refine ⟨hr2.congr hst, fun k hk' => ?_⟩
    rw [hst k, upd_ne _ _ hk']
    by_cases e' : k = d
    · subst e'; rw [upd_same]; exact .inr rfl
    · rw [upd_ne _ _ e']
      unfold slotsOf
      split
      · exact .inr rfl
      · exact .inl rfl
  rintro e W' (⟨rfl, hjn⟩ | ⟨rfl, hjx⟩)
  · exact fin true W' _ rfl (hJ0 W' hjn) hjn
  · exact fin false W' _ rfl (hX0 W' hjx) hjx
end Go.Sx
namespace Go.Sx
open Go Go.RowKit
theorem only_ofL {kJ : Nat} (l : List (Nat × KV)) (h : (l.all fun x => Nat.beq x.1 kJ || isSlot x.2) = true) : ∀ k, k ≠ kJ → ofL l k = .none ∨ isSlot (ofL l k) = true := by
  have : ∀ (l : List (Nat × KV)) (S : St), (l.all fun x => Nat.beq x.1 kJ || isSlot x.2) = true → (∀ k, k ≠ kJ → S k = .none ∨ isSlot (S k) = true) → ∀ k, k ≠ kJ → updAll S l k = .none ∨ isSlot (updAll S l k) = true := by
    intro l
    induction l with
    | nil => intro S _ h; exact h
    | cons x l ih =>
      obtain ⟨j, v⟩ := x
      intro S hu h
      simp only [List.all_cons, Bool.and_eq_true, Bool.or_eq_true] at hu
      refine ih _ hu.2 fun k hk => ?_
      by_cases e : k = j
      · subst e
        rw [upd_same]
        rcases hu.1 with h1 | h1
        · exact absurd (Nat.eq_of_beq_eq_true h1) hk
        · exact .inr h1
      · rw [upd_ne _ _ e]; exact h k hk
  exact this l _ h fun _ _ => .inl rfl
theorem repO_drew {kJ B : Nat} {w0 : World} {n : Nat} (S : St) (a : Act) (w : World) (h : RepO kJ B w0 n S a w) : RepO kJ B w0 n S a { w with drawn := w.drawn + 1 } :=
  ⟨h.1.world ⟨rfl, rfl, rfl, Nat.le_refl _, fun _ _ => rfl⟩, h.2⟩
/-- A function that may be ranged over is entered. -/
theorem y_enter {P : Program} {f : FuncId} {fn : Func} {c : Code} {args : List Value} {w : World} {R : Ending → World → Prop} (n : Nat) (hf : P.funcs[f]? = some fn) (hb : fn.body = some c) (hn : fn.ntmps = n) (hl : Nat.ble args.length n = true)
    (h : ∀ a, Rep w.heap.size w n (ofL (argL 0 args)) a w → rwp none [] P c (mkQ (bodyPost P fn R .ret) [] (bodyPost P fn R .ret)) a w) : CallsIn (WF none) 0 P f args.toArray w R := by
  refine callsIn_of_wp hf hb trivial ?_ rfl
  have hl' : args.length ≤ n := by simpa using hl
  subst hn
  refine r_in (r_mono (h _ (rep_enter args _ w hl')) fun e a w q => ?_)
  cases e with
  | normal => exact q
  | ret => exact q
  | exit i => exact q.elim
  | _ => exact q.elim
end Go.Sx
