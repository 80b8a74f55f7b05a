/- Sx: words and proofs for walking code by symbolic states (the part 'SxCore'). Own work, the same for every seat. -/
import Derived.Orders
import Derived.Below
import Derived.KernelRfl
namespace Go.Sx
open Go Go.RowKit
structure Gh where
  n : Nat → Nat
  o : Nat → Option Addr
  d : Nat → (T : Type) × T
abbrev Gh.of (n : Nat → Nat) (o : Nat → Option Addr) : Gh := ⟨n, o, fun _ => ⟨Unit, ()⟩⟩
@[simp] theorem Gh.of_n (n : Nat → Nat) (o : Nat → Option Addr) : (Gh.of n o).n = n := rfl
@[simp] theorem Gh.of_o (n : Nat → Nat) (o : Nat → Option Addr) : (Gh.of n o).o = o := rfl
instance : Inhabited Gh := ⟨Gh.of (fun _ => 0) fun _ => none⟩
def TK : Nat := 5000000
abbrev Nu := Nat → Gh
abbrev PNu := Nat → Option Gh
def Ext (p : PNu) (ν : Nu) : Prop := ∀ i g, p i = some g → ν i = g
def PNu.set (p : PNu) (i : Nat) (g : Gh) : PNu := fun j => if j = i then some g else p j
theorem Ext.of_set {p : PNu} {i : Nat} {g : Gh} {ν : Nu} (hp : p i = none) (h : Ext (p.set i g) ν) : Ext p ν := by
  intro j g' hj
  by_cases e : j = i
  · subst e; rw [hp] at hj; cases hj
  · exact h j g' (by simp [PNu.set, e, hj])
theorem Ext.at_set {p : PNu} {i : Nat} {g : Gh} {ν : Nu} (h : Ext (p.set i g) ν) : ν i = g := h i g (by simp [PNu.set])
theorem Ext.exists (p : PNu) : ∃ ν, Ext p ν := ⟨fun i => (p i).getD default, fun i g h => by simp [h]⟩
def agree (fp : Nat → Prop) (w w' : World) : Prop := ∀ i, fp i → w'.heap[i]? = w.heap[i]?
inductive KV where
  | none
  | slot (c : Bool) (v : Value)
  | blk (b : Nat) (cs : List Value) (e : TypeId)
  | rblk (b : Nat) (cs : List Value) (e : TypeId) (fz : Nat × Nat)
  | fact (fp : Nat → Prop) (F : World → Prop)
  | own (fp : Nat → Prop) (F : World → Prop)
instance : Inhabited KV := ⟨.none⟩
def KV.fp : KV → Nat → Prop
  | .blk b _ _ => (· = b)
  | .rblk b _ _ _ => (· = b)
  | .fact fp _ => fp
  | .own fp _ => fp
  | _ => fun _ => False
def KV.excl : KV → Prop
  | .blk .. => True
  | .own .. => True
  | _ => False
def KV.holds (w : World) : KV → Prop
  | .blk b cs e => w.heap[b]? = some (.cells cs.toArray e (0, 0))
  | .rblk b cs e fz => w.heap[b]? = some (.cells cs.toArray e fz)
  | .fact fp F => ∀ w', agree fp w w' → F w'
  | .own fp F => ∀ w', agree fp w w' → F w'
  | _ => True
theorem agree.trans {fp : Nat → Prop} {a b c : World} (h : agree fp a b) (k : agree fp b c) : agree fp a c := fun i hi => (k i hi).trans (h i hi)
theorem agree.refl (fp : Nat → Prop) (w : World) : agree fp w w := fun _ _ => rfl
theorem KV.holds_agree {v : KV} {w w' : World} (h : v.holds w) (ha : agree v.fp w w') : v.holds w' := by
  cases v with
  | blk b cs e => exact (ha b rfl).trans h
  | rblk b cs e fz => exact (ha b rfl).trans h
  | fact fp F => exact fun w2 h2 => h w2 (ha.trans h2)
  | own fp F => exact fun w2 h2 => h w2 (ha.trans h2)
  | _ => trivial
abbrev St := Nat → KV
def upd (S : St) (k : Nat) (v : KV) : St := fun i => bif Nat.beq i k then v else S i
def updAll (S : St) : List (Nat × KV) → St
  | [] => S
  | (k, v) :: r => updAll (upd S k v) r
theorem upd_same (S : St) (k : Nat) (v : KV) : upd S k v k = v := by
  unfold upd; rw [show Nat.beq k k = true from Nat.beq_refl k]; rfl
theorem upd_ne (S : St) {k i : Nat} (v : KV) (h : i ≠ k) : upd S k v i = S i := by
  have : Nat.beq i k = false := by
    cases hb : Nat.beq i k with
    | false => rfl
    | true => exact absurd (Nat.eq_of_beq_eq_true hb) h
  simp only [upd, this, cond_false]
def look (l : List (Nat × KV)) (k : Nat) : Option KV :=
  match l with
  | [] => none
  | (k', v) :: r => match look r k with | some x => some x | none => if k = k' then some v else none
theorem updAll_look (l : List (Nat × KV)) : ∀ (S : St) (k : Nat), updAll S l k = (look l k).getD (S k) := by
  induction l with
  | nil => intro S k; rfl
  | cons p r ih =>
    intro S k
    obtain ⟨k', v⟩ := p
    rw [updAll, ih, look]
    cases hr : look r k with
    | some x => rfl
    | none =>
      by_cases e : k = k'
      · subst e; simp [upd_same]
      · simp [e, upd_ne _ _ e]
theorem look_none {l : List (Nat × KV)} {k : Nat} (h : k ∉ l.map Prod.fst) : look l k = none := by
  induction l with
  | nil => rfl
  | cons p r ih =>
    obtain ⟨k', v⟩ := p
    simp only [List.map_cons, List.mem_cons, not_or] at h
    rw [look, ih h.2]; simp [h.1]
theorem look_some {l : List (Nat × KV)} {k : Nat} (h : k ∈ l.map Prod.fst) : ∃ v, look l k = some v := by
  induction l with
  | nil => simp at h
  | cons p r ih =>
    obtain ⟨k', v⟩ := p
    rw [look]
    cases hr : look r k with
    | some x => exact ⟨x, rfl⟩
    | none =>
      simp only [List.map_cons, List.mem_cons] at h
      rcases h with h | h
      · exact ⟨v, by simp [h]⟩
      · obtain ⟨x, hx⟩ := ih h
        rw [hr] at hx; cases hx
structure Rep (B : Nat) (w0 : World) (n : Nat) (S : St) (a : Act) (w : World) : Prop where
  defers : a.defers = []
  size : a.tmps.size = n
  slots : ∀ t c v, S t = .slot c v → a.tmps[t]? = some (bif c then v else undef)
  below : Below B w0 w
  base : B ≤ w.heap.size
  holds : ∀ k, (S k).holds w
  inb : ∀ k i, (S k).fp i → i < w.heap.size
  ge : ∀ k i, (S k).excl → (S k).fp i → B ≤ i
  disj : ∀ k k' i, k ≠ k' → (S k).excl → (S k).fp i → ¬ (S k').fp i
theorem Rep.congr {B : Nat} {w0 : World} {n : Nat} {S S' : St} {a : Act} {w : World} (h : Rep B w0 n S a w) (he : ∀ k, S' k = S k) : Rep B w0 n S' a w := by
  have : S' = S := funext he
  subst this; exact h
theorem Rep.weak {B : Nat} {w0 : World} {n : Nat} {S S' : St} {a : Act} {w : World} (h : Rep B w0 n S a w) (he : ∀ k, S' k = .none ∨ S' k = S k) : Rep B w0 n S' a w where
  defers := h.defers
  size := h.size
  slots t c v hs := by
    rcases he t with e | e
    · rw [e] at hs; cases hs
    · exact h.slots t c v (e ▸ hs)
  below := h.below
  base := h.base
  holds k := by rcases he k with e | e <;> rw [e]; · trivial
                · exact h.holds k
  inb k i hi := by
    rcases he k with e | e <;> rw [e] at hi
    · exact hi.elim
    · exact h.inb k i hi
  ge k i hx hi := by
    rcases he k with e | e <;> rw [e] at hi hx
    · exact hi.elim
    · exact h.ge k i hx hi
  disj k k' i hne hx hi hi' := by
    rcases he k with e | e <;> rw [e] at hi hx
    · exact hi.elim
    rcases he k' with e' | e' <;> rw [e'] at hi'
    · exact hi'.elim
    · exact h.disj k k' i hne hx hi hi'
theorem Rep.world {B : Nat} {w0 : World} {n : Nat} {S : St} {a : Act} {w w' : World} (h : Rep B w0 n S a w) (hb : Below w.heap.size w w') : Rep B w0 n S a w' where
  defers := h.defers
  size := h.size
  slots := h.slots
  below := h.below.trans (hb.mono h.base)
  base := Nat.le_trans h.base hb.size
  holds k := KV.holds_agree (h.holds k) fun i hi => hb.block i (h.inb k i hi)
  inb k i hi := Nat.lt_of_lt_of_le (h.inb k i hi) hb.size
  ge := h.ge
  disj := h.disj
theorem put_get {a : Act} {d t : Nat} {v : Value} (hd : d < a.tmps.size) : (a.put (some d) v).tmps[t]? = if t = d then some v else a.tmps[t]? := by
  simp only [Act.put]
  by_cases e : t = d
  · subst e; simp [hd]
  · rw [if_neg e, Array.getElem?_setIfInBounds_ne (fun h => e h.symm)]
theorem Rep.put {B : Nat} {w0 : World} {n : Nat} {S : St} {a : Act} {w : World} (h : Rep B w0 n S a w) {d : Nat} (hd : d < n) (c : Bool) (v : Value) : Rep B w0 n (upd S d (.slot c v)) (a.put (some d) (bif c then v else undef)) w where
  defers := h.defers
  size := by simp [Act.put, h.size]
  slots t c' v' hs := by
    rw [put_get (by rw [h.size]; exact hd)]
    by_cases e : t = d
    · subst e
      rw [upd_same] at hs
      injection hs with e1 e2
      subst e1 e2; simp
    · rw [upd_ne _ _ e] at hs
      rw [if_neg e]; exact h.slots t c' v' hs
  below := h.below
  base := h.base
  holds k := by
    by_cases e : k = d
    · subst e; rw [upd_same]; trivial
    · rw [upd_ne _ _ e]; exact h.holds k
  inb k i hi := by
    by_cases e : k = d
    · subst e; rw [upd_same] at hi; exact hi.elim
    · rw [upd_ne _ _ e] at hi; exact h.inb k i hi
  ge k i hx hi := by
    by_cases e : k = d
    · subst e; rw [upd_same] at hi; exact hi.elim
    · rw [upd_ne _ _ e] at hi hx; exact h.ge k i hx hi
  disj k k' i hne hx hi hi' := by
    by_cases e : k = d
    · subst e; rw [upd_same] at hi; exact hi.elim
    rw [upd_ne _ _ e] at hi hx
    by_cases e' : k' = d
    · subst e'; rw [upd_same] at hi'; exact hi'.elim
    rw [upd_ne _ _ e'] at hi'
    exact h.disj k k' i hne hx hi hi'
theorem Rep.ent {B : Nat} {w0 : World} {n : Nat} {S : St} {a : Act} {w : World} (h : Rep B w0 n S a w) (k : Nat) (v : KV) (hs : ∀ c x, v ≠ .slot c x)
    (hv : v.holds w) (hi : ∀ i, v.fp i → i < w.heap.size) (hg : v.excl → ∀ i, v.fp i → B ≤ i)
    (hd : ∀ k' i, k' ≠ k → (v.excl ∨ (S k').excl) → v.fp i → ¬ (S k').fp i) : Rep B w0 n (upd S k v) a w where
  defers := h.defers
  size := h.size
  slots t c x hx := by
    by_cases e : t = k
    · subst e; rw [upd_same] at hx; exact absurd hx (hs c x)
    · rw [upd_ne _ _ e] at hx; exact h.slots t c x hx
  below := h.below
  base := h.base
  holds j := by
    by_cases e : j = k
    · subst e; rw [upd_same]; exact hv
    · rw [upd_ne _ _ e]; exact h.holds j
  inb j i hj := by
    by_cases e : j = k
    · subst e; rw [upd_same] at hj; exact hi i hj
    · rw [upd_ne _ _ e] at hj; exact h.inb j i hj
  ge j i hx hj := by
    by_cases e : j = k
    · subst e; rw [upd_same] at hj hx; exact hg hx i hj
    · rw [upd_ne _ _ e] at hj hx; exact h.ge j i hx hj
  disj j j' i hne hx hj hj' := by
    by_cases e : j = k
    · subst e
      rw [upd_same] at hj hx
      rw [upd_ne _ _ (Ne.symm hne)] at hj'
      exact hd j' i (Ne.symm hne) (.inl hx) hj hj'
    · rw [upd_ne _ _ e] at hj hx
      by_cases e' : j' = k
      · subst e'
        rw [upd_same] at hj'
        exact hd j i e (.inr hx) hj' hj
      · rw [upd_ne _ _ e'] at hj'
        exact h.disj j j' i hne hx hj hj'
def envS (S : St) : Operand → Value
  | .tmp t => match S t with | .slot c v => bif c then v else undef | _ => undef
  | .const v => v
  | .global g => .pointer (some ⟨g, 0, none⟩)
  | .func f => .func (.func f) #[] #[]
def isSlot : KV → Bool
  | .slot .. => true
  | _ => false
def knownB (S : St) : Operand → Bool
  | .tmp t => isSlot (S t)
  | _ => true
theorem env_eq {B : Nat} {w0 : World} {n : Nat} {S : St} {a : Act} {w : World} (h : Rep B w0 n S a w) {x : Operand} (hk : knownB S x = true) : a.eval x = envS S x := by
  cases x with
  | tmp t =>
    simp only [knownB] at hk
    cases hs : S t with
    | slot c v =>
      have := h.slots t c v hs
      simp only [Act.eval, envS, hs, Array.getD_eq_getD_getElem?, this, Option.getD_some]
    | _ => rw [hs] at hk; cases hk
  | _ => rfl
def wantS (ops : Array Oper) (o : Oper) (S : St) : Option Bool :=
  match o.guard with
  | none => some true
  | some (j, b) => match (ops[j]?).bind (·.dst) with
    | none => some false
    | some t => match S t with
      | .slot c (.bool v) => some (c && (v == b))
      | _ => none
theorem want_eq {B : Nat} {w0 : World} {n : Nat} {S : St} {a : Act} {w : World} (h : Rep B w0 n S a w) {ops : Array Oper} {o : Oper} {c : Bool} (hw : wantS ops o S = some c) : Region.wanted o (yielded ops a.tmps) = c := by
  unfold wantS at hw
  unfold Region.wanted
  cases hg : o.guard with
  | none => rw [hg] at hw; injection hw
  | some jb =>
    obtain ⟨j, b⟩ := jb
    rw [hg] at hw
    simp only at hw ⊢
    cases hd : (ops[j]?).bind (·.dst) with
    | none =>
      simp only [hd, Option.some.injEq] at hw
      subst hw
      simp only [yielded, hd, Option.bind_none]
      rfl
    | some t =>
      simp only [hd] at hw
      cases hs : S t with
      | slot cc v =>
        cases v with
        | bool v =>
          simp only [hs, Option.some.injEq] at hw
          have hsl := h.slots t cc _ hs
          subst hw
          cases cc with
          | true =>
            simp only [cond_true] at hsl
            simp only [yielded, hd, Option.bind_some, hsl, Bool.true_and]
            cases v <;> cases b <;> rfl
          | false =>
            simp only [cond_false] at hsl
            simp only [yielded, hd, Option.bind_some, hsl, undef, Bool.false_and]
            cases b <;> rfl
        | _ => simp [hs] at hw
      | _ => simp [hs] at hw
def tmpsOf (ops : Array Oper) (o : Oper) : List Nat :=
  (o.op.operands.toList.filterMap fun | .tmp t => some t | _ => none) ++
  (match o.guard with | some (g, _) => ((ops[g]?).bind (·.dst)).toList | none => [])
theorem envS_congr {ops : Array Oper} {o : Oper} {S S' : St} (h : ∀ k ∈ tmpsOf ops o, S k = S' k) : ∀ x ∈ o.op.operands, envS S x = envS S' x := by
  intro x hx
  cases x with
  | tmp t =>
    have : S t = S' t := h t (by
      simp only [tmpsOf, List.mem_append, List.mem_filterMap]
      exact .inl ⟨.tmp t, by simpa using hx, rfl⟩)
    simp only [envS, this]
  | _ => rfl
theorem knownB_congr {ops : Array Oper} {o : Oper} {S S' : St} (h : ∀ k ∈ tmpsOf ops o, S k = S' k) : ∀ x ∈ o.op.operands, knownB S x = knownB S' x := by
  intro x hx
  cases x with
  | tmp t =>
    have : S t = S' t := h t (by
      simp only [tmpsOf, List.mem_append, List.mem_filterMap]
      exact .inl ⟨.tmp t, by simpa using hx, rfl⟩)
    simp only [knownB, this]
  | _ => rfl
theorem wantS_congr {ops : Array Oper} {o : Oper} {S S' : St} (h : ∀ k ∈ tmpsOf ops o, S k = S' k) : wantS ops o S = wantS ops o S' := by
  unfold wantS
  cases hg : o.guard with
  | none => rfl
  | some jb =>
    obtain ⟨j, b⟩ := jb
    simp only
    cases hd : (ops[j]?).bind (·.dst) with
    | none => rfl
    | some t =>
      have : S t = S' t := h t (by simp [tmpsOf, hg, hd])
      simp only [this]
def OpOK (P : Program) (ops : Array Oper) (B : Nat) (w0 : World) (n : Nat) (i : Nat) (o : Oper) (Spre : Nu → St) (R : List Nat) (u : Nu → List (Nat × KV)) : Prop :=
  ∀ (Q : Exit → Act → World → Prop) (p : PNu) (S : Nu → St) (a : Act) (w : World),
    (∀ ν, Ext p ν → ∀ k ∈ R, S ν k = Spre ν k) → p i = none → ops[i]? = some o → (∀ ν, Ext p ν → Rep B w0 n (S ν) a w) → (∀ j, TK + j ∈ R → ∃ g, p j = some g) →
    wpOp P ops Q i (fun a' w' => ∃ g, ∀ ν, Ext (p.set i g) ν → Rep B w0 n (updAll (S ν) (u ν)) a' w') a w
theorem opok_of {P : Program} {ops : Array Oper} {B : Nat} {w0 : World} {n i : Nat} {o : Oper} {Spre : Nu → St} {R : List Nat} {u : Nu → List (Nat × KV)} {c : Nu → Bool}
    (hR : ∀ k ∈ tmpsOf ops o, k ∈ R) (hs : ∀ cs b, o.op ≠ .select cs b)
    (hc : ∀ ν, wantS ops o (Spre ν) = some (c ν)) (hk : (∀ ν, (o.op.operands.all (knownB (Spre ν))) = true))
    (hoff : ∀ ν S a w, c ν = false → Rep B w0 n S a w → Rep B w0 n (updAll S (u ν)) (a.put o.dst undef) w)
    (hon : ∀ (Q : Exit → Act → World → Prop) (p : PNu) (S : Nu → St) (a : Act) (w : World), p i = none →
      (∀ ν, Ext p ν → c ν = true) → (∀ ν, Ext p ν → ∀ k ∈ R, S ν k = Spre ν k) → (∀ ν, Ext p ν → Rep B w0 n (S ν) a w) → (∀ ν, Ext p ν → execOp a.eval o = execOp (envS (Spre ν)) o) →
      o.wp P a w (fun a' w' => ∃ g, ∀ ν, Ext (p.set i g) ν → Rep B w0 n (updAll (S ν) (u ν)) a' w') Q) :
    OpOK P ops B w0 n i o Spre R u := by
  intro Q p S a w hag hp ho hrep hJ
  obtain ⟨ν0, h0⟩ := Ext.exists p
  have hcn : ∀ ν, Ext p ν → Region.wanted o (yielded ops a.tmps) = c ν := fun ν hν =>
    want_eq (hrep ν hν) ((wantS_congr fun k hk' => hag ν hν k (hR k hk')).trans (hc ν))
  have hev : ∀ ν, Ext p ν → execOp a.eval o = execOp (envS (Spre ν)) o := fun ν hν => by
    refine execOp_congr o hs fun x hx => ?_
    have h1 : knownB (S ν) x = true := by
      rw [knownB_congr (ops := ops) (fun k hk' => hag ν hν k (hR k hk')) x hx]
      exact Array.all_eq_true_iff_forall_mem.1 (hk ν) x hx
    rw [env_eq (hrep ν hν) h1]
    exact envS_congr (ops := ops) (fun k hk' => hag ν hν k (hR k hk')) x hx
  unfold wpOp
  simp only [ho]
  cases hw : Region.wanted o (yielded ops a.tmps) with
  | true =>
    simp only [if_true]
    exact .inl (hon Q p S a w hp (fun ν hν => (hcn ν hν).symm.trans hw) hag hrep hev)
  | false =>
    simp only [Bool.false_eq_true, if_false]
    exact ⟨default, fun ν hν => hoff ν (S ν) a w ((hcn ν (hν.of_set hp)).symm.trans hw) (hrep ν (hν.of_set hp))⟩
theorem opok_ofJ {P : Program} {ops : Array Oper} {B : Nat} {w0 : World} {n i : Nat} {o : Oper} {Spre : Nu → St} {R : List Nat} {u : Nu → List (Nat × KV)} {c : Nu → Bool}
    (hR : ∀ k ∈ tmpsOf ops o, k ∈ R) (hs : ∀ cs b, o.op ≠ .select cs b)
    (hc : ∀ ν, wantS ops o (Spre ν) = some (c ν)) (hk : (∀ ν, (o.op.operands.all (knownB (Spre ν))) = true))
    (hoff : ∀ ν S a w, c ν = false → Rep B w0 n S a w → Rep B w0 n (updAll S (u ν)) (a.put o.dst undef) w)
    (hon : ∀ (Q : Exit → Act → World → Prop) (p : PNu) (S : Nu → St) (a : Act) (w : World), p i = none →
      (∀ ν, Ext p ν → c ν = true) → (∀ ν, Ext p ν → ∀ k ∈ R, S ν k = Spre ν k) → (∀ ν, Ext p ν → Rep B w0 n (S ν) a w) → (∀ ν, Ext p ν → execOp a.eval o = execOp (envS (Spre ν)) o) → (∀ j, TK + j ∈ R → ∃ g, p j = some g) →
      o.wp P a w (fun a' w' => ∃ g, ∀ ν, Ext (p.set i g) ν → Rep B w0 n (updAll (S ν) (u ν)) a' w') Q) :
    OpOK P ops B w0 n i o Spre R u := by
  intro Q p S a w hag hp ho hrep hJ
  obtain ⟨ν0, h0⟩ := Ext.exists p
  have hcn : ∀ ν, Ext p ν → Region.wanted o (yielded ops a.tmps) = c ν := fun ν hν =>
    want_eq (hrep ν hν) ((wantS_congr fun k hk' => hag ν hν k (hR k hk')).trans (hc ν))
  have hev : ∀ ν, Ext p ν → execOp a.eval o = execOp (envS (Spre ν)) o := fun ν hν => by
    refine execOp_congr o hs fun x hx => ?_
    have h1 : knownB (S ν) x = true := by
      rw [knownB_congr (ops := ops) (fun k hk' => hag ν hν k (hR k hk')) x hx]
      exact Array.all_eq_true_iff_forall_mem.1 (hk ν) x hx
    rw [env_eq (hrep ν hν) h1]
    exact envS_congr (ops := ops) (fun k hk' => hag ν hν k (hR k hk')) x hx
  unfold wpOp
  simp only [ho]
  cases hw : Region.wanted o (yielded ops a.tmps) with
  | true =>
    simp only [if_true]
    exact .inl (hon Q p S a w hp (fun ν hν => (hcn ν hν).symm.trans hw) hag hrep hev hJ)
  | false =>
    simp only [Bool.false_eq_true, if_false]
    exact ⟨default, fun ν hν => hoff ν (S ν) a w ((hcn ν (hν.of_set hp)).symm.trans hw) (hrep ν (hν.of_set hp))⟩
def envU (S : St) : Operand → Value
  | .tmp t => match S t with | .slot _ v => v | _ => undef
  | .const v => v
  | .global g => .pointer (some ⟨g, 0, none⟩)
  | .func f => .func (.func f) #[] #[]
def condO (S : St) : Operand → Bool
  | .tmp t => match S t with | .slot c _ => c | _ => true
  | _ => true
def condsOf (o : Oper) (S : St) : List Bool := o.op.operands.toList.map (condO S)
theorem env_strip {o : Oper} {S : St} (hs : ∀ cs b, o.op ≠ .select cs b) (h : ∀ b ∈ condsOf o S, b = true) : execOp (envS S) o = execOp (envU S) o := by
  refine execOp_congr o hs fun x hx => ?_
  cases x with
  | tmp t =>
    have : condO S (.tmp t) = true := h _ (by simp only [condsOf, List.mem_map]; exact ⟨_, by simpa using hx, rfl⟩)
    simp only [condO] at this
    simp only [envS, envU]
    cases hS : S t with
    | slot c v => rw [hS] at this; simp only at this; subst this; rfl
    | _ => rfl
  | _ => rfl
theorem pat_true {pat : List Bool} {c : Bool} (hc : c = true) : ∀ b ∈ pat.map (fun p => bif p then true else c), b = true := by
  intro b hb
  obtain ⟨p, _, rfl⟩ := List.mem_map.1 hb
  subst hc
  cases p <;> rfl
end Go.Sx
