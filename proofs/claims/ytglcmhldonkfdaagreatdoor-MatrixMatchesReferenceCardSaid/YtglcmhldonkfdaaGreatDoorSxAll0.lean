/- The framework's texts, put together. Own work. -/
import Derived.Orders
import Derived.Below
import Derived.KernelRfl
import Derived.Laws.Sem
import Derived.Scope
import Derived.Laws.Entries
import Derived.Laws.Strings
import Derived.Laws.StructEq
import Derived.Laws.AppendOwn
import Derived.Laws.MakeOwn
import Derived.Laws.OwnMore
import Derived.RangeFuncRecord
import Derived.Laws.Slices
import Derived.Carry
import Derived.Lib.AppendZeros
import Derived.ChangeKeysEq
namespace Go.Sx
open Go Go.RowKit
structure Gh where
 n : Nat → Nat
 o : Nat → Option Addr
 d : Nat → (T : Type) × T
abbrev Gh.of (n : Nat → Nat) (o : Nat → Option Addr) : Gh := ⟨n, o, fun _ => ⟨Unit, ()⟩⟩
@[simp] theorem Gh.of_n (n : Nat → Nat) (o : Nat → Option Addr) : (Gh.of n o).n = n := rfl
@[simp] theorem Gh.of_o (n : Nat → Nat) (o : Nat → Option Addr) : (Gh.of n o).o = o := rfl
instance : Inhabited Gh := ⟨Gh.of (fun _ => 0) fun _ => none⟩
def TK : Nat := 5000000
abbrev Nu := Nat → Gh
abbrev VO := Nat → Option Gh
def Y6 (p : VO) (ν : Nu) : Prop := ∀ i g, p i = some g → ν i = g
def VO.set (p : VO) (i : Nat) (g : Gh) : VO := fun j => if j = i then some g else p j
theorem Y6.of_set {p : VO} {i : Nat} {g : Gh} {ν : Nu} (hp : p i = none) (h : Y6 (p.set i g) ν) : Y6 p ν := by
 intro j g' hj
 by_cases e : j = i
 ·subst e; rw [hp] at hj; cases hj
 ·exact h j g' (by simp [VO.set, e, hj])
theorem Y6.at_set {p : VO} {i : Nat} {g : Gh} {ν : Nu} (h : Y6 (p.set i g) ν) : ν i = g := h i g (by simp [VO.set])
theorem Y6.exists (p : VO) : ∃ ν, Y6 p ν := ⟨fun i => (p i).getD default, fun i g h => by simp [h]⟩
def agree (fp : Nat → Prop) (w w' : World) : Prop := ∀ i, fp i → w'.heap[i]? = w.heap[i]?
inductive KV where
 | none
 | slot (c : Bool) (v : Value)
 | blk (b : Nat) (cs : List Value) (e : TypeId)
 | rblk (b : Nat) (cs : List Value) (e : TypeId) (fz : Nat × Nat)
 | fact (fp : Nat → Prop) (F : World → Prop)
 | own (fp : Nat → Prop) (F : World → Prop)
instance : Inhabited KV := ⟨.none⟩
def KV.fp : KV → Nat → Prop
 | .blk b _ _ => (· = b)
 | .rblk b _ _ _ => (· = b)
 | .fact fp _ => fp
 | .own fp _ => fp
 | _ => fun _ => False
def KV.excl : KV → Prop
 | .blk .. => True
 | .own .. => True
 | _ => False
def KV.holds (w : World) : KV → Prop
 | .blk b cs e => w.heap[b]? = some (.cells cs.toArray e (0, 0))
 | .rblk b cs e fz => w.heap[b]? = some (.cells cs.toArray e fz)
 | .fact fp F => ∀ w', agree fp w w' → F w'
 | .own fp F => ∀ w', agree fp w w' → F w'
 | _ => True
theorem agree.trans {fp : Nat → Prop} {a b c : World} (h : agree fp a b) (k : agree fp b c) : agree fp a c := fun i hi => (k i hi).trans (h i hi)
theorem agree.refl (fp : Nat → Prop) (w : World) : agree fp w w := fun _ _ => rfl
theorem KV.holds_agree {v : KV} {w w' : World} (h : v.holds w) (ha : agree v.fp w w') : v.holds w' := by
 cases v with
 | blk b cs e => exact (ha b rfl).trans h
 | rblk b cs e fz => exact (ha b rfl).trans h
 | fact fp F => exact fun w2 h2 => h w2 (ha.trans h2)
 | own fp F => exact fun w2 h2 => h w2 (ha.trans h2)
 | _ => trivial
abbrev St := Nat → KV
def Z5 (S : St) (k : Nat) (v : KV) : St := fun i => bif Nat.beq i k then v else S i
def XE (S : St) : List (Nat × KV) → St
 | [] => S
 | (k, v) :: r => XE (Z5 S k v) r
theorem QF (S : St) (k : Nat) (v : KV) : Z5 S k v k = v := by
 unfold Z5; rw [show Nat.beq k k = true from Nat.beq_refl k]; rfl
theorem Q5 (S : St) {k i : Nat} (v : KV) (h : i ≠ k) : Z5 S k v i = S i := by
 have : Nat.beq i k = false := by
  cases hb : Nat.beq i k with
  | false => rfl
  | true => exact absurd (Nat.eq_of_beq_eq_true hb) h
 simp only [Z5, this, cond_false]
def VB (l : List (Nat × KV)) (k : Nat) : Option KV :=
 match l with
 | [] => none
 | (k', v) :: r => match VB r k with | some x => some x | none => if k = k' then some v else none
theorem X8 (l : List (Nat × KV)) : ∀ (S : St) (k : Nat), XE S l k = (VB l k).getD (S k) := by
 induction l with
 | nil => intro S k; rfl
 | cons p r ih =>
  intro S k
  obtain ⟨k', v⟩ := p
  rw [XE, ih, VB]
  cases hr : VB r k with
  | some x => rfl
  | none =>
   by_cases e : k = k'
   ·subst e; simp [QF]
   ·simp [e, Q5 _ _ e]
theorem Vp {l : List (Nat × KV)} {k : Nat} (h : k ∉ l.map Prod.fst) : VB l k = none := by
 induction l with
 | nil => rfl
 | cons p r ih =>
  obtain ⟨k', v⟩ := p
  simp only [List.map_cons, List.mem_cons, not_or] at h
  rw [VB, ih h.2]; simp [h.1]
theorem qaN {l : List (Nat × KV)} {k : Nat} (h : k ∈ l.map Prod.fst) : ∃ v, VB l k = some v := by
 induction l with
 | nil => simp at h
 | cons p r ih =>
  obtain ⟨k', v⟩ := p
  rw [VB]
  cases hr : VB r k with
  | some x => exact ⟨x, rfl⟩
  | none =>
   simp only [List.map_cons, List.mem_cons] at h
   rcases h with h | h
   ·exact ⟨v, by simp [h]⟩
   ·obtain ⟨x, hx⟩ := ih h
    rw [hr] at hx; cases hx
structure Yb (B : Nat) (w0 : World) (n : Nat) (S : St) (a : Act) (w : World) : Prop where
 defers : a.defers = []
 size : a.tmps.size = n
 slots : ∀ t c v, S t = .slot c v → a.tmps[t]? = some (bif c then v else undef)
 below : Below B w0 w
 base : B ≤ w.heap.size
 holds : ∀ k, (S k).holds w
 inb : ∀ k i, (S k).fp i → i < w.heap.size
 ge : ∀ k i, (S k).excl → (S k).fp i → B ≤ i
 disj : ∀ k k' i, k ≠ k' → (S k).excl → (S k).fp i → ¬ (S k').fp i
theorem Yb.congr {B : Nat} {w0 : World} {n : Nat} {S S' : St} {a : Act} {w : World} (h : Yb B w0 n S a w) (he : ∀ k, S' k = S k) : Yb B w0 n S' a w := by
 have : S' = S := funext he
 subst this; exact h
theorem Yb.weak {B : Nat} {w0 : World} {n : Nat} {S S' : St} {a : Act} {w : World} (h : Yb B w0 n S a w) (he : ∀ k, S' k = .none ∨ S' k = S k) : Yb B w0 n S' a w where
 defers := h.defers
 size := h.size
 slots t c v hs := by
  rcases he t with e | e
  ·rw [e] at hs; cases hs
  ·exact h.slots t c v (e ▸ hs)
 below := h.below
 base := h.base
 holds k := by
  rcases he k with e | e <;> rw [e]
  ·trivial
  ·exact h.holds k
 inb k i hi := by
  rcases he k with e | e <;> rw [e] at hi
  ·exact hi.elim
  ·exact h.inb k i hi
 ge k i hx hi := by
  rcases he k with e | e <;> rw [e] at hi hx
  ·exact hi.elim
  ·exact h.ge k i hx hi
 disj k k' i hne hx hi hi' := by
  rcases he k with e | e <;> rw [e] at hi hx
  ·exact hi.elim
  rcases he k' with e' | e' <;> rw [e'] at hi'
  ·exact hi'.elim
  ·exact h.disj k k' i hne hx hi hi'
theorem Yb.world {B : Nat} {w0 : World} {n : Nat} {S : St} {a : Act} {w w' : World} (h : Yb B w0 n S a w) (hb : Below w.heap.size w w') : Yb B w0 n S a w' where
 defers := h.defers
 size := h.size
 slots := h.slots
 below := h.below.trans (hb.mono h.base)
 base := Nat.le_trans h.base hb.size
 holds k := KV.holds_agree (h.holds k) fun i hi => hb.block i (h.inb k i hi)
 inb k i hi := Nat.lt_of_lt_of_le (h.inb k i hi) hb.size
 ge := h.ge
 disj := h.disj
theorem qeu {a : Act} {d t : Nat} {v : Value} (hd : d < a.tmps.size) : (a.put (some d) v).tmps[t]? = if t = d then some v else a.tmps[t]? := by
 simp only [Act.put]
 by_cases e : t = d
 ·subst e; simp [hd]
 ·rw [if_neg e, Array.getElem?_setIfInBounds_ne (fun h => e h.symm)]
theorem Yb.put {B : Nat} {w0 : World} {n : Nat} {S : St} {a : Act} {w : World} (h : Yb B w0 n S a w) {d : Nat} (hd : d < n) (c : Bool) (v : Value) : Yb B w0 n (Z5 S d (.slot c v)) (a.put (some d) (bif c then v else undef)) w where
 defers := h.defers
 size := by simp [Act.put, h.size]
 slots t c' v' hs := by
  rw [qeu (by rw [h.size]; exact hd)]
  by_cases e : t = d
  ·subst e
   rw [QF] at hs
   injection hs with e1 e2
   subst e1 e2; simp
  ·rw [Q5 _ _ e] at hs
   rw [if_neg e]; exact h.slots t c' v' hs
 below := h.below
 base := h.base
 holds k := by
  by_cases e : k = d
  ·subst e; rw [QF]; trivial
  ·rw [Q5 _ _ e]; exact h.holds k
 inb k i hi := by
  by_cases e : k = d
  ·subst e; rw [QF] at hi; exact hi.elim
  ·rw [Q5 _ _ e] at hi; exact h.inb k i hi
 ge k i hx hi := by
  by_cases e : k = d
  ·subst e; rw [QF] at hi; exact hi.elim
  ·rw [Q5 _ _ e] at hi hx; exact h.ge k i hx hi
 disj k k' i hne hx hi hi' := by
  by_cases e : k = d
  ·subst e; rw [QF] at hi; exact hi.elim
  rw [Q5 _ _ e] at hi hx
  by_cases e' : k' = d
  ·subst e'; rw [QF] at hi'; exact hi'.elim
  rw [Q5 _ _ e'] at hi'
  exact h.disj k k' i hne hx hi hi'
theorem Yb.ent {B : Nat} {w0 : World} {n : Nat} {S : St} {a : Act} {w : World} (h : Yb B w0 n S a w) (k : Nat) (v : KV) (hs : ∀ c x, v ≠ .slot c x)
  (hv : v.holds w) (hi : ∀ i, v.fp i → i < w.heap.size) (hg : v.excl → ∀ i, v.fp i → B ≤ i)
  (hd : ∀ k' i, k' ≠ k → (v.excl ∨ (S k').excl) → v.fp i → ¬ (S k').fp i) : Yb B w0 n (Z5 S k v) a w where
 defers := h.defers
 size := h.size
 slots t c x hx := by
  by_cases e : t = k
  ·subst e; rw [QF] at hx; exact absurd hx (hs c x)
  ·rw [Q5 _ _ e] at hx; exact h.slots t c x hx
 below := h.below
 base := h.base
 holds j := by
  by_cases e : j = k
  ·subst e; rw [QF]; exact hv
  ·rw [Q5 _ _ e]; exact h.holds j
 inb j i hj := by
  by_cases e : j = k
  ·subst e; rw [QF] at hj; exact hi i hj
  ·rw [Q5 _ _ e] at hj; exact h.inb j i hj
 ge j i hx hj := by
  by_cases e : j = k
  ·subst e; rw [QF] at hj hx; exact hg hx i hj
  ·rw [Q5 _ _ e] at hj hx; exact h.ge j i hx hj
 disj j j' i hne hx hj hj' := by
  by_cases e : j = k
  ·subst e
   rw [QF] at hj hx
   rw [Q5 _ _ (Ne.symm hne)] at hj'
   exact hd j' i (Ne.symm hne) (.inl hx) hj hj'
  ·rw [Q5 _ _ e] at hj hx
   by_cases e' : j' = k
   ·subst e'
    rw [QF] at hj'
    exact hd j i e (.inr hx) hj' hj
   ·rw [Q5 _ _ e'] at hj'
    exact h.disj j j' i hne hx hj hj'
def ZU (S : St) : Operand → Value
 | .tmp t => match S t with | .slot c v => bif c then v else undef | _ => undef
 | .const v => v
 | .global g => .pointer (some ⟨g, 0, none⟩)
 | .func f => .func (.func f) #[] #[]
def JX : KV → Bool
 | .slot .. => true
 | _ => false
def XQ (S : St) : Operand → Bool
 | .tmp t => JX (S t)
 | _ => true
theorem Wd {B : Nat} {w0 : World} {n : Nat} {S : St} {a : Act} {w : World} (h : Yb B w0 n S a w) {x : Operand} (hk : XQ S x = true) : a.eval x = ZU S x := by
 cases x with
 | tmp t =>
  simp only [XQ] at hk
  cases hs : S t with
  | slot c v =>
   have := h.slots t c v hs
   simp only [Act.eval, ZU, hs, Array.getD_eq_getD_getElem?, this, Option.getD_some]
  | _ => rw [hs] at hk; cases hk
 | _ => rfl
def Y2 (ops : Array Oper) (o : Oper) (S : St) : Option Bool :=
 match o.guard with
 | none => some true
 | some (j, b) => match (ops[j]?).bind (·.dst) with
  | none => some false
  | some t => match S t with
   | .slot c (.bool v) => some (c && (v == b))
   | _ => none
theorem qbq {B : Nat} {w0 : World} {n : Nat} {S : St} {a : Act} {w : World} (h : Yb B w0 n S a w) {ops : Array Oper} {o : Oper} {c : Bool} (hw : Y2 ops o S = some c) : Region.wanted o (yielded ops a.tmps) = c := by
 unfold Y2 at hw
 unfold Region.wanted
 cases hg : o.guard with
 | none => rw [hg] at hw; injection hw
 | some jb =>
  obtain ⟨j, b⟩ := jb
  rw [hg] at hw
  simp only at hw ⊢
  cases hd : (ops[j]?).bind (·.dst) with
  | none =>
   simp only [hd, Option.some.injEq] at hw
   subst hw
   simp only [yielded, hd, Option.bind_none]
   rfl
  | some t =>
   simp only [hd] at hw
   cases hs : S t with
   | slot cc v =>
    cases v with
    | bool v =>
     simp only [hs, Option.some.injEq] at hw
     have hsl := h.slots t cc _ hs
     subst hw
     cases cc with
     | true =>
      simp only [cond_true] at hsl
      simp only [yielded, hd, Option.bind_some, hsl, Bool.true_and]
      cases v <;> cases b <;> rfl
     | false =>
      simp only [cond_false] at hsl
      simp only [yielded, hd, Option.bind_some, hsl, undef, Bool.false_and]
      cases b <;> rfl
    | _ => simp [hs] at hw
   | _ => simp [hs] at hw
def X5 (ops : Array Oper) (o : Oper) : List Nat :=
 (o.op.operands.toList.filterMap fun | .tmp t => some t | _ => none) ++
 (match o.guard with | some (g, _) => ((ops[g]?).bind (·.dst)).toList | none => [])
theorem W2 {ops : Array Oper} {o : Oper} {S S' : St} (h : ∀ k ∈ X5 ops o, S k = S' k) : ∀ x ∈ o.op.operands, ZU S x = ZU S' x := by
 intro x hx
 cases x with
 | tmp t =>
  have : S t = S' t := h t (by
   simp only [X5, List.mem_append, List.mem_filterMap]
   exact .inl ⟨.tmp t, by simpa using hx, rfl⟩)
  simp only [ZU, this]
 | _ => rfl
theorem VR {ops : Array Oper} {o : Oper} {S S' : St} (h : ∀ k ∈ X5 ops o, S k = S' k) : ∀ x ∈ o.op.operands, XQ S x = XQ S' x := by
 intro x hx
 cases x with
 | tmp t =>
  have : S t = S' t := h t (by
   simp only [X5, List.mem_append, List.mem_filterMap]
   exact .inl ⟨.tmp t, by simpa using hx, rfl⟩)
  simp only [XQ, this]
 | _ => rfl
theorem Ve {ops : Array Oper} {o : Oper} {S S' : St} (h : ∀ k ∈ X5 ops o, S k = S' k) : Y2 ops o S = Y2 ops o S' := by
 unfold Y2
 cases hg : o.guard with
 | none => rfl
 | some jb =>
  obtain ⟨j, b⟩ := jb
  simp only
  cases hd : (ops[j]?).bind (·.dst) with
  | none => rfl
  | some t =>
   have : S t = S' t := h t (by simp [X5, hg, hd])
   simp only [this]
def OpOK (P : Program) (ops : Array Oper) (B : Nat) (w0 : World) (n : Nat) (i : Nat) (o : Oper) (Spre : Nu → St) (R : List Nat) (u : Nu → List (Nat × KV)) : Prop :=
 ∀ (Q : Exit → Act → World → Prop) (p : VO) (S : Nu → St) (a : Act) (w : World),
  (∀ ν, Y6 p ν → ∀ k ∈ R, S ν k = Spre ν k) → p i = none → ops[i]? = some o → (∀ ν, Y6 p ν → Yb B w0 n (S ν) a w) → (∀ j, TK + j ∈ R → ∃ g, p j = some g) →
  wpOp P ops Q i (fun a' w' => ∃ g, ∀ ν, Y6 (p.set i g) ν → Yb B w0 n (XE (S ν) (u ν)) a' w') a w
theorem Zv {P : Program} {ops : Array Oper} {B : Nat} {w0 : World} {n i : Nat} {o : Oper} {Spre : Nu → St} {R : List Nat} {u : Nu → List (Nat × KV)} {c : Nu → Bool}
  (hR : ∀ k ∈ X5 ops o, k ∈ R) (hs : ∀ cs b, o.op ≠ .select cs b)
  (hc : ∀ ν, Y2 ops o (Spre ν) = some (c ν)) (hk : (∀ ν, (o.op.operands.all (XQ (Spre ν))) = true))
  (hoff : ∀ ν S a w, c ν = false → Yb B w0 n S a w → Yb B w0 n (XE S (u ν)) (a.put o.dst undef) w)
  (hon : ∀ (Q : Exit → Act → World → Prop) (p : VO) (S : Nu → St) (a : Act) (w : World), p i = none →
   (∀ ν, Y6 p ν → c ν = true) → (∀ ν, Y6 p ν → ∀ k ∈ R, S ν k = Spre ν k) → (∀ ν, Y6 p ν → Yb B w0 n (S ν) a w) → (∀ ν, Y6 p ν → execOp a.eval o = execOp (ZU (Spre ν)) o) →
   o.wp P a w (fun a' w' => ∃ g, ∀ ν, Y6 (p.set i g) ν → Yb B w0 n (XE (S ν) (u ν)) a' w') Q) :
  OpOK P ops B w0 n i o Spre R u := by
 intro Q p S a w hag hp ho hrep hJ
 obtain ⟨ν0, h0⟩ := Y6.exists p
 have hcn : ∀ ν, Y6 p ν → Region.wanted o (yielded ops a.tmps) = c ν := fun ν hν =>
  qbq (hrep ν hν) ((Ve fun k hk' => hag ν hν k (hR k hk')).trans (hc ν))
 have hev : ∀ ν, Y6 p ν → execOp a.eval o = execOp (ZU (Spre ν)) o := fun ν hν => by
  refine execOp_congr o hs fun x hx => ?_
  have h1 : XQ (S ν) x = true := by
   rw [VR (ops := ops) (fun k hk' => hag ν hν k (hR k hk')) x hx]
   exact Array.all_eq_true_iff_forall_mem.1 (hk ν) x hx
  rw [Wd (hrep ν hν) h1]
  exact W2 (ops := ops) (fun k hk' => hag ν hν k (hR k hk')) x hx
 unfold wpOp
 simp only [ho]
 cases hw : Region.wanted o (yielded ops a.tmps) with
 | true =>
  simp only [if_true]
  exact .inl (hon Q p S a w hp (fun ν hν => (hcn ν hν).symm.trans hw) hag hrep hev)
 | false =>
  simp only [Bool.false_eq_true, if_false]
  exact ⟨default, fun ν hν => hoff ν (S ν) a w ((hcn ν (hν.of_set hp)).symm.trans hw) (hrep ν (hν.of_set hp))⟩
theorem qbQ {P : Program} {ops : Array Oper} {B : Nat} {w0 : World} {n i : Nat} {o : Oper} {Spre : Nu → St} {R : List Nat} {u : Nu → List (Nat × KV)} {c : Nu → Bool}
  (hR : ∀ k ∈ X5 ops o, k ∈ R) (hs : ∀ cs b, o.op ≠ .select cs b)
  (hc : ∀ ν, Y2 ops o (Spre ν) = some (c ν)) (hk : (∀ ν, (o.op.operands.all (XQ (Spre ν))) = true))
  (hoff : ∀ ν S a w, c ν = false → Yb B w0 n S a w → Yb B w0 n (XE S (u ν)) (a.put o.dst undef) w)
  (hon : ∀ (Q : Exit → Act → World → Prop) (p : VO) (S : Nu → St) (a : Act) (w : World), p i = none →
   (∀ ν, Y6 p ν → c ν = true) → (∀ ν, Y6 p ν → ∀ k ∈ R, S ν k = Spre ν k) → (∀ ν, Y6 p ν → Yb B w0 n (S ν) a w) → (∀ ν, Y6 p ν → execOp a.eval o = execOp (ZU (Spre ν)) o) → (∀ j, TK + j ∈ R → ∃ g, p j = some g) →
   o.wp P a w (fun a' w' => ∃ g, ∀ ν, Y6 (p.set i g) ν → Yb B w0 n (XE (S ν) (u ν)) a' w') Q) :
  OpOK P ops B w0 n i o Spre R u := by
 intro Q p S a w hag hp ho hrep hJ
 obtain ⟨ν0, h0⟩ := Y6.exists p
 have hcn : ∀ ν, Y6 p ν → Region.wanted o (yielded ops a.tmps) = c ν := fun ν hν =>
  qbq (hrep ν hν) ((Ve fun k hk' => hag ν hν k (hR k hk')).trans (hc ν))
 have hev : ∀ ν, Y6 p ν → execOp a.eval o = execOp (ZU (Spre ν)) o := fun ν hν => by
  refine execOp_congr o hs fun x hx => ?_
  have h1 : XQ (S ν) x = true := by
   rw [VR (ops := ops) (fun k hk' => hag ν hν k (hR k hk')) x hx]
   exact Array.all_eq_true_iff_forall_mem.1 (hk ν) x hx
  rw [Wd (hrep ν hν) h1]
  exact W2 (ops := ops) (fun k hk' => hag ν hν k (hR k hk')) x hx
 unfold wpOp
 simp only [ho]
 cases hw : Region.wanted o (yielded ops a.tmps) with
 | true =>
  simp only [if_true]
  exact .inl (hon Q p S a w hp (fun ν hν => (hcn ν hν).symm.trans hw) hag hrep hev hJ)
 | false =>
  simp only [Bool.false_eq_true, if_false]
  exact ⟨default, fun ν hν => hoff ν (S ν) a w ((hcn ν (hν.of_set hp)).symm.trans hw) (hrep ν (hν.of_set hp))⟩
def Y4 (S : St) : Operand → Value
 | .tmp t => match S t with | .slot _ v => v | _ => undef
 | .const v => v
 | .global g => .pointer (some ⟨g, 0, none⟩)
 | .func f => .func (.func f) #[] #[]
def qei (S : St) : Operand → Bool
 | .tmp t => match S t with | .slot c _ => c | _ => true
 | _ => true
def X6 (o : Oper) (S : St) : List Bool := o.op.operands.toList.map (qei S)
theorem Y5 {o : Oper} {S : St} (hs : ∀ cs b, o.op ≠ .select cs b) (h : ∀ b ∈ X6 o S, b = true) : execOp (ZU S) o = execOp (Y4 S) o := by
 refine execOp_congr o hs fun x hx => ?_
 cases x with
 | tmp t =>
  have : qei S (.tmp t) = true := h _ (by simp only [X6, List.mem_map]; exact ⟨_, by simpa using hx, rfl⟩)
  simp only [qei] at this
  simp only [ZU, Y4]
  cases hS : S t with
  | slot c v => rw [hS] at this; simp only at this; subst this; rfl
  | _ => rfl
 | _ => rfl
theorem VV {pat : List Bool} {c : Bool} (hc : c = true) : ∀ b ∈ pat.map (fun p => bif p then true else c), b = true := by
 intro b hb
 obtain ⟨p, _, rfl⟩ := List.mem_map.1 hb
 subst hc
 cases p <;> rfl
end Go.Sx
set_option linter.unusedVariables false
namespace Go.Sx
open Go Go.RowKit
section
variable {P : Program} {ops : Array Oper} {B : Nat} {w0 : World} {n i : Nat} {o : Oper} {Spre : Nu → St}
theorem Yh (S : St) (k : Nat) (v : KV) : XE S [(k, v)] = Z5 S k v := rfl
abbrev YZ (o : Oper) : Bool := match o.op with | .select .. => false | _ => true
theorem Xy (h : YZ o = true) (cs : Array SelectCase) (b : Bool) : o.op ≠ .select cs b := by
  intro e; simp only [YZ, e] at h; cases h
theorem Qc (v : Nu → Value) (c : Nu → Bool) (pat : List Bool) (d : Nat) (hd : o.dst = some d := by rfl) (hdn : Nat.blt d n = true := by rfl) (hsel : YZ o = true := by rfl)
    (hc : ∀ ν, Y2 ops o (Spre ν) = some (c ν) := by intro _; kernel_rfl) (hk : ∀ ν, (o.op.operands.all (XQ (Spre ν))) = true := by intro _; kernel_rfl)
    (hp : ∀ ν, X6 o (Spre ν) = pat.map (fun p => bif p then true else c ν) := by intro _; kernel_rfl)
    (hv : ∀ ν w, (execOp (Y4 (Spre ν)) o).run P w = .ok (.value (v ν)) w := by intro _ _; kernel_rfl) :
    OpOK P ops B w0 n i o Spre (X5 ops o) (fun ν => [(d, .slot (c ν) (v ν))]) := by
  have hdn' : d < n := by simpa using hdn
  refine Zv (c := c) (fun _ h => h) (Xy hsel) hc hk ?_ ?_
  · intro ν S a w hcf hr
    rw [Yh, hd]
    have := hr.put hdn' (c ν) (v ν)
    rw [hcf] at this ⊢
    simpa using this
  · intro Q p S a w hpi hct hag hrep hev0
    have hev : ∀ ν, Y6 p ν → execOp a.eval o = execOp (Y4 (Spre ν)) o := fun ν hν => (hev0 ν hν).trans (Y5 (Xy hsel) (by rw [hp ν]; exact VV (hct ν hν)))
    unfold Oper.wp
    obtain ⟨ν0, h0⟩ := Y6.exists p
    rw [hev ν0 h0, hv ν0 w]
    simp only [Oper.upon]
    refine ⟨default, fun ν hν => ?_⟩
    have hν' := hν.of_set hpi
    have e : v ν0 = v ν := by
      have h1 := hv ν0 w
      rw [← hev ν0 h0, hev ν hν', hv ν w] at h1
      injection h1 with h1 _; injection h1 with h1; exact h1.symm
    rw [Yh, hd, e]
    have := (hrep ν hν').put hdn' (c ν) (v ν)
    rw [hct ν hν'] at this ⊢
    simpa using this
theorem qp (v : Nu → Value) (d : Nat) (hd : o.dst = some d := by rfl) (hdn : Nat.blt d n = true := by rfl) (hsel : YZ o = true := by rfl) (hg : o.guard = none := by rfl)
    (hk : ∀ ν, (o.op.operands.all (XQ (Spre ν))) = true := by intro _; kernel_rfl)
    (hp : ∀ ν, (X6 o (Spre ν)).all id = true := by intro _; kernel_rfl)
    (hv : ∀ ν w, (execOp (Y4 (Spre ν)) o).run P w = .ok (.value (v ν)) w := by intro _ _; kernel_rfl) :
    OpOK P ops B w0 n i o Spre (X5 ops o) (fun ν => [(d, .slot true (v ν))]) := by
  have hdn' : d < n := by simpa using hdn
  refine Zv (c := fun _ => true) (fun _ h => h) (Xy hsel) (fun ν => by unfold Y2; rw [hg]) hk ?_ ?_
  · intro ν S a w hcf; cases hcf
  · intro Q p S a w hpi hct hag hrep hev0
    have hev : ∀ ν, Y6 p ν → execOp a.eval o = execOp (Y4 (Spre ν)) o := fun ν hν => (hev0 ν hν).trans (Y5 (Xy hsel) (by simpa using hp ν))
    unfold Oper.wp
    obtain ⟨ν0, h0⟩ := Y6.exists p
    rw [hev ν0 h0, hv ν0 w]
    simp only [Oper.upon]
    refine ⟨default, fun ν hν => ?_⟩
    have hν' := hν.of_set hpi
    have e : v ν0 = v ν := by
      have h1 := hv ν0 w
      rw [← hev ν0 h0, hev ν hν', hv ν w] at h1
      injection h1 with h1 _; injection h1 with h1; exact h1.symm
    rw [Yh, hd, e]
    exact (hrep ν hν').put hdn' true (v ν)
theorem Y9 (tc tx : Nat) (g ct t x : Nu → Bool) (d : Nat) (hop : o.op = .pick (.tmp tc) (.tmp tx) (.const (.bool false)) := by rfl) (hd : o.dst = some d := by rfl) (hdn : Nat.blt d n = true := by rfl)
    (hc : ∀ ν, Y2 ops o (Spre ν) = some (g ν) := by intro _; kernel_rfl)
    (hT : ∀ ν, Spre ν tc = .slot (ct ν) (.bool (t ν)) := by intro _; kernel_rfl) (hX : ∀ ν, Spre ν tx = .slot (ct ν && (t ν == true)) (.bool (x ν)) := by intro _; kernel_rfl)
    (h1 : ∀ ν, g ν = true → ct ν = true := by first | exact fun _ h => h | exact fun _ _ => rfl) :
    OpOK P ops B w0 n i o Spre (X5 ops o) (fun ν => [(d, .slot (g ν) (.bool (t ν && x ν)))]) := by
  have hdn' : d < n := by simpa using hdn
  have hk : ∀ ν, (o.op.operands.all (XQ (Spre ν))) = true := fun ν => by
    rw [hop]; simp [Op.operands, XQ, hT ν, hX ν, JX]
  refine Zv (c := g) (fun _ h => h) (fun cs b e => by rw [hop] at e; cases e) hc hk ?_ ?_
  · intro ν S a w hcf hr
    rw [Yh, hd]
    have := hr.put hdn' (g ν) (.bool (t ν && x ν))
    rw [hcf] at this ⊢
    simpa using this
  · intro Q p S a w hpi hct hag hrep hev
    have hrun : ∀ ν, Y6 p ν → (execOp (ZU (Spre ν)) o).run P w = .ok (.value (.bool (t ν && x ν))) w := fun ν hν => by
      have e1 : ct ν = true := h1 ν (hct ν hν)
      have : execOp (ZU (Spre ν)) o = Sem.pure (.value (if t ν = true then (bif (ct ν && (t ν == true)) then Value.bool (x ν) else undef) else .bool false)) := by
        unfold execOp; rw [hop]; simp only [ZU, hT ν, hX ν, e1, cond_true]; rfl
      rw [this, e1]
      cases t ν <;> rfl
    unfold Oper.wp
    obtain ⟨ν0, h0⟩ := Y6.exists p
    rw [hev ν0 h0, hrun ν0 h0]
    simp only [Oper.upon]
    refine ⟨default, fun ν hν => ?_⟩
    have hν' := hν.of_set hpi
    have e : (t ν0 && x ν0) = (t ν && x ν) := by
      have h1 := hrun ν0 h0
      rw [← hev ν0 h0, hev ν hν', hrun ν hν'] at h1
      injection h1 with h1 _; injection h1 with h1; injection h1 with h1; exact h1.symm
    rw [Yh, hd, e]
    have := (hrep ν hν').put hdn' (g ν) (.bool (t ν && x ν))
    rw [hct ν hν'] at this ⊢
    simpa using this
theorem Zt (tc tx : Nat) (g ct t x : Nu → Bool) (d : Nat) (hop : o.op = .pick (.tmp tc) (.const (.bool true)) (.tmp tx) := by rfl) (hd : o.dst = some d := by rfl) (hdn : Nat.blt d n = true := by rfl)
    (hc : ∀ ν, Y2 ops o (Spre ν) = some (g ν) := by intro _; kernel_rfl)
    (hT : ∀ ν, Spre ν tc = .slot (ct ν) (.bool (t ν)) := by intro _; kernel_rfl) (hX : ∀ ν, Spre ν tx = .slot (ct ν && (t ν == false)) (.bool (x ν)) := by intro _; kernel_rfl)
    (h1 : ∀ ν, g ν = true → ct ν = true := by first | exact fun _ h => h | exact fun _ _ => rfl) :
    OpOK P ops B w0 n i o Spre (X5 ops o) (fun ν => [(d, .slot (g ν) (.bool (t ν || x ν)))]) := by
  have hdn' : d < n := by simpa using hdn
  have hk : ∀ ν, (o.op.operands.all (XQ (Spre ν))) = true := fun ν => by
    rw [hop]; simp [Op.operands, XQ, hT ν, hX ν, JX]
  refine Zv (c := g) (fun _ h => h) (fun cs b e => by rw [hop] at e; cases e) hc hk ?_ ?_
  · intro ν S a w hcf hr
    rw [Yh, hd]
    have := hr.put hdn' (g ν) (.bool (t ν || x ν))
    rw [hcf] at this ⊢
    simpa using this
  · intro Q p S a w hpi hct hag hrep hev
    have hrun : ∀ ν, Y6 p ν → (execOp (ZU (Spre ν)) o).run P w = .ok (.value (.bool (t ν || x ν))) w := fun ν hν => by
      have e1 : ct ν = true := h1 ν (hct ν hν)
      have : execOp (ZU (Spre ν)) o = Sem.pure (.value (if t ν = true then .bool true else (bif (ct ν && (t ν == false)) then Value.bool (x ν) else undef))) := by
        unfold execOp; rw [hop]; simp only [ZU, hT ν, hX ν, e1, cond_true]; rfl
      rw [this, e1]
      cases t ν <;> rfl
    unfold Oper.wp
    obtain ⟨ν0, h0⟩ := Y6.exists p
    rw [hev ν0 h0, hrun ν0 h0]
    simp only [Oper.upon]
    refine ⟨default, fun ν hν => ?_⟩
    have hν' := hν.of_set hpi
    have e : (t ν0 || x ν0) = (t ν || x ν) := by
      have h1 := hrun ν0 h0
      rw [← hev ν0 h0, hev ν hν', hrun ν hν'] at h1
      injection h1 with h1 _; injection h1 with h1; injection h1 with h1; exact h1.symm
    rw [Yh, hd, e]
    have := (hrep ν hν').put hdn' (g ν) (.bool (t ν || x ν))
    rw [hct ν hν'] at this ⊢
    simpa using this
theorem qH (val : Nat → Value) (cs : Nu → List Value) (e : TypeId) (d k : Nat) (hd : o.dst = some d := by rfl) (hdn : Nat.blt d n = true := by rfl) (hkn : Nat.ble n k = true := by rfl)
    (hsel : YZ o = true := by rfl) (hg : o.guard = none := by rfl)
    (hk : ∀ ν, (o.op.operands.all (XQ (Spre ν))) = true := by intro _; kernel_rfl) (hp : ∀ ν, (X6 o (Spre ν)).all id = true := by intro _; kernel_rfl)
    (hv : ∀ ν w, (execOp (Y4 (Spre ν)) o).run P w = .ok (.value (val w.heap.size)) { w with heap := w.heap.push (.cells (cs ν).toArray e (0, 0)) } := by intro _ _; kernel_rfl) :
    OpOK P ops B w0 n i o Spre (X5 ops o) (fun ν => [(d, .slot true (val ((ν i).n 0))), (k, .blk ((ν i).n 0) (cs ν) e)]) := by
  have hdn' : d < n := by simpa using hdn
  have hkn' : n ≤ k := by simpa using hkn
  refine Zv (c := fun _ => true) (fun _ h => h) (Xy hsel) (fun ν => by unfold Y2; rw [hg]) hk ?_ ?_
  · intro ν S a w hcf; cases hcf
  · intro Q p S a w hpi hct hag hrep hev0
    have hev : ∀ ν, Y6 p ν → execOp a.eval o = execOp (Y4 (Spre ν)) o := fun ν hν => (hev0 ν hν).trans (Y5 (Xy hsel) (by simpa using hp ν))
    unfold Oper.wp
    obtain ⟨ν0, h0⟩ := Y6.exists p
    rw [hev ν0 h0, hv ν0 w]
    simp only [Oper.upon]
    refine ⟨Gh.of (fun _ => w.heap.size) fun _ => none, fun ν hν => ?_⟩
    have hν' := hν.of_set hpi
    have e0 : (ν i).n 0 = w.heap.size := by rw [hν.at_set]
    have ec : (cs ν0).toArray = (cs ν).toArray := by
      have h1 := hv ν0 w
      rw [← hev ν0 h0, hev ν hν', hv ν w] at h1
      injection h1 with _ h1
      have h2 := congrArg (fun x : World => x.heap[w.heap.size]?) h1
      simp only [Array.getElem?_push, if_true, Option.some.injEq, Obj.cells.injEq] at h2
      exact h2.1.symm
    rw [e0, ec, hd]
    have hb : Below w.heap.size w { w with heap := w.heap.push (.cells (cs ν).toArray e (0, 0)) } := (Below.refl _ w).alloc (Nat.le_refl _) _
    have hr1 := ((hrep ν hν').world hb).put hdn' true (val w.heap.size)
    refine hr1.ent k (.blk w.heap.size (cs ν) e) (by intro c x h; cases h) ?_ ?_ ?_ ?_
    · show (w.heap.push _)[w.heap.size]? = _
      simp
    · intro j hj; have hj' : j = w.heap.size := hj; subst hj'; show _ < (w.heap.push _).size; simp
    · intro _ j hj; have hj' : j = w.heap.size := hj; subst hj'; exact (hrep ν hν').base
    · intro k' j hne _ hj hj'
      have hj2 : j = w.heap.size := hj
      subst hj2
      by_cases ed : k' = d
      · subst ed; rw [QF] at hj'; exact hj'
      · rw [Q5 _ _ ed] at hj'
        exact Nat.lt_irrefl _ ((hrep ν hν').inb k' _ hj')
def Z2 {α : Type} (p : Program) : Sem α → List Value → List Addr → Option (α × List Addr)
  | .pure a, [], l => some (a, l)
  | .load _ x k, v :: vs, l => Z2 p (k v) vs (l ++ [x])
  | .program k, vs, l => Z2 p (k p) vs l
  | .mark _ k, vs, l => Z2 p k vs l
  | _, _, _ => none
theorem JN {α : Type} {p : Program} : ∀ (s : Sem α) (vs : List Value) (l : List Addr) (a : α) (l' : List Addr), Z2 p s vs l = some (a, l') →
    ∃ m, l' = l ++ m ∧ m.length = vs.length ∧ ∀ w : World, (∀ (j : Nat) x v, m[j]? = some x → vs[j]? = some v → w.cell? x = some v) → s.run p w = .ok a w := by
  intro s
  induction s with
  | pure a =>
    intro vs l a' l' h
    cases vs with
    | nil => simp only [Z2, Option.some.injEq, Prod.mk.injEq] at h; obtain ⟨rfl, rfl⟩ := h; exact ⟨[], by simp, rfl, fun w _ => rfl⟩
    | cons v vs => simp [Z2] at h
  | load m x k ih =>
    intro vs l a' l' h
    cases vs with
    | nil => simp [Z2] at h
    | cons v vs =>
      simp only [Z2] at h
      obtain ⟨m', e, hl, hr⟩ := ih v vs (l ++ [x]) a' l' h
      refine ⟨x :: m', by rw [e]; simp, by simp [hl], fun w hw => ?_⟩
      have h0 : w.cell? x = some v := hw 0 x v rfl rfl
      simp only [Sem.run, h0]
      exact hr w fun j y u hy hu => hw (j + 1) y u (by simpa using hy) (by simpa using hu)
  | program k ih =>
    intro vs l a' l' h
    simp only [Z2] at h
    obtain ⟨m', e, hl, hr⟩ := ih p vs l a' l' h
    exact ⟨m', e, hl, fun w hw => by simp only [Sem.run]; exact hr w hw⟩
  | mark m k ih =>
    intro vs l a' l' h
    simp only [Z2] at h
    obtain ⟨m', e, hl, hr⟩ := ih vs l a' l' h
    exact ⟨m', e, hl, fun w hw => by simp only [Sem.run]; exact hr w hw⟩
  | _ => intro vs l a' l' h; simp [Z2] at h
def Y3 (b off : Nat) : Nat → List Addr
  | 0 => []
  | m + 1 => ⟨b, off, none⟩ :: Y3 b (off + 1) m
theorem Z1 (b : Nat) : ∀ (m off j : Nat) (x : Addr), (Y3 b off m)[j]? = some x → x = ⟨b, off + j, none⟩ ∧ j < m
  | 0, off, j, x, h => by simp [Y3] at h
  | m + 1, off, 0, x, h => by simp only [Y3, List.getElem?_cons_zero, Option.some.injEq] at h; exact ⟨h.symm, by omega⟩
  | m + 1, off, j + 1, x, h => by
    simp only [Y3, List.getElem?_cons_succ] at h
    obtain ⟨h1, h2⟩ := Z1 b m (off + 1) j x h
    exact ⟨by rw [h1]; congr 1; omega, by omega⟩
theorem V4 (b : Nat) : ∀ (m off : Nat), (Y3 b off m).length = m
  | 0, off => rfl
  | m + 1, off => by simp [Y3, V4 b m (off + 1)]
theorem qcA (v : Nu → Value) (c : Nu → Bool) (d k off m : Nat) (b : Nu → Nat) (cs : Nu → List Value) (hb : ∀ ν, (∃ e, Spre ν k = .blk (b ν) (cs ν) e) ∨ (∃ e fz, Spre ν k = .rblk (b ν) (cs ν) e fz)) (pat : List Bool) (hd : o.dst = some d := by rfl) (hdn : Nat.blt d n = true := by rfl) (hsel : YZ o = true := by rfl)
    (hc : ∀ ν, Y2 ops o (Spre ν) = some (c ν) := by intro _; kernel_rfl) (hk : ∀ ν, (o.op.operands.all (XQ (Spre ν))) = true := by intro _; kernel_rfl)
    (hp : ∀ ν, X6 o (Spre ν) = pat.map (fun p => bif p then true else c ν) := by intro _; kernel_rfl)
    (hv : ∀ ν, Z2 P (execOp (Y4 (Spre ν)) o) (((cs ν).drop off).take m) [] = some (.value (v ν), Y3 (b ν) off m) := by intro _; kernel_rfl) :
    OpOK P ops B w0 n i o Spre (k :: X5 ops o) (fun ν => [(d, .slot (c ν) (v ν))]) := by
  have hdn' : d < n := by simpa using hdn
  refine Zv (c := c) (fun _ h => List.mem_cons_of_mem _ h) (Xy hsel) hc hk ?_ ?_
  · intro ν S a w hcf hr
    rw [Yh, hd]
    have := hr.put hdn' (c ν) (v ν)
    rw [hcf] at this ⊢
    simpa using this
  · intro Q p S a w hpi hct hag hrep hev0
    have hev : ∀ ν, Y6 p ν → execOp a.eval o = execOp (Y4 (Spre ν)) o := fun ν hν => (hev0 ν hν).trans (Y5 (Xy hsel) (by rw [hp ν]; exact VV (hct ν hν)))
    have hrun : ∀ ν, Y6 p ν → (execOp (Y4 (Spre ν)) o).run P w = .ok (.value (v ν)) w := fun ν hν => by
      obtain ⟨m', e, hl, hr⟩ := JN _ _ _ _ _ (hv ν)
      simp only [List.nil_append] at e
      subst e
      refine hr w fun j x u hx hu => ?_
      obtain ⟨rfl, hj⟩ := Z1 _ _ _ _ _ hx
      have hcell : (cs ν)[off + j]? = some u := by
        rw [List.getElem?_take_of_lt hj, List.getElem?_drop] at hu; exact hu
      have hkS := hag ν hν k (by simp)
      have hh := (hrep ν hν).holds k
      rw [hkS] at hh
      rcases hb ν with ⟨e, he⟩ | ⟨e, fz, he⟩ <;> rw [he] at hh <;> simp only [KV.holds] at hh <;> simp [World.cell?, hh, hcell]
    unfold Oper.wp
    obtain ⟨ν0, h0⟩ := Y6.exists p
    rw [hev ν0 h0, hrun ν0 h0]
    simp only [Oper.upon]
    refine ⟨default, fun ν hν => ?_⟩
    have hν' := hν.of_set hpi
    have e : v ν0 = v ν := by
      have h1 := hrun ν0 h0
      rw [← hev ν0 h0, hev ν hν', hrun ν hν'] at h1
      injection h1 with h1 _; injection h1 with h1; exact h1.symm
    rw [Yh, hd, e]
    have := (hrep ν hν').put hdn' (c ν) (v ν)
    rw [hct ν hν'] at this ⊢
    simpa using this
theorem Zc (v : Nu → Value) (c : Nu → Bool) (pat : List Bool) (d k off m : Nat) (b : Nu → Nat) (cs : Nu → List Value) (e : TypeId) (hd : o.dst = some d := by rfl) (hdn : Nat.blt d n = true := by rfl) (hsel : YZ o = true := by rfl)
    (hb : ∀ ν, Spre ν k = .blk (b ν) (cs ν) e := by intro _; kernel_rfl)
    (hc : ∀ ν, Y2 ops o (Spre ν) = some (c ν) := by intro _; kernel_rfl) (hk : ∀ ν, (o.op.operands.all (XQ (Spre ν))) = true := by intro _; kernel_rfl)
    (hp : ∀ ν, X6 o (Spre ν) = pat.map (fun p => bif p then true else c ν) := by intro _; kernel_rfl)
    (hv : ∀ ν, Z2 P (execOp (Y4 (Spre ν)) o) (((cs ν).drop off).take m) [] = some (.value (v ν), Y3 (b ν) off m) := by intro _; kernel_rfl) :
    OpOK P ops B w0 n i o Spre (k :: X5 ops o) (fun ν => [(d, .slot (c ν) (v ν))]) :=
  qcA v c d k off m b cs (fun ν => .inl ⟨e, hb ν⟩) pat hd hdn hsel hc hk hp hv
theorem qfe (v : Nu → Value) (d k off m : Nat) (b : Nu → Nat) (cs : Nu → List Value) (e : TypeId) (hd : o.dst = some d := by rfl) (hdn : Nat.blt d n = true := by rfl) (hsel : YZ o = true := by rfl) (hg : o.guard = none := by rfl)
    (hb : ∀ ν, Spre ν k = .blk (b ν) (cs ν) e := by intro _; kernel_rfl)
    (hk : ∀ ν, (o.op.operands.all (XQ (Spre ν))) = true := by intro _; kernel_rfl)
    (hp : ∀ ν, (X6 o (Spre ν)).all id = true := by intro _; kernel_rfl)
    (hv : ∀ ν, Z2 P (execOp (Y4 (Spre ν)) o) (((cs ν).drop off).take m) [] = some (.value (v ν), Y3 (b ν) off m) := by intro _; kernel_rfl) :
    OpOK P ops B w0 n i o Spre (k :: X5 ops o) (fun ν => [(d, .slot true (v ν))]) :=
  qcA v (fun _ => true) d k off m b cs (fun ν => .inl ⟨e, hb ν⟩) (o.op.operands.toList.map fun _ => true) hd hdn hsel (fun ν => by unfold Y2; rw [hg]) hk
    (fun ν => by
      have := hp ν
      simp only [List.all_eq_true] at this
      rw [X6] at this ⊢
      simp only [List.map_map]
      exact List.map_congr_left fun x hx => this _ (List.mem_map.2 ⟨x, hx, rfl⟩)) hv
def VF {α : Type} (p : Program) : Sem α → List (Addr × Value) → Option (α × List (Addr × Value))
  | .pure a, l => some (a, l)
  | .store _ _ (.agg _) _, _ | .store _ _ (.tuple _) _, _ => none
  | .store _ x v k, l => VF p k (l ++ [(x, v)])
  | .program k, l => VF p (k p) l
  | .mark _ k, l => VF p k l
  | _, _ => none
def JQ (w : World) : List (Addr × Value) → World
  | [] => w
  | (x, v) :: r => JQ (w.setCell x v) r
theorem Ws {w : World} {b j : Nat} {cs : Array Value} {e : TypeId} (h : w.heap[b]? = some (.cells cs e (0, 0))) (v : Value) : (w.setCell ⟨b, j, none⟩ v).heap[b]? = some (.cells (cs.setIfInBounds j v) e (0, 0)) := by
  simp [World.setCell, Array.getElem?_modify, h]
theorem qbT {α : Type} {p : Program} {b : Nat} {e : TypeId} : ∀ (s : Sem α) (l : List (Addr × Value)) (a : α) (l' : List (Addr × Value)), VF p s l = some (a, l') →
    ∃ m, l' = l ++ m ∧ ∀ (w : World) (cs : Array Value), w.heap[b]? = some (.cells cs e (0, 0)) → (∀ x ∈ m, x.1.block = b ∧ x.1.spot = none ∧ x.1.off < cs.size) → s.run p w = .ok a (JQ w m) := by
  intro s
  induction s with
  | pure a =>
    intro l a' l' h
    simp only [VF, Option.some.injEq, Prod.mk.injEq] at h
    obtain ⟨rfl, rfl⟩ := h
    exact ⟨[], by simp, fun w cs _ _ => rfl⟩
  | store md x v k ih =>
    intro l a' l' h
    have hcase : VF p k (l ++ [(x, v)]) = some (a', l') ∧ (∀ c, v ≠ .agg c) ∧ (∀ c, v ≠ .tuple c) := by
      cases v <;> simp only [VF] at h <;> first | cases h | exact ⟨h, by simp, by simp⟩
    obtain ⟨h1, hna, hnt⟩ := hcase
    obtain ⟨m, e1, hr⟩ := ih (l ++ [(x, v)]) a' l' h1
    refine ⟨(x, v) :: m, by rw [e1]; simp, fun w cs hw hm => ?_⟩
    obtain ⟨hb, hsp, hlt⟩ := hm (x, v) (by simp)
    obtain ⟨xb, xo, xs⟩ := x
    simp only at hb hsp hlt
    subst hb hsp
    have hc : w.cell? ⟨xb, xo, none⟩ = some cs[xo] := by simp [World.cell?, hw, Array.getElem?_eq_getElem hlt]
    have hf : w.frozen? ⟨xb, xo, none⟩ = false := by simp [World.frozen?, hw]
    have : (Sem.store md ⟨xb, xo, none⟩ v k).run p w = k.run p (w.setCell ⟨xb, xo, none⟩ v) := by
      cases v <;> simp only [Sem.run, hc, hf] <;> first | exact absurd rfl (hna _) | exact absurd rfl (hnt _) | rfl
    rw [this]
    exact hr _ (cs.setIfInBounds xo v) (Ws hw v) fun y hy => by
      obtain ⟨y1, y2, y3⟩ := hm y (List.mem_cons_of_mem _ hy)
      exact ⟨y1, y2, by simpa using y3⟩
  | program k ih =>
    intro l a' l' h
    simp only [VF] at h
    obtain ⟨m, e1, hr⟩ := ih p l a' l' h
    exact ⟨m, e1, fun w cs hw hm => by simp only [Sem.run]; exact hr w cs hw hm⟩
  | mark md k ih =>
    intro l a' l' h
    simp only [VF] at h
    obtain ⟨m, e1, hr⟩ := ih l a' l' h
    exact ⟨m, e1, fun w cs hw hm => by simp only [Sem.run]; exact hr w cs hw hm⟩
  | _ => intro l a' l' h; simp [VF] at h
def lay (cs : List Value) (off : Nat) : List Value → List Value
  | [] => cs
  | v :: vs => lay (cs.set off v) (off + 1) vs
theorem JY {b : Nat} {e : TypeId} : ∀ (vs : List Value) (w : World) (cs : List Value) (off : Nat), w.heap[b]? = some (.cells cs.toArray e (0, 0)) →
    (JQ w ((Y3 b off vs.length).zip vs)).heap[b]? = some (.cells (lay cs off vs).toArray e (0, 0)) ∧ Below b w (JQ w ((Y3 b off vs.length).zip vs)) ∧
      (∀ j, j ≠ b → (JQ w ((Y3 b off vs.length).zip vs)).heap[j]? = w.heap[j]?) ∧ (JQ w ((Y3 b off vs.length).zip vs)).heap.size = w.heap.size
  | [], w, cs, off, h => ⟨h, Below.refl _ _, fun _ _ => rfl, rfl⟩
  | v :: vs, w, cs, off, h => by
    have h1 := Ws (j := off) h v
    have e1 : cs.toArray.setIfInBounds off v = (cs.set off v).toArray := by simp
    rw [e1] at h1
    obtain ⟨i1, i2, i3, i4⟩ := JY vs (w.setCell ⟨b, off, none⟩ v) (cs.set off v) (off + 1) h1
    refine ⟨i1, Below.trans ((Below.refl b w).setCell (p := ⟨b, off, none⟩) (Nat.le_refl _) v) i2, fun j hj => (i3 j hj).trans (Below.heap_setCell _ _ _ _ hj), i4.trans (by simp [World.setCell])⟩
theorem X1 (k off : Nat) (b : Nu → Nat) (cs : Nu → List Value) (vs : Nu → List Value) (e : TypeId) (hd : o.dst = none := by rfl) (hg : o.guard = none := by rfl) (hkn : Nat.ble n k = true := by rfl) (hsel : YZ o = true := by rfl)
    (hk : ∀ ν, (o.op.operands.all (XQ (Spre ν))) = true := by intro _; kernel_rfl) (hp : ∀ ν, (X6 o (Spre ν)).all id = true := by intro _; kernel_rfl)
    (hb : ∀ ν, Spre ν k = .blk (b ν) (cs ν) e := by intro _; kernel_rfl) (hlen : ∀ ν, Nat.ble (off + (vs ν).length) (cs ν).length = true := by intro _; kernel_rfl)
    (hv : ∀ ν, VF P (execOp (Y4 (Spre ν)) o) [] = some (.skip, (Y3 (b ν) off (vs ν).length).zip (vs ν)) := by intro _; kernel_rfl) :
    OpOK P ops B w0 n i o Spre (k :: X5 ops o) (fun ν => [(k, .blk (b ν) (lay (cs ν) off (vs ν)) e)]) := by
  have hkn' : n ≤ k := by simpa using hkn
  refine Zv (c := fun _ => true) (fun _ h => List.mem_cons_of_mem _ h) (Xy hsel) (fun ν => by unfold Y2; rw [hg]) hk ?_ ?_
  · intro ν S a w hcf; cases hcf
  · intro Q p S a w hpi hct hag hrep hev0
    have hev : ∀ ν, Y6 p ν → execOp a.eval o = execOp (Y4 (Spre ν)) o := fun ν hν => (hev0 ν hν).trans (Y5 (Xy hsel) (by simpa using hp ν))
    have hblk : ∀ ν, Y6 p ν → w.heap[b ν]? = some (.cells (cs ν).toArray e (0, 0)) := fun ν hν => by
      have := (hrep ν hν).holds k
      rw [hag ν hν k (by simp), hb ν] at this
      exact this
    have hrun : ∀ ν, Y6 p ν → (execOp (Y4 (Spre ν)) o).run P w = .ok .skip (JQ w ((Y3 (b ν) off (vs ν).length).zip (vs ν))) := fun ν hν => by
      obtain ⟨m', em, hr⟩ := qbT (b := b ν) (e := e) _ _ _ _ (hv ν)
      simp only [List.nil_append] at em
      subst em
      refine hr w _ (hblk ν hν) fun x hx => ?_
      obtain ⟨j, hj⟩ := List.mem_iff_getElem?.1 hx
      rw [List.getElem?_zip_eq_some] at hj
      obtain ⟨hx1, hlt⟩ := Z1 _ _ _ _ _ hj.1
      rw [hx1]
      have := hlen ν
      simp only [Nat.ble_eq] at this
      exact ⟨rfl, rfl, by simp only [List.size_toArray]; omega⟩
    unfold Oper.wp
    obtain ⟨ν0, h0⟩ := Y6.exists p
    rw [hev ν0 h0, hrun ν0 h0]
    simp only [Oper.upon]
    refine ⟨default, fun ν hν => ?_⟩
    have hν' := hν.of_set hpi
    have ew : JQ w ((Y3 (b ν0) off (vs ν0).length).zip (vs ν0)) = JQ w ((Y3 (b ν) off (vs ν).length).zip (vs ν)) := by
      have h1 := hrun ν0 h0
      rw [← hev ν0 h0, hev ν hν', hrun ν hν'] at h1
      injection h1 with _ h1; exact h1.symm
    rw [ew, Yh, hd]
    obtain ⟨i1, i2, i3, i4⟩ := JY (b := b ν) (e := e) (vs ν) w (cs ν) off (hblk ν hν')
    have hS : S ν k = .blk (b ν) (cs ν) e := (hag ν hν' k (by simp)).trans (hb ν)
    have hr := hrep ν hν'
    have hge : B ≤ b ν := hr.ge k (b ν) (by rw [hS]; trivial) (by rw [hS]; rfl)
    have hin : b ν < w.heap.size := hr.inb k (b ν) (by rw [hS]; rfl)
    refine ⟨hr.defers, hr.size, ?_, ?_, ?_, ?_, ?_, ?_, ?_⟩
    · intro t c x hs
      by_cases et : t = k
      · subst et; rw [QF] at hs; cases hs
      · rw [Q5 _ _ et] at hs; exact hr.slots t c x hs
    · exact hr.below.trans (i2.mono hge)
    · rw [i4]; exact hr.base
    · intro j
      by_cases ej : j = k
      · subst ej; rw [QF]; exact i1
      · rw [Q5 _ _ ej]
        refine KV.holds_agree (hr.holds j) fun x hx => i3 x fun hxb => ?_
        subst hxb
        exact hr.disj k j (b ν) (Ne.symm ej) (by rw [hS]; trivial) (by rw [hS]; rfl) hx
    · intro j x hx
      rw [i4]
      by_cases ej : j = k
      · subst ej; rw [QF] at hx; have hx' : x = b ν := hx; subst hx'; exact hin
      · rw [Q5 _ _ ej] at hx; exact hr.inb j x hx
    · intro j x hxe hx
      by_cases ej : j = k
      · subst ej; rw [QF] at hx; have hx' : x = b ν := hx; subst hx'; exact hge
      · rw [Q5 _ _ ej] at hx hxe; exact hr.ge j x hxe hx
    · intro j j' x hne hxe hx hx'
      by_cases ej : j = k
      · subst ej
        rw [QF] at hx
        rw [Q5 _ _ (Ne.symm hne)] at hx'
        have hxb : x = b ν := hx
        subst hxb
        exact hr.disj j j' (b ν) hne (by rw [hS]; trivial) (by rw [hS]; rfl) hx'
      · rw [Q5 _ _ ej] at hx hxe
        by_cases ej' : j' = k
        · subst ej'
          rw [QF] at hx'
          have hxb : x = b ν := hx'
          subst hxb
          exact hr.disj j j' (b ν) hne hxe hx (by rw [hS]; rfl)
        · rw [Q5 _ _ ej'] at hx'
          exact hr.disj j j' x hne hxe hx hx'
theorem Zi (f : FuncId) (args : Nu → Array Value) (v : Value) (c : Nu → Bool) (pat : List Bool) (d : Nat) (ks : List Nat)
    (hC : ∀ ν w, c ν = true → (∀ k ∈ ks, (Spre ν k).holds w) → Calls P f (args ν) w fun e w' => e = .returned v ∧ Below w.heap.size w w')
    (hd : o.dst = some d := by rfl) (hdn : Nat.blt d n = true := by rfl) (hsel : YZ o = true := by rfl)
    (hc : ∀ ν, Y2 ops o (Spre ν) = some (c ν) := by intro _; kernel_rfl) (hk : ∀ ν, (o.op.operands.all (XQ (Spre ν))) = true := by intro _; kernel_rfl)
    (hp : ∀ ν, X6 o (Spre ν) = pat.map (fun p => bif p then true else c ν) := by intro _; kernel_rfl)
    (hv : ∀ ν w, (execOp (Y4 (Spre ν)) o).run P w = .ok (.enter f (args ν)) w := by intro _ _; kernel_rfl) :
    OpOK P ops B w0 n i o Spre (ks ++ X5 ops o) (fun ν => [(d, .slot (c ν) v)]) := by
  have hdn' : d < n := by simpa using hdn
  refine Zv (c := c) (fun _ h => List.mem_append_right _ h) (Xy hsel) hc hk ?_ ?_
  · intro ν S a w hcf hr
    rw [Yh, hd]
    have := hr.put hdn' (c ν) v
    rw [hcf] at this ⊢
    simpa using this
  · intro Q p S a w hpi hct hag hrep hev0
    have hev : ∀ ν, Y6 p ν → execOp a.eval o = execOp (Y4 (Spre ν)) o := fun ν hν => (hev0 ν hν).trans (Y5 (Xy hsel) (by rw [hp ν]; exact VV (hct ν hν)))
    unfold Oper.wp
    obtain ⟨ν0, h0⟩ := Y6.exists p
    rw [hev ν0 h0, hv ν0 w]
    simp only [Oper.upon]
    refine (hC ν0 w (hct ν0 h0) fun k hk' => ?_).mono ?_
    · have := (hrep ν0 h0).holds k
      rw [hag ν0 h0 k (List.mem_append_left _ hk')] at this; exact this
    · rintro e w' ⟨rfl, hb⟩
      refine ⟨default, fun ν hν => ?_⟩
      have hν' := hν.of_set hpi
      rw [Yh, hd]
      have := ((hrep ν hν').world hb).put hdn' (c ν) v
      rw [hct ν hν'] at this ⊢
      simpa using this
theorem qo (f : FuncId) (args : Nu → Array Value) (v : Value) (d : Nat) (ks : List Nat)
    (hC : ∀ ν w, (∀ k ∈ ks, (Spre ν k).holds w) → Calls P f (args ν) w fun e w' => e = .returned v ∧ Below w.heap.size w w')
    (hd : o.dst = some d := by rfl) (hdn : Nat.blt d n = true := by rfl) (hsel : YZ o = true := by rfl) (hg : o.guard = none := by rfl)
    (hk : ∀ ν, (o.op.operands.all (XQ (Spre ν))) = true := by intro _; kernel_rfl)
    (hp : ∀ ν, (X6 o (Spre ν)).all id = true := by intro _; kernel_rfl)
    (hv : ∀ ν w, (execOp (Y4 (Spre ν)) o).run P w = .ok (.enter f (args ν)) w := by intro _ _; kernel_rfl) :
    OpOK P ops B w0 n i o Spre (ks ++ X5 ops o) (fun ν => [(d, .slot true v)]) :=
  Zi f args v (fun _ => true) (o.op.operands.toList.map fun _ => true) d ks (fun ν w _ => hC ν w) hd hdn hsel (fun ν => by unfold Y2; rw [hg]) hk
    (fun ν => by
      have := hp ν
      simp only [List.all_eq_true] at this
      rw [X6] at this ⊢
      simp only [List.map_map]
      exact List.map_congr_left fun x hx => this _ (List.mem_map.2 ⟨x, hx, rfl⟩)) hv
end
section
variable {P : Program} {ops : Array Oper} {B : Nat} {w0 : World} {n : Nat}
def qcw (i : Nat) (R : List Nat) : Bool := R.all fun k => Nat.blt k TK || Nat.blt k (TK + i)
theorem VJ {i : Nat} {R : List Nat} (h : qcw i R = true) {j : Nat} (hj : TK + j ∈ R) : j < i := by
  have h1 := List.all_eq_true.1 h _ hj
  simp only [Bool.or_eq_true, Nat.blt_eq] at h1
  omega
inductive Zg (P : Program) (ops : Array Oper) (B : Nat) (w0 : World) (n : Nat) : Nat → List Oper → (Nu → St) → List (List Nat × List Nat) → (Nu → St) → Prop
  | nil {i : Nat} {S : Nu → St} : Zg P ops B w0 n i [] S [] S
  | cons {i : Nat} {o : Oper} {rest : List Oper} {S Se : Nu → St} {R : List Nat} {rw : List (List Nat × List Nat)} {u : Nu → List (Nat × KV)} (W : List Nat) (h : OpOK P ops B w0 n i o S R u)
      (t : Zg P ops B w0 n (i + 1) rest (fun ν => XE (S ν) (u ν)) rw Se) (hW : ∀ ν, (u ν).map Prod.fst = W := by intro _; kernel_rfl) (hT : qcw i R = true := by kernel_rfl) : Zg P ops B w0 n i (o :: rest) S ((R, W) :: rw) Se
def VO.free (p : VO) (i : Nat) : Prop := ∀ j, i ≤ j → p j = none
set_option linter.unusedVariables false in
theorem Zg.inorder {Q : Exit → Act → World → Prop} {Se : Nu → St} : ∀ (l : List Oper) (i : Nat) (S : Nu → St) (rw : List (List Nat × List Nat)) (p : VO) (a : Act) (w : World),
    Zg P ops B w0 n i l S rw Se → (∀ j, l[j]? = ops[i + j]?) → p.free i → (∀ j, j < i → ∃ g, p j = some g) → (∀ ν, Y6 p ν → Yb B w0 n (S ν) a w) →
    (∀ p a w, (∀ ν, Y6 p ν → Yb B w0 n (Se ν) a w) → Q .normal a w) → wpOps P ops Q (List.range' i l.length) a w
  | [], i, S, rw, p, a, w, hc, hl, hp, hs, hr, hQ => by
    cases hc
    exact hQ p a w hr
  | o :: rest, i, S, rw, p, a, w, hc, hl, hp, hs, hr, hQ => by
    cases hc with
    | cons W h t hW hT =>
      simp only [List.length_cons, List.range'_succ]
      rw [wpOps_cons]
      refine wpOp_mono ?_ (h Q p S a w (fun ν _ k _ => rfl) (hp i (Nat.le_refl _)) (by simpa using (hl 0).symm) hr (fun j hj => hs j (VJ hT hj)))
      rintro a' w' ⟨g, hg⟩
      exact Zg.inorder rest (i + 1) _ _ (p.set i g) a' w' t (fun j => by have := hl (j + 1); simpa [Nat.add_assoc, Nat.add_comm 1 j] using this)
        (fun j hj => by have := hp j (by omega); simp only [VO.set, this]; rw [if_neg (by omega)]) (fun j hj => by
          by_cases e : j = i
          · exact ⟨g, by simp [VO.set, e]⟩
          · obtain ⟨g', hg'⟩ := hs j (by omega)
            exact ⟨g', by simp [VO.set, e, hg']⟩) hg hQ
def JO (u : Nat → Nu → List (Nat × KV)) (D : Nat → Bool) (S0 : St) (ν : Nu) : Nat → St
  | 0 => S0
  | m + 1 => if D m then XE (JO u D S0 ν m) (u m ν) else JO u D S0 ν m
theorem ZO {u : Nat → Nu → List (Nat × KV)} {D D' : Nat → Bool} {S0 : St} {ν : Nu} {k : Nat} : ∀ (m : Nat), (∀ j, j < m → k ∈ (u j ν).map Prod.fst → D j = D' j) → JO u D S0 ν m k = JO u D' S0 ν m k
  | 0, _ => rfl
  | m + 1, h => by
    have ih := ZO (u := u) (D := D) (D' := D') (S0 := S0) (ν := ν) (k := k) m (fun j hj => h j (by omega))
    simp only [JO]
    by_cases hk : k ∈ (u m ν).map Prod.fst
    · rw [h m (by omega) hk]
      cases D' m with
      | true => simp only [if_true]; rw [X8, X8, ih]
      | false => simpa using ih
    · have e : ∀ S : St, XE S (u m ν) k = S k := fun S => by rw [X8, Vp hk]; rfl
      have e1 : ∀ (b : Bool) (S : St), (if b = true then XE S (u m ν) else S) k = S k := fun b S => by cases b <;> simp [e]
      rw [e1, e1, ih]
theorem qcu {u : Nat → Nu → List (Nat × KV)} {D : Nat → Bool} {S0 : St} {ν : Nu} {i : Nat} (hi : D i = false) (k : Nat) : ∀ (m : Nat), i < m →
    (∀ j, i < j → j < m → D j = true → k ∈ (u i ν).map Prod.fst → k ∉ (u j ν).map Prod.fst) →
    JO u (fun j => D j || decide (j = i)) S0 ν m k = XE (JO u D S0 ν m) (u i ν) k := by
  intro m hm h
  by_cases hk : k ∈ (u i ν).map Prod.fst
  · obtain ⟨x, hx⟩ := qaN hk
    rw [X8, hx]
    -- from i + 1 on nothing turns k
    have key : ∀ m, i < m → (∀ j, i < j → j < m → D j = true → k ∉ (u j ν).map Prod.fst) → JO u (fun j => D j || decide (j = i)) S0 ν m k = x := by
      intro m
      induction m with
      | zero => intro hm; omega
      | succ m ih =>
        intro hm h
        simp only [JO]
        by_cases e : m = i
        · subst e
          simp only [decide_true, Bool.or_true, if_true]
          rw [X8, hx]; rfl
        · have ih' := ih (by omega) (fun j h1 h2 => h j h1 (by omega))
          have e1 : (D m || decide (m = i)) = D m := by simp [e]
          simp only [e1]
          cases hD : D m with
          | true => simp only [if_true]; rw [X8, Vp (h m (by omega) (by omega) hD), Option.getD_none, ih']
          | false => simpa using ih'
    rw [key m hm (fun j h1 h2 h3 => h j h1 h2 h3 hk)]; rfl
  · rw [X8, Vp hk, Option.getD_none]
    exact ZO m fun j hj hkj => by
      have : j ≠ i := fun e => hk (e ▸ hkj)
      simp [this]
def disj (x y : List Nat) : Bool := x.all fun k => !(y.contains k)
def Wl (o : Oper) (i : Nat) : Bool := o.after.any fun e => Region.binds .any e && Nat.beq e.on i
def WR (o : Oper) (R W : List Nat) : Nat → List (List Nat × List Nat) → Bool
  | _, [] => true
  | i, (R', W') :: rest => ((disj W' R && disj W' W && disj R' W && !(R.contains (TK + i))) || Wl o i) && WR o R W (i + 1) rest
def VN : List Oper → List (List Nat × List Nat) → List (List Nat × List Nat) → Bool
  | o :: os, (R, W) :: rw, pre => WR o R W 0 pre && VN os rw (pre ++ [(R, W)])
  | _, _, _ => true
def ZZ : List Oper → Nat → Bool
  | [], _ => true
  | o :: os, i => (o.after.all fun e => !Region.binds .any e || Nat.blt e.on i) && ZZ os (i + 1)
theorem VM {o : Oper} {R W : List Nat} : ∀ (l : List (List Nat × List Nat)) (b : Nat), WR o R W b l = true → ∀ j R' W', l[j]? = some (R', W') → Wl o (b + j) = true ∨ (disj W' R = true ∧ disj W' W = true ∧ disj R' W = true ∧ TK + (b + j) ∉ R)
  | [], b, h, j, R', W', hj => by simp at hj
  | (R0, W0') :: rest, b, h, j, R', W', hj => by
    simp only [WR, Bool.and_eq_true, Bool.or_eq_true] at h
    cases j with
    | zero =>
      simp only [List.getElem?_cons_zero, Option.some.injEq, Prod.mk.injEq] at hj
      obtain ⟨rfl, rfl⟩ := hj
      rcases h.1 with ⟨⟨⟨h1, h2⟩, h3⟩, h4⟩ | h1
      · exact .inr ⟨h1, h2, h3, by simpa using h4⟩
      · exact .inl (by simpa using h1)
    | succ j =>
      have := VM rest (b + 1) h.2 j R' W' (by simpa using hj)
      rw [show b + 1 + j = b + (j + 1) by omega] at this
      exact this
theorem JW : ∀ (os : List Oper) (rw pre : List (List Nat × List Nat)), VN os rw pre = true → ∀ j o R W, os[j]? = some o → rw[j]? = some (R, W) →
    ∀ i R' W', i < pre.length + j → (pre ++ rw)[i]? = some (R', W') → Wl o i = true ∨ (disj W' R = true ∧ disj W' W = true ∧ disj R' W = true ∧ TK + i ∉ R)
  | [], rw, pre, h, j, o, R, W, ho, hr => by simp at ho
  | o0 :: os, [], pre, h, j, o, R, W, ho, hr => by simp at hr
  | o0 :: os, (R0, W0') :: rw, pre, h, j, o, R, W, ho, hr => by
    simp only [VN, Bool.and_eq_true] at h
    intro i R' W' hi hx
    cases j with
    | zero =>
      simp only [List.getElem?_cons_zero, Option.some.injEq, Prod.mk.injEq] at ho hr
      obtain ⟨rfl, rfl⟩ := hr
      subst ho
      have := VM pre 0 h.1 i R' W' (by rw [List.getElem?_append_left (by omega)] at hx; exact hx)
      simpa using this
    | succ j =>
      refine JW os rw (pre ++ [(R0, W0')]) h.2 j o R W (by simpa using ho) (by simpa using hr) i R' W' (by simp; omega) (by simpa using hx)
theorem Jj {x y : List Nat} (h : disj x y = true) {k : Nat} (hk : k ∈ x) : k ∉ y := by
  simp only [disj, List.all_eq_true, Bool.not_eq_true'] at h
  have := h k hk
  simpa using this
theorem JZ : ∀ (os : List Oper) (b : Nat), ZZ os b = true → ∀ j o, os[j]? = some o → ∀ e ∈ o.after, Region.binds .any e = true → e.on < b + j
  | [], b, h, j, o, ho => by simp at ho
  | o0 :: os, b, h, j, o, ho => by
    simp only [ZZ, Bool.and_eq_true] at h
    intro e he hb
    cases j with
    | zero =>
      simp only [List.getElem?_cons_zero, Option.some.injEq] at ho
      subst ho
      have := Array.all_eq_true_iff_forall_mem.1 h.1 e he
      simp [hb] at this
      omega
    | succ j =>
      have := JZ os (b + 1) h.2 j o (by simpa using ho) e he hb
      omega
theorem Zg.parts {Se : Nu → St} : ∀ (l : List Oper) (i : Nat) (S : Nu → St) (rw : List (List Nat × List Nat)), Zg P ops B w0 n i l S rw Se → rw.length = l.length ∧
    ∃ us : Nat → Nu → List (Nat × KV), (∀ j o, l[j]? = some o → ∃ R W, rw[j]? = some (R, W) ∧ (∀ ν, (us j ν).map Prod.fst = W) ∧ qcw (i + j) R = true ∧ OpOK P ops B w0 n (i + j) o (fun ν => JO us (fun _ => true) (S ν) ν j) R (us j)) ∧
      ∀ ν, Se ν = JO us (fun _ => true) (S ν) ν l.length
  | [], i, S, rw, h => by
    cases h
    exact ⟨rfl, fun _ _ => [], fun j o h => by simp at h, fun ν => rfl⟩
  | o0 :: l, i, S, rw, h => by
    cases h with
    | @cons _ _ _ _ _ R rw' u W h t hW hT =>
      obtain ⟨h1, us, h2, h3⟩ := Zg.parts l (i + 1) _ rw' t
      have hshift : ∀ (ν : Nu) (m : Nat), JO (fun j ν => match j with | 0 => u ν | j + 1 => us j ν) (fun _ => true) (S ν) ν (m + 1) = JO us (fun _ => true) (XE (S ν) (u ν)) ν m := by
        intro ν m
        induction m with
        | zero => simp [JO]
        | succ m ih =>
          rw [JO, ih]
          simp [JO]
      refine ⟨by simp [h1], fun j ν => match j with | 0 => u ν | j + 1 => us j ν, fun j o ho => ?_, fun ν => ?_⟩
      · cases j with
        | zero =>
          simp only [List.getElem?_cons_zero, Option.some.injEq] at ho
          subst ho
          exact ⟨R, W, rfl, hW, hT, h⟩
        | succ j =>
          obtain ⟨R', W', hr, hW', hT', ho'⟩ := h2 j o (by simpa using ho)
          refine ⟨R', W', by simpa using hr, hW', ?_⟩
          simp only [hshift]
          rw [show i + (j + 1) = i + 1 + j by omega]
          exact ⟨hT', ho'⟩
      · rw [h3 ν, ← hshift]; rfl
theorem Zg.anyorder {Q : Exit → Act → World → Prop} {S0 : St} {Se : Nu → St} {rw : List (List Nat × List Nat)} {a : Act} {w : World} (hc : Zg P ops B w0 n 0 ops.toList (fun _ => S0) rw Se)
    (hi : VN ops.toList rw [] = true) (hf : ZZ ops.toList 0 = true) (hr : Yb B w0 n S0 a w)
    (hQ : ∀ ν a w, Yb B w0 n (Se ν) a w → Q .normal a w) (fuel : Nat) (hfuel : ops.size ≤ fuel) : wpAny P .any ops Q fuel (Array.replicate ops.size false) a w := by
  obtain ⟨hlen, us, hus, hSe⟩ := Zg.parts _ _ _ _ hc
  have hl : ops.toList.length = ops.size := Array.length_toList
  have hget : ∀ j o, ops[j]? = some o → ops.toList[j]? = some o := fun j o h => by rw [Array.getElem?_toList]; exact h
  -- the done set
  let D (L : Array Bool) : Nat → Bool := fun j => L.getD j false
  have main : ∀ (fuel : Nat) (L : Array Bool) (p : VO) (a : Act) (w : World), L.size = ops.size → (∀ j, D L j = false → p j = none) → (∀ j, D L j = true → ∃ g, p j = some g) →
      (∀ j o, D L j = true → ops[j]? = some o → ∀ e ∈ o.after, Region.binds .any e = true → D L e.on = true) →
      (∀ ν, Y6 p ν → Yb B w0 n (JO us (D L) S0 ν ops.size) a w) → ((List.range ops.size).filter fun j => !D L j).length ≤ fuel → wpAny P .any ops Q fuel L a w := by
    intro fuel
    have hdone : ∀ (L : Array Bool) (p : VO) (a : Act) (w : World), L.size = ops.size →
      (∀ j o, D L j = true → ops[j]? = some o → ∀ e ∈ o.after, Region.binds .any e = true → D L e.on = true) →
      (∀ ν, Y6 p ν → Yb B w0 n (JO us (D L) S0 ν ops.size) a w) → Region.ready .any ops L = [] → Q .normal a w := by
      intro L p a w hL hdown hrep hno
      have hall : ∀ j, j < ops.size → D L j = true := by
        intro j
        induction j using Nat.strongRecOn with
        | _ j ih =>
          intro hj
          cases hD : D L j with
          | true => rfl
          | false =>
            have : j ∈ Region.ready .any ops L := by
              rw [mem_ready]
              refine ⟨?_, ops[j], by simp [hj], fun e he hb => ?_⟩
              · have : L.getD j false = false := hD
                simp only [Array.getD_eq_getD_getElem?] at this ⊢
                rw [Array.getElem?_eq_getElem (by omega)] at this ⊢
                exact this
              · have h1 := JZ _ _ hf j ops[j] (by simp [hj]) e he hb
                simp only [Nat.zero_add] at h1
                exact ih e.on h1 (by omega)
            rw [hno] at this; cases this
      obtain ⟨ν, hν⟩ := Y6.exists p
      refine hQ ν a w ((hrep ν hν).congr fun k => ?_)
      rw [hSe ν, hl]
      exact ZO _ fun j hj _ => (hall j hj).symm
    induction fuel with
    | zero =>
      intro L p a w hL hp hps hdown hrep hcount
      have hno : Region.ready .any ops L = [] := by
        cases hrd : Region.ready .any ops L with
        | nil => rfl
        | cons j rest =>
          exfalso
          have hj : j ∈ Region.ready .any ops L := by rw [hrd]; simp
          obtain ⟨h1, o, ho, _⟩ := mem_ready.1 hj
          have hjs : j < ops.size := (Array.getElem?_eq_some_iff.1 ho).1
          have : j ∈ (List.range ops.size).filter fun j => !D L j := by
            simp only [List.mem_filter, List.mem_range, hjs, true_and, Bool.not_eq_true']
            show L.getD j false = false
            simp only [Array.getD_eq_getD_getElem?] at h1 ⊢
            rw [Array.getElem?_eq_getElem (by omega)] at h1 ⊢
            exact h1
          have := List.length_pos_of_mem this
          omega
      exact ⟨hno, hdone L p a w hL hdown hrep hno⟩
    | succ fuel ih =>
      intro L p a w hL hp hps hdown hrep hcount
      refine ⟨hdone L p a w hL hdown hrep, fun i hi' => ?_⟩
      obtain ⟨hLi, o, ho, hpre⟩ := mem_ready.1 hi'
      have his : i < ops.size := (Array.getElem?_eq_some_iff.1 ho).1
      have hDi : D L i = false := by
        show L.getD i false = false
        simp only [Array.getD_eq_getD_getElem?] at hLi ⊢
        rw [Array.getElem?_eq_getElem (by omega)] at hLi ⊢
        exact hLi
      obtain ⟨R, W, hrw, hW, hT, hok⟩ := hus i o (hget i o ho)
      simp only [Nat.zero_add] at hok hT
      -- what touches what it touches is done if it stands before it, and isn't done if it stands behind it
      have hord : ∀ j, j < ops.size → j ≠ i → (∃ R' W', rw[j]? = some (R', W') ∧ ¬ (disj W' R = true ∧ disj W' W = true ∧ disj R' W = true) ∧ j < i) ∨ (∃ R' W', rw[j]? = some (R', W') ∧ ¬ (disj W R' = true ∧ disj W W' = true ∧ disj R W' = true) ∧ i < j) → D L j = decide (j < i) := by
        intro j hj hne hcase
        rcases hcase with ⟨R', W', hr', hn, hlt⟩ | ⟨R', W', hr', hn, hlt⟩
        · have := JW _ _ _ hi i o R W (hget i o ho) hrw j R' W' (by simpa using hlt) (by simpa using hr')
          have he := this.resolve_right fun q => hn ⟨q.1, q.2.1, q.2.2.1⟩
          simp only [Wl, Array.any_eq_true'] at he
          obtain ⟨e, he1, he2⟩ := he
          simp only [Bool.and_eq_true, Nat.beq_eq] at he2
          have := hpre e he1 he2.1
          rw [he2.2] at this
          simp only [hlt, decide_true]; exact this
        · obtain ⟨oj, hoj⟩ : ∃ oj, ops[j]? = some oj := ⟨ops[j], by simp [hj]⟩
          have := JW _ _ _ hi j oj R' W' (hget j oj hoj) hr' i R W (by simpa using hlt) (by simpa using hrw)
          have he := this.resolve_right fun q => hn ⟨q.1, q.2.1, q.2.2.1⟩
          simp only [Wl, Array.any_eq_true'] at he
          obtain ⟨e, he1, he2⟩ := he
          simp only [Bool.and_eq_true, Nat.beq_eq] at he2
          cases hDj : D L j with
          | false => have : ¬ j < i := by omega
                     simp [this]
          | true =>
            have h3 := hdown j oj hDj hoj e he1 he2.1
            rw [he2.2, hDi] at h3; cases h3
      have hag : ∀ ν, Y6 p ν → ∀ k ∈ R, JO us (D L) S0 ν ops.size k = JO us (fun _ => true) S0 ν i k := by
        intro ν _ k hk
        have e1 : JO us (D L) S0 ν ops.size k = JO us (fun j => decide (j < i)) S0 ν ops.size k := by
          refine ZO _ fun j hj hkj => ?_
          by_cases hji : j = i
          · subst hji; rw [hDi]; simp
          · obtain ⟨oj, hoj⟩ : ∃ oj, ops[j]? = some oj := ⟨ops[j], by simp [hj]⟩
            obtain ⟨R', W', hrw', hW', _, _⟩ := hus j oj (hget j oj hoj)
            rw [hW' ν] at hkj
            refine hord j hj hji ?_
            rcases Nat.lt_or_ge j i with hlt | hge
            · exact .inl ⟨R', W', hrw', fun hd => Jj hd.1 hkj hk, hlt⟩
            · exact .inr ⟨R', W', hrw', fun hd => Jj hd.2.2 hk hkj, by omega⟩
        rw [e1]
        have key : ∀ m, i ≤ m → JO us (fun j => decide (j < i)) S0 ν m k = JO us (fun _ => true) S0 ν i k := by
          intro m
          induction m with
          | zero => intro hm; have : i = 0 := by omega
                    subst this; rfl
          | succ m ihm =>
            intro hm
            by_cases e : i = m + 1
            · subst e
              exact ZO _ fun j hj _ => by simp [hj]
            · rw [JO, if_neg (by simp; omega)]
              exact ihm (by omega)
        exact key _ (by omega)
      have hJ : ∀ j, TK + j ∈ R → ∃ g, p j = some g := by
        intro j hj
        have hlt := VJ hT hj
        obtain ⟨oj, hoj⟩ : ∃ oj, ops[j]? = some oj := ⟨ops[j]'(by omega), by simp [show j < ops.size by omega]⟩
        obtain ⟨R', W', hrw', _, _, _⟩ := hus j oj (hget j oj hoj)
        have := JW _ _ _ hi i o R W (hget i o ho) hrw j R' W' (by simpa using hlt) (by simpa using hrw')
        have he := this.resolve_right fun q => q.2.2.2 hj
        simp only [Wl, Array.any_eq_true'] at he
        obtain ⟨e, he1, he2⟩ := he
        simp only [Bool.and_eq_true, Nat.beq_eq] at he2
        have h3 := hpre e he1 he2.1
        rw [he2.2] at h3
        exact hps j h3
      refine wpOp_mono ?_ (hok Q p (fun ν => JO us (D L) S0 ν ops.size) a w hag (hp i hDi) ho hrep hJ)
      rintro a' w' ⟨g, hg⟩
      have hDset : ∀ j, D (L.setIfInBounds i true) j = (D L j || decide (j = i)) := by
        intro j
        show (L.setIfInBounds i true).getD j false = _
        by_cases e : j = i
        · subst e
          simp [Array.getD_eq_getD_getElem?, hL, his]
        · rw [getD_set_ne false (fun h => e h.symm)]
          simp [e, D]
      refine ih (L.setIfInBounds i true) (p.set i g) a' w' (by simp [hL]) ?_ ?_ ?_ ?_ ?_
      · intro j hj
        rw [hDset] at hj
        simp only [Bool.or_eq_false_iff, decide_eq_false_iff_not] at hj
        simp only [VO.set, hj.2, if_false]
        exact hp j hj.1
      · intro j hj
        rw [hDset] at hj
        by_cases e : j = i
        · exact ⟨g, by simp [VO.set, e]⟩
        · obtain ⟨g', hg'⟩ := hps j (by simpa [e] using hj)
          exact ⟨g', by simp [VO.set, e, hg']⟩
      · intro j oj hj hoj e he hb
        rw [hDset] at hj ⊢
        simp only [Bool.or_eq_true, decide_eq_true_eq] at hj ⊢
        rcases hj with hj | hj
        · exact .inl (hdown j oj hj hoj e he hb)
        · subst hj
          rw [ho] at hoj
          injection hoj with hoj
          subst hoj
          exact .inl (hpre e he hb)
      · intro ν hν
        refine (hg ν hν).congr fun k => ?_
        have hfun : D (L.setIfInBounds i true) = fun j => D L j || decide (j = i) := funext hDset
        rw [hfun]
        refine qcu hDi k _ his ?_
        intro j hij hj hDj hki hkj
        obtain ⟨oj, hoj⟩ : ∃ oj, ops[j]? = some oj := ⟨ops[j], by simp [hj]⟩
        obtain ⟨R', W', hrw', hW', _, _⟩ := hus j oj (hget j oj hoj)
        rw [hW ν] at hki
        rw [hW' ν] at hkj
        have := hord j hj (by omega) (.inr ⟨R', W', hrw', fun hd => Jj hd.2.1 hki hkj, hij⟩)
        rw [hDj] at this
        simp at this
        omega
      · have hsub : ((List.range ops.size).filter fun j => !D (L.setIfInBounds i true) j) = ((List.range ops.size).filter fun j => !D L j).filter fun j => !decide (j = i) := by
          rw [List.filter_filter]
          refine List.filter_congr fun j _ => ?_
          rw [hDset]
          cases D L j <;> simp
        rw [hsub]
        have hmem : i ∈ (List.range ops.size).filter fun j => !D L j := by simp [his, hDi]
        have : (((List.range ops.size).filter fun j => !D L j).filter fun j => !decide (j = i)).length < ((List.range ops.size).filter fun j => !D L j).length := by
          refine List.length_filter_lt_length_iff_exists.2 ⟨i, hmem, by simp⟩
        omega
  have hno : ∀ j, ¬ D (Array.replicate ops.size false) j = true := fun j hj => by
    have : (Array.replicate ops.size false).getD j false = true := hj
    by_cases hjs : j < ops.size <;> simp [Array.getD_eq_getD_getElem?, hjs] at this
  refine main fuel _ (fun _ => none) a w (by simp) (fun _ _ => rfl) (fun j hj => absurd hj (hno j)) ?_ ?_ ?_
  · intro j o hj
    have : (Array.replicate ops.size false).getD j false = true := hj
    by_cases hjs : j < ops.size <;> simp [Array.getD_eq_getD_getElem?, hjs] at this
  · intro ν _
    refine hr.congr fun k => ?_
    have key : ∀ m, JO us (D (Array.replicate ops.size false)) S0 ν m = S0 := by
      intro m
      induction m with
      | zero => rfl
      | succ m ih =>
        have : D (Array.replicate ops.size false) m = false := by
          show (Array.replicate ops.size false).getD m false = false
          by_cases hjs : m < ops.size <;> simp [Array.getD_eq_getD_getElem?, hjs]
        rw [JO, this]; simpa using ih
    rw [key]
  · refine Nat.le_trans (List.length_filter_le _ _) ?_
    simpa using hfuel
theorem qfN {draw : Bool} {id : Nat} {Q : Exit → Act → World → Prop} {S0 : St} {Se : Nu → St} {rw : List (List Nat × List Nat)} {a : Act} {w : World} (hm : P.follows .mixedOrders = true)
    (hr : Yb B w0 n S0 a w) (hc : Zg P ops B w0 n 0 ops.toList (fun _ => S0) rw Se)
    (hi : (!draw || (VN ops.toList rw [] && ZZ ops.toList 0)) = true)
    (hQ : ∀ ν a w, Yb B w0 n (Se ν) a w → Q .normal a w) : (Code.region id ops draw).wp P Q a w := by
  cases draw with
  | false =>
    refine wp_region ?_
    have := Zg.inorder (Q := Q) ops.toList 0 (fun _ => S0) rw (fun _ => none) a w hc (fun j => by simp) (fun _ _ => rfl) (fun _ h => absurd h (Nat.not_lt_zero _)) (fun _ _ => hr)
      (fun p a w h => by obtain ⟨ν, hν⟩ := Y6.exists p; exact hQ ν a w (h ν hν))
    rw [List.range_eq_range', ← Array.length_toList]
    exact this
  | true =>
    simp only [Bool.not_true, Bool.false_or, Bool.and_eq_true] at hi
    refine wp_region_any hm ?_
    have hr' : Yb B w0 n S0 a { w with drawn := w.drawn + 1 } := hr.world ⟨rfl, rfl, rfl, Nat.le_refl _, fun _ _ => rfl⟩
    exact Zg.anyorder hc hi.1 hi.2 hr' hQ _ (Nat.le_refl _)
end
end Go.Sx
set_option linter.unusedVariables false
namespace Go.Sx
open Go Go.RowKit
abbrev K := Act → World → Prop
def qcx : List (Nat × K) → Nat → Option K
  | [], _ => none
  | (j, k) :: r, i => bif Nat.beq j i then some k else qcx r i
def J1 (N : K) (xs : List (Nat × K)) (R : K) : Exit → Act → World → Prop
  | .normal, a, w => N a w
  | .exit i, a, w => match qcx xs i with | some k => k a w | none => False
  | .ret, a, w => R a w
  | _, _, _ => False
section
variable {P : Program} {N R : K} {xs : List (Nat × K)} {a : Act} {w : World}
theorem qs {x y : Code} (h : x.wp P (J1 (y.wp P (J1 N xs R)) xs R) a w) : (Code.seq x y).wp P (J1 N xs R) a w :=
  wp_seq (wp_mono h fun e a w q => by cases e <;> exact q)
theorem qT (h : N a w) : Code.skip.wp P (J1 N xs R) a w := wp_skip h
theorem q7 (h : R a w) : Code.ret.wp P (J1 N xs R) a w := wp_ret h
theorem QO {i : Nat} {k : K} (hk : qcx xs i = some k) (h : k a w) : (Code.exit i).wp P (J1 N xs R) a w := wp_exit (by simp only [J1, hk]; exact h)
theorem qA {i : Nat} {c : Code} (h : c.wp P (J1 N ((i, N) :: xs) R) a w) : (Code.block i c).wp P (J1 N xs R) a w := by
  refine wp_block (wp_mono h fun e a w q => ?_)
  cases e with
  | exit j =>
    simp only [J1, qcx] at q
    simp only [Exit.inBlock]
    by_cases hj : j = i
    · subst hj
      rw [show Nat.beq j j = true from Nat.beq_refl j] at q
      simp only [if_true]; exact q
    · have : Nat.beq i j = false := by
        cases hb : Nat.beq i j with
        | false => rfl
        | true => exact absurd (Nat.eq_of_beq_eq_true hb).symm hj
      rw [this] at q
      rw [if_neg hj]; exact q
  | _ => exact q
theorem qfP {B n : Nat} {w0 : World} {S : St} {c : Operand} {x y : Code} {t : Bool} (hr : Yb B w0 n S a w) (hk : XQ S c = true) (he : ZU S c = .bool t)
    (ht : t = true → x.wp P (J1 N xs R) a w) (hf : t = false → y.wp P (J1 N xs R) a w) : (Code.cond c x y).wp P (J1 N xs R) a w :=
  wp_cond_split ((Wd hr hk).trans he) ht hf
theorem Wz {B n : Nat} {w0 : World} {S : St} {c : Operand} {x y : Code} (hr : Yb B w0 n S a w) (hk : XQ S c = true) (he : ZU S c = .bool true) (ht : x.wp P (J1 N xs R) a w) : (Code.cond c x y).wp P (J1 N xs R) a w :=
  wp_cond_true ((Wd hr hk).trans he) ht
theorem VU {B n : Nat} {w0 : World} {S : St} {c : Operand} {x y : Code} (hr : Yb B w0 n S a w) (hk : XQ S c = true) (he : ZU S c = .bool false) (hf : y.wp P (J1 N xs R) a w) : (Code.cond c x y).wp P (J1 N xs R) a w :=
  wp_cond_false ((Wd hr hk).trans he) hf
theorem qgc {B n id : Nat} {w0 : World} {ops : Array Oper} {draw : Bool} {S0 : St} {Se : Nu → St} {rw : List (List Nat × List Nat)} (hm : P.follows .mixedOrders = true)
    (hr : Yb B w0 n S0 a w) (hc : Zg P ops B w0 n 0 ops.toList (fun _ => S0) rw Se)
    (hi : (!draw || (VN ops.toList rw [] && ZZ ops.toList 0)) = true)
    (hQ : ∀ ν a w, Yb B w0 n (Se ν) a w → N a w) : (Code.region id ops draw).wp P (J1 N xs R) a w := qfN hm hr hc hi hQ
def qbk (P : Program) (c : Code) (Q : Exit → Act → World → Prop) (a : Act) (w : World) : Prop :=
  ∀ (b : Frame) (k : List Item) (cs : List Frame), ∃ e a' w', Q e a' w' ∧ Arrives P (lone (b.at a (.code c :: .inLoop c :: k)) cs w) b k cs e a' w'
theorem qfO {c : Code} {Q : Exit → Act → World → Prop} (h : qbk P c Q a w) : (Code.loop c).wp P Q a w :=
  fun b k cs => let ⟨e, a', w', q, r⟩ := h b k cs; ⟨e, a', w', q, .of_steps (.one step_loop) r⟩
theorem qdi {c : Code} (h : c.wp P (J1 (qbk P c (J1 N xs R)) xs R) a w) : qbk P c (J1 N xs R) a w := by
  intro b k cs
  obtain ⟨e, a₁, w₁, hq, harr⟩ := h b (.inLoop c :: k) cs
  cases e with
  | normal =>
    obtain ⟨e₂, a₂, w₂, hq₂, harr₂⟩ := hq b k cs
    exact ⟨e₂, a₂, w₂, hq₂, .of_steps (Steps.trans harr (.one step_inLoop)) harr₂⟩
  | exit id => exact ⟨(.exit id), a₁, w₁, by exact hq, .pass (x := .inLoop c) rfl (fun _ _ => .inl (by simp)) harr⟩
  | goto l => exact ⟨(.goto l), a₁, w₁, by exact hq, .pass (x := .inLoop c) rfl (fun _ _ => .inl (by simp)) harr⟩
  | ret => exact ⟨.ret, a₁, w₁, by exact hq, .pass (x := .inLoop c) rfl (fun _ _ => .inl (by simp)) harr⟩
  | panic ch => exact ⟨(.panic ch), a₁, w₁, by exact hq, .pass (x := .inLoop c) rfl (fun _ _ => .inl (by simp)) harr⟩
  | outgrown => exact ⟨.outgrown, a₁, w₁, by exact hq, .pass (x := .inLoop c) rfl (fun _ _ => .inl (by simp)) harr⟩
end
def Wy (l : List (Nat × KV)) : St := XE (fun _ => .none) l
theorem qbV {l : List (Nat × KV)} {k : Nat} {v : KV} (h : VB l k = some v) : (k, v) ∈ l := by
  induction l with
  | nil => cases h
  | cons p r ih =>
    obtain ⟨k', v'⟩ := p
    rw [VB] at h
    cases hr : VB r k with
    | some x => rw [hr] at h; simp only [Option.some.injEq] at h; subst h; exact List.mem_cons_of_mem _ (ih hr)
    | none =>
      rw [hr] at h
      simp only at h
      split at h
      · rename_i e; subst e; simp only [Option.some.injEq] at h; subst h; simp
      · cases h
theorem Yb.toL {B n : Nat} {w0 : World} {S : St} {a : Act} {w : World} (h : Yb B w0 n S a w) (l : List (Nat × KV)) (hl : l.map (fun p => S p.1) = l.map (fun p => p.2)) : Yb B w0 n (Wy l) a w := by
  refine h.weak fun k => ?_
  unfold Wy
  rw [X8]
  cases hk : VB l k with
  | none => exact .inl rfl
  | some v =>
    right
    have hm := qbV hk
    have : ∀ p ∈ l, S p.1 = p.2 := fun p hp => by
      obtain ⟨i, hi⟩ := List.mem_iff_getElem?.1 hp
      have := congrArg (fun x => x[i]?) hl
      simp only [List.getElem?_map, hi, Option.map_some, Option.some.injEq] at this
      exact this
    exact (this _ hm).symm
def Wc : Nat → List Value → List (Nat × KV)
  | _, [] => []
  | i, v :: vs => (i, .slot true v) :: Wc (i + 1) vs
theorem ZF : ∀ (vs : List Value) (i k : Nat), VB (Wc i vs) k = if i ≤ k then (vs[k - i]?).map (KV.slot true) else none
  | [], i, k => by simp [Wc, VB]
  | v :: vs, i, k => by
    rw [Wc, VB, ZF vs (i + 1) k]
    by_cases e : k = i
    · subst e; rw [if_neg (by omega), if_pos (Nat.le_refl _)]; simp
    · by_cases h : i ≤ k
      · have h' : i + 1 ≤ k := by omega
        rw [if_pos h', if_pos h, show k - i = (k - (i + 1)) + 1 by omega]
        simp only [List.getElem?_cons_succ]
        cases vs[k - (i + 1)]? <;> simp [e]
      · rw [if_neg (by omega), if_neg h]; simp [e]
theorem qc7 (args : List Value) (n : Nat) (w : World) (hn : args.length ≤ n) : Yb w.heap.size w n (Wy (Wc 0 args)) { tmps := args.toArray ++ Array.replicate (n - args.toArray.size) undef, defers := [] } w where
  defers := rfl
  size := by simp; omega
  slots t c v hs := by
    unfold Wy at hs
    rw [X8, ZF] at hs
    simp only [Nat.zero_le, if_true, Nat.sub_zero] at hs
    cases hv : args[t]? with
    | none => rw [hv] at hs; cases hs
    | some x =>
      rw [hv] at hs
      simp only [Option.map_some, Option.getD_some, KV.slot.injEq] at hs
      obtain ⟨rfl, rfl⟩ := hs
      have hlt : t < args.length := (List.getElem?_eq_some_iff.1 hv).1
      rw [Array.getElem?_append_left (by simpa using hlt)]
      simpa using hv
  below := Below.refl _ _
  base := Nat.le_refl _
  holds k := by
    unfold Wy; rw [X8, ZF]
    simp only [Nat.zero_le, if_true, Nat.sub_zero]
    cases args[k]? <;> trivial
  inb k i hi := by
    unfold Wy at hi; rw [X8, ZF] at hi
    simp only [Nat.zero_le, if_true, Nat.sub_zero] at hi
    cases hv : args[k]? <;> rw [hv] at hi <;> exact hi.elim
  ge k i hx hi := by
    unfold Wy at hi; rw [X8, ZF] at hi
    simp only [Nat.zero_le, if_true, Nat.sub_zero] at hi
    cases hv : args[k]? <;> rw [hv] at hi <;> exact hi.elim
  disj k k' i hne hx hi hi' := by
    unfold Wy at hi; rw [X8, ZF] at hi
    simp only [Nat.zero_le, if_true, Nat.sub_zero] at hi
    cases hv : args[k]? <;> rw [hv] at hi <;> exact hi.elim
theorem Q4 {P : Program} {f : FuncId} {fn : Func} {c : Code} {args : List Value} {w : World} {R : Ending → World → Prop} (n : Nat) (hf : P.funcs[f]? = some fn) (hb : fn.body = some c) (hn : fn.ntmps = n) (hl : Nat.ble args.length n = true)
    (h : ∀ a, Yb w.heap.size w n (Wy (Wc 0 args)) a w → c.wp P (J1 (bodyPost P fn R .ret) [] (bodyPost P fn R .ret)) a w) : Calls P f args.toArray w R := by
  refine calls_of_wp hf hb ?_
  have hl' : args.length ≤ n := by simpa using hl
  subst hn
  refine wp_mono (h _ (qc7 args _ w hl')) fun e a w q => ?_
  cases e with
  | normal => exact q
  | ret => exact q
  | exit i => exact q.elim
  | _ => exact q.elim
def Zd (fn : Func) (env : Nat → Value) : Sem Value := do
  let vs ← fn.results.mapM fun
    | .tmp t => pure (env t)
    | .cell a t => do loadVar t (← asAddr (env a))
  pure (if h : vs.size = 1 then vs[0] else .tuple vs)
structure Seg where
  b : Nat
  cs : List Value
  off : Nat
  m : Nat
def qas : List Seg → List Addr
  | [] => []
  | s :: r => Y3 s.b s.off s.m ++ qas r
def qbs : List Seg → List Value
  | [] => []
  | s :: r => (s.cs.drop s.off).take s.m ++ qbs r
theorem qaL {w : World} : ∀ (l : List Seg), (∀ s ∈ l, (∃ e fz, w.heap[s.b]? = some (.cells s.cs.toArray e fz)) ∧ s.off + s.m ≤ s.cs.length) →
    ∀ (j : Nat) x v, (qas l)[j]? = some x → (qbs l)[j]? = some v → w.cell? x = some v
  | [], _, j, x, v, hx, _ => by simp [qas] at hx
  | s :: r, h, j, x, v, hx, hv => by
    obtain ⟨⟨e, fz, hw⟩, hm⟩ := h s (by simp)
    have hlA : (Y3 s.b s.off s.m).length = s.m := V4 _ _ _
    have hlV : ((s.cs.drop s.off).take s.m).length = s.m := by simp; omega
    by_cases hj : j < s.m
    · rw [qas, List.getElem?_append_left (by omega)] at hx
      rw [qbs, List.getElem?_append_left (by omega)] at hv
      obtain ⟨rfl, _⟩ := Z1 _ _ _ _ _ hx
      rw [List.getElem?_take_of_lt hj, List.getElem?_drop] at hv
      simp [World.cell?, hw, hv]
    · rw [qas, List.getElem?_append_right (by omega), hlA] at hx
      rw [qbs, List.getElem?_append_right (by omega), hlV] at hv
      exact qaL r (fun s hs => h s (List.mem_cons_of_mem _ hs)) _ x v hx hv
theorem qcq (fn : Func) (tmps : Array Value) : results fn tmps = Zd fn (fun t => tmps.getD t undef) := rfl
def VG (env : Nat → Value) : ResultVar → Sem Value
  | .tmp t => pure (env t)
  | .cell a t => do loadVar t (← asAddr (env a))
def Wk : ResultVar → Nat
  | .tmp t => t
  | .cell a _ => a
theorem qbp {env env' : Nat → Value} (x : ResultVar) (h : env (Wk x) = env' (Wk x)) : VG env x = VG env' x := by
  cases x with
  | tmp t => have h' : env t = env' t := h
             simp only [VG, h']
  | cell a t => have h' : env a = env' a := h
                simp only [VG, h']
theorem Ww {env env' : Nat → Value} : ∀ (l : List ResultVar), (∀ x ∈ l, env (Wk x) = env' (Wk x)) → l.mapM (VG env) = l.mapM (VG env')
  | [], _ => rfl
  | x :: l, h => by
    rw [List.mapM_cons, List.mapM_cons, qbp x (h x (by simp)), Ww l fun y hy => h y (List.mem_cons_of_mem _ hy)]
theorem Wu (fn : Func) (env : Nat → Value) : Zd fn env = (do
    let vs ← fn.results.mapM (VG env)
    pure (if h : vs.size = 1 then vs[0] else .tuple vs)) := by
  unfold Zd
  congr 2
theorem qaf (fn : Func) {env env' : Nat → Value} (h : ∀ x ∈ fn.results.toList, env (Wk x) = env' (Wk x)) : Zd fn env = Zd fn env' := by
  rw [Wu, Wu, Array.mapM_eq_mapM_toList, Array.mapM_eq_mapM_toList, Ww _ h]
theorem WC {P : Program} {B n : Nat} {w0 : World} {S : St} {a : Act} {w : World} (hr : Yb B w0 n S a w) {fn : Func} (v : Value) (segs : List (Nat × Seg))
    (hk : (fn.results.toList).all (fun x => JX (S (Wk x))) = true)
    (hs : ∀ p ∈ segs, (∃ e, S p.1 = .blk p.2.b p.2.cs e) ∧ Nat.ble (p.2.off + p.2.m) p.2.cs.length = true)
    (hp : Z2 P (Zd fn (fun t => ZU S (.tmp t))) (qbs (segs.map (·.2))) [] = some (v, qas (segs.map (·.2)))) : (results fn a.tmps).run P w = .ok v w := by
  have henv : Zd fn (fun t => a.tmps.getD t undef) = Zd fn (fun t => ZU S (.tmp t)) :=
    qaf fn fun x hx => Wd hr (x := .tmp (Wk x)) (List.all_eq_true.1 hk x hx)
  rw [qcq, henv]
  obtain ⟨m, e, hl, hrun⟩ := JN _ _ _ _ _ hp
  simp only [List.nil_append] at e
  subst e
  refine hrun w fun j x u hx hu => qaL (segs.map (·.2)) ?_ j x u hx hu
  intro s hs'
  obtain ⟨p, hp1, rfl⟩ := List.mem_map.1 hs'
  obtain ⟨⟨e, he⟩, hle⟩ := hs p hp1
  have := hr.holds p.1
  rw [he] at this
  exact ⟨⟨e, (0, 0), this⟩, by simpa using hle⟩
theorem qds {P : Program} {n : Nat} {w0 : World} {S : St} {a : Act} {w : World} (hr : Yb w0.heap.size w0 n S a w) {fn : Func} (v : Value) (segs : List (Nat × Seg))
    (hk : (fn.results.toList).all (fun x => JX (S (Wk x))) = true)
    (hs : ∀ p ∈ segs, (∃ e, S p.1 = .blk p.2.b p.2.cs e) ∧ Nat.ble (p.2.off + p.2.m) p.2.cs.length = true)
    (hp : Z2 P (Zd fn (fun t => ZU S (.tmp t))) (qbs (segs.map (·.2))) [] = some (v, qas (segs.map (·.2)))) :
    bodyPost P fn (fun e w' => e = .returned v ∧ Below w0.heap.size w0 w') .ret a w :=
  ⟨hr.defers, v, WC hr v segs hk hs hp, rfl, hr.below⟩
theorem QG {P : Program} {n : Nat} {w0 : World} {S : St} {a : Act} {w : World} (hr : Yb w0.heap.size w0 n S a w) {fn : Func} (v : Value)
    (hk : (fn.results.toList).all (fun x => JX (S (Wk x))) = true)
    (hp : Z2 P (Zd fn (fun t => ZU S (.tmp t))) [] [] = some (v, [])) :
    bodyPost P fn (fun e w' => e = .returned v ∧ Below w0.heap.size w0 w') .ret a w :=
  qds hr v [] hk (by simp) hp
theorem Xe {P : Program} {n : Nat} {w0 : World} {S : St} {a : Act} {w : World} (hr : Yb w0.heap.size w0 n S a w) {fn : Func} (v : Value) (k b : Nat) (cs : List Value) (e : TypeId) (off m : Nat)
    (hk : (fn.results.toList).all (fun x => JX (S (Wk x))) = true)
    (hs : S k = .blk b cs e) (hle : Nat.ble (off + m) cs.length = true)
    (hp : Z2 P (Zd fn (fun t => ZU S (.tmp t))) ((cs.drop off).take m) [] = some (v, Y3 b off m)) :
    bodyPost P fn (fun e w' => e = .returned v ∧ Below w0.heap.size w0 w') .ret a w :=
  qds hr v [(k, ⟨b, cs, off, m⟩)] hk (by intro p hp; simp only [List.mem_singleton] at hp; subst hp; exact ⟨⟨e, hs⟩, hle⟩) (by simpa [qbs, qas] using hp)
end Go.Sx
set_option linter.unusedVariables false
namespace Go.Sx
open Go Go.RowKit
section
variable {P : Program} {N R : K} {xs : List (Nat × K)} {a : Act} {w : World}
theorem Qw {c : Code} (J : K) (hJ : ∀ a w, J a w → N a w) (h : c.wp P (J1 J xs R) a w) : c.wp P (J1 N xs R) a w :=
 wp_mono h fun e a w q => by
  cases e with
  | normal => exact hJ a w q
  | _ => exact q
theorem Qv {c : Code} (J : Nat → K) (m : Nat) (h0 : J m a w) (hs : ∀ m a w, J m a w → c.wp P (J1 (fun a w => ∃ m', m' < m ∧ J m' a w) xs R) a w) : (Code.loop c).wp P (J1 N xs R) a w := by
 refine qfO ?_
 have : ∀ m a w, J m a w → qbk P c (J1 N xs R) a w := by
  intro m
  induction m using Nat.strongRecOn with
  | _ m ih =>
   intro a w hJ
   refine qdi (wp_mono (hs m a w hJ) fun e a w q => ?_)
   cases e with
   | normal => obtain ⟨m', hm, hj⟩ := q; exact ih m' hm a w hj
   | _ => exact q
 exact this m a w h0
end
theorem qP {α β : Type} {o : Option α} {f : α → Option β} {r : β} (h : o.bind f = some r) : ∃ a, o = some a ∧ f a = some r := by
 cases o with
 | none => cases h
 | some a => exact ⟨a, rfl, h⟩
theorem ifp {c : Prop} [Decidable c] {α : Type} {x y : Option α} {r : α} (h : (if c then x else y) = some r) (hc : c) : x = some r := by rw [if_pos hc] at h; exact h
theorem nt {b : Bool} (h : b = false) : ¬ (b = true) := by rw [h]; exact Bool.false_ne_true
theorem gd {c : Prop} [Decidable c] {α : Type} {x : Option α} {r : α} (h : (if c then x else none) = some r) : c ∧ x = some r := by
 by_cases hc : c
 ·rw [if_pos hc] at h; exact ⟨hc, h⟩
 ·rw [if_neg hc] at h; cases h
theorem Zz {α : Type} {P : Program} {s s' : Sem α} {w : World} {r : Result α} (e : s' = s) (h : s.run P w = r) : s'.run P w = r := e ▸ h
section
variable {P : Program} {w : World}
theorem qa8 {k : IntKind} {x y : Int} (h : y ≠ 0) : (Sem.bind (Op.intDiv .quo k x y) fun v => Sem.pure (Next.value v)).run P w = .ok (.value (.int k (k.wrap (x.tdiv y)))) w := by
 simp only [Op.intDiv, if_neg h]; rfl
theorem qbh {k : IntKind} {x y : Int} (h : y ≠ 0) : (Sem.bind (Op.intDiv .rem k x y) fun v => Sem.pure (Next.value v)).run P w = .ok (.value (.int k (x.tmod y))) w := by
 simp only [Op.intDiv, if_neg h]; rfl
theorem Vb {α : Type} {x : Sem α} {f : α → Sem Next} {v : α} {r : Result Next} (h : x.run P w = .ok v w) (h' : (f v).run P w = r) : (Sem.bind x f).run P w = r := by
 show (x >>= f).run P w = r
 rw [Sem.run_bind, h]; exact h'
theorem JC {e sz : Nat} (h : (P.info? e).map (·.size) = some sz) : (sizeOf e).run P w = .ok sz w := by
 obtain ⟨i, hi, rfl⟩ := Option.map_eq_some_iff.1 h
 simp [sizeOf, typeInfo, hi]
theorem YS {t : TypeId} {b o len cap : Nat} {k : IntKind} {i : Int} {sz : Nat} (hu : P.underlying t = some (.slice (P.elem t))) (hs : (P.info? (P.elem t)).map (·.size) = some sz) (h : 0 ≤ i ∧ i < len) :
  (Sem.bind (Instr.indexAt t (.slice (some ⟨b, o, none⟩) len cap) (.int k i)) fun v => Sem.pure (Next.value v)).run P w = .ok (.value (.pointer (some ⟨b, o + i.toNat * sz, none⟩))) w := by
 refine Vb (v := .pointer (some ⟨b, o + i.toNat * sz, none⟩)) ?_ rfl
 rw [run_indexAt_slice w t ⟨b, o, none⟩ len cap k i hu, if_pos h, JC hs]
 simp only [Result.andThen_ok]
 rw [Addr.add_lit]
end
section
variable {P : Program} {ops : Array Oper} {B : Nat} {w0 : World} {n i : Nat} {o : Oper} {Spre : Nu → St}
theorem XO {R : List Nat} {u u' : Nu → List (Nat × KV)} (h : OpOK P ops B w0 n i o Spre R u) (e : ∀ ν, u ν = u' ν) : OpOK P ops B w0 n i o Spre R u' := by
 have : u = u' := funext e
 subst this; exact h
theorem We (v : Nu → Value) (d k : Nat) (off : Nu → Nat) (b : Nu → Nat) (cs : Nu → List Value) (e : TypeId) (hcell : ∀ ν, (cs ν)[off ν]? = some (v ν)) (hd : o.dst = some d := by rfl) (hdn : Nat.blt d n = true := by rfl) (hsel : YZ o = true := by rfl) (hg : o.guard = none := by rfl)
  (hb : ∀ ν, Spre ν k = .blk (b ν) (cs ν) e := by intro _; kernel_rfl)
  (hk : ∀ ν, (o.op.operands.all (XQ (Spre ν))) = true := by intro _; kernel_rfl)
  (hp : ∀ ν, (X6 o (Spre ν)).all id = true := by intro _; kernel_rfl)
  (hv : ∀ ν, Z2 P (execOp (Y4 (Spre ν)) o) [v ν] [] = some (.value (v ν), [⟨b ν, off ν, none⟩]) := by intro _; kernel_rfl) :
  OpOK P ops B w0 n i o Spre (k :: X5 ops o) (fun ν => [(d, .slot true (v ν))]) := by
 have hdn' : d < n := by simpa using hdn
 refine Zv (c := fun _ => true) (fun _ h => List.mem_cons_of_mem _ h) (Xy hsel) (fun ν => by unfold Y2; rw [hg]) hk ?_ ?_
 ·intro ν S a w hcf; cases hcf
 ·intro Q p S a w hpi hct hag hrep hev0
  have hev : ∀ ν, Y6 p ν → execOp a.eval o = execOp (Y4 (Spre ν)) o := fun ν hν => (hev0 ν hν).trans (Y5 (Xy hsel) (by simpa using hp ν))
  have hrun : ∀ ν, Y6 p ν → (execOp (Y4 (Spre ν)) o).run P w = .ok (.value (v ν)) w := fun ν hν => by
   obtain ⟨m', e, hl, hr⟩ := JN _ _ _ _ _ (hv ν)
   simp only [List.nil_append] at e
   subst e
   refine hr w fun j x u hx hu => ?_
   cases j with
   | succ j => simp at hx
   | zero =>
    simp only [List.getElem?_cons_zero, Option.some.injEq] at hx hu
    subst hx hu
    have hkS := hag ν hν k (by simp)
    have hh := (hrep ν hν).holds k
    rw [hkS, hb ν] at hh
    simp only [KV.holds] at hh
    simp [World.cell?, hh, hcell ν]
  unfold Oper.wp
  obtain ⟨ν0, h0⟩ := Y6.exists p
  rw [hev ν0 h0, hrun ν0 h0]
  simp only [Oper.upon]
  refine ⟨default, fun ν hν => ?_⟩
  have hν' := hν.of_set hpi
  have e : v ν0 = v ν := by
   have h1 := hrun ν0 h0
   rw [← hev ν0 h0, hev ν hν', hrun ν hν'] at h1
   injection h1 with h1 _; injection h1 with h1; exact h1.symm
  rw [Yh, hd, e]
  exact (hrep ν hν').put hdn' true (v ν)
end
end Go.Sx
set_option linter.unusedVariables false
namespace Go.Sx
open Go Go.RowKit
def qay (P : Program) (t : TypeId) (cs : Array Value) (off : Nat) : Option Value := (Z2 P (part t cs off) [] []).map (·.1)
def qb9 (P : Program) (E : TypeId → Value → Value → Option Bool) (xs ys : Array Value) : List Field → Option Bool
 | [] => some true
 | f :: fs =>
  if f.name ≠ "_" then
   match qay P f.type xs f.offset, qay P f.type ys f.offset with
   | some a, some b => match E f.type a b, qb9 P E xs ys fs with
    | some e, some r => some (e && r)
    | _, _ => none
   | _, _ => none
  else qb9 P E xs ys fs
def eqV (P : Program) : Nat → TypeId → Value → Value → Option Bool
 | 0, _, _, _ => none
 | d + 1, t, a, b =>
  match P.underlying t, a, b with
  | some (.int _), .int k a, .int k' b => if k = k' then some (a == b) else none
  | some .bool, .bool a, .bool b => some (a == b)
  | some (.struct fs), .agg xs, .agg ys => if P.stoodInHeld t then none else qb9 P (eqV P d) xs ys fs.toList
  | _, _, _ => none
theorem qaR {P : Program} {t : TypeId} {cs : Array Value} {off : Nat} {v : Value} (h : qay P t cs off = some v) (w : World) : (part t cs off).run P w = .ok v w := by
 unfold qay at h
 obtain ⟨⟨v', l⟩, hp, rfl⟩ := Option.map_eq_some_iff.1 h
 obtain ⟨m, e, hl, hr⟩ := JN _ _ _ _ _ hp
 exact hr w fun j x u hx hu => by simp at hu
theorem qaj {P : Program} {E : TypeId → Value → Value → Option Bool} {d : Nat} {xs ys : Array Value} (hE : ∀ t a b r, E t a b = some r → ∀ w : World, (Op.equalIn d t a b).run P w = .ok r w) :
  ∀ (fs : List Field) (r : Bool), qb9 P E xs ys fs = some r → ∀ w : World, (Op.eqFields d xs ys fs).run P w = .ok r w
 | [], r, h, w => by
  simp only [qb9, Option.some.injEq] at h; subst h; rfl
 | f :: fs, r, h, w => by
  rw [qb9] at h
  by_cases hn : f.name ≠ "_"
  ·rw [if_pos hn] at h
   cases ha : qay P f.type xs f.offset with
   | none => simp [ha] at h
   | some a =>
    cases hb : qay P f.type ys f.offset with
    | none => simp [ha, hb] at h
    | some b =>
     rw [ha, hb] at h
     simp only at h
     cases he : E f.type a b with
     | none => simp [he] at h
     | some e =>
      cases hr : qb9 P E xs ys fs with
      | none => simp [he, hr] at h
      | some r' =>
       rw [he, hr] at h
       simp only [Option.some.injEq] at h
       subst h
       rw [Op.eqFields, if_pos hn]
       simp only [Sem.run_bind, qaR ha, qaR hb, Result.andThen_ok, hE f.type a b e he, Sem.run_ite]
       cases e with
       | true => simp only [Bool.not_true, Bool.false_eq_true, if_false, Bool.true_and]; exact qaj hE fs r' hr w
       | false => rfl
  ·rw [if_neg hn] at h
   rw [Op.eqFields, if_neg hn]
   exact qaj hE fs r h w
theorem qcM {P : Program} : ∀ (d : Nat) (t : TypeId) (a b : Value) (r : Bool), eqV P d t a b = some r → ∀ w : World, (Op.equalIn d t a b).run P w = .ok r w := by
 intro d
 induction d with
 | zero => intro t a b r h; simp [eqV] at h
 | succ d ih =>
  intro t a b r h w
  unfold eqV at h
  cases hu : P.underlying t with
  | none => rw [hu] at h; cases h
  | some u =>
   rw [hu] at h
   cases u with
   | int k0 =>
    cases a with
    | int k a =>
     cases b with
     | int k' b =>
      simp only at h
      by_cases hk : k = k'
      ·subst hk
       rw [if_pos rfl] at h
       injection h with h; subst h
       exact run_equalIn_int w d t k k0 a b hu
      ·rw [if_neg hk] at h; cases h
     | _ => cases h
    | _ => cases h
   | bool =>
    cases a with
    | bool a =>
     cases b with
     | bool b =>
      simp only at h
      injection h with h; subst h
      exact run_equalIn_bool' w d t a b hu
     | _ => cases h
    | _ => cases h
   | struct fs =>
    cases a with
    | agg xs =>
     cases b with
     | agg ys =>
      simp only at h
      by_cases hst : P.stoodInHeld t = true
      ·rw [if_pos hst] at h; cases h
      ·rw [if_neg hst] at h
       have hf : P.fieldsOf t = fs := by simp [Program.fieldsOf, hu]
       rw [run_equalIn_struct w d t xs ys (by rw [hf]; exact hu) (by simpa using hst), hf]
       exact qaj ih fs.toList r h w
     | _ => cases h
    | _ => cases h
   | _ => cases h
theorem qbH {P : Program} {w : World} {t : TypeId} {x y : Operand} {xs ys : Array Value} {b : Bool} (hg : P.eqGuardType P.depth t = false) (h : eqV P 10000 t (.agg xs) (.agg ys) = some b) :
  (Sem.bind (Sem.bind (eqGuard .eql t x y (.agg xs) (.agg ys)) fun _ => binOp .eql t (.agg xs) (.agg ys)) fun v => Sem.pure (Next.value v)).run P w = .ok (.value (.bool b)) w := by
 refine Vb (v := .bool b) ?_ rfl
 show ((eqGuard .eql t x y (.agg xs) (.agg ys)) >>= fun _ => binOp .eql t (.agg xs) (.agg ys)).run P w = _
 rw [Sem.run_bind, run_eqGuard_agg w .eql t x y xs ys hg, Result.andThen_ok, run_eql_struct, qcM 10000 t _ _ b h]
 rfl
theorem Wv {P : Program} {w : World} {t : TypeId} {x y : Operand} {xs ys : Array Value} {b : Bool} (hg : P.eqGuardType P.depth t = false) (h : eqV P 10000 t (.agg xs) (.agg ys) = some b) :
  (Sem.bind (Sem.bind (eqGuard .neq t x y (.agg xs) (.agg ys)) fun _ => binOp .neq t (.agg xs) (.agg ys)) fun v => Sem.pure (Next.value v)).run P w = .ok (.value (.bool (!b))) w := by
 refine Vb (v := .bool (!b)) ?_ rfl
 show ((eqGuard .neq t x y (.agg xs) (.agg ys)) >>= fun _ => binOp .neq t (.agg xs) (.agg ys)).run P w = _
 rw [Sem.run_bind, run_eqGuard_agg w .neq t x y xs ys hg, Result.andThen_ok, run_neq_struct, qcM 10000 t _ _ b h]
 rfl
section
variable {P : Program} {ops : Array Oper} {B : Nat} {w0 : World} {n i : Nat} {o : Oper} {Spre : Nu → St}
theorem QB (d : Nat) (hd : o.dst = some d := by rfl) (hdn : Nat.blt d n = true := by rfl) (hsel : YZ o = true := by rfl)
  (hc : ∀ ν, Y2 ops o (Spre ν) = some false := by intro _; kernel_rfl) (hk : ∀ ν, (o.op.operands.all (XQ (Spre ν))) = true := by intro _; kernel_rfl) :
  OpOK P ops B w0 n i o Spre (X5 ops o) (fun ν => [(d, .slot false (.bool false))]) := by
 have hdn' : d < n := by simpa using hdn
 refine Zv (c := fun _ => false) (fun _ h => h) (Xy hsel) hc hk ?_ ?_
 ·intro ν S a w _ hr
  rw [Yh, hd]
  exact hr.put hdn' false (.bool false)
 ·intro Q p S a w hpi hct hag hrep hev
  obtain ⟨ν0, h0⟩ := Y6.exists p
  exact absurd (hct ν0 h0) (by simp)
end
end Go.Sx
set_option linter.unusedVariables false
namespace Go.Sx
open Go Go.RowKit
theorem Vo {k : IntKind} {xs : List Int} {j : Nat} {v : Int} (h : xs[j]? = some v) : (xs.map (Value.int k))[0 + j * 1]? = some (.int k v) := by
 rw [Nat.zero_add, Nat.mul_one, List.getElem?_map, h]; rfl
section
variable {P : Program} {ops : Array Oper} {B : Nat} {w0 : World} {n i : Nat} {o : Oper} {Spre : Nu → St}
theorem XF (v : Nu → Value) (d : Nat) (hd : o.dst = some d := by rfl) (hdn : Nat.blt d n = true := by rfl) (hsel : YZ o = true := by rfl) (hg : o.guard = none := by rfl)
  (hk : ∀ ν, (o.op.operands.all (XQ (Spre ν))) = true := by intro _; kernel_rfl)
  (hv : ∀ ν w, (execOp (ZU (Spre ν)) o).run P w = .ok (.value (v ν)) w := by intro _ _; kernel_rfl) :
  OpOK P ops B w0 n i o Spre (X5 ops o) (fun ν => [(d, .slot true (v ν))]) := by
 have hdn' : d < n := by simpa using hdn
 refine Zv (c := fun _ => true) (fun _ h => h) (Xy hsel) (fun ν => by unfold Y2; rw [hg]) hk ?_ ?_
 ·intro ν S a w hcf; cases hcf
 ·intro Q p S a w hpi hct hag hrep hev
  unfold Oper.wp
  obtain ⟨ν0, h0⟩ := Y6.exists p
  rw [hev ν0 h0, hv ν0 w]
  simp only [Oper.upon]
  refine ⟨default, fun ν hν => ?_⟩
  have hν' := hν.of_set hpi
  have e : v ν0 = v ν := by
   have h1 := hv ν0 w
   rw [← hev ν0 h0, hev ν hν', hv ν w] at h1
   injection h1 with h1 _; injection h1 with h1; exact h1.symm
  rw [Yh, hd, e]
  exact (hrep ν hν').put hdn' true (v ν)
end
end Go.Sx
namespace Go.Sx
open Go Go.RowKit
section
variable {P : Program} {ops : Array Oper} {B : Nat} {w0 : World} {n i : Nat} {o : Oper} {Spre : Nu → St}
theorem XX (v : Nu → Value) (d kG : Nat) (gk : KV) (b off m : Nat) (cs : List Value) (hcell : ∀ w, gk.holds w → ∃ e fz, w.heap[b]? = some (.cells cs.toArray e fz))
  (hG : ∀ ν, Spre ν kG = gk := by intro _; kernel_rfl) (hd : o.dst = some d := by rfl) (hdn : Nat.blt d n = true := by rfl) (hsel : YZ o = true := by rfl) (hg : o.guard = none := by rfl)
  (hk : ∀ ν, (o.op.operands.all (XQ (Spre ν))) = true := by intro _; kernel_rfl)
  (hp : ∀ ν, (X6 o (Spre ν)).all id = true := by intro _; kernel_rfl)
  (hv : ∀ ν, Z2 P (execOp (Y4 (Spre ν)) o) ((cs.drop off).take m) [] = some (.value (v ν), Y3 b off m) := by intro _; kernel_rfl) :
  OpOK P ops B w0 n i o Spre (kG :: X5 ops o) (fun ν => [(d, .slot true (v ν))]) := by
 have hdn' : d < n := by simpa using hdn
 refine Zv (c := fun _ => true) (fun _ h => List.mem_cons_of_mem _ h) (Xy hsel) (fun ν => by unfold Y2; rw [hg]) hk ?_ ?_
 ·intro ν S a w hcf; cases hcf
 ·intro Q p S a w hpi hct hag hrep hev0
  have hev : ∀ ν, Y6 p ν → execOp a.eval o = execOp (Y4 (Spre ν)) o := fun ν hν => (hev0 ν hν).trans (Y5 (Xy hsel) (by simpa using hp ν))
  have hrun : ∀ ν, Y6 p ν → (execOp (Y4 (Spre ν)) o).run P w = .ok (.value (v ν)) w := fun ν hν => by
   obtain ⟨m', e, hl, hr⟩ := JN _ _ _ _ _ (hv ν)
   simp only [List.nil_append] at e
   subst e
   refine hr w fun j x u hx hu => ?_
   obtain ⟨rfl, hj⟩ := Z1 _ _ _ _ _ hx
   have hc : cs[off + j]? = some u := by
    rw [List.getElem?_take_of_lt hj, List.getElem?_drop] at hu; exact hu
   have hh := (hrep ν hν).holds kG
   rw [hag ν hν kG (by simp), hG ν] at hh
   obtain ⟨e, fz, hw⟩ := hcell w hh
   simp [World.cell?, hw, hc]
  unfold Oper.wp
  obtain ⟨ν0, h0⟩ := Y6.exists p
  rw [hev ν0 h0, hrun ν0 h0]
  simp only [Oper.upon]
  refine ⟨default, fun ν hν => ?_⟩
  have hν' := hν.of_set hpi
  have e : v ν0 = v ν := by
   have h1 := hrun ν0 h0
   rw [← hev ν0 h0, hev ν hν', hrun ν hν'] at h1
   injection h1 with h1 _; injection h1 with h1; exact h1.symm
  rw [Yh, hd, e]
  exact (hrep ν hν').put hdn' true (v ν)
theorem WZ {f : FuncId} {fn : Func} {c : Code} {args : List Value} {w : World} {R : Ending → World → Prop} (n : Nat) (kG : Nat) (fp : Nat → Prop) (F : World → Prop) (hF : ∀ w', agree fp w w' → F w') (hin : ∀ i, fp i → i < w.heap.size)
  (hf : P.funcs[f]? = some fn) (hb : fn.body = some c) (hn : fn.ntmps = n) (hl : Nat.ble args.length n = true)
  (h : ∀ a, Yb w.heap.size w n (Z5 (Wy (Wc 0 args)) kG (.fact fp F)) a w → c.wp P (J1 (bodyPost P fn R .ret) [] (bodyPost P fn R .ret)) a w) : Calls P f args.toArray w R := by
 refine Q4 n hf hb hn hl fun a H => h a (H.ent kG (.fact fp F) (by intro c x h; cases h) hF hin (fun h => h.elim) ?_)
 intro k' j hne hx hj hj'
 rcases hx with hx | hx
 ·exact hx
 ·unfold Wy at hx
  rw [X8, ZF] at hx
  simp only [Nat.zero_le, if_true, Nat.sub_zero] at hx
  cases hv : args[k']? <;> rw [hv] at hx <;> exact hx
end
end Go.Sx
namespace Go.Sx
open Go Go.RowKit
section
variable {P : Program} {ops : Array Oper} {B : Nat} {w0 : World} {n i : Nat} {o : Oper} {Spre : Nu → St}
end
end Go.Sx
set_option linter.unusedVariables false
namespace Go.Sx
open Go Go.RowKit
def Xm (p : Option Addr) (i : Nat) : Prop := ∃ a, p = some a ∧ a.block = i
def Je (p : Option Addr) (n : Nat) (i : Nat) : Prop := 0 < n ∧ ∃ a, p = some a ∧ a.block = i
def Zu (w : World) (sz : Nat) (p : Option Addr) (n : Nat) (xs : List Value) : Prop :=
 xs.length = n * sz ∧ (n = 0 ∨ ∃ b off, p = some ⟨b, off, none⟩ ∧ ∀ j u, xs[j]? = some u → w.cell? ⟨b, off + j, none⟩ = some u)
abbrev Yo (e : TypeId) (sz : Nat) (p : Option Addr) (n cap : Nat) (xs : List Value) : KV := .own (Xm p) (fun w => w.ownsRow 0 e sz (.slice p n cap) n xs)
theorem Zu.agree {w w' : World} {sz n : Nat} {p : Option Addr} {xs : List Value} (h : Zu w sz p n xs) (ha : agree (Je p n) w w') : Zu w' sz p n xs := by
 refine ⟨h.1, ?_⟩
 rcases h.2 with h0 | ⟨b, off, rfl, hc⟩
 ·exact .inl h0
 ·rcases Nat.eq_zero_or_pos n with h0 | h0
  ·exact .inl h0
  ·refine .inr ⟨b, off, rfl, fun j u hu => ?_⟩
   rw [← hc j u hu]
   exact World.cell?_of_block (ha b ⟨h0, _, rfl, rfl⟩)
theorem Zu.inb {w : World} {sz n : Nat} {p : Option Addr} {xs : List Value} (h : Zu w sz p n xs) (hs : 0 < sz) (i : Nat) (hi : Je p n i) : i < w.heap.size := by
 obtain ⟨h0, a, rfl, rfl⟩ := hi
 rcases h.2 with h1 | ⟨b, off, e, hc⟩
 ·omega
 ·obtain rfl := Option.some.inj e
  have hl : 0 < xs.length := by rw [h.1]; exact Nat.mul_pos h0 hs
  exact World.block_lt_of_cell? w ⟨b, off + 0, none⟩ (hc 0 _ (List.getElem?_eq_getElem hl))
theorem qbM {w : World} {base sz n cap : Nat} {e : TypeId} {p : Option Addr} {xs : List Value} (h : w.ownsRow base e sz (.slice p n cap) n xs) : Zu w sz p n xs := by
 refine ⟨h.1, ?_⟩
 rcases h.2 with ⟨hv, h0⟩ | ⟨g, c, cur, hv, _, hg, hn, _, hs, ht⟩
 ·exact .inl h0
 ·injection hv with h1 _ _
  refine .inr ⟨g, 0, h1, fun j u hu => ?_⟩
  have hj : j < xs.length := (List.getElem?_eq_some_iff.1 hu).1
  rw [← ht, List.getElem?_take_of_lt (by rw [← h.1]; exact hj)] at hu
  simp only [World.cell?, hg, Nat.zero_add]
  simpa using hu
theorem ZD {w w' : World} {base sz n cap : Nat} {e : TypeId} {p : Option Addr} {xs : List Value} (h : w.ownsRow base e sz (.slice p n cap) n xs) (ha : agree (Xm p) w w') : w'.ownsRow base e sz (.slice p n cap) n xs := by
 refine ⟨h.1, ?_⟩
 rcases h.2 with h0 | ⟨g, c, cur, hv, hb, hg, rest⟩
 ·exact .inl h0
 ·have hv' := hv
  injection hv with h1 _ _
  exact .inr ⟨g, c, cur, hv', hb, (ha g ⟨_, h1, rfl⟩).trans hg, rest⟩
theorem ZY {w : World} {base sz n cap : Nat} {e : TypeId} {p : Option Addr} {xs : List Value} (h : w.ownsRow base e sz (.slice p n cap) n xs) (i : Nat) (hi : Xm p i) : base ≤ i ∧ i < w.heap.size := by
 obtain ⟨a, rfl, rfl⟩ := hi
 exact h.lt a.block rfl
def XB (p : Option Addr) : Nat := match p with | some a => a.block | none => 0
def XC (p : Option Addr) : Nat := match p with | some a => a.off | none => 0
theorem Zu.cell {w : World} {sz n : Nat} {p : Option Addr} {xs : List Value} (h : Zu w sz p n xs) {j : Nat} {u : Value} (hu : xs[j]? = some u) : w.cell? ⟨XB p, XC p + j, none⟩ = some u := by
 rcases h.2 with h1 | ⟨b, off, rfl, hc⟩
 ·have := (List.getElem?_eq_some_iff.1 hu).1
  rw [h.1, h1, Nat.zero_mul] at this
  omega
 ·exact hc j u hu
theorem qfz {P : Program} {w : World} {t : TypeId} {p : Option Addr} {n cap : Nat} {k : IntKind} {i : Int} {sz : Nat} {xs : List Value} (hu : P.underlying t = some (.slice (P.elem t))) (hs : (P.info? (P.elem t)).map (·.size) = some sz) (hr : Zu w sz p n xs) (h : 0 ≤ i ∧ i < n) :
  (Sem.bind (Instr.indexAt t (.slice p n cap) (.int k i)) fun v => Sem.pure (Next.value v)).run P w = .ok (.value (.pointer (some ⟨XB p, XC p + i.toNat * sz, none⟩))) w := by
 rcases hr.2 with h1 | ⟨b, off, rfl, hc⟩
 ·omega
 ·exact YS hu hs h
theorem qgh {P : Program} {w : World} {s : Sem Next} {vs : List Value} {v : Value} {b off m : Nat} (hp : Z2 P s vs [] = some (.value v, Y3 b off m)) (hc : ∀ j u, vs[j]? = some u → w.cell? ⟨b, off + j, none⟩ = some u) : s.run P w = .ok (.value v) w := by
 obtain ⟨m', e, hl, hr⟩ := JN _ _ _ _ _ hp
 simp only [List.nil_append] at e
 subst e
 refine hr w fun j x u hx hu => ?_
 obtain ⟨rfl, hj⟩ := Z1 _ _ _ _ _ hx
 exact hc j u hu
structure Y7 (fp : Nat → Prop) (w w' : World) : Prop where
 os : w'.os = w.os
 tape : w'.tape = w.tape
 output : w'.output = w.output
 size : w.heap.size ≤ w'.heap.size
 block : ∀ i, i < w.heap.size → ¬ fp i → w'.heap[i]? = w.heap[i]?
theorem Yb.but {B : Nat} {w0 : World} {n : Nat} {S : St} {a : Act} {w w' : World} {fp : Nat → Prop} (h : Yb B w0 n S a w) (hg : Y7 fp w w') (hfp : ∀ i, fp i → B ≤ i) (hd : ∀ k i, fp i → ¬ (S k).fp i) : Yb B w0 n S a w' where
 defers := h.defers
 size := h.size
 slots := h.slots
 below := h.below.trans ⟨hg.os, hg.tape, hg.output, hg.size, fun i hi => hg.block i (Nat.lt_of_lt_of_le hi h.base) (fun hf => by have := hfp i hf; omega)⟩
 base := Nat.le_trans h.base hg.size
 holds k := KV.holds_agree (h.holds k) fun i hi => hg.block i (h.inb k i hi) (fun hf => hd k i hf hi)
 inb k i hi := Nat.lt_of_lt_of_le (h.inb k i hi) hg.size
 ge := h.ge
 disj := h.disj
section
variable {P : Program} {ops : Array Oper} {B : Nat} {w0 : World} {n i : Nat} {o : Oper} {Spre : Nu → St}
theorem qcU (ks : List Nat) (v : Nu → Value) (c : Nu → Bool) (pat : List Bool) (d : Nat) (hv : ∀ ν w, c ν = true → (∀ k ∈ ks, (Spre ν k).holds w) → (execOp (Y4 (Spre ν)) o).run P w = .ok (.value (v ν)) w) (hd : o.dst = some d := by rfl) (hdn : Nat.blt d n = true := by rfl) (hsel : YZ o = true := by rfl)
  (hc : ∀ ν, Y2 ops o (Spre ν) = some (c ν) := by intro _; kernel_rfl) (hk : ∀ ν, (o.op.operands.all (XQ (Spre ν))) = true := by intro _; kernel_rfl)
  (hp : ∀ ν, X6 o (Spre ν) = pat.map (fun p => bif p then true else c ν) := by intro _; kernel_rfl) :
  OpOK P ops B w0 n i o Spre (ks ++ X5 ops o) (fun ν => [(d, .slot (c ν) (v ν))]) := by
 have hdn' : d < n := by simpa using hdn
 refine Zv (c := c) (fun _ h => List.mem_append_right _ h) (Xy hsel) hc hk ?_ ?_
 ·intro ν S a w hcf hr
  rw [Yh, hd]
  have := hr.put hdn' (c ν) (v ν)
  rw [hcf] at this ⊢
  simpa using this
 ·intro Q p S a w hpi hct hag hrep hev0
  have hev : ∀ ν, Y6 p ν → execOp a.eval o = execOp (Y4 (Spre ν)) o := fun ν hν => (hev0 ν hν).trans (Y5 (Xy hsel) (by rw [hp ν]; exact VV (hct ν hν)))
  have hF : ∀ ν, Y6 p ν → ∀ k ∈ ks, (Spre ν k).holds w := fun ν hν k hk' => by
   have := (hrep ν hν).holds k
   rw [hag ν hν k (List.mem_append_left _ hk')] at this
   exact this
  unfold Oper.wp
  obtain ⟨ν0, h0⟩ := Y6.exists p
  rw [hev ν0 h0, hv ν0 w (hct ν0 h0) (hF ν0 h0)]
  simp only [Oper.upon]
  refine ⟨default, fun ν hν => ?_⟩
  have hν' := hν.of_set hpi
  have e : v ν0 = v ν := by
   have h1 := hv ν0 w (hct ν0 h0) (hF ν0 h0)
   rw [← hev ν0 h0, hev ν hν', hv ν w (hct ν hν') (hF ν hν')] at h1
   injection h1 with h1 _; injection h1 with h1; exact h1.symm
  rw [Yh, hd, e]
  have := (hrep ν hν').put hdn' (c ν) (v ν)
  rw [hct ν hν'] at this ⊢
  simpa using this
theorem qfk (ks : List Nat) (e : TypeId) (sz : Nat) (n' : Nat) (xs' : List Value) (d k : Nat)
  (hv : ∀ ν w, (∀ k ∈ ks, (Spre ν k).holds w) → ∃ p cap w', (execOp (Y4 (Spre ν)) o).run P w = .ok (.value (.slice p n' cap)) w' ∧ w'.ownsRow 0 e sz (.slice p n' cap) n' xs' ∧ Y7 (Spre ν k).fp w w' ∧ ∀ j, Xm p j → w.heap.size ≤ j ∨ (Spre ν k).fp j)
  (hx : ∀ ν, (Spre ν k).fp = (fun _ => False) ∨ (Spre ν k).excl)
  (hd : o.dst = some d := by rfl) (hdn : Nat.blt d n = true := by rfl) (hkn : Nat.ble n k = true := by rfl) (hsel : YZ o = true := by rfl) (hg : o.guard = none := by rfl)
  (hk : ∀ ν, (o.op.operands.all (XQ (Spre ν))) = true := by intro _; kernel_rfl) (hp : ∀ ν, (X6 o (Spre ν)).all id = true := by intro _; kernel_rfl) :
  OpOK P ops B w0 n i o Spre (k :: ks ++ X5 ops o) (fun ν => [(d, .slot true (.slice ((ν i).o 0) n' ((ν i).n 0))), (k, Yo e sz ((ν i).o 0) n' ((ν i).n 0) xs')]) := by
 have hdn' : d < n := by simpa using hdn
 have hkn' : n ≤ k := by simpa using hkn
 refine Zv (c := fun _ => true) (fun _ h => List.mem_append_right _ h) (Xy hsel) (fun ν => by unfold Y2; rw [hg]) hk ?_ ?_
 ·intro ν S a w hcf; cases hcf
 ·intro Q p S a w hpi hct hag hrep hev0
  have hev : ∀ ν, Y6 p ν → execOp a.eval o = execOp (Y4 (Spre ν)) o := fun ν hν => (hev0 ν hν).trans (Y5 (Xy hsel) (by simpa using hp ν))
  have hF : ∀ ν, Y6 p ν → ∀ k ∈ ks, (Spre ν k).holds w := fun ν hν j hj => by
   have := (hrep ν hν).holds j
   rw [hag ν hν j (by simp [hj])] at this
   exact this
  unfold Oper.wp
  obtain ⟨ν0, h0⟩ := Y6.exists p
  obtain ⟨q, cap, w', hrun, hown, hbut, hnew⟩ := hv ν0 w (hF ν0 h0)
  rw [hev ν0 h0, hrun]
  simp only [Oper.upon]
  refine ⟨Gh.of (fun _ => cap) fun _ => q, fun ν hν => ?_⟩
  have hν' := hν.of_set hpi
  have e0 : (ν i).o 0 = q := by rw [hν.at_set]
  have e1 : (ν i).n 0 = cap := by rw [hν.at_set]
  rw [e0, e1, hd]
  obtain ⟨q', cap', w2, hrun2, hown2, hbut2, hnew2⟩ := hv ν w (hF ν hν')
  have heq : (.ok (.value (.slice q n' cap)) w' : Result Next) = .ok (.value (.slice q' n' cap')) w2 := by
   rw [← hrun, ← hrun2, ← hev ν0 h0, hev ν hν']
  injection heq with g1 g2
  injection g1 with g1
  injection g1 with g1 _ g3
  subst g1 g2 g3
  have hSk : S ν k = Spre ν k := hag ν hν' k (by simp)
  have hr := hrep ν hν'
  have hfB : ∀ j, (Spre ν k).fp j → B ≤ j := fun j hj => by
   rcases hx ν with hx | hx
   ·rw [hx] at hj; exact hj.elim
   ·exact hr.ge k j (by rw [hSk]; exact hx) (by rw [hSk]; exact hj)
  have hdis : ∀ k' j, k' ≠ k → (Spre ν k).fp j → ¬ (S ν k').fp j := fun k' j hne hj => by
   rcases hx ν with hx | hx
   ·rw [hx] at hj; exact hj.elim
   ·exact hr.disj k k' j (Ne.symm hne) (by rw [hSk]; exact hx) (by rw [hSk]; exact hj)
  have r1 : Yb B w0 n (Z5 (S ν) k .none) a w := hr.weak fun j => by
   by_cases ej : j = k
   ·subst ej; rw [QF]; exact .inl rfl
   ·rw [Q5 _ _ ej]; exact .inr rfl
  have r2 := r1.but hbut2 hfB (fun k' j hj hj' => by
   by_cases ej : k' = k
   ·subst ej; rw [QF] at hj'; exact hj'
   ·rw [Q5 _ _ ej] at hj'; exact hdis k' j ej hj hj')
  have r3 := r2.put hdn' true (.slice q n' cap)
  have r4 := r3.ent k (Yo e sz q n' cap xs') (by intro c x h; cases h) (fun w3 ha => ZD hown2 ha) (fun j hj => (ZY hown2 j hj).2)
   (fun _ j hj => by
    rcases hnew2 j hj with h | h
    ·exact Nat.le_trans hr.base h
    ·exact hfB j h)
   (fun k' j hne _ hj hj' => by
    by_cases ed : k' = d
    ·subst ed; rw [QF] at hj'; exact hj'
    ·rw [Q5 _ _ ed, Q5 _ _ hne] at hj'
     rcases hnew2 j hj with h | h
     ·have := hr.inb k' j hj'; omega
     ·exact hdis k' j hne h hj')
  refine r4.congr fun j => ?_
  show Z5 (Z5 (S ν) d _) k _ j = Z5 (Z5 (Z5 (S ν) k .none) d _) k _ j
  by_cases ej : j = k
  ·subst ej; rw [QF, QF]
  ·rw [Q5 _ _ ej, Q5 _ _ ej]
   by_cases ed : j = d
   ·subst ed; rw [QF, QF]
   ·rw [Q5 _ _ ed, Q5 _ _ ed, Q5 _ _ ej]
end
end Go.Sx
set_option linter.unusedVariables false
namespace Go.Sx
open Go Go.RowKit
theorem qbm {P : Program} {x : Sem Value} {v : Value} {w w' : World} (h : x.run P w = .ok v w') : (Sem.bind x fun v => Sem.pure (Next.value v)).run P w = .ok (.value v) w' := by
 show (x >>= fun v => Sem.pure (Next.value v)).run P w = _
 rw [Sem.run_bind, h]
 rfl
theorem qc6 {w w' : World} {v : Value} {fp : Nat → Prop} (h : w.grownBy w' v.ownBlock) (hf : ∀ i, v.ownBlock = some i → fp i) : Y7 fp w w' :=
 ⟨h.os, h.tape, h.output, h.size, fun i hi hn => h.block i hi fun e => hn (hf i e.symm)⟩
theorem Zb {P : Program} {w : World} {t ty e : TypeId} {i : TypeInfo} {z : Value} {sz bytes : Nat} (ht : P.underlying t = some (.slice e)) (hi : P.info? e = some i) (hz : i.zero = some z) (hsize : i.size = sz) (hby : i.bytes = bytes) (hzs : z.cells.size = sz) (hsz : 0 < sz)
  {p : Option Addr} {n cap : Nat} {xs : List Value} (hown : w.ownsRow 0 e sz (.slice p n cap) n xs) {a : Addr} {m c : Nat} {news : List Value} (hl : news.length = m * sz) (hm : 0 < m) (hnews : ∀ j u, news[j]? = some u → w.cell? (a.add j) = some u) (h1 : ∀ u ∈ news, u.oneCell' = true)
  (h63 : n + m ≤ 1000000000) (hbytes : bytes ≤ 100000) :
  ∃ p' cap' w', (Sem.bind (Builtin.append_ #[t, t] ty #[.slice p n cap, .slice (some a) m c]) fun v => Sem.pure (Next.value v)).run P w = .ok (.value (.slice p' (n + m) cap')) w' ∧ w'.ownsRow 0 e sz (.slice p' (n + m) cap') (n + m) (xs ++ news) ∧ Y7 (Xm p) w w' ∧ ∀ j, Xm p' j → w.heap.size ≤ j ∨ Xm p j := by
 have hmul : (n + m) * bytes ≤ 140737488355328 := by
  have := Nat.mul_le_mul h63 hbytes
  omega
 have hml : n + m ≤ maxLen := by simp only [maxLen]; omega
 obtain ⟨v', w', hr, ho, hg, _⟩ := run_append_own (P := P) w 0 t ty e i z sz bytes ht hi hz hsize hby hzs hsz (.slice p n cap) n xs hown a m c news hl hnews h1 hml hmul (Nat.zero_le _)
 have hbut : Y7 (Xm p) w w' := qc6 hg fun k hk => by
  cases p with
  | none => cases hk
  | some a => exact ⟨a, rfl, Option.some.inj hk⟩
 have hv : ∃ p' cap', v' = .slice p' (n + m) cap' ∧ ∀ j, Xm p' j → w.heap.size ≤ j ∨ Xm p j := by
  subst hsize hby
  rcases hown.2 with ⟨hv, h0⟩ | ⟨g, c', cur, hv, _, hgc, hnc, hcm, hcs, htk⟩
  ·injection hv with e1 e2 e3
   subst e1 e2 e3
   have hr2 := run_append_nil (P := P) w t ty e i z ht hi hz a m c news hl hnews hm (by omega) (by simp only [Nat.zero_add] at hmul; omega)
   have he : (.ok v' w' : Result Value) = _ := hr.symm.trans hr2
   injection he with he _
   subst he
   exact ⟨_, _, by rw [Nat.zero_add], fun j hj => by obtain ⟨_, e, rfl⟩ := hj; obtain rfl := Option.some.inj e; exact .inl (Nat.le_refl _)⟩
  ·injection hv with e1 _ e3
   subst e1 e3
   by_cases hroom : n + m ≤ cap
   ·have hfit : n * i.size + news.length ≤ cur.size := by rw [hl, hcs, ← Nat.add_mul]; exact Nat.mul_le_mul_right _ hroom
    have hr2 := run_append_room (P := P) w t ty e i ht hi g n cap cur hgc a m c news hl hnews h1 hroom hfit
    have he : (.ok v' w' : Result Value) = _ := hr.symm.trans hr2
    injection he with he _
    subst he
    exact ⟨_, _, rfl, fun j hj => .inr hj⟩
   ·have holds : ∀ j u, xs[j]? = some u → w.cell? ((⟨g, 0, none⟩ : Addr).add j) = some u := hown.cells (g := g) rfl
    have hr2 := run_append_grow (P := P) w t ty e i z ht hi hz ⟨g, 0, none⟩ n cap xs hown.1 holds a m c news hl hnews (by omega) (by omega) (growslice_fits (by omega) hmul)
    have he : (.ok v' w' : Result Value) = _ := hr.symm.trans hr2
    injection he with he _
    subst he
    exact ⟨_, _, rfl, fun j hj => by obtain ⟨_, e, rfl⟩ := hj; obtain rfl := Option.some.inj e; exact .inl (Nat.le_refl _)⟩
 obtain ⟨p', cap', rfl, hp⟩ := hv
 exact ⟨p', cap', w', qbm hr, ho, hbut, hp⟩
theorem qdr {P : Program} {w : World} {t e : TypeId} {i : TypeInfo} {z : Value} {sz bytes : Nat} {kl kc : IntKind} {n : Nat} (ht : P.underlying t = some (.slice e)) (hi : P.info? e = some i) (hz : i.zero = some z) (hsize : i.size = sz) (hby : i.bytes = bytes)
  (hcells : n * sz ≤ 16777216) (hbytes : bytes * n ≤ 281474976710656) (h63 : n ≤ 1000000000) (fp : Nat → Prop) :
  ∃ p' cap' w', (Sem.bind (Instr.makeSlice t (.int kl (n : Int)) (.int kc (n : Int))) fun v => Sem.pure (Next.value v)).run P w = .ok (.value (.slice p' n cap')) w' ∧ w'.ownsRow 0 e sz (.slice p' n cap') n (madeCells z.cells (n * sz)).toList ∧ Y7 fp w w' ∧ ∀ j, Xm p' j → w.heap.size ≤ j ∨ fp j := by
 obtain ⟨w', hr, ho, hg⟩ := run_makeSlice_full (P := P) (w := w) 0 t e i z sz ht hi hz hsize kl kc n hcells (by rw [hby]; exact hbytes) (by simp only [maxLen]; omega) (Nat.zero_le _)
 refine ⟨_, _, w', qbm hr, ho, ⟨hg.os, hg.tape, hg.output, hg.size, fun k hk _ => hg.block k hk (by simp)⟩, fun j hj => ?_⟩
 obtain ⟨_, e, rfl⟩ := hj
 obtain rfl := Option.some.inj e
 exact .inl (Nat.le_refl _)
theorem W3 (vs : List Value) : ∀ (cs : List Value) (off : Nat), (lay cs off vs).length = cs.length := by
 induction vs with
 | nil => intro cs off; rfl
 | cons v vs ih => intro cs off; rw [lay, ih, List.length_set]
theorem qd9 (vs : List Value) : ∀ (cs : List Value) (off m : Nat), off + vs.length ≤ m → (lay cs off vs).take m = lay (cs.take m) off vs := by
 induction vs with
 | nil => intro cs off m _; rfl
 | cons v vs ih =>
  intro cs off m h
  simp only [List.length_cons] at h
  rw [lay, lay, ih _ _ _ (by omega), List.take_set]
theorem qeO {P : Program} {w : World} {e : TypeId} {sz n cap : Nat} {p : Option Addr} {xs vs : List Value} {off : Nat} {s : Sem Next} (hown : w.ownsRow 0 e sz (.slice p n cap) n xs) (hoff : off + vs.length ≤ n * sz) (hvs : 0 < vs.length)
  (hp : VF P s [] = some (.skip, (Y3 (XB p) (XC p + off) vs.length).zip vs)) :
  ∃ w', s.run P w = .ok .skip w' ∧ w'.ownsRow 0 e sz (.slice p n cap) n (lay xs off vs) ∧ Y7 (Xm p) w w' := by
 rcases hown.2 with ⟨hv, h0⟩ | ⟨g, c', cur, hv, hb, hgc, hnc, hcm, hcs, htk⟩
 ·rw [h0, Nat.zero_mul] at hoff
  omega
 ·injection hv with e1 _ e3
  subst e1 e3
  simp only [XB, XC, Nat.zero_add] at hp
  obtain ⟨m', em, hr⟩ := qbT (b := g) (e := e) _ _ _ _ hp
  simp only [List.nil_append] at em
  subst em
  have hle : n * sz ≤ cur.size := by rw [hcs]; exact Nat.mul_le_mul_right _ hnc
  have hrun := hr w cur hgc fun x hx => by
   obtain ⟨j, hj⟩ := List.mem_iff_getElem?.1 hx
   rw [List.getElem?_zip_eq_some] at hj
   obtain ⟨hx1, hlt⟩ := Z1 _ _ _ _ _ hj.1
   rw [hx1]
   exact ⟨rfl, rfl, by simp only; omega⟩
  have hgc' : w.heap[g]? = some (.cells cur.toList.toArray e (0, 0)) := by simpa using hgc
  obtain ⟨i1, i2, i3, i4⟩ := JY (b := g) (e := e) vs w cur.toList off hgc'
  refine ⟨_, hrun, ⟨by rw [W3]; exact hown.1, .inr ⟨g, cap, _, rfl, Nat.zero_le _, i1, hnc, hcm, by rw [List.size_toArray, W3]; simpa using hcs, ?_⟩⟩, ?_⟩
  ·rw [← htk]
   exact qd9 vs _ _ _ hoff
  ·refine ⟨i2.os, i2.tape, i2.output, i2.size, fun j hj hn => i3 j fun e => hn ⟨⟨g, 0, none⟩, rfl, e.symm⟩⟩
theorem Yb.blk_row {B : Nat} {w0 : World} {n : Nat} {S : St} {a : Act} {w : World} (h : Yb B w0 n S a w) (k b : Nat) (cs : List Value) (e : TypeId) (sz m : Nat) (hk : S k = .blk b cs e) (hl : cs.length = m * sz) (hm : m ≤ 1000000000) : Yb B w0 n (Z5 S k (Yo e sz (some ⟨b, 0, none⟩) m m cs)) a w := by
 have hh := h.holds k
 rw [hk] at hh
 have hrow : w.ownsRow 0 e sz (.slice (some ⟨b, 0, none⟩) m m) m cs := ⟨hl, .inr ⟨b, m, cs.toArray, rfl, Nat.zero_le _, hh, Nat.le_refl _, by simp only [maxLen]; omega, by simpa using hl, by simp [← hl]⟩⟩
 refine h.ent k _ (by intro c x h; cases h) (fun w3 ha => ZD hrow ha) (fun j hj => (ZY hrow j hj).2) ?_ ?_
 ·rintro _ j ⟨a', e', rfl⟩
  obtain rfl := Option.some.inj e'
  exact h.ge k b (by rw [hk]; trivial) (by rw [hk]; rfl)
 ·rintro k' j hne _ ⟨a', e', rfl⟩
  obtain rfl := Option.some.inj e'
  exact h.disj k k' b (Ne.symm hne) (by rw [hk]; trivial) (by rw [hk]; rfl)
theorem Yb.nil_row {B : Nat} {w0 : World} {n : Nat} {S : St} {a : Act} {w : World} (h : Yb B w0 n S a w) (k : Nat) (e : TypeId) (sz : Nat) : Yb B w0 n (Z5 S k (Yo e sz none 0 0 [])) a w := by
 refine h.ent k _ (by intro c x h; cases h) (fun w3 ha => World.ownsRow_nil _ _ _ _) (fun j hj => ?_) (fun _ j hj => ?_) (fun k' j hne _ hj => ?_)
 all_goals obtain ⟨_, e', _⟩ := hj; cases e'
section
variable {P : Program} {ops : Array Oper} {B : Nat} {w0 : World} {n i : Nat} {o : Oper} {Spre : Nu → St}
end
theorem Yb.facts {B : Nat} {w0 : World} {n : Nat} {a : Act} {w : World} : ∀ (fs : List (Nat × KV)) (S : St), Yb B w0 n S a w → (∀ k, ¬ (S k).excl) → (∀ x ∈ fs, (∃ fp F, x.2 = .fact fp F) ∧ x.2.holds w ∧ ∀ i, x.2.fp i → i < w.heap.size) → Yb B w0 n (XE S fs) a w
 | [], S, h, _, _ => h
 | (k, v) :: r, S, h, hx, hf => by
  obtain ⟨⟨fp, F, hv⟩, hh, hi⟩ := hf (k, v) (by simp)
  simp only at hv hh hi
  have hex : ¬ v.excl := by rw [hv]; exact fun h => h
  refine Yb.facts r _ (h.ent k v (by intro c x h; rw [hv] at h; cases h) hh hi (fun h => (hex h).elim) (fun k' j _ ho => ?_)) ?_ (fun x hx' => hf x (List.mem_cons_of_mem _ hx'))
  ·rcases ho with ho | ho
   ·exact (hex ho).elim
   ·exact (hx k' ho).elim
  ·intro j
   by_cases e : j = k
   ·subst e; rw [QF]; exact hex
   ·rw [Q5 _ _ e]; exact hx j
theorem QQ {P : Program} {f : FuncId} {fn : Func} {c : Code} {args : List Value} {w : World} {R : Ending → World → Prop} (n : Nat) (fs : List (Nat × KV)) (hfs : ∀ x ∈ fs, (∃ fp F, x.2 = .fact fp F) ∧ x.2.holds w ∧ ∀ i, x.2.fp i → i < w.heap.size)
  (hf : P.funcs[f]? = some fn) (hb : fn.body = some c) (hn : fn.ntmps = n) (hl : Nat.ble args.length n = true)
  (h : ∀ a, Yb w.heap.size w n (XE (Wy (Wc 0 args)) fs) a w → c.wp P (J1 (bodyPost P fn R .ret) [] (bodyPost P fn R .ret)) a w) : Calls P f args.toArray w R := by
 refine Q4 n hf hb hn hl fun a H => h a (Yb.facts fs _ H (fun k hx => ?_) hfs)
 unfold Wy at hx
 rw [X8, ZF] at hx
 simp only [Nat.zero_le, if_true, Nat.sub_zero] at hx
 cases hv : args[k]? <;> rw [hv] at hx <;> exact hx
theorem QN {w : World} {e : TypeId} {sz n cap : Nat} {p : Option Addr} {xs : List Value} (h : (Yo e sz p n cap xs).holds w) : w.ownsRow 0 e sz (.slice p n cap) n xs := h w (agree.refl _ _)
end Go.Sx
set_option linter.unusedVariables false
namespace Go.Sx
open Go Go.RowKit
def Yj : List KV → World → Prop
 | [], _ => True
 | K :: r, w => K.holds w ∧ Yj r w
theorem Vn {S : St} {w : World} : ∀ (ks : List Nat) (Ks : List KV), ks.map S = Ks → (∀ k ∈ ks, (S k).holds w) → Yj Ks w
 | [], Ks, h, _ => by
  cases Ks with
  | nil => trivial
  | cons _ _ => cases h
 | k :: ks, Ks, h, hf => by
  cases Ks with
  | nil => cases h
  | cons K r =>
   simp only [List.map_cons, List.cons.injEq] at h
   exact ⟨h.1 ▸ hf k (by simp), Vn ks r h.2 fun j hj => hf j (List.mem_cons_of_mem _ hj)⟩
section
variable {P : Program} {ops : Array Oper} {B : Nat} {w0 : World} {n i : Nat} {o : Oper} {Spre : Nu → St}
theorem JV (ks : List Nat) (Ks : Nu → List KV) (v : Nu → Value) (c : Nu → Bool) (pat : List Bool) (d : Nat) (hv : ∀ ν w, c ν = true → Yj (Ks ν) w → (execOp (Y4 (Spre ν)) o).run P w = .ok (.value (v ν)) w)
  (hK : ∀ ν, ks.map (Spre ν) = Ks ν := by intro _; kernel_rfl) (hd : o.dst = some d := by rfl) (hdn : Nat.blt d n = true := by rfl) (hsel : YZ o = true := by rfl)
  (hc : ∀ ν, Y2 ops o (Spre ν) = some (c ν) := by intro _; kernel_rfl) (hk : ∀ ν, (o.op.operands.all (XQ (Spre ν))) = true := by intro _; kernel_rfl)
  (hp : ∀ ν, X6 o (Spre ν) = pat.map (fun p => bif p then true else c ν) := by intro _; kernel_rfl) :
  OpOK P ops B w0 n i o Spre (ks ++ X5 ops o) (fun ν => [(d, .slot (c ν) (v ν))]) :=
 qcU ks v c pat d (fun ν w h1 h2 => hv ν w h1 (Vn ks _ (hK ν) h2)) hd hdn hsel hc hk hp
theorem Zl (ks : List Nat) (Ks : Nu → List KV) (e : TypeId) (sz : Nat) (n' : Nat) (xs' : List Value) (d k : Nat) (Kold : Nu → KV)
  (hv : ∀ ν w, Yj (Ks ν) w → ∃ p cap w', (execOp (Y4 (Spre ν)) o).run P w = .ok (.value (.slice p n' cap)) w' ∧ w'.ownsRow 0 e sz (.slice p n' cap) n' xs' ∧ Y7 (Kold ν).fp w w' ∧ ∀ j, Xm p j → w.heap.size ≤ j ∨ (Kold ν).fp j)
  (hx : ∀ ν, (Kold ν).fp = (fun _ => False) ∨ (Kold ν).excl)
  (hold : ∀ ν, Spre ν k = Kold ν := by intro _; kernel_rfl)
  (hK : ∀ ν, ks.map (Spre ν) = Ks ν := by intro _; kernel_rfl)
  (hd : o.dst = some d := by rfl) (hdn : Nat.blt d n = true := by rfl) (hkn : Nat.ble n k = true := by rfl) (hsel : YZ o = true := by rfl) (hg : o.guard = none := by rfl)
  (hk : ∀ ν, (o.op.operands.all (XQ (Spre ν))) = true := by intro _; kernel_rfl) (hp : ∀ ν, (X6 o (Spre ν)).all id = true := by intro _; kernel_rfl) :
  OpOK P ops B w0 n i o Spre (k :: ks ++ X5 ops o) (fun ν => [(d, .slot true (.slice ((ν i).o 0) n' ((ν i).n 0))), (k, Yo e sz ((ν i).o 0) n' ((ν i).n 0) xs')]) :=
 qfk ks e sz n' xs' d k (fun ν w h2 => by rw [hold ν]; exact hv ν w (Vn ks _ (hK ν) h2)) (fun ν => by rw [hold ν]; exact hx ν) hd hdn hkn hsel hg hk hp
theorem Xi (ks : List Nat) (Ks : Nu → List KV) (f : FuncId) (args : Nu → Array Value) (v : Value) (d : Nat)
  (hC : ∀ ν w, Yj (Ks ν) w → Calls P f (args ν) w fun e w' => e = .returned v ∧ Below w.heap.size w w')
  (hK : ∀ ν, ks.map (Spre ν) = Ks ν := by intro _; kernel_rfl)
  (hd : o.dst = some d := by rfl) (hdn : Nat.blt d n = true := by rfl) (hsel : YZ o = true := by rfl) (hg : o.guard = none := by rfl)
  (hk : ∀ ν, (o.op.operands.all (XQ (Spre ν))) = true := by intro _; kernel_rfl)
  (hp : ∀ ν, (X6 o (Spre ν)).all id = true := by intro _; kernel_rfl)
  (hv : ∀ ν w, (execOp (Y4 (Spre ν)) o).run P w = .ok (.enter f (args ν)) w := by intro _ _; kernel_rfl) :
  OpOK P ops B w0 n i o Spre (ks ++ X5 ops o) (fun ν => [(d, .slot true v)]) :=
 qo f args v d ks (fun ν w h => hC ν w (Vn ks _ (hK ν) h)) hd hdn hsel hg hk hp hv
theorem Vy (ks : List Nat) (Ks : Nu → List KV) (f : FuncId) (args : Nu → Array Value) (v : Value) (c : Nu → Bool) (pat : List Bool) (d : Nat)
  (hC : ∀ ν w, c ν = true → Yj (Ks ν) w → Calls P f (args ν) w fun e w' => e = .returned v ∧ Below w.heap.size w w')
  (hK : ∀ ν, ks.map (Spre ν) = Ks ν := by intro _; kernel_rfl)
  (hd : o.dst = some d := by rfl) (hdn : Nat.blt d n = true := by rfl) (hsel : YZ o = true := by rfl)
  (hc : ∀ ν, Y2 ops o (Spre ν) = some (c ν) := by intro _; kernel_rfl) (hk : ∀ ν, (o.op.operands.all (XQ (Spre ν))) = true := by intro _; kernel_rfl)
  (hp : ∀ ν, X6 o (Spre ν) = pat.map (fun p => bif p then true else c ν) := by intro _; kernel_rfl)
  (hv : ∀ ν w, (execOp (Y4 (Spre ν)) o).run P w = .ok (.enter f (args ν)) w := by intro _ _; kernel_rfl) :
  OpOK P ops B w0 n i o Spre (ks ++ X5 ops o) (fun ν => [(d, .slot (c ν) v)]) :=
 Zi f args v c pat d ks (fun ν w hc' h => hC ν w hc' (Vn ks _ (hK ν) h)) hd hdn hsel hc hk hp hv
end
theorem ZK {T : Type} {en : T → List Value} {sz : Nat} (hen : ∀ x, (en x).length = sz) : ∀ l : List T, (l.flatMap en).length = l.length * sz
 | [] => by simp
 | x :: l => by rw [List.flatMap_cons, List.length_append, hen, ZK hen l, List.length_cons, Nat.add_mul]; omega
theorem W8 {T : Type} {en : T → List Value} {sz : Nat} (hen : ∀ x, (en x).length = sz) : ∀ (l : List T) (i : Nat) (x : T), l[i]? = some x → ∀ (j : Nat) (u : Value), (en x)[j]? = some u → (l.flatMap en)[i * sz + j]? = some u
 | [], i, x, h, _, _, _ => by simp at h
 | y :: l, 0, x, h, j, u, hu => by
  obtain rfl : y = x := by simpa using h
  have hj := (List.getElem?_eq_some_iff.1 hu).1
  rw [List.flatMap_cons, Nat.zero_mul, Nat.zero_add, List.getElem?_append_left hj]
  exact hu
 | y :: l, i + 1, x, h, j, u, hu => by
  have := W8 hen l i x (by simpa using h) j u hu
  rw [List.flatMap_cons, List.getElem?_append_right (by rw [hen, Nat.add_mul]; omega), hen]
  rw [← this]
  congr 1
  rw [Nat.add_mul]; omega
theorem qbj (vs : List Value) : ∀ (cs : List Value) (off : Nat), off + vs.length ≤ cs.length → lay cs off vs = cs.take off ++ vs ++ cs.drop (off + vs.length) := by
 induction vs with
 | nil => intro cs off h; simp [lay]
 | cons v vs ih =>
  intro cs off h
  simp only [List.length_cons] at h
  rw [lay, ih _ _ (by simpa using by omega)]
  have h1 : off < cs.length := by omega
  rw [List.take_set, List.drop_set]
  apply List.ext_getElem?
  intro m
  simp only [List.length_cons]
  grind
theorem qbA {T : Type} {en : T → List Value} {sz : Nat} (hen : ∀ x, (en x).length = sz) : ∀ (l : List T) (i : Nat) (x y : T) (f : Nat) (vs : List Value), l[i]? = some x → f + vs.length ≤ sz → en y = lay (en x) f vs → lay (l.flatMap en) (i * sz + f) vs = (l.set i y).flatMap en
 | [], i, x, y, f, vs, h, _, _ => by simp at h
 | z :: l, 0, x, y, f, vs, h, hf, he => by
  obtain rfl : z = x := by simpa using h
  rw [List.set_cons_zero, List.flatMap_cons, List.flatMap_cons, he, Nat.zero_mul, Nat.zero_add]
  rw [qbj _ _ _ (by rw [List.length_append, hen]; omega), qbj _ _ _ (by rw [hen]; exact hf)]
  rw [List.take_append_of_le_length (by rw [hen]; omega), List.drop_append_of_le_length (by rw [hen]; omega)]
  simp [List.append_assoc]
 | z :: l, i + 1, x, y, f, vs, h, hf, he => by
  have ih := qbA hen l i x y f vs (by simpa using h) hf he
  have hi : i < l.length := (List.getElem?_eq_some_iff.1 (by simpa using h : l[i]? = some x)).1
  have hle : i * sz + f + vs.length ≤ (l.flatMap en).length := by
   rw [ZK hen]
   have : (i + 1) * sz ≤ l.length * sz := Nat.mul_le_mul_right _ hi
   rw [Nat.add_mul] at this
   omega
  rw [List.set_cons_succ, List.flatMap_cons, List.flatMap_cons, ← ih]
  rw [qbj _ _ _ hle, qbj _ _ _ (by rw [List.length_append, hen, Nat.add_mul]; omega)]
  have e1 : (i + 1) * sz + f = (en z).length + (i * sz + f) := by rw [hen, Nat.add_mul]; omega
  have e2 : (i + 1) * sz + f + vs.length = (en z).length + (i * sz + f + vs.length) := by rw [hen, Nat.add_mul]; omega
  rw [e2, e1, List.take_length_add_append, List.drop_length_add_append]
  simp [List.append_assoc]
theorem qd7 {T : Type} {w : World} {en : T → List Value} {sz : Nat} {p : Option Addr} {l : List T} (R : Zu w sz p l.length (l.flatMap en)) (hen : ∀ x, (en x).length = sz) {i : Nat} {x : T} (hx : l[i]? = some x) (f m : Nat) {vs : List Value} (hvs : ((en x).drop f).take m = vs) :
  ∀ j u, vs[j]? = some u → w.cell? ⟨XB p, XC p + i * sz + f + j, none⟩ = some u := by
 intro j u hu
 have hj : j < m := by
  have := (List.getElem?_eq_some_iff.1 hu).1
  rw [← hvs, List.length_take] at this
  omega
 rw [← hvs, List.getElem?_take_of_lt hj, List.getElem?_drop] at hu
 have := R.cell (W8 hen l i x hx (f + j) u hu)
 rw [← this]
 congr 2
 omega
end Go.Sx
set_option linter.unusedVariables false
namespace Go.Sx
open Go Go.RowKit
def Inf (P : Program) (e : TypeId) (sz bytes : Nat) (zc : List Value) : Prop :=
 (P.info? e).map (fun i => (i.zero.map (·.cells.toList), i.size, i.bytes)) = some (some zc, sz, bytes)
theorem Inf.parts {P : Program} {e : TypeId} {sz bytes : Nat} {zc : List Value} (h : Inf P e sz bytes zc) : ∃ i z, P.info? e = some i ∧ i.zero = some z ∧ i.size = sz ∧ i.bytes = bytes ∧ z.cells.toList = zc := by
 unfold Inf at h
 obtain ⟨i, hi, h⟩ := Option.map_eq_some_iff.1 h
 simp only [Prod.mk.injEq] at h
 obtain ⟨hz, h1, h2⟩ := h
 obtain ⟨z, hz1, hz2⟩ := Option.map_eq_some_iff.1 hz
 exact ⟨i, z, hi, hz1, h1, h2, hz2⟩
theorem qby {T : Type} {P : Program} {w : World} {t ty e eb : TypeId} {sz bytes b : Nat} {zc cs : List Value} {en : T → List Value} {l : List T} {p : Option Addr} {cap : Nat} {s : Sem Next} (hen : ∀ x, (en x).length = sz) (I : Inf P e sz bytes zc)
  (hown : w.ownsRow 0 e sz (.slice p l.length cap) l.length (l.flatMap en)) (hblk : (KV.blk b cs eb).holds w) {news : List T} (hcs : cs = news.flatMap en) (hm : 0 < news.length ∧ news.length < 1000)
  (hs : s = Sem.bind (Builtin.append_ #[t, t] ty #[.slice p l.length cap, .slice (some ⟨b, 0, none⟩) news.length news.length]) fun v => Sem.pure (Next.value v)) (hl : l.length < 1000000)
  (ht : P.underlying t = some (.slice e) := by kernel_rfl) (h1 : cs.all (·.oneCell') = true := by kernel_rfl) (hsz : 0 < sz := by decide) (hby : bytes ≤ 100000 := by decide) (hz : zc.length = sz := by rfl) :
  ∃ p' cap' w', s.run P w = .ok (.value (.slice p' (l ++ news).length cap')) w' ∧ w'.ownsRow 0 e sz (.slice p' (l ++ news).length cap') (l ++ news).length ((l ++ news).flatMap en) ∧ Y7 (Xm p) w w' ∧ ∀ j, Xm p' j → w.heap.size ≤ j ∨ Xm p j := by
 obtain ⟨i, z, hi, hz0, hi1, hi2, hz2⟩ := I.parts
 subst hs
 have hb : w.heap[b]? = some (.cells cs.toArray eb (0, 0)) := hblk
 rw [List.length_append, List.flatMap_append]
 refine Zb ht hi hz0 hi1 hi2 (by rw [← hz, ← hz2]; simp) hsz hown (a := ⟨b, 0, none⟩) (news := news.flatMap en) (ZK hen news) hm.1 (fun j u hu => ?_) (fun u hu => ?_) (by omega) hby
 ·rw [← hcs] at hu
  rw [Addr.add_lit]
  simp [World.cell?, hb, hu]
 ·rw [← hcs] at hu
  exact List.all_eq_true.1 h1 u hu
theorem J6 {T : Type} {en : T → List Value} {sz : Nat} (hen : ∀ x, (en x).length = sz) (z : T) (zc : Array Value) (hz : zc.toList = en z) (hs : 0 < sz) (n : Nat) : (madeCells zc (n * sz)).toList = (List.replicate n z).flatMap en := by
 have hzs : zc.size = sz := by rw [← hen z, ← hz, Array.length_toList]
 apply List.ext_getElem?
 intro j
 by_cases hj : j < n * sz
 ·have h1 : j / sz < n := Nat.div_lt_of_lt_mul (by rw [Nat.mul_comm]; exact hj)
  have h2 : j % sz < sz := Nat.mod_lt _ hs
  have h3 : j / sz * sz + j % sz = j := by rw [Nat.mul_comm]; exact Nat.div_add_mod j sz
  have h4 : (en z)[j % sz]? = some zc[j % zc.size]! := by
   rw [← hz, hzs, Array.getElem?_toList]
   rw [getElem!_pos zc (j % sz) (by omega)]
   exact Array.getElem?_eq_getElem (by omega)
  have h5 := W8 hen (List.replicate n z) (j / sz) z (by rw [List.getElem?_replicate, if_pos h1]) (j % sz) _ h4
  rw [h3] at h5
  rw [h5]
  simp [madeCells, hj]
 ·rw [List.getElem?_eq_none (by simp [madeCells]; omega), List.getElem?_eq_none (by rw [ZK hen, List.length_replicate]; omega)]
theorem YG {T : Type} {P : Program} {w : World} {t e : TypeId} {sz bytes : Nat} {zc : List Value} {en : T → List Value} {z : T} {k : IntKind} {m : Int} {s : Sem Next} (hen : ∀ x, (en x).length = sz) (I : Inf P e sz bytes zc) (hz : zc = en z) (hm : 0 ≤ m ∧ m < 1000000)
  (hs : s = Sem.bind (Instr.makeSlice t (.int k m) (.int k m)) fun v => Sem.pure (Next.value v)) (ht : P.underlying t = some (.slice e) := by kernel_rfl) (hsz : 0 < sz := by decide) (hsz2 : sz ≤ 16 := by decide) (hby : bytes ≤ 100000 := by decide) :
  ∃ p' cap' w', s.run P w = .ok (.value (.slice p' (List.replicate m.toNat z).length cap')) w' ∧ w'.ownsRow 0 e sz (.slice p' (List.replicate m.toNat z).length cap') (List.replicate m.toNat z).length ((List.replicate m.toNat z).flatMap en) ∧ Y7 (fun _ => False) w w' ∧ ∀ j, Xm p' j → w.heap.size ≤ j ∨ False := by
 obtain ⟨i, zv, hi, hz0, hi1, hi2, hz2⟩ := I.parts
 subst hs
 obtain ⟨c, rfl⟩ : ∃ c : Nat, m = (c : Int) := ⟨m.toNat, by omega⟩
 rw [List.length_replicate, Int.toNat_natCast]
 have hc : c < 1000000 := by omega
 have hcs : c * sz ≤ 16777216 := by
  have := Nat.mul_le_mul (Nat.le_of_lt hc) hsz2
  omega
 have hcb : bytes * c ≤ 281474976710656 := by
  have := Nat.mul_le_mul hby (Nat.le_of_lt hc)
  omega
 rw [← J6 hen z zv.cells (by rw [hz2, hz]) hsz]
 exact qdr ht hi hz0 hi1 hi2 hcs hcb (by omega) _
theorem qd5 {T : Type} {P : Program} {w : World} {e : TypeId} {sz : Nat} {en : T → List Value} {l : List T} {p : Option Addr} {cap : Nat} {s : Sem Next} {i : Nat} {x y : T} {vs : List Value} (hown : w.ownsRow 0 e sz (.slice p l.length cap) l.length (l.flatMap en)) (hen : ∀ x, (en x).length = sz)
  (hx : l[i]? = some x) (f : Nat) (h0 : 0 < vs.length) (hf : f + vs.length ≤ sz) (he : en y = lay (en x) f vs)
  (hp : VF P s [] = some (.skip, (Y3 (XB p) (XC p + (i * sz + f)) vs.length).zip vs)) :
  ∃ w', s.run P w = .ok .skip w' ∧ w'.ownsRow 0 e sz (.slice p l.length cap) l.length ((l.set i y).flatMap en) ∧ Y7 (Xm p) w w' := by
 have hi : i < l.length := (List.getElem?_eq_some_iff.1 hx).1
 have hle : i * sz + f + vs.length ≤ l.length * sz := by
  have : (i + 1) * sz ≤ l.length * sz := Nat.mul_le_mul_right _ hi
  rw [Nat.add_mul] at this
  omega
 rw [← qbA hen l i x y f vs hx hf he]
 exact qeO hown hle h0 hp
end Go.Sx
set_option linter.unusedVariables false
namespace Go.Sx
open Go Go.RowKit
theorem Y7.mono {fp fp' : Nat → Prop} {w w' : World} (h : Y7 fp w w') (hf : ∀ i, fp i → fp' i) : Y7 fp' w w' :=
 ⟨h.os, h.tape, h.output, h.size, fun i hi hn => h.block i hi fun hx => hn (hf i hx)⟩
theorem Zu.some {w : World} {sz n : Nat} {p : Option Addr} {xs : List Value} (h : Zu w sz p n xs) (h0 : 0 < n) : ∃ a, p = some a := by
 rcases h.2 with h1 | ⟨b, off, e, _⟩
 ·omega
 ·exact ⟨_, e⟩
end Go.Sx
set_option linter.unusedVariables false
namespace Go.Sx
open Go Go.RowKit
section
variable {P : Program} {ops : Array Oper} {B : Nat} {w0 : World} {n i : Nat} {o : Oper} {Spre : Nu → St}
end
end Go.Sx
set_option linter.unusedVariables false
namespace Go.Sx
open Go Go.RowKit
section
variable {P : Program} {ops : Array Oper} {B : Nat} {w0 : World} {n i : Nat} {o : Oper} {Spre : Nu → St}
theorem qaY {R : List Nat} {u u' : Nu → List (Nat × KV)} (h : OpOK P ops B w0 n i o Spre R u) (hu : ∀ ν S a w, Yb B w0 n (XE S (u ν)) a w → Yb B w0 n (XE S (u' ν)) a w) : OpOK P ops B w0 n i o Spre R u' := by
 intro Q p S a w h1 h2 h3 h4 h5
 refine wpOp_mono ?_ (h Q p S a w h1 h2 h3 h4 h5)
 rintro a' w' ⟨g, hg⟩
 exact ⟨g, fun ν hν => hu ν (S ν) a' w' (hg ν hν)⟩
theorem YE {R : List Nat} {d k : Nat} {X : Nu → KV} {b : Nu → Nat} {cs : Nu → List Value} {e : TypeId} (sz m : Nat) (h : OpOK P ops B w0 n i o Spre R (fun ν => [(d, X ν), (k, .blk (b ν) (cs ν) e)])) (hl : ∀ ν, (cs ν).length = m * sz) (hm : m ≤ 1000000000) :
  OpOK P ops B w0 n i o Spre R (fun ν => [(d, X ν), (k, Yo e sz (some ⟨b ν, 0, none⟩) m m (cs ν))]) :=
 qaY h fun ν S a w hr => by
  have h1 : Yb B w0 n (Z5 (Z5 S d (X ν)) k (.blk (b ν) (cs ν) e)) a w := hr
  have h2 := h1.blk_row k (b ν) (cs ν) e sz m (QF _ _ _) (hl ν) hm
  refine h2.congr fun j => ?_
  show Z5 (Z5 S d (X ν)) k _ j = Z5 (Z5 (Z5 S d (X ν)) k _) k _ j
  by_cases ej : j = k
  ·subst ej; rw [QF, QF]
  ·rw [Q5 _ _ ej, Q5 _ _ ej, Q5 _ _ ej]
end
end Go.Sx
namespace Go.Sx
open Go Go.RowKit
theorem q6 {P : Program} {ops : Array Oper} {B : Nat} {w0 : World} {n i : Nat} {o : Oper} {Spre : Nu → St} {R : List Nat} {u : Nu → List (Nat × KV)}
  (h : OpOK P (ops.setIfInBounds i { o with guard := none }) B w0 n i { o with guard := none } Spre R u) (hw : ∀ ν, Y2 ops o (Spre ν) = some true) : OpOK P ops B w0 n i o Spre (R ++ X5 ops o) u := by
 intro Q p S a w hag hpi hoi hrep hJ
 obtain ⟨ν0, h0⟩ := Y6.exists p
 have hi : i < ops.size := (Array.getElem?_eq_some_iff.1 hoi).1
 have e1 : (ops.setIfInBounds i { o with guard := none })[i]? = some { o with guard := none } := by simp [hi]
 have h1 := h Q p S a w (fun ν hν k hk => hag ν hν k (List.mem_append_left _ hk)) hpi e1 hrep (fun j hj => hJ j (List.mem_append_left _ hj))
 have hwant : Region.wanted o (yielded ops a.tmps) = true := qbq (hrep ν0 h0) ((Ve fun k hk' => hag ν0 h0 k (List.mem_append_right _ hk')).trans (hw ν0))
 have hw' : Region.wanted { o with guard := none } (yielded (ops.setIfInBounds i { o with guard := none }) a.tmps) = true := rfl
 unfold wpOp at h1 ⊢
 rw [e1] at h1
 rw [hoi]
 dsimp only at h1 ⊢
 rw [if_pos hwant]
 rw [if_pos hw'] at h1
 exact h1
end Go.Sx
set_option linter.unusedVariables false
set_option linter.unusedSimpArgs false
namespace Go.Sx
open Go Go.RowKit
def Vs (o : Oper) : List Nat := (o.after.toList.filter fun e => Region.binds .any e).map (·.on)
def qaQ (ops : List Oper) (D : Nat → Bool) : Prop := ∀ (j : Nat) o, D j = true → ops[j]? = some o → ∀ e ∈ Vs o, D e = true
abbrev X7 (b : Nat) (cs : List Value) (e : TypeId) : KV := .fact (· = b) (fun w => w.heap[b]? = some (.cells cs.toArray e (0, 0)))
theorem Q3 {w : World} {b : Nat} {cs : List Value} {e : TypeId} (h : w.heap[b]? = some (.cells cs.toArray e (0, 0))) (k : Nat) : (∃ fp F, (k, X7 b cs e).2 = .fact fp F) ∧ (X7 b cs e).holds w ∧ ∀ i, (X7 b cs e).fp i → i < w.heap.size :=
 ⟨⟨_, _, rfl⟩, fun w' ha => (ha b rfl).trans h, fun i hi => by have e : i = b := hi; subst e; exact (Array.getElem?_eq_some_iff.1 h).1⟩
theorem Za {w : World} {b : Nat} {cs : List Value} {e : TypeId} (h : (X7 b cs e).holds w) : ∃ e fz, w.heap[b]? = some (.cells cs.toArray e fz) := ⟨_, _, h w (agree.refl _ _)⟩
end Go.Sx
set_option linter.unusedVariables false
set_option linter.unusedSimpArgs false
namespace Go.Sx
open Go Go.RowKit
def Xv (w : World) (sz : Nat) (p : Option Addr) (n cap : Nat) (xs : List Value) : Prop := n ≤ cap ∧ Zu w sz p n xs
abbrev rdF (fr : Nat → Prop) (sz : Nat) (p : Option Addr) (n cap : Nat) (xs : List Value) : KV := .fact (Je p n) (fun w => Xv w sz p n cap xs ∧ ∀ j, Je p n j → fr j)
theorem qq {fr : Nat → Prop} {w : World} {sz n cap : Nat} {p : Option Addr} {xs : List Value} (h : (rdF fr sz p n cap xs).holds w) : Xv w sz p n cap xs := (h w (agree.refl _ _)).1
theorem qaX {fr : Nat → Prop} {w : World} {sz n cap : Nat} {p : Option Addr} {xs : List Value} (h : (rdF fr sz p n cap xs).holds w) : ∀ j, Je p n j → fr j := (h w (agree.refl _ _)).2
theorem Ql {fr : Nat → Prop} {w : World} {sz n cap : Nat} {p : Option Addr} {xs : List Value} (h : Xv w sz p n cap xs) (hf : ∀ j, Je p n j → fr j) (hs : 0 < sz) (k : Nat) : (∃ fp F, (k, rdF fr sz p n cap xs).2 = .fact fp F) ∧ (rdF fr sz p n cap xs).holds w ∧ ∀ i, (rdF fr sz p n cap xs).fp i → i < w.heap.size :=
 ⟨⟨_, _, rfl⟩, fun w' ha => ⟨⟨h.1, h.2.agree ha⟩, hf⟩, h.2.inb hs⟩
theorem qai {w : World} {base e sz n cap : Nat} {p : Option Addr} {xs : List Value} (h : w.ownsRow base e sz (.slice p n cap) n xs) : n ≤ cap := by
 rcases h.2 with ⟨hv, h0⟩ | ⟨g, c, cur, hv, _, hg, hn, _⟩
 ·omega
 ·injection hv with _ _ h3; omega
theorem qY {w : World} {base e sz n cap : Nat} {p : Option Addr} {xs : List Value} (h : w.ownsRow base e sz (.slice p n cap) n xs) : Xv w sz p n cap xs := ⟨qai h, qbM h⟩
theorem qdz {T : Type} {w : World} {sz : Nat} {en : T → List Value} : Xv w sz none ([] : List T).length 0 (([] : List T).flatMap en) := ⟨Nat.le_refl _, by simp, .inl rfl⟩
theorem Zm {p : Option Addr} {n j : Nat} (h : Je p n j) : Xm p j := by
 obtain ⟨_, a, rfl, rfl⟩ := h
 exact ⟨a, rfl, rfl⟩
theorem Yb.demote {B : Nat} {w0 : World} {m : Nat} {S : St} {a : Act} {w : World} (h : Yb B w0 m S a w) (fr : Nat → Prop) (k e sz : Nat) (p : Option Addr) (n cap : Nat) (xs : List Value) (hk : S k = Yo e sz p n cap xs) (hsz : 0 < sz) (hf : ∀ j, B ≤ j → fr j) :
  Yb B w0 m (Z5 S k (rdF fr sz p n cap xs)) a w := by
 have hh := h.holds k
 rw [hk] at hh
 have ho := QN hh
 have hR := qY ho
 have hfp : ∀ j, Je p n j → (S k).fp j := fun j hj => by rw [hk]; exact Zm hj
 have hx : (S k).excl := by rw [hk]; trivial
 have hfr : ∀ j, Je p n j → fr j := fun j hj => hf j (h.ge k j hx (hfp j hj))
 have hF := Ql (fr := fr) hR hfr hsz k
 refine {
  defers := h.defers
  size := h.size
  slots := fun t c v hs => by
   by_cases e : t = k
   ·subst e; rw [QF] at hs; cases hs
   ·rw [Q5 _ _ e] at hs; exact h.slots t c v hs
  below := h.below
  base := h.base
  holds := fun j => by
   by_cases e : j = k
   ·subst e; rw [QF]; exact hF.2.1
   ·rw [Q5 _ _ e]; exact h.holds j
  inb := fun j i hi => by
   by_cases e : j = k
   ·subst e; rw [QF] at hi; exact hF.2.2 i hi
   ·rw [Q5 _ _ e] at hi; exact h.inb j i hi
  ge := fun j i hx' hi => by
   by_cases e : j = k
   ·subst e; rw [QF] at hx'; exact hx'.elim
   ·rw [Q5 _ _ e] at hi hx'; exact h.ge j i hx' hi
  disj := fun j j' i hne hx' hi hi' => by
   by_cases e : j = k
   ·subst e; rw [QF] at hx'; exact hx'.elim
   ·rw [Q5 _ _ e] at hi hx'
    by_cases e' : j' = k
    ·subst e'; rw [QF] at hi'
     exact h.disj j j' i hne hx' hi (hfp i hi')
    ·rw [Q5 _ _ e'] at hi'
     exact h.disj j j' i hne hx' hi hi' }
def YR (p : Option Addr) (lo sz cap : Nat) : Option Addr := if cap = lo then p else p.map (·.add (lo * sz))
theorem qax {T : Type} {en : T → List Value} {sz : Nat} (hen : ∀ x, (en x).length = sz) : ∀ (l : List T) (k : Nat), (l.drop k).flatMap en = (l.flatMap en).drop (k * sz)
 | l, 0 => by simp
 | [], k + 1 => by simp
 | x :: l, k + 1 => by
  have h1 : (k + 1) * sz = (en x).length + k * sz := by rw [hen x, Nat.add_mul, Nat.one_mul, Nat.add_comm]
  rw [List.drop_succ_cons, qax hen l k, List.flatMap_cons, h1, List.drop_append, List.drop_of_length_le (i := (en x).length + k * sz) (l := en x) (Nat.le_add_right _ _), List.nil_append, Nat.add_sub_cancel_left]
theorem Xv.low {T : Type} {w : World} {en : T → List Value} {sz cap : Nat} {p : Option Addr} {l : List T} (h : Xv w sz p l.length cap (l.flatMap en)) (hen : ∀ x, (en x).length = sz) {lo : Int} (b : 0 ≤ lo ∧ lo ≤ (l.length : Int)) :
  Xv w sz (YR p lo.toNat sz cap) (l.drop lo.toNat).length (cap - lo.toNat) ((l.drop lo.toNat).flatMap en) := by
 obtain ⟨k, rfl⟩ : ∃ k : Nat, lo = (k : Int) := ⟨lo.toNat, by omega⟩
 rw [Int.toNat_natCast, List.length_drop]
 have hk : k ≤ l.length := by omega
 have h1 := h.1
 refine ⟨by omega, ?_, ?_⟩
 ·have := ZK hen (l.drop k)
  rw [this, List.length_drop]
 ·rcases Nat.eq_zero_or_pos (l.length - k) with h0 | h0
  ·exact .inl h0
  ·rcases h.2.2 with hz | ⟨b', off, rfl, hc⟩
   ·omega
   ·right
    have hne : ¬ cap = k := by omega
    refine ⟨b', off + k * sz, ?_, fun j u hu => ?_⟩
    ·unfold YR
     rw [if_neg hne]
     simp only [Option.map_some, Option.some.injEq]
     unfold Addr.add
     split
     ·rename_i h00; simp [h00]
     ·rfl
    ·rw [qax hen, List.getElem?_drop] at hu
     have := hc _ u hu
     rwa [show off + (k * sz + j) = off + k * sz + j by omega] at this
theorem Vt {p : Option Addr} {l n lo sz cap j : Nat} (hn : l ≤ n) (h : Je (YR p lo sz cap) l j) : Je p n j := by
 obtain ⟨h0, a, e, rfl⟩ := h
 unfold YR at e
 split at e
 ·exact ⟨by omega, a, e, rfl⟩
 ·cases p with
  | none => simp at e
  | some q =>
   simp only [Option.map_some, Option.some.injEq] at e
   subst e
   refine ⟨by omega, q, rfl, ?_⟩
   unfold Addr.add
   split <;> rfl
theorem qcz {T : Type} {P : Program} {w : World} {t sz cap : Nat} {p : Option Addr} {l : List T} {k : IntKind} {lo : Int} {s : Sem Next} (hs : s = Sem.bind (Instr.sliceAt t (.slice p l.length cap) (some (.int k lo)) none none) fun v => Sem.pure (Next.value v)) (b : 0 ≤ lo ∧ lo ≤ (l.length : Int))
  (ht : P.underlying t = some (.slice (P.elem t)) := by kernel_rfl) (he : (P.info? (P.elem t)).map (·.size) = some sz := by kernel_rfl) : s.run P w = .ok (.value (.slice (YR p lo.toNat sz cap) (l.drop lo.toNat).length (cap - lo.toNat))) w := by
 subst hs
 refine Vb (v := .slice (YR p lo.toNat sz cap) (l.drop lo.toNat).length (cap - lo.toNat)) ?_ rfl
 rw [run_sliceAt_slice _ _ _ _ _ _ ht, run_slice_l _ _ _ _ _ ht _ _ b.1 b.2, JC he, Result.andThen_ok, List.length_drop]
 rfl
theorem qeh {T : Type} {P : Program} {w : World} {t sz cap : Nat} {p : Option Addr} {l : List T} {k : IntKind} {hi : Int} {s : Sem Next} (hs : s = Sem.bind (Instr.sliceAt t (.slice p l.length cap) none (some (.int k hi)) none) fun v => Sem.pure (Next.value v)) (b : 0 ≤ hi ∧ hi ≤ (l.length : Int)) (hc : l.length ≤ cap)
  (ht : P.underlying t = some (.slice (P.elem t)) := by kernel_rfl) (he : (P.info? (P.elem t)).map (·.size) = some sz := by kernel_rfl) : s.run P w = .ok (.value (.slice p (l.take hi.toNat).length cap)) w := by
 subst hs
 refine Vb (v := .slice p (l.take hi.toNat).length cap) ?_ rfl
 rw [run_sliceAt_slice _ _ _ _ _ _ ht, run_slice_h _ _ _ _ _ ht _ _ b.1 (by omega), JC he, Result.andThen_ok, List.length_take, Nat.min_eq_left (by omega)]
 unfold sliced
 rw [Nat.zero_mul, Nat.sub_zero, Nat.sub_zero]
 congr 2
 split
 ·rfl
 ·cases p with
  | none => rfl
  | some a => rfl
end Go.Sx
set_option linter.unusedVariables false
set_option linter.unusedSimpArgs false
namespace Go.Sx
open Go Go.RowKit
def YT (Ks : List KV) (i : Nat) : Prop := ∃ K ∈ Ks, K.fp i
def qi : Nat → Prop := fun _ => True
structure qah (Ms Cs : List KV) (w : World) : Prop where
 one : ∀ K ∈ Ms, K.holds w ∧ K.excl ∧ ∀ i, K.fp i → i < w.heap.size
 two : Ms.Pairwise fun K K' => ∀ i, K.fp i → ¬ K'.fp i
 off : ∀ K ∈ Ms, ∀ K' ∈ Cs, ∀ i, K.fp i → ¬ K'.fp i
theorem V6 {B n : Nat} {w0 : World} {S : St} {a : Act} {w : World} (h : Yb B w0 n S a w) : ∀ ks : List Nat, Yj (ks.map S) w
 | [] => trivial
 | k :: ks => ⟨h.holds k, V6 h ks⟩
def Z9 : List Nat → Bool
 | [] => true
 | k :: r => !(r.contains k) && Z9 r
theorem ZP : ∀ {l : List Nat}, Z9 l = true → l.Pairwise (· ≠ ·)
 | [], _ => .nil
 | k :: r, h => by
  simp only [Z9, Bool.and_eq_true, Bool.not_eq_true', List.contains_eq_mem, decide_eq_false_iff_not] at h
  exact .cons (fun j hj e => h.1 (e ▸ hj)) (ZP h.2)
def WA : KV → Bool
 | .blk .. => true
 | .own .. => true
 | _ => false
theorem qaE {K : KV} : WA K = true ↔ K.excl := by cases K <;> simp [WA, KV.excl]
theorem Yb.ownH {B n : Nat} {w0 : World} {S : St} {a : Act} {w : World} (h : Yb B w0 n S a w) {js ks : List Nat} (hx : ∀ j ∈ js, (S j).excl) (hn : js.Pairwise (· ≠ ·)) (ho : ∀ j ∈ js, ∀ k ∈ ks, j ≠ k) : qah (js.map S) (ks.map S) w where
 one K hK := by
  obtain ⟨j, hj, rfl⟩ := List.mem_map.1 hK
  exact ⟨h.holds j, hx j hj, h.inb j⟩
 two := by
  rw [List.pairwise_map]
  refine (hn.imp_of_mem fun {j j'} hj hj' hne i hi hi' => ?_)
  exact h.disj j j' i hne (hx j hj) hi hi'
 off K hK K' hK' i hi hi' := by
  obtain ⟨j, hj, rfl⟩ := List.mem_map.1 hK
  obtain ⟨k, hk, rfl⟩ := List.mem_map.1 hK'
  exact h.disj j k i (ho j hj k hk) (hx j hj) hi hi'
theorem WN {S : St} {js : List Nat} {i : Nat} : YT (js.map S) i ↔ ∃ j ∈ js, (S j).fp i := by
 unfold YT
 constructor
 ·rintro ⟨K, hK, hi⟩
  obtain ⟨j, hj, rfl⟩ := List.mem_map.1 hK
  exact ⟨j, hj, hi⟩
 ·rintro ⟨j, hj, hi⟩
  exact ⟨_, List.mem_map.2 ⟨j, hj, rfl⟩, hi⟩
theorem Jw : ∀ (l m : List (Nat × KV)) (S : St), XE S (l ++ m) = XE (XE S l) m
 | [], _, _ => rfl
 | (k, v) :: l, m, S => Jw l m _
structure qbY (N : Nat) (M F : Nat → Prop) (us : List (Nat × KV)) (w' : World) : Prop where
 one : ∀ p ∈ us, (∀ c x, p.2 ≠ .slot c x) ∧ p.2.holds w' ∧ (∀ i, p.2.fp i → i < w'.heap.size) ∧ (p.2.excl → ∀ i, p.2.fp i → N ≤ i ∨ M i) ∧ (¬ p.2.excl → ∀ i, p.2.fp i → N ≤ i ∨ F i)
 two : us.Pairwise fun p q => p.1 ≠ q.1 ∧ (p.2.excl ∨ q.2.excl → ∀ i, p.2.fp i → ¬ q.2.fp i)
def VA (js : List Nat) : List (Nat × KV) := js.map fun j => (j, KV.none)
theorem qbo {S : St} {js : List Nat} {k : Nat} : XE S (VA js) k = if k ∈ js then .none else S k := by
 rw [X8]
 by_cases h : k ∈ js
 ·obtain ⟨x, hx⟩ := qaN (l := VA js) (k := k) (by simpa [VA] using h)
  have := qbV hx
  obtain ⟨j, _, e⟩ := List.mem_map.1 this
  rw [hx, if_pos h, ← (Prod.mk.inj e).2]; rfl
 ·rw [Vp (by simpa [VA] using h), if_neg h]; rfl
theorem Yb.adds {B n : Nat} {w0 : World} {a : Act} {w' : World} : ∀ (us : List (Nat × KV)) (S : St), Yb B w0 n S a w' →
  (∀ p ∈ us, (∀ c x, p.2 ≠ .slot c x) ∧ p.2.holds w' ∧ (∀ i, p.2.fp i → i < w'.heap.size) ∧ (p.2.excl → ∀ i, p.2.fp i → B ≤ i)) →
  (us.Pairwise fun p q => p.1 ≠ q.1 ∧ (p.2.excl ∨ q.2.excl → ∀ i, p.2.fp i → ¬ q.2.fp i)) →
  (∀ p ∈ us, ∀ k, k ≠ p.1 → (p.2.excl ∨ (S k).excl) → ∀ i, p.2.fp i → ¬ (S k).fp i) → Yb B w0 n (XE S us) a w'
 | [], S, h, _, _, _ => h
 | (k, v) :: us, S, h, h1, h2, h3 => by
  cases h2 with
  | cons h2a h2b =>
   have q := h1 (k, v) (by simp)
   have r := h.ent k v q.1 q.2.1 q.2.2.1 q.2.2.2 (fun k' i hne hx hi => h3 (k, v) (by simp) k' hne hx i hi)
   refine Yb.adds us _ r (fun p hp => h1 p (List.mem_cons_of_mem _ hp)) h2b fun p hp k' hne hx i hi => ?_
   by_cases e : k' = k
   ·subst e
    rw [QF] at hx ⊢
    exact fun hi' => (h2a p hp).2 hx.symm i hi' hi
   ·rw [Q5 _ _ e] at hx ⊢
    exact h3 p (List.mem_cons_of_mem _ hp) k' hne hx i hi
theorem Yb.turn {B n : Nat} {w0 : World} {S : St} {a : Act} {w w' : World} (h : Yb B w0 n S a w) (js : List Nat) (hjs : ∀ j ∈ js, (S j).excl) {F : Nat → Prop}
  (hF : ∀ i, F i → ∀ k, k ∉ js → (S k).excl → ¬ (S k).fp i) (hbut : Y7 (YT (js.map S)) w w') (us : List (Nat × KV)) (hn : qbY w.heap.size (YT (js.map S)) F us w') :
  Yb B w0 n (XE (XE S (VA js)) us) a w' := by
 have hM : ∀ i, YT (js.map S) i → B ≤ i ∧ i < w.heap.size := fun i hi => by
  obtain ⟨j, hj, hi⟩ := WN.1 hi
  exact ⟨h.ge j i (hjs j hj) hi, h.inb j i hi⟩
 have hMd : ∀ i, YT (js.map S) i → ∀ k, ¬ (XE S (VA js) k).fp i := fun i hi k hk => by
  obtain ⟨j, hj, hi⟩ := WN.1 hi
  rw [qbo] at hk
  by_cases e : k ∈ js
  ·rw [if_pos e] at hk; exact hk
  ·rw [if_neg e] at hk
   exact h.disj j k i (fun e' => e (e' ▸ hj)) (hjs j hj) hi hk
 have r1 : Yb B w0 n (XE S (VA js)) a w := h.weak fun k => by
  rw [qbo]
  by_cases e : k ∈ js
  ·rw [if_pos e]; exact .inl rfl
  ·rw [if_neg e]; exact .inr rfl
 have r2 := r1.but hbut (fun i hi => (hM i hi).1) (fun k i hi => hMd i hi k)
 refine Yb.adds us _ r2 (fun p hp => ?_) hn.two fun p hp k hne hx i hi => ?_
 ·obtain ⟨q1, q2, q3, q4, q5⟩ := hn.one p hp
  exact ⟨q1, q2, q3, fun hx i hi => (q4 hx i hi).elim (fun h1 => Nat.le_trans h.base h1) fun h1 => (hM i h1).1⟩
 ·obtain ⟨q1, q2, q3, q4, q5⟩ := hn.one p hp
  intro hk
  have hold : i < w.heap.size := r1.inb k i hk
  by_cases ex : p.2.excl
  ·rcases q4 ex i hi with h1 | h1
   ·omega
   ·exact hMd i h1 k hk
  ·rcases q5 ex i hi with h1 | h1
   ·omega
   ·have hx' := hx.resolve_left ex
    rw [qbo] at hx' hk
    by_cases e : k ∈ js
    ·rw [if_pos e] at hx'; exact hx'
    ·rw [if_neg e] at hx' hk
     exact hF i h1 k e hx' hk
def Jo (Ks : List KV) (i : Nat) : Prop := ∃ K ∈ Ks, ¬ K.excl ∧ K.fp i
theorem qf7 {J R : List Nat} {p : VO} (hJ : ∀ j, TK + j ∈ R → ∃ g, p j = some g) (hR : ∀ j ∈ J, TK + j ∈ R) {ν ν' : Nu} (h : Y6 p ν) (h' : Y6 p ν') : ∀ j ∈ J, ν j = ν' j := fun j hj => by
 obtain ⟨g, hg⟩ := hJ j (hR j hj)
 rw [h j g hg, h' j g hg]
abbrev tks (J : List Nat) : List Nat := J.map fun j => TK + j
section
variable {P : Program} {ops : Array Oper} {B : Nat} {w0 : World} {n i : Nat} {o : Oper} {Spre : Nu → St}
abbrev qde (d : Option Nat) (v : Value) : Next := match d with | some _ => .value v | none => .skip
abbrev WG (d : Option Nat) (v : Value) : List (Nat × KV) := match d with | some t => [(t, .slot true v)] | none => []
theorem qa1 (J : List Nat) (ks : List Nat) (Ks : Nu → List KV) (js : List Nat) (Js : Nu → List KV) (d : Option Nat) (v : Nu → Gh → Value) (us : Nu → Gh → List (Nat × KV))
  (hv : ∀ ν w, Yj (Ks ν) w → qah (Js ν) (Ks ν) w → ∃ g w', (execOp (Y4 (Spre ν)) o).run P w = .ok (qde d (v ν g)) w' ∧ Y7 (YT (Js ν)) w w' ∧ qbY w.heap.size (YT (Js ν)) (fun i => YT (Js ν) i ∨ Jo (Ks ν) i) (us ν g) w')
  (hloc : ∀ ν ν', (∀ j ∈ J, ν j = ν' j) → Ks ν = Ks ν' ∧ Js ν = Js ν' ∧ v ν = v ν' ∧ us ν = us ν' := by exact fun _ _ _ => ⟨rfl, rfl, rfl, rfl⟩)
  (hK : ∀ ν, ks.map (Spre ν) = Ks ν := by intro _; kernel_rfl) (hJs : ∀ ν, js.map (Spre ν) = Js ν := by intro _; kernel_rfl) (hx : ∀ ν, (Js ν).all WA = true := by intro _; kernel_rfl)
  (hkeys : (Z9 js && js.all fun j => Nat.ble n j && !(ks.contains j)) = true := by rfl)
  (hd : o.dst = d := by rfl) (hdn : (match d with | some t => Nat.blt t n | none => true) = true := by rfl) (hsel : YZ o = true := by rfl) (hg : o.guard = none := by rfl)
  (hk : ∀ ν, (o.op.operands.all (XQ (Spre ν))) = true := by intro _; kernel_rfl) (hp : ∀ ν, (X6 o (Spre ν)).all id = true := by intro _; kernel_rfl) :
  OpOK P ops B w0 n i o Spre (tks J ++ ks ++ js ++ X5 ops o) (fun ν => WG d (v ν (ν i)) ++ (VA js ++ us ν (ν i))) := by
 simp only [Bool.and_eq_true] at hkeys
 have hnd := ZP hkeys.1
 have hjk : ∀ j ∈ js, n ≤ j ∧ j ∉ ks := fun j hj => by
  have := List.all_eq_true.1 hkeys.2 j hj
  simpa using this
 refine qbQ (c := fun _ => true) (fun _ h => List.mem_append_right _ h) (Xy hsel) (fun ν => by unfold Y2; rw [hg]) hk ?_ ?_
 ·intro ν S a w hcf; cases hcf
 ·intro Q p S a w hpi hct hag hrep hev0 hJ
  have hev : ∀ ν, Y6 p ν → execOp a.eval o = execOp (Y4 (Spre ν)) o := fun ν hν => (hev0 ν hν).trans (Y5 (Xy hsel) (by simpa using hp ν))
  have hSK : ∀ ν, Y6 p ν → ks.map (S ν) = Ks ν := fun ν hν => (List.map_congr_left fun k hk' => hag ν hν k (by simp [hk'])).trans (hK ν)
  have hSJ : ∀ ν, Y6 p ν → js.map (S ν) = Js ν := fun ν hν => (List.map_congr_left fun k hk' => hag ν hν k (by simp [hk'])).trans (hJs ν)
  have hJe : ∀ ν ν', Y6 p ν → Y6 p ν' → Ks ν = Ks ν' ∧ Js ν = Js ν' ∧ v ν = v ν' ∧ us ν = us ν' := fun ν ν' hν hν' => hloc ν ν' (qf7 hJ (fun j hj => by simp [hj]) hν hν')
  have hexc : ∀ ν, Y6 p ν → ∀ j ∈ js, (S ν j).excl := fun ν hν j hj => by
   have h1 : S ν j ∈ Js ν := by rw [← hSJ ν hν]; exact List.mem_map.2 ⟨j, hj, rfl⟩
   exact qaE.1 (List.all_eq_true.1 (hx ν) _ h1)
  unfold Oper.wp
  obtain ⟨ν0, h0⟩ := Y6.exists p
  have hA0 : Yj (Ks ν0) w := by rw [← hSK ν0 h0]; exact V6 (hrep ν0 h0) ks
  have hO0 : qah (Js ν0) (Ks ν0) w := by rw [← hSK ν0 h0, ← hSJ ν0 h0]; exact (hrep ν0 h0).ownH (hexc ν0 h0) hnd fun j hj k hk' e => (hjk j hj).2 (e ▸ hk')
  obtain ⟨g, w', hrun, hbut, hnew⟩ := hv ν0 w hA0 hO0
  rw [hev ν0 h0, hrun]
  have fin : ∀ ν, Y6 (p.set i g) ν → ∀ a' : Act, (∀ ν', Y6 p ν' → Yb B w0 n (XE (S ν') (WG d (v ν0 g))) a' w) → Yb B w0 n (XE (S ν) (WG d (v ν (ν i)) ++ (VA js ++ us ν (ν i)))) a' w' := by
   intro ν hν a' hput
   have hν' := hν.of_set hpi
   have hr := hput ν hν'
   obtain ⟨e1, e2, ev, eu⟩ := hJe ν ν0 hν' h0
   rw [hν.at_set, ev, eu]
   have hSd : ∀ k, n ≤ k → XE (S ν) (WG d (v ν0 g)) k = S ν k := fun k hk' => by
    cases d with
    | none => rfl
    | some t =>
     have : t < n := by simpa using hdn
     exact Q5 _ _ (by omega)
   have e3 : js.map (XE (S ν) (WG d (v ν0 g))) = Js ν0 := by
    rw [← e2, ← hSJ ν hν']
    exact List.map_congr_left fun j hj => hSd j (hjk j hj).1
   have e4 : XE (S ν) (WG d (v ν0 g) ++ (VA js ++ us ν0 g)) = XE (XE (XE (S ν) (WG d (v ν0 g))) (VA js)) (us ν0 g) := by
    rw [Jw, Jw]
   rw [e4]
   refine hr.turn js (fun j hj => by rw [hSd j (hjk j hj).1]; exact hexc ν hν' j hj) (F := fun i => YT (Js ν0) i ∨ Jo (Ks ν0) i) ?_ (by rw [e3]; exact hbut) _ (by rw [e3]; exact hnew)
   intro x hx' k hkj hkx hkf
   rcases hx' with hx' | ⟨K, hK', hne, hKf⟩
   ·rw [← e3] at hx'
    obtain ⟨j, hj, hx'⟩ := WN.1 hx'
    exact hr.disj j k x (fun e => hkj (e ▸ hj)) (by rw [hSd j (hjk j hj).1]; exact hexc ν hν' j hj) hx' hkf
   ·rw [← e1, ← hSK ν hν'] at hK'
    obtain ⟨k2, hk2, rfl⟩ := List.mem_map.1 hK'
    have hkn : XE (S ν) (WG d (v ν0 g)) k = S ν k := by
     cases d with
     | none => rfl
     | some t =>
      by_cases e : k = t
      ·subst e
       have e' : XE (S ν) (WG (some k) (v ν0 g)) k = .slot true (v ν0 g) := QF _ _ _
       rw [e'] at hkx; exact hkx.elim
      ·exact Q5 _ _ e
    rw [hkn] at hkx hkf
    refine (hrep ν hν').disj k k2 x (fun e => hne (e ▸ hkx)) hkx hkf hKf
  cases d with
  | none =>
   simp only [qde, Oper.upon, hd]
   exact ⟨g, fun ν hν => fin ν hν a fun ν' hν' => hrep ν' hν'⟩
  | some t =>
   simp only [qde, Oper.upon, hd]
   exact ⟨g, fun ν hν => fin ν hν _ fun ν' hν' => (hrep ν' hν').put (by simpa using hdn) true (v ν0 g)⟩
end
end Go.Sx
set_option linter.unusedVariables false
set_option linter.unusedSimpArgs false
namespace Go.Sx
open Go Go.RowKit
abbrev V5 := (Nat → Prop) → KV
structure V5.OK (K : V5) : Prop where
 fp : ∀ fr fr', (K fr).fp = (K fr').fp
 ex : ∀ fr fr', (K fr).excl ↔ (K fr').excl
 sl : ∀ fr c x, K fr ≠ .slot c x
 up : ∀ fr fr' w, (K fr).holds w → (¬ (K fr).excl → ∀ i, (K fr).fp i → fr' i) → (K fr').holds w
 lo : ∀ fr w, ¬ (K fr).excl → (K fr).holds w → ∀ i, (K fr).fp i → fr i
 inb : ∀ fr w, (K fr).holds w → ∀ i, (K fr).fp i → i < w.heap.size
def JG (N : Nat) (Fs : List KV) (i : Nat) : Prop := N ≤ i ∨ YT Fs i
structure YD (N : Nat) (M Fr : Nat → Prop) (Es : List V5) (w' : World) : Prop where
 one : ∀ K ∈ Es, (K qi).holds w' ∧ ((K qi).excl → ∀ i, (K qi).fp i → N ≤ i ∨ M i) ∧ (¬ (K qi).excl → ∀ i, (K qi).fp i → Fr i)
 two : Es.Pairwise fun K K' => (K qi).excl ∨ (K' qi).excl → ∀ i, (K qi).fp i → ¬ (K' qi).fp i
def qci (fr : Nat → Prop) : List Nat → List V5 → List (Nat × KV)
 | k :: ks, K :: Es => (k, K fr) :: qci fr ks Es
 | _, _ => []
theorem VX {fr : Nat → Prop} : ∀ {ks : List Nat} {Es : List V5} {p : Nat × KV}, p ∈ qci fr ks Es → p.1 ∈ ks ∧ ∃ K ∈ Es, p.2 = K fr
 | [], _, _, h => by cases h
 | _ :: _, [], _, h => by cases h
 | k :: ks, K :: Es, p, h => by
  rcases List.mem_cons.1 h with rfl | h
  ·exact ⟨by simp, K, by simp, rfl⟩
  ·obtain ⟨h1, K', h2, h3⟩ := VX h
   exact ⟨List.mem_cons_of_mem _ h1, K', List.mem_cons_of_mem _ h2, h3⟩
theorem WV {fr : Nat → Prop} {R : (Nat × KV) → (Nat × KV) → Prop} : ∀ {ks : List Nat} {Es : List V5}, ks.Pairwise (· ≠ ·) → Es.Pairwise (fun K K' => ∀ k k', k ≠ k' → R (k, K fr) (k', K' fr)) → (qci fr ks Es).Pairwise R
 | [], _, _, _ => .nil
 | _ :: _, [], _, _ => .nil
 | k :: ks, K :: Es, h1, h2 => by
  cases h1 with
  | cons a b =>
   cases h2 with
   | cons c d =>
    refine .cons (fun p hp => ?_) (WV b d)
    obtain ⟨q1, K', q2, q3⟩ := VX hp
    obtain ⟨p1, p2⟩ := p
    simp only at q1 q3
    subst q3
    exact c K' q2 k p1 (a p1 q1)
theorem YD.new {N : Nat} {M Fr F fr : Nat → Prop} {Es : List V5} {w' : World} {out : List Nat} (h : YD N M Fr Es w') (hE : ∀ K ∈ Es, V5.OK K) (hn : out.Pairwise (· ≠ ·)) (hF : ∀ i, Fr i → N ≤ i ∨ F i) (hfr : ∀ i, Fr i → fr i) :
  qbY N M F (qci fr out Es) w' where
 one p hp := by
  obtain ⟨_, K, hK, e⟩ := VX hp
  have hO := hE K hK
  obtain ⟨q1, q2, q3⟩ := h.one K hK
  have hfp : (K fr).fp = (K qi).fp := hO.fp _ _
  have hh : (K fr).holds w' := hO.up qi fr w' q1 fun ex i hi => hfr i (q3 ex i hi)
  rw [e]
  exact ⟨hO.sl fr, hh, hO.inb fr w' hh, fun hx i hi => q2 ((hO.ex fr qi).1 hx) i (hfp ▸ hi), fun hx i hi => hF i (q3 (fun h => hx ((hO.ex fr qi).2 h)) i (hfp ▸ hi))⟩
 two := WV hn (h.two.imp_of_mem fun {K K'} hK hK' hp k k' hne => ⟨hne, fun hx i hi hi' => hp (by
  rcases hx with hx | hx
  ·exact .inl (((hE K hK).ex _ _).1 hx)
  ·exact .inr (((hE K' hK').ex _ _).1 hx)) i (by rw [(hE K hK).fp qi fr]; exact hi) (by rw [(hE K' hK').fp qi fr]; exact hi')⟩)
def qcn (ff : Bool) (fr : Nat → Prop) (Ks : List KV) (w : World) (K : KV) : Prop := K.holds w ∧ ∀ i, K.fp i → ∃ K' ∈ Ks, K'.fp i ∧ (ff = true → ¬ K'.excl ∧ fr i)
def qbi (ff : Bool) (fr : Nat → Prop) (Ks : List KV) (w : World) : List KV → Prop
 | [] => True
 | K :: r => qcn ff fr Ks w K ∧ qbi ff fr Ks w r
theorem qbi.all {ff : Bool} {fr : Nat → Prop} {Ks : List KV} {w : World} : ∀ {Fs : List KV}, qbi ff fr Ks w Fs → Yj Fs w
 | [], _ => trivial
 | _ :: _, h => ⟨h.1.1, qbi.all h.2⟩
theorem qbi.mem {ff : Bool} {fr : Nat → Prop} {Ks : List KV} {w : World} : ∀ {Fs : List KV}, qbi ff fr Ks w Fs → ∀ K ∈ Fs, qcn ff fr Ks w K
 | [], _, K, hK => by cases hK
 | K0 :: r, h, K, hK => by
  rcases List.mem_cons.1 hK with rfl | hK
  ·exact h.1
  ·exact qbi.mem h.2 K hK
section
variable {P : Program} {ops : Array Oper} {B : Nat} {w0 : World} {n i : Nat} {o : Oper} {Spre : Nu → St}
theorem Qo (ff : Bool) (fr : Nat → Prop) (J : List Nat) (ks : List Nat) (Ks : Nu → List KV) (js : List Nat) (Js : Nu → List KV) (f : FuncId) (args : Nu → Array Value) (Bs Fs : Nu → List KV) (v : Nu → Gh → Value) (Es : Nu → Gh → List V5) (out : List Nat) (d : Nat)
  (hC : ∀ ν w, Yj (Bs ν) w → Yj (Fs ν) w → qah (Js ν) (Bs ν ++ Fs ν) w → Calls P f (args ν) w fun e w' => ∃ g : Gh, e = .returned (v ν g) ∧ Y7 (YT (Js ν)) w w' ∧ YD w.heap.size (YT (Js ν)) (JG w.heap.size (Fs ν)) (Es ν g) w')
  (hS : ∀ ν w, Yj (Ks ν) w → qbi false fr (Ks ν) w (Bs ν) ∧ qbi ff fr (Ks ν) w (Fs ν))
  (hE : ∀ ν g, ∀ K ∈ Es ν g, V5.OK K) (hff : ff = true ∨ ∀ ν g, ∀ K ∈ Es ν g, (K qi).excl) (hB : ff = true → ∀ j, w0.heap.size ≤ j → fr j)
  (hloc : ∀ ν ν', (∀ j ∈ J, ν j = ν' j) → Ks ν = Ks ν' ∧ Js ν = Js ν' ∧ Bs ν = Bs ν' ∧ Fs ν = Fs ν' ∧ v ν = v ν' ∧ Es ν = Es ν' := by exact fun _ _ _ => ⟨rfl, rfl, rfl, rfl, rfl, rfl⟩)
  (hK : ∀ ν, ks.map (Spre ν) = Ks ν := by intro _; kernel_rfl) (hJs : ∀ ν, js.map (Spre ν) = Js ν := by intro _; kernel_rfl) (hx : ∀ ν, (Js ν).all WA = true := by intro _; kernel_rfl)
  (hkeys : (Z9 js && js.all (fun j => Nat.ble n j && !(ks.contains j)) && Z9 out) = true := by rfl)
  (hd : o.dst = some d := by rfl) (hdn : Nat.blt d n = true := by rfl) (hsel : YZ o = true := by rfl) (hg : o.guard = none := by rfl)
  (hk : ∀ ν, (o.op.operands.all (XQ (Spre ν))) = true := by intro _; kernel_rfl) (hp : ∀ ν, (X6 o (Spre ν)).all id = true := by intro _; kernel_rfl)
  (hv : ∀ ν w, (execOp (Y4 (Spre ν)) o).run P w = .ok (.enter f (args ν)) w := by intro _ _; kernel_rfl) :
  OpOK P ops B w0 n i o Spre (tks J ++ ks ++ js ++ X5 ops o) (fun ν => (d, .slot true (v ν (ν i))) :: (VA js ++ qci fr out (Es ν (ν i)))) := by
 simp only [Bool.and_eq_true] at hkeys
 have hnd := ZP hkeys.1.1
 have hno := ZP hkeys.2
 have hdn' : d < n := by simpa using hdn
 have hjk : ∀ j ∈ js, n ≤ j ∧ j ∉ ks := fun j hj => by
  have := List.all_eq_true.1 hkeys.1.2 j hj
  simpa using this
 refine qbQ (c := fun _ => true) (fun _ h => List.mem_append_right _ h) (Xy hsel) (fun ν => by unfold Y2; rw [hg]) hk ?_ ?_
 ·intro ν S a w hcf; cases hcf
 ·intro Q p S a w hpi hct hag hrep hev0 hJ
  have hev : ∀ ν, Y6 p ν → execOp a.eval o = execOp (Y4 (Spre ν)) o := fun ν hν => (hev0 ν hν).trans (Y5 (Xy hsel) (by simpa using hp ν))
  have hSK : ∀ ν, Y6 p ν → ks.map (S ν) = Ks ν := fun ν hν => (List.map_congr_left fun k hk' => hag ν hν k (by simp [hk'])).trans (hK ν)
  have hSJ : ∀ ν, Y6 p ν → js.map (S ν) = Js ν := fun ν hν => (List.map_congr_left fun k hk' => hag ν hν k (by simp [hk'])).trans (hJs ν)
  have hJe : ∀ ν ν', Y6 p ν → Y6 p ν' → Ks ν = Ks ν' ∧ Js ν = Js ν' ∧ Bs ν = Bs ν' ∧ Fs ν = Fs ν' ∧ v ν = v ν' ∧ Es ν = Es ν' := fun ν ν' hν hν' => hloc ν ν' (qf7 hJ (fun j hj => by simp [hj]) hν hν')
  have hexc : ∀ ν, Y6 p ν → ∀ j ∈ js, (S ν j).excl := fun ν hν j hj => by
   have h1 : S ν j ∈ Js ν := by rw [← hSJ ν hν]; exact List.mem_map.2 ⟨j, hj, rfl⟩
   exact qaE.1 (List.all_eq_true.1 (hx ν) _ h1)
  unfold Oper.wp
  obtain ⟨ν0, h0⟩ := Y6.exists p
  have hA0 : Yj (Ks ν0) w := by rw [← hSK ν0 h0]; exact V6 (hrep ν0 h0) ks
  obtain ⟨s1, s2⟩ := hS ν0 w hA0
  have hO0 : qah (Js ν0) (Bs ν0 ++ Fs ν0) w := by
   have hO := (hrep ν0 h0).ownH (ks := ks) (hexc ν0 h0) hnd fun j hj k hk' e => (hjk j hj).2 (e ▸ hk')
   rw [hSK ν0 h0, hSJ ν0 h0] at hO
   refine ⟨hO.one, hO.two, fun K hK' K' hK2 x hx1 hx2 => ?_⟩
   obtain ⟨K3, h3, h4, _⟩ : ∃ K'' ∈ Ks ν0, K''.fp x ∧ True := by
    rcases List.mem_append.1 hK2 with h | h
    ·obtain ⟨K3, h3, h4, _⟩ := (s1.mem K' h).2 x hx2; exact ⟨K3, h3, h4, trivial⟩
    ·obtain ⟨K3, h3, h4, _⟩ := (s2.mem K' h).2 x hx2; exact ⟨K3, h3, h4, trivial⟩
   exact hO.off K hK' K3 h3 x hx1 h4
  rw [hev ν0 h0, hv ν0 w]
  simp only [Oper.upon]
  refine (hC ν0 w s1.all s2.all hO0).mono ?_
  rintro e w' ⟨g, rfl, hbut, hout⟩
  refine ⟨g, fun ν hν => ?_⟩
  have hν' := hν.of_set hpi
  obtain ⟨e1, e2, _, _, ev, eE⟩ := hJe ν ν0 hν' h0
  rw [hν.at_set, hd, ev, eE]
  have hr := (hrep ν hν').put hdn' true (v ν0 g)
  have hSd : ∀ k, k ≠ d → Z5 (S ν) d (.slot true (v ν0 g)) k = S ν k := fun k hk' => Q5 _ _ hk'
  have e3 : js.map (Z5 (S ν) d (.slot true (v ν0 g))) = Js ν0 := by
   rw [← e2, ← hSJ ν hν']
   exact List.map_congr_left fun j hj => hSd j (by have := (hjk j hj).1; omega)
  show Yb B w0 n (XE (Z5 (S ν) d (.slot true (v ν0 g))) (VA js ++ qci fr out (Es ν0 g))) _ w'
  rw [Jw]
  have hNE : qbY w.heap.size (YT (Js ν0)) (fun x => YT (Js ν0) x ∨ (ff = true ∧ Jo (Ks ν0) x)) (qci fr out (Es ν0 g)) w' := by
   rcases hff with hff | hff
   ·refine hout.new (hE ν0 g) hno (fun x hx1 => ?_) (fun x hx1 => ?_)
    ·rcases hx1 with h1 | ⟨K, hK', h1⟩
     ·exact .inl h1
     ·obtain ⟨K', q1, q2, q3⟩ := (s2.mem K hK').2 x h1
      exact .inr (.inr ⟨hff, K', q1, (q3 hff).1, q2⟩)
    ·rcases hx1 with h1 | ⟨K, hK', h1⟩
     ·exact hB hff x (Nat.le_trans hr.below.size h1)
     ·obtain ⟨K', q1, q2, q3⟩ := (s2.mem K hK').2 x h1
      exact (q3 hff).2
   ·refine ⟨fun p hp => ?_, (WV hno (hout.two.imp_of_mem fun {K K'} hK hK' hp k k' hne => ⟨hne, fun hx i hi hi' => hp (.inl (hff ν0 g K hK)) i (by rw [(hE ν0 g K hK).fp qi fr]; exact hi) (by rw [(hE ν0 g K' hK').fp qi fr]; exact hi')⟩))⟩
    obtain ⟨_, K, hK', e⟩ := VX hp
    have hO := hE ν0 g K hK'
    obtain ⟨q1, q2, q3⟩ := hout.one K hK'
    have hex := hff ν0 g K hK'
    have hh : (K fr).holds w' := hO.up qi fr w' q1 fun hne => absurd hex hne
    rw [e]
    exact ⟨hO.sl fr, hh, hO.inb fr w' hh, fun hx i hi => q2 hex i (by rw [hO.fp qi fr]; exact hi), fun hx => absurd ((hO.ex fr qi).2 hex) hx⟩
  refine hr.turn js (fun j hj => by rw [hSd j (by have := (hjk j hj).1; omega)]; exact hexc ν hν' j hj) ?_ (by rw [e3]; exact hbut) _ (by rw [e3]; exact hNE)
  intro x hx' k hkj hkx hkf
  have hkd : k ≠ d := fun e => by subst e; rw [QF] at hkx; exact hkx
  rw [hSd k hkd] at hkx hkf
  rcases hx' with hx' | ⟨_, K, hK', hne, hKf⟩
  ·rw [← e2, ← hSJ ν hν'] at hx'
   obtain ⟨j, hj, hx'⟩ := WN.1 hx'
   exact (hrep ν hν').disj j k x (fun e => hkj (e ▸ hj)) (hexc ν hν' j hj) hx' hkf
  ·rw [← e1, ← hSK ν hν'] at hK'
   obtain ⟨k2, hk2, rfl⟩ := List.mem_map.1 hK'
   exact (hrep ν hν').disj k k2 x (fun e => hne (e ▸ hkx)) hkx hkf hKf
end
abbrev frM (Ms : List KV) (w : World) : KV := .fact (fun i => i < w.heap.size ∧ ¬ YT Ms i) (fun w' => ∀ i, i < w.heap.size → ¬ YT Ms i → w'.heap[i]? = w.heap[i]?)
abbrev KFr : Nat := 999998
theorem Yb.low {B n : Nat} {w0 : World} {S : St} {a : Act} {w : World} (h : Yb B w0 n S a w) (hx : ∀ k, ¬ (S k).excl) : Yb 0 w0 n S a w where
 defers := h.defers
 size := h.size
 slots := h.slots
 below := h.below.mono (Nat.zero_le _)
 base := Nat.zero_le _
 holds := h.holds
 inb := h.inb
 ge k i hk _ := (hx k hk).elim
 disj k k' i _ hk _ := (hx k hk).elim
theorem qbU : ∀ (fs : List (Nat × KV)) (S : St), (∀ k, ¬ (S k).excl) → (∀ x ∈ fs, ¬ x.2.excl) → ∀ k, ¬ (XE S fs k).excl
 | [], S, h, _, k => h k
 | (j, v) :: r, S, h, hf, k => qbU r _ (fun k' => by
   by_cases e : k' = j
   ·subst e; rw [QF]; exact hf (k', v) (by simp)
   ·rw [Q5 _ _ e]; exact h k') (fun x hx => hf x (List.mem_cons_of_mem _ hx)) k
theorem qaP {M : Nat → Prop} : ∀ (fs : List (Nat × KV)) (S : St), (∀ k i, M i → ¬ (S k).fp i) → (∀ x ∈ fs, ∀ i, M i → ¬ x.2.fp i) → ∀ k i, M i → ¬ (XE S fs k).fp i
 | [], S, h, _, k => h k
 | (j, v) :: r, S, h, hf, k => qaP r _ (fun k' => by
   by_cases e : k' = j
   ·subst e; rw [QF]; exact hf (k', v) (by simp)
   ·rw [Q5 _ _ e]; exact h k') (fun x hx => hf x (List.mem_cons_of_mem _ hx)) k
theorem qcJ (args : List Value) (k : Nat) : Wy (Wc 0 args) k = .none ∨ ∃ v, Wy (Wc 0 args) k = .slot true v := by
 unfold Wy
 rw [X8, ZF]
 simp only [Nat.zero_le, if_true, Nat.sub_zero]
 cases args[k]? with
 | none => exact .inl rfl
 | some v => exact .inr ⟨v, rfl⟩
theorem qd8 {Ms Cs Ds : List KV} {w : World} (h : qah Ms Cs w) (hs : ∀ D ∈ Ds, ∃ C ∈ Cs, ∀ i, D.fp i → C.fp i) : qah Ms Ds w :=
 ⟨h.one, h.two, fun K hK K' hK' i hi hi' => by
  obtain ⟨C, hC, hf⟩ := hs K' hK'
  exact h.off K hK C hC i hi (hf i hi')⟩
theorem qec {Ms Cs Ds : List KV} {w : World} (h : qah Ms Cs w) (hs : Ds.map KV.fp = Cs.map KV.fp) : qah Ms Ds w :=
 qd8 h fun D hD => by
  have : D.fp ∈ Cs.map KV.fp := by rw [← hs]; exact List.mem_map.2 ⟨D, hD, rfl⟩
  obtain ⟨C, hC, e⟩ := List.mem_map.1 this
  exact ⟨C, hC, fun i hi => by rw [e]; exact hi⟩
theorem qdx {P : Program} {f : FuncId} {fn : Func} {c : Code} {args : List Value} {w : World} {R : Ending → World → Prop} (n : Nat) (fs os : List (Nat × KV)) (hos : qah (os.map Prod.snd) (fs.map Prod.snd) w)
  (hfs : ∀ x ∈ fs, (∃ fp F, x.2 = .fact fp F) ∧ x.2.holds w ∧ ∀ i, x.2.fp i → i < w.heap.size)
  (hkeys : Z9 (os.map Prod.fst) = true)
  (hf : P.funcs[f]? = some fn) (hbd : fn.body = some c) (hn : fn.ntmps = n) (hl : Nat.ble args.length n = true)
  (h : ∀ a, Yb 0 w n (XE (Z5 (XE (Wy (Wc 0 args)) fs) KFr (frM (os.map Prod.snd) w)) os) a w → c.wp P (J1 (bodyPost P fn R .ret) [] (bodyPost P fn R .ret)) a w) : Calls P f args.toArray w R := by
 refine QQ n fs hfs hf hbd hn hl fun a H => h a ?_
 have hex : ∀ k, ¬ (XE (Wy (Wc 0 args)) fs k).excl := qbU fs _ (fun k => by
  rcases qcJ args k with h | ⟨v, h⟩ <;> rw [h] <;> exact fun h => h) fun x hx => by
   obtain ⟨⟨fp, F, hv⟩, _⟩ := hfs x hx
   rw [hv]; exact fun h => h
 have hoff : ∀ k i, YT (os.map Prod.snd) i → ¬ (XE (Wy (Wc 0 args)) fs k).fp i := qaP fs _ (fun k i _ => by
  rcases qcJ args k with h | ⟨v, h⟩ <;> rw [h] <;> exact fun h => h) fun x hx i ⟨K, hK, hi⟩ hi' => hos.off K hK x.2 (List.mem_map.2 ⟨x, hx, rfl⟩) i hi hi'
 have h2 := H.low hex |>.ent KFr (frM (os.map Prod.snd) w) (by intro c x h; cases h) (fun w' ha i h1 h2 => ha i ⟨h1, h2⟩) (fun i hi => hi.1) (fun h => h.elim) (fun k' j _ hx _ => by
  rcases hx with hx | hx
  ·exact hx.elim
  ·exact (hex k' hx).elim)
 refine Yb.adds os _ h2 (fun p hp => ?_) ?_ fun p hp k hne hx i hi => ?_
 ·obtain ⟨q1, q2, q3⟩ := hos.one p.2 (List.mem_map.2 ⟨p, hp, rfl⟩)
  exact ⟨fun c x e => by rw [e] at q2; exact q2, q1, q3, fun _ i _ => Nat.zero_le i⟩
 ·have h3 := ZP hkeys
  have h4 := hos.two
  rw [List.pairwise_map] at h3 h4
  exact (h3.and h4).imp fun ⟨a, b⟩ => ⟨a, fun _ => b⟩
 ·have hM : YT (os.map Prod.snd) i := ⟨p.2, List.mem_map.2 ⟨p, hp, rfl⟩, hi⟩
  by_cases ek : k = KFr
  ·subst ek
   rw [QF]
   exact fun hi' => hi'.2 hM
  ·rw [Q5 _ _ ek]
   exact hoff k i hM
theorem qeR {P : Program} {B n : Nat} {w0 : World} {S : St} {a : Act} {w : World} (hr : Yb B w0 n S a w) {fn : Func} (v : Gh → Value) (g : Gh) (Ms Fs : List KV) (Es : Gh → List V5) (fr : Nat → Prop) (ks : List Nat) (segs : List (Nat × Seg))
  (hfr : fr = JG w0.heap.size Fs) (hcase : (B = w0.heap.size ∧ Ms = []) ∨ S KFr = frM Ms w0)
  (hks : ks.map S = (Es g).map (fun K => K fr)) (hnd : (Z9 ks && !(ks.contains KFr)) = true) (hE : ∀ K ∈ Es g, V5.OK K)
  (hk : (fn.results.toList).all (fun x => JX (S (Wk x))) = true)
  (hs : ∀ p ∈ segs, (∃ e, S p.1 = .blk p.2.b p.2.cs e) ∧ Nat.ble (p.2.off + p.2.m) p.2.cs.length = true)
  (hp : Z2 P (Zd fn (fun t => ZU S (.tmp t))) (qbs (segs.map (·.2))) [] = some (v g, qas (segs.map (·.2)))) :
  bodyPost P fn (fun e w' => ∃ g : Gh, e = .returned (v g) ∧ Y7 (YT Ms) w0 w' ∧ YD w0.heap.size (YT Ms) (JG w0.heap.size Fs) (Es g) w') .ret a w := by
 have hno : ∀ i, ¬ YT [] i := fun i ⟨K, hK, _⟩ => by cases hK
 have hbut : Y7 (YT Ms) w0 w := by
  rcases hcase with ⟨h1, h2⟩ | h1
  ·subst h2; exact ⟨hr.below.os, hr.below.tape, hr.below.output, hr.below.size, fun i hi _ => hr.below.block i (by omega)⟩
  ·have h2 := hr.holds KFr
   rw [h1] at h2
   exact ⟨hr.below.os, hr.below.tape, hr.below.output, hr.below.size, h2 w (agree.refl _ _)⟩
 simp only [Bool.and_eq_true, Bool.not_eq_true', List.contains_eq_mem, decide_eq_false_iff_not] at hnd
 have hmem : ∀ K ∈ Es g, ∃ k ∈ ks, S k = K fr := fun K hK => by
  have : K fr ∈ ks.map S := by rw [hks]; exact List.mem_map.2 ⟨K, hK, rfl⟩
  obtain ⟨k, hk, e⟩ := List.mem_map.1 this
  exact ⟨k, hk, e⟩
 refine ⟨hr.defers, v g, WC hr _ segs hk hs hp, g, rfl, hbut, fun K hK => ?_, ?_⟩
 ·obtain ⟨k, hkk, e⟩ := hmem K hK
  have hO := hE K hK
  have hh : (K fr).holds w := by rw [← e]; exact hr.holds k
  refine ⟨hO.up fr qi w hh fun _ _ _ => trivial, fun hx i hi => ?_, fun hx i hi => ?_⟩
  ·have hi' : (S k).fp i := by rw [e, hO.fp fr qi]; exact hi
   have hx' : (S k).excl := by rw [e]; exact (hO.ex _ _).1 hx
   rcases hcase with ⟨h1, h2⟩ | h1
   ·exact .inl (by have := hr.ge k i hx' hi'; omega)
   ·rcases Nat.lt_or_ge i w0.heap.size with hlt | hge
    ·refine .inr (Classical.byContradiction fun hM => ?_)
     exact hr.disj k KFr i (fun e => hnd.2 (e ▸ hkk)) hx' hi' (by rw [h1]; exact ⟨hlt, hM⟩)
    ·exact .inl hge
  ·rw [← hfr]
   exact hO.lo fr w (fun h => hx ((hO.ex _ _).1 h)) hh i (by rw [hO.fp fr qi]; exact hi)
 ·have h1 := ZP hnd.1
  have h2 : (ks.map S).Pairwise fun A A' => (A.excl ∨ A'.excl) → ∀ i, A.fp i → ¬ A'.fp i := by
   rw [List.pairwise_map]
   refine h1.imp fun {k k'} hne hx i hi hi' => ?_
   rcases hx with hx | hx
   ·exact hr.disj k k' i hne hx hi hi'
   ·exact hr.disj k' k i (Ne.symm hne) hx hi' hi
  rw [hks, List.pairwise_map] at h2
  refine h2.imp_of_mem fun {K K'} hK hK' hp hx i hi hi' => hp ?_ i (by rw [(hE K hK).fp fr qi]; exact hi) (by rw [(hE K' hK').fp fr qi]; exact hi')
  rcases hx with hx | hx
  ·exact .inl (((hE K hK).ex _ _).1 hx)
  ·exact .inr (((hE K' hK').ex _ _).1 hx)
end Go.Sx
set_option linter.unusedVariables false
set_option linter.unusedSimpArgs false
namespace Go.Sx
open Go Go.RowKit
structure Sl (G : Type) where
 p : Option Addr
 cap : Nat
 l : List G
structure Part (G : Type) where
 fp : G → Nat → Prop
 rd : World → G → Prop
 loc : ∀ w w' x, rd w x → agree (fp x) w w' → rd w' x
 inb : ∀ w x, rd w x → ∀ i, fp x i → i < w.heap.size
structure Enc (G : Type) extends Part G where
 sz : Nat
 en : G → List Value
 pos : 0 < sz
 len : ∀ x, (en x).length = sz
 one : ∀ x, (en x).all (·.oneCell') = true
def Part.tt {G : Type} : Part G := ⟨fun _ _ => False, fun _ _ => True, fun _ _ _ _ _ => trivial, fun _ _ _ _ h => h.elim⟩
def Part.and {G : Type} (A B : Part G) : Part G where
 fp x i := A.fp x i ∨ B.fp x i
 rd w x := A.rd w x ∧ B.rd w x
 loc w w' x h a := ⟨A.loc w w' x h.1 fun i hi => a i (.inl hi), B.loc w w' x h.2 fun i hi => a i (.inr hi)⟩
 inb w x h i hi := hi.elim (A.inb w x h.1 i) (B.inb w x h.2 i)
def Part.at {G H : Type} (A : Part H) (f : G → H) : Part G := ⟨fun x => A.fp (f x), fun w x => A.rd w (f x), fun w w' x => A.loc w w' (f x), fun w x => A.inb w (f x)⟩
def Enc.flat {G : Type} (sz : Nat) (en : G → List Value) (pos : 0 < sz) (len : ∀ x, (en x).length = sz) (one : ∀ x, (en x).all (·.oneCell') = true) : Enc G := { Part.tt with sz := sz, en := en, pos := pos, len := len, one := one }
def Enc.st {G : Type} (sz : Nat) (en : G → List Value) (A : Part G) (pos : 0 < sz) (len : ∀ x, (en x).length = sz) (one : ∀ x, (en x).all (·.oneCell') = true) : Enc G := { A with sz := sz, en := en, pos := pos, len := len, one := one }
def ql {G : Type} (x : Sl G) : List Value := [.slice x.p x.l.length x.cap]
theorem qk {G : Type} (x : Sl G) : (ql x).length = 1 := rfl
def fpL {G : Type} (E : Part G) (L : List G) (i : Nat) : Prop := ∃ y ∈ L, E.fp y i
def RdL {G : Type} (E : Part G) (w : World) (L : List G) : Prop := ∀ y ∈ L, E.rd w y
def Enc.row {G : Type} (E : Enc G) : Enc (Sl G) where
 fp x i := Je x.p x.l.length i ∨ fpL E.toPart x.l i
 rd w x := Xv w E.sz x.p x.l.length x.cap (x.l.flatMap E.en) ∧ RdL E.toPart w x.l
 loc w w' x h a := ⟨⟨h.1.1, h.1.2.agree fun i hi => a i (.inl hi)⟩, fun y hy => E.loc w w' y (h.2 y hy) fun i hi => a i (.inr ⟨y, hy, hi⟩)⟩
 inb w x h i hi := hi.elim (h.1.2.inb E.pos i) fun ⟨y, hy, hi⟩ => E.inb w y (h.2 y hy) i hi
 sz := 1
 en := ql
 pos := Nat.one_pos
 len := qk
 one _ := rfl
abbrev QA {G : Type} (fr : Nat → Prop) (E : Part G) (L : List G) : KV := .fact (fpL E L) (fun w => RdL E w L ∧ ∀ j, fpL E L j → fr j)
section
variable {G : Type} {w : World} {E : Part G} {L : List G} {fr : Nat → Prop}
theorem Qb (h : (QA fr E L).holds w) : RdL E w L := (h w (agree.refl _ _)).1
theorem qan (h : (QA fr E L).holds w) : ∀ j, fpL E L j → fr j := (h w (agree.refl _ _)).2
theorem RdL.agree {w' : World} (h : RdL E w L) (ha : agree (fpL E L) w w') : RdL E w' L := fun y hy => E.loc w w' y (h y hy) fun i hi => ha i ⟨y, hy, hi⟩
theorem RdL.inb (h : RdL E w L) (i : Nat) (hi : fpL E L i) : i < w.heap.size := by
 obtain ⟨y, hy, hi⟩ := hi
 exact E.inb w y (h y hy) i hi
theorem Zf (h : RdL E w L) (hf : ∀ j, fpL E L j → fr j) : (QA fr E L).holds w := fun w' ha => ⟨h.agree ha, hf⟩
theorem Xt (h : RdL E w L) (hf : ∀ j, fpL E L j → fr j) (k : Nat) : (∃ fp F, (k, QA fr E L).2 = .fact fp F) ∧ (QA fr E L).holds w ∧ ∀ i, (QA fr E L).fp i → i < w.heap.size :=
 ⟨⟨_, _, rfl⟩, Zf h hf, h.inb⟩
theorem Zw : RdL E w [] := fun y hy => by cases hy
theorem ZL {y : G} (h : E.rd w y) (r : RdL E w L) : RdL E w (y :: L) := fun z hz => by
 rcases List.mem_cons.1 hz with rfl | hz
 ·exact h
 ·exact r z hz
theorem JM {y : G} {i : Nat} (h : fpL E (y :: L) i) : E.fp y i ∨ fpL E L i := by
 obtain ⟨z, hz, hi⟩ := h
 rcases List.mem_cons.1 hz with rfl | hz
 ·exact .inl hi
 ·exact .inr ⟨z, hz, hi⟩
theorem qeI {y : G} (r : RdL E w L) (h : E.rd w y) : RdL E w (L ++ [y]) := fun z hz => by
 rcases List.mem_append.1 hz with hz | hz
 ·exact r z hz
 ·obtain rfl := List.mem_singleton.1 hz; exact h
theorem qcK {y : G} {i : Nat} (h : fpL E (L ++ [y]) i) : fpL E L i ∨ E.fp y i := by
 obtain ⟨z, hz, hi⟩ := h
 rcases List.mem_append.1 hz with hz | hz
 ·exact .inl ⟨z, hz, hi⟩
 ·obtain rfl := List.mem_singleton.1 hz; exact .inr hi
theorem qeH {y : G} {k : Nat} (r : RdL E w L) (h : E.rd w y) : RdL E w (L.set k y) := fun z hz => by
 rcases List.mem_or_eq_of_mem_set hz with hz | hz
 ·exact r z hz
 ·exact hz ▸ h
theorem qcS {y : G} {k i : Nat} (h : fpL E (L.set k y) i) : fpL E L i ∨ E.fp y i := by
 obtain ⟨z, hz, hi⟩ := h
 rcases List.mem_or_eq_of_mem_set hz with hz | hz
 ·exact .inl ⟨z, hz, hi⟩
 ·exact .inr (hz ▸ hi)
end
theorem qeD {G T : Type} {er : G → T} {x : List T} {L : List G} (h : x = L.map er) {i : Nat} {t : T} (ht : x[i]? = some t) : ∃ y, L[i]? = some y ∧ er y = t := by
 rw [h, List.getElem?_map] at ht
 exact Option.map_eq_some_iff.1 ht
theorem qD {G T : Type} {er : G → T} {x : List T} {L : List G} (h : x = L.map er) : x.length = L.length := by rw [h, List.length_map]
theorem ZX {G T : Type} {er : G → T} {x : List T} {L : List G} (h : x = L.map er) (y : G) {t : T} (ht : er y = t := by rfl) : x ++ [t] = (L ++ [y]).map er := by rw [h, List.map_append, ← ht]; rfl
theorem map_set {G T : Type} {er : G → T} {x : List T} {L : List G} (h : x = L.map er) (k : Nat) (y : G) {t : T} (ht : er y = t := by rfl) : x.set k t = (L.set k y).map er := by rw [h, List.map_set, ← ht]
theorem Jr {G T : Type} {er : G → T} (k : Nat) (y : G) {t : T} (ht : er y = t := by rfl) : List.replicate k t = (List.replicate k y).map er := by rw [List.map_replicate, ht]
open Classical in
noncomputable def Gh.dl {G T : Type} (er : G → T) (gd : T → G) (g : Gh) (j : Nat) (r : List T) : List G :=
 if h : (g.d j).1 = List G then (if (cast h (g.d j).2).map er = r then cast h (g.d j).2 else r.map gd) else r.map gd
theorem Xc {G T : Type} {er : G → T} {gd : T → G} (hgd : ∀ t, er (gd t) = t) (g : Gh) (j : Nat) (r : List T) : r = (g.dl er gd j r).map er := by
 have h0 : r = (r.map gd).map er := by rw [List.map_map]; exact (List.map_id'' hgd r).symm
 unfold Gh.dl
 split
 ·split
  ·rename_i h; exact h.symm
  ·exact h0
 ·exact h0
theorem qen {G T : Type} {er : G → T} {gd : T → G} {g : Gh} {j : Nat} {r : List T} {L : List G} (hg : g.d j = ⟨List G, L⟩) (hr : r = L.map er) : g.dl er gd j r = L := by
 unfold Gh.dl
 rw [hg]
 simp [hr]
theorem qcd {sz n cap : Nat} {p : Option Addr} {xs : List Value} (hs : 0 < sz) : V5.OK fun fr => rdF fr sz p n cap xs where
 fp _ _ := rfl
 ex _ _ := Iff.rfl
 sl _ _ _ h := by cases h
 up fr fr' w h hf := (Ql (qq h) (hf fun h => h) hs 0).2.1
 lo fr w _ h := qaX h
 inb fr w h := (qq h).2.inb hs
theorem Jc {G : Type} {E : Part G} {L : List G} : V5.OK fun fr => QA fr E L where
 fp _ _ := rfl
 ex _ _ := Iff.rfl
 sl _ _ _ h := by cases h
 up fr fr' w h hf := Zf (Qb h) (hf fun h => h)
 lo fr w _ h := qan h
 inb fr w h := (Qb h).inb
theorem X2 {e sz n cap : Nat} {p : Option Addr} {xs : List Value} : V5.OK fun _ => Yo e sz p n cap xs where
 fp _ _ := rfl
 ex _ _ := Iff.rfl
 sl _ _ _ h := by cases h
 up fr fr' w h hf := h
 lo fr w h := absurd trivial h
 inb fr w h i hi := (ZY (QN h) i hi).2
theorem qa6 {b e : Nat} {cs : List Value} : V5.OK fun _ => .blk b cs e where
 fp _ _ := rfl
 ex _ _ := Iff.rfl
 sl _ _ _ h := by cases h
 up fr fr' w h hf := h
 lo fr w h := absurd trivial h
 inb fr w h i hi := by
  have h' : w.heap[b]? = some (.cells cs.toArray e (0, 0)) := h
  have e' : i = b := hi
  subst e'
  exact (Array.getElem?_eq_some_iff.1 h').1
theorem qI : ∀ K ∈ ([] : List V5), V5.OK K := fun K h => by cases h
theorem qx {K : V5} {Es : List V5} (h : V5.OK K) (r : ∀ K ∈ Es, V5.OK K) : ∀ K' ∈ K :: Es, V5.OK K' := fun K' hK => by
 rcases List.mem_cons.1 hK with rfl | hK
 ·exact h
 ·exact r K' hK
theorem VH {fr : Nat → Prop} {Ks : List KV} {w : World} {b e : Nat} {cs : List Value} (h : w.heap[b]? = some (.cells cs.toArray e (0, 0))) {K : KV} (hm : K ∈ Ks) (hf : K.fp b) : qcn false fr Ks w (X7 b cs e) :=
 ⟨(Q3 h 0).2.1, fun i hi => ⟨K, hm, by have e' : i = b := hi; rw [e']; exact hf, fun h => by cases h⟩⟩
end Go.Sx
set_option linter.unusedVariables false
set_option linter.unusedSimpArgs false
namespace Go.Sx
open Go Go.RowKit
structure Yi {T : Type} (w : World) (e e2 sz : Nat) (en : T → List Value) (p : Option Addr) (m cap : Nat) (H L : List (Sl T)) : Prop where
 hd : w.ownsRow 0 e 1 (.slice p m cap) m (H.flatMap ql)
 inn : ∀ (i : Nat) x, L[i]? = some x → w.ownsRow 0 e2 sz (.slice x.p x.l.length x.cap) x.l.length (x.l.flatMap en)
 apart : ∀ (i j : Nat) x y, i ≠ j → L[i]? = some x → L[j]? = some y → ∀ b, Xm x.p b → ¬ Xm y.p b
 off : ∀ (i : Nat) x, L[i]? = some x → ∀ b, Xm x.p b → ¬ Xm p b
def Jy {T : Type} (p : Option Addr) (L : List (Sl T)) (b : Nat) : Prop := Xm p b ∨ ∃ (i : Nat) (x : Sl T), L[i]? = some x ∧ Xm x.p b
abbrev ZC {T : Type} (e e2 sz : Nat) (en : T → List Value) (p : Option Addr) (m cap : Nat) (H L : List (Sl T)) : KV := .own (Jy p L) (fun w => Yi w e e2 sz en p m cap H L)
section
variable {T : Type} {w : World} {e e2 sz : Nat} {en : T → List Value} {p : Option Addr} {m cap : Nat} {H L : List (Sl T)}
theorem qQ (h : (ZC e e2 sz en p m cap H L).holds w) : Yi w e e2 sz en p m cap H L := h w (agree.refl _ _)
theorem Yi.agree {w' : World} (h : Yi w e e2 sz en p m cap H L) (ha : agree (Jy p L) w w') : Yi w' e e2 sz en p m cap H L :=
 ⟨ZD h.hd fun i hi => ha i (.inl hi), fun i x hx => ZD (h.inn i x hx) fun b hb => ha b (.inr ⟨i, x, hx, hb⟩), h.apart, h.off⟩
theorem Yi.holds (h : Yi w e e2 sz en p m cap H L) : (ZC e e2 sz en p m cap H L).holds w := fun w' ha => h.agree ha
theorem Yi.lt (h : Yi w e e2 sz en p m cap H L) (b : Nat) (hb : Jy p L b) : b < w.heap.size := by
 rcases hb with hb | ⟨i, x, hx, hb⟩
 ·exact (ZY h.hd b hb).2
 ·exact (ZY (h.inn i x hx) b hb).2
theorem Yi.row (h : Yi w e e2 sz en p m cap H L) : Xv w 1 p m cap (H.flatMap ql) := qY h.hd
theorem Yi.len (h : Yi w e e2 sz en p m cap H L) : H.length = m := by have := h.hd.1; rw [ZK qk] at this; omega
theorem Yi.one (h : Yi w e e2 sz en p m cap H L) {i : Nat} {q : Option Addr} {c : Nat} {l : List T} (hx : L[i]? = some ⟨q, c, l⟩) : Xv w sz q l.length c (l.flatMap en) := qY (h.inn i _ hx)
theorem Yi.all {pos : 0 < sz} {len : ∀ x, (en x).length = sz} {one : ∀ x, (en x).all (·.oneCell') = true} (h : Yi w e e2 sz en p m cap H L) : RdL (Enc.flat sz en pos len one).row.toPart w L := fun y hy => by
 obtain ⟨i, hi⟩ := List.getElem?_of_mem hy
 exact ⟨qY (h.inn i y hi), fun _ _ => trivial⟩
theorem Yz {b : Nat} (h : Je p m b) : Jy p L b := .inl (Zm h)
theorem qdq {i b c : Nat} {q : Option Addr} {l : List T} (hx : L[i]? = some ⟨q, c, l⟩) (h : Je q l.length b) : Jy p L b := .inr ⟨i, _, hx, Zm h⟩
theorem Yw {pos : 0 < sz} {len : ∀ x, (en x).length = sz} {one : ∀ x, (en x).all (·.oneCell') = true} {b : Nat} (h : fpL (Enc.flat sz en pos len one).row.toPart L b) : Jy p L b := by
 obtain ⟨y, hy, hb⟩ := h
 obtain ⟨i, hi⟩ := List.getElem?_of_mem hy
 rcases hb with hb | ⟨z, _, hz⟩
 ·exact .inr ⟨i, y, hi, Zm hb⟩
 ·exact hz.elim
theorem QZ : V5.OK fun _ => ZC e e2 sz en p m cap H L where
 fp _ _ := rfl
 ex _ _ := Iff.rfl
 sl _ _ _ h := by cases h
 up fr fr' w h hf := h
 lo fr w h := absurd trivial h
 inb fr w h := (qQ h).lt
theorem J8 {w' : World} {base e sz n cap : Nat} {p : Option Addr} {xs : List Value} {fp : Nat → Prop} (h : w.ownsRow base e sz (.slice p n cap) n xs) (hb : Y7 fp w w') (hd : ∀ b, Xm p b → ¬ fp b) : w'.ownsRow base e sz (.slice p n cap) n xs :=
 ZD h fun b hb' => hb.block b (ZY h b hb').2 (hd b hb')
theorem qel : w.ownsRow 0 e sz (.slice none ([] : List T).length 0) ([] : List T).length (([] : List T).flatMap en) := ⟨by simp, .inl ⟨rfl, rfl⟩⟩
theorem qdC (hd : w.ownsRow 0 e 1 (.slice p m cap) m (H.flatMap ql)) (h0 : ∀ x ∈ H, x = (⟨none, 0, []⟩ : Sl T)) : Yi w e e2 sz en p m cap H H :=
 have hno : ∀ (i : Nat) (x : Sl T), H[i]? = some x → ∀ b, ¬ Xm x.p b := fun i x hx b hb => by
  rw [h0 x (List.mem_of_getElem? hx)] at hb
  obtain ⟨a, ha, _⟩ := hb; cases ha
 ⟨hd, fun i x hx => by rw [h0 x (List.mem_of_getElem? hx)]; exact qel, fun i j x y _ hx _ b hb => absurd hb (hno i x hx b), fun i x hx b hb => absurd hb (hno i x hx b)⟩
theorem qdB (h0 : ∀ x ∈ H, x = (⟨none, 0, []⟩ : Sl T)) {b : Nat} (h : Jy p H b) : Xm p b := by
 rcases h with h | ⟨i, x, hx, hb⟩
 ·exact h
 ·rw [h0 x (List.mem_of_getElem? hx)] at hb
  obtain ⟨a, ha, _⟩ := hb; cases ha
theorem Jt {k : Nat} : ∀ x ∈ List.replicate k (⟨none, 0, []⟩ : Sl T), x = ⟨none, 0, []⟩ := fun x hx => (List.mem_replicate.1 hx).2
theorem YO {α : Type} {L : List α} {i j : Nat} {x y : α} (h : (L.set i x)[j]? = some y) : (j = i ∧ y = x) ∨ (j ≠ i ∧ L[j]? = some y) := by
 rw [List.getElem?_set] at h
 by_cases e : i = j
 ·subst e
  rw [if_pos rfl] at h
  split at h
  ·exact .inl ⟨rfl, (Option.some.inj h).symm⟩
  ·cases h
 ·rw [if_neg e] at h
  exact .inr ⟨Ne.symm e, h⟩
theorem Yi.turn {w' : World} (N : Yi w e e2 sz en p m cap H L) {i : Nat} {x : Sl T} (hx : L[i]? = some x) {p' : Option Addr} {c' : Nat} {l' : List T}
  (ho : w'.ownsRow 0 e2 sz (.slice p' l'.length c') l'.length (l'.flatMap en)) (hb : Y7 (Xm x.p) w w') (hn : ∀ b, Xm p' b → w.heap.size ≤ b ∨ Xm x.p b) : Yi w' e e2 sz en p m cap H (L.set i ⟨p', c', l'⟩) where
 hd := J8 N.hd hb fun b h1 h2 => N.off i x hx b h2 h1
 inn j y hy := by
  rcases YO hy with ⟨_, rfl⟩ | ⟨hne, hy⟩
  ·exact ho
  ·exact J8 (N.inn j y hy) hb (N.apart j i y x hne hy hx)
 apart j k y z hjk hy hz b hby hbz := by
  rcases YO hy with ⟨e1, rfl⟩ | ⟨hne, hy⟩
  ·rcases YO hz with ⟨e2, rfl⟩ | ⟨hne, hz⟩
   ·exact hjk (e1.trans e2.symm)
   ·rcases hn b hby with h | h
    ·have := (ZY (N.inn k z hz) b hbz).2; omega
    ·exact N.apart i k x z (Ne.symm hne) hx hz b h hbz
  ·rcases YO hz with ⟨e2, rfl⟩ | ⟨hne', hz⟩
   ·rcases hn b hbz with h | h
    ·have := (ZY (N.inn j y hy) b hby).2; omega
    ·exact N.apart j i y x hne hy hx b hby h
   ·exact N.apart j k y z hjk hy hz b hby hbz
 off j y hy b hb1 hb2 := by
  rcases YO hy with ⟨_, rfl⟩ | ⟨hne, hy⟩
  ·rcases hn b hb1 with h | h
   ·have := (ZY N.hd b hb2).2; omega
   ·exact N.off i x hx b h hb2
  ·exact N.off j y hy b hb1 hb2
theorem qaC {i : Nat} {x : Sl T} (hx : L[i]? = some x) {p' : Option Addr} {c' : Nat} {l' : List T} (hn : ∀ b, Xm p' b → w.heap.size ≤ b ∨ Xm x.p b) {b : Nat} (h : Jy p (L.set i ⟨p', c', l'⟩) b) : w.heap.size ≤ b ∨ Jy p L b := by
 rcases h with h | ⟨j, y, hy, hb⟩
 ·exact .inr (.inl h)
 ·rcases YO hy with ⟨_, rfl⟩ | ⟨hne, hy⟩
  ·exact (hn b hb).imp id fun h => .inr ⟨i, x, hx, h⟩
  ·exact .inr (.inr ⟨j, y, hy, hb⟩)
theorem Yi.head {w' : World} {H' : List (Sl T)} {p' : Option Addr} {m' cap' : Nat} (N : Yi w e e2 sz en p m cap H L) (ho : w'.ownsRow 0 e 1 (.slice p' m' cap') m' (H'.flatMap ql)) (hb : Y7 (Xm p) w w') (hn : ∀ b, Xm p' b → w.heap.size ≤ b ∨ Xm p b) :
  Yi w' e e2 sz en p' m' cap' H' L where
 hd := ho
 inn j y hy := J8 (N.inn j y hy) hb (N.off j y hy)
 apart := N.apart
 off j y hy b h1 h2 := by
  rcases hn b h2 with h | h
  ·have := (ZY (N.inn j y hy) b h1).2; omega
  ·exact N.off j y hy b h1 h
theorem qaT {p' : Option Addr} (hn : ∀ b, Xm p' b → w.heap.size ≤ b ∨ Xm p b) {b : Nat} (h : Jy p' L b) : w.heap.size ≤ b ∨ Jy p L b := h.elim (fun h => (hn b h).imp id .inl) fun h => .inr (.inr h)
theorem Yi.takeSet (N : Yi w e e2 sz en p m cap H L) {q : Option Addr} {c : Nat} {l : List T} (ho : w.ownsRow 0 e2 sz (.slice q l.length c) l.length (l.flatMap en)) (hd : ∀ b, Xm q b → ¬ Jy p L b) (i : Nat) : Yi w e e2 sz en p m cap H (L.set i ⟨q, c, l⟩) where
 hd := N.hd
 inn j y hy := by
  rcases YO hy with ⟨_, rfl⟩ | ⟨hne, hy⟩
  ·exact ho
  ·exact N.inn j y hy
 apart j k y z hjk hy hz b hby hbz := by
  rcases YO hy with ⟨e1, rfl⟩ | ⟨hne, hy⟩
  ·rcases YO hz with ⟨e2, rfl⟩ | ⟨hne, hz⟩
   ·exact hjk (e1.trans e2.symm)
   ·exact hd b hby (.inr ⟨k, z, hz, hbz⟩)
  ·rcases YO hz with ⟨e2, rfl⟩ | ⟨hne', hz⟩
   ·exact hd b hbz (.inr ⟨j, y, hy, hby⟩)
   ·exact N.apart j k y z hjk hy hz b hby hbz
 off j y hy b hb1 hb2 := by
  rcases YO hy with ⟨_, rfl⟩ | ⟨hne, hy⟩
  ·exact hd b hb1 (.inl hb2)
  ·exact N.off j y hy b hb1 hb2
theorem Ji {α : Type} {L : List α} {j : Nat} {x y : α} (h : (L ++ [x])[j]? = some y) : (j = L.length ∧ y = x) ∨ (j < L.length ∧ L[j]? = some y) := by
 by_cases e : j < L.length
 ·rw [List.getElem?_append_left e] at h; exact .inr ⟨e, h⟩
 ·rw [List.getElem?_append_right (by omega)] at h
  have := (List.getElem?_eq_some_iff.1 h).1
  simp only [List.length_singleton] at this
  have e' : j - L.length = 0 := by omega
  rw [e'] at h
  exact .inl ⟨by omega, (Option.some.inj h).symm⟩
theorem Yi.takeApp (N : Yi w e e2 sz en p m cap H L) {q : Option Addr} {c : Nat} {l : List T} (ho : w.ownsRow 0 e2 sz (.slice q l.length c) l.length (l.flatMap en)) (hd : ∀ b, Xm q b → ¬ Jy p L b) : Yi w e e2 sz en p m cap H (L ++ [⟨q, c, l⟩]) where
 hd := N.hd
 inn j y hy := by
  rcases Ji hy with ⟨_, rfl⟩ | ⟨_, hy⟩
  ·exact ho
  ·exact N.inn j y hy
 apart j k y z hjk hy hz b hby hbz := by
  rcases Ji hy with ⟨e1, rfl⟩ | ⟨_, hy⟩
  ·rcases Ji hz with ⟨e2, rfl⟩ | ⟨_, hz⟩
   ·exact hjk (e1.trans e2.symm)
   ·exact hd b hby (.inr ⟨k, z, hz, hbz⟩)
  ·rcases Ji hz with ⟨e2, rfl⟩ | ⟨_, hz⟩
   ·exact hd b hbz (.inr ⟨j, y, hy, hby⟩)
   ·exact N.apart j k y z hjk hy hz b hby hbz
 off j y hy b hb1 hb2 := by
  rcases Ji hy with ⟨_, rfl⟩ | ⟨_, hy⟩
  ·exact hd b hb1 (.inl hb2)
  ·exact N.off j y hy b hb1 hb2
theorem qea {q : Option Addr} {c i : Nat} {l : List T} {b : Nat} (h : Jy p (L.set i ⟨q, c, l⟩) b) : Jy p L b ∨ Xm q b := by
 rcases h with h | ⟨j, y, hy, hb⟩
 ·exact .inl (.inl h)
 ·rcases YO hy with ⟨_, rfl⟩ | ⟨hne, hy⟩
  ·exact .inr hb
  ·exact .inl (.inr ⟨j, y, hy, hb⟩)
theorem qbD {q : Option Addr} {c : Nat} {l : List T} {b : Nat} (h : Jy p (L ++ [⟨q, c, l⟩]) b) : Jy p L b ∨ Xm q b := by
 rcases h with h | ⟨j, y, hy, hb⟩
 ·exact .inl (.inl h)
 ·rcases Ji hy with ⟨_, rfl⟩ | ⟨_, hy⟩
  ·exact .inr hb
  ·exact .inl (.inr ⟨j, y, hy, hb⟩)
theorem Yi.repool (N : Yi w e e2 sz en p m cap H L) {L' : List (Sl T)} (σ : Nat → Nat) (hσ : ∀ i x, L'[i]? = some x → L[σ i]? = some x) (hi : ∀ i j, σ i = σ j → i = j) : Yi w e e2 sz en p m cap H L' :=
 ⟨N.hd, fun i x hx => N.inn _ x (hσ i x hx), fun i j x y hne hx hy => N.apart _ _ x y (fun e => hne (hi i j e)) (hσ i x hx) (hσ j y hy), fun i x hx => N.off _ x (hσ i x hx)⟩
theorem qbI {L' : List (Sl T)} (σ : Nat → Nat) (hσ : ∀ i x, L'[i]? = some x → L[σ i]? = some x) {b : Nat} (h : Jy p L' b) : Jy p L b := by
 rcases h with h | ⟨i, x, hx, hb⟩
 ·exact .inl h
 ·exact .inr ⟨σ i, x, hσ i x hx, hb⟩
def qam (k j i : Nat) : Nat := if i = j then k else if i = k then j else i
theorem qc4 {k l i j : Nat} (h : qam k l i = qam k l j) : i = j := by
 unfold qam at h
 split at h <;> split at h <;> (try split at h) <;> (try split at h) <;> omega
theorem qbF {α : Type} {L : List α} {k l : Nat} {a b : α} (ha : L[k]? = some a) (hb : L[l]? = some b) : ∀ i x, ((L.set k b).set l a)[i]? = some x → L[qam k l i]? = some x := fun i x h => by
 unfold qam
 rcases YO h with ⟨e, rfl⟩ | ⟨e, h⟩
 ·rw [if_pos e]; exact ha
 ·rw [if_neg e]
  rcases YO h with ⟨e', rfl⟩ | ⟨e', h⟩
  ·rw [if_pos e']; exact hb
  ·rw [if_neg e']; exact h
end
theorem Yb.conv {B n : Nat} {w0 : World} {S : St} {a : Act} {w : World} (h : Yb B w0 n S a w) (k : Nat) {K : KV} (K' : KV) (hk : S k = K) (hx : K.excl) (hs : ∀ c x, K' ≠ .slot c x) (hK : ∀ w, K.holds w → K'.holds w) (hf : ∀ i, K'.fp i → K.fp i) : Yb B w0 n (Z5 S k K') a w := by
 have hf' : ∀ i, K'.fp i → (S k).fp i := fun i hi => by rw [hk]; exact hf i hi
 have hx' : (S k).excl := by rw [hk]; exact hx
 have h0 : Yb B w0 n (Z5 S k .none) a w := h.weak fun j => by
  by_cases e : j = k
  ·subst e; rw [QF]; exact .inl rfl
  ·rw [Q5 _ _ e]; exact .inr rfl
 have h1 := h0.ent k K' hs (hK w (by rw [← hk]; exact h.holds k)) (fun i hi => h.inb k i (hf' i hi)) (fun _ i hi => h.ge k i hx' (hf' i hi)) (fun k' i hne _ hi hi' => by
  rw [Q5 _ _ hne] at hi'
  exact h.disj k k' i (Ne.symm hne) hx' (hf' i hi) hi')
 refine h1.congr fun j => ?_
 by_cases e : j = k
 ·subst e; rw [QF, QF]
 ·rw [Q5 _ _ e, Q5 _ _ e, Q5 _ _ e]
theorem Yb.addF {B n : Nat} {w0 : World} {S : St} {a : Act} {w : World} (h : Yb B w0 n S a w) (k : Nat) (K : KV) (ks : List Nat) (Ks : List KV) (hks : ks.map S = Ks) (hnx : ¬ K.excl) (hs : ∀ c x, K ≠ .slot c x) (hK : Yj Ks w → K.holds w) (hf : Yj Ks w → ∀ i, K.fp i → Jo Ks i) : Yb B w0 n (Z5 S k K) a w := by
 have hA : Yj Ks w := by rw [← hks]; exact V6 h ks
 have hq : ∀ i, K.fp i → ∃ j ∈ ks, ¬ (S j).excl ∧ (S j).fp i := fun i hi => by
  obtain ⟨K', hK', h1, h2⟩ := hf hA i hi
  rw [← hks] at hK'
  obtain ⟨j, hj, rfl⟩ := List.mem_map.1 hK'
  exact ⟨j, hj, h1, h2⟩
 refine h.ent k K hs (hK hA) (fun i hi => ?_) (fun hx => absurd hx hnx) fun k' i hne hx hi hi' => ?_
 ·obtain ⟨j, _, _, h2⟩ := hq i hi
  exact h.inb j i h2
 ·obtain ⟨j, _, h1, h2⟩ := hq i hi
  have hx := hx.resolve_left hnx
  exact h.disj k' j i (fun e => h1 (e ▸ hx)) hx hi' h2
theorem Yb.add0 {B n : Nat} {w0 : World} {S : St} {a : Act} {w : World} (h : Yb B w0 n S a w) (k : Nat) (K : KV) (hs : ∀ c x, K ≠ .slot c x) (hK : K.holds w) (hf : ∀ i, ¬ K.fp i) : Yb B w0 n (Z5 S k K) a w :=
 h.ent k K hs hK (fun i hi => absurd hi (hf i)) (fun _ i hi => absurd hi (hf i)) fun k' i _ _ hi => absurd hi (hf i)
theorem Yb.move {B n : Nat} {w0 : World} {S : St} {a : Act} {w : World} (h : Yb B w0 n S a w) (k k2 : Nat) {K : KV} (hk : S k = K) (hs : ∀ c x, K ≠ .slot c x) : Yb B w0 n (Z5 (Z5 S k .none) k2 K) a w := by
 have h0 : Yb B w0 n (Z5 S k .none) a w := h.weak fun j => by
  by_cases e : j = k
  ·subst e; rw [QF]; exact .inl rfl
  ·rw [Q5 _ _ e]; exact .inr rfl
 refine h0.ent k2 K hs (by rw [← hk]; exact h.holds k) (fun i hi => h.inb k i (by rw [hk]; exact hi)) (fun hx i hi => h.ge k i (by rw [hk]; exact hx) (by rw [hk]; exact hi)) fun k' i hne hx hi hi' => ?_
 by_cases e : k' = k
 ·subst e; rw [QF] at hi'; exact hi'
 ·rw [Q5 _ _ e] at hx hi'
  rcases hx with hx | hx
  ·exact h.disj k k' i (Ne.symm e) (by rw [hk]; exact hx) (by rw [hk]; exact hi) hi'
  ·exact h.disj k' k i e hx hi' (by rw [hk]; exact hi)
theorem Yb.denest {T : Type} {B n : Nat} {w0 : World} {S : St} {a : Act} {w : World} {e e2 sz m cap : Nat} {en : T → List Value} {p : Option Addr} {L : List (Sl T)} (h : Yb B w0 n S a w) (k k2 : Nat) (fr : Nat → Prop) (pos : 0 < sz) (len : ∀ x, (en x).length = sz) (one : ∀ x, (en x).all (·.oneCell') = true) (hf : ∀ j, B ≤ j → fr j) (hk : S k = ZC e e2 sz en p m cap L L) (hne : k2 ≠ k) :
  Yb B w0 n (Z5 (Z5 S k2 (QA fr (Enc.flat sz en pos len one).row.toPart L)) k (Yo e 1 p m cap (L.flatMap ql))) a w := by
 have hN : Yi w e e2 sz en p m cap L L := qQ (by rw [← hk]; exact h.holds k)
 have hx : (S k).excl := by rw [hk]; trivial
 have h1 := h.conv k (Yo e 1 p m cap (L.flatMap ql)) hk trivial (by intro c x h; cases h) (fun w hw => fun w' ha => ZD (qQ hw).hd ha) (fun i hi => .inl hi)
 have hfp : ∀ i, fpL (Enc.flat sz en pos len one).row.toPart L i → (S k).fp i := fun i hi => by rw [hk]; exact Yw hi
 have h2 := h1.ent k2 (QA fr (Enc.flat sz en pos len one).row.toPart L) (by intro c x h; cases h) (Zf hN.all fun j hj => hf j (h.ge k j hx (hfp j hj))) (fun i hi => h.inb k i (hfp i hi)) (fun h => h.elim) fun k' i hne' hx' hi hi' => by
  have hx' := hx'.resolve_left fun h => h
  by_cases e : k' = k
  ·subst e
   rw [QF] at hi'
   obtain ⟨y, hy, hb⟩ := hi
   obtain ⟨j, hj⟩ := List.getElem?_of_mem hy
   rcases hb with hb | ⟨z, _, hz⟩
   ·exact hN.off j y hj i (Zm hb) hi'
   ·exact hz
  ·rw [Q5 _ _ e] at hi'
   exact h.disj k k' i (Ne.symm e) hx (hfp i hi) hi'
 refine h2.congr fun j => ?_
 by_cases e : j = k
 ·subst e; rw [QF, Q5 _ _ (Ne.symm hne), QF]
 ·rw [Q5 _ _ e]
  by_cases e2 : j = k2
  ·subst e2; rw [QF, QF]
  ·rw [Q5 _ _ e2, Q5 _ _ e2, Q5 _ _ e]
section
variable {P : Program} {ops : Array Oper} {B : Nat} {w0 : World} {n i : Nat} {o : Oper} {Spre : Nu → St}
theorem qaW {N : Nat} {M F : Nat → Prop} {w' : World} {k : Nat} {K : KV} (hs : ∀ c x, K ≠ .slot c x) (hh : K.holds w') (hi : ∀ i, K.fp i → i < w'.heap.size) (hf : ∀ i, K.fp i → N ≤ i ∨ M i) (hMF : ∀ i, M i → F i) : qbY N M F [(k, K)] w' :=
 ⟨fun p hp => by obtain rfl := List.mem_singleton.1 hp; exact ⟨hs, hh, hi, fun _ => hf, fun _ i h => (hf i h).imp id (hMF i)⟩, List.pairwise_singleton _ _⟩
theorem VY {K : KV} {i : Nat} : YT [K] i ↔ K.fp i := ⟨fun ⟨K', h, hi⟩ => by obtain rfl := List.mem_singleton.1 h; exact hi, fun h => ⟨K, by simp, h⟩⟩
theorem Xs (J : List Nat) (ks : List Nat) (Ks : Nu → List KV) (k : Nat) (K : Nu → KV) (d : Option Nat) (v : Nu → Gh → Value) (K' : Nu → Gh → KV)
  (hv : ∀ ν w, Yj (Ks ν) w → (K ν).holds w → ∃ g w', (execOp (Y4 (Spre ν)) o).run P w = .ok (qde d (v ν g)) w' ∧ Y7 (K ν).fp w w' ∧ (K' ν g).holds w' ∧ (∀ i, (K' ν g).fp i → i < w'.heap.size) ∧ ∀ i, (K' ν g).fp i → w.heap.size ≤ i ∨ (K ν).fp i)
  (hs : ∀ ν g c x, K' ν g ≠ .slot c x := by intro _ _ _ _ h; cases h)
  (hloc : ∀ ν ν', (∀ j ∈ J, ν j = ν' j) → Ks ν = Ks ν' ∧ K ν = K ν' ∧ v ν = v ν' ∧ K' ν = K' ν' := by exact fun _ _ _ => ⟨rfl, rfl, rfl, rfl⟩)
  (hK : ∀ ν, ks.map (Spre ν) = Ks ν := by intro _; kernel_rfl) (hJs : ∀ ν, Spre ν k = K ν := by intro _; kernel_rfl) (hx : ∀ ν, WA (K ν) = true := by intro _; kernel_rfl)
  (hkeys : (Nat.ble n k && !(ks.contains k)) = true := by rfl)
  (hd : o.dst = d := by rfl) (hdn : (match d with | some t => Nat.blt t n | none => true) = true := by rfl) (hsel : YZ o = true := by rfl) (hg : o.guard = none := by rfl)
  (hk : ∀ ν, (o.op.operands.all (XQ (Spre ν))) = true := by intro _; kernel_rfl) (hp : ∀ ν, (X6 o (Spre ν)).all id = true := by intro _; kernel_rfl) :
  OpOK P ops B w0 n i o Spre (tks J ++ ks ++ [k] ++ X5 ops o) (fun ν => WG d (v ν (ν i)) ++ (VA [k] ++ [(k, K' ν (ν i))])) := by
 refine qa1 J ks Ks [k] (fun ν => [K ν]) d v (fun ν g => [(k, K' ν g)]) (fun ν w hF hO => ?_) (fun ν ν' h => ?_) hK (fun ν => by rw [List.map_singleton, hJs ν]) (fun ν => by simp [hx ν]) (by simpa [Z9] using hkeys) hd hdn hsel hg hk hp
 ·obtain ⟨g, w', h1, h2, h3, h4, h5⟩ := hv ν w hF (hO.one (K ν) (by simp)).1
  exact ⟨g, w', h1, h2.mono fun i h => VY.2 h, qaW (hs ν g) h3 h4 (fun i h => (h5 i h).imp id fun h => VY.2 h) fun i h => .inl h⟩
 ·obtain ⟨h1, h2, h3, h4⟩ := hloc ν ν' h
  exact ⟨h1, by simp only [h2], h3, by simp only [h4]⟩
theorem Jg (J : List Nat) (ks : List Nat) (Ks : Nu → List KV) (k k2 : Nat) (K K2 : Nu → KV) (d : Option Nat) (v : Nu → Gh → Value) (K' : Nu → Gh → KV)
  (hv : ∀ ν w, Yj (Ks ν) w → (K ν).holds w → (K2 ν).holds w → (∀ b, (K2 ν).fp b → ¬ (K ν).fp b ∧ b < w.heap.size) → ∃ g w', (execOp (Y4 (Spre ν)) o).run P w = .ok (qde d (v ν g)) w' ∧ Y7 (K ν).fp w w' ∧ (K' ν g).holds w' ∧ (∀ i, (K' ν g).fp i → i < w'.heap.size) ∧ ∀ i, (K' ν g).fp i → w.heap.size ≤ i ∨ (K ν).fp i ∨ (K2 ν).fp i)
  (hs : ∀ ν g c x, K' ν g ≠ .slot c x := by intro _ _ _ _ h; cases h)
  (hloc : ∀ ν ν', (∀ j ∈ J, ν j = ν' j) → Ks ν = Ks ν' ∧ K ν = K ν' ∧ K2 ν = K2 ν' ∧ v ν = v ν' ∧ K' ν = K' ν' := by exact fun _ _ _ => ⟨rfl, rfl, rfl, rfl, rfl⟩)
  (hK : ∀ ν, ks.map (Spre ν) = Ks ν := by intro _; kernel_rfl) (hJs : ∀ ν, Spre ν k = K ν := by intro _; kernel_rfl) (hJ2 : ∀ ν, Spre ν k2 = K2 ν := by intro _; kernel_rfl) (hx : ∀ ν, (WA (K ν) && WA (K2 ν)) = true := by intro _; kernel_rfl)
  (hkeys : (Nat.ble n k && Nat.ble n k2 && !(ks.contains k) && !(ks.contains k2) && !(Nat.beq k k2)) = true := by rfl)
  (hd : o.dst = d := by rfl) (hdn : (match d with | some t => Nat.blt t n | none => true) = true := by rfl) (hsel : YZ o = true := by rfl) (hg : o.guard = none := by rfl)
  (hk : ∀ ν, (o.op.operands.all (XQ (Spre ν))) = true := by intro _; kernel_rfl) (hp : ∀ ν, (X6 o (Spre ν)).all id = true := by intro _; kernel_rfl) :
  OpOK P ops B w0 n i o Spre (tks J ++ ks ++ [k, k2] ++ X5 ops o) (fun ν => WG d (v ν (ν i)) ++ (VA [k, k2] ++ [(k, K' ν (ν i))])) := by
 have hne : k ≠ k2 := fun e => by
  subst e
  simp [show Nat.beq k k = true from Nat.beq_refl k] at hkeys
 refine qa1 J ks Ks [k, k2] (fun ν => [K ν, K2 ν]) d v (fun ν g => [(k, K' ν g)]) (fun ν w hF hO => ?_) (fun ν ν' h => ?_) hK (fun ν => by rw [List.map_cons, List.map_singleton, hJs ν, hJ2 ν]) (fun ν => by have := hx ν; simpa using this) ?_ hd hdn hsel hg hk hp
 ·have q2 := hO.one (K2 ν) (by simp)
  obtain ⟨g, w', h1, h2, h3, h4, h5⟩ := hv ν w hF (hO.one (K ν) (by simp)).1 q2.1 fun b hb => ⟨fun hb' => by
   have := hO.two
   rw [List.pairwise_cons] at this
   exact this.1 (K2 ν) (by simp) b hb' hb, q2.2.2 b hb⟩
  exact ⟨g, w', h1, h2.mono fun i h => ⟨K ν, by simp, h⟩, qaW (hs ν g) h3 h4 (fun i h => (h5 i h).imp id fun h => h.elim (fun h => ⟨K ν, by simp, h⟩) fun h => ⟨K2 ν, by simp, h⟩) fun i h => .inl h⟩
 ·obtain ⟨h1, h2, h3, h4, h5⟩ := hloc ν ν' h
  exact ⟨h1, by simp only [h2, h3], h4, by simp only [h5]⟩
 ·have hkeys' := hkeys
  simp only [Bool.and_eq_true, Bool.not_eq_true', Nat.ble_eq] at hkeys'
  obtain ⟨⟨⟨⟨a1, a2⟩, a3⟩, a4⟩, _⟩ := hkeys'
  simp [Z9, hne, a1, a2]
  constructor
  ·simpa using a3
  ·simpa using a4
theorem Vq (J : List Nat) (ks : List Nat) (Ks : Nu → List KV) (k kf : Nat) (K : Nu → KV) (d : Option Nat) (v : Nu → Gh → Value) (K' F' : Nu → Gh → KV)
  (hv : ∀ ν w, Yj (Ks ν) w → (K ν).holds w → ∃ g w', (execOp (Y4 (Spre ν)) o).run P w = .ok (qde d (v ν g)) w' ∧ Y7 (K ν).fp w w' ∧ (K' ν g).holds w' ∧ (∀ i, (K' ν g).fp i → i < w'.heap.size) ∧ (∀ i, (K' ν g).fp i → w.heap.size ≤ i ∨ (K ν).fp i) ∧
   (F' ν g).holds w ∧ ∀ i, (F' ν g).fp i → Jo (Ks ν) i ∧ i < w.heap.size)
  (hs : ∀ ν g c x, K' ν g ≠ .slot c x := by intro _ _ _ _ h; cases h) (hs2 : ∀ ν g, (∀ c x, F' ν g ≠ .slot c x) ∧ ¬ (F' ν g).excl := by exact fun _ _ => ⟨(fun _ _ h => by cases h), (fun h => h)⟩)
  (hloc : ∀ ν ν', (∀ j ∈ J, ν j = ν' j) → Ks ν = Ks ν' ∧ K ν = K ν' ∧ v ν = v ν' ∧ K' ν = K' ν' ∧ F' ν = F' ν' := by exact fun _ _ _ => ⟨rfl, rfl, rfl, rfl, rfl⟩)
  (hK : ∀ ν, ks.map (Spre ν) = Ks ν := by intro _; kernel_rfl) (hJs : ∀ ν, Spre ν k = K ν := by intro _; kernel_rfl) (hx : ∀ ν, WA (K ν) = true := by intro _; kernel_rfl)
  (hkeys : (Nat.ble n k && !(ks.contains k) && !(Nat.beq k kf)) = true := by rfl)
  (hd : o.dst = d := by rfl) (hdn : (match d with | some t => Nat.blt t n | none => true) = true := by rfl) (hsel : YZ o = true := by rfl) (hg : o.guard = none := by rfl)
  (hk : ∀ ν, (o.op.operands.all (XQ (Spre ν))) = true := by intro _; kernel_rfl) (hp : ∀ ν, (X6 o (Spre ν)).all id = true := by intro _; kernel_rfl) :
  OpOK P ops B w0 n i o Spre (tks J ++ ks ++ [k] ++ X5 ops o) (fun ν => WG d (v ν (ν i)) ++ (VA [k] ++ [(k, K' ν (ν i)), (kf, F' ν (ν i))])) := by
 have hne : k ≠ kf := fun e => by
  subst e
  simp [show Nat.beq k k = true from Nat.beq_refl k] at hkeys
 simp only [Bool.and_eq_true, Bool.not_eq_true', Nat.ble_eq] at hkeys
 refine qa1 J ks Ks [k] (fun ν => [K ν]) d v (fun ν g => [(k, K' ν g), (kf, F' ν g)]) (fun ν w hF hO => ?_) (fun ν ν' h => ?_) hK (fun ν => by rw [List.map_singleton, hJs ν]) (fun ν => by simp [hx ν]) ?_ hd hdn hsel hg hk hp
 ·obtain ⟨g, w', h1, h2, h3, h4, h5, h6, h7⟩ := hv ν w hF (hO.one (K ν) (by simp)).1
  have hoff : ∀ i, (F' ν g).fp i → ¬ (K ν).fp i := fun i hi hi' => by
   obtain ⟨C, hC, _, hCi⟩ := (h7 i hi).1
   exact hO.off (K ν) (by simp) C hC i hi' hCi
  refine ⟨g, w', h1, h2.mono fun i h => VY.2 h, ?_, ?_⟩
  ·intro p hp
   rcases List.mem_cons.1 hp with rfl | hp
   ·exact ⟨hs ν g, h3, h4, fun _ i h => (h5 i h).imp id fun h => VY.2 h, fun _ i h => (h5 i h).imp id fun h => .inl (VY.2 h)⟩
   ·obtain rfl := List.mem_singleton.1 hp
    exact ⟨(hs2 ν g).1, KV.holds_agree h6 fun i hi => h2.block i (h7 i hi).2 (hoff i hi), fun i hi => Nat.lt_of_lt_of_le (h7 i hi).2 h2.size, fun hx => absurd hx (hs2 ν g).2, fun _ i hi => .inr (.inr (h7 i hi).1)⟩
  ·refine .cons (fun p hp => ?_) (List.pairwise_singleton _ _)
   obtain rfl := List.mem_singleton.1 hp
   exact ⟨hne, fun _ i hi hi' => (h5 i hi).elim (fun h => by have := (h7 i hi').2; omega) fun h => hoff i hi' h⟩
 ·obtain ⟨h1, h2, h3, h4, h5⟩ := hloc ν ν' h
  exact ⟨h1, by simp only [h2], h3, by simp only [h4, h5]⟩
 ·simp [Z9]
  exact ⟨hkeys.1.1, by simpa using hkeys.1.2⟩
end
end Go.Sx
set_option linter.unusedVariables false
set_option linter.unusedSimpArgs false
namespace Go.Sx
open Go Go.RowKit
section
variable {P : Program} {ops : Array Oper} {B : Nat} {w0 : World} {n i : Nat} {o : Oper} {Spre : Nu → St}
end
theorem qat {T : Type} {P : Program} {w : World} {t ty e : TypeId} {sz bytes : Nat} {zc : List Value} {en : T → List Value} {l m : List T} {p p2 : Option Addr} {cap cap2 : Nat} {s : Sem Next} (hen : ∀ x, (en x).length = sz) (hone : ∀ x, (en x).all (·.oneCell') = true) (I : Inf P e sz bytes zc)
  (hown : w.ownsRow 0 e sz (.slice p l.length cap) l.length (l.flatMap en)) (R : Zu w sz p2 m.length (m.flatMap en)) (hm : 0 < m.length ∧ m.length < 1000000 ∧ l.length < 1000000)
  (hs : s = Sem.bind (Builtin.append_ #[t, t] ty #[.slice p l.length cap, .slice p2 m.length cap2]) fun v => Sem.pure (Next.value v))
  (ht : P.underlying t = some (.slice e) := by kernel_rfl) (hsz : 0 < sz := by decide) (hby : bytes ≤ 100000 := by decide) (hz : zc.length = sz := by rfl) :
  ∃ p' cap' w', s.run P w = .ok (.value (.slice p' (l ++ m).length cap')) w' ∧ w'.ownsRow 0 e sz (.slice p' (l ++ m).length cap') (l ++ m).length ((l ++ m).flatMap en) ∧ Y7 (Xm p) w w' ∧ ∀ j, Xm p' j → w.heap.size ≤ j ∨ Xm p j := by
 obtain ⟨i, z, hi, hz0, hi1, hi2, hz2⟩ := I.parts
 subst hs
 rcases R.2 with h0 | ⟨b2, off, rfl, hc⟩
 ·omega
 rw [List.length_append, List.flatMap_append]
 exact Zb (P := P) (ty := ty) ht hi hz0 hi1 hi2 (by rw [← hz, ← hz2]; simp) hsz hown (a := ⟨b2, off, none⟩) (c := cap2) (news := m.flatMap en) (ZK hen m) hm.1 (fun j u hu => by rw [Addr.add_lit]; exact hc j u hu)
  (fun u hu => by
   obtain ⟨x, _, hx⟩ := List.mem_flatMap.1 hu
   exact List.all_eq_true.1 (hone x) u hx) (by omega) hby
theorem qbb {P : Program} {w : World} {t ty e : TypeId} {sz n cap cap2 : Nat} {p p2 : Option Addr} (ht : P.underlying t = some (.slice e)) (hi : (P.info? e).map (·.size) = some sz) (hc : n ≤ cap) :
  (Builtin.append_ #[t, t] ty #[.slice p n cap, .slice p2 0 cap2]).run P w = .ok (.slice p n cap) w := by
 have hu := run_underlying (P := P) (w := w) ht
 have hz := JC (P := P) (w := w) hi
 have h0 : (Builtin.lenOf (.slice p2 0 cap2)).run P w = .ok 0 w := rfl
 have hf : (Builtin.firstCells sz 0 (.slice p2 0 cap2)).run P w = .ok #[] w := by
  cases p2 with
  | none => rfl
  | some a => simp [Builtin.firstCells, loadCells, loadCellsFrom, Sem.run]
 unfold Builtin.append_
 cases p with
 | none => simp [hu, hz, h0, hc, hf]
 | some a => simp [hu, hz, h0, hc, hf, storeCells]
theorem qbe {T : Type} {P : Program} {w : World} {t ty e : TypeId} {sz bytes : Nat} {zc : List Value} {en : T → List Value} {l m : List T} {p p2 : Option Addr} {cap cap2 : Nat} {s : Sem Next} (hen : ∀ x, (en x).length = sz) (hone : ∀ x, (en x).all (·.oneCell') = true) (I : Inf P e sz bytes zc)
  (hown : w.ownsRow 0 e sz (.slice p l.length cap) l.length (l.flatMap en)) (R : Zu w sz p2 m.length (m.flatMap en)) (hm : m.length < 1000000 ∧ l.length < 1000000)
  (hs : s = Sem.bind (Builtin.append_ #[t, t] ty #[.slice p l.length cap, .slice p2 m.length cap2]) fun v => Sem.pure (Next.value v))
  (ht : P.underlying t = some (.slice e) := by kernel_rfl) (hsz : 0 < sz := by decide) (hby : bytes ≤ 100000 := by decide) (hz : zc.length = sz := by rfl) :
  ∃ p' cap' w', s.run P w = .ok (.value (.slice p' (l ++ m).length cap')) w' ∧ w'.ownsRow 0 e sz (.slice p' (l ++ m).length cap') (l ++ m).length ((l ++ m).flatMap en) ∧ Y7 (Xm p) w w' ∧ ∀ j, Xm p' j → w.heap.size ≤ j ∨ Xm p j := by
 rcases Nat.eq_zero_or_pos m.length with h0 | h0
 ·obtain rfl := List.eq_nil_of_length_eq_zero h0
  obtain ⟨i, z, hi, hz0, hi1, hi2, hz2⟩ := I.parts
  subst hs
  refine ⟨p, cap, w, qbm ?_, by simpa using hown, ⟨rfl, rfl, rfl, Nat.le_refl _, fun _ _ _ => rfl⟩, fun j h => .inr h⟩
  rw [List.append_nil]
  exact qbb ht (by rw [hi]; exact congrArg some hi1) (qai hown)
 ·exact qat hen hone I hown R ⟨h0, hm⟩ hs ht hsz hby hz
theorem Xv.cut {w : World} {sz n cap c : Nat} {p : Option Addr} {xs : List Value} (h : Xv w sz p n cap xs) (hc : n ≤ c) : Xv w sz p n c xs := ⟨hc, h.2⟩
theorem qbK {T : Type} {P : Program} {w : World} {t e sz cap : Nat} {en : T → List Value} {l : List T} {p : Option Addr} {k : IntKind} {hi : Int} {s : Sem Next} (hown : w.ownsRow 0 e sz (.slice p l.length cap) l.length (l.flatMap en)) (hh : hi = 0)
  (hs : s = Sem.bind (Instr.sliceAt t (.slice p l.length cap) none (some (.int k hi)) none) fun v => Sem.pure (Next.value v))
  (ht : P.underlying t = some (.slice (P.elem t)) := by kernel_rfl) (he : (P.info? (P.elem t)).map (·.size) = some sz := by kernel_rfl) :
  ∃ p' cap' w', s.run P w = .ok (.value (.slice p' ([] : List T).length cap')) w' ∧ w'.ownsRow 0 e sz (.slice p' ([] : List T).length cap') ([] : List T).length (([] : List T).flatMap en) ∧ Y7 (Xm p) w w' ∧ ∀ j, Xm p' j → w.heap.size ≤ j ∨ Xm p j := by
 subst hh
 have hr := qeh (P := P) (w := w) (t := t) (sz := sz) (cap := cap) (p := p) (l := l) (k := k) (hi := 0) hs ⟨Int.le_refl _, by omega⟩ (qai hown) ht he
 refine ⟨p, cap, w, hr, ?_, ⟨rfl, rfl, rfl, Nat.le_refl _, fun _ _ _ => rfl⟩, fun j hj => .inr hj⟩
 refine ⟨by simp, ?_⟩
 rcases hown.2 with ⟨hv, h0⟩ | ⟨g, c, cur, hv, hb, hg, hn, hm, hsz, htk⟩
 ·injection hv with h1 h2 h3
  subst h1 h3
  exact .inl ⟨rfl, rfl⟩
 ·injection hv with h1 _ h3
  subst h1 h3
  exact .inr ⟨g, cap, cur, rfl, hb, hg, by simp, hm, hsz, by simp⟩
theorem W7 {T : Type} {en : T → List Value} {sz : Nat} (hen : ∀ x, (en x).length = sz) (z : T) (zc : Array Value) (hz : zc.toList = en z) (hs : 0 < sz) (n : Nat) : (Builtin.zeroCells zc n).toList = (List.replicate n z).flatMap en := by
 have hzs : zc.size = sz := by rw [← hen z, ← hz, Array.length_toList]
 rw [← J6 hen z zc hz hs n, ← hzs]
 rfl
theorem VD {T : Type} {P : Program} {w : World} {t tn ty e : TypeId} {sz bytes : Nat} {zc : List Value} {en : T → List Value} {z : T} {k kn : IntKind} {m : Int} {s : Sem Next} (hen : ∀ x, (en x).length = sz) (I : Inf P e sz bytes zc) (hz : zc = en z) (hm : 0 < m ∧ m < 1000000)
  (hs : s = Sem.bind (Builtin.append_ #[t, tn] ty #[.slice none 0 0, .int k m]) fun v => Sem.pure (Next.value v)) (ht : P.underlying t = some (.slice e) := by kernel_rfl) (htn : P.underlying tn = some (.int kn) := by kernel_rfl) (hsz : 0 < sz := by decide) (hby : bytes ≤ 100000 := by decide) :
  ∃ p' cap' w', s.run P w = .ok (.value (.slice p' (List.replicate m.toNat z).length cap')) w' ∧ w'.ownsRow 0 e sz (.slice p' (List.replicate m.toNat z).length cap') (List.replicate m.toNat z).length ((List.replicate m.toNat z).flatMap en) ∧ Y7 (fun _ => False) w w' ∧ ∀ j, Xm p' j → w.heap.size ≤ j ∨ False := by
 obtain ⟨i, zv, hi, hz0, hi1, hi2, hz2⟩ := I.parts
 subst hs
 obtain ⟨c, rfl⟩ : ∃ c : Nat, m = (c : Int) := ⟨m.toNat, by omega⟩
 rw [List.length_replicate, Int.toNat_natCast]
 have hc : c < 1000000 := by omega
 have hcb : c * i.bytes ≤ 281474976710656 := by
  rw [hi2]
  have := Nat.mul_le_mul (Nat.le_of_lt hc) hby
  omega
 have hr := Lib.run_append_nil_zeros (P := P) w t tn ty e i zv k kn ht htn hi hz0 c (by omega) (by omega) (by omega) hcb
 have hflat := W7 hen z zv.cells (by rw [hz2, hz]) hsz
 have hge := grownCap_ge w c 0 e
 have hle := grownCap_le_maxLen w c 0 e (by simp only [maxLen]; omega)
 have hzs : zv.cells.size = sz := by rw [← hen z, ← hz, ← hz2, Array.length_toList]
 refine ⟨_, _, _, qbm hr, ⟨?_, .inr ⟨w.heap.size, grownCap w c 0 e, _, rfl, Nat.zero_le _, World.alloc_heap_new w.drew _, hge, hle, ?_, ?_⟩⟩, ⟨rfl, rfl, rfl, ?_, fun j hj _ => ?_⟩, fun j hj => ?_⟩
 ·rw [ZK hen, List.length_replicate]
 ·simp only [Array.size_append, size_zeroCells, hzs, ← Nat.add_mul]
  congr 1
  omega
 ·rw [Array.toList_append, hflat c]
  have : ((List.replicate c z).flatMap en).length = c * sz := by rw [ZK hen, List.length_replicate]
  rw [← this, List.take_append_of_le_length (Nat.le_refl _), List.take_length]
 ·show w.heap.size ≤ (w.heap.push _).size
  rw [Array.size_push]; omega
 ·show (w.heap.push _)[j]? = _
  rw [Array.getElem?_push_lt hj, Array.getElem?_eq_getElem hj]
 ·obtain ⟨a, ha, rfl⟩ := hj
  obtain rfl := Option.some.inj ha
  exact .inl (Nat.le_refl _)
section
variable {P : Program} {ops : Array Oper} {B : Nat} {w0 : World} {n i : Nat} {o : Oper} {Spre : Nu → St}
end
end Go.Sx
namespace Go.Sx
open Go Go.RowKit
end Go.Sx
