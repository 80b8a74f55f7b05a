/- Sx: words and proofs for walking code by symbolic states (the part 'SyZ'). Own work, the same for every seat. -/
import Derived.Test.YtglcmhldonkfdaaDoorSyT
set_option linter.unusedVariables false
namespace Go.Sx
open Go Go.RowKit
abbrev vI (n : Int) : Value := .int .i64 n
abbrev vP (b o : Nat) : Value := .pointer (some ⟨b, o, none⟩)
abbrev sI (n : Int) : KV := .slot true (.int .i64 n)
abbrev sB (b : Bool) : KV := .slot true (.bool b)
abbrev sP (b o : Nat) : KV := .slot true (.pointer (some ⟨b, o, none⟩))
abbrev sS (p : Option Addr) (n c : Nat) : KV := .slot true (.slice p n c)
abbrev rdl {T : Type} (fr : Nat → Prop) (sz : Nat) (p : Option Addr) (c : Nat) (l : List T) (en : T → List Value) : KV := rdF fr sz p l.length c (l.flatMap en)
theorem Rep.toM {B n : Nat} {w0 : World} {S : St} {a : Act} {w : World} (h : Rep B w0 n S a w) (l : List (Nat × KV)) (hl : l.map (fun p => S p.1) = l.map (fun p => p.2) := by kernel_rfl) : Rep B w0 n (ofL l) a w := h.toL l hl
def kpS : List Nat → St → St
  | [], _ => fun _ => .none
  | k :: r, S => fun i => bif Nat.beq i k then S i else kpS r S i
theorem kpS_or (S : St) (k : Nat) : ∀ l : List Nat, kpS l S k = .none ∨ kpS l S k = S k
  | [] => .inl rfl
  | j :: r => by
    show (bif Nat.beq k j then S k else kpS r S k) = .none ∨ (bif Nat.beq k j then S k else kpS r S k) = S k
    cases Nat.beq k j with
    | true => exact .inr rfl
    | false => exact kpS_or S k r
theorem Rep.kp {B n : Nat} {w0 : World} {S : St} {a : Act} {w : World} (h : Rep B w0 n S a w) (l : List Nat) : Rep B w0 n (kpS l S) a w := h.weak fun k => kpS_or S k l
section
variable {P : Program} {ops : Array Oper} {B : Nat} {w0 : World} {n : Nat}
theorem Chain.v {i : Nat} {o : Oper} {rest : List Oper} {S Se : Nu → St} {rw : List (List Nat × List Nat)} (d : Nat) (v : Value) (t : Chain P ops B w0 n (i + 1) rest (fun ν => updAll (S ν) [(d, .slot true v)]) rw Se)
    (hd : o.dst = some d := by rfl) (hdn : Nat.blt d n = true := by rfl) (hsel : noSel o = true := by rfl) (hg : o.guard = none := by rfl)
    (hk : ∀ ν, (o.op.operands.all (knownB (S ν))) = true := by intro _; kernel_rfl) (hp : ∀ ν, (condsOf o (S ν)).all id = true := by intro _; kernel_rfl)
    (hv : ∀ ν w, (execOp (envU (S ν)) o).run P w = .ok (.value v) w := by intro _ _; kernel_rfl) (hT : tokOK i (tmpsOf ops o) = true := by kernel_rfl) : Chain P ops B w0 n i (o :: rest) S ((tmpsOf ops o, [d]) :: rw) Se :=
  .cons [d] (ok_val (fun _ => v) d hd hdn hsel hg hk hp hv) t (fun _ => rfl) hT
end
theorem k_rg {P : Program} {N R : K} {xs : List (Nat × K)} {a : Act} {w : World} {B n id : Nat} {w0 : World} {ops : Array Oper} {draw : Bool} {S0 : St} {Se : Nu → St} {rw : List (List Nat × List Nat)} (hm : P.follows .mixedOrders = true)
    (hr : Rep B w0 n S0 a w) (hc : Chain P ops B w0 n 0 ops.toList (fun _ => S0) rw Se) (hQ : ∀ ν a w, Rep B w0 n (Se ν) a w → N a w)
    (hi : (!draw || (indep ops.toList rw [] && forward ops.toList 0)) = true := by kernel_rfl) : (Code.region id ops draw).wp P (mkQ N xs R) a w := k_reg hm hr hc hi hQ
end Go.Sx
