/- The program's functions as plain Lean functions, printed out of the program by a program of this session. -/
import GoSem.Core.View
set_option linter.unusedVariables false
namespace Go.Proofs.YtkkodieceehkmaaDoor
/-! Words of the printed functions. -/
abbrev w_i64 (n : Int) : Int := Go.IntKind.wrap .i64 n
abbrev w_i32 (n : Int) : Int := Go.IntKind.wrap .i32 n
abbrev w_i16 (n : Int) : Int := Go.IntKind.wrap .i16 n
abbrev w_i8 (n : Int) : Int := Go.IntKind.wrap .i8 n
abbrev w_u64 (n : Int) : Int := Go.IntKind.wrap .u64 n
abbrev w_u32 (n : Int) : Int := Go.IntKind.wrap .u32 n
abbrev w_u16 (n : Int) : Int := Go.IntKind.wrap .u16 n
abbrev w_u8 (n : Int) : Int := Go.IntKind.wrap .u8 n
abbrev mn (x y : Int) : Int := if y < x then y else x
abbrev mx (x y : Int) : Int := if y > x then y else x
def b_and (k : Go.IntKind) (x y : Int) : Int := k.wrap ((BitVec.ofInt k.bits x) &&& (BitVec.ofInt k.bits y)).toNat
def b_or (k : Go.IntKind) (x y : Int) : Int := k.wrap ((BitVec.ofInt k.bits x) ||| (BitVec.ofInt k.bits y)).toNat
def b_xor (k : Go.IntKind) (x y : Int) : Int := k.wrap ((BitVec.ofInt k.bits x) ^^^ (BitVec.ofInt k.bits y)).toNat
def b_andNot (k : Go.IntKind) (x y : Int) : Int := k.wrap ((BitVec.ofInt k.bits x) &&& ~~~(BitVec.ofInt k.bits y)).toNat
def strAt (s : ByteArray) (i : Int) : Option Int := if h : 0 ≤ i ∧ i < s.size then some ((s[i.toNat]'(by omega)).toNat : Int) else none
structure TInterval where
  Lo : Int
  Hi : Int
deriving Inhabited, DecidableEq
structure TNode where
  Op : Int
  N : Int
  C : TInterval
deriving Inhabited, DecidableEq
structure TGuard where
  F : List TNode
  Dir : Int
deriving Inhabited, DecidableEq
structure Tvalues where
  whole : TInterval
  start : TInterval
  end_ : TInterval
deriving Inhabited, DecidableEq
structure TSegment where
  T : Int
  H : Int
  From : List TInterval
  Pre : List TInterval
  Tube : List TInterval
  To : List TInterval
deriving Inhabited, DecidableEq
structure TTimeStep where
  T : Int
  H : Int
deriving Inhabited, DecidableEq
structure Tbuilder where
  raw : List TNode
  n : Int
deriving Inhabited, DecidableEq
structure TInput where
  F : List TNode
  Dir : Int
  N : Int
  A : List TInterval
  B : List TInterval
  C : List TInterval
  G : TTimeStep
  P : List Int
deriving Inhabited, DecidableEq
structure TA2_Int where
  e0 : Int
  e1 : Int
deriving Inhabited, DecidableEq

/-! armillary/interval.Entire: function 61 -/
def interval_Entire : Option (TInterval) :=
  some (⟨(-2147483648), 2147483648⟩ : TInterval)

/-! armillary/interval.IsEntire: function 86 -/
def interval_IsEntire (a0 : TInterval) : Option (Bool) :=
  (interval_Entire).bind fun t3 =>
  some ((a0.Lo == t3.Lo) && ((a0.Hi == t3.Hi) && true))

/-! armillary/fixed.Valid: function 98 -/
def fixed_Valid (a0 : Int) : Option (Bool) :=
  some ((decide ((-2147483648) < a0)) && (decide (a0 < 2147483648)))

/-! armillary/interval.Valid: function 79 -/
def interval_Valid (a0 : TInterval) : Option (Bool) :=
  (interval_IsEntire a0).bind fun t3 =>
  (if (t3 == false) = true then fixed_Valid a0.Lo else some default).bind fun t4 =>
  (if ((t3 == false) && (t4 == true)) = true then fixed_Valid a0.Hi else some default).bind fun t5 =>
  some (t3 || ((t4 && t5) && (decide (a0.Lo ≤ a0.Hi))))

/-! armillary/ode.arity: function 80 -/
def ode_arity (a0 : Int) : Option (Int) :=
  if ((decide (a0 ≥ 1)) && (decide (a0 ≤ 3))) = true then
    some 0
  else
    if ((decide (a0 ≥ 4)) && (decide (a0 ≤ 6))) = true then
      some 1
    else
      if ((decide (a0 ≥ 7)) && (decide (a0 ≤ 10))) = true then
        some 2
      else
        some (-1)

/-! armillary/ode.validNode: function 53 -/
def ode_validNode (a0 : TNode) (a1 : Int) : Option (Bool) :=
  if (a0.Op == 1) = true then
    (if ((a0.N == 0) == true) = true then interval_Valid (⟨a0.C.Lo, a0.C.Hi⟩ : TInterval) else some default).bind fun t5 =>
    some ((a0.N == 0) && t5)
  else
    if (a0.Op == 2) = true then
      (some (((decide (a0.N ≥ 0)) && (decide (a0.N < a1))) && ((a0.C.Lo == 0) && ((a0.C.Hi == 0) && true)))).bind fun z8 =>
      some z8
    else
      (ode_arity a0.Op).bind fun t10 =>
      some (((decide (t10 ≥ 0)) && (a0.N == 0)) && ((a0.C.Lo == 0) && ((a0.C.Hi == 0) && true)))

/-! armillary/ode.exprLen: function 54 -/
def ode_exprLen.l8 (k0 : Nat) (a0 : List TNode) : Nat → Int → Int → Option ((Int) ⊕ (Unit))
  | 0, _, _ => none
  | k + 1, x6, x7 =>
    if (decide (x7 < (a0.length : Int))) = true then
      if 0 ≤ x7 ∧ x7 < (a0.length : Int) then
        (a0[x7.toNat]?).bind fun t12 =>
        (ode_arity t12.Op).bind fun t14 =>
        if ((w_i64 (x6 + (w_i64 (t14 - 1)))) == 0) = true then
          some (.inl (w_i64 (x7 + 1)))
        else
          ode_exprLen.l8 k0 a0 k (w_i64 (x6 + (w_i64 (t14 - 1)))) (w_i64 (x7 + 1))
      else none
    else
      some (.inr ())
def ode_exprLen (k0 : Nat) (a0 : List TNode) : Option (Int) :=
  (ode_exprLen.l8 k0 a0 k0 1 0).bind fun j3 => match j3 with
  | .inl r => some r
  | .inr j3v =>
    some (w_i64 ((a0.length : Int) + 1))

/-! armillary/ode.ValidExpr$1: function 52 -/
def ode_ValidExpr_1 (a0 : TNode) (q1_0 : Int) : Option (Bool) :=
  (ode_validNode (⟨a0.Op, a0.N, (⟨a0.C.Lo, a0.C.Hi⟩ : TInterval)⟩ : TNode) q1_0).bind fun t3 =>
  some (!t3)

/-! slices.IndexFunc[[]armillary/api.Node,armillary/api.Node]: function 78 -/
def api_Node_78_s52.l6 (k0 : Nat) (a0 : List TNode) (q1_0 : Int) : Nat → Int → Option ((Int) ⊕ (Unit))
  | 0, _ => none
  | k + 1, x5 =>
    if (decide (x5 < (a0.length : Int))) = true then
      if 0 ≤ x5 ∧ x5 < (a0.length : Int) then
        (a0[x5.toNat]?).bind fun t11 =>
        (ode_ValidExpr_1 t11 q1_0).bind fun t12 =>
        if t12 = true then
          some (.inl x5)
        else
          api_Node_78_s52.l6 k0 a0 q1_0 k (w_i64 (x5 + 1))
      else none
    else
      some (.inr ())
def api_Node_78_s52 (k0 : Nat) (a0 : List TNode) (q1_0 : Int) : Option (Int) :=
  (api_Node_78_s52.l6 k0 a0 q1_0 k0 0).bind fun j2 => match j2 with
  | .inl r => some r
  | .inr j2v =>
    some (-1)

/-! slices.ContainsFunc[[]armillary/api.Node,armillary/api.Node]: function 51 -/
def api_Node_51_s52 (k0 : Nat) (a0 : List TNode) (q1_0 : Int) : Option (Bool) :=
  (api_Node_78_s52 k0 a0 q1_0).bind fun t3 =>
  some (decide (t3 ≥ 0))

/-! armillary/ode.ValidExpr: function 31 -/
def ode_ValidExpr (k0 : Nat) (a0 : List TNode) (a1 : Int) : Option (Bool) :=
  (if (((decide ((a0.length : Int) > 0)) && (decide ((a0.length : Int) ≤ 200))) == true) = true then api_Node_51_s52 k0 a0 a1 else some default).bind fun t3 =>
  (if ((((decide ((a0.length : Int) > 0)) && (decide ((a0.length : Int) ≤ 200))) && (!t3)) == true) = true then ode_exprLen k0 a0 else some default).bind fun t4 =>
  (some ((((decide ((a0.length : Int) > 0)) && (decide ((a0.length : Int) ≤ 200))) && (!t3)) && (t4 == (a0.length : Int)))).bind fun z5 =>
  some z5

/-! armillary/guard.Valid: function 10 -/
def guard_Valid (k0 : Nat) (a0 : TGuard) (a1 : Int) : Option (Bool) :=
  (some ((((decide (a1 ≥ 1)) && (decide (a1 ≤ 6))) && (decide (a0.Dir ≥ (-1)))) && (decide (a0.Dir ≤ 1)))).bind fun z3 =>
  (if (z3 == true) = true then ode_ValidExpr k0 a0.F a1 else some default).bind fun t4 =>
  some (z3 && t4)

/-! armillary/interval.New: function 89 -/
def interval_New (a0 : Int) (a1 : Int) : Option (TInterval) :=
  (some (((decide (a0 ≤ (-2147483648))) || (decide (a1 ≥ 2147483648))) || (decide (a0 ≥ 2147483648)))).bind fun z3 =>
  if (z3 || (decide (a1 ≤ (-2147483648)))) = true then
    (interval_Entire).bind fun t5 =>
    some t5
  else
    some (⟨a0, a1⟩ : TInterval)

/-! armillary/interval.Add: function 82 -/
def interval_Add (a0 : TInterval) (a1 : TInterval) : Option (TInterval) :=
  (interval_IsEntire a0).bind fun t3 =>
  (if (t3 == false) = true then interval_IsEntire a1 else some default).bind fun t4 =>
  if (t3 || t4) = true then
    (interval_Entire).bind fun t6 =>
    some t6
  else
    (interval_New (w_i64 (a0.Lo + a1.Lo)) (w_i64 (a0.Hi + a1.Hi))).bind fun t8 =>
    some t8

/-! armillary/interval.Neg: function 59 -/
def interval_Neg (a0 : TInterval) : Option (TInterval) :=
  some (⟨w_i64 (0 - a0.Hi), w_i64 (0 - a0.Lo)⟩ : TInterval)

/-! armillary/interval.Sub: function 83 -/
def interval_Sub (a0 : TInterval) (a1 : TInterval) : Option (TInterval) :=
  (interval_Neg a1).bind fun t3 =>
  (interval_Add a0 t3).bind fun t4 =>
  some t4

/-! armillary/fixed.divide$1: function 105 -/
def fixed_divide_1 (a0 : Int) : Option (Int) :=
  some (mn a0 1)

/-! armillary/fixed.floorCeil[int64]: function 104 -/
def fixed_floorCeil_int64_s105 (a0 : Int) (a1 : Int) : Option (Int × Int) :=
  if a1 ≠ 0 then
    if a1 ≠ 0 then
      (if (decide ((Int.tmod a0 a1) < 0)) = true then
        some (w_i64 ((w_i64 (Int.tdiv a0 a1)) - 1), w_i64 ((Int.tmod a0 a1) + a1))
      else
        some (w_i64 (Int.tdiv a0 a1), Int.tmod a0 a1)).bind fun (j7 : Int × Int) =>
      (fixed_divide_1 j7.2).bind fun t9 =>
      some (j7.1, w_i64 (j7.1 + t9))
    else none
  else none

/-! armillary/fixed.divide: function 102 -/
def fixed_divide (a0 : Int) (a1 : Int) : Option (Int × Int) :=
  (if (decide (a1 < 0)) = true then
    some (w_i64 (0 - a0), w_i64 (0 - a1))
  else
    some (a0, a1)).bind fun (j4 : Int × Int) =>
  (fixed_floorCeil_int64_s105 j4.1 j4.2).bind fun t6 =>
  some (t6.1, t6.2)

/-! armillary/fixed.Mul: function 88 -/
def fixed_Mul (a0 : Int) (a1 : Int) : Option (Int × Int) :=
  (fixed_divide (w_i64 (a0 * a1)) 65536).bind fun t3 =>
  some (t3.1, t3.2)

/-! armillary/interval.side: function 99 -/
def interval_side (a0 : TInterval) : Option (Int) :=
  if (decide (a0.Hi ≤ 0)) = true then
    some 0
  else
    if (decide (a0.Lo ≥ 0)) = true then
      some 2
    else
      some 1

/-! armillary/interval.hh: function 123 -/
def interval_hh (a0 : TInterval) (a1 : TInterval) : Option (Int × Int) :=
  some (a0.Hi, a1.Hi)

/-! armillary/interval.ll: function 124 -/
def interval_ll (a0 : TInterval) (a1 : TInterval) : Option (Int × Int) :=
  some (a0.Lo, a1.Lo)

/-! armillary/interval.lh: function 125 -/
def interval_lh (a0 : TInterval) (a1 : TInterval) : Option (Int × Int) :=
  some (a0.Lo, a1.Hi)

/-! armillary/interval.hl: function 126 -/
def interval_hl (a0 : TInterval) (a1 : TInterval) : Option (Int × Int) :=
  some (a0.Hi, a1.Lo)

/-! armillary/interval.Mul: function 84 -/
def interval_Mul (a0 : TInterval) (a1 : TInterval) : Option (TInterval) :=
  (interval_IsEntire a0).bind fun t3 =>
  (if (t3 == false) = true then interval_IsEntire a1 else some default).bind fun t4 =>
  if (t3 || t4) = true then
    (interval_Entire).bind fun t6 =>
    some t6
  else
    (interval_side a0).bind fun t8 =>
    (interval_side a1).bind fun t9 =>
    if ((t8 == 1) && (t9 == 1)) = true then
      (fixed_Mul a0.Lo a1.Hi).bind fun t12 =>
      (fixed_Mul a0.Hi a1.Lo).bind fun t14 =>
      (fixed_Mul a0.Lo a1.Lo).bind fun t16 =>
      (fixed_Mul a0.Hi a1.Hi).bind fun t18 =>
      (interval_New (mn t12.1 t14.1) (mx t16.2 t18.2)).bind fun t20 =>
      some t20
    else
      if t8 = 0 then
        if t9 = 0 then
          (interval_hh a0 a1).bind fun t23 =>
          (fixed_Mul t23.1 t23.2).bind fun t24 =>
          (interval_ll a0 a1).bind fun t26 =>
          (fixed_Mul t26.1 t26.2).bind fun t27 =>
          (interval_New t24.1 t27.2).bind fun t29 =>
          some t29
        else
        if t9 = 1 then
          (interval_lh a0 a1).bind fun t32 =>
          (fixed_Mul t32.1 t32.2).bind fun t33 =>
          (interval_ll a0 a1).bind fun t35 =>
          (fixed_Mul t35.1 t35.2).bind fun t36 =>
          (interval_New t33.1 t36.2).bind fun t38 =>
          some t38
        else
        if t9 = 2 then
          (interval_lh a0 a1).bind fun t41 =>
          (fixed_Mul t41.1 t41.2).bind fun t42 =>
          (interval_hl a0 a1).bind fun t44 =>
          (fixed_Mul t44.1 t44.2).bind fun t45 =>
          (interval_New t42.1 t45.2).bind fun t47 =>
          some t47
        else
        none
      else
      if t8 = 1 then
        if t9 = 0 then
          (interval_hl a0 a1).bind fun t53 =>
          (fixed_Mul t53.1 t53.2).bind fun t54 =>
          (interval_ll a0 a1).bind fun t56 =>
          (fixed_Mul t56.1 t56.2).bind fun t57 =>
          (interval_New t54.1 t57.2).bind fun t59 =>
          some t59
        else
        if t9 = 1 then
          none
        else
        if t9 = 2 then
          (interval_lh a0 a1).bind fun t63 =>
          (fixed_Mul t63.1 t63.2).bind fun t64 =>
          (interval_hh a0 a1).bind fun t66 =>
          (fixed_Mul t66.1 t66.2).bind fun t67 =>
          (interval_New t64.1 t67.2).bind fun t69 =>
          some t69
        else
        none
      else
      if t8 = 2 then
        if t9 = 0 then
          (interval_hl a0 a1).bind fun t75 =>
          (fixed_Mul t75.1 t75.2).bind fun t76 =>
          (interval_lh a0 a1).bind fun t78 =>
          (fixed_Mul t78.1 t78.2).bind fun t79 =>
          (interval_New t76.1 t79.2).bind fun t81 =>
          some t81
        else
        if t9 = 1 then
          (interval_hl a0 a1).bind fun t84 =>
          (fixed_Mul t84.1 t84.2).bind fun t85 =>
          (interval_hh a0 a1).bind fun t87 =>
          (fixed_Mul t87.1 t87.2).bind fun t88 =>
          (interval_New t85.1 t88.2).bind fun t90 =>
          some t90
        else
        if t9 = 2 then
          (interval_ll a0 a1).bind fun t93 =>
          (fixed_Mul t93.1 t93.2).bind fun t94 =>
          (interval_hh a0 a1).bind fun t96 =>
          (fixed_Mul t96.1 t96.2).bind fun t97 =>
          (interval_New t94.1 t97.2).bind fun t99 =>
          some t99
        else
        none
      else
      none

/-! armillary/interval.pick[int]: function 72 -/
def interval_pick_int (a0 : Bool) (a1 : Int) (a2 : Int) : Option (Int) :=
  if a0 = true then
    some a1
  else
    some a2

/-! armillary/interval.Contains: function 100 -/
def interval_Contains (a0 : TInterval) (a1 : Int) : Option (Bool) :=
  (interval_IsEntire a0).bind fun t3 =>
  some (t3 || ((decide (a0.Lo ≤ a1)) && (decide (a1 ≤ a0.Hi))))

/-! armillary/fixed.Div: function 101 -/
def fixed_Div (a0 : Int) (a1 : Int) : Option (Int × Int × Int) :=
  if (a1 == 0) = true then
    some (0, 0, 3)
  else
    (fixed_divide (w_i64 (a0 * 65536)) a1).bind fun t5 =>
    some (t5.1, t5.2, 0)

/-! armillary/interval.Div: function 85 -/
def interval_Div (a0 : TInterval) (a1 : TInterval) : Option (TInterval) :=
  (interval_IsEntire a0).bind fun t3 =>
  (if (t3 == false) = true then interval_IsEntire a1 else some default).bind fun t4 =>
  (if ((t3 || t4) == false) = true then interval_Contains a1 0 else some default).bind fun t5 =>
  if ((t3 || t4) || t5) = true then
    (interval_Entire).bind fun t7 =>
    some t7
  else
    (interval_side a0).bind fun t9 =>
    if t9 = 0 then
      (interval_pick_int (decide (a1.Lo > 0)) 1 0).bind fun t10 =>
      if t10 = 0 then
        (interval_hl a0 a1).bind fun t12 =>
        (fixed_Div t12.1 t12.2).bind fun t13 =>
        (interval_lh a0 a1).bind fun t15 =>
        (fixed_Div t15.1 t15.2).bind fun t16 =>
        (interval_New t13.1 t16.2.1).bind fun t18 =>
        some t18
      else
      if t10 = 1 then
        (interval_ll a0 a1).bind fun t12 =>
        (fixed_Div t12.1 t12.2).bind fun t13 =>
        (interval_hh a0 a1).bind fun t15 =>
        (fixed_Div t15.1 t15.2).bind fun t16 =>
        (interval_New t13.1 t16.2.1).bind fun t18 =>
        some t18
      else
      none
    else
    if t9 = 1 then
      (interval_pick_int (decide (a1.Lo > 0)) 1 0).bind fun t10 =>
      if t10 = 0 then
        (interval_hh a0 a1).bind fun t12 =>
        (fixed_Div t12.1 t12.2).bind fun t13 =>
        (interval_lh a0 a1).bind fun t15 =>
        (fixed_Div t15.1 t15.2).bind fun t16 =>
        (interval_New t13.1 t16.2.1).bind fun t18 =>
        some t18
      else
      if t10 = 1 then
        (interval_ll a0 a1).bind fun t12 =>
        (fixed_Div t12.1 t12.2).bind fun t13 =>
        (interval_hl a0 a1).bind fun t15 =>
        (fixed_Div t15.1 t15.2).bind fun t16 =>
        (interval_New t13.1 t16.2.1).bind fun t18 =>
        some t18
      else
      none
    else
    if t9 = 2 then
      (interval_pick_int (decide (a1.Lo > 0)) 1 0).bind fun t10 =>
      if t10 = 0 then
        (interval_hh a0 a1).bind fun t12 =>
        (fixed_Div t12.1 t12.2).bind fun t13 =>
        (interval_ll a0 a1).bind fun t15 =>
        (fixed_Div t15.1 t15.2).bind fun t16 =>
        (interval_New t13.1 t16.2.1).bind fun t18 =>
        some t18
      else
      if t10 = 1 then
        (interval_lh a0 a1).bind fun t12 =>
        (fixed_Div t12.1 t12.2).bind fun t13 =>
        (interval_hl a0 a1).bind fun t15 =>
        (fixed_Div t15.1 t15.2).bind fun t16 =>
        (interval_New t13.1 t16.2.1).bind fun t18 =>
        some t18
      else
      none
    else
    none

/-! armillary/ode.binaryOps: function 57 -/

/-! armillary/interval.Mag: function 87 -/
def interval_Mag (a0 : TInterval) : Option (Int) :=
  some (mx a0.Hi (w_i64 (0 - a0.Lo)))

/-! armillary/interval.Square: function 60 -/
def interval_Square (a0 : TInterval) : Option (TInterval) :=
  (interval_IsEntire a0).bind fun t3 =>
  if t3 = true then
    some a0
  else
    (interval_Mag a0).bind fun t6 =>
    (fixed_Mul (mx (mx a0.Lo (w_i64 (0 - a0.Hi))) 0) (mx (mx a0.Lo (w_i64 (0 - a0.Hi))) 0)).bind fun t8 =>
    (fixed_Mul t6 t6).bind fun t10 =>
    (interval_New t8.1 t10.2).bind fun t12 =>
    some t12

/-! math/bits.Len64: function 103 -/
def bits_Len64 (a0 : Int) : Option (Int) :=
  (if (decide (a0 ≥ 4294967296)) = true then
    some (Int.fdiv a0 4294967296, 32)
  else
    some (a0, 0)).bind fun (j4 : Int × Int) =>
  (if (decide (j4.1 ≥ 65536)) = true then
    some (Int.fdiv j4.1 65536, w_i64 (j4.2 + 16))
  else
    some (j4.1, j4.2)).bind fun (j7 : Int × Int) =>
  (if (decide (j7.1 ≥ 256)) = true then
    some (Int.fdiv j7.1 256, w_i64 (j7.2 + 8))
  else
    some (j7.1, j7.2)).bind fun (j10 : Int × Int) =>
  (strAt (⟨#[0, 1, 2, 2, 3, 3, 3, 3, 4, 4, 4, 4, 4, 4, 4, 4, 5, 5, 5, 5, 5, 5, 5, 5, 5, 5, 5, 5, 5, 5, 5, 5, 6, 6, 6, 6, 6, 6, 6, 6, 6, 6, 6, 6, 6, 6, 6, 6, 6, 6, 6, 6, 6, 6, 6, 6, 6, 6, 6, 6, 6, 6, 6, 6, 7, 7, 7, 7, 7, 7, 7, 7, 7, 7, 7, 7, 7, 7, 7, 7, 7, 7, 7, 7, 7, 7, 7, 7, 7, 7, 7, 7, 7, 7, 7, 7, 7, 7, 7, 7, 7, 7, 7, 7, 7, 7, 7, 7, 7, 7, 7, 7, 7, 7, 7, 7, 7, 7, 7, 7, 7, 7, 7, 7, 7, 7, 7, 7, 8, 8, 8, 8, 8, 8, 8, 8, 8, 8, 8, 8, 8, 8, 8, 8, 8, 8, 8, 8, 8, 8, 8, 8, 8, 8, 8, 8, 8, 8, 8, 8, 8, 8, 8, 8, 8, 8, 8, 8, 8, 8, 8, 8, 8, 8, 8, 8, 8, 8, 8, 8, 8, 8, 8, 8, 8, 8, 8, 8, 8, 8, 8, 8, 8, 8, 8, 8, 8, 8, 8, 8, 8, 8, 8, 8, 8, 8, 8, 8, 8, 8, 8, 8, 8, 8, 8, 8, 8, 8, 8, 8, 8, 8, 8, 8, 8, 8, 8, 8, 8, 8, 8, 8, 8, 8, 8, 8, 8, 8, 8, 8, 8, 8, 8, 8, 8, 8, 8, 8, 8, 8, 8, 8, 8, 8, 8, 8]⟩ : ByteArray) (w_u8 j10.1)).bind fun t12 =>
  some (w_i64 (j10.2 + (w_i64 t12)))

/-! armillary/fixed.Sqrt: function 90 -/
def fixed_Sqrt.l17 (k0 : Nat) (a0 : Int) (t8 : Int) : Nat → Int → Option (Int)
  | 0, _ => none
  | k + 1, x16 =>
    if x16 ≠ 0 then
      (some (decide ((w_i64 (Int.tdiv (w_i64 (x16 + (w_i64 (Int.tdiv (w_i64 (a0 * 65536)) x16)))) 2)) ≥ x16))).bind fun z21 =>
      if z21 = true then
        some (x16)
      else
        fixed_Sqrt.l17 k0 a0 t8 k (w_i64 (Int.tdiv (w_i64 (x16 + (w_i64 (Int.tdiv (w_i64 (a0 * 65536)) x16)))) 2))
    else none
def fixed_Sqrt (k0 : Nat) (a0 : Int) : Option (Int × Int × Int) :=
  if (decide (a0 < 0)) = true then
    some (0, 0, 4)
  else
    if ((w_i64 (a0 * 65536)) == 0) = true then
      some (0, 0, 0)
    else
      (bits_Len64 (w_u64 (w_i64 (a0 * 65536)))).bind fun t8 =>
      if 0 ≤ (w_i64 (Int.tdiv (w_i64 (t8 + 1)) 2)) then
        (fixed_Sqrt.l17 k0 a0 t8 k0 (w_i64 (1 * 2 ^ (min (w_i64 (Int.tdiv (w_i64 (t8 + 1)) 2)).toNat 64)))).bind fun (j11 : Int) =>
        if (decide ((w_i64 (j11 * j11)) < (w_i64 (a0 * 65536)))) = true then
          some (j11, w_i64 (j11 + 1), 0)
        else
          some (j11, j11, 0)
      else none

/-! armillary/interval.Sqrt: function 62 -/
def interval_Sqrt (k0 : Nat) (a0 : TInterval) : Option (TInterval × Bool) :=
  (interval_IsEntire a0).bind fun t3 =>
  if t3 = true then
    some (a0, true)
  else
    if (decide (a0.Hi < 0)) = true then
      some ((⟨0, 0⟩ : TInterval), false)
    else
      (fixed_Sqrt k0 (mx a0.Lo 0)).bind fun t8 =>
      (fixed_Sqrt k0 a0.Hi).bind fun t10 =>
      (interval_New t8.1 t10.2.1).bind fun t12 =>
      some (t12, true)

/-! armillary/ode.Eval$1: function 58 -/
def ode_Eval_1.body (k0 : Nat) (rec : (List TNode) → Int → (List TInterval) → TInterval → Option (TInterval × Int)) (q0_0 : List TNode) (q1_0 : Int) (q2_0 : List TInterval) (q3_0 : TInterval) : Option (TInterval × Int) :=
  if 0 ≤ q1_0 ∧ q1_0 < (q0_0.length : Int) then
    (q0_0[q1_0.toNat]?).bind fun t4 =>
    if (t4.Op == 1) = true then
      some ((⟨t4.C.Lo, t4.C.Hi⟩ : TInterval), w_i64 (q1_0 + 1))
    else
      if (t4.Op == 2) = true then
        if 0 ≤ t4.N ∧ t4.N < (q2_0.length : Int) then
          (q2_0[t4.N.toNat]?).bind fun t12 =>
          some (t12, w_i64 (q1_0 + 1))
        else none
      else
        if (t4.Op == 3) = true then
          some (q3_0, w_i64 (q1_0 + 1))
        else
          if (t4.Op == 4) = true then
            (rec q0_0 (w_i64 (q1_0 + 1)) q2_0 q3_0).bind fun t17 =>
            (interval_Neg t17.1).bind fun t18 =>
            some (t18, t17.2)
          else
            if (t4.Op == 5) = true then
              (rec q0_0 (w_i64 (q1_0 + 1)) q2_0 q3_0).bind fun t21 =>
              (interval_Square t21.1).bind fun t22 =>
              some (t22, t21.2)
            else
              if (t4.Op == 6) = true then
                (rec q0_0 (w_i64 (q1_0 + 1)) q2_0 q3_0).bind fun t25 =>
                if (decide (t25.1.Lo < 0)) = true then
                  (interval_Entire).bind fun t28 =>
                  some (t28, t25.2)
                else
                  (interval_Sqrt k0 (⟨t25.1.Lo, t25.1.Hi⟩ : TInterval)).bind fun t30 =>
                  some ((⟨t30.1.Lo, t30.1.Hi⟩ : TInterval), t25.2)
              else
                (rec q0_0 (w_i64 (q1_0 + 1)) q2_0 q3_0).bind fun t34 =>
                (some t4.Op).bind fun z36 =>
                if z36 = 7 then
                  (rec q0_0 t34.2 q2_0 q3_0).bind fun t37 =>
                  (interval_Add (⟨t34.1.Lo, t34.1.Hi⟩ : TInterval) t37.1).bind fun t38 =>
                  some (t38, t37.2)
                else
                if z36 = 8 then
                  (rec q0_0 t34.2 q2_0 q3_0).bind fun t37 =>
                  (interval_Sub (⟨t34.1.Lo, t34.1.Hi⟩ : TInterval) t37.1).bind fun t38 =>
                  some (t38, t37.2)
                else
                if z36 = 9 then
                  (rec q0_0 t34.2 q2_0 q3_0).bind fun t37 =>
                  (interval_Mul (⟨t34.1.Lo, t34.1.Hi⟩ : TInterval) t37.1).bind fun t38 =>
                  some (t38, t37.2)
                else
                if z36 = 10 then
                  (rec q0_0 t34.2 q2_0 q3_0).bind fun t37 =>
                  (interval_Div (⟨t34.1.Lo, t34.1.Hi⟩ : TInterval) t37.1).bind fun t38 =>
                  some (t38, t37.2)
                else
                none
  else none
def ode_Eval_1 : Nat → (List TNode) → Int → (List TInterval) → TInterval → Option (TInterval × Int)
  | 0, _, _, _, _ => none
  | k0 + 1, q0_0, q1_0, q2_0, q3_0 => ode_Eval_1.body k0 (ode_Eval_1 k0) q0_0 q1_0 q2_0 q3_0

/-! armillary/ode.Eval: function 33 -/
def ode_Eval (k0 : Nat) (a0 : List TNode) (a1 : List TInterval) (a2 : TInterval) : Option (TInterval) :=
  (ode_Eval_1 k0 a0 0 a1 a2).bind fun t6 =>
  some (⟨t6.1.Lo, t6.1.Hi⟩ : TInterval)

/-! armillary/guard.Eval: function 12 -/
def guard_Eval (k0 : Nat) (a0 : TGuard) (a1 : List TInterval) (a2 : TInterval) : Option (TInterval) :=
  (ode_Eval k0 a0.F a1 a2).bind fun t3 =>
  some t3

/-! armillary/interval.Sign: function 35 -/
def interval_Sign (a0 : TInterval) : Option (Int) :=
  (interval_pick_int (decide (a0.Hi < 0)) (-1) 0).bind fun t3 =>
  (interval_pick_int (decide (a0.Lo > 0)) 1 t3).bind fun t4 =>
  some t4

/-! armillary/guard.Side: function 14 -/
def guard_Side (k0 : Nat) (a0 : TGuard) (a1 : List TInterval) (a2 : TInterval) : Option (Int) :=
  (guard_Eval k0 (⟨a0.F, a0.Dir⟩ : TGuard) a1 a2).bind fun t3 =>
  (interval_Sign t3).bind fun t4 =>
  some t4

/-! armillary/armillaryref07.Same: function 37 -/
def armillaryref07_Same.l8 (k0 : Nat) (a0 : List TNode) (a1 : List TNode) : Nat → Int → Option ((Bool) ⊕ (Unit))
  | 0, _ => none
  | k + 1, x7 =>
    if (decide (x7 < (a0.length : Int))) = true then
      if 0 ≤ x7 ∧ x7 < (a0.length : Int) then
        (a0[x7.toNat]?).bind fun t12 =>
        if 0 ≤ x7 ∧ x7 < (a1.length : Int) then
          (a1[x7.toNat]?).bind fun t14 =>
          (some (!((t12.Op == t14.Op) && ((t12.N == t14.N) && (((t12.C.Lo == t14.C.Lo) && ((t12.C.Hi == t14.C.Hi) && true)) && true))))).bind fun z15 =>
          if z15 = true then
            some (.inl false)
          else
            armillaryref07_Same.l8 k0 a0 a1 k (w_i64 (x7 + 1))
        else none
      else none
    else
      some (.inr ())
def armillaryref07_Same (k0 : Nat) (a0 : List TNode) (a1 : List TNode) : Option (Bool) :=
  if ((a0.length : Int) != (a1.length : Int)) = true then
    some false
  else
    (armillaryref07_Same.l8 k0 a0 a1 k0 0).bind fun j4 => match j4 with
    | .inl r => some r
    | .inr j4v =>
      some true

/-! armillary/armillaryref15.Same: function 16 -/
def armillaryref15_Same (k0 : Nat) (a0 : TGuard) (a1 : TGuard) : Option (Bool) :=
  (if ((a0.Dir == a1.Dir) == true) = true then armillaryref07_Same k0 a0.F a1.F else some default).bind fun t3 =>
  some ((a0.Dir == a1.Dir) && t3)

/-! slices.Grow[[]armillary/api.Node,armillary/api.Node]: function 73 -/
def api_Node_73 (a1 : Int) : Option (List TNode) :=
  if (decide (a1 < 0)) = true then
    none
  else
    if (decide ((w_i64 (a1 - (w_i64 (0 - 0)))) > 0)) = true then
      if 0 < w_i64 (a1 - (w_i64 (0 - 0))) ∧ w_i64 (a1 - (w_i64 (0 - 0))) < 1000000 then
        some ([] : List TNode)
      else none
    else
      some ([] : List TNode)

/-! slices.Concat[[]armillary/api.Node,armillary/api.Node]: function 38 -/
def api_Node_38.l13 (k0 : Nat) (a0 : List (List TNode)) (j4 : Int) (t6 : List TNode) : Nat → (List TNode) → Int → Option (List TNode)
  | 0, _, _ => none
  | k + 1, x11, x12 =>
    if (decide (x12 < (a0.length : Int))) = true then
      if 0 ≤ x12 ∧ x12 < (a0.length : Int) then
        (a0[x12.toNat]?).bind fun t17 =>
        if 0 < t17.length ∧ t17.length < 1000000 ∧ x11.length < 1000000 then
          api_Node_38.l13 k0 a0 j4 t6 k (x11 ++ t17) (w_i64 (x12 + 1))
        else none
      else none
    else
      some (x11)
def api_Node_38.l25 (k0 : Nat) (a0 : List (List TNode)) : Nat → Int → Int → Option (Int)
  | 0, _, _ => none
  | k + 1, x23, x24 =>
    if (decide (x24 < (a0.length : Int))) = true then
      if 0 ≤ x24 ∧ x24 < (a0.length : Int) then
        (a0[x24.toNat]?).bind fun t29 =>
        if (decide ((w_i64 (x23 + (t29.length : Int))) < 0)) = true then
          none
        else
          api_Node_38.l25 k0 a0 k (w_i64 (x23 + (t29.length : Int))) (w_i64 (x24 + 1))
      else none
    else
      some (x23)
def api_Node_38 (k0 : Nat) (a0 : List (List TNode)) : Option (List TNode) :=
  (api_Node_38.l25 k0 a0 k0 0 0).bind fun (j4 : Int) =>
  (api_Node_73 j4).bind fun t6 =>
  (api_Node_38.l13 k0 a0 j4 t6 k0 t6 0).bind fun (j8 : List TNode) =>
  some j8

/-! armillary/guard.Reverse: function 17 -/
def guard_Reverse (k0 : Nat) (a0 : TGuard) : Option (TGuard) :=
  if ((decide ((a0.F.length : Int) > 0)) == true) = true → 0 ≤ (0 : Int) ∧ (0 : Int) < (a0.F.length : Int) then
    (if ((decide ((a0.F.length : Int) > 0)) == true) = true then a0.F[(0 : Int).toNat]? else some default).bind fun t4 =>
    if ((decide ((a0.F.length : Int) > 0)) && (t4.Op == 4)) = true then
      if 0 ≤ (1 : Int) ∧ (1 : Int) ≤ (a0.F.length : Int) then
        some (⟨(a0.F.drop (1 : Int).toNat), w_i64 (0 - a0.Dir)⟩ : TGuard)
      else none
    else
      (api_Node_38 k0 ([([(⟨4, 0, (⟨0, 0⟩ : TInterval)⟩ : TNode)] : List TNode), a0.F] : List (List TNode))).bind fun t10 =>
      some (⟨t10, w_i64 (0 - a0.Dir)⟩ : TGuard)
  else none

/-! (armillary/guard.values).upward: function 40 -/
def guard_values_upward (a0 : Tvalues) : Option (Int) :=
  if ((decide (a0.start.Hi < 0)) && (decide (a0.end_.Lo ≥ 0))) = true then
    some 2
  else
    (if (decide (a0.whole.Hi < 0)) = true then
      some (decide (a0.whole.Hi < 0))
    else
      some (decide (a0.whole.Lo ≥ 0))).bind fun (j5 : Bool) =>
    if j5 = true then
      some 0
    else
      some 1

/-! (armillary/guard.values).negated: function 41 -/
def guard_values_negated (a0 : Tvalues) : Option (Tvalues) :=
  (interval_Neg (⟨a0.whole.Lo, a0.whole.Hi⟩ : TInterval)).bind fun t3 =>
  (interval_Neg (⟨a0.start.Lo, a0.start.Hi⟩ : TInterval)).bind fun t4 =>
  (interval_Neg (⟨a0.end_.Lo, a0.end_.Hi⟩ : TInterval)).bind fun t5 =>
  some (⟨t3, t4, t5⟩ : Tvalues)

/-! slices.Index[[]int,int]: function 74 -/
def slices_Index_int_int.l6 (k0 : Nat) (a0 : List Int) (a1 : Int) : Nat → Int → Option ((Int) ⊕ (Unit))
  | 0, _ => none
  | k + 1, x5 =>
    if (decide (x5 < (a0.length : Int))) = true then
      if 0 ≤ x5 ∧ x5 < (a0.length : Int) then
        (a0[x5.toNat]?).bind fun t11 =>
        if (a1 == t11) = true then
          some (.inl x5)
        else
          slices_Index_int_int.l6 k0 a0 a1 k (w_i64 (x5 + 1))
      else none
    else
      some (.inr ())
def slices_Index_int_int (k0 : Nat) (a0 : List Int) (a1 : Int) : Option (Int) :=
  (slices_Index_int_int.l6 k0 a0 a1 k0 0).bind fun j2 => match j2 with
  | .inl r => some r
  | .inr j2v =>
    some (-1)

/-! slices.Contains[[]int,int]: function 42 -/
def slices_Contains_int_int (k0 : Nat) (a0 : List Int) (a1 : Int) : Option (Bool) :=
  (slices_Index_int_int k0 a0 a1).bind fun t3 =>
  some (decide (t3 ≥ 0))

/-! armillary/guard.Crossing$1: function 39 -/
def guard_Crossing_1 (k0 : Nat) (a0 : List TInterval) (a1 : Int) (a2 : Int) (q3_0 : TGuard) : Option (TInterval) :=
  (guard_Eval k0 (⟨q3_0.F, q3_0.Dir⟩ : TGuard) a0 (⟨a1, a2⟩ : TInterval)).bind fun t3 =>
  some t3

/-! armillary/guard.Crossing: function 19 -/
def guard_Crossing (k0 : Nat) (a0 : TGuard) (a1 : TSegment) : Option (Int) :=
  (guard_Crossing_1 k0 a1.Tube a1.T (w_i64 (a1.T + a1.H)) (⟨a0.F, a0.Dir⟩ : TGuard)).bind fun t5 =>
  (guard_Crossing_1 k0 a1.From a1.T a1.T (⟨a0.F, a0.Dir⟩ : TGuard)).bind fun t6 =>
  (guard_Crossing_1 k0 a1.To (w_i64 (a1.T + a1.H)) (w_i64 (a1.T + a1.H)) (⟨a0.F, a0.Dir⟩ : TGuard)).bind fun t7 =>
  (guard_values_upward (⟨t5, t6, t7⟩ : Tvalues)).bind fun t9 =>
  (guard_values_negated (⟨t5, t6, t7⟩ : Tvalues)).bind fun t10 =>
  (guard_values_upward t10).bind fun t11 =>
  if (decide (a0.Dir > 0)) = true then
    some t9
  else
    if (decide (a0.Dir < 0)) = true then
      some t11
    else
      (slices_Contains_int_int k0 ([t9, t11] : List Int) 2).bind fun t17 =>
      if t17 = true then
        some 2
      else
        if ((t9 == 0) && ((t11 == 0) && true)) = true then
          some 0
        else
          some 1

/-! armillary/armillarylaw15.span: function 26 -/
def armillarylaw15_span (a0 : Int) (a1 : Int) : Option (TInterval) :=
  some (⟨w_i64 (a0 * 65536), w_i64 (a1 * 65536)⟩ : TInterval)

/-! armillary/armillarylaw15.minus: function 27 -/
def armillarylaw15_minus (a0 : Int) : Option (List TNode) :=
  (armillarylaw15_span a0 a0).bind fun t3 =>
  some ([(⟨8, 0, (⟨0, 0⟩ : TInterval)⟩ : TNode), (⟨2, 0, (⟨0, 0⟩ : TInterval)⟩ : TNode), (⟨1, 0, t3⟩ : TNode)] : List TNode)

/-! armillary/armillarylaw15.sanity: function 8 -/
def armillarylaw15_sanity (k0 : Nat)  : Option (Bool) :=
  (armillarylaw15_span 0 0).bind fun t3 =>
  (armillarylaw15_span 0 2).bind fun t4 =>
  (armillarylaw15_span 2 2).bind fun t5 =>
  (armillarylaw15_minus 1).bind fun t7 =>
  (armillarylaw15_minus 1).bind fun t9 =>
  (armillarylaw15_minus 3).bind fun t11 =>
  (guard_Reverse k0 (⟨t7, 1⟩ : TGuard)).bind fun t13 =>
  (guard_Crossing k0 (⟨t7, 1⟩ : TGuard) (⟨0, 65536, ([t3] : List TInterval), ([] : List TInterval), ([t4] : List TInterval), ([t5] : List TInterval)⟩ : TSegment)).bind fun t15 =>
  (if ((t15 == 2) == true) = true then guard_Crossing k0 (⟨t9, (-1)⟩ : TGuard) (⟨0, 65536, ([t3] : List TInterval), ([] : List TInterval), ([t4] : List TInterval), ([t5] : List TInterval)⟩ : TSegment) else some default).bind fun t16 =>
  (if (((t15 == 2) && (t16 == 1)) == true) = true then guard_Crossing k0 (⟨t11, 0⟩ : TGuard) (⟨0, 65536, ([t3] : List TInterval), ([] : List TInterval), ([t4] : List TInterval), ([t5] : List TInterval)⟩ : TSegment) else some default).bind fun t17 =>
  if (((t15 == 2) && (t16 == 1)) && (t17 == 0)) = true then
    (armillarylaw15_minus 1).bind fun t19 =>
    (guard_Crossing k0 (⟨t19, 0⟩ : TGuard) (⟨0, 65536, ([t3] : List TInterval), ([] : List TInterval), ([t4] : List TInterval), ([t5] : List TInterval)⟩ : TSegment)).bind fun t20 =>
    (if ((t20 == 2) == true) = true then guard_Crossing k0 (⟨t13.F, t13.Dir⟩ : TGuard) (⟨0, 65536, ([t3] : List TInterval), ([] : List TInterval), ([t4] : List TInterval), ([t5] : List TInterval)⟩ : TSegment) else some default).bind fun t21 =>
    if ((((t20 == 2) && (t21 == 2)) && (t13.Dir == (-1))) && ((t13.F.length : Int) == 4)) = true then
      (guard_Reverse k0 (⟨t13.F, t13.Dir⟩ : TGuard)).bind fun t23 =>
      (armillaryref15_Same k0 t23 (⟨t7, 1⟩ : TGuard)).bind fun t24 =>
      (if (t24 == true) = true then armillarylaw15_span 0 1 else some default).bind fun t25 =>
      (if (t24 == true) = true then guard_Eval k0 (⟨t7, 1⟩ : TGuard) ([t4] : List TInterval) t25 else some default).bind fun t26 =>
      (if (t24 == true) = true then armillarylaw15_span (-1) 1 else some default).bind fun t27 =>
      (if ((t24 && ((t26.Lo == t27.Lo) && ((t26.Hi == t27.Hi) && true))) == true) = true then armillarylaw15_span 0 0 else some default).bind fun t28 =>
      (if ((t24 && ((t26.Lo == t27.Lo) && ((t26.Hi == t27.Hi) && true))) == true) = true then guard_Side k0 (⟨t7, 1⟩ : TGuard) ([t3] : List TInterval) t28 else some default).bind fun t29 =>
      (if (((t24 && ((t26.Lo == t27.Lo) && ((t26.Hi == t27.Hi) && true))) && (t29 == (-1))) == true) = true then armillarylaw15_span 0 0 else some default).bind fun t30 =>
      (if (((t24 && ((t26.Lo == t27.Lo) && ((t26.Hi == t27.Hi) && true))) && (t29 == (-1))) == true) = true then guard_Side k0 (⟨t7, 1⟩ : TGuard) ([t4] : List TInterval) t30 else some default).bind fun t31 =>
      (some (((t24 && ((t26.Lo == t27.Lo) && ((t26.Hi == t27.Hi) && true))) && (t29 == (-1))) && (t31 == 0))).bind fun z32 =>
      (if (z32 == true) = true then guard_Valid k0 (⟨t7, 1⟩ : TGuard) 1 else some default).bind fun t33 =>
      if (z32 && t33) = true then
        (armillarylaw15_minus 1).bind fun t35 =>
        (guard_Valid k0 (⟨t35, 2⟩ : TGuard) 1).bind fun t36 =>
        (if ((!t36) == true) = true then guard_Valid k0 (⟨([] : List TNode), 0⟩ : TGuard) 1 else some default).bind fun t37 =>
        if ((!t36) && (!t37)) = true then
          (guard_Valid k0 (⟨([(⟨2, 1, (⟨0, 0⟩ : TInterval)⟩ : TNode)] : List TNode), 0⟩ : TGuard) 1).bind fun t39 =>
          some (!t39)
        else none
      else none
    else none
  else none

/-! armillary/armillaryref02.Hull: function 47 -/
def armillaryref02_Hull (a0 : TInterval) (a1 : TInterval) : Option (TInterval) :=
  some (⟨mn a0.Lo a1.Lo, mx a0.Hi a1.Hi⟩ : TInterval)

/-! armillary/armillaryref03.Hull: function 22 -/
def armillaryref03_Hull.l9 (k0 : Nat) (a0 : List TInterval) (a1 : List TInterval) : Nat → (List TInterval) → Int → Option (List TInterval)
  | 0, _, _ => none
  | k + 1, x7, x8 =>
    if (decide (x8 < (a0.length : Int))) = true then
      if 0 ≤ x8 ∧ x8 < (a0.length : Int) then
        (a0[x8.toNat]?).bind fun t13 =>
        if 0 ≤ x8 ∧ x8 < (a1.length : Int) then
          (a1[x8.toNat]?).bind fun t15 =>
          (armillaryref02_Hull t13 t15).bind fun t16 =>
          if x7.length < 1000000 then
            armillaryref03_Hull.l9 k0 a0 a1 k (x7 ++ [t16]) (w_i64 (x8 + 1))
          else none
        else none
      else none
    else
      some (x7)
def armillaryref03_Hull (k0 : Nat) (a0 : List TInterval) (a1 : List TInterval) : Option (List TInterval) :=
  (armillaryref03_Hull.l9 k0 a0 a1 k0 ([] : List TInterval) 0).bind fun (j4 : List TInterval) =>
  some j4

/-! armillary/armillaryref12.Made: function 28 -/
def armillaryref12_Made (a0 : TTimeStep) : Option (TTimeStep) :=
  (if (decide ((Int.tmod a0.H 131072) < 0)) = true then
    some (w_i64 (0 - (Int.tmod a0.H 131072)))
  else
    some (Int.tmod a0.H 131072)).bind fun (j4 : Int) =>
  some (⟨Int.tmod a0.T 1048576, w_i64 (j4 + 1)⟩ : TTimeStep)

/-! armillary/armillaryref02.Small: function 49 -/
def armillaryref02_Small (a0 : TInterval) : Option (TInterval) :=
  some (⟨mn (Int.tmod a0.Lo 16777216) (Int.tmod a0.Hi 16777216), mx (Int.tmod a0.Lo 16777216) (Int.tmod a0.Hi 16777216)⟩ : TInterval)

/-! armillary/armillarylaw15.bounded: function 29 -/
def armillarylaw15_bounded.l9 (k0 : Nat) (a0 : List TInterval) (a1 : Int) : Nat → (List TInterval) → Int → Option (List TInterval)
  | 0, _, _ => none
  | k + 1, x7, x8 =>
    if (decide (x8 < a1)) = true then
      (if (decide (x8 < (a0.length : Int))) = true then
        if 0 ≤ x8 ∧ x8 < (a0.length : Int) then
          (a0[x8.toNat]?).bind fun t21 =>
          (armillaryref02_Small t21).bind fun t22 =>
          some (t22.Lo, t22.Hi)
        else none
      else
        some (0, 0)).bind fun (j14 : Int × Int) =>
      if x7.length < 1000000 then
        armillarylaw15_bounded.l9 k0 a0 a1 k (x7 ++ [(⟨j14.1, j14.2⟩ : TInterval)]) (w_i64 (x8 + 1))
      else none
    else
      some (x7)
def armillarylaw15_bounded (k0 : Nat) (a0 : List TInterval) (a1 : Int) : Option (List TInterval) :=
  (armillarylaw15_bounded.l9 k0 a0 a1 k0 ([] : List TInterval) 0).bind fun (j4 : List TInterval) =>
  some j4

/-! armillary/armillaryref02.Entire: function 66 -/
def armillaryref02_Entire : Option (TInterval) :=
  some (⟨(-2147483648), 2147483648⟩ : TInterval)

/-! armillary/armillaryref02.Number: function 76 -/
def armillaryref02_Number (a0 : Int) : Option (Bool) :=
  some ((decide (a0 > (-2147483648))) && (decide (a0 < 2147483648)))

/-! armillary/armillaryref02.New: function 48 -/
def armillaryref02_New (a0 : Int) (a1 : Int) : Option (TInterval) :=
  (armillaryref02_Number a0).bind fun t3 =>
  (if ((!t3) == false) = true then armillaryref02_Number a1 else some default).bind fun t4 =>
  if ((!t3) || (!t4)) = true then
    (armillaryref02_Entire).bind fun t6 =>
    some t6
  else
    some (⟨a0, a1⟩ : TInterval)

/-! armillary/armillaryref02.Point: function 23 -/
def armillaryref02_Point (a0 : Int) : Option (TInterval) :=
  (armillaryref02_New a0 a0).bind fun t3 =>
  some t3

/-! armillary/armillaryref07.Arity: function 81 -/
def armillaryref07_Arity (a0 : Int) : Option (Int) :=
  if ((decide (a0 < 1)) || (decide (a0 > 10))) = true then
    some (-1)
  else
    if (decide (a0 ≤ 3)) = true then
      some 0
    else
      if (decide (a0 ≤ 6)) = true then
        some 1
      else
        some 2

/-! armillary/armillaryref07.Const: function 94 -/
def armillaryref07_Const (a0 : TInterval) : Option (List TNode) :=
  some ([(⟨1, 0, a0⟩ : TNode)] : List TNode)

/-! armillary/armillaryref02.Near: function 95 -/
def armillaryref02_Near (a0 : TInterval) (a1 : Int) : Option (TInterval) :=
  if a1 ≠ 0 then
    if a1 ≠ 0 then
      some (⟨Int.tmod a0.Lo 1048576, w_i64 ((Int.tmod a0.Lo 1048576) + (Int.tmod (w_i64 ((Int.tmod a0.Hi a1) + a1)) a1))⟩ : TInterval)
    else none
  else none

/-! armillary/armillaryref07.Unary: function 96 -/
def armillaryref07_Unary (a0 : Int) (a1 : List TNode) : Option (List TNode) :=
  if 0 < a1.length ∧ a1.length < 1000000 then
    some ([(⟨a0, 0, (⟨0, 0⟩ : TInterval)⟩ : TNode)] ++ a1)
  else none

/-! armillary/armillaryref07.Binary: function 97 -/
def armillaryref07_Binary (a0 : Int) (a1 : List TNode) (a2 : List TNode) : Option (List TNode) :=
  if 0 < a1.length ∧ a1.length < 1000000 then
    if 0 < a2.length ∧ a2.length < 1000000 ∧ ([(⟨a0, 0, (⟨0, 0⟩ : TInterval)⟩ : TNode)] ++ a1).length < 1000000 then
      some (([(⟨a0, 0, (⟨0, 0⟩ : TInterval)⟩ : TNode)] ++ a1) ++ a2)
    else none
  else none

/-! (*armillary/armillaryref07.builder).build: function 77 -/
def armillaryref07_builder_build.body (k0 : Nat) (rec : Int → Tbuilder → Option (List TNode × Tbuilder)) (a1 : Int) (q0_0 : Tbuilder) : Option (List TNode × Tbuilder) :=
  if ((q0_0.raw.length : Int) == 0) = true then
    (armillaryref02_Point 65536).bind fun t4 =>
    (armillaryref07_Const t4).bind fun t5 =>
    some (t5, (⟨q0_0.raw, q0_0.n⟩ : Tbuilder))
  else
    if 0 ≤ (0 : Int) ∧ (0 : Int) < (q0_0.raw.length : Int) then
      (q0_0.raw[(0 : Int).toNat]?).bind fun t8 =>
      if 0 ≤ (1 : Int) ∧ (1 : Int) ≤ (q0_0.raw.length : Int) then
        (if (((w_i64 (1 + (Int.tmod (b_and .i64 t8.Op 255) 10))) == 1) == false) = true then armillaryref07_Arity (w_i64 (1 + (Int.tmod (b_and .i64 t8.Op 255) 10))) else some default).bind fun t13 =>
        if (((w_i64 (1 + (Int.tmod (b_and .i64 t8.Op 255) 10))) == 1) || ((decide (t13 > 0)) && (decide (a1 < 2)))) = true then
          (armillaryref02_Near (⟨t8.C.Lo, t8.C.Hi⟩ : TInterval) (w_i64 (1 + (w_i64 ((b_and .i64 t8.N 255) * (b_and .i64 t8.N 1)))))).bind fun t15 =>
          (armillaryref07_Const t15).bind fun t16 =>
          some (t16, (⟨(q0_0.raw.drop (1 : Int).toNat), q0_0.n⟩ : Tbuilder))
        else
          if ((w_i64 (1 + (Int.tmod (b_and .i64 t8.Op 255) 10))) == 2) = true then
            if q0_0.n ≠ 0 then
              some (([(⟨2, Int.tmod (b_and .i64 t8.N 255) q0_0.n, (⟨0, 0⟩ : TInterval)⟩ : TNode)] : List TNode), (⟨(q0_0.raw.drop (1 : Int).toNat), q0_0.n⟩ : Tbuilder))
            else none
          else
            if ((w_i64 (1 + (Int.tmod (b_and .i64 t8.Op 255) 10))) == 3) = true then
              some (([(⟨3, 0, (⟨0, 0⟩ : TInterval)⟩ : TNode)] : List TNode), (⟨(q0_0.raw.drop (1 : Int).toNat), q0_0.n⟩ : Tbuilder))
            else
              (armillaryref07_Arity (w_i64 (1 + (Int.tmod (b_and .i64 t8.Op 255) 10)))).bind fun t23 =>
              if (t23 == 1) = true then
                (rec (w_i64 (a1 - 1)) (⟨(q0_0.raw.drop (1 : Int).toNat), q0_0.n⟩ : Tbuilder)).bind fun t25 =>
                (armillaryref07_Unary (w_i64 (1 + (Int.tmod (b_and .i64 t8.Op 255) 10))) t25.1).bind fun t26 =>
                some (t26, (⟨t25.2.raw, t25.2.n⟩ : Tbuilder))
              else
                (rec (w_i64 (a1 - 1)) (⟨(q0_0.raw.drop (1 : Int).toNat), q0_0.n⟩ : Tbuilder)).bind fun t28 =>
                (rec (w_i64 (a1 - 1)) (⟨t28.2.raw, t28.2.n⟩ : Tbuilder)).bind fun t30 =>
                (armillaryref07_Binary (w_i64 (1 + (Int.tmod (b_and .i64 t8.Op 255) 10))) t28.1 t30.1).bind fun t31 =>
                some (t31, (⟨t30.2.raw, t30.2.n⟩ : Tbuilder))
      else none
    else none
def armillaryref07_builder_build : Nat → Int → Tbuilder → Option (List TNode × Tbuilder)
  | 0, _, _ => none
  | k0 + 1, a1, q0_0 => armillaryref07_builder_build.body k0 (armillaryref07_builder_build k0) a1 q0_0

/-! armillary/armillaryref07.Made: function 50 -/
def armillaryref07_Made (k0 : Nat) (a0 : List TNode) (a1 : Int) (a2 : Int) : Option (List TNode) :=
  if 0 ≤ mn (a0.length : Int) a1 ∧ mn (a0.length : Int) a1 ≤ (a0.length : Int) then
    (armillaryref07_builder_build k0 5 (⟨(a0.take (mn (a0.length : Int) a1).toNat), a2⟩ : Tbuilder)).bind fun t5 =>
    some t5.1
  else none

/-! armillary/armillaryref15.Made: function 30 -/
def armillaryref15_Made (k0 : Nat) (a0 : List TNode) (a1 : Int) (a2 : Int) : Option (TGuard) :=
  (armillaryref07_Made k0 a0 8 a2).bind fun t3 =>
  some (⟨t3, w_i64 (Int.tmod a1 2)⟩ : TGuard)

/-! armillary/armillarylaw15.segment: function 9 -/
def armillarylaw15_segment (k0 : Nat) (a0 : TInput) : Option (TGuard × TSegment) :=
  (armillaryref12_Made (⟨a0.G.T, a0.G.H⟩ : TTimeStep)).bind fun t4 =>
  (armillarylaw15_bounded k0 a0.A (w_i64 (1 + (w_i64 (Int.tmod a0.N 3))))).bind fun t6 =>
  (armillarylaw15_bounded k0 a0.B (w_i64 (1 + (w_i64 (Int.tmod a0.N 3))))).bind fun t8 =>
  (armillaryref03_Hull k0 t6 t8).bind fun t10 =>
  (armillarylaw15_bounded k0 a0.C (w_i64 (1 + (w_i64 (Int.tmod a0.N 3))))).bind fun t11 =>
  (armillaryref03_Hull k0 t10 t11).bind fun t12 =>
  (armillaryref15_Made k0 a0.F a0.Dir (w_i64 (1 + (w_i64 (Int.tmod a0.N 3))))).bind fun t14 =>
  some ((⟨t14.F, t14.Dir⟩ : TGuard), (⟨t4.T, t4.H, t6, t12, t12, t8⟩ : TSegment))

/-! armillary/armillaryref02.IsEntire: function 75 -/
def armillaryref02_IsEntire (a0 : TInterval) : Option (Bool) :=
  some ((a0.Lo == (-2147483648)) && (a0.Hi == 2147483648))

/-! armillary/armillaryref02.Valid: function 55 -/
def armillaryref02_Valid (a0 : TInterval) : Option (Bool) :=
  (armillaryref02_IsEntire a0).bind fun t3 =>
  (if (t3 == false) = true then armillaryref02_Number a0.Lo else some default).bind fun t4 =>
  (if ((t3 == false) && (t4 == true)) = true then armillaryref02_Number a0.Hi else some default).bind fun t5 =>
  some (t3 || ((t4 && t5) && (decide (a0.Lo ≤ a0.Hi))))

/-! armillary/armillaryref07.exprLen: function 56 -/
def armillaryref07_exprLen.l14 (k0 : Nat) (rec : (List TNode) → Option (Int)) (a0 : List TNode) (t4 : TNode) (t5 : Int) : Nat → Int → Int → Option ((Int) ⊕ (Int))
  | 0, _, _ => none
  | k + 1, x12, x13 =>
    if 0 ≤ (0 : Int) ∧ (0 : Int) < (a0.length : Int) then
      (a0[(0 : Int).toNat]?).bind fun t17 =>
      (armillaryref07_Arity t17.Op).bind fun t18 =>
      if (decide (x13 < t18)) = true then
        if 0 ≤ x12 ∧ x12 ≤ (a0.length : Int) then
          (rec (a0.drop x12.toNat)).bind fun t21 =>
          if (decide (t21 < 0)) = true then
            some (.inl (-1))
          else
            armillaryref07_exprLen.l14 k0 rec a0 t4 t5 k (w_i64 (x12 + t21)) (w_i64 (x13 + 1))
        else none
      else
        some (.inr (x12))
    else none
def armillaryref07_exprLen.body (k0 : Nat) (rec : (List TNode) → Option (Int)) (a0 : List TNode) : Option (Int) :=
  if (((a0.length : Int) == 0) == false) = true → 0 ≤ (0 : Int) ∧ (0 : Int) < (a0.length : Int) then
    (if (((a0.length : Int) == 0) == false) = true then a0[(0 : Int).toNat]? else some default).bind fun t4 =>
    (if (((a0.length : Int) == 0) == false) = true then armillaryref07_Arity t4.Op else some default).bind fun t5 =>
    if (((a0.length : Int) == 0) || (decide (t5 < 0))) = true then
      some (-1)
    else
      (armillaryref07_exprLen.l14 k0 rec a0 t4 t5 k0 1 0).bind fun j9 => match j9 with
      | .inl r => some r
      | .inr j9v =>
        some j9v
  else none
def armillaryref07_exprLen : Nat → (List TNode) → Option (Int)
  | 0, _ => none
  | k0 + 1, a0 => armillaryref07_exprLen.body k0 (armillaryref07_exprLen k0) a0

/-! armillary/armillaryref07.ValidExpr: function 32 -/
def armillaryref07_ValidExpr.l9 (k0 : Nat) (a0 : List TNode) (a1 : Int) : Nat → Int → Option ((Bool) ⊕ (Unit))
  | 0, _ => none
  | k + 1, x8 =>
    if (decide (x8 < (a0.length : Int))) = true then
      if 0 ≤ x8 ∧ x8 < (a0.length : Int) then
        (a0[x8.toNat]?).bind fun t13 =>
        (if (((t13.Op == 1) == true) && ((t13.N != 0) == false)) = true then armillaryref02_Valid (⟨t13.C.Lo, t13.C.Hi⟩ : TInterval) else some default).bind fun t15 =>
        if (((t13.Op == 1) && ((t13.N != 0) || (!t15))) || ((t13.Op != 1) && (!((t13.C.Lo == 0) && ((t13.C.Hi == 0) && true))))) = true then
          some (.inl false)
        else
          if (((t13.Op == 2) && ((decide (t13.N < 0)) || (decide (t13.N ≥ a1)))) || ((t13.Op != 2) && (t13.N != 0))) = true then
            some (.inl false)
          else
            armillaryref07_ValidExpr.l9 k0 a0 a1 k (w_i64 (x8 + 1))
      else none
    else
      some (.inr ())
def armillaryref07_ValidExpr (k0 : Nat) (a0 : List TNode) (a1 : Int) : Option (Bool) :=
  if (((a0.length : Int) == 0) || (decide ((a0.length : Int) > 200))) = true then
    some false
  else
    (armillaryref07_ValidExpr.l9 k0 a0 a1 k0 0).bind fun j4 => match j4 with
    | .inl r => some r
    | .inr j4v =>
      (armillaryref07_exprLen k0 a0).bind fun t6 =>
      some (t6 == (a0.length : Int))

/-! armillary/armillaryref15.Valid: function 11 -/
def armillaryref15_Valid (k0 : Nat) (a0 : TGuard) (a1 : Int) : Option (Bool) :=
  (if (((decide (a1 ≥ 1)) && (decide (a1 ≤ 6))) == true) = true then armillaryref07_ValidExpr k0 a0.F a1 else some default).bind fun t3 =>
  (some (((((decide (a1 ≥ 1)) && (decide (a1 ≤ 6))) && t3) && (decide (a0.Dir ≥ (-1)))) && (decide (a0.Dir ≤ 1)))).bind fun z4 =>
  some z4

/-! armillary/armillaryref07.Operands: function 63 -/
def armillaryref07_Operands.l10 (k0 : Nat) (a0 : List TNode) : Nat → (List (List TNode)) → Int → Int → Option (List (List TNode))
  | 0, _, _, _ => none
  | k + 1, x7, x8, x9 =>
    if 0 ≤ (0 : Int) ∧ (0 : Int) < (a0.length : Int) then
      (a0[(0 : Int).toNat]?).bind fun t13 =>
      (armillaryref07_Arity t13.Op).bind fun t14 =>
      if (decide (x9 < t14)) = true then
        if 0 ≤ x8 ∧ x8 ≤ (a0.length : Int) then
          (armillaryref07_exprLen k0 (a0.drop x8.toNat)).bind fun t17 =>
          if 0 ≤ x8 ∧ x8 ≤ w_i64 (x8 + t17) ∧ w_i64 (x8 + t17) ≤ (a0.length : Int) then
            if x7.length < 1000000 then
              armillaryref07_Operands.l10 k0 a0 k (x7 ++ [((a0.take (w_i64 (x8 + t17)).toNat).drop x8.toNat)]) (w_i64 (x8 + t17)) (w_i64 (x9 + 1))
            else none
          else none
        else none
      else
        some (x7)
    else none
def armillaryref07_Operands (k0 : Nat) (a0 : List TNode) : Option (List (List TNode)) :=
  (armillaryref07_Operands.l10 k0 a0 k0 ([] : List (List TNode)) 1 0).bind fun (j4 : List (List TNode)) =>
  some j4

/-! armillary/armillaryref02.Neg: function 64 -/
def armillaryref02_Neg (a0 : TInterval) : Option (TInterval) :=
  some (⟨w_i64 (0 - a0.Hi), w_i64 (0 - a0.Lo)⟩ : TInterval)

/-! armillary/armillaryref02.Floor: function 91 -/
def armillaryref02_Floor (a0 : Int) (a1 : Int) : Option (Int) :=
  if a1 ≠ 0 then
    (if a1 ≠ 0 then
      if (((Int.tmod a0 a1) != 0) && (!((decide (a0 < 0)) == (decide (a1 < 0))))) = true then
        some (w_i64 ((w_i64 (Int.tdiv a0 a1)) - 1))
      else
        some (w_i64 (Int.tdiv a0 a1))
    else none).bind fun (j5 : Int) =>
    some j5
  else none

/-! armillary/armillaryref02.Ceil: function 92 -/
def armillaryref02_Ceil (a0 : Int) (a1 : Int) : Option (Int) :=
  (armillaryref02_Floor (w_i64 (0 - a0)) a1).bind fun t3 =>
  some (w_i64 (0 - t3))

/-! armillary/armillaryref02.Square: function 65 -/
def armillaryref02_Square (a0 : TInterval) : Option (TInterval) :=
  (armillaryref02_IsEntire a0).bind fun t3 =>
  if t3 = true then
    (armillaryref02_Entire).bind fun t5 =>
    some t5
  else
    (if ((decide (a0.Lo ≤ 0)) && (decide (a0.Hi ≥ 0))) = true then
      some (0)
    else
      some (mn (w_i64 (a0.Lo * a0.Lo)) (w_i64 (a0.Hi * a0.Hi)))).bind fun (j8 : Int) =>
    (armillaryref02_Floor j8 65536).bind fun t10 =>
    (armillaryref02_Ceil (mx (w_i64 (a0.Lo * a0.Lo)) (w_i64 (a0.Hi * a0.Hi))) 65536).bind fun t11 =>
    (armillaryref02_New t10 t11).bind fun t12 =>
    some t12

/-! armillary/armillaryref02.Root: function 93 -/
def armillaryref02_Root.l9 (k0 : Nat) (a0 : Int) : Nat → Int → Int → Option (Int)
  | 0, _, _ => none
  | k + 1, x7, x8 =>
    if (decide (x8 > 0)) = true then
      (if (decide ((w_i64 ((w_i64 (x7 + x8)) * (w_i64 (x7 + x8)))) ≤ a0)) = true then
        some (w_i64 (x7 + x8))
      else
        some (x7)).bind fun (j12 : Int) =>
      armillaryref02_Root.l9 k0 a0 k j12 (w_i64 (Int.tdiv x8 2))
    else
      some (x7)
def armillaryref02_Root (k0 : Nat) (a0 : Int) : Option (Int) :=
  (armillaryref02_Root.l9 k0 a0 k0 0 1073741824).bind fun (j4 : Int) =>
  some j4

/-! armillary/armillaryref02.Sqrt: function 67 -/
def armillaryref02_Sqrt (k0 : Nat) (a0 : TInterval) : Option (TInterval × Bool) :=
  (armillaryref02_IsEntire a0).bind fun t3 =>
  if t3 = true then
    some (a0, true)
  else
    if (decide (a0.Hi < 0)) = true then
      some ((⟨0, 0⟩ : TInterval), false)
    else
      (armillaryref02_Root k0 (w_i64 ((mx a0.Lo 0) * 65536))).bind fun t8 =>
      (armillaryref02_Root k0 (w_i64 (a0.Hi * 65536))).bind fun t9 =>
      (if (decide ((w_i64 (t9 * t9)) < (w_i64 (a0.Hi * 65536)))) = true then
        some (w_i64 (t9 + 1))
      else
        some (t9)).bind fun (j11 : Int) =>
      (armillaryref02_New t8 j11).bind fun t13 =>
      some (t13, true)

/-! armillary/armillaryref02.Add: function 68 -/
def armillaryref02_Add (a0 : TInterval) (a1 : TInterval) : Option (TInterval) :=
  (armillaryref02_IsEntire a0).bind fun t3 =>
  (if (t3 == false) = true then armillaryref02_IsEntire a1 else some default).bind fun t4 =>
  if (t3 || t4) = true then
    (armillaryref02_Entire).bind fun t6 =>
    some t6
  else
    (armillaryref02_New (w_i64 (a0.Lo + a1.Lo)) (w_i64 (a0.Hi + a1.Hi))).bind fun t8 =>
    some t8

/-! armillary/armillaryref02.Sub: function 69 -/
def armillaryref02_Sub (a0 : TInterval) (a1 : TInterval) : Option (TInterval) :=
  (armillaryref02_Neg a1).bind fun t3 =>
  (armillaryref02_Add a0 t3).bind fun t4 =>
  some t4

/-! armillary/armillaryref02.Mul: function 70 -/
def armillaryref02_Mul.l20 (k0 : Nat) (a0 : TInterval) (a1 : TInterval) (t3 : Bool) (t4 : Bool) : Nat → Int → Int → Int → Option (Int × Int)
  | 0, _, _, _ => none
  | k + 1, x17, x18, x19 =>
    if (decide (x19 < 4)) = true then
      if 0 ≤ x19 ∧ x19 < 4 then
        ([w_i64 (a0.Lo * a1.Lo), w_i64 (a0.Lo * a1.Hi), w_i64 (a0.Hi * a1.Lo), w_i64 (a0.Hi * a1.Hi)][x19.toNat]?).bind fun t24 =>
        if 0 ≤ x19 ∧ x19 < 4 then
          ([w_i64 (a0.Lo * a1.Lo), w_i64 (a0.Lo * a1.Hi), w_i64 (a0.Hi * a1.Lo), w_i64 (a0.Hi * a1.Hi)][x19.toNat]?).bind fun t27 =>
          armillaryref02_Mul.l20 k0 a0 a1 t3 t4 k (mn x17 t24) (mx x18 t27) (w_i64 (x19 + 1))
        else none
      else none
    else
      some (x17, x18)
def armillaryref02_Mul (k0 : Nat) (a0 : TInterval) (a1 : TInterval) : Option (TInterval) :=
  (armillaryref02_IsEntire a0).bind fun t3 =>
  (if (t3 == false) = true then armillaryref02_IsEntire a1 else some default).bind fun t4 =>
  if (t3 || t4) = true then
    (armillaryref02_Entire).bind fun t6 =>
    some t6
  else
    (armillaryref02_Mul.l20 k0 a0 a1 t3 t4 k0 (w_i64 (a0.Lo * a1.Lo)) (w_i64 (a0.Lo * a1.Lo)) 1).bind fun (j11 : Int × Int) =>
    (armillaryref02_Floor j11.1 65536).bind fun t13 =>
    (armillaryref02_Ceil j11.2 65536).bind fun t14 =>
    (armillaryref02_New t13 t14).bind fun t15 =>
    some t15

/-! armillary/armillaryref02.Div: function 71 -/
def armillaryref02_Div.l30 (k0 : Nat) (a0 : TInterval) (a1 : TInterval) (t3 : Bool) (t4 : Bool) (t9 : Int) (t10 : Int) (x17 : Int) (x18 : Int) (x19 : Int) : Nat → Int → Int → Int → Option (Int × Int)
  | 0, _, _, _ => none
  | k + 1, x27, x28, x29 =>
    if (decide (x29 < 2)) = true then
      if 0 ≤ x19 ∧ x19 < 2 then
        ([a0.Lo, a0.Hi][x19.toNat]?).bind fun t34 =>
        if 0 ≤ x29 ∧ x29 < 2 then
          ([a1.Lo, a1.Hi][x29.toNat]?).bind fun t36 =>
          (armillaryref02_Floor (w_i64 (t34 * 65536)) t36).bind fun t37 =>
          if 0 ≤ x19 ∧ x19 < 2 then
            ([a0.Lo, a0.Hi][x19.toNat]?).bind fun t40 =>
            if 0 ≤ x29 ∧ x29 < 2 then
              ([a1.Lo, a1.Hi][x29.toNat]?).bind fun t42 =>
              (armillaryref02_Ceil (w_i64 (t40 * 65536)) t42).bind fun t43 =>
              armillaryref02_Div.l30 k0 a0 a1 t3 t4 t9 t10 x17 x18 x19 k (mn x27 t37) (mx x28 t43) (w_i64 (x29 + 1))
            else none
          else none
        else none
      else none
    else
      some (x27, x28)
def armillaryref02_Div.l20 (k0 : Nat) (a0 : TInterval) (a1 : TInterval) (t3 : Bool) (t4 : Bool) (t9 : Int) (t10 : Int) : Nat → Int → Int → Int → Option (Int × Int)
  | 0, _, _, _ => none
  | k + 1, x17, x18, x19 =>
    if (decide (x19 < 2)) = true then
      (armillaryref02_Div.l30 k0 a0 a1 t3 t4 t9 t10 x17 x18 x19 k0 x17 x18 0).bind fun (j24 : Int × Int) =>
      armillaryref02_Div.l20 k0 a0 a1 t3 t4 t9 t10 k j24.1 j24.2 (w_i64 (x19 + 1))
    else
      some (x17, x18)
def armillaryref02_Div (k0 : Nat) (a0 : TInterval) (a1 : TInterval) : Option (TInterval) :=
  (armillaryref02_IsEntire a0).bind fun t3 =>
  (if (t3 == false) = true then armillaryref02_IsEntire a1 else some default).bind fun t4 =>
  if ((t3 || t4) || ((decide (a1.Lo ≤ 0)) && (decide (a1.Hi ≥ 0)))) = true then
    (armillaryref02_Entire).bind fun t6 =>
    some t6
  else
    (armillaryref02_Floor (w_i64 (a0.Lo * 65536)) a1.Lo).bind fun t9 =>
    (armillaryref02_Ceil (w_i64 (a0.Lo * 65536)) a1.Lo).bind fun t10 =>
    (armillaryref02_Div.l20 k0 a0 a1 t3 t4 t9 t10 k0 t9 t10 0).bind fun (j13 : Int × Int) =>
    (armillaryref02_New j13.1 j13.2).bind fun t15 =>
    some t15

/-! armillary/armillaryref07.Eval: function 34 -/
def armillaryref07_Eval.l82 (k0 : Nat) (rec : (List TNode) → (List TInterval) → TInterval → Option (TInterval)) (a0 : List TNode) (a1 : List TInterval) (a2 : TInterval) (t3 : List (List TNode)) : Nat → (List TInterval) → Int → Option (List TInterval)
  | 0, _, _ => none
  | k + 1, x80, x81 =>
    if (decide (x81 < (t3.length : Int))) = true then
      if 0 ≤ x81 ∧ x81 < (t3.length : Int) then
        (t3[x81.toNat]?).bind fun t86 =>
        (rec t86 a1 a2).bind fun t87 =>
        if x80.length < 1000000 then
          armillaryref07_Eval.l82 k0 rec a0 a1 a2 t3 k (x80 ++ [t87]) (w_i64 (x81 + 1))
        else none
      else none
    else
      some (x80)
def armillaryref07_Eval.body (k0 : Nat) (rec : (List TNode) → (List TInterval) → TInterval → Option (TInterval)) (a0 : List TNode) (a1 : List TInterval) (a2 : TInterval) : Option (TInterval) :=
  (armillaryref07_Operands k0 a0).bind fun t3 =>
  (armillaryref07_Eval.l82 k0 rec a0 a1 a2 t3 k0 ([] : List TInterval) 0).bind fun (j5 : List TInterval) =>
  if 0 ≤ (0 : Int) ∧ (0 : Int) < (a0.length : Int) then
    (a0[(0 : Int).toNat]?).bind fun t8 =>
    if (t8.Op == 1) = true then
      if 0 ≤ (0 : Int) ∧ (0 : Int) < (a0.length : Int) then
        (a0[(0 : Int).toNat]?).bind fun t12 =>
        some (⟨t12.C.Lo, t12.C.Hi⟩ : TInterval)
      else none
    else
      if (t8.Op == 2) = true then
        if 0 ≤ (0 : Int) ∧ (0 : Int) < (a0.length : Int) then
          (a0[(0 : Int).toNat]?).bind fun t16 =>
          if 0 ≤ t16.N ∧ t16.N < (a1.length : Int) then
            (a1[t16.N.toNat]?).bind fun t18 =>
            some t18
          else none
        else none
      else
        if (t8.Op == 3) = true then
          some a2
        else
          if (t8.Op == 4) = true then
            if 0 ≤ (0 : Int) ∧ (0 : Int) < (j5.length : Int) then
              (j5[(0 : Int).toNat]?).bind fun t24 =>
              (armillaryref02_Neg t24).bind fun t25 =>
              some t25
            else none
          else
            if (t8.Op == 5) = true then
              if 0 ≤ (0 : Int) ∧ (0 : Int) < (j5.length : Int) then
                (j5[(0 : Int).toNat]?).bind fun t29 =>
                (armillaryref02_Square t29).bind fun t30 =>
                some t30
              else none
            else
              if (t8.Op == 6) = true then
                if 0 ≤ (0 : Int) ∧ (0 : Int) < (j5.length : Int) then
                  (j5[(0 : Int).toNat]?).bind fun t34 =>
                  if (decide (t34.Lo < 0)) = true then
                    (armillaryref02_Entire).bind fun t36 =>
                    some t36
                  else
                    if 0 ≤ (0 : Int) ∧ (0 : Int) < (j5.length : Int) then
                      (j5[(0 : Int).toNat]?).bind fun t39 =>
                      (armillaryref02_Sqrt k0 t39).bind fun t40 =>
                      some (⟨t40.1.Lo, t40.1.Hi⟩ : TInterval)
                    else none
                else none
              else
                if (t8.Op == 7) = true then
                  if 0 ≤ (0 : Int) ∧ (0 : Int) < (j5.length : Int) then
                    (j5[(0 : Int).toNat]?).bind fun t46 =>
                    if 0 ≤ (1 : Int) ∧ (1 : Int) < (j5.length : Int) then
                      (j5[(1 : Int).toNat]?).bind fun t48 =>
                      (armillaryref02_Add t46 t48).bind fun t49 =>
                      some t49
                    else none
                  else none
                else
                  if (t8.Op == 8) = true then
                    if 0 ≤ (0 : Int) ∧ (0 : Int) < (j5.length : Int) then
                      (j5[(0 : Int).toNat]?).bind fun t53 =>
                      if 0 ≤ (1 : Int) ∧ (1 : Int) < (j5.length : Int) then
                        (j5[(1 : Int).toNat]?).bind fun t55 =>
                        (armillaryref02_Sub t53 t55).bind fun t56 =>
                        some t56
                      else none
                    else none
                  else
                    if (t8.Op == 9) = true then
                      if 0 ≤ (0 : Int) ∧ (0 : Int) < (j5.length : Int) then
                        (j5[(0 : Int).toNat]?).bind fun t60 =>
                        if 0 ≤ (1 : Int) ∧ (1 : Int) < (j5.length : Int) then
                          (j5[(1 : Int).toNat]?).bind fun t62 =>
                          (armillaryref02_Mul k0 t60 t62).bind fun t63 =>
                          some t63
                        else none
                      else none
                    else
                      if 0 ≤ (0 : Int) ∧ (0 : Int) < (j5.length : Int) then
                        (j5[(0 : Int).toNat]?).bind fun t66 =>
                        if 0 ≤ (1 : Int) ∧ (1 : Int) < (j5.length : Int) then
                          (j5[(1 : Int).toNat]?).bind fun t68 =>
                          (armillaryref02_Div k0 t66 t68).bind fun t69 =>
                          some t69
                        else none
                      else none
  else none
def armillaryref07_Eval : Nat → (List TNode) → (List TInterval) → TInterval → Option (TInterval)
  | 0, _, _, _ => none
  | k0 + 1, a0, a1, a2 => armillaryref07_Eval.body k0 (armillaryref07_Eval k0) a0 a1 a2

/-! armillary/armillaryref15.Eval: function 13 -/
def armillaryref15_Eval (k0 : Nat) (a0 : TGuard) (a1 : List TInterval) (a2 : TInterval) : Option (TInterval) :=
  (armillaryref07_Eval k0 a0.F a1 a2).bind fun t3 =>
  some t3

/-! armillary/armillaryref02.Sign: function 36 -/
def armillaryref02_Sign (a0 : TInterval) : Option (Int) :=
  if (decide (a0.Lo > 0)) = true then
    some 1
  else
    if (decide (a0.Hi < 0)) = true then
      some (-1)
    else
      some 0

/-! armillary/armillaryref15.Side: function 15 -/
def armillaryref15_Side (k0 : Nat) (a0 : TGuard) (a1 : List TInterval) (a2 : TInterval) : Option (Int) :=
  (armillaryref15_Eval k0 (⟨a0.F, a0.Dir⟩ : TGuard) a1 a2).bind fun t3 =>
  (armillaryref02_Sign t3).bind fun t4 =>
  some t4

/-! armillary/armillaryref15.Reverse: function 18 -/
def armillaryref15_Reverse (a0 : TGuard) : Option (TGuard) :=
  if ((decide ((a0.F.length : Int) > 0)) == true) = true → 0 ≤ (0 : Int) ∧ (0 : Int) < (a0.F.length : Int) then
    (if ((decide ((a0.F.length : Int) > 0)) == true) = true then a0.F[(0 : Int).toNat]? else some default).bind fun t4 =>
    if ((decide ((a0.F.length : Int) > 0)) && (t4.Op == 4)) = true then
      if 0 ≤ (1 : Int) ∧ (1 : Int) ≤ (a0.F.length : Int) then
        some (⟨(a0.F.drop (1 : Int).toNat), w_i64 (0 - a0.Dir)⟩ : TGuard)
      else none
    else
      if 0 < a0.F.length ∧ a0.F.length < 1000000 then
        some (⟨([(⟨4, 0, (⟨0, 0⟩ : TInterval)⟩ : TNode)] ++ a0.F), w_i64 (0 - a0.Dir)⟩ : TGuard)
      else none
  else none

/-! armillary/armillaryref15.upward: function 43 -/
def armillaryref15_upward (a0 : TInterval) (a1 : TInterval) (a2 : TInterval) : Option (Int) :=
  if ((decide (a1.Hi < 0)) && (decide (a2.Lo ≥ 0))) = true then
    some 2
  else
    if ((decide (a0.Hi < 0)) || (decide (a0.Lo ≥ 0))) = true then
      some 0
    else
      some 1

/-! armillary/armillaryref15.downward: function 44 -/
def armillaryref15_downward (a0 : TInterval) (a1 : TInterval) (a2 : TInterval) : Option (Int) :=
  if ((decide (a1.Lo > 0)) && (decide (a2.Hi ≤ 0))) = true then
    some 2
  else
    if ((decide (a0.Lo > 0)) || (decide (a0.Hi ≤ 0))) = true then
      some 0
    else
      some 1

/-! armillary/armillaryref15.Crossing: function 20 -/
def armillaryref15_Crossing (k0 : Nat) (a0 : TGuard) (a1 : TSegment) : Option (Int) :=
  (armillaryref15_Eval k0 (⟨a0.F, a0.Dir⟩ : TGuard) a1.Tube (⟨a1.T, w_i64 (a1.T + a1.H)⟩ : TInterval)).bind fun t3 =>
  (armillaryref02_Point a1.T).bind fun t5 =>
  (armillaryref15_Eval k0 (⟨a0.F, a0.Dir⟩ : TGuard) a1.From t5).bind fun t6 =>
  (armillaryref02_Point (w_i64 (a1.T + a1.H))).bind fun t8 =>
  (armillaryref15_Eval k0 (⟨a0.F, a0.Dir⟩ : TGuard) a1.To t8).bind fun t9 =>
  (armillaryref15_upward t3 t6 t9).bind fun t11 =>
  (armillaryref15_downward t3 t6 t9).bind fun t13 =>
  if (a0.Dir == 1) = true then
    some t11
  else
    if (a0.Dir == (-1)) = true then
      some t13
    else
      if ((t11 == 2) || (t13 == 2)) = true then
        some 2
      else
        if ((t11 == 0) && (t13 == 0)) = true then
          some 0
        else
          some 1

/-! armillary/armillarylaw15.GuardMatchesReference: function 3 -/
def armillarylaw15_GuardMatchesReference (k0 : Nat) (a0 : TInput) (a1 : TGuard) (a2 : Int) : Option (Bool) :=
  (armillarylaw15_sanity k0).bind fun t3 =>
  (armillarylaw15_segment k0 (⟨a0.F, a0.Dir, a0.N, a0.A, a0.B, a0.C, (⟨a0.G.T, a0.G.H⟩ : TTimeStep), a0.P⟩ : TInput)).bind fun t5 =>
  (if ((decide ((a1.F.length : Int) < 300)) == true) = true then guard_Valid k0 (⟨a1.F, a1.Dir⟩ : TGuard) (w_i64 a2) else some default).bind fun t8 =>
  (if ((decide ((a1.F.length : Int) < 300)) == true) = true then armillaryref15_Valid k0 (⟨a1.F, a1.Dir⟩ : TGuard) (w_i64 a2) else some default).bind fun t9 =>
  if ((decide ((a1.F.length : Int) < 300)) && (!(t8 == t9))) = true then
    some false
  else
    (if (t3 == true) = true then guard_Valid k0 (⟨t5.1.F, t5.1.Dir⟩ : TGuard) (t5.2.From.length : Int) else some default).bind fun t12 =>
    (if ((t3 && t12) == true) = true then guard_Eval k0 (⟨t5.1.F, t5.1.Dir⟩ : TGuard) t5.2.Tube (⟨t5.2.T, w_i64 (t5.2.T + t5.2.H)⟩ : TInterval) else some default).bind fun t13 =>
    (if ((t3 && t12) == true) = true then armillaryref15_Eval k0 (⟨t5.1.F, t5.1.Dir⟩ : TGuard) t5.2.Tube (⟨t5.2.T, w_i64 (t5.2.T + t5.2.H)⟩ : TInterval) else some default).bind fun t14 =>
    (if (((t3 && t12) && ((t13.Lo == t14.Lo) && ((t13.Hi == t14.Hi) && true))) == true) = true then guard_Side k0 (⟨t5.1.F, t5.1.Dir⟩ : TGuard) t5.2.From (⟨t5.2.T, w_i64 (t5.2.T + t5.2.H)⟩ : TInterval) else some default).bind fun t15 =>
    (if (((t3 && t12) && ((t13.Lo == t14.Lo) && ((t13.Hi == t14.Hi) && true))) == true) = true then armillaryref15_Side k0 (⟨t5.1.F, t5.1.Dir⟩ : TGuard) t5.2.From (⟨t5.2.T, w_i64 (t5.2.T + t5.2.H)⟩ : TInterval) else some default).bind fun t16 =>
    (some (((t3 && t12) && ((t13.Lo == t14.Lo) && ((t13.Hi == t14.Hi) && true))) && (t15 == t16))).bind fun z17 =>
    if z17 = true then
      (guard_Reverse k0 (⟨t5.1.F, t5.1.Dir⟩ : TGuard)).bind fun t18 =>
      (armillaryref15_Reverse (⟨t5.1.F, t5.1.Dir⟩ : TGuard)).bind fun t19 =>
      (armillaryref15_Same k0 t18 t19).bind fun t20 =>
      (if (t20 == true) = true then guard_Crossing k0 (⟨t5.1.F, t5.1.Dir⟩ : TGuard) (⟨t5.2.T, t5.2.H, t5.2.From, t5.2.Pre, t5.2.Tube, t5.2.To⟩ : TSegment) else some default).bind fun t21 =>
      (if (t20 == true) = true then armillaryref15_Crossing k0 (⟨t5.1.F, t5.1.Dir⟩ : TGuard) (⟨t5.2.T, t5.2.H, t5.2.From, t5.2.Pre, t5.2.Tube, t5.2.To⟩ : TSegment) else some default).bind fun t22 =>
      some (t20 && (t21 == t22))
    else
    if z17 = false then
      some false
    else
    none

/-! armillary/armillarylaw15.GuardDirections: function 4 -/
def armillarylaw15_GuardDirections (k0 : Nat) (a0 : TInput) : Option (Bool) :=
  (armillarylaw15_sanity k0).bind fun t3 =>
  (armillarylaw15_segment k0 (⟨a0.F, a0.Dir, a0.N, a0.A, a0.B, a0.C, (⟨a0.G.T, a0.G.H⟩ : TTimeStep), a0.P⟩ : TInput)).bind fun t5 =>
  (guard_Crossing k0 (⟨t5.1.F, 1⟩ : TGuard) (⟨t5.2.T, t5.2.H, t5.2.From, t5.2.Pre, t5.2.Tube, t5.2.To⟩ : TSegment)).bind fun t7 =>
  (guard_Crossing k0 (⟨t5.1.F, (-1)⟩ : TGuard) (⟨t5.2.T, t5.2.H, t5.2.From, t5.2.Pre, t5.2.Tube, t5.2.To⟩ : TSegment)).bind fun t9 =>
  (guard_Crossing k0 (⟨t5.1.F, 0⟩ : TGuard) (⟨t5.2.T, t5.2.H, t5.2.From, t5.2.Pre, t5.2.Tube, t5.2.To⟩ : TSegment)).bind fun t11 =>
  if (((((decide (t7 < 0)) || (decide (t7 > 2))) || (decide (t9 < 0))) || (decide (t9 > 2))) || ((t7 == 2) && (t9 == 2))) = true then
    some false
  else
    (if ((t7 == 2) || (t9 == 2)) = true then
      some (2)
    else
      if ((t7 == 0) && (t9 == 0)) = true then
        some (0)
      else
        some (1)).bind fun (j16 : Int) =>
    some (t3 && (t11 == j16))

/-! armillary/armillaryref03.Point: function 45 -/
def armillaryref03_Point.l9 (k0 : Nat) (a0 : List Int) : Nat → (List TInterval) → Int → Option (List TInterval)
  | 0, _, _ => none
  | k + 1, x7, x8 =>
    if (decide (x8 < (a0.length : Int))) = true then
      if 0 ≤ x8 ∧ x8 < (a0.length : Int) then
        (a0[x8.toNat]?).bind fun t13 =>
        (armillaryref02_Point t13).bind fun t14 =>
        if x7.length < 1000000 then
          armillaryref03_Point.l9 k0 a0 k (x7 ++ [t14]) (w_i64 (x8 + 1))
        else none
      else none
    else
      some (x7)
def armillaryref03_Point (k0 : Nat) (a0 : List Int) : Option (List TInterval) :=
  (armillaryref03_Point.l9 k0 a0 k0 ([] : List TInterval) 0).bind fun (j4 : List TInterval) =>
  some j4

/-! armillary/armillaryref03.PointIn: function 46 -/
def armillaryref03_PointIn.l9 (k0 : Nat) (a0 : List TInterval) (a1 : List Int) : Nat → (List Int) → Int → Option (List Int)
  | 0, _, _ => none
  | k + 1, x7, x8 =>
    if (decide (x8 < (a0.length : Int))) = true then
      ((if (decide (x8 < (a1.length : Int))) = true then
        if 0 ≤ x8 ∧ x8 < (a1.length : Int) then
          (a1[x8.toNat]?).bind fun t35 =>
          some (w_i64 t35)
        else none
      else
        some (0)).bind fun (j16 : Int) =>
      if 0 ≤ x8 ∧ x8 < (a0.length : Int) then
        (a0[x8.toNat]?).bind fun t19 =>
        (armillaryref02_IsEntire t19).bind fun t20 =>
        if t20 = true then
          if x7.length < 1000000 then
            some ((x7 ++ [j16]))
          else none
        else
          if 0 ≤ x8 ∧ x8 < (a0.length : Int) then
            (a0[x8.toNat]?).bind fun t25 =>
            if 0 ≤ x8 ∧ x8 < (a0.length : Int) then
              (a0[x8.toNat]?).bind fun t27 =>
              if 0 ≤ x8 ∧ x8 < (a0.length : Int) then
                (a0[x8.toNat]?).bind fun t29 =>
                if x7.length < 1000000 then
                  some ((x7 ++ [w_i64 (t25.Lo + (w_i64 (Int.tdiv (w_i64 ((w_i64 (t27.Hi - t29.Lo)) * j16)) 65535)))]))
                else none
              else none
            else none
          else none
      else none).bind fun (j12 : List Int) =>
      armillaryref03_PointIn.l9 k0 a0 a1 k j12 (w_i64 (x8 + 1))
    else
      some (x7)
def armillaryref03_PointIn (k0 : Nat) (a0 : List TInterval) (a1 : List Int) : Option (List Int) :=
  (armillaryref03_PointIn.l9 k0 a0 a1 k0 ([] : List Int) 0).bind fun (j4 : List Int) =>
  some j4

/-! armillary/armillarylaw15.pointBox: function 21 -/
def armillarylaw15_pointBox (k0 : Nat) (a0 : List TInterval) (a1 : List Int) : Option (List TInterval) :=
  (armillaryref03_PointIn k0 a0 a1).bind fun t3 =>
  (armillaryref03_Point k0 t3).bind fun t4 =>
  some t4

/-! armillary/armillarylaw15.GuardRefinement: function 5 -/
def armillarylaw15_GuardRefinement (k0 : Nat) (a0 : TInput) : Option (Bool) :=
  (armillarylaw15_sanity k0).bind fun t3 =>
  (armillarylaw15_segment k0 (⟨a0.F, a0.Dir, a0.N, a0.A, a0.B, a0.C, (⟨a0.G.T, a0.G.H⟩ : TTimeStep), a0.P⟩ : TInput)).bind fun t5 =>
  (armillarylaw15_pointBox k0 t5.2.From a0.P).bind fun t8 =>
  (armillarylaw15_pointBox k0 t5.2.To a0.P).bind fun t10 =>
  (armillaryref03_Hull k0 t8 t10).bind fun t12 =>
  (guard_Crossing k0 (⟨t5.1.F, t5.1.Dir⟩ : TGuard) (⟨t5.2.T, t5.2.H, t5.2.From, t5.2.Pre, t5.2.Tube, t5.2.To⟩ : TSegment)).bind fun t14 =>
  (if ((t3 == true) && ((t14 == 1) == false)) = true then guard_Crossing k0 (⟨t5.1.F, t5.1.Dir⟩ : TGuard) (⟨t5.2.T, t5.2.H, t8, t5.2.Pre, t12, t10⟩ : TSegment) else some default).bind fun t16 =>
  some (t3 && ((t14 == 1) || (t16 == t14)))

/-! armillary/armillarylaw15.crosses: function 24 -/
def armillarylaw15_crosses (a0 : Int) (a1 : Int) (a2 : Int) : Option (Bool) :=
  (some ((((decide (a2 ≥ 0)) && (decide (a0 < 0))) && (decide (a1 ≥ 0))) || (((decide (a2 ≤ 0)) && (decide (a0 > 0))) && (decide (a1 ≤ 0))))).bind fun z3 =>
  some z3

/-! armillary/armillarylaw15.GuardSoundForLines: function 6 -/
def armillarylaw15_GuardSoundForLines (k0 : Nat) (a0 : Int) (a1 : Int) (a2 : Int) (a3 : Int) (a4 : TA2_Int) : Option (Bool) :=
  (armillarylaw15_sanity k0).bind fun t3 =>
  (some (mn (w_i64 (Int.tmod a0 1048576)) (w_i64 ((w_i64 (Int.tmod a0 1048576)) + (w_i64 (Int.tmod a1 1048576)))))).bind fun z9 =>
  (some (mx (w_i64 (Int.tmod a0 1048576)) (w_i64 ((w_i64 (Int.tmod a0 1048576)) + (w_i64 (Int.tmod a1 1048576)))))).bind fun z10 =>
  (armillaryref02_Point (w_i64 (Int.tmod a0 1048576))).bind fun t12 =>
  (armillaryref02_Point (w_i64 ((w_i64 (Int.tmod a0 1048576)) + (w_i64 (Int.tmod a1 1048576))))).bind fun t13 =>
  (armillaryref02_Point (w_i64 (Int.tmod a2 1048576))).bind fun t15 =>
  (guard_Crossing k0 (⟨([(⟨8, 0, (⟨0, 0⟩ : TInterval)⟩ : TNode), (⟨2, 0, (⟨0, 0⟩ : TInterval)⟩ : TNode), (⟨1, 0, t15⟩ : TNode)] : List TNode), w_i64 (Int.tmod a3 2)⟩ : TGuard) (⟨0, 65536, ([t12] : List TInterval), ([(⟨z9, z10⟩ : TInterval)] : List TInterval), ([(⟨z9, z10⟩ : TInterval)] : List TInterval), ([t13] : List TInterval)⟩ : TSegment)).bind fun t17 =>
  (some (w_i64 ((w_i64 ((w_i64 ((w_i64 (Int.tmod a0 1048576)) - (w_i64 (Int.tmod a2 1048576)))) * 65535)) + (w_i64 ((w_i64 (Int.tmod a1 1048576)) * (w_i64 (mn a4.e0 a4.e1))))))).bind fun z21 =>
  (some (w_i64 ((w_i64 ((w_i64 ((w_i64 (Int.tmod a0 1048576)) - (w_i64 (Int.tmod a2 1048576)))) * 65535)) + (w_i64 ((w_i64 (Int.tmod a1 1048576)) * (w_i64 (mx a4.e0 a4.e1))))))).bind fun z23 =>
  (if ((t17 == 0) == true) = true then armillarylaw15_crosses z21 z23 (w_i64 (Int.tmod a3 2)) else some default).bind fun t25 =>
  if ((t17 == 0) && t25) = true then
    some false
  else
    (if ((t3 == true) && ((t17 != 2) == false)) = true then armillarylaw15_crosses (w_i64 ((w_i64 (Int.tmod a0 1048576)) - (w_i64 (Int.tmod a2 1048576)))) (w_i64 ((w_i64 ((w_i64 (Int.tmod a0 1048576)) + (w_i64 (Int.tmod a1 1048576)))) - (w_i64 (Int.tmod a2 1048576)))) (w_i64 (Int.tmod a3 2)) else some default).bind fun t28 =>
    some (t3 && ((t17 != 2) || t28))

/-! armillary/interval.Subset: function 25 -/
def interval_Subset (a0 : TInterval) (a1 : TInterval) : Option (Bool) :=
  some ((decide (a1.Lo ≤ a0.Lo)) && (decide (a0.Hi ≤ a1.Hi)))

/-! armillary/armillarylaw15.GuardSideIsotone: function 7 -/
def armillarylaw15_GuardSideIsotone (k0 : Nat) (a0 : TInput) : Option (Bool) :=
  (armillarylaw15_sanity k0).bind fun t3 =>
  (armillarylaw15_segment k0 (⟨a0.F, a0.Dir, a0.N, a0.A, a0.B, a0.C, (⟨a0.G.T, a0.G.H⟩ : TTimeStep), a0.P⟩ : TInput)).bind fun t5 =>
  (armillarylaw15_pointBox k0 t5.2.Tube a0.P).bind fun t8 =>
  (guard_Side k0 (⟨t5.1.F, t5.1.Dir⟩ : TGuard) t5.2.Tube (⟨t5.2.T, w_i64 (t5.2.T + t5.2.H)⟩ : TInterval)).bind fun t10 =>
  (armillaryref02_Point t5.2.T).bind fun t12 =>
  (guard_Eval k0 (⟨t5.1.F, t5.1.Dir⟩ : TGuard) t8 t12).bind fun t13 =>
  (if (t3 == true) = true then guard_Eval k0 (⟨t5.1.F, t5.1.Dir⟩ : TGuard) t5.2.Tube (⟨t5.2.T, w_i64 (t5.2.T + t5.2.H)⟩ : TInterval) else some default).bind fun t15 =>
  (if (t3 == true) = true then interval_Subset t13 t15 else some default).bind fun t16 =>
  (if (((t3 && t16) == true) && ((t10 == 0) == false)) = true then armillaryref02_Point t5.2.T else some default).bind fun t17 =>
  (if (((t3 && t16) == true) && ((t10 == 0) == false)) = true then guard_Side k0 (⟨t5.1.F, t5.1.Dir⟩ : TGuard) t8 t17 else some default).bind fun t18 =>
  some ((t3 && t16) && ((t10 == 0) || (t18 == t10)))

/-- What the law's plain function must answer. -/
def armillarylaw15_GuardMatchesReference.Pure : Prop :=
  ∀ (c0_0 : List TNode) (c0_1 : Int) (c0_2 : Int) (c0_3 : List TInterval) (c0_4 : List TInterval) (c0_5 : List TInterval) (c0_6 : Int) (c0_7 : Int) (c0_8 : List Int) (c1_0 : List TNode) (c1_1 : Int) (c2_0 : Int), (∀ y ∈ c0_0, ((-9223372036854775808) ≤ y.Op ∧ y.Op ≤ 9223372036854775807) ∧ ((-9223372036854775808) ≤ y.N ∧ y.N ≤ 9223372036854775807) ∧ ((-9223372036854775808) ≤ y.C.Lo ∧ y.C.Lo ≤ 9223372036854775807) ∧ ((-9223372036854775808) ≤ y.C.Hi ∧ y.C.Hi ≤ 9223372036854775807)) → ((-128) ≤ c0_1 ∧ c0_1 ≤ 127) → (0 ≤ c0_2 ∧ c0_2 ≤ 255) → (∀ y ∈ c0_3, ((-9223372036854775808) ≤ y.Lo ∧ y.Lo ≤ 9223372036854775807) ∧ ((-9223372036854775808) ≤ y.Hi ∧ y.Hi ≤ 9223372036854775807)) → (∀ y ∈ c0_4, ((-9223372036854775808) ≤ y.Lo ∧ y.Lo ≤ 9223372036854775807) ∧ ((-9223372036854775808) ≤ y.Hi ∧ y.Hi ≤ 9223372036854775807)) → (∀ y ∈ c0_5, ((-9223372036854775808) ≤ y.Lo ∧ y.Lo ≤ 9223372036854775807) ∧ ((-9223372036854775808) ≤ y.Hi ∧ y.Hi ≤ 9223372036854775807)) → ((-9223372036854775808) ≤ c0_6 ∧ c0_6 ≤ 9223372036854775807) → ((-9223372036854775808) ≤ c0_7 ∧ c0_7 ≤ 9223372036854775807) → (∀ y ∈ c0_8, (0 ≤ y ∧ y ≤ 65535)) → (∀ y ∈ c1_0, ((-9223372036854775808) ≤ y.Op ∧ y.Op ≤ 9223372036854775807) ∧ ((-9223372036854775808) ≤ y.N ∧ y.N ≤ 9223372036854775807) ∧ ((-9223372036854775808) ≤ y.C.Lo ∧ y.C.Lo ≤ 9223372036854775807) ∧ ((-9223372036854775808) ≤ y.C.Hi ∧ y.C.Hi ≤ 9223372036854775807)) → ((-9223372036854775808) ≤ c1_1 ∧ c1_1 ≤ 9223372036854775807) → ((-128) ≤ c2_0 ∧ c2_0 ≤ 127) → ∃ k0 : Nat, armillarylaw15_GuardMatchesReference k0 (⟨c0_0, c0_1, c0_2, c0_3, c0_4, c0_5, (⟨c0_6, c0_7⟩ : TTimeStep), c0_8⟩ : TInput) (⟨c1_0, c1_1⟩ : TGuard) c2_0 = some true

/-- What the law's plain function must answer. -/
def armillarylaw15_GuardDirections.Pure : Prop :=
  ∀ (c0_0 : List TNode) (c0_1 : Int) (c0_2 : Int) (c0_3 : List TInterval) (c0_4 : List TInterval) (c0_5 : List TInterval) (c0_6 : Int) (c0_7 : Int) (c0_8 : List Int), (∀ y ∈ c0_0, ((-9223372036854775808) ≤ y.Op ∧ y.Op ≤ 9223372036854775807) ∧ ((-9223372036854775808) ≤ y.N ∧ y.N ≤ 9223372036854775807) ∧ ((-9223372036854775808) ≤ y.C.Lo ∧ y.C.Lo ≤ 9223372036854775807) ∧ ((-9223372036854775808) ≤ y.C.Hi ∧ y.C.Hi ≤ 9223372036854775807)) → ((-128) ≤ c0_1 ∧ c0_1 ≤ 127) → (0 ≤ c0_2 ∧ c0_2 ≤ 255) → (∀ y ∈ c0_3, ((-9223372036854775808) ≤ y.Lo ∧ y.Lo ≤ 9223372036854775807) ∧ ((-9223372036854775808) ≤ y.Hi ∧ y.Hi ≤ 9223372036854775807)) → (∀ y ∈ c0_4, ((-9223372036854775808) ≤ y.Lo ∧ y.Lo ≤ 9223372036854775807) ∧ ((-9223372036854775808) ≤ y.Hi ∧ y.Hi ≤ 9223372036854775807)) → (∀ y ∈ c0_5, ((-9223372036854775808) ≤ y.Lo ∧ y.Lo ≤ 9223372036854775807) ∧ ((-9223372036854775808) ≤ y.Hi ∧ y.Hi ≤ 9223372036854775807)) → ((-9223372036854775808) ≤ c0_6 ∧ c0_6 ≤ 9223372036854775807) → ((-9223372036854775808) ≤ c0_7 ∧ c0_7 ≤ 9223372036854775807) → (∀ y ∈ c0_8, (0 ≤ y ∧ y ≤ 65535)) → ∃ k0 : Nat, armillarylaw15_GuardDirections k0 (⟨c0_0, c0_1, c0_2, c0_3, c0_4, c0_5, (⟨c0_6, c0_7⟩ : TTimeStep), c0_8⟩ : TInput) = some true

/-- What the law's plain function must answer. -/
def armillarylaw15_GuardRefinement.Pure : Prop :=
  ∀ (c0_0 : List TNode) (c0_1 : Int) (c0_2 : Int) (c0_3 : List TInterval) (c0_4 : List TInterval) (c0_5 : List TInterval) (c0_6 : Int) (c0_7 : Int) (c0_8 : List Int), (∀ y ∈ c0_0, ((-9223372036854775808) ≤ y.Op ∧ y.Op ≤ 9223372036854775807) ∧ ((-9223372036854775808) ≤ y.N ∧ y.N ≤ 9223372036854775807) ∧ ((-9223372036854775808) ≤ y.C.Lo ∧ y.C.Lo ≤ 9223372036854775807) ∧ ((-9223372036854775808) ≤ y.C.Hi ∧ y.C.Hi ≤ 9223372036854775807)) → ((-128) ≤ c0_1 ∧ c0_1 ≤ 127) → (0 ≤ c0_2 ∧ c0_2 ≤ 255) → (∀ y ∈ c0_3, ((-9223372036854775808) ≤ y.Lo ∧ y.Lo ≤ 9223372036854775807) ∧ ((-9223372036854775808) ≤ y.Hi ∧ y.Hi ≤ 9223372036854775807)) → (∀ y ∈ c0_4, ((-9223372036854775808) ≤ y.Lo ∧ y.Lo ≤ 9223372036854775807) ∧ ((-9223372036854775808) ≤ y.Hi ∧ y.Hi ≤ 9223372036854775807)) → (∀ y ∈ c0_5, ((-9223372036854775808) ≤ y.Lo ∧ y.Lo ≤ 9223372036854775807) ∧ ((-9223372036854775808) ≤ y.Hi ∧ y.Hi ≤ 9223372036854775807)) → ((-9223372036854775808) ≤ c0_6 ∧ c0_6 ≤ 9223372036854775807) → ((-9223372036854775808) ≤ c0_7 ∧ c0_7 ≤ 9223372036854775807) → (∀ y ∈ c0_8, (0 ≤ y ∧ y ≤ 65535)) → ∃ k0 : Nat, armillarylaw15_GuardRefinement k0 (⟨c0_0, c0_1, c0_2, c0_3, c0_4, c0_5, (⟨c0_6, c0_7⟩ : TTimeStep), c0_8⟩ : TInput) = some true

/-- What the law's plain function must answer. -/
def armillarylaw15_GuardSoundForLines.Pure : Prop :=
  ∀ (c0_0 : Int) (c1_0 : Int) (c2_0 : Int) (c3_0 : Int) (c4_0 : Int) (c4_1 : Int), ((-2147483648) ≤ c0_0 ∧ c0_0 ≤ 2147483647) → ((-2147483648) ≤ c1_0 ∧ c1_0 ≤ 2147483647) → ((-2147483648) ≤ c2_0 ∧ c2_0 ≤ 2147483647) → ((-128) ≤ c3_0 ∧ c3_0 ≤ 127) → (0 ≤ c4_0 ∧ c4_0 ≤ 65535) → (0 ≤ c4_1 ∧ c4_1 ≤ 65535) → ∃ k0 : Nat, armillarylaw15_GuardSoundForLines k0 c0_0 c1_0 c2_0 c3_0 (⟨c4_0, c4_1⟩ : TA2_Int) = some true

/-- What the law's plain function must answer. -/
def armillarylaw15_GuardSideIsotone.Pure : Prop :=
  ∀ (c0_0 : List TNode) (c0_1 : Int) (c0_2 : Int) (c0_3 : List TInterval) (c0_4 : List TInterval) (c0_5 : List TInterval) (c0_6 : Int) (c0_7 : Int) (c0_8 : List Int), (∀ y ∈ c0_0, ((-9223372036854775808) ≤ y.Op ∧ y.Op ≤ 9223372036854775807) ∧ ((-9223372036854775808) ≤ y.N ∧ y.N ≤ 9223372036854775807) ∧ ((-9223372036854775808) ≤ y.C.Lo ∧ y.C.Lo ≤ 9223372036854775807) ∧ ((-9223372036854775808) ≤ y.C.Hi ∧ y.C.Hi ≤ 9223372036854775807)) → ((-128) ≤ c0_1 ∧ c0_1 ≤ 127) → (0 ≤ c0_2 ∧ c0_2 ≤ 255) → (∀ y ∈ c0_3, ((-9223372036854775808) ≤ y.Lo ∧ y.Lo ≤ 9223372036854775807) ∧ ((-9223372036854775808) ≤ y.Hi ∧ y.Hi ≤ 9223372036854775807)) → (∀ y ∈ c0_4, ((-9223372036854775808) ≤ y.Lo ∧ y.Lo ≤ 9223372036854775807) ∧ ((-9223372036854775808) ≤ y.Hi ∧ y.Hi ≤ 9223372036854775807)) → (∀ y ∈ c0_5, ((-9223372036854775808) ≤ y.Lo ∧ y.Lo ≤ 9223372036854775807) ∧ ((-9223372036854775808) ≤ y.Hi ∧ y.Hi ≤ 9223372036854775807)) → ((-9223372036854775808) ≤ c0_6 ∧ c0_6 ≤ 9223372036854775807) → ((-9223372036854775808) ≤ c0_7 ∧ c0_7 ≤ 9223372036854775807) → (∀ y ∈ c0_8, (0 ≤ y ∧ y ≤ 65535)) → ∃ k0 : Nat, armillarylaw15_GuardSideIsotone k0 (⟨c0_0, c0_1, c0_2, c0_3, c0_4, c0_5, (⟨c0_6, c0_7⟩ : TTimeStep), c0_8⟩ : TInput) = some true

end Go.Proofs.YtkkodieceehkmaaDoor
