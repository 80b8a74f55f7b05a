/- The program's functions as plain Lean functions, printed out of the program by a program of this session. -/
import GoSem.Core.View
import Derived.Test.YtbpgobecpmjaeaaDoorSxAll0
set_option linter.unusedVariables false
namespace Go.Proofs.YtbpgobecpmjaeaaDoor
open Go.Sx
abbrev w_i64 (n : Int) : Int := Go.IntKind.wrap .i64 n
abbrev w_u64 (n : Int) : Int := Go.IntKind.wrap .u64 n
abbrev w_u8 (n : Int) : Int := Go.IntKind.wrap .u8 n
abbrev mn (x y : Int) : Int := if y < x then y else x
abbrev mx (x y : Int) : Int := if y > x then y else x
def b_and (k : Go.IntKind) (x y : Int) : Int := k.wrap ((BitVec.ofInt k.bits x) &&& (BitVec.ofInt k.bits y)).toNat
def strAt (s : ByteArray) (i : Int) : Option Int := if h : 0 ≤ i ∧ i < s.size then some ((s[i.toNat]'(by omega)).toNat : Int) else none
structure TInterval where
  Lo : Int
  Hi : Int
deriving Inhabited, DecidableEq
structure TInstruction where
  Op : Int
  A : Int
  B : Int
  C : TInterval
deriving Inhabited, DecidableEq
structure TTape where
  N : Int
  L : List TInstruction
  Out : List Int
deriving Inhabited, DecidableEq
structure TNode where
  Op : Int
  N : Int
  C : TInterval
deriving Inhabited, DecidableEq
structure TSystem where
  Names : List ByteArray
  F : List (List TNode)
deriving Inhabited, DecidableEq
structure TQuery where
  C : TTape
  X : List TInterval
  T : TInterval
deriving Inhabited, DecidableEq
def armillaryref02_Same (a0 : TInterval) (a1 : TInterval) : Option (Bool) :=
  some ((a0.Lo == a1.Lo) && (a0.Hi == a1.Hi))
def armillaryref08_SameBoxes.l8 (k0 : Nat) (a0 : List TInterval) (a1 : List TInterval) : Nat → Int → Option ((Bool) ⊕ (Unit))
  | 0, _ => none
  | k + 1, x7 =>
    if (decide (x7 < (a0.length : Int))) = true then
      if 0 ≤ x7 ∧ x7 < (a0.length : Int) then
        (a0[x7.toNat]?).bind fun t12 =>
        if 0 ≤ x7 ∧ x7 < (a1.length : Int) then
          (a1[x7.toNat]?).bind fun t15 =>
          (armillaryref02_Same t12 t15).bind fun t17 =>
          if (!t17) = true then
            some (.inl false)
          else
            armillaryref08_SameBoxes.l8 k0 a0 a1 k (w_i64 (x7 + 1))
        else none
      else none
    else
      some (.inr ())
def armillaryref08_SameBoxes (k0 : Nat) (a0 : List TInterval) (a1 : List TInterval) : Option (Bool) :=
  if ((a0.length : Int) != (a1.length : Int)) = true then
    some false
  else
    (armillaryref08_SameBoxes.l8 k0 a0 a1 k0 0 : Option ((Bool) ⊕ (Unit))).bind fun j4 => match j4 with
    | .inl r => some r
    | .inr j4v =>
      some true
def interval_Neg (a0 : TInterval) : Option (TInterval) :=
  some (⟨w_i64 (0 - a0.Hi), w_i64 (0 - a0.Lo)⟩ : TInterval)
def interval_Entire : Option (TInterval) :=
  some (⟨(-2147483648), 2147483648⟩ : TInterval)
def interval_IsEntire (a0 : TInterval) : Option (Bool) :=
  (interval_Entire).bind fun t3 =>
  some ((a0.Lo == t3.Lo) && ((a0.Hi == t3.Hi) && true))
def interval_Mag (a0 : TInterval) : Option (Int) :=
  some (mx a0.Hi (w_i64 (0 - a0.Lo)))
def fixed_divide_1 (a0 : Int) : Option (Int) :=
  some (mn a0 1)
def fixed_floorCeil_int64_s68 (a0 : Int) (a1 : Int) : Option (Int × Int) :=
  if a1 ≠ 0 then
    if a1 ≠ 0 then
      (if (decide ((Int.tmod a0 a1) < 0)) = true then
        some (w_i64 ((w_i64 (Int.tdiv a0 a1)) - 1), w_i64 ((Int.tmod a0 a1) + a1))
      else
        some (w_i64 (Int.tdiv a0 a1), Int.tmod a0 a1)).bind fun (j7 : Int × Int) =>
      (fixed_divide_1 j7.2).bind fun t9 =>
      some (j7.1, w_i64 (j7.1 + t9))
    else none
  else none
def fixed_divide (a0 : Int) (a1 : Int) : Option (Int × Int) :=
  (if (decide (a1 < 0)) = true then
    some (w_i64 (0 - a0), w_i64 (0 - a1))
  else
    some (a0, a1)).bind fun (j4 : Int × Int) =>
  (fixed_floorCeil_int64_s68 j4.1 j4.2).bind fun t6 =>
  some (t6.1, t6.2)
def fixed_Mul (a0 : Int) (a1 : Int) : Option (Int × Int) :=
  (fixed_divide (w_i64 (a0 * a1)) 65536).bind fun t3 =>
  some (t3.1, t3.2)
def interval_New (a0 : Int) (a1 : Int) : Option (TInterval) :=
  (some (((decide (a0 ≤ (-2147483648))) || (decide (a1 ≥ 2147483648))) || (decide (a0 ≥ 2147483648)))).bind fun z3 =>
  if (z3 || (decide (a1 ≤ (-2147483648)))) = true then
    (interval_Entire).bind fun t5 =>
    some t5
  else
    some (⟨a0, a1⟩ : TInterval)
def interval_Square (a0 : TInterval) : Option (TInterval) :=
  (interval_IsEntire a0).bind fun t3 =>
  if t3 = true then
    some a0
  else
    (interval_Mag a0).bind fun t6 =>
    (fixed_Mul (mx (mx a0.Lo (w_i64 (0 - a0.Hi))) 0) (mx (mx a0.Lo (w_i64 (0 - a0.Hi))) 0)).bind fun t8 =>
    (fixed_Mul t6 t6).bind fun t10 =>
    (interval_New t8.1 t10.2).bind fun t12 =>
    some t12
def interval_Add (a0 : TInterval) (a1 : TInterval) : Option (TInterval) :=
  (interval_IsEntire a0).bind fun t3 =>
  (if (t3 == false) = true then interval_IsEntire a1 else some default).bind fun t4 =>
  if (t3 || t4) = true then
    (interval_Entire).bind fun t6 =>
    some t6
  else
    (interval_New (w_i64 (a0.Lo + a1.Lo)) (w_i64 (a0.Hi + a1.Hi))).bind fun t8 =>
    some t8
def interval_Sub (a0 : TInterval) (a1 : TInterval) : Option (TInterval) :=
  (interval_Neg a1).bind fun t3 =>
  (interval_Add a0 t3).bind fun t4 =>
  some t4
def interval_side (a0 : TInterval) : Option (Int) :=
  if (decide (a0.Hi ≤ 0)) = true then
    some 0
  else
    if (decide (a0.Lo ≥ 0)) = true then
      some 2
    else
      some 1
def interval_hh (a0 : TInterval) (a1 : TInterval) : Option (Int × Int) :=
  some (a0.Hi, a1.Hi)
def interval_ll (a0 : TInterval) (a1 : TInterval) : Option (Int × Int) :=
  some (a0.Lo, a1.Lo)
def interval_lh (a0 : TInterval) (a1 : TInterval) : Option (Int × Int) :=
  some (a0.Lo, a1.Hi)
def interval_hl (a0 : TInterval) (a1 : TInterval) : Option (Int × Int) :=
  some (a0.Hi, a1.Lo)
def interval_Mul (a0 : TInterval) (a1 : TInterval) : Option (TInterval) :=
  (interval_IsEntire a0).bind fun t3 =>
  (if (t3 == false) = true then interval_IsEntire a1 else some default).bind fun t4 =>
  if (t3 || t4) = true then
    (interval_Entire).bind fun t6 =>
    some t6
  else
    (interval_side a0).bind fun t8 =>
    (interval_side a1).bind fun t9 =>
    if ((t8 == 1) && (t9 == 1)) = true then
      (fixed_Mul a0.Lo a1.Hi).bind fun t12 =>
      (fixed_Mul a0.Hi a1.Lo).bind fun t14 =>
      (fixed_Mul a0.Lo a1.Lo).bind fun t16 =>
      (fixed_Mul a0.Hi a1.Hi).bind fun t18 =>
      (interval_New (mn t12.1 t14.1) (mx t16.2 t18.2)).bind fun t20 =>
      some t20
    else
      if t8 = 0 then
        if t9 = 0 then
          (interval_hh a0 a1).bind fun t23 =>
          (fixed_Mul t23.1 t23.2).bind fun t24 =>
          (interval_ll a0 a1).bind fun t26 =>
          (fixed_Mul t26.1 t26.2).bind fun t27 =>
          (interval_New t24.1 t27.2).bind fun t29 =>
          some t29
        else
        if t9 = 1 then
          (interval_lh a0 a1).bind fun t32 =>
          (fixed_Mul t32.1 t32.2).bind fun t33 =>
          (interval_ll a0 a1).bind fun t35 =>
          (fixed_Mul t35.1 t35.2).bind fun t36 =>
          (interval_New t33.1 t36.2).bind fun t38 =>
          some t38
        else
        if t9 = 2 then
          (interval_lh a0 a1).bind fun t41 =>
          (fixed_Mul t41.1 t41.2).bind fun t42 =>
          (interval_hl a0 a1).bind fun t44 =>
          (fixed_Mul t44.1 t44.2).bind fun t45 =>
          (interval_New t42.1 t45.2).bind fun t47 =>
          some t47
        else
        none
      else
      if t8 = 1 then
        if t9 = 0 then
          (interval_hl a0 a1).bind fun t53 =>
          (fixed_Mul t53.1 t53.2).bind fun t54 =>
          (interval_ll a0 a1).bind fun t56 =>
          (fixed_Mul t56.1 t56.2).bind fun t57 =>
          (interval_New t54.1 t57.2).bind fun t59 =>
          some t59
        else
        if t9 = 1 then
          none
        else
        if t9 = 2 then
          (interval_lh a0 a1).bind fun t63 =>
          (fixed_Mul t63.1 t63.2).bind fun t64 =>
          (interval_hh a0 a1).bind fun t66 =>
          (fixed_Mul t66.1 t66.2).bind fun t67 =>
          (interval_New t64.1 t67.2).bind fun t69 =>
          some t69
        else
        none
      else
      if t8 = 2 then
        if t9 = 0 then
          (interval_hl a0 a1).bind fun t75 =>
          (fixed_Mul t75.1 t75.2).bind fun t76 =>
          (interval_lh a0 a1).bind fun t78 =>
          (fixed_Mul t78.1 t78.2).bind fun t79 =>
          (interval_New t76.1 t79.2).bind fun t81 =>
          some t81
        else
        if t9 = 1 then
          (interval_hl a0 a1).bind fun t84 =>
          (fixed_Mul t84.1 t84.2).bind fun t85 =>
          (interval_hh a0 a1).bind fun t87 =>
          (fixed_Mul t87.1 t87.2).bind fun t88 =>
          (interval_New t85.1 t88.2).bind fun t90 =>
          some t90
        else
        if t9 = 2 then
          (interval_ll a0 a1).bind fun t93 =>
          (fixed_Mul t93.1 t93.2).bind fun t94 =>
          (interval_hh a0 a1).bind fun t96 =>
          (fixed_Mul t96.1 t96.2).bind fun t97 =>
          (interval_New t94.1 t97.2).bind fun t99 =>
          some t99
        else
        none
      else
      none
def interval_Contains (a0 : TInterval) (a1 : Int) : Option (Bool) :=
  (interval_IsEntire a0).bind fun t3 =>
  some (t3 || ((decide (a0.Lo ≤ a1)) && (decide (a1 ≤ a0.Hi))))
def interval_pick_int (a0 : Bool) (a1 : Int) (a2 : Int) : Option (Int) :=
  if a0 = true then
    some a1
  else
    some a2
def fixed_Div (a0 : Int) (a1 : Int) : Option (Int × Int × Int) :=
  if (a1 == 0) = true then
    some (0, 0, 3)
  else
    (fixed_divide (w_i64 (a0 * 65536)) a1).bind fun t5 =>
    some (t5.1, t5.2, 0)
def interval_Div (a0 : TInterval) (a1 : TInterval) : Option (TInterval) :=
  (interval_IsEntire a0).bind fun t3 =>
  (if (t3 == false) = true then interval_IsEntire a1 else some default).bind fun t4 =>
  (if ((t3 || t4) == false) = true then interval_Contains a1 0 else some default).bind fun t5 =>
  if ((t3 || t4) || t5) = true then
    (interval_Entire).bind fun t7 =>
    some t7
  else
    (interval_side a0).bind fun t9 =>
    if t9 = 0 then
      (interval_pick_int (decide (a1.Lo > 0)) 1 0).bind fun t10 =>
      if t10 = 0 then
        (interval_hl a0 a1).bind fun t12 =>
        (fixed_Div t12.1 t12.2).bind fun t13 =>
        (interval_lh a0 a1).bind fun t15 =>
        (fixed_Div t15.1 t15.2).bind fun t16 =>
        (interval_New t13.1 t16.2.1).bind fun t18 =>
        some t18
      else
      if t10 = 1 then
        (interval_ll a0 a1).bind fun t12 =>
        (fixed_Div t12.1 t12.2).bind fun t13 =>
        (interval_hh a0 a1).bind fun t15 =>
        (fixed_Div t15.1 t15.2).bind fun t16 =>
        (interval_New t13.1 t16.2.1).bind fun t18 =>
        some t18
      else
      none
    else
    if t9 = 1 then
      (interval_pick_int (decide (a1.Lo > 0)) 1 0).bind fun t10 =>
      if t10 = 0 then
        (interval_hh a0 a1).bind fun t12 =>
        (fixed_Div t12.1 t12.2).bind fun t13 =>
        (interval_lh a0 a1).bind fun t15 =>
        (fixed_Div t15.1 t15.2).bind fun t16 =>
        (interval_New t13.1 t16.2.1).bind fun t18 =>
        some t18
      else
      if t10 = 1 then
        (interval_ll a0 a1).bind fun t12 =>
        (fixed_Div t12.1 t12.2).bind fun t13 =>
        (interval_hl a0 a1).bind fun t15 =>
        (fixed_Div t15.1 t15.2).bind fun t16 =>
        (interval_New t13.1 t16.2.1).bind fun t18 =>
        some t18
      else
      none
    else
    if t9 = 2 then
      (interval_pick_int (decide (a1.Lo > 0)) 1 0).bind fun t10 =>
      if t10 = 0 then
        (interval_hh a0 a1).bind fun t12 =>
        (fixed_Div t12.1 t12.2).bind fun t13 =>
        (interval_ll a0 a1).bind fun t15 =>
        (fixed_Div t15.1 t15.2).bind fun t16 =>
        (interval_New t13.1 t16.2.1).bind fun t18 =>
        some t18
      else
      if t10 = 1 then
        (interval_lh a0 a1).bind fun t12 =>
        (fixed_Div t12.1 t12.2).bind fun t13 =>
        (interval_hl a0 a1).bind fun t15 =>
        (fixed_Div t15.1 t15.2).bind fun t16 =>
        (interval_New t13.1 t16.2.1).bind fun t18 =>
        some t18
      else
      none
    else
    none
def bits_Len64 (a0 : Int) : Option (Int) :=
  (if (decide (a0 ≥ 4294967296)) = true then
    some (Int.fdiv a0 4294967296, 32)
  else
    some (a0, 0)).bind fun (j4 : Int × Int) =>
  (if (decide (j4.1 ≥ 65536)) = true then
    some (Int.fdiv j4.1 65536, w_i64 (j4.2 + 16))
  else
    some (j4.1, j4.2)).bind fun (j7 : Int × Int) =>
  (if (decide (j7.1 ≥ 256)) = true then
    some (Int.fdiv j7.1 256, w_i64 (j7.2 + 8))
  else
    some (j7.1, j7.2)).bind fun (j10 : Int × Int) =>
  (strAt (⟨#[0, 1, 2, 2, 3, 3, 3, 3, 4, 4, 4, 4, 4, 4, 4, 4, 5, 5, 5, 5, 5, 5, 5, 5, 5, 5, 5, 5, 5, 5, 5, 5, 6, 6, 6, 6, 6, 6, 6, 6, 6, 6, 6, 6, 6, 6, 6, 6, 6, 6, 6, 6, 6, 6, 6, 6, 6, 6, 6, 6, 6, 6, 6, 6, 7, 7, 7, 7, 7, 7, 7, 7, 7, 7, 7, 7, 7, 7, 7, 7, 7, 7, 7, 7, 7, 7, 7, 7, 7, 7, 7, 7, 7, 7, 7, 7, 7, 7, 7, 7, 7, 7, 7, 7, 7, 7, 7, 7, 7, 7, 7, 7, 7, 7, 7, 7, 7, 7, 7, 7, 7, 7, 7, 7, 7, 7, 7, 7, 8, 8, 8, 8, 8, 8, 8, 8, 8, 8, 8, 8, 8, 8, 8, 8, 8, 8, 8, 8, 8, 8, 8, 8, 8, 8, 8, 8, 8, 8, 8, 8, 8, 8, 8, 8, 8, 8, 8, 8, 8, 8, 8, 8, 8, 8, 8, 8, 8, 8, 8, 8, 8, 8, 8, 8, 8, 8, 8, 8, 8, 8, 8, 8, 8, 8, 8, 8, 8, 8, 8, 8, 8, 8, 8, 8, 8, 8, 8, 8, 8, 8, 8, 8, 8, 8, 8, 8, 8, 8, 8, 8, 8, 8, 8, 8, 8, 8, 8, 8, 8, 8, 8, 8, 8, 8, 8, 8, 8, 8, 8, 8, 8, 8, 8, 8, 8, 8, 8, 8, 8, 8, 8, 8, 8, 8, 8, 8]⟩ : ByteArray) (w_u8 j10.1)).bind fun t12 =>
  some (w_i64 (j10.2 + (w_i64 t12)))
def fixed_Sqrt.l17 (k0 : Nat) (a0 : Int) (t8 : Int) : Nat → Int → Option (Int)
  | 0, _ => none
  | k + 1, x16 =>
    if x16 ≠ 0 then
      (some (decide ((w_i64 (Int.tdiv (w_i64 (x16 + (w_i64 (Int.tdiv (w_i64 (a0 * 65536)) x16)))) 2)) ≥ x16))).bind fun z21 =>
      if z21 = true then
        some (x16)
      else
        fixed_Sqrt.l17 k0 a0 t8 k (w_i64 (Int.tdiv (w_i64 (x16 + (w_i64 (Int.tdiv (w_i64 (a0 * 65536)) x16)))) 2))
    else none
def fixed_Sqrt (k0 : Nat) (a0 : Int) : Option (Int × Int × Int) :=
  if (decide (a0 < 0)) = true then
    some (0, 0, 4)
  else
    if ((w_i64 (a0 * 65536)) == 0) = true then
      some (0, 0, 0)
    else
      (bits_Len64 (w_u64 (w_i64 (a0 * 65536)))).bind fun t8 =>
      if 0 ≤ (w_i64 (Int.tdiv (w_i64 (t8 + 1)) 2)) then
        (fixed_Sqrt.l17 k0 a0 t8 k0 (w_i64 (1 * 2 ^ (min (w_i64 (Int.tdiv (w_i64 (t8 + 1)) 2)).toNat 64)))).bind fun (j11 : Int) =>
        if (decide ((w_i64 (j11 * j11)) < (w_i64 (a0 * 65536)))) = true then
          some (j11, w_i64 (j11 + 1), 0)
        else
          some (j11, j11, 0)
      else none
def interval_Sqrt (k0 : Nat) (a0 : TInterval) : Option (TInterval × Bool) :=
  (interval_IsEntire a0).bind fun t3 =>
  if t3 = true then
    some (a0, true)
  else
    if (decide (a0.Hi < 0)) = true then
      some ((⟨0, 0⟩ : TInterval), false)
    else
      (fixed_Sqrt k0 (mx a0.Lo 0)).bind fun t8 =>
      (fixed_Sqrt k0 a0.Hi).bind fun t10 =>
      (interval_New t8.1 t10.2.1).bind fun t12 =>
      some (t12, true)
def tape_root (k0 : Nat) (a0 : TInterval) : Option (TInterval) :=
  if (decide (a0.Lo < 0)) = true then
    (interval_Entire).bind fun t4 =>
    some t4
  else
    (interval_Sqrt k0 a0).bind fun t6 =>
    some (⟨t6.1.Lo, t6.1.Hi⟩ : TInterval)
def tape_Eval.l14 (k0 : Nat) (a0 : TTape) (a1 : List TInterval) (a2 : TInterval) (j5 : List TInterval) : Nat → (List TInterval) → Int → Option (List TInterval)
  | 0, _, _ => none
  | k + 1, x12, x13 =>
    if (decide (x13 < (a0.Out.length : Int))) = true then
      if 0 ≤ x13 ∧ x13 < (a0.Out.length : Int) then
        (a0.Out[x13.toNat]?).bind fun t18 =>
        if 0 ≤ t18 ∧ t18 < (j5.length : Int) then
          (j5[t18.toNat]?).bind fun t21 =>
          if 0 ≤ x13 ∧ x13 < (x12.length : Int) then
            (x12[x13.toNat]?).bind fun t23 =>
            tape_Eval.l14 k0 a0 a1 a2 j5 k (x12.set x13.toNat t21) (w_i64 (x13 + 1))
          else none
        else none
      else none
    else
      some (x12)
def tape_Eval.l29 (k0 : Nat) (a0 : TTape) (a1 : List TInterval) (a2 : TInterval) : Nat → (List TInterval) → Int → Option (List TInterval)
  | 0, _, _ => none
  | k + 1, x27, x28 =>
    if (decide (x28 < (a0.L.length : Int))) = true then
      (if 0 ≤ x28 ∧ x28 < (a0.L.length : Int) then
        (a0.L[x28.toNat]?).bind fun t36 =>
        (some t36.Op).bind fun z37 =>
        if z37 = 0 then
          none
        else
        if z37 = 1 then
          if 0 ≤ x28 ∧ x28 < (x27.length : Int) then
            (x27[x28.toNat]?).bind fun t47 =>
            some ((x27.set x28.toNat (⟨t36.C.Lo, t36.C.Hi⟩ : TInterval)))
          else none
        else
        if z37 = 2 then
          if 0 ≤ t36.A ∧ t36.A < (a1.length : Int) then
            (a1[t36.A.toNat]?).bind fun t53 =>
            if 0 ≤ x28 ∧ x28 < (x27.length : Int) then
              (x27[x28.toNat]?).bind fun t55 =>
              some ((x27.set x28.toNat t53))
            else none
          else none
        else
        if z37 = 3 then
          if 0 ≤ x28 ∧ x28 < (x27.length : Int) then
            (x27[x28.toNat]?).bind fun t62 =>
            some ((x27.set x28.toNat a2))
          else none
        else
        if z37 = 4 then
          if 0 ≤ t36.A ∧ t36.A < (x27.length : Int) then
            (x27[t36.A.toNat]?).bind fun t70 =>
            (interval_Neg t70).bind fun t72 =>
            if 0 ≤ x28 ∧ x28 < (x27.length : Int) then
              (x27[x28.toNat]?).bind fun t74 =>
              some ((x27.set x28.toNat t72))
            else none
          else none
        else
        if z37 = 5 then
          if 0 ≤ t36.A ∧ t36.A < (x27.length : Int) then
            (x27[t36.A.toNat]?).bind fun t82 =>
            (interval_Square t82).bind fun t84 =>
            if 0 ≤ x28 ∧ x28 < (x27.length : Int) then
              (x27[x28.toNat]?).bind fun t86 =>
              some ((x27.set x28.toNat t84))
            else none
          else none
        else
        if z37 = 6 then
          if 0 ≤ t36.A ∧ t36.A < (x27.length : Int) then
            (x27[t36.A.toNat]?).bind fun t94 =>
            (tape_root k0 t94).bind fun t96 =>
            if 0 ≤ x28 ∧ x28 < (x27.length : Int) then
              (x27[x28.toNat]?).bind fun t98 =>
              some ((x27.set x28.toNat t96))
            else none
          else none
        else
        if z37 = 7 then
          if 0 ≤ t36.A ∧ t36.A < (x27.length : Int) then
            (x27[t36.A.toNat]?).bind fun t106 =>
            if 0 ≤ t36.B ∧ t36.B < (x27.length : Int) then
              (x27[t36.B.toNat]?).bind fun t109 =>
              (interval_Add t106 t109).bind fun t110 =>
              if 0 ≤ x28 ∧ x28 < (x27.length : Int) then
                (x27[x28.toNat]?).bind fun t112 =>
                some ((x27.set x28.toNat t110))
              else none
            else none
          else none
        else
        if z37 = 8 then
          if 0 ≤ t36.A ∧ t36.A < (x27.length : Int) then
            (x27[t36.A.toNat]?).bind fun t120 =>
            if 0 ≤ t36.B ∧ t36.B < (x27.length : Int) then
              (x27[t36.B.toNat]?).bind fun t123 =>
              (interval_Sub t120 t123).bind fun t124 =>
              if 0 ≤ x28 ∧ x28 < (x27.length : Int) then
                (x27[x28.toNat]?).bind fun t126 =>
                some ((x27.set x28.toNat t124))
              else none
            else none
          else none
        else
        if z37 = 9 then
          if 0 ≤ t36.A ∧ t36.A < (x27.length : Int) then
            (x27[t36.A.toNat]?).bind fun t134 =>
            if 0 ≤ t36.B ∧ t36.B < (x27.length : Int) then
              (x27[t36.B.toNat]?).bind fun t137 =>
              (interval_Mul t134 t137).bind fun t138 =>
              if 0 ≤ x28 ∧ x28 < (x27.length : Int) then
                (x27[x28.toNat]?).bind fun t140 =>
                some ((x27.set x28.toNat t138))
              else none
            else none
          else none
        else
        if z37 = 10 then
          if 0 ≤ t36.A ∧ t36.A < (x27.length : Int) then
            (x27[t36.A.toNat]?).bind fun t148 =>
            if 0 ≤ t36.B ∧ t36.B < (x27.length : Int) then
              (x27[t36.B.toNat]?).bind fun t151 =>
              (interval_Div t148 t151).bind fun t152 =>
              if 0 ≤ x28 ∧ x28 < (x27.length : Int) then
                (x27[x28.toNat]?).bind fun t154 =>
                some ((x27.set x28.toNat t152))
              else none
            else none
          else none
        else
        none
      else none).bind fun (j32 : List TInterval) =>
      tape_Eval.l29 k0 a0 a1 a2 k j32 (w_i64 (x28 + 1))
    else
      some (x27)
def tape_Eval (k0 : Nat) (a0 : TTape) (a1 : List TInterval) (a2 : TInterval) : Option (List TInterval) :=
  if 0 ≤ (a0.L.length : Int) ∧ (a0.L.length : Int) < 1000000 then
    (tape_Eval.l29 k0 a0 a1 a2 k0 (List.replicate (a0.L.length : Int).toNat (⟨0, 0⟩ : TInterval)) 0).bind fun (j5 : List TInterval) =>
    if 0 ≤ (a0.Out.length : Int) ∧ (a0.Out.length : Int) < 1000000 then
      (tape_Eval.l14 k0 a0 a1 a2 j5 k0 (List.replicate (a0.Out.length : Int).toNat (⟨0, 0⟩ : TInterval)) 0).bind fun (j9 : List TInterval) =>
      some j9
    else none
  else none
def ode_arity (a0 : Int) : Option (Int) :=
  if ((decide (a0 ≥ 1)) && (decide (a0 ≤ 3))) = true then
    some 0
  else
    if ((decide (a0 ≥ 4)) && (decide (a0 ≤ 6))) = true then
      some 1
    else
      if ((decide (a0 ≥ 7)) && (decide (a0 ≤ 10))) = true then
        some 2
      else
        some (-1)
def ode_exprLen.l8 (k0 : Nat) (a0 : List TNode) : Nat → Int → Int → Option ((Int) ⊕ (Unit))
  | 0, _, _ => none
  | k + 1, x6, x7 =>
    if (decide (x7 < (a0.length : Int))) = true then
      if 0 ≤ x7 ∧ x7 < (a0.length : Int) then
        (a0[x7.toNat]?).bind fun t12 =>
        (ode_arity t12.Op).bind fun t14 =>
        if ((w_i64 (x6 + (w_i64 (t14 - 1)))) == 0) = true then
          some (.inl (w_i64 (x7 + 1)))
        else
          ode_exprLen.l8 k0 a0 k (w_i64 (x6 + (w_i64 (t14 - 1)))) (w_i64 (x7 + 1))
      else none
    else
      some (.inr ())
def ode_exprLen (k0 : Nat) (a0 : List TNode) : Option (Int) :=
  (ode_exprLen.l8 k0 a0 k0 1 0 : Option ((Int) ⊕ (Unit))).bind fun j3 => match j3 with
  | .inl r => some r
  | .inr j3v =>
    some (w_i64 ((a0.length : Int) + 1))
def ode_Operands.l14 (k0 : Nat) (a0 : List TNode) (t9 : TNode) (t10 : Int) : Nat → (List (List TNode)) → Int → Int → Option (List (List TNode))
  | 0, _, _, _ => none
  | k + 1, x11, x12, x13 =>
    if (decide (x13 < t10)) = true then
      if 0 ≤ x12 ∧ x12 ≤ (a0.length : Int) then
        (ode_exprLen k0 (a0.drop x12.toNat)).bind fun t18 =>
        if 0 ≤ x12 ∧ x12 ≤ w_i64 (x12 + t18) ∧ w_i64 (x12 + t18) ≤ (a0.length : Int) then
          if x11.length < 1000000 then
            ode_Operands.l14 k0 a0 t9 t10 k (x11 ++ [((a0.take (w_i64 (x12 + t18)).toNat).drop x12.toNat)]) (w_i64 (x12 + t18)) (w_i64 (x13 + 1))
          else none
        else none
      else none
    else
      some (x11)
def ode_Operands (k0 : Nat) (a0 : List TNode) : Option (List (List TNode)) :=
  (if 0 ≤ (0 : Int) ∧ (0 : Int) < (a0.length : Int) then
    (a0[(0 : Int).toNat]?).bind fun t9 =>
    (ode_arity t9.Op).bind fun t10 =>
    ode_Operands.l14 k0 a0 t9 t10 k0 ([] : List (List TNode)) 1 0
  else none).bind fun (j5 : List (List TNode)) =>
  some j5
def tape_builder_emit_m (a0_0 : List TInstruction) (a0_1 : List (TInstruction × Int)) (a1 : TInstruction) : Option (Int × List TInstruction × (List (TInstruction × Int))) :=
  (some ((mget a0_1 (⟨a1.Op, a1.A, a1.B, (⟨a1.C.Lo, a1.C.Hi⟩ : TInterval)⟩ : TInstruction)).getD 0)).bind fun z3 =>
  if ((mget a0_1 (⟨a1.Op, a1.A, a1.B, (⟨a1.C.Lo, a1.C.Hi⟩ : TInterval)⟩ : TInstruction)).isSome) = true then
    some (z3, a0_0, a0_1)
  else
    if a0_0.length < 1000000 then
      if (mget a0_1 (⟨a1.Op, a1.A, a1.B, (⟨a1.C.Lo, a1.C.Hi⟩ : TInterval)⟩ : TInstruction)).isSome = false then
        some ((a0_0.length : Int), (a0_0 ++ [(⟨a1.Op, a1.A, a1.B, (⟨a1.C.Lo, a1.C.Hi⟩ : TInterval)⟩ : TInstruction)]), (a0_1 ++ [((⟨a1.Op, a1.A, a1.B, (⟨a1.C.Lo, a1.C.Hi⟩ : TInterval)⟩ : TInstruction), (a0_0.length : Int))]))
      else none
    else none
def tape_Compile_1_m.l24 (k0 : Nat) (rec : (List TNode) → (List TInstruction) → (List (TInstruction × Int)) → Option (Int × List TInstruction × (List (TInstruction × Int)))) (a0 : List TNode) (q1_0_0 : List TInstruction) (q1_0_1 : List (TInstruction × Int)) (t4 : TNode) (t7 : TNode) (j9 : Int) (t18 : List (List TNode)) : Nat → (List TInstruction) → Int → Int → (List (TInstruction × Int)) → Int → Option (List TInstruction × Int × Int × (List (TInstruction × Int)))
  | 0, _, _, _, _, _ => none
  | k + 1, x19, x20, x21, x22, x23 =>
    if (decide (x23 < (t18.length : Int))) = true then
      (if 0 ≤ x23 ∧ x23 < (t18.length : Int) then
        (t18[x23.toNat]?).bind fun t34 =>
        (rec t34 x19 x22).bind fun t36 =>
        if (x23 == 0) = true then
          some (t36.2.1, t36.1, x21, t36.2.2)
        else
          some (t36.2.1, x20, t36.1, t36.2.2)
      else none).bind fun (j30 : List TInstruction × Int × Int × (List (TInstruction × Int))) =>
      tape_Compile_1_m.l24 k0 rec a0 q1_0_0 q1_0_1 t4 t7 j9 t18 k j30.1 j30.2.1 j30.2.2.1 j30.2.2.2 (w_i64 (x23 + 1))
    else
      some (x19, x20, x21, x22)
def tape_Compile_1_m.body (k0 : Nat) (rec : (List TNode) → (List TInstruction) → (List (TInstruction × Int)) → Option (Int × List TInstruction × (List (TInstruction × Int)))) (a0 : List TNode) (q1_0_0 : List TInstruction) (q1_0_1 : List (TInstruction × Int)) : Option (Int × List TInstruction × (List (TInstruction × Int))) :=
  if 0 ≤ (0 : Int) ∧ (0 : Int) < (a0.length : Int) then
    (a0[(0 : Int).toNat]?).bind fun t4 =>
    if 0 ≤ (0 : Int) ∧ (0 : Int) < (a0.length : Int) then
      (a0[(0 : Int).toNat]?).bind fun t7 =>
      (if (t4.Op == 2) = true then
        if 0 ≤ (0 : Int) ∧ (0 : Int) < (a0.length : Int) then
          (a0[(0 : Int).toNat]?).bind fun t45 =>
          some (t45.N)
        else none
      else
        some (0)).bind fun (j9 : Int) =>
      ((ode_Operands k0 a0).bind fun t18 =>
      tape_Compile_1_m.l24 k0 rec a0 q1_0_0 q1_0_1 t4 t7 j9 t18 k0 q1_0_0 j9 0 q1_0_1 0).bind fun (j14 : List TInstruction × Int × Int × (List (TInstruction × Int))) =>
      (tape_builder_emit_m j14.1 j14.2.2.2 (⟨t4.Op, j14.2.1, j14.2.2.1, (⟨t7.C.Lo, t7.C.Hi⟩ : TInterval)⟩ : TInstruction)).bind fun t16 =>
      some (t16.1, t16.2.1, t16.2.2)
    else none
  else none
def tape_Compile_1_m : Nat → (List TNode) → (List TInstruction) → (List (TInstruction × Int)) → Option (Int × List TInstruction × (List (TInstruction × Int)))
  | 0, _, _, _ => none
  | k0 + 1, a0, q1_0_0, q1_0_1 => tape_Compile_1_m.body k0 (tape_Compile_1_m k0) a0 q1_0_0 q1_0_1
def tape_Compile.l20 (k0 : Nat) (a0 : TSystem) : Nat → (List TInstruction) → (List Int) → (List (TInstruction × Int)) → Int → Option (List TInstruction × List Int × (List (TInstruction × Int)))
  | 0, _, _, _, _ => none
  | k + 1, x16, x17, x18, x19 =>
    if (decide (x19 < (a0.F.length : Int))) = true then
      if 0 ≤ x19 ∧ x19 < (a0.F.length : Int) then
        (a0.F[x19.toNat]?).bind fun t24 =>
        (tape_Compile_1_m k0 t24 x16 x18).bind fun t26 =>
        if x17.length < 1000000 then
          tape_Compile.l20 k0 a0 k t26.2.1 (x17 ++ [t26.1]) t26.2.2 (w_i64 (x19 + 1))
        else none
      else none
    else
      some (x16, x17, x18)
def tape_Compile (k0 : Nat) (a0 : TSystem) : Option (TTape) :=
  (tape_Compile.l20 k0 a0 k0 ([] : List TInstruction) ([] : List Int) ([] : List (TInstruction × Int)) 0).bind fun (j9 : List TInstruction × List Int × (List (TInstruction × Int))) =>
  if (decide ((j9.1.length : Int) > 400)) = true then
    some (⟨0, ([] : List TInstruction), ([] : List Int)⟩ : TTape)
  else
    some (⟨(a0.F.length : Int), j9.1, j9.2.1⟩ : TTape)
def tape_arity (k0 : Nat) (a0 : Int) : Option (Int) :=
  if ((decide (a0 < 1)) || (decide (a0 > 10))) = true then
    some (-1)
  else
    if a0 = 0 then
      some 0
    else
    if a0 = 1 then
      some 0
    else
    if a0 = 2 then
      some 0
    else
    if a0 = 3 then
      some 0
    else
    if a0 = 4 then
      some 1
    else
    if a0 = 5 then
      some 1
    else
    if a0 = 6 then
      some 1
    else
    if a0 = 7 then
      some 2
    else
    if a0 = 8 then
      some 2
    else
    if a0 = 9 then
      some 2
    else
    if a0 = 10 then
      some 2
    else
    none
def tape_Optimize_1_m.body (k0 : Nat) (rec : Int → (List (Int × Int)) → TTape → (List TInstruction) → (List (TInstruction × Int)) → Option (Int × List TInstruction × (List (Int × Int)) × (List (TInstruction × Int)))) (a0 : Int) (q0_0 : List (Int × Int)) (q1 : TTape) (q3_0_0 : List TInstruction) (q3_0_1 : List (TInstruction × Int)) : Option (Int × List TInstruction × (List (Int × Int)) × (List (TInstruction × Int))) :=
  if ((mget q0_0 a0).isSome) = true then
    some (((mget q0_0 a0).getD 0), q3_0_0, q0_0, q3_0_1)
  else
    if 0 ≤ a0 ∧ a0 < (q1.L.length : Int) then
      (q1.L[a0.toNat]?).bind fun t7 =>
      ((tape_arity k0 t7.Op).bind fun t28 =>
      if (decide (t28 > 0)) = true then
        (rec t7.A q0_0 (⟨q1.N, q1.L, q1.Out⟩ : TTape) q3_0_0 q3_0_1).bind fun t30 =>
        some (t30.2.1, t30.1, t30.2.2.1, t30.2.2.2)
      else
        some (q3_0_0, t7.A, q0_0, q3_0_1)).bind fun (j12 : List TInstruction × Int × (List (Int × Int)) × (List (TInstruction × Int))) =>
      ((tape_arity k0 t7.Op).bind fun t23 =>
      if (decide (t23 > 1)) = true then
        (rec t7.B j12.2.2.1 (⟨q1.N, q1.L, q1.Out⟩ : TTape) j12.1 j12.2.2.2).bind fun t25 =>
        some (t25.2.1, t25.1, t25.2.2.1, t25.2.2.2)
      else
        some (j12.1, t7.B, j12.2.2.1, j12.2.2.2)).bind fun (j17 : List TInstruction × Int × (List (Int × Int)) × (List (TInstruction × Int))) =>
      (tape_builder_emit_m j17.1 j17.2.2.2 (⟨t7.Op, j12.2.1, j17.2.1, (⟨t7.C.Lo, t7.C.Hi⟩ : TInterval)⟩ : TInstruction)).bind fun t19 =>
      if (mget j17.2.2.1 a0).isSome = false then
        some (((mget (j17.2.2.1 ++ [(a0, t19.1)]) a0).getD 0), t19.2.1, (j17.2.2.1 ++ [(a0, t19.1)]), t19.2.2)
      else none
    else none
def tape_Optimize_1_m : Nat → Int → (List (Int × Int)) → TTape → (List TInstruction) → (List (TInstruction × Int)) → Option (Int × List TInstruction × (List (Int × Int)) × (List (TInstruction × Int)))
  | 0, _, _, _, _, _ => none
  | k0 + 1, a0, q0_0, q1, q3_0_0, q3_0_1 => tape_Optimize_1_m.body k0 (tape_Optimize_1_m k0) a0 q0_0 q1 q3_0_0 q3_0_1
def tape_Optimize.l20 (k0 : Nat) (a0 : TTape) : Nat → (List TInstruction) → (List Int) → (List (TInstruction × Int)) → (List (Int × Int)) → Int → Option (List TInstruction × List Int × (List (TInstruction × Int)) × (List (Int × Int)))
  | 0, _, _, _, _, _ => none
  | k + 1, x15, x16, x17, x18, x19 =>
    if (decide (x19 < (a0.Out.length : Int))) = true then
      if 0 ≤ x19 ∧ x19 < (a0.Out.length : Int) then
        (a0.Out[x19.toNat]?).bind fun t24 =>
        (tape_Optimize_1_m k0 t24 x18 (⟨a0.N, a0.L, a0.Out⟩ : TTape) x15 x17).bind fun t26 =>
        if x16.length < 1000000 then
          tape_Optimize.l20 k0 a0 k t26.2.1 (x16 ++ [t26.1]) t26.2.2.2 t26.2.2.1 (w_i64 (x19 + 1))
        else none
      else none
    else
      some (x15, x16, x17, x18)
def tape_Optimize (k0 : Nat) (a0 : TTape) : Option (TTape) :=
  (tape_Optimize.l20 k0 a0 k0 ([] : List TInstruction) ([] : List Int) ([] : List (TInstruction × Int)) ([] : List (Int × Int)) 0).bind fun (j11 : List TInstruction × List Int × (List (TInstruction × Int)) × (List (Int × Int))) =>
  some (⟨a0.N, j11.1, j11.2.1⟩ : TTape)
def armillaryref08_same (a0 : TInstruction) (a1 : TInstruction) : Option (Bool) :=
  (if ((((a0.Op == a1.Op) && (a0.A == a1.A)) && (a0.B == a1.B)) == true) = true then armillaryref02_Same (⟨a0.C.Lo, a0.C.Hi⟩ : TInterval) (⟨a1.C.Lo, a1.C.Hi⟩ : TInterval) else some default).bind fun t3 =>
  some ((((a0.Op == a1.Op) && (a0.A == a1.A)) && (a0.B == a1.B)) && t3)
def armillaryref08_Same.l9 (k0 : Nat) (a0 : TTape) (a1 : TTape) (j4v : Unit) : Nat → Int → Option ((Bool) ⊕ (Unit))
  | 0, _ => none
  | k + 1, x8 =>
    if (decide (x8 < (a0.Out.length : Int))) = true then
      if 0 ≤ x8 ∧ x8 < (a0.Out.length : Int) then
        (a0.Out[x8.toNat]?).bind fun t13 =>
        if 0 ≤ x8 ∧ x8 < (a1.Out.length : Int) then
          (a1.Out[x8.toNat]?).bind fun t16 =>
          if (t13 != t16) = true then
            some (.inl false)
          else
            armillaryref08_Same.l9 k0 a0 a1 j4v k (w_i64 (x8 + 1))
        else none
      else none
    else
      some (.inr ())
def armillaryref08_Same.l24 (k0 : Nat) (a0 : TTape) (a1 : TTape) : Nat → Int → Option ((Bool) ⊕ (Unit))
  | 0, _ => none
  | k + 1, x23 =>
    if (decide (x23 < (a0.L.length : Int))) = true then
      if 0 ≤ x23 ∧ x23 < (a0.L.length : Int) then
        (a0.L[x23.toNat]?).bind fun t28 =>
        if 0 ≤ x23 ∧ x23 < (a1.L.length : Int) then
          (a1.L[x23.toNat]?).bind fun t31 =>
          (armillaryref08_same t28 t31).bind fun t33 =>
          if (!t33) = true then
            some (.inl false)
          else
            armillaryref08_Same.l24 k0 a0 a1 k (w_i64 (x23 + 1))
        else none
      else none
    else
      some (.inr ())
def armillaryref08_Same (k0 : Nat) (a0 : TTape) (a1 : TTape) : Option (Bool) :=
  if (((a0.N != a1.N) || ((a0.L.length : Int) != (a1.L.length : Int))) || ((a0.Out.length : Int) != (a1.Out.length : Int))) = true then
    some false
  else
    (armillaryref08_Same.l24 k0 a0 a1 k0 0 : Option ((Bool) ⊕ (Unit))).bind fun j4 => match j4 with
    | .inl r => some r
    | .inr j4v =>
      (armillaryref08_Same.l9 k0 a0 a1 j4v k0 0 : Option ((Bool) ⊕ (Unit))).bind fun j5 => match j5 with
      | .inl r => some r
      | .inr j5v =>
        some true
def armillaryref02_Entire : Option (TInterval) :=
  some (⟨(-2147483648), 2147483648⟩ : TInterval)
def armillaryref02_Number (a0 : Int) : Option (Bool) :=
  some ((decide (a0 > (-2147483648))) && (decide (a0 < 2147483648)))
def armillaryref02_New (a0 : Int) (a1 : Int) : Option (TInterval) :=
  (armillaryref02_Number a0).bind fun t3 =>
  (if ((!t3) == false) = true then armillaryref02_Number a1 else some default).bind fun t4 =>
  if ((!t3) || (!t4)) = true then
    (armillaryref02_Entire).bind fun t6 =>
    some t6
  else
    some (⟨a0, a1⟩ : TInterval)
def armillaryref02_Point (a0 : Int) : Option (TInterval) :=
  (armillaryref02_New a0 a0).bind fun t3 =>
  some t3
def armillaryref08_SameRows.l22 (k0 : Nat) (a0 : List (List TNode)) (a1 : List (List TNode)) (x7 : Int) (t14 : List TNode) (t17 : List TNode) : Nat → Int → Option (((Bool) ⊕ (Unit)) ⊕ (Unit))
  | 0, _ => none
  | k + 1, x21 =>
    if 0 ≤ x7 ∧ x7 < (a0.length : Int) then
      (a0[x7.toNat]?).bind fun t25 =>
      if (decide (x21 < (t25.length : Int))) = true then
        if 0 ≤ x7 ∧ x7 < (a0.length : Int) then
          (a0[x7.toNat]?).bind fun t28 =>
          if 0 ≤ x21 ∧ x21 < (t28.length : Int) then
            (t28[x21.toNat]?).bind fun t31 =>
            if 0 ≤ x7 ∧ x7 < (a1.length : Int) then
              (a1[x7.toNat]?).bind fun t33 =>
              if 0 ≤ x21 ∧ x21 < (t33.length : Int) then
                (t33[x21.toNat]?).bind fun t36 =>
                (some (t31.Op != t36.Op)).bind fun z37 =>
                if z37 = true then
                  some (.inl (.inl false))
                else
                if z37 = false then
                  if 0 ≤ x7 ∧ x7 < (a0.length : Int) then
                    (a0[x7.toNat]?).bind fun t39 =>
                    if 0 ≤ x21 ∧ x21 < (t39.length : Int) then
                      (t39[x21.toNat]?).bind fun t41 =>
                      if 0 ≤ x7 ∧ x7 < (a1.length : Int) then
                        (a1[x7.toNat]?).bind fun t43 =>
                        if 0 ≤ x21 ∧ x21 < (t43.length : Int) then
                          (t43[x21.toNat]?).bind fun t45 =>
                          (some (t41.N != t45.N)).bind fun z46 =>
                          if z46 = true then
                            some (.inl (.inl false))
                          else
                          if z46 = false then
                            if 0 ≤ x7 ∧ x7 < (a0.length : Int) then
                              (a0[x7.toNat]?).bind fun t48 =>
                              if 0 ≤ x21 ∧ x21 < (t48.length : Int) then
                                (t48[x21.toNat]?).bind fun t50 =>
                                if 0 ≤ x7 ∧ x7 < (a1.length : Int) then
                                  (a1[x7.toNat]?).bind fun t52 =>
                                  if 0 ≤ x21 ∧ x21 < (t52.length : Int) then
                                    (t52[x21.toNat]?).bind fun t54 =>
                                    (armillaryref02_Same (⟨t50.C.Lo, t50.C.Hi⟩ : TInterval) (⟨t54.C.Lo, t54.C.Hi⟩ : TInterval)).bind fun t55 =>
                                    if (!t55) = true then
                                      some (.inl (.inl false))
                                    else
                                      armillaryref08_SameRows.l22 k0 a0 a1 x7 t14 t17 k (w_i64 (x21 + 1))
                                  else none
                                else none
                              else none
                            else none
                          else
                          none
                        else none
                      else none
                    else none
                  else none
                else
                none
              else none
            else none
          else none
        else none
      else
        some (.inr ())
    else none
def armillaryref08_SameRows.l8 (k0 : Nat) (a0 : List (List TNode)) (a1 : List (List TNode)) : Nat → Int → Option ((Bool) ⊕ (Unit))
  | 0, _ => none
  | k + 1, x7 =>
    if (decide (x7 < (a0.length : Int))) = true then
      (if 0 ≤ x7 ∧ x7 < (a0.length : Int) then
        (a0[x7.toNat]?).bind fun t14 =>
        if 0 ≤ x7 ∧ x7 < (a1.length : Int) then
          (a1[x7.toNat]?).bind fun t17 =>
          if ((t14.length : Int) != (t17.length : Int)) = true then
            some (.inl (.inl false))
          else
            armillaryref08_SameRows.l22 k0 a0 a1 x7 t14 t17 k0 0
        else none
      else none : Option (((Bool) ⊕ (Unit)) ⊕ (Unit))).bind fun j10 => match j10 with
      | .inl r => some r
      | .inr j10v =>
        armillaryref08_SameRows.l8 k0 a0 a1 k (w_i64 (x7 + 1))
    else
      some (.inr ())
def armillaryref08_SameRows (k0 : Nat) (a0 : List (List TNode)) (a1 : List (List TNode)) : Option (Bool) :=
  if ((a0.length : Int) != (a1.length : Int)) = true then
    some false
  else
    (armillaryref08_SameRows.l8 k0 a0 a1 k0 0 : Option ((Bool) ⊕ (Unit))).bind fun j4 => match j4 with
    | .inl r => some r
    | .inr j4v =>
      some true
def tape_Decompile_1_m.body (k0 : Nat) (rec : (List TNode) → Int → TTape → Option (List TNode)) (a0 : List TNode) (a1 : Int) (q0 : TTape) : Option (List TNode) :=
  if 0 ≤ a1 ∧ a1 < (q0.L.length : Int) then
    (q0.L[a1.toNat]?).bind fun t4 =>
    (if (t4.Op == 2) = true then
      some (t4.A)
    else
      some (0)).bind fun (j7 : Int) =>
    if a0.length < 1000000 then
      ((tape_arity k0 t4.Op).bind fun t21 =>
      if (decide (t21 > 0)) = true then
        (rec (a0 ++ [(⟨t4.Op, j7, (⟨t4.C.Lo, t4.C.Hi⟩ : TInterval)⟩ : TNode)]) t4.A (⟨q0.N, q0.L, q0.Out⟩ : TTape)).bind fun t23 =>
        some (t23)
      else
        some ((a0 ++ [(⟨t4.Op, j7, (⟨t4.C.Lo, t4.C.Hi⟩ : TInterval)⟩ : TNode)]))).bind fun (j11 : List TNode) =>
      ((tape_arity k0 t4.Op).bind fun t16 =>
      if (decide (t16 > 1)) = true then
        (rec j11 t4.B (⟨q0.N, q0.L, q0.Out⟩ : TTape)).bind fun t18 =>
        some (t18)
      else
        some (j11)).bind fun (j13 : List TNode) =>
      some j13
    else none
  else none
def tape_Decompile_1_m : Nat → (List TNode) → Int → TTape → Option (List TNode)
  | 0, _, _, _ => none
  | k0 + 1, a0, a1, q0 => tape_Decompile_1_m.body k0 (tape_Decompile_1_m k0) a0 a1 q0
def tape_Decompile.l16 (k0 : Nat) (a0 : TTape) (j5 : List Int) : Nat → (List (List TNode)) → Int → Option (List (List TNode))
  | 0, _, _ => none
  | k + 1, x14, x15 =>
    if (decide (x15 < (a0.Out.length : Int))) = true then
      (if 0 ≤ x15 ∧ x15 < (a0.Out.length : Int) then
        (a0.Out[x15.toNat]?).bind fun t23 =>
        if 0 ≤ t23 ∧ t23 < (j5.length : Int) then
          (j5[t23.toNat]?).bind fun t26 =>
          if (decide (t26 ≤ 200)) = true then
            (tape_Decompile_1_m k0 ([] : List TNode) t23 (⟨a0.N, a0.L, a0.Out⟩ : TTape)).bind fun t28 =>
            if 0 ≤ x15 ∧ x15 < (x14.length : Int) then
              (x14[x15.toNat]?).bind fun t30 =>
              some ((x14.set x15.toNat t28))
            else none
          else
            some (x14)
        else none
      else none).bind fun (j19 : List (List TNode)) =>
      tape_Decompile.l16 k0 a0 j5 k j19 (w_i64 (x15 + 1))
    else
      some (x14)
def tape_Decompile.l36 (k0 : Nat) (a0 : TTape) : Nat → (List Int) → Int → Option (List Int)
  | 0, _, _ => none
  | k + 1, x34, x35 =>
    if (decide (x35 < (a0.L.length : Int))) = true then
      if 0 ≤ x35 ∧ x35 < (a0.L.length : Int) then
        (a0.L[x35.toNat]?).bind fun t40 =>
        if 0 ≤ x35 ∧ x35 < (x34.length : Int) then
          (x34[x35.toNat]?).bind fun t43 =>
          ((tape_arity k0 t40.Op).bind fun t66 =>
          if (decide (t66 > 0)) = true then
            if 0 ≤ x35 ∧ x35 < ((x34.set x35.toNat 1).length : Int) then
              ((x34.set x35.toNat 1)[x35.toNat]?).bind fun t69 =>
              if 0 ≤ t40.A ∧ t40.A < ((x34.set x35.toNat 1).length : Int) then
                ((x34.set x35.toNat 1)[t40.A.toNat]?).bind fun t72 =>
                if 0 ≤ x35 ∧ x35 < ((x34.set x35.toNat 1).length : Int) then
                  ((x34.set x35.toNat 1)[x35.toNat]?).bind fun t74 =>
                  some (((x34.set x35.toNat 1).set x35.toNat (w_i64 (t69 + t72))))
                else none
              else none
            else none
          else
            some ((x34.set x35.toNat 1))).bind fun (j45 : List Int) =>
          ((tape_arity k0 t40.Op).bind fun t55 =>
          if (decide (t55 > 1)) = true then
            if 0 ≤ x35 ∧ x35 < (j45.length : Int) then
              (j45[x35.toNat]?).bind fun t58 =>
              if 0 ≤ t40.B ∧ t40.B < (j45.length : Int) then
                (j45[t40.B.toNat]?).bind fun t61 =>
                if 0 ≤ x35 ∧ x35 < (j45.length : Int) then
                  (j45[x35.toNat]?).bind fun t63 =>
                  some ((j45.set x35.toNat (w_i64 (t58 + t61))))
                else none
              else none
            else none
          else
            some (j45)).bind fun (j47 : List Int) =>
          if 0 ≤ x35 ∧ x35 < (j47.length : Int) then
            (j47[x35.toNat]?).bind fun t50 =>
            if 0 ≤ x35 ∧ x35 < (j47.length : Int) then
              (j47[x35.toNat]?).bind fun t52 =>
              tape_Decompile.l36 k0 a0 k (j47.set x35.toNat (mn t50 201)) (w_i64 (x35 + 1))
            else none
          else none
        else none
      else none
    else
      some (x34)
def tape_Decompile (k0 : Nat) (a0 : TTape) : Option (List (List TNode)) :=
  if 0 ≤ (a0.L.length : Int) ∧ (a0.L.length : Int) < 1000000 then
    (tape_Decompile.l36 k0 a0 k0 (List.replicate (a0.L.length : Int).toNat (0 : Int)) 0).bind fun (j5 : List Int) =>
    if 0 ≤ (a0.Out.length : Int) ∧ (a0.Out.length : Int) < 1000000 then
      (tape_Decompile.l16 k0 a0 j5 k0 (List.replicate (a0.Out.length : Int).toNat ([] : List TNode)) 0).bind fun (j11 : List (List TNode)) =>
      some j11
    else none
  else none
def armillaryref02_IsEntire (a0 : TInterval) : Option (Bool) :=
  some ((a0.Lo == (-2147483648)) && (a0.Hi == 2147483648))
def fixed_Valid (a0 : Int) : Option (Bool) :=
  some ((decide ((-2147483648) < a0)) && (decide (a0 < 2147483648)))
def interval_Valid (a0 : TInterval) : Option (Bool) :=
  (interval_IsEntire a0).bind fun t3 =>
  (if (t3 == false) = true then fixed_Valid a0.Lo else some default).bind fun t4 =>
  (if ((t3 == false) && (t4 == true)) = true then fixed_Valid a0.Hi else some default).bind fun t5 =>
  some (t3 || ((t4 && t5) && (decide (a0.Lo ≤ a0.Hi))))
def tape_Valid_1_m (a0 : Int) (q0 : TTape) : Option (Bool) :=
  (some (decide (a0 < 0))).bind fun z3 =>
  if z3 = true then
    some true
  else
  if z3 = false then
    some (decide (a0 ≥ (q0.L.length : Int)))
  else
  none
def slices_IndexFunc_int_int_s40.l6 (k0 : Nat) (a0 : List Int) (a1_0 : TTape) : Nat → Int → Option ((Int) ⊕ (Unit))
  | 0, _ => none
  | k + 1, x5 =>
    if (decide (x5 < (a0.length : Int))) = true then
      if 0 ≤ x5 ∧ x5 < (a0.length : Int) then
        (a0[x5.toNat]?).bind fun t11 =>
        (tape_Valid_1_m t11 (⟨a1_0.N, a1_0.L, a1_0.Out⟩ : TTape)).bind fun t12 =>
        if t12 = true then
          some (.inl x5)
        else
          slices_IndexFunc_int_int_s40.l6 k0 a0 a1_0 k (w_i64 (x5 + 1))
      else none
    else
      some (.inr ())
def slices_IndexFunc_int_int_s40 (k0 : Nat) (a0 : List Int) (a1_0 : TTape) : Option (Int) :=
  (slices_IndexFunc_int_int_s40.l6 k0 a0 a1_0 k0 0 : Option ((Int) ⊕ (Unit))).bind fun j2 => match j2 with
  | .inl r => some r
  | .inr j2v =>
    some (-1)
def slices_ContainsFunc_int_int_s40 (k0 : Nat) (a0 : List Int) (a1_0 : TTape) : Option (Bool) :=
  (slices_IndexFunc_int_int_s40 k0 a0 (⟨a1_0.N, a1_0.L, a1_0.Out⟩ : TTape)).bind fun t3 =>
  some (decide (t3 ≥ 0))
def tape_Valid.l9 (k0 : Nat) (a0 : TTape) : Nat → Int → Option ((Bool) ⊕ (Unit))
  | 0, _ => none
  | k + 1, x8 =>
    if (decide (x8 < (a0.L.length : Int))) = true then
      if 0 ≤ x8 ∧ x8 < (a0.L.length : Int) then
        (a0.L[x8.toNat]?).bind fun t13 =>
        (tape_arity k0 t13.Op).bind fun t15 =>
        (some ((decide (t15 < 0)) || ((decide (t15 > 0)) && ((decide (t13.A < 0)) || (decide (t13.A ≥ x8)))))).bind fun z17 =>
        if (z17 || ((decide (t15 > 1)) && ((decide (t13.B < 0)) || (decide (t13.B ≥ x8))))) = true then
          some (.inl false)
        else
          (if ((decide (t15 > 0)) || (t13.Op == 2)) = true then
            some (0)
          else
            some (t13.A)).bind fun (j20 : Int) =>
          (if (decide (t15 > 1)) = true then
            some (0)
          else
            some (t13.B)).bind fun (j22 : Int) =>
          (if (t13.Op == 1) = true then
            some (0, 0)
          else
            some (t13.C.Lo, t13.C.Hi)).bind fun (j25 : Int × Int) =>
          (some (!((t13.Op == t13.Op) && ((j20 == 0) && ((j22 == 0) && (((j25.1 == 0) && ((j25.2 == 0) && true)) && true)))))).bind fun z27 =>
          (if ((z27 == false) && ((t13.Op == 1) == true)) = true then interval_Valid (⟨t13.C.Lo, t13.C.Hi⟩ : TInterval) else some default).bind fun t28 =>
          if ((z27 || ((t13.Op == 1) && (!t28))) || ((t13.Op == 2) && ((decide (t13.A < 0)) || (decide (t13.A ≥ a0.N))))) = true then
            some (.inl false)
          else
            tape_Valid.l9 k0 a0 k (w_i64 (x8 + 1))
      else none
    else
      some (.inr ())
def tape_Valid (k0 : Nat) (a0 : TTape) : Option (Bool) :=
  if ((((decide (a0.N < 1)) || (decide (a0.N > 6))) || (decide ((a0.L.length : Int) > 400))) || ((a0.Out.length : Int) != a0.N)) = true then
    some false
  else
    (tape_Valid.l9 k0 a0 k0 0 : Option ((Bool) ⊕ (Unit))).bind fun j4 => match j4 with
    | .inl r => some r
    | .inr j4v =>
      (slices_ContainsFunc_int_int_s40 k0 a0.Out (⟨a0.N, a0.L, a0.Out⟩ : TTape)).bind fun t6 =>
      some (!t6)
def armillarylaw08_one : Option (TInstruction) :=
  (armillaryref02_Point 65536).bind fun t3 =>
  some (⟨1, 0, 0, t3⟩ : TInstruction)
def armillarylaw08_num (a0 : Int) : Option (TNode) :=
  (armillaryref02_Point (w_i64 (a0 * 65536))).bind fun t3 =>
  some (⟨1, 0, t3⟩ : TNode)
def armillarylaw08_sanity (k0 : Nat)  : Option (Bool) :=
  (tape_Compile k0 (⟨([(⟨#[120]⟩ : ByteArray), (⟨#[121]⟩ : ByteArray)] : List ByteArray), ([([(⟨9, 0, (⟨0, 0⟩ : TInterval)⟩ : TNode), (⟨2, 1, (⟨0, 0⟩ : TInterval)⟩ : TNode), (⟨2, 1, (⟨0, 0⟩ : TInterval)⟩ : TNode)] : List TNode), ([(⟨7, 0, (⟨0, 0⟩ : TInterval)⟩ : TNode), (⟨9, 0, (⟨0, 0⟩ : TInterval)⟩ : TNode), (⟨2, 1, (⟨0, 0⟩ : TInterval)⟩ : TNode), (⟨2, 1, (⟨0, 0⟩ : TInterval)⟩ : TNode), (⟨3, 0, (⟨0, 0⟩ : TInterval)⟩ : TNode)] : List TNode)] : List (List TNode))⟩ : TSystem)).bind fun t5 =>
  (armillaryref08_Same k0 (⟨t5.N, t5.L, t5.Out⟩ : TTape) (⟨2, ([(⟨2, 1, 0, (⟨0, 0⟩ : TInterval)⟩ : TInstruction), (⟨9, 0, 0, (⟨0, 0⟩ : TInterval)⟩ : TInstruction), (⟨3, 0, 0, (⟨0, 0⟩ : TInterval)⟩ : TInstruction), (⟨7, 1, 2, (⟨0, 0⟩ : TInterval)⟩ : TInstruction)] : List TInstruction), ([1, 3] : List Int)⟩ : TTape)).bind fun t8 =>
  if (!t8) = true then
    some false
  else
    (armillaryref02_Point 0).bind fun t11 =>
    (armillaryref02_Point 131072).bind fun t12 =>
    (armillaryref02_Point 65536).bind fun t13 =>
    (tape_Eval k0 (⟨t5.N, t5.L, t5.Out⟩ : TTape) ([t11, t12] : List TInterval) t13).bind fun t14 =>
    (armillaryref02_Point 5).bind fun t16 =>
    (armillaryref02_Point 5).bind fun t17 =>
    (tape_Optimize k0 (⟨1, ([(⟨3, 0, 0, (⟨0, 0⟩ : TInterval)⟩ : TInstruction), (⟨1, 0, 0, t16⟩ : TInstruction), (⟨1, 0, 0, t17⟩ : TInstruction), (⟨7, 2, 1, (⟨0, 0⟩ : TInterval)⟩ : TInstruction)] : List TInstruction), ([3] : List Int)⟩ : TTape)).bind fun t19 =>
    (armillaryref02_Point (-1)).bind fun t21 =>
    (armillaryref02_Point 0).bind fun t22 =>
    (tape_Eval k0 (⟨1, ([(⟨2, 0, 0, (⟨0, 0⟩ : TInterval)⟩ : TInstruction), (⟨6, 0, 0, (⟨0, 0⟩ : TInterval)⟩ : TInstruction)] : List TInstruction), ([1] : List Int)⟩ : TTape) ([t21] : List TInterval) t22).bind fun t23 =>
    if ((t23.length : Int) != 1) = true then
      some false
    else
      (armillaryref02_Point 262144).bind fun t27 =>
      (armillaryref02_Point 327680).bind fun t28 =>
      (armillaryref08_SameBoxes k0 t14 ([t27, t28] : List TInterval)).bind fun t29 =>
      if t29 = true then
        (tape_Decompile k0 (⟨t5.N, t5.L, t5.Out⟩ : TTape)).bind fun t31 =>
        (armillaryref08_SameRows k0 t31 ([([(⟨9, 0, (⟨0, 0⟩ : TInterval)⟩ : TNode), (⟨2, 1, (⟨0, 0⟩ : TInterval)⟩ : TNode), (⟨2, 1, (⟨0, 0⟩ : TInterval)⟩ : TNode)] : List TNode), ([(⟨7, 0, (⟨0, 0⟩ : TInterval)⟩ : TNode), (⟨9, 0, (⟨0, 0⟩ : TInterval)⟩ : TNode), (⟨2, 1, (⟨0, 0⟩ : TInterval)⟩ : TNode), (⟨2, 1, (⟨0, 0⟩ : TInterval)⟩ : TNode), (⟨3, 0, (⟨0, 0⟩ : TInterval)⟩ : TNode)] : List TNode)] : List (List TNode))).bind fun t32 =>
        if t32 = true then
          (armillaryref02_Point 5).bind fun t34 =>
          (armillaryref08_Same k0 (⟨t19.N, t19.L, t19.Out⟩ : TTape) (⟨1, ([(⟨1, 0, 0, t34⟩ : TInstruction), (⟨7, 0, 0, (⟨0, 0⟩ : TInterval)⟩ : TInstruction)] : List TInstruction), ([1] : List Int)⟩ : TTape)).bind fun t35 =>
          if (t35 == true) = true → 0 ≤ (0 : Int) ∧ (0 : Int) < (t23.length : Int) then
            (if (t35 == true) = true then t23[(0 : Int).toNat]? else some default).bind fun t37 =>
            (if (t35 == true) = true then armillaryref02_IsEntire t37 else some default).bind fun t39 =>
            (if ((t35 && t39) == true) = true then tape_Valid k0 (⟨t5.N, t5.L, t5.Out⟩ : TTape) else some default).bind fun t40 =>
            (if (((t35 && t39) && t40) == true) = true then tape_Valid k0 (⟨1, ([(⟨3, 0, 0, (⟨0, 0⟩ : TInterval)⟩ : TInstruction), (⟨1, 0, 0, t16⟩ : TInstruction), (⟨1, 0, 0, t17⟩ : TInstruction), (⟨7, 2, 1, (⟨0, 0⟩ : TInterval)⟩ : TInstruction)] : List TInstruction), ([3] : List Int)⟩ : TTape) else some default).bind fun t41 =>
            (if ((((t35 && t39) && t40) && t41) == true) = true then tape_Valid k0 (⟨0, [], []⟩ : TTape) else some default).bind fun t42 =>
            if ((((t35 && t39) && t40) && t41) && (!t42)) = true then
              (tape_Valid k0 (⟨1, ([(⟨4, 0, 0, (⟨0, 0⟩ : TInterval)⟩ : TInstruction)] : List TInstruction), ([0] : List Int)⟩ : TTape)).bind fun t44 =>
              if (!t44) = true then
                (tape_Valid k0 (⟨1, ([(⟨2, 1, 0, (⟨0, 0⟩ : TInterval)⟩ : TInstruction)] : List TInstruction), ([0] : List Int)⟩ : TTape)).bind fun t46 =>
                if (!t46) = true then
                  (armillarylaw08_one).bind fun t48 =>
                  (tape_Decompile k0 (⟨1, ([(⟨t48.Op, t48.A, t48.B, (⟨t48.C.Lo, t48.C.Hi⟩ : TInterval)⟩ : TInstruction), (⟨4, 0, 0, (⟨0, 0⟩ : TInterval)⟩ : TInstruction)] : List TInstruction), ([1] : List Int)⟩ : TTape)).bind fun t49 =>
                  (armillarylaw08_num 1).bind fun t50 =>
                  (armillaryref08_SameRows k0 t49 ([([(⟨4, 0, (⟨0, 0⟩ : TInterval)⟩ : TNode), (⟨t50.Op, t50.N, (⟨t50.C.Lo, t50.C.Hi⟩ : TInterval)⟩ : TNode)] : List TNode)] : List (List TNode))).bind fun t51 =>
                  some t51
                else none
              else none
            else none
          else none
        else none
      else none
def armillaryref08_Arity (a0 : Int) : Option (Int) :=
  if ((decide (a0 ≥ 1)) && (decide (a0 ≤ 3))) = true then
    some 0
  else
    if ((decide (a0 ≥ 4)) && (decide (a0 ≤ 6))) = true then
      some 1
    else
      if ((decide (a0 ≥ 7)) && (decide (a0 ≤ 10))) = true then
        some 2
      else
        some (-1)
def armillaryref02_Near (a0 : TInterval) (a1 : Int) : Option (TInterval) :=
  if a1 ≠ 0 then
    if a1 ≠ 0 then
      some (⟨Int.tmod a0.Lo 1048576, w_i64 ((Int.tmod a0.Lo 1048576) + (Int.tmod (w_i64 ((Int.tmod a0.Hi a1) + a1)) a1))⟩ : TInterval)
    else none
  else none
def armillaryref08_Made.l13 (k0 : Nat) (a0 : TTape) (a1 : Int) (j4 : List TInstruction) (j6 : List TInstruction) : Nat → (List Int) → Int → Option (List Int)
  | 0, _, _ => none
  | k + 1, x11, x12 =>
    if (decide (x12 < (w_i64 (1 + (Int.tmod (b_and .i64 a0.N 255) 3))))) = true then
      (if (decide (x12 < (a0.Out.length : Int))) = true then
        if 0 ≤ x12 ∧ x12 < (a0.Out.length : Int) then
          (a0.Out[x12.toNat]?).bind fun t24 =>
          if (j6.length : Int) ≠ 0 then
            some (Int.tmod (b_and .i64 t24 65535) (j6.length : Int))
          else none
        else none
      else
        some (w_i64 ((j6.length : Int) - 1))).bind fun (j17 : Int) =>
      if x11.length < 1000000 then
        armillaryref08_Made.l13 k0 a0 a1 j4 j6 k (x11 ++ [j17]) (w_i64 (x12 + 1))
      else none
    else
      some (x11)
def armillaryref08_Made.l35 (k0 : Nat) (a0 : TTape) (a1 : Int) : Nat → (List TInstruction) → Int → Option (List TInstruction)
  | 0, _, _ => none
  | k + 1, x33, x34 =>
    if ((decide (x34 < (a0.L.length : Int))) && (decide (x34 < a1))) = true then
      if 0 ≤ x34 ∧ x34 < (a0.L.length : Int) then
        (a0.L[x34.toNat]?).bind fun t39 =>
        ((if ((x34 == 0) == true) = true then armillaryref08_Arity (w_i64 (1 + (Int.tmod (b_and .i64 (w_i64 (t39.Op + 9)) 255) 10))) else some default).bind fun t83 =>
        if ((x34 == 0) && (decide (t83 > 0))) = true then
          some (2)
        else
          some (w_i64 (1 + (Int.tmod (b_and .i64 (w_i64 (t39.Op + 9)) 255) 10)))).bind fun (j41 : Int) =>
        ((armillaryref08_Arity j41).bind fun t76 =>
        if (decide (t76 > 0)) = true then
          if 0 ≤ x34 ∧ x34 < (a0.L.length : Int) then
            (a0.L[x34.toNat]?).bind fun t79 =>
            if x34 ≠ 0 then
              some (Int.tmod (b_and .i64 t79.A 255) x34)
            else none
          else none
        else
          some (0)).bind fun (j44 : Int) =>
        ((armillaryref08_Arity j41).bind fun t69 =>
        if (decide (t69 > 1)) = true then
          if 0 ≤ x34 ∧ x34 < (a0.L.length : Int) then
            (a0.L[x34.toNat]?).bind fun t72 =>
            if x34 ≠ 0 then
              some (Int.tmod (b_and .i64 t72.B 255) x34)
            else none
          else none
        else
          some (0)).bind fun (j46 : Int) =>
        (if (j41 == 2) = true then
          if 0 ≤ x34 ∧ x34 < (a0.L.length : Int) then
            (a0.L[x34.toNat]?).bind fun t64 =>
            if (w_i64 (1 + (Int.tmod (b_and .i64 a0.N 255) 3))) ≠ 0 then
              some (Int.tmod (b_and .i64 t64.A 255) (w_i64 (1 + (Int.tmod (b_and .i64 a0.N 255) 3))))
            else none
          else none
        else
          some (j44)).bind fun (j48 : Int) =>
        (if (j41 == 1) = true then
          if 0 ≤ x34 ∧ x34 < (a0.L.length : Int) then
            (a0.L[x34.toNat]?).bind fun t58 =>
            (armillaryref02_Near (⟨t58.C.Lo, t58.C.Hi⟩ : TInterval) 4096).bind fun t59 =>
            some (t59.Lo, t59.Hi)
          else none
        else
          some (0, 0)).bind fun (j51 : Int × Int) =>
        if x33.length < 1000000 then
          armillaryref08_Made.l35 k0 a0 a1 k (x33 ++ [(⟨j41, j48, j46, (⟨j51.1, j51.2⟩ : TInterval)⟩ : TInstruction)]) (w_i64 (x34 + 1))
        else none
      else none
    else
      some (x33)
def armillaryref08_Made (k0 : Nat) (a0 : TTape) (a1 : Int) : Option (TTape) :=
  (armillaryref08_Made.l35 k0 a0 a1 k0 ([] : List TInstruction) 0).bind fun (j4 : List TInstruction) =>
  (if ((j4.length : Int) == 0) = true then
    some (([(⟨2, 0, 0, (⟨0, 0⟩ : TInterval)⟩ : TInstruction)] : List TInstruction))
  else
    some (j4)).bind fun (j6 : List TInstruction) =>
  (armillaryref08_Made.l13 k0 a0 a1 j4 j6 k0 ([] : List Int) 0).bind fun (j8 : List Int) =>
  some (⟨w_i64 (1 + (Int.tmod (b_and .i64 a0.N 255) 3)), j6, j8⟩ : TTape)
def armillaryref08_Boxes.l9 (k0 : Nat) (a0 : List TInterval) (a1 : Int) (a2 : Int) : Nat → (List TInterval) → Int → Option (List TInterval)
  | 0, _, _ => none
  | k + 1, x7, x8 =>
    if (decide (x8 < a1)) = true then
      (if (decide (x8 < (a0.length : Int))) = true then
        if 0 ≤ x8 ∧ x8 < (a0.length : Int) then
          (a0[x8.toNat]?).bind fun t22 =>
          some (t22.Lo, t22.Hi)
        else none
      else
        some (0, 0)).bind fun (j14 : Int × Int) =>
      (armillaryref02_Near (⟨j14.1, j14.2⟩ : TInterval) a2).bind fun t16 =>
      if x7.length < 1000000 then
        armillaryref08_Boxes.l9 k0 a0 a1 a2 k (x7 ++ [t16]) (w_i64 (x8 + 1))
      else none
    else
      some (x7)
def armillaryref08_Boxes (k0 : Nat) (a0 : List TInterval) (a1 : Int) (a2 : Int) : Option (List TInterval) :=
  (armillaryref08_Boxes.l9 k0 a0 a1 a2 k0 ([] : List TInterval) 0).bind fun (j4 : List TInterval) =>
  some j4
def armillaryref02_Valid (a0 : TInterval) : Option (Bool) :=
  (armillaryref02_IsEntire a0).bind fun t3 =>
  (if (t3 == false) = true then armillaryref02_Number a0.Lo else some default).bind fun t4 =>
  (if ((t3 == false) && (t4 == true)) = true then armillaryref02_Number a0.Hi else some default).bind fun t5 =>
  some (t3 || ((t4 && t5) && (decide (a0.Lo ≤ a0.Hi))))
def armillaryref02_Small (a0 : TInterval) : Option (TInterval) :=
  some (⟨mn (Int.tmod a0.Lo 16777216) (Int.tmod a0.Hi 16777216), mx (Int.tmod a0.Lo 16777216) (Int.tmod a0.Hi 16777216)⟩ : TInterval)
def armillaryref02_Made (a0 : TInterval) : Option (TInterval) :=
  (armillaryref02_Valid a0).bind fun t3 =>
  if t3 = true then
    some a0
  else
    if ((b_and .i64 a0.Lo 31) == 7) = true then
      (armillaryref02_Entire).bind fun t7 =>
      some t7
    else
      (armillaryref02_Small a0).bind fun t9 =>
      some t9
def armillaryref08_Decompile.l11 (k0 : Nat) (a0 : TTape) (j4 : List (List TNode)) : Nat → (List (List TNode)) → Int → Option (List (List TNode))
  | 0, _, _ => none
  | k + 1, x9, x10 =>
    if (decide (x10 < (a0.Out.length : Int))) = true then
      if 0 ≤ x10 ∧ x10 < (a0.Out.length : Int) then
        (a0.Out[x10.toNat]?).bind fun t15 =>
        if 0 ≤ t15 ∧ t15 < (j4.length : Int) then
          (j4[t15.toNat]?).bind fun t17 =>
          if x9.length < 1000000 then
            armillaryref08_Decompile.l11 k0 a0 j4 k (x9 ++ [t17]) (w_i64 (x10 + 1))
          else none
        else none
      else none
    else
      some (x9)
def armillaryref08_Decompile.l24 (k0 : Nat) (a0 : TTape) : Nat → (List (List TNode)) → Int → Option (List (List TNode))
  | 0, _, _ => none
  | k + 1, x22, x23 =>
    if (decide (x23 < (a0.L.length : Int))) = true then
      if 0 ≤ x23 ∧ x23 < (a0.L.length : Int) then
        (a0.L[x23.toNat]?).bind fun t28 =>
        (if (t28.Op == 2) = true then
          some (t28.A)
        else
          some (0)).bind fun (j31 : Int) =>
        ((armillaryref08_Arity t28.Op).bind fun t59 =>
        if (decide (t59 > 0)) = true then
          if 0 ≤ t28.A ∧ t28.A < (x22.length : Int) then
            (x22[t28.A.toNat]?).bind fun t62 =>
            if t62.length < 1000000 ∧ ([(⟨t28.Op, j31, (⟨t28.C.Lo, t28.C.Hi⟩ : TInterval)⟩ : TNode)] : List TNode).length < 1000000 then
              if 0 ≤ t28.A ∧ t28.A < (x22.length : Int) then
                (x22[t28.A.toNat]?).bind fun t66 =>
                some ((([(⟨t28.Op, j31, (⟨t28.C.Lo, t28.C.Hi⟩ : TInterval)⟩ : TNode)] : List TNode) ++ t62), decide ((t66.length : Int) > 0))
              else none
            else none
          else none
        else
          some (([(⟨t28.Op, j31, (⟨t28.C.Lo, t28.C.Hi⟩ : TInterval)⟩ : TNode)] : List TNode), true)).bind fun (j35 : List TNode × Bool) =>
        ((armillaryref08_Arity t28.Op).bind fun t48 =>
        if (decide (t48 > 1)) = true then
          if 0 ≤ t28.B ∧ t28.B < (x22.length : Int) then
            (x22[t28.B.toNat]?).bind fun t51 =>
            if t51.length < 1000000 ∧ j35.1.length < 1000000 then
              (some j35.2).bind fun z54 =>
              if z54 = true then
                if 0 ≤ t28.B ∧ t28.B < (x22.length : Int) then
                  (x22[t28.B.toNat]?).bind fun t56 =>
                  some ((j35.1 ++ t51), decide ((t56.length : Int) > 0))
                else none
              else
              if z54 = false then
                some ((j35.1 ++ t51), false)
              else
              none
            else none
          else none
        else
          some (j35.1, j35.2)).bind fun (j38 : List TNode × Bool) =>
        (if ((!j38.2) || (decide ((j38.1.length : Int) > 200))) = true then
          some (([] : List TNode))
        else
          some (j38.1)).bind fun (j40 : List TNode) =>
        if x22.length < 1000000 then
          armillaryref08_Decompile.l24 k0 a0 k (x22 ++ [j40]) (w_i64 (x23 + 1))
        else none
      else none
    else
      some (x22)
def armillaryref08_Decompile (k0 : Nat) (a0 : TTape) : Option (List (List TNode)) :=
  (armillaryref08_Decompile.l24 k0 a0 k0 ([] : List (List TNode)) 0).bind fun (j4 : List (List TNode)) =>
  (armillaryref08_Decompile.l11 k0 a0 j4 k0 ([] : List (List TNode)) 0).bind fun (j6 : List (List TNode)) =>
  some j6
def armillaryref08_System.l13 (k0 : Nat) (a0 : TTape) (t4 : List (List TNode)) : Nat → (List ByteArray) → (List (List TNode)) → Int → Option (List ByteArray × List (List TNode))
  | 0, _, _, _ => none
  | k + 1, x10, x11, x12 =>
    if (decide (x12 < (t4.length : Int))) = true then
      if 0 ≤ x12 ∧ x12 < (t4.length : Int) then
        (t4[x12.toNat]?).bind fun t17 =>
        (if ((t17.length : Int) == 0) = true then
          (armillaryref02_Point 65536).bind fun t29 =>
          some (([(⟨1, 0, t29⟩ : TNode)] : List TNode))
        else
          some (t17)).bind fun (j19 : List TNode) =>
        if 0 ≤ x12 ∧ x12 < 6 then
          ([(⟨#[120]⟩ : ByteArray), (⟨#[121]⟩ : ByteArray), (⟨#[122]⟩ : ByteArray), (⟨#[117]⟩ : ByteArray), (⟨#[118]⟩ : ByteArray), (⟨#[119]⟩ : ByteArray)][x12.toNat]?).bind fun t22 =>
          if x10.length < 1000000 then
            if x11.length < 1000000 then
              armillaryref08_System.l13 k0 a0 t4 k (x10 ++ [t22]) (x11 ++ [j19]) (w_i64 (x12 + 1))
            else none
          else none
        else none
      else none
    else
      some (x10, x11)
def armillaryref08_System (k0 : Nat) (a0 : TTape) : Option (TSystem) :=
  (armillaryref08_Decompile k0 (⟨a0.N, a0.L, a0.Out⟩ : TTape)).bind fun t4 =>
  (armillaryref08_System.l13 k0 a0 t4 k0 ([] : List ByteArray) ([] : List (List TNode)) 0).bind fun (j7 : List ByteArray × List (List TNode)) =>
  some (⟨j7.1, j7.2⟩ : TSystem)
def ode_Eval_1_m.body (k0 : Nat) (rec : (List TNode) → Int → (List TInterval) → TInterval → Option (TInterval × Int)) (q0 : List TNode) (q1 : Int) (q2 : List TInterval) (q3 : TInterval) : Option (TInterval × Int) :=
  if 0 ≤ q1 ∧ q1 < (q0.length : Int) then
    (q0[q1.toNat]?).bind fun t4 =>
    if (t4.Op == 1) = true then
      some ((⟨t4.C.Lo, t4.C.Hi⟩ : TInterval), w_i64 (q1 + 1))
    else
      if (t4.Op == 2) = true then
        if 0 ≤ t4.N ∧ t4.N < (q2.length : Int) then
          (q2[t4.N.toNat]?).bind fun t12 =>
          some ((⟨t12.Lo, t12.Hi⟩ : TInterval), w_i64 (q1 + 1))
        else none
      else
        if (t4.Op == 3) = true then
          some ((⟨q3.Lo, q3.Hi⟩ : TInterval), w_i64 (q1 + 1))
        else
          if (t4.Op == 4) = true then
            (rec q0 (w_i64 (q1 + 1)) q2 q3).bind fun t17 =>
            (interval_Neg t17.1).bind fun t18 =>
            some ((⟨t18.Lo, t18.Hi⟩ : TInterval), t17.2)
          else
            if (t4.Op == 5) = true then
              (rec q0 (w_i64 (q1 + 1)) q2 q3).bind fun t21 =>
              (interval_Square t21.1).bind fun t22 =>
              some ((⟨t22.Lo, t22.Hi⟩ : TInterval), t21.2)
            else
              if (t4.Op == 6) = true then
                (rec q0 (w_i64 (q1 + 1)) q2 q3).bind fun t25 =>
                if (decide (t25.1.Lo < 0)) = true then
                  (interval_Entire).bind fun t28 =>
                  some ((⟨t28.Lo, t28.Hi⟩ : TInterval), t25.2)
                else
                  (interval_Sqrt k0 (⟨t25.1.Lo, t25.1.Hi⟩ : TInterval)).bind fun t30 =>
                  some ((⟨t30.1.Lo, t30.1.Hi⟩ : TInterval), t25.2)
              else
                (rec q0 (w_i64 (q1 + 1)) q2 q3).bind fun t34 =>
                (some t4.Op).bind fun z36 =>
                if z36 = 7 then
                  (rec q0 t34.2 q2 q3).bind fun t37 =>
                  (interval_Add (⟨t34.1.Lo, t34.1.Hi⟩ : TInterval) t37.1).bind fun t38 =>
                  some ((⟨t38.Lo, t38.Hi⟩ : TInterval), t37.2)
                else
                if z36 = 8 then
                  (rec q0 t34.2 q2 q3).bind fun t37 =>
                  (interval_Sub (⟨t34.1.Lo, t34.1.Hi⟩ : TInterval) t37.1).bind fun t38 =>
                  some ((⟨t38.Lo, t38.Hi⟩ : TInterval), t37.2)
                else
                if z36 = 9 then
                  (rec q0 t34.2 q2 q3).bind fun t37 =>
                  (interval_Mul (⟨t34.1.Lo, t34.1.Hi⟩ : TInterval) t37.1).bind fun t38 =>
                  some ((⟨t38.Lo, t38.Hi⟩ : TInterval), t37.2)
                else
                if z36 = 10 then
                  (rec q0 t34.2 q2 q3).bind fun t37 =>
                  (interval_Div (⟨t34.1.Lo, t34.1.Hi⟩ : TInterval) t37.1).bind fun t38 =>
                  some ((⟨t38.Lo, t38.Hi⟩ : TInterval), t37.2)
                else
                none
  else none
def ode_Eval_1_m : Nat → (List TNode) → Int → (List TInterval) → TInterval → Option (TInterval × Int)
  | 0, _, _, _, _ => none
  | k0 + 1, q0, q1, q2, q3 => ode_Eval_1_m.body k0 (ode_Eval_1_m k0) q0 q1 q2 q3
def ode_Eval (k0 : Nat) (a0 : List TNode) (a1 : List TInterval) (a2 : TInterval) : Option (TInterval) :=
  (ode_Eval_1_m k0 a0 0 a1 a2).bind fun t6 =>
  some (⟨t6.1.Lo, t6.1.Hi⟩ : TInterval)
def ode_Derivatives.l9 (k0 : Nat) (a0 : TSystem) (a1 : List TInterval) (a2 : TInterval) : Nat → (List TInterval) → Int → Option (List TInterval)
  | 0, _, _ => none
  | k + 1, x7, x8 =>
    if (decide (x8 < (a0.F.length : Int))) = true then
      if 0 ≤ x8 ∧ x8 < (a0.F.length : Int) then
        (a0.F[x8.toNat]?).bind fun t13 =>
        (ode_Eval k0 t13 a1 a2).bind fun t15 =>
        if x7.length < 1000000 then
          ode_Derivatives.l9 k0 a0 a1 a2 k (x7 ++ [t15]) (w_i64 (x8 + 1))
        else none
      else none
    else
      some (x7)
def ode_Derivatives (k0 : Nat) (a0 : TSystem) (a1 : List TInterval) (a2 : TInterval) : Option (List TInterval) :=
  (ode_Derivatives.l9 k0 a0 a1 a2 k0 ([] : List TInterval) 0).bind fun (j4 : List TInterval) =>
  some j4
def armillarylaw08_TapeSemantics (k0 : Nat) (a0 : TQuery) : Option (Bool) :=
  (armillarylaw08_sanity k0).bind fun t3 =>
  (armillaryref08_Made k0 (⟨a0.C.N, a0.C.L, a0.C.Out⟩ : TTape) 25).bind fun t5 =>
  (armillaryref08_Boxes k0 a0.X t5.N 200000).bind fun t7 =>
  (armillaryref02_Made (⟨a0.T.Lo, a0.T.Hi⟩ : TInterval)).bind fun t8 =>
  (armillaryref08_System k0 (⟨t5.N, t5.L, t5.Out⟩ : TTape)).bind fun t9 =>
  (tape_Compile k0 (⟨t9.Names, t9.F⟩ : TSystem)).bind fun t11 =>
  (tape_Eval k0 t11 t7 t8).bind fun t12 =>
  (ode_Derivatives k0 (⟨t9.Names, t9.F⟩ : TSystem) t7 t8).bind fun t13 =>
  (armillaryref08_SameBoxes k0 t12 t13).bind fun t14 =>
  (some t14).bind fun z15 =>
  if z15 = true then
    (tape_Optimize k0 (⟨t5.N, t5.L, t5.Out⟩ : TTape)).bind fun t16 =>
    (tape_Eval k0 t16 t7 t8).bind fun t17 =>
    (tape_Eval k0 (⟨t5.N, t5.L, t5.Out⟩ : TTape) t7 t8).bind fun t18 =>
    (armillaryref08_SameBoxes k0 t17 t18).bind fun t19 =>
    some (t19 && t3)
  else
  if z15 = false then
    some false
  else
  none
def armillarylaw08_TapeSemantics.Pure : Prop :=
  ∀ (c0_0 : Int) (c0_1 : List TInstruction) (c0_2 : List Int) (c0_3 : List TInterval) (c0_4 : Int) (c0_5 : Int), ((-9223372036854775808) ≤ c0_0 ∧ c0_0 ≤ 9223372036854775807) → (∀ y ∈ c0_1, ((-9223372036854775808) ≤ y.Op ∧ y.Op ≤ 9223372036854775807) ∧ ((-9223372036854775808) ≤ y.A ∧ y.A ≤ 9223372036854775807) ∧ ((-9223372036854775808) ≤ y.B ∧ y.B ≤ 9223372036854775807) ∧ ((-9223372036854775808) ≤ y.C.Lo ∧ y.C.Lo ≤ 9223372036854775807) ∧ ((-9223372036854775808) ≤ y.C.Hi ∧ y.C.Hi ≤ 9223372036854775807)) → (∀ y ∈ c0_2, ((-9223372036854775808) ≤ y ∧ y ≤ 9223372036854775807)) → (∀ y ∈ c0_3, ((-9223372036854775808) ≤ y.Lo ∧ y.Lo ≤ 9223372036854775807) ∧ ((-9223372036854775808) ≤ y.Hi ∧ y.Hi ≤ 9223372036854775807)) → ((-9223372036854775808) ≤ c0_4 ∧ c0_4 ≤ 9223372036854775807) → ((-9223372036854775808) ≤ c0_5 ∧ c0_5 ≤ 9223372036854775807) → ∃ k0 : Nat, armillarylaw08_TapeSemantics k0 (⟨(⟨c0_0, c0_1, c0_2⟩ : TTape), c0_3, (⟨c0_4, c0_5⟩ : TInterval)⟩ : TQuery) = some true
end Go.Proofs.YtbpgobecpmjaeaaDoor
