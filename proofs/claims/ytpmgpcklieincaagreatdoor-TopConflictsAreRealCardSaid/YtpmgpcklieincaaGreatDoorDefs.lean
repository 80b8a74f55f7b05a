/- The program's functions as plain Lean functions, printed out of the program by a program of this session. -/
import GoSem.Core.View
import Derived.Test.YtpmgpcklieincaaGreatDoorSxAll0
set_option linter.unusedVariables false
namespace Go.Proofs.YtpmgpcklieincaaGreatDoor
open Go.Sx
abbrev w_i64 (n : Int) : Int := Go.IntKind.wrap .i64 n
abbrev w_u64 (n : Int) : Int := Go.IntKind.wrap .u64 n
abbrev w_u8 (n : Int) : Int := Go.IntKind.wrap .u8 n
abbrev mn (x y : Int) : Int := if y < x then y else x
abbrev mx (x y : Int) : Int := if y > x then y else x
def strAt (s : ByteArray) (i : Int) : Option Int := if h : 0 ≤ i ∧ i < s.size then some ((s[i.toNat]'(by omega)).toNat : Int) else none
structure TInterval where
  Lo : Int
  Hi : Int
deriving Inhabited, DecidableEq
structure TStepControl where
  Order : Int
  First : Int
  Least : Int
  Most : Int
  Wide : Int
deriving Inhabited, DecidableEq
structure TInstruction where
  Op : Int
  A : Int
  B : Int
  C : TInterval
deriving Inhabited, DecidableEq
structure TTape where
  N : Int
  L : List TInstruction
  Out : List Int
deriving Inhabited, DecidableEq
structure TTimeStep where
  T : Int
  H : Int
deriving Inhabited, DecidableEq
structure TSegment where
  T : Int
  H : Int
  From : List TInterval
  Pre : List TInterval
  Tube : List TInterval
  To : List TInterval
deriving Inhabited, DecidableEq
structure TSeparation where
  Pos : Int
  D : Int
deriving Inhabited, DecidableEq
structure TStepWindow where
  T : Int
  H : Int
  Part : TInterval
  Order : Int
deriving Inhabited, DecidableEq
structure TStepRequest where
  Ctrl : TStepControl
  T : Int
  Last : Int
  H : Int
deriving Inhabited, DecidableEq
structure THorizon where
  Ctrl : TStepControl
  T : Int
  Last : Int
deriving Inhabited, DecidableEq
structure TNode where
  Op : Int
  N : Int
  C : TInterval
deriving Inhabited, DecidableEq
structure TSystem where
  Names : List ByteArray
  F : List (List TNode)
deriving Inhabited, DecidableEq
structure TBody where
  X : Int
  V : Int
deriving Inhabited, DecidableEq
structure TTrajectory where
  Id : Int
  Segs : List TSegment
deriving Inhabited, DecidableEq
structure TVerdict where
  A : Int
  B : Int
  Kind : Int
  Dist : TInterval
deriving Inhabited, DecidableEq
def control_Valid (a0 : TStepControl) : Option (Bool) :=
  (some (((decide (1 ≤ a0.Least)) && (decide (a0.Least ≤ a0.First))) && (decide (a0.First ≤ a0.Most)))).bind fun z3 =>
  (some (((decide (a0.Order ≥ 1)) && (decide (a0.Order < 8))) && (z3 && (decide (a0.Most < 2147483648))))).bind fun z5 =>
  some ((z5 && (decide (a0.Wide ≥ 1))) && (decide (a0.Wide < 2147483648)))
def fixed_Valid (a0 : Int) : Option (Bool) :=
  some ((decide ((-2147483648) < a0)) && (decide (a0 < 2147483648)))
def control_Initial (a0 : TStepControl) (a1 : Int) : Option (Int) :=
  some (mn a0.First a1)
def interval_Entire : Option (TInterval) :=
  some (⟨(-2147483648), 2147483648⟩ : TInterval)
def interval_New (a0 : Int) (a1 : Int) : Option (TInterval) :=
  (some (((decide (a0 ≤ (-2147483648))) || (decide (a1 ≥ 2147483648))) || (decide (a0 ≥ 2147483648)))).bind fun z3 =>
  if (z3 || (decide (a1 ≤ (-2147483648)))) = true then
    (interval_Entire).bind fun t5 =>
    some t5
  else
    some (⟨a0, a1⟩ : TInterval)
def interval_IsEntire (a0 : TInterval) : Option (Bool) :=
  (interval_Entire).bind fun t3 =>
  some ((a0.Lo == t3.Lo) && ((a0.Hi == t3.Hi) && true))
def interval_Add (a0 : TInterval) (a1 : TInterval) : Option (TInterval) :=
  (interval_IsEntire a0).bind fun t3 =>
  (if (t3 == false) = true then interval_IsEntire a1 else some default).bind fun t4 =>
  if (t3 || t4) = true then
    (interval_Entire).bind fun t6 =>
    some t6
  else
    (interval_New (w_i64 (a0.Lo + a1.Lo)) (w_i64 (a0.Hi + a1.Hi))).bind fun t8 =>
    some t8
def fixed_divide_1 (a0 : Int) : Option (Int) :=
  some (mn a0 1)
def fixed_floorCeil_int64_s94 (a0 : Int) (a1 : Int) : Option (Int × Int) :=
  if a1 ≠ 0 then
    if a1 ≠ 0 then
      (if (decide ((Int.tmod a0 a1) < 0)) = true then
        some (w_i64 ((w_i64 (Int.tdiv a0 a1)) - 1), w_i64 ((Int.tmod a0 a1) + a1))
      else
        some (w_i64 (Int.tdiv a0 a1), Int.tmod a0 a1)).bind fun (j7 : Int × Int) =>
      (fixed_divide_1 j7.2).bind fun t9 =>
      some (j7.1, w_i64 (j7.1 + t9))
    else none
  else none
def fixed_divide (a0 : Int) (a1 : Int) : Option (Int × Int) :=
  (if (decide (a1 < 0)) = true then
    some (w_i64 (0 - a0), w_i64 (0 - a1))
  else
    some (a0, a1)).bind fun (j4 : Int × Int) =>
  (fixed_floorCeil_int64_s94 j4.1 j4.2).bind fun t6 =>
  some (t6.1, t6.2)
def fixed_Mul (a0 : Int) (a1 : Int) : Option (Int × Int) :=
  (fixed_divide (w_i64 (a0 * a1)) 65536).bind fun t3 =>
  some (t3.1, t3.2)
def interval_Mag (a0 : TInterval) : Option (Int) :=
  some (mx a0.Hi (w_i64 (0 - a0.Lo)))
def interval_Square (a0 : TInterval) : Option (TInterval) :=
  (interval_IsEntire a0).bind fun t3 =>
  if t3 = true then
    some a0
  else
    (interval_Mag a0).bind fun t6 =>
    (fixed_Mul (mx (mx a0.Lo (w_i64 (0 - a0.Hi))) 0) (mx (mx a0.Lo (w_i64 (0 - a0.Hi))) 0)).bind fun t8 =>
    (fixed_Mul t6 t6).bind fun t10 =>
    (interval_New t8.1 t10.2).bind fun t12 =>
    some t12
def interval_Neg (a0 : TInterval) : Option (TInterval) :=
  some (⟨w_i64 (0 - a0.Hi), w_i64 (0 - a0.Lo)⟩ : TInterval)
def interval_Sub (a0 : TInterval) (a1 : TInterval) : Option (TInterval) :=
  (interval_Neg a1).bind fun t3 =>
  (interval_Add a0 t3).bind fun t4 =>
  some t4
def interval_side (a0 : TInterval) : Option (Int) :=
  if (decide (a0.Hi ≤ 0)) = true then
    some 0
  else
    if (decide (a0.Lo ≥ 0)) = true then
      some 2
    else
      some 1
def interval_hh (a0 : TInterval) (a1 : TInterval) : Option (Int × Int) :=
  some (a0.Hi, a1.Hi)
def interval_ll (a0 : TInterval) (a1 : TInterval) : Option (Int × Int) :=
  some (a0.Lo, a1.Lo)
def interval_lh (a0 : TInterval) (a1 : TInterval) : Option (Int × Int) :=
  some (a0.Lo, a1.Hi)
def interval_hl (a0 : TInterval) (a1 : TInterval) : Option (Int × Int) :=
  some (a0.Hi, a1.Lo)
def interval_Mul (a0 : TInterval) (a1 : TInterval) : Option (TInterval) :=
  (interval_IsEntire a0).bind fun t3 =>
  (if (t3 == false) = true then interval_IsEntire a1 else some default).bind fun t4 =>
  if (t3 || t4) = true then
    (interval_Entire).bind fun t6 =>
    some t6
  else
    (interval_side a0).bind fun t8 =>
    (interval_side a1).bind fun t9 =>
    if ((t8 == 1) && (t9 == 1)) = true then
      (fixed_Mul a0.Lo a1.Hi).bind fun t12 =>
      (fixed_Mul a0.Hi a1.Lo).bind fun t14 =>
      (fixed_Mul a0.Lo a1.Lo).bind fun t16 =>
      (fixed_Mul a0.Hi a1.Hi).bind fun t18 =>
      (interval_New (mn t12.1 t14.1) (mx t16.2 t18.2)).bind fun t20 =>
      some t20
    else
      if t8 = 0 then
        if t9 = 0 then
          (interval_hh a0 a1).bind fun t23 =>
          (fixed_Mul t23.1 t23.2).bind fun t24 =>
          (interval_ll a0 a1).bind fun t26 =>
          (fixed_Mul t26.1 t26.2).bind fun t27 =>
          (interval_New t24.1 t27.2).bind fun t29 =>
          some t29
        else
        if t9 = 1 then
          (interval_lh a0 a1).bind fun t32 =>
          (fixed_Mul t32.1 t32.2).bind fun t33 =>
          (interval_ll a0 a1).bind fun t35 =>
          (fixed_Mul t35.1 t35.2).bind fun t36 =>
          (interval_New t33.1 t36.2).bind fun t38 =>
          some t38
        else
        if t9 = 2 then
          (interval_lh a0 a1).bind fun t41 =>
          (fixed_Mul t41.1 t41.2).bind fun t42 =>
          (interval_hl a0 a1).bind fun t44 =>
          (fixed_Mul t44.1 t44.2).bind fun t45 =>
          (interval_New t42.1 t45.2).bind fun t47 =>
          some t47
        else
        none
      else
      if t8 = 1 then
        if t9 = 0 then
          (interval_hl a0 a1).bind fun t53 =>
          (fixed_Mul t53.1 t53.2).bind fun t54 =>
          (interval_ll a0 a1).bind fun t56 =>
          (fixed_Mul t56.1 t56.2).bind fun t57 =>
          (interval_New t54.1 t57.2).bind fun t59 =>
          some t59
        else
        if t9 = 1 then
          none
        else
        if t9 = 2 then
          (interval_lh a0 a1).bind fun t63 =>
          (fixed_Mul t63.1 t63.2).bind fun t64 =>
          (interval_hh a0 a1).bind fun t66 =>
          (fixed_Mul t66.1 t66.2).bind fun t67 =>
          (interval_New t64.1 t67.2).bind fun t69 =>
          some t69
        else
        none
      else
      if t8 = 2 then
        if t9 = 0 then
          (interval_hl a0 a1).bind fun t75 =>
          (fixed_Mul t75.1 t75.2).bind fun t76 =>
          (interval_lh a0 a1).bind fun t78 =>
          (fixed_Mul t78.1 t78.2).bind fun t79 =>
          (interval_New t76.1 t79.2).bind fun t81 =>
          some t81
        else
        if t9 = 1 then
          (interval_hl a0 a1).bind fun t84 =>
          (fixed_Mul t84.1 t84.2).bind fun t85 =>
          (interval_hh a0 a1).bind fun t87 =>
          (fixed_Mul t87.1 t87.2).bind fun t88 =>
          (interval_New t85.1 t88.2).bind fun t90 =>
          some t90
        else
        if t9 = 2 then
          (interval_ll a0 a1).bind fun t93 =>
          (fixed_Mul t93.1 t93.2).bind fun t94 =>
          (interval_hh a0 a1).bind fun t96 =>
          (fixed_Mul t96.1 t96.2).bind fun t97 =>
          (interval_New t94.1 t97.2).bind fun t99 =>
          some t99
        else
        none
      else
      none
def interval_Contains (a0 : TInterval) (a1 : Int) : Option (Bool) :=
  (interval_IsEntire a0).bind fun t3 =>
  some (t3 || ((decide (a0.Lo ≤ a1)) && (decide (a1 ≤ a0.Hi))))
def interval_pick_int (a0 : Bool) (a1 : Int) (a2 : Int) : Option (Int) :=
  if a0 = true then
    some a1
  else
    some a2
def fixed_Div (a0 : Int) (a1 : Int) : Option (Int × Int × Int) :=
  if (a1 == 0) = true then
    some (0, 0, 3)
  else
    (fixed_divide (w_i64 (a0 * 65536)) a1).bind fun t5 =>
    some (t5.1, t5.2, 0)
def interval_Div (a0 : TInterval) (a1 : TInterval) : Option (TInterval) :=
  (interval_IsEntire a0).bind fun t3 =>
  (if (t3 == false) = true then interval_IsEntire a1 else some default).bind fun t4 =>
  (if ((t3 || t4) == false) = true then interval_Contains a1 0 else some default).bind fun t5 =>
  if ((t3 || t4) || t5) = true then
    (interval_Entire).bind fun t7 =>
    some t7
  else
    (interval_side a0).bind fun t9 =>
    if t9 = 0 then
      (interval_pick_int (decide (a1.Lo > 0)) 1 0).bind fun t10 =>
      if t10 = 0 then
        (interval_hl a0 a1).bind fun t12 =>
        (fixed_Div t12.1 t12.2).bind fun t13 =>
        (interval_lh a0 a1).bind fun t15 =>
        (fixed_Div t15.1 t15.2).bind fun t16 =>
        (interval_New t13.1 t16.2.1).bind fun t18 =>
        some t18
      else
      if t10 = 1 then
        (interval_ll a0 a1).bind fun t12 =>
        (fixed_Div t12.1 t12.2).bind fun t13 =>
        (interval_hh a0 a1).bind fun t15 =>
        (fixed_Div t15.1 t15.2).bind fun t16 =>
        (interval_New t13.1 t16.2.1).bind fun t18 =>
        some t18
      else
      none
    else
    if t9 = 1 then
      (interval_pick_int (decide (a1.Lo > 0)) 1 0).bind fun t10 =>
      if t10 = 0 then
        (interval_hh a0 a1).bind fun t12 =>
        (fixed_Div t12.1 t12.2).bind fun t13 =>
        (interval_lh a0 a1).bind fun t15 =>
        (fixed_Div t15.1 t15.2).bind fun t16 =>
        (interval_New t13.1 t16.2.1).bind fun t18 =>
        some t18
      else
      if t10 = 1 then
        (interval_ll a0 a1).bind fun t12 =>
        (fixed_Div t12.1 t12.2).bind fun t13 =>
        (interval_hl a0 a1).bind fun t15 =>
        (fixed_Div t15.1 t15.2).bind fun t16 =>
        (interval_New t13.1 t16.2.1).bind fun t18 =>
        some t18
      else
      none
    else
    if t9 = 2 then
      (interval_pick_int (decide (a1.Lo > 0)) 1 0).bind fun t10 =>
      if t10 = 0 then
        (interval_hh a0 a1).bind fun t12 =>
        (fixed_Div t12.1 t12.2).bind fun t13 =>
        (interval_ll a0 a1).bind fun t15 =>
        (fixed_Div t15.1 t15.2).bind fun t16 =>
        (interval_New t13.1 t16.2.1).bind fun t18 =>
        some t18
      else
      if t10 = 1 then
        (interval_lh a0 a1).bind fun t12 =>
        (fixed_Div t12.1 t12.2).bind fun t13 =>
        (interval_hl a0 a1).bind fun t15 =>
        (fixed_Div t15.1 t15.2).bind fun t16 =>
        (interval_New t13.1 t16.2.1).bind fun t18 =>
        some t18
      else
      none
    else
    none
def bits_Len64 (a0 : Int) : Option (Int) :=
  (if (decide (a0 ≥ 4294967296)) = true then
    some (Int.fdiv a0 4294967296, 32)
  else
    some (a0, 0)).bind fun (j4 : Int × Int) =>
  (if (decide (j4.1 ≥ 65536)) = true then
    some (Int.fdiv j4.1 65536, w_i64 (j4.2 + 16))
  else
    some (j4.1, j4.2)).bind fun (j7 : Int × Int) =>
  (if (decide (j7.1 ≥ 256)) = true then
    some (Int.fdiv j7.1 256, w_i64 (j7.2 + 8))
  else
    some (j7.1, j7.2)).bind fun (j10 : Int × Int) =>
  (strAt (⟨#[0, 1, 2, 2, 3, 3, 3, 3, 4, 4, 4, 4, 4, 4, 4, 4, 5, 5, 5, 5, 5, 5, 5, 5, 5, 5, 5, 5, 5, 5, 5, 5, 6, 6, 6, 6, 6, 6, 6, 6, 6, 6, 6, 6, 6, 6, 6, 6, 6, 6, 6, 6, 6, 6, 6, 6, 6, 6, 6, 6, 6, 6, 6, 6, 7, 7, 7, 7, 7, 7, 7, 7, 7, 7, 7, 7, 7, 7, 7, 7, 7, 7, 7, 7, 7, 7, 7, 7, 7, 7, 7, 7, 7, 7, 7, 7, 7, 7, 7, 7, 7, 7, 7, 7, 7, 7, 7, 7, 7, 7, 7, 7, 7, 7, 7, 7, 7, 7, 7, 7, 7, 7, 7, 7, 7, 7, 7, 7, 8, 8, 8, 8, 8, 8, 8, 8, 8, 8, 8, 8, 8, 8, 8, 8, 8, 8, 8, 8, 8, 8, 8, 8, 8, 8, 8, 8, 8, 8, 8, 8, 8, 8, 8, 8, 8, 8, 8, 8, 8, 8, 8, 8, 8, 8, 8, 8, 8, 8, 8, 8, 8, 8, 8, 8, 8, 8, 8, 8, 8, 8, 8, 8, 8, 8, 8, 8, 8, 8, 8, 8, 8, 8, 8, 8, 8, 8, 8, 8, 8, 8, 8, 8, 8, 8, 8, 8, 8, 8, 8, 8, 8, 8, 8, 8, 8, 8, 8, 8, 8, 8, 8, 8, 8, 8, 8, 8, 8, 8, 8, 8, 8, 8, 8, 8, 8, 8, 8, 8, 8, 8, 8, 8, 8, 8, 8, 8]⟩ : ByteArray) (w_u8 j10.1)).bind fun t12 =>
  some (w_i64 (j10.2 + (w_i64 t12)))
def fixed_Sqrt.l17 (k0 : Nat) (a0 : Int) (t8 : Int) : Nat → Int → Option (Int)
  | 0, _ => none
  | k + 1, x16 =>
    if x16 ≠ 0 then
      (some (decide ((w_i64 (Int.tdiv (w_i64 (x16 + (w_i64 (Int.tdiv (w_i64 (a0 * 65536)) x16)))) 2)) ≥ x16))).bind fun z21 =>
      if z21 = true then
        some (x16)
      else
        fixed_Sqrt.l17 k0 a0 t8 k (w_i64 (Int.tdiv (w_i64 (x16 + (w_i64 (Int.tdiv (w_i64 (a0 * 65536)) x16)))) 2))
    else none
def fixed_Sqrt (k0 : Nat) (a0 : Int) : Option (Int × Int × Int) :=
  if (decide (a0 < 0)) = true then
    some (0, 0, 4)
  else
    if ((w_i64 (a0 * 65536)) == 0) = true then
      some (0, 0, 0)
    else
      (bits_Len64 (w_u64 (w_i64 (a0 * 65536)))).bind fun t8 =>
      if 0 ≤ (w_i64 (Int.tdiv (w_i64 (t8 + 1)) 2)) then
        (fixed_Sqrt.l17 k0 a0 t8 k0 (w_i64 (1 * 2 ^ (min (w_i64 (Int.tdiv (w_i64 (t8 + 1)) 2)).toNat 64)))).bind fun (j11 : Int) =>
        if (decide ((w_i64 (j11 * j11)) < (w_i64 (a0 * 65536)))) = true then
          some (j11, w_i64 (j11 + 1), 0)
        else
          some (j11, j11, 0)
      else none
def interval_Sqrt (k0 : Nat) (a0 : TInterval) : Option (TInterval × Bool) :=
  (interval_IsEntire a0).bind fun t3 =>
  if t3 = true then
    some (a0, true)
  else
    if (decide (a0.Hi < 0)) = true then
      some ((⟨0, 0⟩ : TInterval), false)
    else
      (fixed_Sqrt k0 (mx a0.Lo 0)).bind fun t8 =>
      (fixed_Sqrt k0 a0.Hi).bind fun t10 =>
      (interval_New t8.1 t10.2.1).bind fun t12 =>
      some (t12, true)
def tape_root (k0 : Nat) (a0 : TInterval) : Option (TInterval) :=
  if (decide (a0.Lo < 0)) = true then
    (interval_Entire).bind fun t4 =>
    some t4
  else
    (interval_Sqrt k0 a0).bind fun t6 =>
    some (⟨t6.1.Lo, t6.1.Hi⟩ : TInterval)
def tape_Eval.l14 (k0 : Nat) (a0 : TTape) (a1 : List TInterval) (a2 : TInterval) (j5 : List TInterval) : Nat → (List TInterval) → Int → Option (List TInterval)
  | 0, _, _ => none
  | k + 1, x12, x13 =>
    if (decide (x13 < (a0.Out.length : Int))) = true then
      if 0 ≤ x13 ∧ x13 < (a0.Out.length : Int) then
        (a0.Out[x13.toNat]?).bind fun t18 =>
        if 0 ≤ t18 ∧ t18 < (j5.length : Int) then
          (j5[t18.toNat]?).bind fun t21 =>
          if 0 ≤ x13 ∧ x13 < (x12.length : Int) then
            (x12[x13.toNat]?).bind fun t23 =>
            tape_Eval.l14 k0 a0 a1 a2 j5 k (x12.set x13.toNat t21) (w_i64 (x13 + 1))
          else none
        else none
      else none
    else
      some (x12)
def tape_Eval.l29 (k0 : Nat) (a0 : TTape) (a1 : List TInterval) (a2 : TInterval) : Nat → (List TInterval) → Int → Option (List TInterval)
  | 0, _, _ => none
  | k + 1, x27, x28 =>
    if (decide (x28 < (a0.L.length : Int))) = true then
      (if 0 ≤ x28 ∧ x28 < (a0.L.length : Int) then
        (a0.L[x28.toNat]?).bind fun t36 =>
        (some t36.Op).bind fun z37 =>
        if z37 = 0 then
          none
        else
        if z37 = 1 then
          if 0 ≤ x28 ∧ x28 < (x27.length : Int) then
            (x27[x28.toNat]?).bind fun t47 =>
            some ((x27.set x28.toNat (⟨t36.C.Lo, t36.C.Hi⟩ : TInterval)))
          else none
        else
        if z37 = 2 then
          if 0 ≤ t36.A ∧ t36.A < (a1.length : Int) then
            (a1[t36.A.toNat]?).bind fun t53 =>
            if 0 ≤ x28 ∧ x28 < (x27.length : Int) then
              (x27[x28.toNat]?).bind fun t55 =>
              some ((x27.set x28.toNat t53))
            else none
          else none
        else
        if z37 = 3 then
          if 0 ≤ x28 ∧ x28 < (x27.length : Int) then
            (x27[x28.toNat]?).bind fun t62 =>
            some ((x27.set x28.toNat a2))
          else none
        else
        if z37 = 4 then
          if 0 ≤ t36.A ∧ t36.A < (x27.length : Int) then
            (x27[t36.A.toNat]?).bind fun t70 =>
            (interval_Neg t70).bind fun t72 =>
            if 0 ≤ x28 ∧ x28 < (x27.length : Int) then
              (x27[x28.toNat]?).bind fun t74 =>
              some ((x27.set x28.toNat t72))
            else none
          else none
        else
        if z37 = 5 then
          if 0 ≤ t36.A ∧ t36.A < (x27.length : Int) then
            (x27[t36.A.toNat]?).bind fun t82 =>
            (interval_Square t82).bind fun t84 =>
            if 0 ≤ x28 ∧ x28 < (x27.length : Int) then
              (x27[x28.toNat]?).bind fun t86 =>
              some ((x27.set x28.toNat t84))
            else none
          else none
        else
        if z37 = 6 then
          if 0 ≤ t36.A ∧ t36.A < (x27.length : Int) then
            (x27[t36.A.toNat]?).bind fun t94 =>
            (tape_root k0 t94).bind fun t96 =>
            if 0 ≤ x28 ∧ x28 < (x27.length : Int) then
              (x27[x28.toNat]?).bind fun t98 =>
              some ((x27.set x28.toNat t96))
            else none
          else none
        else
        if z37 = 7 then
          if 0 ≤ t36.A ∧ t36.A < (x27.length : Int) then
            (x27[t36.A.toNat]?).bind fun t106 =>
            if 0 ≤ t36.B ∧ t36.B < (x27.length : Int) then
              (x27[t36.B.toNat]?).bind fun t109 =>
              (interval_Add t106 t109).bind fun t110 =>
              if 0 ≤ x28 ∧ x28 < (x27.length : Int) then
                (x27[x28.toNat]?).bind fun t112 =>
                some ((x27.set x28.toNat t110))
              else none
            else none
          else none
        else
        if z37 = 8 then
          if 0 ≤ t36.A ∧ t36.A < (x27.length : Int) then
            (x27[t36.A.toNat]?).bind fun t120 =>
            if 0 ≤ t36.B ∧ t36.B < (x27.length : Int) then
              (x27[t36.B.toNat]?).bind fun t123 =>
              (interval_Sub t120 t123).bind fun t124 =>
              if 0 ≤ x28 ∧ x28 < (x27.length : Int) then
                (x27[x28.toNat]?).bind fun t126 =>
                some ((x27.set x28.toNat t124))
              else none
            else none
          else none
        else
        if z37 = 9 then
          if 0 ≤ t36.A ∧ t36.A < (x27.length : Int) then
            (x27[t36.A.toNat]?).bind fun t134 =>
            if 0 ≤ t36.B ∧ t36.B < (x27.length : Int) then
              (x27[t36.B.toNat]?).bind fun t137 =>
              (interval_Mul t134 t137).bind fun t138 =>
              if 0 ≤ x28 ∧ x28 < (x27.length : Int) then
                (x27[x28.toNat]?).bind fun t140 =>
                some ((x27.set x28.toNat t138))
              else none
            else none
          else none
        else
        if z37 = 10 then
          if 0 ≤ t36.A ∧ t36.A < (x27.length : Int) then
            (x27[t36.A.toNat]?).bind fun t148 =>
            if 0 ≤ t36.B ∧ t36.B < (x27.length : Int) then
              (x27[t36.B.toNat]?).bind fun t151 =>
              (interval_Div t148 t151).bind fun t152 =>
              if 0 ≤ x28 ∧ x28 < (x27.length : Int) then
                (x27[x28.toNat]?).bind fun t154 =>
                some ((x27.set x28.toNat t152))
              else none
            else none
          else none
        else
        none
      else none).bind fun (j32 : List TInterval) =>
      tape_Eval.l29 k0 a0 a1 a2 k j32 (w_i64 (x28 + 1))
    else
      some (x27)
def tape_Eval (k0 : Nat) (a0 : TTape) (a1 : List TInterval) (a2 : TInterval) : Option (List TInterval) :=
  if 0 ≤ (a0.L.length : Int) ∧ (a0.L.length : Int) < 1000000 then
    (tape_Eval.l29 k0 a0 a1 a2 k0 (List.replicate (a0.L.length : Int).toNat (⟨0, 0⟩ : TInterval)) 0).bind fun (j5 : List TInterval) =>
    if 0 ≤ (a0.Out.length : Int) ∧ (a0.Out.length : Int) < 1000000 then
      (tape_Eval.l14 k0 a0 a1 a2 j5 k0 (List.replicate (a0.Out.length : Int).toNat (⟨0, 0⟩ : TInterval)) 0).bind fun (j9 : List TInterval) =>
      some j9
    else none
  else none
def picard_Image_1_m (a0 : TInterval) (a1 : TInterval) (q0 : TInterval) : Option (TInterval) :=
  (interval_Mul q0 a1).bind fun t3 =>
  (interval_Add a0 t3).bind fun t4 =>
  some t4
def api_Interval_112_s129.l10 (k0 : Nat) (a0 : List TInterval) (a1 : List TInterval) (a2_0 : TInterval) : Nat → (List TInterval) → Int → Option (List TInterval)
  | 0, _, _ => none
  | k + 1, x8, x9 =>
    if (decide (x9 < (a0.length : Int))) = true then
      if 0 ≤ x9 ∧ x9 < (a0.length : Int) then
        (a0[x9.toNat]?).bind fun t15 =>
        if 0 ≤ x9 ∧ x9 < (a1.length : Int) then
          (a1[x9.toNat]?).bind fun t18 =>
          (picard_Image_1_m t15 t18 a2_0).bind fun t20 =>
          if 0 ≤ x9 ∧ x9 < (x8.length : Int) then
            (x8[x9.toNat]?).bind fun t22 =>
            api_Interval_112_s129.l10 k0 a0 a1 a2_0 k (x8.set x9.toNat t20) (w_i64 (x9 + 1))
          else none
        else none
      else none
    else
      some (x8)
def api_Interval_112_s129 (k0 : Nat) (a0 : List TInterval) (a1 : List TInterval) (a2_0 : TInterval) : Option (List TInterval) :=
  if 0 ≤ (a0.length : Int) ∧ (a0.length : Int) < 1000000 then
    (api_Interval_112_s129.l10 k0 a0 a1 a2_0 k0 (List.replicate (a0.length : Int).toNat (⟨0, 0⟩ : TInterval)) 0).bind fun (j5 : List TInterval) =>
    some j5
  else none
def picard_Image (k0 : Nat) (a0 : TTape) (a1 : List TInterval) (a2 : List TInterval) (a3 : TTimeStep) : Option (List TInterval) :=
  (interval_New 0 a3.H).bind fun t3 =>
  (interval_New a3.T (w_i64 (a3.T + a3.H))).bind fun t5 =>
  (tape_Eval k0 (⟨a0.N, a0.L, a0.Out⟩ : TTape) a2 t5).bind fun t6 =>
  (api_Interval_112_s129 k0 a1 t6 t3).bind fun t8 =>
  some t8
def interval_Hull (a0 : TInterval) (a1 : TInterval) : Option (TInterval) :=
  some (⟨mn a0.Lo a1.Lo, mx a0.Hi a1.Hi⟩ : TInterval)
def api_Interval_103_s21.l6 (k0 : Nat) (a0 : List TInterval) : Nat → Int → Option ((Int) ⊕ (Unit))
  | 0, _ => none
  | k + 1, x5 =>
    if (decide (x5 < (a0.length : Int))) = true then
      if 0 ≤ x5 ∧ x5 < (a0.length : Int) then
        (a0[x5.toNat]?).bind fun t11 =>
        (interval_IsEntire t11).bind fun t12 =>
        if t12 = true then
          some (.inl x5)
        else
          api_Interval_103_s21.l6 k0 a0 k (w_i64 (x5 + 1))
      else none
    else
      some (.inr ())
def api_Interval_103_s21 (k0 : Nat) (a0 : List TInterval) : Option (Int) :=
  (api_Interval_103_s21.l6 k0 a0 k0 0 : Option ((Int) ⊕ (Unit))).bind fun j2 => match j2 with
  | .inl r => some r
  | .inr j2v =>
    some (-1)
def api_Interval_84_s21 (k0 : Nat) (a0 : List TInterval) : Option (Bool) :=
  (api_Interval_103_s21 k0 a0).bind fun t3 =>
  some (decide (t3 ≥ 0))
def picard_bounded (k0 : Nat) (a0 : List TInterval) : Option (Bool) :=
  (api_Interval_84_s21 k0 a0).bind fun t3 =>
  some (!t3)
def interval_Width (a0 : TInterval) : Option (Int) :=
  some (w_i64 (a0.Hi - a0.Lo))
def picard_inflate.l10 (k0 : Nat) (a0 : List TInterval) : Nat → (List TInterval) → Int → Option (List TInterval)
  | 0, _, _ => none
  | k + 1, x8, x9 =>
    if (decide (x9 < (a0.length : Int))) = true then
      if 0 ≤ x9 ∧ x9 < (a0.length : Int) then
        (a0[x9.toNat]?).bind fun t14 =>
        (interval_Width t14).bind fun t16 =>
        (interval_New (w_i64 (t14.Lo - (w_i64 ((w_i64 (Int.tdiv t16 16)) + 1)))) (w_i64 (t14.Hi + (w_i64 ((w_i64 (Int.tdiv t16 16)) + 1))))).bind fun t18 =>
        if 0 ≤ x9 ∧ x9 < (x8.length : Int) then
          (x8[x9.toNat]?).bind fun t20 =>
          picard_inflate.l10 k0 a0 k (x8.set x9.toNat t18) (w_i64 (x9 + 1))
        else none
      else none
    else
      some (x8)
def picard_inflate (k0 : Nat) (a0 : List TInterval) : Option (List TInterval) :=
  if 0 ≤ (a0.length : Int) ∧ (a0.length : Int) < 1000000 then
    (picard_inflate.l10 k0 a0 k0 (List.replicate (a0.length : Int).toNat (⟨0, 0⟩ : TInterval)) 0).bind fun (j5 : List TInterval) =>
    some j5
  else none
def interval_Subset (a0 : TInterval) (a1 : TInterval) : Option (Bool) :=
  some ((decide (a1.Lo ≤ a0.Lo)) && (decide (a0.Hi ≤ a1.Hi)))
def box_Subset.l6 (k0 : Nat) (a0 : List TInterval) (a1 : List TInterval) (t4 : TInterval) (t5 : TInterval) : Option (Bool) :=
  some true
def box_Subset (k0 : Nat) (a0 : List TInterval) (a1 : List TInterval) : Option (Bool) :=
  if a0.length = 1 then
    (a0[0]?).bind fun t4 =>
    (a1[0]?).bind fun t5 =>
    (interval_Subset t4 t5).bind fun t10 =>
    if (!t10) = true then
      some false
    else
      box_Subset.l6 k0 a0 a1 t4 t5
  else none
def api_Interval_112_s114.l10 (k0 : Nat) (a0 : List TInterval) (a1 : List TInterval) : Nat → (List TInterval) → Int → Option (List TInterval)
  | 0, _, _ => none
  | k + 1, x8, x9 =>
    if (decide (x9 < (a0.length : Int))) = true then
      if 0 ≤ x9 ∧ x9 < (a0.length : Int) then
        (a0[x9.toNat]?).bind fun t15 =>
        if 0 ≤ x9 ∧ x9 < (a1.length : Int) then
          (a1[x9.toNat]?).bind fun t18 =>
          (interval_Hull t15 t18).bind fun t20 =>
          if 0 ≤ x9 ∧ x9 < (x8.length : Int) then
            (x8[x9.toNat]?).bind fun t22 =>
            api_Interval_112_s114.l10 k0 a0 a1 k (x8.set x9.toNat t20) (w_i64 (x9 + 1))
          else none
        else none
      else none
    else
      some (x8)
def api_Interval_112_s114 (k0 : Nat) (a0 : List TInterval) (a1 : List TInterval) : Option (List TInterval) :=
  if 0 ≤ (a0.length : Int) ∧ (a0.length : Int) < 1000000 then
    (api_Interval_112_s114.l10 k0 a0 a1 k0 (List.replicate (a0.length : Int).toNat (⟨0, 0⟩ : TInterval)) 0).bind fun (j5 : List TInterval) =>
    some j5
  else none
def picard_candidates_1_m (k0 : Nat) (q0 : List TInterval) (q1 : TTape) (q2 : TTimeStep) : Option (List TInterval × List TInterval) :=
  (picard_Image k0 (⟨q1.N, q1.L, q1.Out⟩ : TTape) q0 q0 q2).bind fun t2 =>
  (api_Interval_112_s114 k0 q0 t2).bind fun t3 =>
  (picard_bounded k0 t3).bind fun t7 =>
  if (!t7) = true then
    none
  else
    (picard_inflate k0 t3).bind fun t9 =>
    (picard_bounded k0 t9).bind fun t11 =>
    if (!t11) = true then
      none
    else
      (picard_Image k0 (⟨q1.N, q1.L, q1.Out⟩ : TTape) q0 t9 q2).bind fun t13 =>
      (picard_bounded k0 t13).bind fun t14 =>
      if t14 = true then some (t9, t13) else none
def picard_Enclose.l7 (k0 : Nat) (a0 : TTape) (a1 : List TInterval) (a2 : TTimeStep) (t5 : List TInterval × List TInterval) (x6 : List TInterval) : Option (List TInterval × Bool) :=
  if 0 < x6.length then
    some (x6, true)
  else none
def picard_Enclose (k0 : Nat) (a0 : TTape) (a1 : List TInterval) (a2 : TTimeStep) : Option (List TInterval × Bool) :=
  (picard_candidates_1_m k0 a1 (⟨a0.N, a0.L, a0.Out⟩ : TTape) a2).bind fun t5 =>
  (box_Subset k0 t5.2 t5.1).bind fun t11 =>
  if t11 = true then
    picard_Enclose.l7 k0 a0 a1 a2 t5 t5.2
  else
    none
def interval_Point (a0 : Int) : Option (TInterval) :=
  (interval_New a0 a0).bind fun t3 =>
  some t3
def series_intervals_1 (a0 : TInterval) : Option (TInterval) :=
  some a0
def fixed_MulRatio (a0 : Int) (a1 : Int) (a2 : Int) : Option (Int × Int × Int) :=
  if ((((decide (a1 < (-1073741824))) || (decide (a1 > 1073741824))) || (decide (a2 < 1))) || (decide (a2 > 1073741824))) = true then
    some (0, 0, 1)
  else
    (fixed_divide (w_i64 (a0 * a1)) a2).bind fun t5 =>
    some (t5.1, t5.2, 0)
def interval_pick_int64 (a0 : Bool) (a1 : Int) (a2 : Int) : Option (Int) :=
  if a0 = true then
    some a1
  else
    some a2
def interval_MulRatio (a0 : TInterval) (a1 : Int) (a2 : Int) : Option (TInterval) :=
  (interval_IsEntire a0).bind fun t3 =>
  if t3 = true then
    some a0
  else
    (interval_pick_int64 (decide (a1 < 0)) a0.Hi a0.Lo).bind fun t6 =>
    (fixed_MulRatio t6 a1 a2).bind fun t7 =>
    (interval_pick_int64 (decide (a1 < 0)) a0.Lo a0.Hi).bind fun t9 =>
    (fixed_MulRatio t9 a1 a2).bind fun t10 =>
    (interval_New t7.1 t10.2.1).bind fun t12 =>
    some t12
def series_intervals_2 (a0 : TInterval) (a1 : Int) : Option (TInterval) :=
  (interval_MulRatio a0 1 a1).bind fun t3 =>
  some t3
def series_unit : Option (TInterval) :=
  (interval_Point 65536).bind fun t3 =>
  some t3
def api_Interval_next_m (k0 : Nat) (a1 : TInstruction) (a2 : List (List TInterval)) (a3 : List TInterval) (a4 : TInterval) : Option (TInterval) :=
  if (a1.Op == 4) = true then
    none
  else
    if (a1.Op == 7) = true then
      none
    else
      if (a1.Op == 8) = true then
        none
      else
        if (a1.Op == 9) = true then
          none
        else
          if (a1.Op == 5) = true then
            none
          else
            if (a1.Op == 10) = true then
              none
            else
              if (a1.Op == 6) = true then
                none
              else
                (if ((a1.Op == 1) && ((a3.length : Int) == 0)) = true then
                  some (a1.C.Lo, a1.C.Hi)
                else
                  if ((a1.Op == 3) && ((a3.length : Int) == 0)) = true then
                    some (a4.Lo, a4.Hi)
                  else
                    if ((a1.Op == 3) && ((a3.length : Int) == 1)) = true then
                      (series_unit).bind fun t30 =>
                      some (t30.Lo, t30.Hi)
                    else
                      some (0, 0)).bind fun (j21 : Int × Int) =>
                (series_intervals_1 (⟨j21.1, j21.2⟩ : TInterval)).bind fun t23 =>
                some t23
def api_Interval_expand_m.l26 (k0 : Nat) (a1 : TTape) (a2 : List TInterval) (a3 : TInterval) (a4 : Int) (j6 : List (List TInterval)) (x11 : List (List TInterval)) (x12 : List (List TInterval)) (x13 : Int) (j22 : List (List TInterval)) : Nat → (List (List TInterval)) → Int → Option (List (List TInterval) × List (List TInterval))
  | 0, _, _ => none
  | k + 1, x24, x25 =>
    if (decide (x25 < (a1.Out.length : Int))) = true then
      if 0 ≤ x25 ∧ x25 < (a1.Out.length : Int) then
        (a1.Out[x25.toNat]?).bind fun t30 =>
        if 0 ≤ x25 ∧ x25 < (x24.length : Int) then
          (x24[x25.toNat]?).bind fun t33 =>
          if 0 ≤ t30 ∧ t30 < (j22.length : Int) then
            (j22[t30.toNat]?).bind fun t36 =>
            if 0 ≤ x13 ∧ x13 < (t36.length : Int) then
              (t36[x13.toNat]?).bind fun t39 =>
              (series_intervals_2 t39 (w_i64 (x13 + 1))).bind fun t41 =>
              if t33.length < 1000000 then
                if 0 ≤ x25 ∧ x25 < (x24.length : Int) then
                  (x24[x25.toNat]?).bind fun t44 =>
                  api_Interval_expand_m.l26 k0 a1 a2 a3 a4 j6 x11 x12 x13 j22 k (x24.set x25.toNat (t33 ++ [t41])) (w_i64 (x25 + 1))
                else none
              else none
            else none
          else none
        else none
      else none
    else
      some (x24, j22)
def api_Interval_expand_m.l50 (k0 : Nat) (a1 : TTape) (a2 : List TInterval) (a3 : TInterval) (a4 : Int) (j6 : List (List TInterval)) (x11 : List (List TInterval)) (x12 : List (List TInterval)) (x13 : Int) : Nat → (List (List TInterval)) → Int → Option (List (List TInterval))
  | 0, _, _ => none
  | k + 1, x48, x49 =>
    if (decide (x49 < (a1.L.length : Int))) = true then
      if 0 ≤ x49 ∧ x49 < (a1.L.length : Int) then
        (a1.L[x49.toNat]?).bind fun t54 =>
        if (t54.Op == 2) = true then
          none
        else
          if 0 ≤ x49 ∧ x49 < (x48.length : Int) then
            (x48[x49.toNat]?).bind fun t59 =>
            if 0 ≤ x49 ∧ x49 < (x48.length : Int) then
              (x48[x49.toNat]?).bind fun t62 =>
              (api_Interval_next_m k0 (⟨t54.Op, t54.A, t54.B, (⟨t54.C.Lo, t54.C.Hi⟩ : TInterval)⟩ : TInstruction) x48 t62 a3).bind fun t63 =>
              if t59.length < 1000000 then
                if 0 ≤ x49 ∧ x49 < (x48.length : Int) then
                  (x48[x49.toNat]?).bind fun t66 =>
                  api_Interval_expand_m.l50 k0 a1 a2 a3 a4 j6 x11 x12 x13 k (x48.set x49.toNat (t59 ++ [t63])) (w_i64 (x49 + 1))
                else none
              else none
            else none
          else none
      else none
    else
      some (x48)
def api_Interval_expand_m.l14 (k0 : Nat) (a1 : TTape) (a2 : List TInterval) (a3 : TInterval) (a4 : Int) (j6 : List (List TInterval)) : Nat → (List (List TInterval)) → (List (List TInterval)) → Int → Option (List (List TInterval))
  | 0, _, _, _ => none
  | k + 1, x11, x12, x13 =>
    if (decide (x13 < a4)) = true then
      ((api_Interval_expand_m.l50 k0 a1 a2 a3 a4 j6 x11 x12 x13 k0 x12 0).bind fun (j22 : List (List TInterval)) =>
      api_Interval_expand_m.l26 k0 a1 a2 a3 a4 j6 x11 x12 x13 j22 k0 x11 0).bind fun (j18 : List (List TInterval) × List (List TInterval)) =>
      api_Interval_expand_m.l14 k0 a1 a2 a3 a4 j6 k j18.1 j18.2 (w_i64 (x13 + 1))
    else
      some (x11)
def api_Interval_expand_m.l73 (k0 : Nat) (a1 : TTape) (a2 : List TInterval) (a3 : TInterval) (a4 : Int) : Nat → (List (List TInterval)) → Int → Option (List (List TInterval))
  | 0, _, _ => none
  | k + 1, x71, x72 =>
    if (decide (x72 < ((List.replicate a1.N.toNat ([] : List TInterval)).length : Int))) = true then
      if 0 ≤ x72 ∧ x72 < (a2.length : Int) then
        (a2[x72.toNat]?).bind fun t78 =>
        if 0 ≤ x72 ∧ x72 < (x71.length : Int) then
          (x71[x72.toNat]?).bind fun t80 =>
          api_Interval_expand_m.l73 k0 a1 a2 a3 a4 k (x71.set x72.toNat ([t78] : List TInterval)) (w_i64 (x72 + 1))
        else none
      else none
    else
      some (x71)
def api_Interval_expand_m (k0 : Nat) (a1 : TTape) (a2 : List TInterval) (a3 : TInterval) (a4 : Int) : Option (List (List TInterval)) :=
  if 0 ≤ a1.N ∧ a1.N < 1000000 then
    if 0 ≤ (a1.L.length : Int) ∧ (a1.L.length : Int) < 1000000 then
      (api_Interval_expand_m.l73 k0 a1 a2 a3 a4 k0 (List.replicate a1.N.toNat ([] : List TInterval)) 0).bind fun (j6 : List (List TInterval)) =>
      (api_Interval_expand_m.l14 k0 a1 a2 a3 a4 j6 k0 j6 (List.replicate (a1.L.length : Int).toNat ([] : List TInterval)) 0).bind fun (j8 : List (List TInterval)) =>
      some j8
    else none
  else none
def series_Coefficients (k0 : Nat) (a0 : TTape) (a1 : List TInterval) (a2 : TInterval) (a3 : Int) : Option (List (List TInterval)) :=
  (api_Interval_expand_m k0 (⟨a0.N, a0.L, a0.Out⟩ : TTape) a1 a2 a3).bind fun t3 =>
  some t3
def step_Remainder_1_m (a0 : Int) (a1 : List TInterval) (q0 : Int) : Option (TInterval) :=
  if 0 ≤ w_i64 (q0 + 1) ∧ w_i64 (q0 + 1) < (a1.length : Int) then
    (a1[(w_i64 (q0 + 1)).toNat]?).bind fun t4 =>
    some t4
  else none
def api_Interval_118_s119.l10 (k0 : Nat) (a0 : List (List TInterval)) (a1_0 : Int) : Nat → (List TInterval) → Int → Option (List TInterval)
  | 0, _, _ => none
  | k + 1, x8, x9 =>
    if (decide (x9 < (a0.length : Int))) = true then
      if 0 ≤ x9 ∧ x9 < (a0.length : Int) then
        (a0[x9.toNat]?).bind fun t14 =>
        (step_Remainder_1_m x9 t14 a1_0).bind fun t16 =>
        if 0 ≤ x9 ∧ x9 < (x8.length : Int) then
          (x8[x9.toNat]?).bind fun t18 =>
          api_Interval_118_s119.l10 k0 a0 a1_0 k (x8.set x9.toNat t16) (w_i64 (x9 + 1))
        else none
      else none
    else
      some (x8)
def api_Interval_118_s119 (k0 : Nat) (a0 : List (List TInterval)) (a1_0 : Int) : Option (List TInterval) :=
  if 0 ≤ (a0.length : Int) ∧ (a0.length : Int) < 1000000 then
    (api_Interval_118_s119.l10 k0 a0 a1_0 k0 (List.replicate (a0.length : Int).toNat (⟨0, 0⟩ : TInterval)) 0).bind fun (j5 : List TInterval) =>
    some j5
  else none
def step_Remainder (k0 : Nat) (a0 : TTape) (a1 : List TInterval) (a2 : TTimeStep) (a3 : Int) : Option (List TInterval) :=
  (series_Coefficients k0 (⟨a0.N, a0.L, a0.Out⟩ : TTape) a1 (⟨a2.T, w_i64 (a2.T + a2.H)⟩ : TInterval) (w_i64 (a3 + 1))).bind fun t3 =>
  (api_Interval_118_s119 k0 t3 a3).bind fun t5 =>
  some t5
def api_Interval_67 (a0 : Bool) (a1 : TInterval) (a2 : TInterval) : Option (TInterval) :=
  if a0 = true then
    some a1
  else
    some a2
def interval_Intersect (a0 : TInterval) (a1 : TInterval) : Option (TInterval × Bool) :=
  (api_Interval_67 (decide ((mx a0.Lo a1.Lo) ≤ (mn a0.Hi a1.Hi))) (⟨mx a0.Lo a1.Lo, mn a0.Hi a1.Hi⟩ : TInterval) (⟨0, 0⟩ : TInterval)).bind fun t5 =>
  some (t5, decide ((mx a0.Lo a1.Lo) ≤ (mn a0.Hi a1.Hi)))
def series_Eval_1_m (a0 : TInterval) (q0 : TInterval) : Option (TInterval) :=
  (interval_Mul a0 q0).bind fun t3 =>
  some t3
def api_Interval_125_s126_s90.l31 (k0 : Nat) (a0 : List (List TInterval)) (a1_0 : TInterval) (x8 : List TInterval) (x9 : Int) (t17 : List TInterval) (t20 : TInterval) : Nat → Int → Int → Int → Option (Int × Int)
  | 0, _, _, _ => none
  | k + 1, x28, x29, x30 =>
    if (decide (x30 ≥ 0)) = true then
      (series_Eval_1_m (⟨x28, x29⟩ : TInterval) a1_0).bind fun t34 =>
      if 0 ≤ x30 ∧ x30 < (t17.length : Int) then
        (t17[x30.toNat]?).bind fun t36 =>
        (interval_Add t34 t36).bind fun t37 =>
        api_Interval_125_s126_s90.l31 k0 a0 a1_0 x8 x9 t17 t20 k t37.Lo t37.Hi (w_i64 (x30 - 1))
      else none
    else
      some (x28, x29)
def api_Interval_125_s126_s90.l10 (k0 : Nat) (a0 : List (List TInterval)) (a1_0 : TInterval) : Nat → (List TInterval) → Int → Option (List TInterval)
  | 0, _, _ => none
  | k + 1, x8, x9 =>
    if (decide (x9 < (a0.length : Int))) = true then
      (if 0 ≤ x9 ∧ x9 < (a0.length : Int) then
        (a0[x9.toNat]?).bind fun t17 =>
        if 0 ≤ w_i64 ((t17.length : Int) - 1) ∧ w_i64 ((t17.length : Int) - 1) < (t17.length : Int) then
          (t17[(w_i64 ((t17.length : Int) - 1)).toNat]?).bind fun t20 =>
          (api_Interval_125_s126_s90.l31 k0 a0 a1_0 x8 x9 t17 t20 k0 t20.Lo t20.Hi (w_i64 ((t17.length : Int) - 2))).bind fun (j23 : Int × Int) =>
          if 0 ≤ x9 ∧ x9 < (x8.length : Int) then
            (x8[x9.toNat]?).bind fun t26 =>
            some ((x8.set x9.toNat (⟨j23.1, j23.2⟩ : TInterval)))
          else none
        else none
      else none).bind fun (j13 : List TInterval) =>
      api_Interval_125_s126_s90.l10 k0 a0 a1_0 k j13 (w_i64 (x9 + 1))
    else
      some (x8)
def api_Interval_125_s126_s90 (k0 : Nat) (a0 : List (List TInterval)) (a1_0 : TInterval) : Option (List TInterval) :=
  if 0 ≤ (a0.length : Int) ∧ (a0.length : Int) < 1000000 then
    (api_Interval_125_s126_s90.l10 k0 a0 a1_0 k0 (List.replicate (a0.length : Int).toNat (⟨0, 0⟩ : TInterval)) 0).bind fun (j5 : List TInterval) =>
    some j5
  else none
def series_Eval (k0 : Nat) (a0 : List (List TInterval)) (a1 : TInterval) : Option (List TInterval) :=
  (api_Interval_125_s126_s90 k0 a0 a1).bind fun t3 =>
  some t3
def step_EnclosureAt_1_m (a0 : Int) (a1 : List TInterval) (q0 : List TInterval) : Option (List TInterval) :=
  if 0 ≤ a0 ∧ a0 < (q0.length : Int) then
    (q0[a0.toNat]?).bind fun t4 =>
    if a1.length < 1000000 then
      some (a1 ++ [t4])
    else none
  else none
def api_Interval_98_s100 (k0 : Nat) (a0 : List TInterval) (a1_0 : List TInterval) : Option (List (List TInterval)) :=
  if 0 ≤ (1 : Int) ∧ (1 : Int) < 1000000 then
    (step_EnclosureAt_1_m 0 a0 a1_0).bind fun t8 =>
    if 0 ≤ (0 : Int) ∧ (0 : Int) < ((List.replicate (1 : Int).toNat ([] : List TInterval)).length : Int) then
      ((List.replicate (1 : Int).toNat ([] : List TInterval))[(0 : Int).toNat]?).bind fun t10 =>
      some ((List.replicate (1 : Int).toNat ([] : List TInterval)).set ((0 : Int).toNat) t8)
    else none
  else none
def step_restrictTo_1_1_m (a0 : Int) (a1 : TInterval) (q0 : List TInterval) : Option (TInterval) :=
  if 0 ≤ a0 ∧ a0 < (q0.length : Int) then
    (q0[a0.toNat]?).bind fun t4 =>
    (interval_Intersect a1 t4).bind fun t6 =>
    if t6.2 = true then
      some (⟨t6.1.Lo, t6.1.Hi⟩ : TInterval)
    else
      if 0 ≤ a0 ∧ a0 < (q0.length : Int) then
        (q0[a0.toNat]?).bind fun t11 =>
        some t11
      else none
  else none
def api_Interval_123_s124.l10 (k0 : Nat) (a0 : List TInterval) (a1_0 : List TInterval) : Nat → (List TInterval) → Int → Option (List TInterval)
  | 0, _, _ => none
  | k + 1, x8, x9 =>
    if (decide (x9 < (a0.length : Int))) = true then
      if 0 ≤ x9 ∧ x9 < (a0.length : Int) then
        (a0[x9.toNat]?).bind fun t14 =>
        (step_restrictTo_1_1_m x9 t14 a1_0).bind fun t16 =>
        if 0 ≤ x9 ∧ x9 < (x8.length : Int) then
          (x8[x9.toNat]?).bind fun t18 =>
          api_Interval_123_s124.l10 k0 a0 a1_0 k (x8.set x9.toNat t16) (w_i64 (x9 + 1))
        else none
      else none
    else
      some (x8)
def api_Interval_123_s124 (k0 : Nat) (a0 : List TInterval) (a1_0 : List TInterval) : Option (List TInterval) :=
  if 0 ≤ (a0.length : Int) ∧ (a0.length : Int) < 1000000 then
    (api_Interval_123_s124.l10 k0 a0 a1_0 k0 (List.replicate (a0.length : Int).toNat (⟨0, 0⟩ : TInterval)) 0).bind fun (j5 : List TInterval) =>
    some j5
  else none
def step_restrictTo_1_m (k0 : Nat) (a0 : List TInterval) (q0 : List TInterval) : Option (List TInterval) :=
  (api_Interval_123_s124 k0 a0 q0).bind fun t3 =>
  some t3
def step_EnclosureAt (k0 : Nat) (a0 : TTape) (a1 : List TInterval) (a2 : List TInterval) (a3 : TStepWindow) : Option (List TInterval) :=
  (step_Remainder k0 (⟨a0.N, a0.L, a0.Out⟩ : TTape) a2 (⟨a3.T, a3.H⟩ : TTimeStep) a3.Order).bind fun t3 =>
  (interval_Point a3.T).bind fun t5 =>
  (series_Coefficients k0 (⟨a0.N, a0.L, a0.Out⟩ : TTape) a1 t5 a3.Order).bind fun t6 =>
  if t6.length = 1 then
    (t6[0]?).bind fun t8 =>
    (api_Interval_98_s100 k0 t8 t3).bind fun t9 =>
    (series_Eval k0 t9 (⟨a3.Part.Lo, a3.Part.Hi⟩ : TInterval)).bind fun t11 =>
    (step_restrictTo_1_m k0 t11 a2).bind fun t12 =>
    some t12
  else none
def step_bounded (k0 : Nat) (a0 : TSegment) : Option (TSegment × Bool) :=
  (api_Interval_84_s21 k0 a0.Tube).bind fun t3 =>
  (if (t3 == false) = true then api_Interval_84_s21 k0 a0.To else some default).bind fun t4 =>
  if (t3 || t4) = true then
    some ((⟨0, 0, ([] : List TInterval), ([] : List TInterval), ([] : List TInterval), ([] : List TInterval)⟩ : TSegment), false)
  else
    some ((⟨a0.T, a0.H, a0.From, a0.Pre, a0.Tube, a0.To⟩ : TSegment), true)
def step_IntervalStep_1_m (k0 : Nat) (a0 : Int) (a1 : Int) (q0 : TTape) (q1 : List TInterval) (q2 : List TInterval) (q3 : TTimeStep) (q4 : Int) : Option (List TInterval) :=
  (step_EnclosureAt k0 (⟨q0.N, q0.L, q0.Out⟩ : TTape) q1 q2 (⟨q3.T, q3.H, (⟨a0, a1⟩ : TInterval), q4⟩ : TStepWindow)).bind fun t3 =>
  some t3
def step_IntervalStep (k0 : Nat) (a0 : TTape) (a1 : List TInterval) (a2 : TTimeStep) (a3 : Int) : Option (TSegment × Bool) :=
  (picard_Enclose k0 (⟨a0.N, a0.L, a0.Out⟩ : TTape) a1 a2).bind fun t3 =>
  if (!t3.2) = true then
    some ((⟨0, 0, ([] : List TInterval), ([] : List TInterval), ([] : List TInterval), ([] : List TInterval)⟩ : TSegment), false)
  else
    (step_IntervalStep_1_m k0 0 a2.H (⟨a0.N, a0.L, a0.Out⟩ : TTape) a1 t3.1 a2 a3).bind fun t8 =>
    (step_IntervalStep_1_m k0 a2.H a2.H (⟨a0.N, a0.L, a0.Out⟩ : TTape) a1 t3.1 a2 a3).bind fun t9 =>
    (step_bounded k0 (⟨a2.T, a2.H, a1, t3.1, t8, t9⟩ : TSegment)).bind fun t10 =>
    some ((⟨t10.1.T, t10.1.H, t10.1.From, t10.1.Pre, t10.1.Tube, t10.1.To⟩ : TSegment), t10.2)
def control_Accept_1_m (a0 : TInterval) (q0 : TStepControl) : Option (Bool) :=
  (interval_Width a0).bind fun t3 =>
  some (decide (t3 > q0.Wide))
def api_Interval_103_s82.l6 (k0 : Nat) (a0 : List TInterval) (a1_0 : TStepControl) : Nat → Int → Option ((Int) ⊕ (Unit))
  | 0, _ => none
  | k + 1, x5 =>
    if (decide (x5 < (a0.length : Int))) = true then
      if 0 ≤ x5 ∧ x5 < (a0.length : Int) then
        (a0[x5.toNat]?).bind fun t11 =>
        (control_Accept_1_m t11 a1_0).bind fun t12 =>
        if t12 = true then
          some (.inl x5)
        else
          api_Interval_103_s82.l6 k0 a0 a1_0 k (w_i64 (x5 + 1))
      else none
    else
      some (.inr ())
def api_Interval_103_s82 (k0 : Nat) (a0 : List TInterval) (a1_0 : TStepControl) : Option (Int) :=
  (api_Interval_103_s82.l6 k0 a0 a1_0 k0 0 : Option ((Int) ⊕ (Unit))).bind fun j2 => match j2 with
  | .inl r => some r
  | .inr j2v =>
    some (-1)
def api_Interval_84_s82 (k0 : Nat) (a0 : List TInterval) (a1_0 : TStepControl) : Option (Bool) :=
  (api_Interval_103_s82 k0 a0 a1_0).bind fun t3 =>
  some (decide (t3 ≥ 0))
def control_Accept (k0 : Nat) (a0 : TStepControl) (a1 : TSegment) : Option (Bool) :=
  (api_Interval_84_s82 k0 a1.To a0).bind fun t4 =>
  (if ((!t4) == true) = true then api_Interval_84_s82 k0 a1.Tube a0 else some default).bind fun t5 =>
  some ((!t4) && (!t5))
def control_Grow (a0 : TStepControl) (a1 : Int) : Option (Int) :=
  some (mn (w_i64 (2 * a1)) a0.Most)
def control_Advance (k0 : Nat) (a0 : TTape) (a1 : List TInterval) (a2 : TStepRequest) : Option (TSegment × Int × Int) :=
  (step_IntervalStep k0 (⟨a0.N, a0.L, a0.Out⟩ : TTape) a1 (⟨a2.T, mn a2.H (w_i64 (a2.Last - a2.T))⟩ : TTimeStep) a2.Ctrl.Order).bind fun t6 =>
  (if ((!t6.2) == false) = true then control_Accept k0 (⟨a2.Ctrl.Order, a2.Ctrl.First, a2.Ctrl.Least, a2.Ctrl.Most, a2.Ctrl.Wide⟩ : TStepControl) (⟨t6.1.T, t6.1.H, t6.1.From, t6.1.Pre, t6.1.Tube, t6.1.To⟩ : TSegment) else some default).bind fun t8 =>
  if ((!t6.2) || (!t8)) = true then
    none
  else
    (if ((mn a2.H (w_i64 (a2.Last - a2.T))) == (mn a2.H (w_i64 (a2.Last - a2.T)))) = true then
      some (a2.H)
    else
      some (mn a2.H (w_i64 (a2.Last - a2.T)))).bind fun (j10 : Int) =>
    (control_Grow (⟨a2.Ctrl.Order, a2.Ctrl.First, a2.Ctrl.Least, a2.Ctrl.Most, a2.Ctrl.Wide⟩ : TStepControl) j10).bind fun t12 =>
    some ((⟨t6.1.T, t6.1.H, t6.1.From, t6.1.Pre, t6.1.Tube, t6.1.To⟩ : TSegment), t12, 0)
def flow_Integrate.l17 (k0 : Nat) (a0 : TTape) (a1 : List TInterval) (a2 : THorizon) (t3 : Bool) (t4 : Bool) (t5 : Bool) (t9 : Int) : Nat → Int → Int → (List TInterval) → (List TSegment) → Option ((List TSegment × Int) ⊕ (List TSegment))
  | 0, _, _, _, _ => none
  | k + 1, x13, x14, x15, x16 =>
    if (decide (x13 < a2.Last)) = true then
      (control_Advance k0 (⟨a0.N, a0.L, a0.Out⟩ : TTape) x15 (⟨(⟨a2.Ctrl.Order, a2.Ctrl.First, a2.Ctrl.Least, a2.Ctrl.Most, a2.Ctrl.Wide⟩ : TStepControl), x13, a2.Last, x14⟩ : TStepRequest)).bind fun t20 =>
      if t20.2.2 = 0 then
        if ((x16.length : Int) == 256) = true then
          some (.inl (([] : List TSegment), 140))
        else
          if x16.length < 1000000 then
            flow_Integrate.l17 k0 a0 a1 a2 t3 t4 t5 t9 k (w_i64 (t20.1.T + t20.1.H)) t20.2.1 t20.1.To (x16 ++ [(⟨t20.1.T, t20.1.H, t20.1.From, t20.1.Pre, t20.1.Tube, t20.1.To⟩ : TSegment)])
          else none
      else none
    else
      some (.inr (x16))
def flow_Integrate (k0 : Nat) (a0 : TTape) (a1 : List TInterval) (a2 : THorizon) : Option (List TSegment × Int) :=
  (control_Valid (⟨a2.Ctrl.Order, a2.Ctrl.First, a2.Ctrl.Least, a2.Ctrl.Most, a2.Ctrl.Wide⟩ : TStepControl)).bind fun t3 =>
  (if ((!t3) == false) = true then fixed_Valid a2.T else some default).bind fun t4 =>
  (if (((!t3) || (!t4)) == false) = true then fixed_Valid a2.Last else some default).bind fun t5 =>
  if ((((!t3) || (!t4)) || (!t5)) || (decide (a2.T ≥ a2.Last))) = true then
    some (([] : List TSegment), 1)
  else
    (control_Initial (⟨a2.Ctrl.Order, a2.Ctrl.First, a2.Ctrl.Least, a2.Ctrl.Most, a2.Ctrl.Wide⟩ : TStepControl) (w_i64 (a2.Last - a2.T))).bind fun t9 =>
    (flow_Integrate.l17 k0 a0 a1 a2 t3 t4 t5 t9 k0 a2.T t9 a1 ([] : List TSegment) : Option ((List TSegment × Int) ⊕ (List TSegment))).bind fun j11 => match j11 with
    | .inl r => some r
    | .inr j11v =>
      some (j11v, 0)
def ode_arity (a0 : Int) : Option (Int) :=
  if ((decide (a0 ≥ 1)) && (decide (a0 ≤ 3))) = true then
    some 0
  else
    if ((decide (a0 ≥ 4)) && (decide (a0 ≤ 6))) = true then
      some 1
    else
      if ((decide (a0 ≥ 7)) && (decide (a0 ≤ 10))) = true then
        some 2
      else
        some (-1)
def ode_exprLen.l8 (k0 : Nat) (a0 : List TNode) : Nat → Int → Int → Option ((Int) ⊕ (Unit))
  | 0, _, _ => none
  | k + 1, x6, x7 =>
    if (decide (x7 < (a0.length : Int))) = true then
      if 0 ≤ x7 ∧ x7 < (a0.length : Int) then
        (a0[x7.toNat]?).bind fun t12 =>
        (ode_arity t12.Op).bind fun t14 =>
        if ((w_i64 (x6 + (w_i64 (t14 - 1)))) == 0) = true then
          some (.inl (w_i64 (x7 + 1)))
        else
          ode_exprLen.l8 k0 a0 k (w_i64 (x6 + (w_i64 (t14 - 1)))) (w_i64 (x7 + 1))
      else none
    else
      some (.inr ())
def ode_exprLen (k0 : Nat) (a0 : List TNode) : Option (Int) :=
  (ode_exprLen.l8 k0 a0 k0 1 0 : Option ((Int) ⊕ (Unit))).bind fun j3 => match j3 with
  | .inl r => some r
  | .inr j3v =>
    some (w_i64 ((a0.length : Int) + 1))
def ode_Operands.l14 (k0 : Nat) (a0 : List TNode) (t9 : TNode) (t10 : Int) : Nat → (List (List TNode)) → Int → Int → Option (List (List TNode))
  | 0, _, _, _ => none
  | k + 1, x11, x12, x13 =>
    if (decide (x13 < t10)) = true then
      if 0 ≤ x12 ∧ x12 ≤ (a0.length : Int) then
        (ode_exprLen k0 (a0.drop x12.toNat)).bind fun t18 =>
        if 0 ≤ x12 ∧ x12 ≤ w_i64 (x12 + t18) ∧ w_i64 (x12 + t18) ≤ (a0.length : Int) then
          if x11.length < 1000000 then
            ode_Operands.l14 k0 a0 t9 t10 k (x11 ++ [((a0.take (w_i64 (x12 + t18)).toNat).drop x12.toNat)]) (w_i64 (x12 + t18)) (w_i64 (x13 + 1))
          else none
        else none
      else none
    else
      some (x11)
def ode_Operands (k0 : Nat) (a0 : List TNode) : Option (List (List TNode)) :=
  (if 0 ≤ (0 : Int) ∧ (0 : Int) < (a0.length : Int) then
    (a0[(0 : Int).toNat]?).bind fun t9 =>
    (ode_arity t9.Op).bind fun t10 =>
    ode_Operands.l14 k0 a0 t9 t10 k0 ([] : List (List TNode)) 1 0
  else none).bind fun (j5 : List (List TNode)) =>
  some j5
def tape_builder_emit_m (a0_0 : List TInstruction) (a0_1 : List (TInstruction × Int)) (a1 : TInstruction) : Option (Int × List TInstruction × (List (TInstruction × Int))) :=
  (some ((mget a0_1 (⟨a1.Op, a1.A, a1.B, (⟨a1.C.Lo, a1.C.Hi⟩ : TInterval)⟩ : TInstruction)).getD 0)).bind fun z3 =>
  if ((mget a0_1 (⟨a1.Op, a1.A, a1.B, (⟨a1.C.Lo, a1.C.Hi⟩ : TInterval)⟩ : TInstruction)).isSome) = true then
    some (z3, a0_0, a0_1)
  else
    if a0_0.length < 1000000 then
      if (mget a0_1 (⟨a1.Op, a1.A, a1.B, (⟨a1.C.Lo, a1.C.Hi⟩ : TInterval)⟩ : TInstruction)).isSome = false then
        some ((a0_0.length : Int), (a0_0 ++ [(⟨a1.Op, a1.A, a1.B, (⟨a1.C.Lo, a1.C.Hi⟩ : TInterval)⟩ : TInstruction)]), (a0_1 ++ [((⟨a1.Op, a1.A, a1.B, (⟨a1.C.Lo, a1.C.Hi⟩ : TInterval)⟩ : TInstruction), (a0_0.length : Int))]))
      else none
    else none
def tape_Compile_1_m.l24 (k0 : Nat) (rec : (List TNode) → (List TInstruction) → (List (TInstruction × Int)) → Option (Int × List TInstruction × (List (TInstruction × Int)))) (a0 : List TNode) (q1_0_0 : List TInstruction) (q1_0_1 : List (TInstruction × Int)) (t4 : TNode) (t7 : TNode) (j9 : Int) (t18 : List (List TNode)) : Nat → (List TInstruction) → Int → Int → (List (TInstruction × Int)) → Int → Option (List TInstruction × Int × Int × (List (TInstruction × Int)))
  | 0, _, _, _, _, _ => none
  | k + 1, x19, x20, x21, x22, x23 =>
    if (decide (x23 < (t18.length : Int))) = true then
      (if 0 ≤ x23 ∧ x23 < (t18.length : Int) then
        (t18[x23.toNat]?).bind fun t34 =>
        (rec t34 x19 x22).bind fun t36 =>
        if (x23 == 0) = true then
          some (t36.2.1, t36.1, x21, t36.2.2)
        else
          some (t36.2.1, x20, t36.1, t36.2.2)
      else none).bind fun (j30 : List TInstruction × Int × Int × (List (TInstruction × Int))) =>
      tape_Compile_1_m.l24 k0 rec a0 q1_0_0 q1_0_1 t4 t7 j9 t18 k j30.1 j30.2.1 j30.2.2.1 j30.2.2.2 (w_i64 (x23 + 1))
    else
      some (x19, x20, x21, x22)
def tape_Compile_1_m.body (k0 : Nat) (rec : (List TNode) → (List TInstruction) → (List (TInstruction × Int)) → Option (Int × List TInstruction × (List (TInstruction × Int)))) (a0 : List TNode) (q1_0_0 : List TInstruction) (q1_0_1 : List (TInstruction × Int)) : Option (Int × List TInstruction × (List (TInstruction × Int))) :=
  if 0 ≤ (0 : Int) ∧ (0 : Int) < (a0.length : Int) then
    (a0[(0 : Int).toNat]?).bind fun t4 =>
    if 0 ≤ (0 : Int) ∧ (0 : Int) < (a0.length : Int) then
      (a0[(0 : Int).toNat]?).bind fun t7 =>
      (if (t4.Op == 2) = true then
        if 0 ≤ (0 : Int) ∧ (0 : Int) < (a0.length : Int) then
          (a0[(0 : Int).toNat]?).bind fun t45 =>
          some (t45.N)
        else none
      else
        some (0)).bind fun (j9 : Int) =>
      ((ode_Operands k0 a0).bind fun t18 =>
      tape_Compile_1_m.l24 k0 rec a0 q1_0_0 q1_0_1 t4 t7 j9 t18 k0 q1_0_0 j9 0 q1_0_1 0).bind fun (j14 : List TInstruction × Int × Int × (List (TInstruction × Int))) =>
      (tape_builder_emit_m j14.1 j14.2.2.2 (⟨t4.Op, j14.2.1, j14.2.2.1, (⟨t7.C.Lo, t7.C.Hi⟩ : TInterval)⟩ : TInstruction)).bind fun t16 =>
      some (t16.1, t16.2.1, t16.2.2)
    else none
  else none
def tape_Compile_1_m : Nat → (List TNode) → (List TInstruction) → (List (TInstruction × Int)) → Option (Int × List TInstruction × (List (TInstruction × Int)))
  | 0, _, _, _ => none
  | k0 + 1, a0, q1_0_0, q1_0_1 => tape_Compile_1_m.body k0 (tape_Compile_1_m k0) a0 q1_0_0 q1_0_1
def tape_Compile.l20 (k0 : Nat) (a0 : TSystem) : Nat → (List TInstruction) → (List Int) → (List (TInstruction × Int)) → Int → Option (List TInstruction × List Int × (List (TInstruction × Int)))
  | 0, _, _, _, _ => none
  | k + 1, x16, x17, x18, x19 =>
    if (decide (x19 < (a0.F.length : Int))) = true then
      if 0 ≤ x19 ∧ x19 < (a0.F.length : Int) then
        (a0.F[x19.toNat]?).bind fun t24 =>
        (tape_Compile_1_m k0 t24 x16 x18).bind fun t26 =>
        if x17.length < 1000000 then
          tape_Compile.l20 k0 a0 k t26.2.1 (x17 ++ [t26.1]) t26.2.2 (w_i64 (x19 + 1))
        else none
      else none
    else
      some (x16, x17, x18)
def tape_Compile (k0 : Nat) (a0 : TSystem) : Option (TTape) :=
  (tape_Compile.l20 k0 a0 k0 ([] : List TInstruction) ([] : List Int) ([] : List (TInstruction × Int)) 0).bind fun (j9 : List TInstruction × List Int × (List (TInstruction × Int))) =>
  if (decide ((j9.1.length : Int) > 400)) = true then
    some (⟨0, ([] : List TInstruction), ([] : List Int)⟩ : TTape)
  else
    some (⟨(a0.F.length : Int), j9.1, j9.2.1⟩ : TTape)
def armillarytop_drift (a0 : TInterval) : Option (TSystem) :=
  some (⟨([(⟨#[120]⟩ : ByteArray)] : List ByteArray), ([([(⟨1, 0, a0⟩ : TNode)] : List TNode)] : List (List TNode))⟩ : TSystem)
def armillaryref02_Number (a0 : Int) : Option (Bool) :=
  some ((decide (a0 > (-2147483648))) && (decide (a0 < 2147483648)))
def armillaryref02_Entire : Option (TInterval) :=
  some (⟨(-2147483648), 2147483648⟩ : TInterval)
def armillaryref02_New (a0 : Int) (a1 : Int) : Option (TInterval) :=
  (armillaryref02_Number a0).bind fun t3 =>
  (if ((!t3) == false) = true then armillaryref02_Number a1 else some default).bind fun t4 =>
  if ((!t3) || (!t4)) = true then
    (armillaryref02_Entire).bind fun t6 =>
    some t6
  else
    some (⟨a0, a1⟩ : TInterval)
def armillaryref02_Point (a0 : Int) : Option (TInterval) :=
  (armillaryref02_New a0 a0).bind fun t3 =>
  some t3
def armillaryref14_Control (a0 : Int) : Option (TStepControl) :=
  some (⟨w_i64 (1 + (w_i64 (Int.tmod a0 3))), 4096, 1024, 16384, 16777216⟩ : TStepControl)
def armillarytop_trajectory24 (k0 : Nat) (a0 : Int) (a1 : TBody) : Option (TTrajectory × Bool) :=
  (armillaryref14_Control 1).bind fun t3 =>
  (armillaryref02_Point (w_i64 ((w_i64 a1.V) * 16))).bind fun t5 =>
  (armillarytop_drift t5).bind fun t6 =>
  (tape_Compile k0 t6).bind fun t7 =>
  (armillaryref02_Point (w_i64 (Int.tmod a1.X 4194304))).bind fun t8 =>
  (flow_Integrate k0 t7 ([t8] : List TInterval) (⟨t3, 0, 65536⟩ : THorizon)).bind fun t9 =>
  some ((⟨a0, t9.1⟩ : TTrajectory), ((t9.2 == 0) && (decide ((t9.1.length : Int) > 0))))
def screening_check.l10 (k0 : Nat) (a0 : List TTrajectory) : Nat → Int → Int → Option ((Int) ⊕ (Unit))
  | 0, _, _ => none
  | k + 1, x8, x9 =>
    if (decide (x9 < (a0.length : Int))) = true then
      if 0 ≤ x9 ∧ x9 < (a0.length : Int) then
        (a0[x9.toNat]?).bind fun t14 =>
        if ((decide (t14.Id ≤ x8)) || (decide (t14.Id > 1000000))) = true then
          some (.inl 1)
        else
          screening_check.l10 k0 a0 k t14.Id (w_i64 (x9 + 1))
      else none
    else
      some (.inr ())
def screening_check (k0 : Nat) (a0 : List TTrajectory) : Option (Int) :=
  if (decide ((a0.length : Int) > 32)) = true then
    some 2
  else
    (screening_check.l10 k0 a0 k0 (-1) 0 : Option ((Int) ⊕ (Unit))).bind fun j5 => match j5 with
    | .inl r => some r
    | .inr j5v =>
      some 0
def approach_end (a0 : TSegment) : Option (Int) :=
  some (w_i64 (a0.T + a0.H))
def box_SquaredDistance.l9 (k0 : Nat) (a0 : List TInterval) (a1 : List TInterval) (t5 : TInterval) (t6 : TInterval) (x7 : Int) (x8 : Int) : Option (TInterval) :=
  some (⟨x7, x8⟩ : TInterval)
def box_SquaredDistance (k0 : Nat) (a0 : List TInterval) (a1 : List TInterval) : Option (TInterval) :=
  if a0.length = 1 then
    (a0[0]?).bind fun t5 =>
    (a1[0]?).bind fun t6 =>
    (interval_Sub t5 t6).bind fun t13 =>
    (interval_Square t13).bind fun t14 =>
    (interval_Add (⟨0, 0⟩ : TInterval) t14).bind fun t15 =>
    box_SquaredDistance.l9 k0 a0 a1 t5 t6 t15.Lo t15.Hi
  else none
def box_Separated (k0 : Nat) (a0 : List TInterval) (a1 : List TInterval) (a2 : Int) : Option (Bool) :=
  (box_SquaredDistance k0 a0 a1).bind fun t3 =>
  (fixed_Mul a2 a2).bind fun t5 =>
  (interval_IsEntire t3).bind fun t7 =>
  some ((!t7) && (decide (t3.Lo > t5.2)))
def approach_separated.l7 (k0 : Nat) (a0 : List TInterval) (a1 : List TInterval) (a2 : Int) : Nat → Int → Option ((Bool) ⊕ (Unit))
  | 0, _ => none
  | k + 1, x6 =>
    if (decide (x6 < (a0.length : Int))) = true then
      if 0 ≤ x6 ∧ x6 < (a0.length : Int) then
        (a0[x6.toNat]?).bind fun t11 =>
        if 0 ≤ x6 ∧ x6 < (a1.length : Int) then
          (a1[x6.toNat]?).bind fun t14 =>
          (interval_IsEntire t11).bind fun t16 =>
          (if ((!t16) == true) = true then interval_IsEntire t14 else some default).bind fun t17 =>
          if (((!t16) && (!t17)) && (decide ((mx (w_i64 (t11.Lo - t14.Hi)) (w_i64 (t14.Lo - t11.Hi))) > a2))) = true then
            some (.inl true)
          else
            approach_separated.l7 k0 a0 a1 a2 k (w_i64 (x6 + 1))
        else none
      else none
    else
      some (.inr ())
def approach_separated (k0 : Nat) (a0 : List TInterval) (a1 : List TInterval) (a2 : Int) : Option (Bool) :=
  (approach_separated.l7 k0 a0 a1 a2 k0 0 : Option ((Bool) ⊕ (Unit))).bind fun j2 => match j2 with
  | .inl r => some r
  | .inr j2v =>
    (box_Separated k0 a0 a1 a2).bind fun t4 =>
    some t4
def approach_overlaps_1_m.l15 (k0 : Nat) (q0 : List TSegment) (q1 : List TSegment) (x3 : Int) (x4 : Int) (t9 : TSegment) (j11 : Int) (next1 : Int → Int → Option (List (Nat × Nat))) : Nat → Int → Option (List (Nat × Nat))
  | 0, _ => none
  | k + 1, x14 =>
    if (decide (x14 < ((q1.drop j11.toNat).length : Int))) = true then
      if 0 ≤ x14 ∧ x14 < ((q1.drop j11.toNat).length : Int) then
        ((q1.drop j11.toNat)[x14.toNat]?).bind fun t19 =>
        (approach_end (⟨t9.T, t9.H, t9.From, t9.Pre, t9.Tube, t9.To⟩ : TSegment)).bind fun t21 =>
        if (decide (t19.T > t21)) = true then
          next1 j11 (w_i64 (x4 + 1))
        else
          (approach_end (⟨t9.T, t9.H, t9.From, t9.Pre, t9.Tube, t9.To⟩ : TSegment)).bind fun t24 =>
          (approach_end (⟨t19.T, t19.H, t19.From, t19.Pre, t19.Tube, t19.To⟩ : TSegment)).bind fun t25 =>
          (approach_overlaps_1_m.l15 k0 q0 q1 x3 x4 t9 j11 next1 k (w_i64 (x14 + 1))).bind fun r =>
          some ((x4.toNat, j11.toNat + x14.toNat) :: r)
      else none
    else
      next1 j11 (w_i64 (x4 + 1))
def approach_overlaps_1_m.l31 (k0 : Nat) (q0 : List TSegment) (q1 : List TSegment) (x3 : Int) (x4 : Int) (t9 : TSegment) : Nat → Int → Option (Int)
  | 0, _ => none
  | k + 1, x30 =>
    (some (decide (x30 < (q1.length : Int)))).bind fun z33 =>
    if z33 = true then
      if 0 ≤ x30 ∧ x30 < (q1.length : Int) then
        (q1[x30.toNat]?).bind fun t35 =>
        (approach_end t35).bind fun t37 =>
        if (decide (t37 < t9.T)) = true then
          approach_overlaps_1_m.l31 k0 q0 q1 x3 x4 t9 k (w_i64 (x30 + 1))
        else
          some (x30)
      else none
    else
    if z33 = false then
      some (x30)
    else
    none
def approach_overlaps_1_m.l5 (k0 : Nat) (q0 : List TSegment) (q1 : List TSegment) : Nat → Int → Int → Option (List (Nat × Nat))
  | 0, _, _ => none
  | k + 1, x3, x4 =>
    if (decide (x4 < (q0.length : Int))) = true then
      if 0 ≤ x4 ∧ x4 < (q0.length : Int) then
        (q0[x4.toNat]?).bind fun t9 =>
        (approach_overlaps_1_m.l31 k0 q0 q1 x3 x4 t9 k0 x3).bind fun (j11 : Int) =>
        if 0 ≤ j11 ∧ j11 ≤ (q1.length : Int) then
          approach_overlaps_1_m.l15 k0 q0 q1 x3 x4 t9 j11 (approach_overlaps_1_m.l5 k0 q0 q1 k) k0 0
        else none
      else none
    else
      some []
def approach_overlaps_1_m (k0 : Nat) (q0 : List TSegment) (q1 : List TSegment) : Option (List (Nat × Nat)) :=
  approach_overlaps_1_m.l5 k0 q0 q1 k0 0 0
def approach_minimum_1_m (a0 : TInterval) (q0 : TInterval) : Option (TInterval × TInterval) :=
  ((interval_IsEntire a0).bind fun t8 =>
  if t8 = true then
    some (0, 2147483648)
  else
    some (a0.Lo, a0.Hi)).bind fun (j4 : Int × Int) =>
  some ((⟨mn q0.Lo j4.1, mn q0.Hi j4.2⟩ : TInterval), (⟨mn q0.Lo j4.1, mn q0.Hi j4.2⟩ : TInterval))
def approach_MinDistance.l14 (k0 : Nat) (a0 : List TSegment) (a1 : List TSegment) (a2 : Int) : List (Nat × Nat) → Int → Int → Int → Int → Bool → Option (TInterval × Bool)
  | [], x9, x10, x11, x12, x13 =>
    if (!x13) = true then
      some ((⟨x9, x10⟩ : TInterval), false)
    else
      (interval_New x9 x10).bind fun t24 =>
      some (t24, true)
  | z :: zs, x9, x10, x11, x12, x13 =>
    (a0[z.1]?).bind fun t7 =>
    (a1[z.2]?).bind fun t8 =>
    if 0 ≤ a2 ∧ a2 ≤ (t7.Tube.length : Int) then
      if 0 ≤ a2 ∧ a2 ≤ (t8.Tube.length : Int) then
        (box_SquaredDistance k0 (t7.Tube.take a2.toNat) (t8.Tube.take a2.toNat)).bind fun t19 =>
        (approach_minimum_1_m t19 (⟨x11, x12⟩ : TInterval)).bind fun t20 =>
        approach_MinDistance.l14 k0 a0 a1 a2 zs t20.1.Lo t20.1.Hi t20.2.Lo t20.2.Hi true
      else none
    else none
def approach_MinDistance (k0 : Nat) (a0 : List TSegment) (a1 : List TSegment) (a2 : Int) : Option (TInterval × Bool) :=
  (approach_overlaps_1_m k0 a0 a1).bind fun t6 =>
  approach_MinDistance.l14 k0 a0 a1 a2 t6 0 0 2147483648 2147483648 false
def approach_close_1_m.l7 (k0 : Nat) (q0 : List TSegment) (q1 : List TSegment) (q2 : TSeparation) : List (Nat × Nat) → Option (List (TInterval))
  | [] =>
    some []
  | z :: zs =>
    (q0[z.1]?).bind fun t5 =>
    (q1[z.2]?).bind fun t6 =>
    if 0 ≤ q2.Pos ∧ q2.Pos ≤ (t5.Tube.length : Int) then
      if 0 ≤ q2.Pos ∧ q2.Pos ≤ (t6.Tube.length : Int) then
        (approach_separated k0 (t5.Tube.take q2.Pos.toNat) (t6.Tube.take q2.Pos.toNat) q2.D).bind fun t12 =>
        (some (!t12)).bind fun z13 =>
        if z13 = true then
          (approach_close_1_m.l7 k0 q0 q1 q2 zs).bind fun r =>
          some ((⟨(mx t5.T t6.T), (mn (w_i64 (t5.T + t5.H)) (w_i64 (t6.T + t6.H)))⟩ : TInterval) :: r)
        else
        if z13 = false then
          approach_close_1_m.l7 k0 q0 q1 q2 zs
        else
        none
      else none
    else none
def approach_close_1_m (k0 : Nat) (q0 : List TSegment) (q1 : List TSegment) (q2 : TSeparation) : Option (List (TInterval)) :=
  (approach_overlaps_1_m k0 q0 q1).bind fun t4 =>
  approach_close_1_m.l7 k0 q0 q1 q2 t4
def approach_Classify.l5 (k0 : Nat) (a0 : List TSegment) (a1 : List TSegment) (a2 : TSeparation) : List (TInterval) → Option (Int)
  | [] =>
    some 1
  | z :: zs =>
    (approach_MinDistance k0 a0 a1 a2.Pos).bind fun t7 =>
    (fixed_Mul a2.D a2.D).bind fun t9 =>
    (interval_IsEntire (⟨t7.1.Lo, t7.1.Hi⟩ : TInterval)).bind fun t11 =>
    if ((!t11) && (decide (t7.1.Hi < t9.1))) = true then
      some (-1)
    else
      some 0
def approach_Classify (k0 : Nat) (a0 : List TSegment) (a1 : List TSegment) (a2 : TSeparation) : Option (Int) :=
  (approach_close_1_m k0 a0 a1 a2).bind fun t4 =>
  approach_Classify.l5 k0 a0 a1 a2 t4
def screening_verdict (k0 : Nat) (a0 : TTrajectory) (a1 : TTrajectory) (a2 : TSeparation) : Option (TVerdict) :=
  (approach_MinDistance k0 a0.Segs a1.Segs a2.Pos).bind fun t3 =>
  (if (!t3.2) = true then
    (interval_Entire).bind fun t11 =>
    some (t11.Lo, t11.Hi)
  else
    some (t3.1.Lo, t3.1.Hi)).bind fun (j6 : Int × Int) =>
  (approach_Classify k0 a0.Segs a1.Segs a2).bind fun t8 =>
  some (⟨a0.Id, a1.Id, t8, (⟨j6.1, j6.2⟩ : TInterval)⟩ : TVerdict)
def screening_Screen_1_m (k0 : Nat) (a0 : TTrajectory) (a1 : TTrajectory) (q0 : TSeparation) : Option (TVerdict × Int) :=
  (screening_verdict k0 (⟨a0.Id, a0.Segs⟩ : TTrajectory) (⟨a1.Id, a1.Segs⟩ : TTrajectory) q0).bind fun t3 =>
  some ((⟨t3.A, t3.B, t3.Kind, (⟨t3.Dist.Lo, t3.Dist.Hi⟩ : TInterval)⟩ : TVerdict), 0)
def screening_pairs_s50.l25 (k0 : Nat) (a0 : List TTrajectory) (a1_0 : TSeparation) (t3 : Int) (x11 : List TVerdict) (x12 : Int) (t20 : TTrajectory) : Nat → (List TVerdict) → Int → Option (((List TVerdict × Int) ⊕ (List TVerdict)) ⊕ (List TVerdict))
  | 0, _, _ => none
  | k + 1, x23, x24 =>
    if (decide (x24 < ((a0.drop (w_i64 (x12 + 1)).toNat).length : Int))) = true then
      if 0 ≤ x24 ∧ x24 < ((a0.drop (w_i64 (x12 + 1)).toNat).length : Int) then
        ((a0.drop (w_i64 (x12 + 1)).toNat)[x24.toNat]?).bind fun t29 =>
        (screening_Screen_1_m k0 (⟨t20.Id, t20.Segs⟩ : TTrajectory) (⟨t29.Id, t29.Segs⟩ : TTrajectory) a1_0).bind fun t31 =>
        if (t31.2 != 0) = true then
          some (.inl (.inl (([] : List TVerdict), t31.2)))
        else
          if x23.length < 1000000 then
            screening_pairs_s50.l25 k0 a0 a1_0 t3 x11 x12 t20 k (x23 ++ [(⟨t31.1.A, t31.1.B, t31.1.Kind, (⟨t31.1.Dist.Lo, t31.1.Dist.Hi⟩ : TInterval)⟩ : TVerdict)]) (w_i64 (x24 + 1))
          else none
      else none
    else
      some (.inr (x23))
def screening_pairs_s50.l13 (k0 : Nat) (a0 : List TTrajectory) (a1_0 : TSeparation) (t3 : Int) : Nat → (List TVerdict) → Int → Option ((List TVerdict × Int) ⊕ (List TVerdict))
  | 0, _, _ => none
  | k + 1, x11, x12 =>
    if (decide (x12 < (a0.length : Int))) = true then
      (if 0 ≤ x12 ∧ x12 < (a0.length : Int) then
        (a0[x12.toNat]?).bind fun t20 =>
        if 0 ≤ w_i64 (x12 + 1) ∧ w_i64 (x12 + 1) ≤ (a0.length : Int) then
          screening_pairs_s50.l25 k0 a0 a1_0 t3 x11 x12 t20 k0 x11 0
        else none
      else none : Option (((List TVerdict × Int) ⊕ (List TVerdict)) ⊕ (List TVerdict))).bind fun j16 => match j16 with
      | .inl r => some r
      | .inr j16v =>
        screening_pairs_s50.l13 k0 a0 a1_0 t3 k j16v (w_i64 (x12 + 1))
    else
      some (.inr (x11))
def screening_pairs_s50 (k0 : Nat) (a0 : List TTrajectory) (a1_0 : TSeparation) : Option (List TVerdict × Int) :=
  (screening_check k0 a0).bind fun t3 =>
  if (t3 != 0) = true then
    some (([] : List TVerdict), t3)
  else
    (screening_pairs_s50.l13 k0 a0 a1_0 t3 k0 ([] : List TVerdict) 0 : Option ((List TVerdict × Int) ⊕ (List TVerdict))).bind fun j8 => match j8 with
    | .inl r => some r
    | .inr j8v =>
      some (j8v, 0)
def screening_Screen (k0 : Nat) (a0 : List TTrajectory) (a1 : TSeparation) : Option (List TVerdict × Int) :=
  (screening_pairs_s50 k0 a0 a1).bind fun t3 =>
  some (t3.1, t3.2)
def armillarytop_sanity24 (k0 : Nat)  : Option (Bool) :=
  (armillarytop_trajectory24 k0 1 (⟨0, 4096⟩ : TBody)).bind fun t3 =>
  (armillarytop_trajectory24 k0 2 (⟨262144, (-4096)⟩ : TBody)).bind fun t5 =>
  (screening_Screen k0 ([(⟨t3.1.Id, t3.1.Segs⟩ : TTrajectory), (⟨t5.1.Id, t5.1.Segs⟩ : TTrajectory)] : List TTrajectory) (⟨1, 65536⟩ : TSeparation)).bind fun t7 =>
  (screening_Screen k0 ([(⟨t3.1.Id, t3.1.Segs⟩ : TTrajectory), (⟨t5.1.Id, t5.1.Segs⟩ : TTrajectory)] : List TTrajectory) (⟨1, 327680⟩ : TSeparation)).bind fun t9 =>
  if (((((t3.2 && t5.2) && (t7.2 == 0)) && (t9.2 == 0)) && ((t7.1.length : Int) == 1)) == true) = true → 0 ≤ (0 : Int) ∧ (0 : Int) < (t7.1.length : Int) then
    (if (((((t3.2 && t5.2) && (t7.2 == 0)) && (t9.2 == 0)) && ((t7.1.length : Int) == 1)) == true) = true then t7.1[(0 : Int).toNat]? else some default).bind fun t12 =>
    (some (((((t3.2 && t5.2) && (t7.2 == 0)) && (t9.2 == 0)) && ((t7.1.length : Int) == 1)) && (t12.Kind == 1))).bind fun z13 =>
    if ((z13 && ((t9.1.length : Int) == 1)) == true) = true → 0 ≤ (0 : Int) ∧ (0 : Int) < (t9.1.length : Int) then
      (if ((z13 && ((t9.1.length : Int) == 1)) == true) = true then t9.1[(0 : Int).toNat]? else some default).bind fun t15 =>
      some ((z13 && ((t9.1.length : Int) == 1)) && (t15.Kind == (-1)))
    else none
  else none
def armillarytop_distance24 (a0 : TBody) (a1 : TBody) (a2 : Int) : Option (Int) :=
  (some (w_i64 ((w_i64 ((w_i64 (Int.tmod a0.X 4194304)) - (w_i64 (Int.tmod a1.X 4194304)))) * 65535))).bind fun z3 =>
  (some (w_i64 (0 - (w_i64 (z3 + (w_i64 ((w_i64 ((w_i64 ((w_i64 a0.V) - (w_i64 a1.V))) * 16)) * (w_i64 a2)))))))).bind fun z5 =>
  (some (mx (w_i64 (z3 + (w_i64 ((w_i64 ((w_i64 ((w_i64 a0.V) - (w_i64 a1.V))) * 16)) * (w_i64 a2))))) z5)).bind fun z6 =>
  some z6
def armillarytop_TopConflictsAreReal (k0 : Nat) (a0 : TBody) (a1 : TBody) (a2 : Int) : Option (Bool) :=
  (armillarytop_sanity24 k0).bind fun t3 =>
  (armillarytop_trajectory24 k0 1 a0).bind fun t5 =>
  (armillarytop_trajectory24 k0 2 a1).bind fun t7 =>
  if ((!t5.2) || (!t7.2)) = true then
    some false
  else
    (approach_Classify k0 t5.1.Segs t7.1.Segs (⟨1, w_i64 (Int.tmod a2 4194304)⟩ : TSeparation)).bind fun t12 =>
    if (t12 != (-1)) = true then
      some t3
    else
      (some (w_i64 ((w_i64 ((w_i64 (Int.tmod a0.X 4194304)) - (w_i64 (Int.tmod a1.X 4194304)))) + (w_i64 ((w_i64 ((w_i64 a0.V) - (w_i64 a1.V))) * 16))))).bind fun z16 =>
      (some ((decide ((w_i64 ((w_i64 (Int.tmod a0.X 4194304)) - (w_i64 (Int.tmod a1.X 4194304)))) ≤ 0)) && (decide (z16 ≥ 0)))).bind fun z18 =>
      (some (z18 || ((decide ((w_i64 ((w_i64 (Int.tmod a0.X 4194304)) - (w_i64 (Int.tmod a1.X 4194304)))) ≥ 0)) && (decide (z16 ≤ 0))))).bind fun z19 =>
      (if ((t3 == true) && (z19 == false)) = true then armillarytop_distance24 a0 a1 0 else some default).bind fun t21 =>
      (if ((t3 == true) && ((z19 || (decide (t21 < (w_i64 ((w_i64 (Int.tmod a2 4194304)) * 65535))))) == false)) = true then armillarytop_distance24 a0 a1 65535 else some default).bind fun t22 =>
      (some (t3 && ((z19 || (decide (t21 < (w_i64 ((w_i64 (Int.tmod a2 4194304)) * 65535))))) || (decide (t22 < (w_i64 ((w_i64 (Int.tmod a2 4194304)) * 65535))))))).bind fun z23 =>
      some z23
def armillarytop_TopConflictsAreReal.Pure : Prop :=
  ∀ (c0_0 : Int) (c0_1 : Int) (c1_0 : Int) (c1_1 : Int) (c2_0 : Int), ((-2147483648) ≤ c0_0 ∧ c0_0 ≤ 2147483647) → ((-32768) ≤ c0_1 ∧ c0_1 ≤ 32767) → ((-2147483648) ≤ c1_0 ∧ c1_0 ≤ 2147483647) → ((-32768) ≤ c1_1 ∧ c1_1 ≤ 32767) → (0 ≤ c2_0 ∧ c2_0 ≤ 4294967295) → ∃ k0 : Nat, armillarytop_TopConflictsAreReal k0 (⟨c0_0, c0_1⟩ : TBody) (⟨c1_0, c1_1⟩ : TBody) c2_0 = some true
end Go.Proofs.YtpmgpcklieincaaGreatDoor
