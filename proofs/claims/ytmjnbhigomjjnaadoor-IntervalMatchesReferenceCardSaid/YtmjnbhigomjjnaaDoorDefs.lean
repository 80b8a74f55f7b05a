/- The program's functions as plain Lean functions, printed out of the program by a program of this session. -/
import GoSem.Core.View
set_option linter.unusedVariables false
namespace Go.Proofs.YtmjnbhigomjjnaaDoor
/-! Words of the printed functions. -/
abbrev w_i64 (n : Int) : Int := Go.IntKind.wrap .i64 n
abbrev w_i32 (n : Int) : Int := Go.IntKind.wrap .i32 n
abbrev w_i16 (n : Int) : Int := Go.IntKind.wrap .i16 n
abbrev w_i8 (n : Int) : Int := Go.IntKind.wrap .i8 n
abbrev w_u64 (n : Int) : Int := Go.IntKind.wrap .u64 n
abbrev w_u32 (n : Int) : Int := Go.IntKind.wrap .u32 n
abbrev w_u16 (n : Int) : Int := Go.IntKind.wrap .u16 n
abbrev w_u8 (n : Int) : Int := Go.IntKind.wrap .u8 n
abbrev mn (x y : Int) : Int := if y < x then y else x
abbrev mx (x y : Int) : Int := if y > x then y else x
def b_and (k : Go.IntKind) (x y : Int) : Int := k.wrap ((BitVec.ofInt k.bits x) &&& (BitVec.ofInt k.bits y)).toNat
def b_or (k : Go.IntKind) (x y : Int) : Int := k.wrap ((BitVec.ofInt k.bits x) ||| (BitVec.ofInt k.bits y)).toNat
def b_xor (k : Go.IntKind) (x y : Int) : Int := k.wrap ((BitVec.ofInt k.bits x) ^^^ (BitVec.ofInt k.bits y)).toNat
def b_andNot (k : Go.IntKind) (x y : Int) : Int := k.wrap ((BitVec.ofInt k.bits x) &&& ~~~(BitVec.ofInt k.bits y)).toNat
def strAt (s : ByteArray) (i : Int) : Option Int := if h : 0 ≤ i ∧ i < s.size then some ((s[i.toNat]'(by omega)).toNat : Int) else none
structure TInterval where
  Lo : Int
  Hi : Int
deriving Inhabited, DecidableEq
structure TOperands where
  A : TInterval
  B : TInterval
  N : Int
  D : Int
deriving Inhabited, DecidableEq
structure TA2_Int where
  e0 : Int
  e1 : Int
deriving Inhabited, DecidableEq

/-! armillary/interval.Entire: function 50 -/
def interval_Entire : Option (TInterval) :=
  some (⟨(-2147483648), 2147483648⟩ : TInterval)

/-! armillary/interval.IsEntire: function 38 -/
def interval_IsEntire (a0 : TInterval) : Option (Bool) :=
  (interval_Entire).bind fun t3 =>
  some ((a0.Lo == t3.Lo) && ((a0.Hi == t3.Hi) && true))

/-! armillary/interval.New: function 54 -/
def interval_New (a0 : Int) (a1 : Int) : Option (TInterval) :=
  (some (((decide (a0 ≤ (-2147483648))) || (decide (a1 ≥ 2147483648))) || (decide (a0 ≥ 2147483648)))).bind fun z3 =>
  if (z3 || (decide (a1 ≤ (-2147483648)))) = true then
    (interval_Entire).bind fun t5 =>
    some t5
  else
    some (⟨a0, a1⟩ : TInterval)

/-! armillary/interval.Add: function 14 -/
def interval_Add (a0 : TInterval) (a1 : TInterval) : Option (TInterval) :=
  (interval_IsEntire a0).bind fun t3 =>
  (if (t3 == false) = true then interval_IsEntire a1 else some default).bind fun t4 =>
  if (t3 || t4) = true then
    (interval_Entire).bind fun t6 =>
    some t6
  else
    (interval_New (w_i64 (a0.Lo + a1.Lo)) (w_i64 (a0.Hi + a1.Hi))).bind fun t8 =>
    some t8

/-! armillary/interval.side: function 64 -/
def interval_side (a0 : TInterval) : Option (Int) :=
  if (decide (a0.Hi ≤ 0)) = true then
    some 0
  else
    if (decide (a0.Lo ≥ 0)) = true then
      some 2
    else
      some 1

/-! armillary/fixed.divide$1: function 78 -/
def fixed_divide_1 (a0 : Int) : Option (Int) :=
  some (mn a0 1)

/-! armillary/fixed.floorCeil[int64]: function 77 -/
def fixed_floorCeil_int64_s78 (a0 : Int) (a1 : Int) : Option (Int × Int) :=
  if a1 ≠ 0 then
    if a1 ≠ 0 then
      (if (decide ((Int.tmod a0 a1) < 0)) = true then
        some (w_i64 ((w_i64 (Int.tdiv a0 a1)) - 1), w_i64 ((Int.tmod a0 a1) + a1))
      else
        some (w_i64 (Int.tdiv a0 a1), Int.tmod a0 a1)).bind fun (j7 : Int × Int) =>
      (fixed_divide_1 j7.2).bind fun t9 =>
      some (j7.1, w_i64 (j7.1 + t9))
    else none
  else none

/-! armillary/fixed.divide: function 75 -/
def fixed_divide (a0 : Int) (a1 : Int) : Option (Int × Int) :=
  (if (decide (a1 < 0)) = true then
    some (w_i64 (0 - a0), w_i64 (0 - a1))
  else
    some (a0, a1)).bind fun (j4 : Int × Int) =>
  (fixed_floorCeil_int64_s78 j4.1 j4.2).bind fun t6 =>
  some (t6.1, t6.2)

/-! armillary/fixed.Mul: function 65 -/
def fixed_Mul (a0 : Int) (a1 : Int) : Option (Int × Int) :=
  (fixed_divide (w_i64 (a0 * a1)) 65536).bind fun t3 =>
  some (t3.1, t3.2)

/-! armillary/interval.hh: function 96 -/
def interval_hh (a0 : TInterval) (a1 : TInterval) : Option (Int × Int) :=
  some (a0.Hi, a1.Hi)

/-! armillary/interval.ll: function 97 -/
def interval_ll (a0 : TInterval) (a1 : TInterval) : Option (Int × Int) :=
  some (a0.Lo, a1.Lo)

/-! armillary/interval.lh: function 98 -/
def interval_lh (a0 : TInterval) (a1 : TInterval) : Option (Int × Int) :=
  some (a0.Lo, a1.Hi)

/-! armillary/interval.hl: function 99 -/
def interval_hl (a0 : TInterval) (a1 : TInterval) : Option (Int × Int) :=
  some (a0.Hi, a1.Lo)

/-! armillary/interval.Mul: function 15 -/
def interval_Mul (a0 : TInterval) (a1 : TInterval) : Option (TInterval) :=
  (interval_IsEntire a0).bind fun t3 =>
  (if (t3 == false) = true then interval_IsEntire a1 else some default).bind fun t4 =>
  if (t3 || t4) = true then
    (interval_Entire).bind fun t6 =>
    some t6
  else
    (interval_side a0).bind fun t8 =>
    (interval_side a1).bind fun t9 =>
    if ((t8 == 1) && (t9 == 1)) = true then
      (fixed_Mul a0.Lo a1.Hi).bind fun t12 =>
      (fixed_Mul a0.Hi a1.Lo).bind fun t14 =>
      (fixed_Mul a0.Lo a1.Lo).bind fun t16 =>
      (fixed_Mul a0.Hi a1.Hi).bind fun t18 =>
      (interval_New (mn t12.1 t14.1) (mx t16.2 t18.2)).bind fun t20 =>
      some t20
    else
      if t8 = 0 then
        if t9 = 0 then
          (interval_hh a0 a1).bind fun t23 =>
          (fixed_Mul t23.1 t23.2).bind fun t24 =>
          (interval_ll a0 a1).bind fun t26 =>
          (fixed_Mul t26.1 t26.2).bind fun t27 =>
          (interval_New t24.1 t27.2).bind fun t29 =>
          some t29
        else
        if t9 = 1 then
          (interval_lh a0 a1).bind fun t32 =>
          (fixed_Mul t32.1 t32.2).bind fun t33 =>
          (interval_ll a0 a1).bind fun t35 =>
          (fixed_Mul t35.1 t35.2).bind fun t36 =>
          (interval_New t33.1 t36.2).bind fun t38 =>
          some t38
        else
        if t9 = 2 then
          (interval_lh a0 a1).bind fun t41 =>
          (fixed_Mul t41.1 t41.2).bind fun t42 =>
          (interval_hl a0 a1).bind fun t44 =>
          (fixed_Mul t44.1 t44.2).bind fun t45 =>
          (interval_New t42.1 t45.2).bind fun t47 =>
          some t47
        else
        none
      else
      if t8 = 1 then
        if t9 = 0 then
          (interval_hl a0 a1).bind fun t53 =>
          (fixed_Mul t53.1 t53.2).bind fun t54 =>
          (interval_ll a0 a1).bind fun t56 =>
          (fixed_Mul t56.1 t56.2).bind fun t57 =>
          (interval_New t54.1 t57.2).bind fun t59 =>
          some t59
        else
        if t9 = 1 then
          none
        else
        if t9 = 2 then
          (interval_lh a0 a1).bind fun t63 =>
          (fixed_Mul t63.1 t63.2).bind fun t64 =>
          (interval_hh a0 a1).bind fun t66 =>
          (fixed_Mul t66.1 t66.2).bind fun t67 =>
          (interval_New t64.1 t67.2).bind fun t69 =>
          some t69
        else
        none
      else
      if t8 = 2 then
        if t9 = 0 then
          (interval_hl a0 a1).bind fun t75 =>
          (fixed_Mul t75.1 t75.2).bind fun t76 =>
          (interval_lh a0 a1).bind fun t78 =>
          (fixed_Mul t78.1 t78.2).bind fun t79 =>
          (interval_New t76.1 t79.2).bind fun t81 =>
          some t81
        else
        if t9 = 1 then
          (interval_hl a0 a1).bind fun t84 =>
          (fixed_Mul t84.1 t84.2).bind fun t85 =>
          (interval_hh a0 a1).bind fun t87 =>
          (fixed_Mul t87.1 t87.2).bind fun t88 =>
          (interval_New t85.1 t88.2).bind fun t90 =>
          some t90
        else
        if t9 = 2 then
          (interval_ll a0 a1).bind fun t93 =>
          (fixed_Mul t93.1 t93.2).bind fun t94 =>
          (interval_hh a0 a1).bind fun t96 =>
          (fixed_Mul t96.1 t96.2).bind fun t97 =>
          (interval_New t94.1 t97.2).bind fun t99 =>
          some t99
        else
        none
      else
      none

/-! armillary/interval.Contains: function 33 -/
def interval_Contains (a0 : TInterval) (a1 : Int) : Option (Bool) :=
  (interval_IsEntire a0).bind fun t3 =>
  some (t3 || ((decide (a0.Lo ≤ a1)) && (decide (a1 ≤ a0.Hi))))

/-! armillary/interval.pick[int]: function 66 -/
def interval_pick_int (a0 : Bool) (a1 : Int) (a2 : Int) : Option (Int) :=
  if a0 = true then
    some a1
  else
    some a2

/-! armillary/fixed.Div: function 67 -/
def fixed_Div (a0 : Int) (a1 : Int) : Option (Int × Int × Int) :=
  if (a1 == 0) = true then
    some (0, 0, 3)
  else
    (fixed_divide (w_i64 (a0 * 65536)) a1).bind fun t5 =>
    some (t5.1, t5.2, 0)

/-! armillary/interval.Div: function 16 -/
def interval_Div (a0 : TInterval) (a1 : TInterval) : Option (TInterval) :=
  (interval_IsEntire a0).bind fun t3 =>
  (if (t3 == false) = true then interval_IsEntire a1 else some default).bind fun t4 =>
  (if ((t3 || t4) == false) = true then interval_Contains a1 0 else some default).bind fun t5 =>
  if ((t3 || t4) || t5) = true then
    (interval_Entire).bind fun t7 =>
    some t7
  else
    (interval_side a0).bind fun t9 =>
    if t9 = 0 then
      (interval_pick_int (decide (a1.Lo > 0)) 1 0).bind fun t10 =>
      if t10 = 0 then
        (interval_hl a0 a1).bind fun t12 =>
        (fixed_Div t12.1 t12.2).bind fun t13 =>
        (interval_lh a0 a1).bind fun t15 =>
        (fixed_Div t15.1 t15.2).bind fun t16 =>
        (interval_New t13.1 t16.2.1).bind fun t18 =>
        some t18
      else
      if t10 = 1 then
        (interval_ll a0 a1).bind fun t12 =>
        (fixed_Div t12.1 t12.2).bind fun t13 =>
        (interval_hh a0 a1).bind fun t15 =>
        (fixed_Div t15.1 t15.2).bind fun t16 =>
        (interval_New t13.1 t16.2.1).bind fun t18 =>
        some t18
      else
      none
    else
    if t9 = 1 then
      (interval_pick_int (decide (a1.Lo > 0)) 1 0).bind fun t10 =>
      if t10 = 0 then
        (interval_hh a0 a1).bind fun t12 =>
        (fixed_Div t12.1 t12.2).bind fun t13 =>
        (interval_lh a0 a1).bind fun t15 =>
        (fixed_Div t15.1 t15.2).bind fun t16 =>
        (interval_New t13.1 t16.2.1).bind fun t18 =>
        some t18
      else
      if t10 = 1 then
        (interval_ll a0 a1).bind fun t12 =>
        (fixed_Div t12.1 t12.2).bind fun t13 =>
        (interval_hl a0 a1).bind fun t15 =>
        (fixed_Div t15.1 t15.2).bind fun t16 =>
        (interval_New t13.1 t16.2.1).bind fun t18 =>
        some t18
      else
      none
    else
    if t9 = 2 then
      (interval_pick_int (decide (a1.Lo > 0)) 1 0).bind fun t10 =>
      if t10 = 0 then
        (interval_hh a0 a1).bind fun t12 =>
        (fixed_Div t12.1 t12.2).bind fun t13 =>
        (interval_ll a0 a1).bind fun t15 =>
        (fixed_Div t15.1 t15.2).bind fun t16 =>
        (interval_New t13.1 t16.2.1).bind fun t18 =>
        some t18
      else
      if t10 = 1 then
        (interval_lh a0 a1).bind fun t12 =>
        (fixed_Div t12.1 t12.2).bind fun t13 =>
        (interval_hl a0 a1).bind fun t15 =>
        (fixed_Div t15.1 t15.2).bind fun t16 =>
        (interval_New t13.1 t16.2.1).bind fun t18 =>
        some t18
      else
      none
    else
    none

/-! armillary/interval.Neg: function 21 -/
def interval_Neg (a0 : TInterval) : Option (TInterval) :=
  some (⟨w_i64 (0 - a0.Hi), w_i64 (0 - a0.Lo)⟩ : TInterval)

/-! armillary/interval.Sub: function 20 -/
def interval_Sub (a0 : TInterval) (a1 : TInterval) : Option (TInterval) :=
  (interval_Neg a1).bind fun t3 =>
  (interval_Add a0 t3).bind fun t4 =>
  some t4

/-! armillary/interval.Mag: function 36 -/
def interval_Mag (a0 : TInterval) : Option (Int) :=
  some (mx a0.Hi (w_i64 (0 - a0.Lo)))

/-! armillary/interval.Square: function 22 -/
def interval_Square (a0 : TInterval) : Option (TInterval) :=
  (interval_IsEntire a0).bind fun t3 =>
  if t3 = true then
    some a0
  else
    (interval_Mag a0).bind fun t6 =>
    (fixed_Mul (mx (mx a0.Lo (w_i64 (0 - a0.Hi))) 0) (mx (mx a0.Lo (w_i64 (0 - a0.Hi))) 0)).bind fun t8 =>
    (fixed_Mul t6 t6).bind fun t10 =>
    (interval_New t8.1 t10.2).bind fun t12 =>
    some t12

/-! armillary/fixed.MulRatio: function 68 -/
def fixed_MulRatio (a0 : Int) (a1 : Int) (a2 : Int) : Option (Int × Int × Int) :=
  if ((((decide (a1 < (-1073741824))) || (decide (a1 > 1073741824))) || (decide (a2 < 1))) || (decide (a2 > 1073741824))) = true then
    some (0, 0, 1)
  else
    (fixed_divide (w_i64 (a0 * a1)) a2).bind fun t5 =>
    some (t5.1, t5.2, 0)

/-! armillary/interval.pick[int64]: function 69 -/
def interval_pick_int64 (a0 : Bool) (a1 : Int) (a2 : Int) : Option (Int) :=
  if a0 = true then
    some a1
  else
    some a2

/-! armillary/interval.MulRatio: function 23 -/
def interval_MulRatio (a0 : TInterval) (a1 : Int) (a2 : Int) : Option (TInterval) :=
  (interval_IsEntire a0).bind fun t3 =>
  if t3 = true then
    some a0
  else
    (interval_pick_int64 (decide (a1 < 0)) a0.Hi a0.Lo).bind fun t6 =>
    (fixed_MulRatio t6 a1 a2).bind fun t7 =>
    (interval_pick_int64 (decide (a1 < 0)) a0.Lo a0.Hi).bind fun t9 =>
    (fixed_MulRatio t9 a1 a2).bind fun t10 =>
    (interval_New t7.1 t10.2.1).bind fun t12 =>
    some t12

/-! math/bits.Len64: function 76 -/
def bits_Len64 (a0 : Int) : Option (Int) :=
  (if (decide (a0 ≥ 4294967296)) = true then
    some (Int.fdiv a0 4294967296, 32)
  else
    some (a0, 0)).bind fun (j4 : Int × Int) =>
  (if (decide (j4.1 ≥ 65536)) = true then
    some (Int.fdiv j4.1 65536, w_i64 (j4.2 + 16))
  else
    some (j4.1, j4.2)).bind fun (j7 : Int × Int) =>
  (if (decide (j7.1 ≥ 256)) = true then
    some (Int.fdiv j7.1 256, w_i64 (j7.2 + 8))
  else
    some (j7.1, j7.2)).bind fun (j10 : Int × Int) =>
  (strAt (⟨#[0, 1, 2, 2, 3, 3, 3, 3, 4, 4, 4, 4, 4, 4, 4, 4, 5, 5, 5, 5, 5, 5, 5, 5, 5, 5, 5, 5, 5, 5, 5, 5, 6, 6, 6, 6, 6, 6, 6, 6, 6, 6, 6, 6, 6, 6, 6, 6, 6, 6, 6, 6, 6, 6, 6, 6, 6, 6, 6, 6, 6, 6, 6, 6, 7, 7, 7, 7, 7, 7, 7, 7, 7, 7, 7, 7, 7, 7, 7, 7, 7, 7, 7, 7, 7, 7, 7, 7, 7, 7, 7, 7, 7, 7, 7, 7, 7, 7, 7, 7, 7, 7, 7, 7, 7, 7, 7, 7, 7, 7, 7, 7, 7, 7, 7, 7, 7, 7, 7, 7, 7, 7, 7, 7, 7, 7, 7, 7, 8, 8, 8, 8, 8, 8, 8, 8, 8, 8, 8, 8, 8, 8, 8, 8, 8, 8, 8, 8, 8, 8, 8, 8, 8, 8, 8, 8, 8, 8, 8, 8, 8, 8, 8, 8, 8, 8, 8, 8, 8, 8, 8, 8, 8, 8, 8, 8, 8, 8, 8, 8, 8, 8, 8, 8, 8, 8, 8, 8, 8, 8, 8, 8, 8, 8, 8, 8, 8, 8, 8, 8, 8, 8, 8, 8, 8, 8, 8, 8, 8, 8, 8, 8, 8, 8, 8, 8, 8, 8, 8, 8, 8, 8, 8, 8, 8, 8, 8, 8, 8, 8, 8, 8, 8, 8, 8, 8, 8, 8, 8, 8, 8, 8, 8, 8, 8, 8, 8, 8, 8, 8, 8, 8, 8, 8, 8, 8]⟩ : ByteArray) (w_u8 j10.1)).bind fun t12 =>
  some (w_i64 (j10.2 + (w_i64 t12)))

/-! armillary/fixed.Sqrt: function 70 -/
def fixed_Sqrt.l17 (k0 : Nat) (a0 : Int) (t8 : Int) : Nat → Int → Option (Int)
  | 0, _ => none
  | k + 1, x16 =>
    if x16 ≠ 0 then
      (some (decide ((w_i64 (Int.tdiv (w_i64 (x16 + (w_i64 (Int.tdiv (w_i64 (a0 * 65536)) x16)))) 2)) ≥ x16))).bind fun z21 =>
      if z21 = true then
        some (x16)
      else
        fixed_Sqrt.l17 k0 a0 t8 k (w_i64 (Int.tdiv (w_i64 (x16 + (w_i64 (Int.tdiv (w_i64 (a0 * 65536)) x16)))) 2))
    else none
def fixed_Sqrt (k0 : Nat) (a0 : Int) : Option (Int × Int × Int) :=
  if (decide (a0 < 0)) = true then
    some (0, 0, 4)
  else
    if ((w_i64 (a0 * 65536)) == 0) = true then
      some (0, 0, 0)
    else
      (bits_Len64 (w_u64 (w_i64 (a0 * 65536)))).bind fun t8 =>
      if 0 ≤ (w_i64 (Int.tdiv (w_i64 (t8 + 1)) 2)) then
        (fixed_Sqrt.l17 k0 a0 t8 k0 (w_i64 (1 * 2 ^ (min (w_i64 (Int.tdiv (w_i64 (t8 + 1)) 2)).toNat 64)))).bind fun (j11 : Int) =>
        if (decide ((w_i64 (j11 * j11)) < (w_i64 (a0 * 65536)))) = true then
          some (j11, w_i64 (j11 + 1), 0)
        else
          some (j11, j11, 0)
      else none

/-! armillary/interval.Sqrt: function 24 -/
def interval_Sqrt (k0 : Nat) (a0 : TInterval) : Option (TInterval × Bool) :=
  (interval_IsEntire a0).bind fun t3 =>
  if t3 = true then
    some (a0, true)
  else
    if (decide (a0.Hi < 0)) = true then
      some ((⟨0, 0⟩ : TInterval), false)
    else
      (fixed_Sqrt k0 (mx a0.Lo 0)).bind fun t8 =>
      (fixed_Sqrt k0 a0.Hi).bind fun t10 =>
      (interval_New t8.1 t10.2.1).bind fun t12 =>
      some (t12, true)

/-! armillary/interval.Subset: function 28 -/
def interval_Subset (a0 : TInterval) (a1 : TInterval) : Option (Bool) :=
  some ((decide (a1.Lo ≤ a0.Lo)) && (decide (a0.Hi ≤ a1.Hi)))

/-! armillary/interval.Hull: function 29 -/
def interval_Hull (a0 : TInterval) (a1 : TInterval) : Option (TInterval) :=
  some (⟨mn a0.Lo a1.Lo, mx a0.Hi a1.Hi⟩ : TInterval)

/-! armillary/interval.pick[armillary/api.Interval]: function 71 -/
def api_Interval (a0 : Bool) (a1 : TInterval) (a2 : TInterval) : Option (TInterval) :=
  if a0 = true then
    some a1
  else
    some a2

/-! armillary/interval.Intersect: function 30 -/
def interval_Intersect (a0 : TInterval) (a1 : TInterval) : Option (TInterval × Bool) :=
  (api_Interval (decide ((mx a0.Lo a1.Lo) ≤ (mn a0.Hi a1.Hi))) (⟨mx a0.Lo a1.Lo, mn a0.Hi a1.Hi⟩ : TInterval) (⟨0, 0⟩ : TInterval)).bind fun t5 =>
  some (t5, decide ((mx a0.Lo a1.Lo) ≤ (mn a0.Hi a1.Hi)))

/-! armillary/armillaryref02.Same: function 31 -/
def armillaryref02_Same (a0 : TInterval) (a1 : TInterval) : Option (Bool) :=
  some ((a0.Lo == a1.Lo) && (a0.Hi == a1.Hi))

/-! armillary/fixed.Valid: function 72 -/
def fixed_Valid (a0 : Int) : Option (Bool) :=
  some ((decide ((-2147483648) < a0)) && (decide (a0 < 2147483648)))

/-! armillary/interval.Valid: function 32 -/
def interval_Valid (a0 : TInterval) : Option (Bool) :=
  (interval_IsEntire a0).bind fun t3 =>
  (if (t3 == false) = true then fixed_Valid a0.Lo else some default).bind fun t4 =>
  (if ((t3 == false) && (t4 == true)) = true then fixed_Valid a0.Hi else some default).bind fun t5 =>
  some (t3 || ((t4 && t5) && (decide (a0.Lo ≤ a0.Hi))))

/-! armillary/interval.Mid: function 34 -/
def interval_Mid (a0 : TInterval) : Option (Int) :=
  some (Int.fdiv (w_i64 (a0.Lo + a0.Hi)) 2)

/-! armillary/interval.Width: function 35 -/
def interval_Width (a0 : TInterval) : Option (Int) :=
  some (w_i64 (a0.Hi - a0.Lo))

/-! armillary/interval.Sign: function 37 -/
def interval_Sign (a0 : TInterval) : Option (Int) :=
  (interval_pick_int (decide (a0.Hi < 0)) (-1) 0).bind fun t3 =>
  (interval_pick_int (decide (a0.Lo > 0)) 1 t3).bind fun t4 =>
  some t4

/-! armillary/armillarylaw02.v: function 62 -/
def armillarylaw02_v (a0 : Int) (a1 : Int) : Option (TInterval) :=
  some (⟨a0, a1⟩ : TInterval)

/-! armillary/armillarylaw02.sanity: function 11 -/
def armillarylaw02_sanity (k0 : Nat)  : Option (Bool) :=
  (armillarylaw02_v (-2147483648) 2147483648).bind fun t3 =>
  (armillarylaw02_v 65536 65536).bind fun t4 =>
  (armillarylaw02_v (-65536) 131072).bind fun t6 =>
  (interval_Sqrt k0 t6).bind fun t7 =>
  (armillarylaw02_v (-9) (-1)).bind fun t9 =>
  (interval_Sqrt k0 t9).bind fun t10 =>
  (armillarylaw02_v 1 5).bind fun t12 =>
  (armillarylaw02_v 4 9).bind fun t13 =>
  (interval_Intersect t12 t13).bind fun t14 =>
  (armillarylaw02_v 1 3).bind fun t16 =>
  (armillarylaw02_v 4 9).bind fun t17 =>
  (interval_Intersect t16 t17).bind fun t18 =>
  (armillarylaw02_v 32768 65536).bind fun t20 =>
  (armillarylaw02_v (-65536) 196608).bind fun t21 =>
  (interval_Mul t20 t21).bind fun t22 =>
  (armillarylaw02_v (-65536) 196608).bind fun t23 =>
  (armillaryref02_Same t22 t23).bind fun t24 =>
  (if (t24 == true) = true then armillarylaw02_v 196608 196608 else some default).bind fun t25 =>
  (if (t24 == true) = true then interval_Div t4 t25 else some default).bind fun t26 =>
  (if (t24 == true) = true then armillarylaw02_v 21845 21846 else some default).bind fun t27 =>
  (if (t24 == true) = true then armillaryref02_Same t26 t27 else some default).bind fun t28 =>
  (if ((t24 && t28) == true) = true then armillarylaw02_v (-32768) 16384 else some default).bind fun t29 =>
  (if ((t24 && t28) == true) = true then interval_Square t29 else some default).bind fun t30 =>
  (if ((t24 && t28) == true) = true then armillarylaw02_v 0 16384 else some default).bind fun t31 =>
  (if ((t24 && t28) == true) = true then armillaryref02_Same t30 t31 else some default).bind fun t32 =>
  (if (((t24 && t28) && t32) == true) = true then armillarylaw02_v 0 92682 else some default).bind fun t33 =>
  (if (((t24 && t28) && t32) == true) = true then armillaryref02_Same (⟨t7.1.Lo, t7.1.Hi⟩ : TInterval) t33 else some default).bind fun t34 =>
  (if ((((((t24 && t28) && t32) && t34) && t7.2) && (!t10.2)) == true) = true then armillarylaw02_v 65536 131072 else some default).bind fun t35 =>
  (if ((((((t24 && t28) && t32) && t34) && t7.2) && (!t10.2)) == true) = true then interval_MulRatio t35 (-1) 3 else some default).bind fun t36 =>
  (if ((((((t24 && t28) && t32) && t34) && t7.2) && (!t10.2)) == true) = true then armillarylaw02_v (-43691) (-21845) else some default).bind fun t37 =>
  (if ((((((t24 && t28) && t32) && t34) && t7.2) && (!t10.2)) == true) = true then armillaryref02_Same t36 t37 else some default).bind fun t38 =>
  (if (((((((t24 && t28) && t32) && t34) && t7.2) && (!t10.2)) && t38) == true) = true then armillarylaw02_v (-1) 1 else some default).bind fun t39 =>
  (if (((((((t24 && t28) && t32) && t34) && t7.2) && (!t10.2)) && t38) == true) = true then interval_Div t4 t39 else some default).bind fun t40 =>
  (if (((((((t24 && t28) && t32) && t34) && t7.2) && (!t10.2)) && t38) == true) = true then armillaryref02_Same t40 t3 else some default).bind fun t41 =>
  (if ((((((((t24 && t28) && t32) && t34) && t7.2) && (!t10.2)) && t38) && t41) == true) = true then armillarylaw02_v 0 0 else some default).bind fun t42 =>
  (if ((((((((t24 && t28) && t32) && t34) && t7.2) && (!t10.2)) && t38) && t41) == true) = true then interval_Mul t3 t42 else some default).bind fun t43 =>
  (if ((((((((t24 && t28) && t32) && t34) && t7.2) && (!t10.2)) && t38) && t41) == true) = true then armillaryref02_Same t43 t3 else some default).bind fun t44 =>
  (if (((((((((t24 && t28) && t32) && t34) && t7.2) && (!t10.2)) && t38) && t41) && t44) == true) = true then armillarylaw02_v 1 2 else some default).bind fun t45 =>
  (if (((((((((t24 && t28) && t32) && t34) && t7.2) && (!t10.2)) && t38) && t41) && t44) == true) = true then armillarylaw02_v 1 2 else some default).bind fun t46 =>
  (if (((((((((t24 && t28) && t32) && t34) && t7.2) && (!t10.2)) && t38) && t41) && t44) == true) = true then interval_Sub t45 t46 else some default).bind fun t47 =>
  (if (((((((((t24 && t28) && t32) && t34) && t7.2) && (!t10.2)) && t38) && t41) && t44) == true) = true then armillarylaw02_v (-1) 1 else some default).bind fun t48 =>
  (if (((((((((t24 && t28) && t32) && t34) && t7.2) && (!t10.2)) && t38) && t41) && t44) == true) = true then armillaryref02_Same t47 t48 else some default).bind fun t49 =>
  (if ((((((((((t24 && t28) && t32) && t34) && t7.2) && (!t10.2)) && t38) && t41) && t44) && t49) == true) = true then armillarylaw02_v 2147483647 2147483647 else some default).bind fun t50 =>
  (if ((((((((((t24 && t28) && t32) && t34) && t7.2) && (!t10.2)) && t38) && t41) && t44) && t49) == true) = true then armillarylaw02_v 1 1 else some default).bind fun t51 =>
  (if ((((((((((t24 && t28) && t32) && t34) && t7.2) && (!t10.2)) && t38) && t41) && t44) && t49) == true) = true then interval_Add t50 t51 else some default).bind fun t52 =>
  (if ((((((((((t24 && t28) && t32) && t34) && t7.2) && (!t10.2)) && t38) && t41) && t44) && t49) == true) = true then armillaryref02_Same t52 t3 else some default).bind fun t53 =>
  (some ((((((((((t24 && t28) && t32) && t34) && t7.2) && (!t10.2)) && t38) && t41) && t44) && t49) && t53)).bind fun z54 =>
  (if (z54 == true) = true then armillarylaw02_v 4 5 else some default).bind fun t55 =>
  (if (z54 == true) = true then armillaryref02_Same (⟨t14.1.Lo, t14.1.Hi⟩ : TInterval) t55 else some default).bind fun t56 =>
  (if ((((z54 && t56) && t14.2) && (!t18.2)) == true) = true then armillarylaw02_v 1 2 else some default).bind fun t57 =>
  (if ((((z54 && t56) && t14.2) && (!t18.2)) == true) = true then armillarylaw02_v 5 6 else some default).bind fun t58 =>
  (if ((((z54 && t56) && t14.2) && (!t18.2)) == true) = true then interval_Hull t57 t58 else some default).bind fun t59 =>
  (if ((((z54 && t56) && t14.2) && (!t18.2)) == true) = true then armillarylaw02_v 1 6 else some default).bind fun t60 =>
  (if ((((z54 && t56) && t14.2) && (!t18.2)) == true) = true then armillaryref02_Same t59 t60 else some default).bind fun t61 =>
  (if (((((z54 && t56) && t14.2) && (!t18.2)) && t61) == true) = true then armillarylaw02_v 1 2 else some default).bind fun t62 =>
  (if (((((z54 && t56) && t14.2) && (!t18.2)) && t61) == true) = true then interval_Subset t62 t3 else some default).bind fun t63 =>
  (if ((((((z54 && t56) && t14.2) && (!t18.2)) && t61) && t63) == true) = true then armillarylaw02_v 1 2 else some default).bind fun t64 =>
  (if ((((((z54 && t56) && t14.2) && (!t18.2)) && t61) && t63) == true) = true then interval_Subset t3 t64 else some default).bind fun t65 =>
  (if (((((((z54 && t56) && t14.2) && (!t18.2)) && t61) && t63) && (!t65)) == true) = true then interval_Contains t3 1099511627776 else some default).bind fun t66 =>
  (if ((((((((z54 && t56) && t14.2) && (!t18.2)) && t61) && t63) && (!t65)) && t66) == true) = true then armillarylaw02_v (-3) 0 else some default).bind fun t67 =>
  (if ((((((((z54 && t56) && t14.2) && (!t18.2)) && t61) && t63) && (!t65)) && t66) == true) = true then interval_Mid t67 else some default).bind fun t68 =>
  (some ((((((((z54 && t56) && t14.2) && (!t18.2)) && t61) && t63) && (!t65)) && t66) && (t68 == (-2)))).bind fun z69 =>
  (if (z69 == true) = true then armillarylaw02_v (-3) 4 else some default).bind fun t70 =>
  (if (z69 == true) = true then interval_Width t70 else some default).bind fun t71 =>
  (if ((z69 && (t71 == 7)) == true) = true then armillarylaw02_v (-5) 4 else some default).bind fun t72 =>
  (if ((z69 && (t71 == 7)) == true) = true then interval_Mag t72 else some default).bind fun t73 =>
  (if (((z69 && (t71 == 7)) && (t73 == 5)) == true) = true then armillarylaw02_v 0 4 else some default).bind fun t74 =>
  (if (((z69 && (t71 == 7)) && (t73 == 5)) == true) = true then interval_Sign t74 else some default).bind fun t75 =>
  (if ((((z69 && (t71 == 7)) && (t73 == 5)) && (t75 == 0)) == true) = true then armillarylaw02_v (-4) (-1) else some default).bind fun t76 =>
  (if ((((z69 && (t71 == 7)) && (t73 == 5)) && (t75 == 0)) == true) = true then interval_Sign t76 else some default).bind fun t77 =>
  (if (((((z69 && (t71 == 7)) && (t73 == 5)) && (t75 == 0)) && (t77 == (-1))) == true) = true then interval_Valid t3 else some default).bind fun t78 =>
  (if ((((((z69 && (t71 == 7)) && (t73 == 5)) && (t75 == 0)) && (t77 == (-1))) && t78) == true) = true then armillarylaw02_v 2 1 else some default).bind fun t79 =>
  (if ((((((z69 && (t71 == 7)) && (t73 == 5)) && (t75 == 0)) && (t77 == (-1))) && t78) == true) = true then interval_Valid t79 else some default).bind fun t80 =>
  (some ((((((z69 && (t71 == 7)) && (t73 == 5)) && (t75 == 0)) && (t77 == (-1))) && t78) && (!t80))).bind fun z81 =>
  (if (z81 == true) = true then armillarylaw02_v 0 2147483648 else some default).bind fun t82 =>
  (if (z81 == true) = true then interval_Valid t82 else some default).bind fun t83 =>
  (if ((z81 && (!t83)) == true) = true then armillarylaw02_v 3 3 else some default).bind fun t84 =>
  (if ((z81 && (!t83)) == true) = true then armillarylaw02_v (-1) (-1) else some default).bind fun t85 =>
  (if ((z81 && (!t83)) == true) = true then interval_Mul t84 t85 else some default).bind fun t86 =>
  (if ((z81 && (!t83)) == true) = true then armillarylaw02_v (-1) 0 else some default).bind fun t87 =>
  (if ((z81 && (!t83)) == true) = true then armillaryref02_Same t86 t87 else some default).bind fun t88 =>
  some ((z81 && (!t83)) && t88)

/-! armillary/armillaryref02.IsEntire: function 13 -/
def armillaryref02_IsEntire (a0 : TInterval) : Option (Bool) :=
  some ((a0.Lo == (-2147483648)) && (a0.Hi == 2147483648))

/-! armillary/armillaryref02.Number: function 73 -/
def armillaryref02_Number (a0 : Int) : Option (Bool) :=
  some ((decide (a0 > (-2147483648))) && (decide (a0 < 2147483648)))

/-! armillary/armillaryref02.Valid: function 39 -/
def armillaryref02_Valid (a0 : TInterval) : Option (Bool) :=
  (armillaryref02_IsEntire a0).bind fun t3 =>
  (if (t3 == false) = true then armillaryref02_Number a0.Lo else some default).bind fun t4 =>
  (if ((t3 == false) && (t4 == true)) = true then armillaryref02_Number a0.Hi else some default).bind fun t5 =>
  some (t3 || ((t4 && t5) && (decide (a0.Lo ≤ a0.Hi))))

/-! armillary/armillaryref02.Entire: function 51 -/
def armillaryref02_Entire : Option (TInterval) :=
  some (⟨(-2147483648), 2147483648⟩ : TInterval)

/-! armillary/armillaryref02.Small: function 63 -/
def armillaryref02_Small (a0 : TInterval) : Option (TInterval) :=
  some (⟨mn (Int.tmod a0.Lo 16777216) (Int.tmod a0.Hi 16777216), mx (Int.tmod a0.Lo 16777216) (Int.tmod a0.Hi 16777216)⟩ : TInterval)

/-! armillary/armillaryref02.Made: function 12 -/
def armillaryref02_Made (a0 : TInterval) : Option (TInterval) :=
  (armillaryref02_Valid a0).bind fun t3 =>
  if t3 = true then
    some a0
  else
    if ((b_and .i64 a0.Lo 31) == 7) = true then
      (armillaryref02_Entire).bind fun t7 =>
      some t7
    else
      (armillaryref02_Small a0).bind fun t9 =>
      some t9

/-! armillary/armillaryref02.Pick: function 17 -/
def armillaryref02_Pick (a0 : TInterval) (a1 : Int) : Option (Int) :=
  if (w_i64 ((w_i64 (a0.Hi - a0.Lo)) + 1)) ≠ 0 then
    some (w_i64 (a0.Lo + (Int.tmod (w_i64 a1) (w_i64 ((w_i64 (a0.Hi - a0.Lo)) + 1)))))
  else none

/-! armillary/armillarylaw02.ratio: function 18 -/
def armillarylaw02_ratio (a0 : TOperands) : Option (Int × Int) :=
  some (Int.tmod (w_i64 a0.N) 1073741824, w_i64 (1 + (w_i64 a0.D)))

/-! armillary/armillaryref02.Floor: function 25 -/
def armillaryref02_Floor (a0 : Int) (a1 : Int) : Option (Int) :=
  if a1 ≠ 0 then
    (if a1 ≠ 0 then
      if (((Int.tmod a0 a1) != 0) && (!((decide (a0 < 0)) == (decide (a1 < 0))))) = true then
        some (w_i64 ((w_i64 (Int.tdiv a0 a1)) - 1))
      else
        some (w_i64 (Int.tdiv a0 a1))
    else none).bind fun (j5 : Int) =>
    some j5
  else none

/-! armillary/armillaryref02.Ceil: function 26 -/
def armillaryref02_Ceil (a0 : Int) (a1 : Int) : Option (Int) :=
  (armillaryref02_Floor (w_i64 (0 - a0)) a1).bind fun t3 =>
  some (w_i64 (0 - t3))

/-! armillary/armillarylaw02.contains: function 19 -/
def armillarylaw02_contains (a0 : TInterval) (a1 : Int) (a2 : Int) : Option (Bool) :=
  (armillaryref02_IsEntire a0).bind fun t3 =>
  (if (t3 == false) = true then armillaryref02_Floor a1 a2 else some default).bind fun t4 =>
  (if ((t3 == false) && ((decide (t4 ≥ a0.Lo)) == true)) = true then armillaryref02_Ceil a1 a2 else some default).bind fun t5 =>
  some (t3 || ((decide (t4 ≥ a0.Lo)) && (decide (t5 ≤ a0.Hi))))

/-! armillary/armillarylaw02.IntervalInclusion: function 3 -/
def armillarylaw02_IntervalInclusion (k0 : Nat) (a0 : TOperands) (a1 : Int) (a2 : Int) : Option (Bool) :=
  (armillarylaw02_sanity k0).bind fun t3 =>
  (armillaryref02_Made (⟨a0.A.Lo, a0.A.Hi⟩ : TInterval)).bind fun t5 =>
  (armillaryref02_Made (⟨a0.B.Lo, a0.B.Hi⟩ : TInterval)).bind fun t6 =>
  (armillaryref02_IsEntire t5).bind fun t8 =>
  (if (t8 == false) = true then armillaryref02_IsEntire t6 else some default).bind fun t9 =>
  if (t8 || t9) = true then
    (interval_Add t5 t6).bind fun t11 =>
    (armillaryref02_IsEntire t11).bind fun t12 =>
    (if (t12 == true) = true then interval_Mul t6 t5 else some default).bind fun t13 =>
    (if (t12 == true) = true then armillaryref02_IsEntire t13 else some default).bind fun t14 =>
    (if ((t12 && t14) == true) = true then interval_Div t5 t6 else some default).bind fun t15 =>
    (if ((t12 && t14) == true) = true then armillaryref02_IsEntire t15 else some default).bind fun t16 =>
    some (((t12 && t14) && t16) && t3)
  else
    (armillaryref02_Pick t5 a1).bind fun t18 =>
    (armillaryref02_Pick t6 a2).bind fun t19 =>
    (armillarylaw02_ratio (⟨(⟨a0.A.Lo, a0.A.Hi⟩ : TInterval), (⟨a0.B.Lo, a0.B.Hi⟩ : TInterval), a0.N, a0.D⟩ : TOperands)).bind fun t21 =>
    (interval_Add t5 t6).bind fun t23 =>
    (armillarylaw02_contains t23 (w_i64 (t18 + t19)) 1).bind fun t24 =>
    (if ((!t24) == false) = true then interval_Sub t5 t6 else some default).bind fun t25 =>
    (if ((!t24) == false) = true then armillarylaw02_contains t25 (w_i64 (t18 - t19)) 1 else some default).bind fun t26 =>
    (if (((!t24) || (!t26)) == false) = true then interval_Neg t5 else some default).bind fun t27 =>
    (if (((!t24) || (!t26)) == false) = true then armillarylaw02_contains t27 (w_i64 (0 - t18)) 1 else some default).bind fun t28 =>
    (if ((((!t24) || (!t26)) || (!t28)) == false) = true then interval_Mul t5 t6 else some default).bind fun t29 =>
    (if ((((!t24) || (!t26)) || (!t28)) == false) = true then armillarylaw02_contains t29 (w_i64 (t18 * t19)) 65536 else some default).bind fun t30 =>
    (if (((((!t24) || (!t26)) || (!t28)) || (!t30)) == false) = true then interval_Square t5 else some default).bind fun t31 =>
    (if (((((!t24) || (!t26)) || (!t28)) || (!t30)) == false) = true then armillarylaw02_contains t31 (w_i64 (t18 * t18)) 65536 else some default).bind fun t32 =>
    (if ((((((!t24) || (!t26)) || (!t28)) || (!t30)) || (!t32)) == false) = true then interval_MulRatio t5 t21.1 t21.2 else some default).bind fun t33 =>
    (if ((((((!t24) || (!t26)) || (!t28)) || (!t30)) || (!t32)) == false) = true then armillarylaw02_contains t33 (w_i64 (t18 * t21.1)) t21.2 else some default).bind fun t34 =>
    if ((((((!t24) || (!t26)) || (!t28)) || (!t30)) || (!t32)) || (!t34)) = true then
      some false
    else
      (if ((decide (t19 > 0)) == true) = true then interval_Div t5 t6 else some default).bind fun t37 =>
      (if ((decide (t19 > 0)) == true) = true then armillarylaw02_contains t37 (w_i64 (t18 * 65536)) t19 else some default).bind fun t38 =>
      (if ((((decide (t19 > 0)) && (!t38)) == false) && ((decide (t19 < 0)) == true)) = true then interval_Div t5 t6 else some default).bind fun t39 =>
      (if ((((decide (t19 > 0)) && (!t38)) == false) && ((decide (t19 < 0)) == true)) = true then armillarylaw02_contains t39 (w_i64 ((w_i64 (0 - t18)) * 65536)) (w_i64 (0 - t19)) else some default).bind fun t40 =>
      if (((decide (t19 > 0)) && (!t38)) || ((decide (t19 < 0)) && (!t40))) = true then
        some false
      else
        (interval_Sqrt k0 t5).bind fun t43 =>
        if (decide (t18 < 0)) = true then
          some t3
        else
          (some ((t43.2 && (decide ((w_i64 (t43.1.Lo * t43.1.Lo)) ≤ (w_i64 (t18 * 65536))))) && (decide ((w_i64 (t43.1.Hi * t43.1.Hi)) ≥ (w_i64 (t18 * 65536)))))).bind fun z47 =>
          some (z47 && t3)

/-! armillary/armillarylaw02.IntervalTightness: function 4 -/
def armillarylaw02_IntervalTightness.l68 (k0 : Nat) (a0 : TOperands) (t3 : Bool) (t5 : TInterval) (t6 : TInterval) (t8 : Bool) (t9 : Bool) (t13 : TInterval) (t14 : TInterval) (t15 : TInterval) (t16 : TInterval) (x46 : Bool) (x47 : Bool) (x48 : Bool) (x49 : Bool) (x50 : Int) : Nat → Bool → Bool → Bool → Bool → Int → Option (Bool × Bool × Bool × Bool × Int × Int × Bool)
  | 0, _, _, _, _, _ => none
  | k + 1, x63, x64, x65, x66, x67 =>
    if (decide (x67 < 2)) = true then
      (if (x63 == false) = true → 0 ≤ x50 ∧ x50 < 2 then
        (if (x63 == false) = true then [t5.Lo, t5.Hi][x50.toNat]? else some 0).bind fun t82 =>
        if (x63 == false) = true → 0 ≤ x67 ∧ x67 < 2 then
          (if (x63 == false) = true then [t6.Lo, t6.Hi][x67.toNat]? else some 0).bind fun t84 =>
          (if (x63 == false) = true then armillaryref02_Floor (w_i64 (t82 * t84)) 65536 else some default).bind fun t85 =>
          if (x64 == false) = true → 0 ≤ x50 ∧ x50 < 2 then
            (if (x64 == false) = true then [t5.Lo, t5.Hi][x50.toNat]? else some 0).bind fun t88 =>
            if (x64 == false) = true → 0 ≤ x67 ∧ x67 < 2 then
              (if (x64 == false) = true then [t6.Lo, t6.Hi][x67.toNat]? else some 0).bind fun t90 =>
              (if (x64 == false) = true then armillaryref02_Ceil (w_i64 (t88 * t90)) 65536 else some default).bind fun t91 =>
              if 0 ≤ x67 ∧ x67 < 2 then
                ([t6.Lo, t6.Hi][x67.toNat]?).bind fun t94 =>
                if (t94 != 0) = true then
                  if (x65 == false) = true → 0 ≤ x50 ∧ x50 < 2 then
                    (if (x65 == false) = true then [t5.Lo, t5.Hi][x50.toNat]? else some 0).bind fun t97 =>
                    if (x65 == false) = true → 0 ≤ x67 ∧ x67 < 2 then
                      (if (x65 == false) = true then [t6.Lo, t6.Hi][x67.toNat]? else some 0).bind fun t99 =>
                      (if (x65 == false) = true then armillaryref02_Floor (w_i64 (t97 * 65536)) t99 else some default).bind fun t100 =>
                      if (x66 == false) = true → 0 ≤ x50 ∧ x50 < 2 then
                        (if (x66 == false) = true then [t5.Lo, t5.Hi][x50.toNat]? else some 0).bind fun t103 =>
                        if (x66 == false) = true → 0 ≤ x67 ∧ x67 < 2 then
                          (if (x66 == false) = true then [t6.Lo, t6.Hi][x67.toNat]? else some 0).bind fun t105 =>
                          (if (x66 == false) = true then armillaryref02_Ceil (w_i64 (t103 * 65536)) t105 else some default).bind fun t106 =>
                          some ((x63 || (t85 == t13.Lo)), (x64 || (t91 == t13.Hi)), (x65 || (t100 == t15.Lo)), (x66 || (t106 == t15.Hi)), (x63 || (t85 == t13.Lo)), (x64 || (t91 == t13.Hi)), t94, (t94 != 0))
                        else none
                      else none
                    else none
                  else none
                else
                  some ((x63 || (t85 == t13.Lo)), (x64 || (t91 == t13.Hi)), x65, x66, (x63 || (t85 == t13.Lo)), (x64 || (t91 == t13.Hi)), t94, (t94 != 0))
              else none
            else none
          else none
        else none
      else none).bind fun (j78 : Bool × Bool × Bool × Bool × Bool × Bool × Int × Bool) =>
      armillarylaw02_IntervalTightness.l68 k0 a0 t3 t5 t6 t8 t9 t13 t14 t15 t16 x46 x47 x48 x49 x50 k j78.1 j78.2.1 j78.2.2.1 j78.2.2.2.1 (w_i64 (x67 + 1))
    else
      some (x63, x64, x65, x66, x67, x67, decide (x67 < 2))
def armillarylaw02_IntervalTightness.l51 (k0 : Nat) (a0 : TOperands) (t3 : Bool) (t5 : TInterval) (t6 : TInterval) (t8 : Bool) (t9 : Bool) (t13 : TInterval) (t14 : TInterval) (t15 : TInterval) (t16 : TInterval) : Nat → Bool → Bool → Bool → Bool → Int → Option (Bool × Bool × Bool × Bool)
  | 0, _, _, _, _, _ => none
  | k + 1, x46, x47, x48, x49, x50 =>
    if (decide (x50 < 2)) = true then
      (armillarylaw02_IntervalTightness.l68 k0 a0 t3 t5 t6 t8 t9 t13 t14 t15 t16 x46 x47 x48 x49 x50 k0 x46 x47 x48 x49 0).bind fun (j60 : Bool × Bool × Bool × Bool × Int × Int × Bool) =>
      armillarylaw02_IntervalTightness.l51 k0 a0 t3 t5 t6 t8 t9 t13 t14 t15 t16 k j60.1 j60.2.1 j60.2.2.1 j60.2.2.2.1 (w_i64 (x50 + 1))
    else
      some (x46, x47, x48, x49)
def armillarylaw02_IntervalTightness (k0 : Nat) (a0 : TOperands) : Option (Bool) :=
  (armillarylaw02_sanity k0).bind fun t3 =>
  (armillaryref02_Made (⟨a0.A.Lo, a0.A.Hi⟩ : TInterval)).bind fun t5 =>
  (armillaryref02_Made (⟨a0.B.Lo, a0.B.Hi⟩ : TInterval)).bind fun t6 =>
  (armillaryref02_IsEntire t5).bind fun t8 =>
  (if (t8 == false) = true then armillaryref02_IsEntire t6 else some default).bind fun t9 =>
  if (t8 || t9) = true then
    some t3
  else
    (interval_Mul t5 t6).bind fun t13 =>
    (interval_Square t5).bind fun t14 =>
    (interval_Div t5 t6).bind fun t15 =>
    (interval_Add t5 t6).bind fun t16 =>
    (armillarylaw02_IntervalTightness.l51 k0 a0 t3 t5 t6 t8 t9 t13 t14 t15 t16 k0 false false false false 0).bind fun (j22 : Bool × Bool × Bool × Bool) =>
    (armillaryref02_IsEntire t13).bind fun t24 =>
    (if (((!t24) && ((!j22.1) || (!j22.2.1))) == false) = true then armillaryref02_IsEntire t15 else some default).bind fun t25 =>
    (if ((((!t24) && ((!j22.1) || (!j22.2.1))) || ((!t25) && ((!j22.2.2.1) || (!j22.2.2.2)))) == false) = true then armillaryref02_IsEntire t16 else some default).bind fun t26 =>
    if ((((!t24) && ((!j22.1) || (!j22.2.1))) || ((!t25) && ((!j22.2.2.1) || (!j22.2.2.2)))) || ((!t26) && ((t16.Lo != (w_i64 (t5.Lo + t6.Lo))) || (t16.Hi != (w_i64 (t5.Hi + t6.Hi)))))) = true then
      some false
    else
      (if ((((decide (t5.Lo ≤ 0)) && (decide (t5.Hi ≥ 0))) && (t14.Lo == 0)) == false) = true then armillaryref02_Floor (w_i64 (t5.Lo * t5.Lo)) 65536 else some default).bind fun t29 =>
      (if (((((decide (t5.Lo ≤ 0)) && (decide (t5.Hi ≥ 0))) && (t14.Lo == 0)) || (t29 == t14.Lo)) == false) = true then armillaryref02_Floor (w_i64 (t5.Hi * t5.Hi)) 65536 else some default).bind fun t30 =>
      (some (((((decide (t5.Lo ≤ 0)) && (decide (t5.Hi ≥ 0))) && (t14.Lo == 0)) || (t29 == t14.Lo)) || (t30 == t14.Lo))).bind fun z31 =>
      (armillaryref02_Ceil (w_i64 (t5.Lo * t5.Lo)) 65536).bind fun t33 =>
      (if ((t33 == t14.Hi) == false) = true then armillaryref02_Ceil (w_i64 (t5.Hi * t5.Hi)) 65536 else some default).bind fun t34 =>
      (interval_Sqrt k0 t5).bind fun t36 =>
      if (!t36.2) = true then
        some ((decide (t5.Hi < 0)) && t3)
      else
        (armillaryref02_IsEntire t14).bind fun t40 =>
        (some ((t40 || (z31 && ((t33 == t14.Hi) || (t34 == t14.Hi)))) && (decide ((w_i64 ((w_i64 (t36.1.Lo + 1)) * (w_i64 (t36.1.Lo + 1)))) > (w_i64 ((mx t5.Lo 0) * 65536)))))).bind fun z41 =>
        (some (z41 && ((t36.1.Hi == 0) || (decide ((w_i64 ((w_i64 (t36.1.Hi - 1)) * (w_i64 (t36.1.Hi - 1)))) < (w_i64 (t5.Hi * 65536))))))).bind fun z42 =>
        some (z42 && t3)

/-! armillary/armillaryref02.New: function 55 -/
def armillaryref02_New (a0 : Int) (a1 : Int) : Option (TInterval) :=
  (armillaryref02_Number a0).bind fun t3 =>
  (if ((!t3) == false) = true then armillaryref02_Number a1 else some default).bind fun t4 =>
  if ((!t3) || (!t4)) = true then
    (armillaryref02_Entire).bind fun t6 =>
    some t6
  else
    some (⟨a0, a1⟩ : TInterval)

/-! armillary/armillarylaw02.widen: function 27 -/
def armillarylaw02_widen (a0 : TInterval) (a1 : Int) (a2 : Int) : Option (TInterval) :=
  (armillaryref02_IsEntire a0).bind fun t3 =>
  if t3 = true then
    some a0
  else
    (armillaryref02_New (w_i64 (a0.Lo - (w_i64 (Int.tmod a1 99991)))) (w_i64 (a0.Hi + (w_i64 (Int.tmod a2 99991))))).bind fun t6 =>
    some t6

/-! armillary/armillarylaw02.IntervalIsotonic: function 5 -/
def armillarylaw02_IntervalIsotonic (k0 : Nat) (a0 : TOperands) (a1 : TA2_Int) (a2 : TA2_Int) : Option (Bool) :=
  (armillarylaw02_sanity k0).bind fun t3 =>
  (armillaryref02_Made (⟨a0.A.Lo, a0.A.Hi⟩ : TInterval)).bind fun t5 =>
  (armillaryref02_Made (⟨a0.B.Lo, a0.B.Hi⟩ : TInterval)).bind fun t6 =>
  (armillarylaw02_widen t5 a1.e0 a2.e0).bind fun t8 =>
  (armillarylaw02_widen t6 a1.e1 a2.e1).bind fun t9 =>
  (armillarylaw02_ratio (⟨(⟨a0.A.Lo, a0.A.Hi⟩ : TInterval), (⟨a0.B.Lo, a0.B.Hi⟩ : TInterval), a0.N, a0.D⟩ : TOperands)).bind fun t11 =>
  (interval_Subset t5 t8).bind fun t13 =>
  (if ((!t13) == false) = true then interval_Add t5 t6 else some default).bind fun t14 =>
  (if ((!t13) == false) = true then interval_Add t8 t9 else some default).bind fun t15 =>
  (if ((!t13) == false) = true then interval_Subset t14 t15 else some default).bind fun t16 =>
  (if (((!t13) || (!t16)) == false) = true then interval_Sub t5 t6 else some default).bind fun t17 =>
  (if (((!t13) || (!t16)) == false) = true then interval_Sub t8 t9 else some default).bind fun t18 =>
  (if (((!t13) || (!t16)) == false) = true then interval_Subset t17 t18 else some default).bind fun t19 =>
  (if ((((!t13) || (!t16)) || (!t19)) == false) = true then interval_Mul t5 t6 else some default).bind fun t20 =>
  (if ((((!t13) || (!t16)) || (!t19)) == false) = true then interval_Mul t8 t9 else some default).bind fun t21 =>
  (if ((((!t13) || (!t16)) || (!t19)) == false) = true then interval_Subset t20 t21 else some default).bind fun t22 =>
  (if (((((!t13) || (!t16)) || (!t19)) || (!t22)) == false) = true then interval_Square t5 else some default).bind fun t23 =>
  (if (((((!t13) || (!t16)) || (!t19)) || (!t22)) == false) = true then interval_Square t8 else some default).bind fun t24 =>
  (if (((((!t13) || (!t16)) || (!t19)) || (!t22)) == false) = true then interval_Subset t23 t24 else some default).bind fun t25 =>
  (if ((((((!t13) || (!t16)) || (!t19)) || (!t22)) || (!t25)) == false) = true then interval_Div t5 t6 else some default).bind fun t26 =>
  (if ((((((!t13) || (!t16)) || (!t19)) || (!t22)) || (!t25)) == false) = true then interval_Div t8 t9 else some default).bind fun t27 =>
  (if ((((((!t13) || (!t16)) || (!t19)) || (!t22)) || (!t25)) == false) = true then interval_Subset t26 t27 else some default).bind fun t28 =>
  (if (((((((!t13) || (!t16)) || (!t19)) || (!t22)) || (!t25)) || (!t28)) == false) = true then interval_MulRatio t5 t11.1 t11.2 else some default).bind fun t29 =>
  (if (((((((!t13) || (!t16)) || (!t19)) || (!t22)) || (!t25)) || (!t28)) == false) = true then interval_MulRatio t8 t11.1 t11.2 else some default).bind fun t30 =>
  (if (((((((!t13) || (!t16)) || (!t19)) || (!t22)) || (!t25)) || (!t28)) == false) = true then interval_Subset t29 t30 else some default).bind fun t31 =>
  (if ((((((((!t13) || (!t16)) || (!t19)) || (!t22)) || (!t25)) || (!t28)) || (!t31)) == false) = true then interval_Hull t5 t6 else some default).bind fun t32 =>
  (if ((((((((!t13) || (!t16)) || (!t19)) || (!t22)) || (!t25)) || (!t28)) || (!t31)) == false) = true then interval_Hull t8 t9 else some default).bind fun t33 =>
  (if ((((((((!t13) || (!t16)) || (!t19)) || (!t22)) || (!t25)) || (!t28)) || (!t31)) == false) = true then interval_Subset t32 t33 else some default).bind fun t34 =>
  if ((((((((!t13) || (!t16)) || (!t19)) || (!t22)) || (!t25)) || (!t28)) || (!t31)) || (!t34)) = true then
    some false
  else
    (interval_Sqrt k0 t5).bind fun t37 =>
    (interval_Sqrt k0 t8).bind fun t39 =>
    (interval_Intersect t5 t6).bind fun t41 =>
    (interval_Intersect t8 t9).bind fun t43 =>
    (if (((!t37.2) == false) && (t39.2 == true)) = true then interval_Subset (⟨t37.1.Lo, t37.1.Hi⟩ : TInterval) (⟨t39.1.Lo, t39.1.Hi⟩ : TInterval) else some default).bind fun t45 =>
    (if (((((!t37.2) || (t39.2 && t45)) == true) && ((!t41.2) == false)) && (t43.2 == true)) = true then interval_Subset (⟨t41.1.Lo, t41.1.Hi⟩ : TInterval) (⟨t43.1.Lo, t43.1.Hi⟩ : TInterval) else some default).bind fun t46 =>
    some ((((!t37.2) || (t39.2 && t45)) && ((!t41.2) || (t43.2 && t46))) && t3)

/-! armillary/armillarylaw02.IntervalSubdistributive: function 6 -/
def armillarylaw02_IntervalSubdistributive (k0 : Nat) (a0 : TOperands) (a1 : TInterval) : Option (Bool) :=
  (armillarylaw02_sanity k0).bind fun t3 =>
  (armillaryref02_Made (⟨a0.A.Lo, a0.A.Hi⟩ : TInterval)).bind fun t5 =>
  (armillaryref02_Made (⟨a0.B.Lo, a0.B.Hi⟩ : TInterval)).bind fun t6 =>
  (armillaryref02_Made a1).bind fun t7 =>
  (interval_Add t6 t7).bind fun t9 =>
  (armillaryref02_IsEntire t5).bind fun t11 =>
  (if (t11 == false) = true then armillaryref02_IsEntire t9 else some default).bind fun t12 =>
  if (t11 || t12) = true then
    some t3
  else
    (interval_Mul t5 t9).bind fun t15 =>
    (interval_Mul t5 t6).bind fun t16 =>
    (interval_Mul t5 t7).bind fun t17 =>
    (interval_Add t16 t17).bind fun t18 =>
    (interval_Subset t15 t18).bind fun t19 =>
    if (!t19) = true then
      some false
    else
      (interval_Mul t5 t6).bind fun t22 =>
      (interval_Div t22 t6).bind fun t23 =>
      (interval_Subset t5 t23).bind fun t24 =>
      (if (t24 == true) = true then interval_Sub t9 t7 else some default).bind fun t25 =>
      (if (t24 == true) = true then interval_Subset t6 t25 else some default).bind fun t26 =>
      some ((t24 && t26) && t3)

/-! armillary/armillarylaw02.IntervalLattice: function 7 -/
def armillarylaw02_IntervalLattice (k0 : Nat) (a0 : TOperands) (a1 : TInterval) (a2 : Int) : Option (Bool) :=
  (armillarylaw02_sanity k0).bind fun t3 =>
  (armillaryref02_Made (⟨a0.A.Lo, a0.A.Hi⟩ : TInterval)).bind fun t5 =>
  (armillaryref02_Made (⟨a0.B.Lo, a0.B.Hi⟩ : TInterval)).bind fun t6 =>
  (armillaryref02_Made a1).bind fun t7 =>
  (interval_Hull t5 t6).bind fun t9 =>
  (interval_Intersect t5 t6).bind fun t11 =>
  (interval_Subset t5 t9).bind fun t14 =>
  (if ((!t14) == false) = true then interval_Subset t6 t9 else some default).bind fun t15 =>
  (if (((!t14) || (!t15)) == false) = true then interval_Subset t5 t7 else some default).bind fun t16 =>
  (if ((((!t14) || (!t15)) == false) && (t16 == true)) = true then interval_Subset t6 t7 else some default).bind fun t17 =>
  (if ((((!t14) || (!t15)) == false) && ((t16 && t17) == true)) = true then interval_Subset t9 t7 else some default).bind fun t18 =>
  (if ((((!t14) || (!t15)) || ((t16 && t17) && (!t18))) == false) = true then interval_Hull t6 t5 else some default).bind fun t19 =>
  (if ((((!t14) || (!t15)) || ((t16 && t17) && (!t18))) == false) = true then armillaryref02_Same t9 t19 else some default).bind fun t20 =>
  (if (((((!t14) || (!t15)) || ((t16 && t17) && (!t18))) || (!t20)) == false) = true then interval_Hull t5 t5 else some default).bind fun t21 =>
  (if (((((!t14) || (!t15)) || ((t16 && t17) && (!t18))) || (!t20)) == false) = true then armillaryref02_Same t21 t5 else some default).bind fun t22 =>
  (if ((((((!t14) || (!t15)) || ((t16 && t17) && (!t18))) || (!t20)) || (!t22)) == false) = true then interval_Valid t9 else some default).bind fun t23 =>
  if ((((((!t14) || (!t15)) || ((t16 && t17) && (!t18))) || (!t20)) || (!t22)) || (!t23)) = true then
    some false
  else
    (interval_Contains t5 (Int.tmod a2 4294967296)).bind fun t26 =>
    (if (t26 == true) = true then interval_Contains t6 (Int.tmod a2 4294967296) else some default).bind fun t27 =>
    (if (t11.2 == true) = true then interval_Contains (⟨t11.1.Lo, t11.1.Hi⟩ : TInterval) (Int.tmod a2 4294967296) else some default).bind fun t28 =>
    (if (((!((t26 && t27) == (t11.2 && t28))) == false) && (t11.2 == true)) = true then interval_Subset (⟨t11.1.Lo, t11.1.Hi⟩ : TInterval) t5 else some default).bind fun t29 =>
    (if ((((!((t26 && t27) == (t11.2 && t28))) == false) && (t11.2 == true)) && ((!t29) == false)) = true then interval_Subset (⟨t11.1.Lo, t11.1.Hi⟩ : TInterval) t6 else some default).bind fun t30 =>
    (if ((((!((t26 && t27) == (t11.2 && t28))) == false) && (t11.2 == true)) && (((!t29) || (!t30)) == false)) = true then interval_Valid (⟨t11.1.Lo, t11.1.Hi⟩ : TInterval) else some default).bind fun t31 =>
    if ((!((t26 && t27) == (t11.2 && t28))) || (t11.2 && (((!t29) || (!t30)) || (!t31)))) = true then
      some false
    else
      (interval_Intersect t6 t5).bind fun t34 =>
      (interval_Intersect t5 t5).bind fun t36 =>
      (if ((t11.2 == t34.2) == true) = true then armillaryref02_Same (⟨t11.1.Lo, t11.1.Hi⟩ : TInterval) (⟨t34.1.Lo, t34.1.Hi⟩ : TInterval) else some default).bind fun t38 =>
      (if (((t11.2 == t34.2) && t38) == true) = true then armillaryref02_Same (⟨t36.1.Lo, t36.1.Hi⟩ : TInterval) t5 else some default).bind fun t39 =>
      (if (((((t11.2 == t34.2) && t38) && t39) && t36.2) == true) = true then interval_Subset t5 t6 else some default).bind fun t40 =>
      (if (((((((t11.2 == t34.2) && t38) && t39) && t36.2) == true) && ((!t40) == false)) && (t11.2 == true)) = true then armillaryref02_Same (⟨t11.1.Lo, t11.1.Hi⟩ : TInterval) t5 else some default).bind fun t41 =>
      some ((((((t11.2 == t34.2) && t38) && t39) && t36.2) && ((!t40) || (t11.2 && t41))) && t3)

/-! armillary/armillarylaw02.IntervalMeasures: function 8 -/
def armillarylaw02_IntervalMeasures (k0 : Nat) (a0 : TInterval) (a1 : Int) : Option (Bool) :=
  (armillarylaw02_sanity k0).bind fun t3 =>
  (armillaryref02_Made a0).bind fun t5 =>
  (interval_Mid t5).bind fun t7 =>
  (interval_Width t5).bind fun t8 =>
  (interval_Mag t5).bind fun t9 =>
  (armillaryref02_IsEntire t5).bind fun t11 =>
  if t11 = true then
    (if ((((t7 == 0) && (t8 == 4294967296)) && (t9 == 2147483648)) == true) = true then interval_Sign t5 else some default).bind fun t13 =>
    (if (((((t7 == 0) && (t8 == 4294967296)) && (t9 == 2147483648)) && (t13 == 0)) == true) = true then interval_IsEntire t5 else some default).bind fun t14 =>
    some ((((((t7 == 0) && (t8 == 4294967296)) && (t9 == 2147483648)) && (t13 == 0)) && t14) && t3)
  else
    (armillaryref02_Pick t5 a1).bind fun t16 =>
    (interval_Contains t5 t7).bind fun t19 =>
    (some (((!t19) || (decide ((w_i64 ((w_i64 (t7 - t5.Lo)) - (w_i64 (t5.Hi - t7)))) > 0))) || (decide ((w_i64 ((w_i64 (t7 - t5.Lo)) - (w_i64 (t5.Hi - t7)))) < (-1))))).bind fun z20 =>
    (some (((z20 || (t8 != (w_i64 (t5.Hi - t5.Lo)))) || (decide (t16 > t9))) || (decide ((w_i64 (0 - t16)) > t9)))).bind fun z21 =>
    if (z21 || ((t9 != t5.Hi) && (t9 != (w_i64 (0 - t5.Lo))))) = true then
      some false
    else
      (interval_Sign t5).bind fun t24 =>
      (some ((((t24 != 1) || (decide (t16 > 0))) && ((t24 != (-1)) || (decide (t16 < 0)))) && ((t24 != 0) || ((decide (t5.Lo ≤ 0)) && (decide (t5.Hi ≥ 0)))))).bind fun z26 =>
      (if (z26 == true) = true then interval_IsEntire t5 else some default).bind fun t27 =>
      some ((z26 && (!t27)) && t3)

/-! armillary/armillaryref02.Contains: function 40 -/
def armillaryref02_Contains (a0 : TInterval) (a1 : Int) : Option (Bool) :=
  (armillaryref02_IsEntire a0).bind fun t3 =>
  some (t3 || ((decide (a0.Lo ≤ a1)) && (decide (a1 ≤ a0.Hi))))

/-! armillary/armillaryref02.Root: function 74 -/
def armillaryref02_Root.l9 (k0 : Nat) (a0 : Int) : Nat → Int → Int → Option (Int)
  | 0, _, _ => none
  | k + 1, x7, x8 =>
    if (decide (x8 > 0)) = true then
      (if (decide ((w_i64 ((w_i64 (x7 + x8)) * (w_i64 (x7 + x8)))) ≤ a0)) = true then
        some (w_i64 (x7 + x8))
      else
        some (x7)).bind fun (j12 : Int) =>
      armillaryref02_Root.l9 k0 a0 k j12 (w_i64 (Int.tdiv x8 2))
    else
      some (x7)
def armillaryref02_Root (k0 : Nat) (a0 : Int) : Option (Int) :=
  (armillaryref02_Root.l9 k0 a0 k0 0 1073741824).bind fun (j4 : Int) =>
  some j4

/-! armillary/armillaryref02.Sqrt: function 41 -/
def armillaryref02_Sqrt (k0 : Nat) (a0 : TInterval) : Option (TInterval × Bool) :=
  (armillaryref02_IsEntire a0).bind fun t3 =>
  if t3 = true then
    some (a0, true)
  else
    if (decide (a0.Hi < 0)) = true then
      some ((⟨0, 0⟩ : TInterval), false)
    else
      (armillaryref02_Root k0 (w_i64 ((mx a0.Lo 0) * 65536))).bind fun t8 =>
      (armillaryref02_Root k0 (w_i64 (a0.Hi * 65536))).bind fun t9 =>
      (if (decide ((w_i64 (t9 * t9)) < (w_i64 (a0.Hi * 65536)))) = true then
        some (w_i64 (t9 + 1))
      else
        some (t9)).bind fun (j11 : Int) =>
      (armillaryref02_New t8 j11).bind fun t13 =>
      some (t13, true)

/-! armillary/armillaryref02.Intersect: function 42 -/
def armillaryref02_Intersect (a0 : TInterval) (a1 : TInterval) : Option (TInterval × Bool) :=
  if (decide ((mx a0.Lo a1.Lo) > (mn a0.Hi a1.Hi))) = true then
    some ((⟨0, 0⟩ : TInterval), false)
  else
    some ((⟨mx a0.Lo a1.Lo, mn a0.Hi a1.Hi⟩ : TInterval), true)

/-! armillary/armillaryref02.MulRatio: function 43 -/
def armillaryref02_MulRatio (a0 : TInterval) (a1 : Int) (a2 : Int) : Option (TInterval) :=
  (armillaryref02_IsEntire a0).bind fun t3 =>
  if t3 = true then
    some a0
  else
    (armillaryref02_Floor (mn (w_i64 (a0.Lo * a1)) (w_i64 (a0.Hi * a1))) a2).bind fun t7 =>
    (armillaryref02_Ceil (mx (w_i64 (a0.Lo * a1)) (w_i64 (a0.Hi * a1))) a2).bind fun t8 =>
    (armillaryref02_New t7 t8).bind fun t9 =>
    some t9

/-! armillary/armillaryref02.Hull: function 44 -/
def armillaryref02_Hull (a0 : TInterval) (a1 : TInterval) : Option (TInterval) :=
  some (⟨mn a0.Lo a1.Lo, mx a0.Hi a1.Hi⟩ : TInterval)

/-! armillary/armillaryref02.Subset: function 45 -/
def armillaryref02_Subset (a0 : TInterval) (a1 : TInterval) : Option (Bool) :=
  some ((decide (a1.Lo ≤ a0.Lo)) && (decide (a0.Hi ≤ a1.Hi)))

/-! armillary/armillaryref02.Mid: function 46 -/
def armillaryref02_Mid (a0 : TInterval) : Option (Int) :=
  (armillaryref02_Floor (w_i64 (a0.Lo + a0.Hi)) 2).bind fun t3 =>
  some t3

/-! armillary/armillaryref02.Width: function 47 -/
def armillaryref02_Width (a0 : TInterval) : Option (Int) :=
  some (w_i64 (a0.Hi - a0.Lo))

/-! armillary/armillaryref02.Mag: function 48 -/
def armillaryref02_Mag (a0 : TInterval) : Option (Int) :=
  some (mx (mx a0.Lo (w_i64 (0 - a0.Lo))) (mx a0.Hi (w_i64 (0 - a0.Hi))))

/-! armillary/armillaryref02.Sign: function 49 -/
def armillaryref02_Sign (a0 : TInterval) : Option (Int) :=
  if (decide (a0.Lo > 0)) = true then
    some 1
  else
    if (decide (a0.Hi < 0)) = true then
      some (-1)
    else
      some 0

/-! armillary/interval.Point: function 52 -/
def interval_Point (a0 : Int) : Option (TInterval) :=
  (interval_New a0 a0).bind fun t3 =>
  some t3

/-! armillary/armillaryref02.Point: function 53 -/
def armillaryref02_Point (a0 : Int) : Option (TInterval) :=
  (armillaryref02_New a0 a0).bind fun t3 =>
  some t3

/-! armillary/armillaryref02.Add: function 56 -/
def armillaryref02_Add (a0 : TInterval) (a1 : TInterval) : Option (TInterval) :=
  (armillaryref02_IsEntire a0).bind fun t3 =>
  (if (t3 == false) = true then armillaryref02_IsEntire a1 else some default).bind fun t4 =>
  if (t3 || t4) = true then
    (armillaryref02_Entire).bind fun t6 =>
    some t6
  else
    (armillaryref02_New (w_i64 (a0.Lo + a1.Lo)) (w_i64 (a0.Hi + a1.Hi))).bind fun t8 =>
    some t8

/-! armillary/armillaryref02.Neg: function 58 -/
def armillaryref02_Neg (a0 : TInterval) : Option (TInterval) :=
  some (⟨w_i64 (0 - a0.Hi), w_i64 (0 - a0.Lo)⟩ : TInterval)

/-! armillary/armillaryref02.Sub: function 57 -/
def armillaryref02_Sub (a0 : TInterval) (a1 : TInterval) : Option (TInterval) :=
  (armillaryref02_Neg a1).bind fun t3 =>
  (armillaryref02_Add a0 t3).bind fun t4 =>
  some t4

/-! armillary/armillaryref02.Mul: function 59 -/
def armillaryref02_Mul.l20 (k0 : Nat) (a0 : TInterval) (a1 : TInterval) (t3 : Bool) (t4 : Bool) : Nat → Int → Int → Int → Option (Int × Int)
  | 0, _, _, _ => none
  | k + 1, x17, x18, x19 =>
    if (decide (x19 < 4)) = true then
      if 0 ≤ x19 ∧ x19 < 4 then
        ([w_i64 (a0.Lo * a1.Lo), w_i64 (a0.Lo * a1.Hi), w_i64 (a0.Hi * a1.Lo), w_i64 (a0.Hi * a1.Hi)][x19.toNat]?).bind fun t24 =>
        if 0 ≤ x19 ∧ x19 < 4 then
          ([w_i64 (a0.Lo * a1.Lo), w_i64 (a0.Lo * a1.Hi), w_i64 (a0.Hi * a1.Lo), w_i64 (a0.Hi * a1.Hi)][x19.toNat]?).bind fun t27 =>
          armillaryref02_Mul.l20 k0 a0 a1 t3 t4 k (mn x17 t24) (mx x18 t27) (w_i64 (x19 + 1))
        else none
      else none
    else
      some (x17, x18)
def armillaryref02_Mul (k0 : Nat) (a0 : TInterval) (a1 : TInterval) : Option (TInterval) :=
  (armillaryref02_IsEntire a0).bind fun t3 =>
  (if (t3 == false) = true then armillaryref02_IsEntire a1 else some default).bind fun t4 =>
  if (t3 || t4) = true then
    (armillaryref02_Entire).bind fun t6 =>
    some t6
  else
    (armillaryref02_Mul.l20 k0 a0 a1 t3 t4 k0 (w_i64 (a0.Lo * a1.Lo)) (w_i64 (a0.Lo * a1.Lo)) 1).bind fun (j11 : Int × Int) =>
    (armillaryref02_Floor j11.1 65536).bind fun t13 =>
    (armillaryref02_Ceil j11.2 65536).bind fun t14 =>
    (armillaryref02_New t13 t14).bind fun t15 =>
    some t15

/-! armillary/armillaryref02.Square: function 60 -/
def armillaryref02_Square (a0 : TInterval) : Option (TInterval) :=
  (armillaryref02_IsEntire a0).bind fun t3 =>
  if t3 = true then
    (armillaryref02_Entire).bind fun t5 =>
    some t5
  else
    (if ((decide (a0.Lo ≤ 0)) && (decide (a0.Hi ≥ 0))) = true then
      some (0)
    else
      some (mn (w_i64 (a0.Lo * a0.Lo)) (w_i64 (a0.Hi * a0.Hi)))).bind fun (j8 : Int) =>
    (armillaryref02_Floor j8 65536).bind fun t10 =>
    (armillaryref02_Ceil (mx (w_i64 (a0.Lo * a0.Lo)) (w_i64 (a0.Hi * a0.Hi))) 65536).bind fun t11 =>
    (armillaryref02_New t10 t11).bind fun t12 =>
    some t12

/-! armillary/armillaryref02.Div: function 61 -/
def armillaryref02_Div.l33 (k0 : Nat) (a0 : TInterval) (a1 : TInterval) (t3 : Bool) (t4 : Bool) (t9 : Int) (t10 : Int) (x17 : Int) (x18 : Int) (x19 : Int) : Nat → Int → Int → Int → Option (Int × Int × Int × Int × Bool)
  | 0, _, _, _ => none
  | k + 1, x30, x31, x32 =>
    if (decide (x32 < 2)) = true then
      if 0 ≤ x19 ∧ x19 < 2 then
        ([a0.Lo, a0.Hi][x19.toNat]?).bind fun t37 =>
        if 0 ≤ x32 ∧ x32 < 2 then
          ([a1.Lo, a1.Hi][x32.toNat]?).bind fun t39 =>
          (armillaryref02_Floor (w_i64 (t37 * 65536)) t39).bind fun t40 =>
          if 0 ≤ x19 ∧ x19 < 2 then
            ([a0.Lo, a0.Hi][x19.toNat]?).bind fun t43 =>
            if 0 ≤ x32 ∧ x32 < 2 then
              ([a1.Lo, a1.Hi][x32.toNat]?).bind fun t45 =>
              (armillaryref02_Ceil (w_i64 (t43 * 65536)) t45).bind fun t46 =>
              armillaryref02_Div.l33 k0 a0 a1 t3 t4 t9 t10 x17 x18 x19 k (mn x30 t40) (mx x31 t46) (w_i64 (x32 + 1))
            else none
          else none
        else none
      else none
    else
      some (x30, x31, x32, x32, decide (x32 < 2))
def armillaryref02_Div.l20 (k0 : Nat) (a0 : TInterval) (a1 : TInterval) (t3 : Bool) (t4 : Bool) (t9 : Int) (t10 : Int) : Nat → Int → Int → Int → Option (Int × Int)
  | 0, _, _, _ => none
  | k + 1, x17, x18, x19 =>
    if (decide (x19 < 2)) = true then
      (armillaryref02_Div.l33 k0 a0 a1 t3 t4 t9 t10 x17 x18 x19 k0 x17 x18 0).bind fun (j27 : Int × Int × Int × Int × Bool) =>
      armillaryref02_Div.l20 k0 a0 a1 t3 t4 t9 t10 k j27.1 j27.2.1 (w_i64 (x19 + 1))
    else
      some (x17, x18)
def armillaryref02_Div (k0 : Nat) (a0 : TInterval) (a1 : TInterval) : Option (TInterval) :=
  (armillaryref02_IsEntire a0).bind fun t3 =>
  (if (t3 == false) = true then armillaryref02_IsEntire a1 else some default).bind fun t4 =>
  if ((t3 || t4) || ((decide (a1.Lo ≤ 0)) && (decide (a1.Hi ≥ 0)))) = true then
    (armillaryref02_Entire).bind fun t6 =>
    some t6
  else
    (armillaryref02_Floor (w_i64 (a0.Lo * 65536)) a1.Lo).bind fun t9 =>
    (armillaryref02_Ceil (w_i64 (a0.Lo * 65536)) a1.Lo).bind fun t10 =>
    (armillaryref02_Div.l20 k0 a0 a1 t3 t4 t9 t10 k0 t9 t10 0).bind fun (j13 : Int × Int) =>
    (armillaryref02_New j13.1 j13.2).bind fun t15 =>
    some t15

/-! armillary/armillarylaw02.IntervalMatchesReference: function 9 -/
def armillarylaw02_IntervalMatchesReference (k0 : Nat) (a0 : TOperands) (a1 : Int) : Option (Bool) :=
  (armillarylaw02_sanity k0).bind fun t3 =>
  (interval_Valid (⟨a0.A.Lo, a0.A.Hi⟩ : TInterval)).bind fun t5 =>
  (armillaryref02_Valid (⟨a0.A.Lo, a0.A.Hi⟩ : TInterval)).bind fun t6 =>
  (if ((!(t5 == t6)) == false) = true then interval_Contains (⟨a0.A.Lo, a0.A.Hi⟩ : TInterval) a1 else some default).bind fun t7 =>
  (if ((!(t5 == t6)) == false) = true then armillaryref02_Contains (⟨a0.A.Lo, a0.A.Hi⟩ : TInterval) a1 else some default).bind fun t8 =>
  if ((!(t5 == t6)) || (!(t7 == t8))) = true then
    some false
  else
    (armillaryref02_Made (⟨a0.A.Lo, a0.A.Hi⟩ : TInterval)).bind fun t11 =>
    (armillaryref02_Made (⟨a0.B.Lo, a0.B.Hi⟩ : TInterval)).bind fun t12 =>
    (armillarylaw02_ratio (⟨(⟨a0.A.Lo, a0.A.Hi⟩ : TInterval), (⟨a0.B.Lo, a0.B.Hi⟩ : TInterval), a0.N, a0.D⟩ : TOperands)).bind fun t14 =>
    (interval_Sqrt k0 t11).bind fun t16 =>
    (armillaryref02_Sqrt k0 t11).bind fun t18 =>
    (interval_Intersect t11 t12).bind fun t20 =>
    (armillaryref02_Intersect t11 t12).bind fun t22 =>
    (armillaryref02_Same (⟨t16.1.Lo, t16.1.Hi⟩ : TInterval) (⟨t18.1.Lo, t18.1.Hi⟩ : TInterval)).bind fun t24 =>
    (if (((!t24) || (!(t16.2 == t18.2))) == false) = true then armillaryref02_Same (⟨t20.1.Lo, t20.1.Hi⟩ : TInterval) (⟨t22.1.Lo, t22.1.Hi⟩ : TInterval) else some default).bind fun t25 =>
    (if (((((!t24) || (!(t16.2 == t18.2))) || (!t25)) || (!(t20.2 == t22.2))) == false) = true then interval_MulRatio t11 t14.1 t14.2 else some default).bind fun t26 =>
    (if (((((!t24) || (!(t16.2 == t18.2))) || (!t25)) || (!(t20.2 == t22.2))) == false) = true then armillaryref02_MulRatio t11 t14.1 t14.2 else some default).bind fun t27 =>
    (if (((((!t24) || (!(t16.2 == t18.2))) || (!t25)) || (!(t20.2 == t22.2))) == false) = true then armillaryref02_Same t26 t27 else some default).bind fun t28 =>
    (if ((((((!t24) || (!(t16.2 == t18.2))) || (!t25)) || (!(t20.2 == t22.2))) || (!t28)) == false) = true then interval_Hull t11 t12 else some default).bind fun t29 =>
    (if ((((((!t24) || (!(t16.2 == t18.2))) || (!t25)) || (!(t20.2 == t22.2))) || (!t28)) == false) = true then armillaryref02_Hull t11 t12 else some default).bind fun t30 =>
    (if ((((((!t24) || (!(t16.2 == t18.2))) || (!t25)) || (!(t20.2 == t22.2))) || (!t28)) == false) = true then armillaryref02_Same t29 t30 else some default).bind fun t31 =>
    (some ((((((!t24) || (!(t16.2 == t18.2))) || (!t25)) || (!(t20.2 == t22.2))) || (!t28)) || (!t31))).bind fun z32 =>
    (if (z32 == false) = true then interval_Subset t11 t12 else some default).bind fun t33 =>
    (if (z32 == false) = true then armillaryref02_Subset t11 t12 else some default).bind fun t34 =>
    if (z32 || (!(t33 == t34))) = true then
      some false
    else
      (interval_Mid t11).bind fun t37 =>
      (armillaryref02_Mid t11).bind fun t38 =>
      (if ((t37 != t38) == false) = true then interval_Width t11 else some default).bind fun t39 =>
      (if ((t37 != t38) == false) = true then armillaryref02_Width t11 else some default).bind fun t40 =>
      (if (((t37 != t38) || (t39 != t40)) == false) = true then interval_Mag t11 else some default).bind fun t41 =>
      (if (((t37 != t38) || (t39 != t40)) == false) = true then armillaryref02_Mag t11 else some default).bind fun t42 =>
      (if ((((t37 != t38) || (t39 != t40)) || (t41 != t42)) == false) = true then interval_Sign t11 else some default).bind fun t43 =>
      (if ((((t37 != t38) || (t39 != t40)) || (t41 != t42)) == false) = true then armillaryref02_Sign t11 else some default).bind fun t44 =>
      (if (((((t37 != t38) || (t39 != t40)) || (t41 != t42)) || (t43 != t44)) == false) = true then interval_IsEntire t11 else some default).bind fun t45 =>
      (if (((((t37 != t38) || (t39 != t40)) || (t41 != t42)) || (t43 != t44)) == false) = true then armillaryref02_IsEntire t11 else some default).bind fun t46 =>
      (if ((((((t37 != t38) || (t39 != t40)) || (t41 != t42)) || (t43 != t44)) || (!(t45 == t46))) == false) = true then interval_Entire else some default).bind fun t47 =>
      (if ((((((t37 != t38) || (t39 != t40)) || (t41 != t42)) || (t43 != t44)) || (!(t45 == t46))) == false) = true then armillaryref02_Entire else some default).bind fun t48 =>
      (if ((((((t37 != t38) || (t39 != t40)) || (t41 != t42)) || (t43 != t44)) || (!(t45 == t46))) == false) = true then armillaryref02_Same t47 t48 else some default).bind fun t49 =>
      (some ((((((t37 != t38) || (t39 != t40)) || (t41 != t42)) || (t43 != t44)) || (!(t45 == t46))) || (!t49))).bind fun z50 =>
      (if (z50 == false) = true then interval_Point t11.Lo else some default).bind fun t51 =>
      (if (z50 == false) = true then armillaryref02_Point t11.Lo else some default).bind fun t52 =>
      (if (z50 == false) = true then armillaryref02_Same t51 t52 else some default).bind fun t53 =>
      (if ((z50 || (!t53)) == false) = true then interval_New t11.Lo (w_i64 (t12.Hi + 4294967296)) else some default).bind fun t54 =>
      (if ((z50 || (!t53)) == false) = true then armillaryref02_New t11.Lo (w_i64 (t12.Hi + 4294967296)) else some default).bind fun t55 =>
      (if ((z50 || (!t53)) == false) = true then armillaryref02_Same t54 t55 else some default).bind fun t56 =>
      if ((z50 || (!t53)) || (!t56)) = true then
        some false
      else
        (interval_Add t11 t12).bind fun t59 =>
        (armillaryref02_Add t11 t12).bind fun t60 =>
        (armillaryref02_Same t59 t60).bind fun t61 =>
        (if (t61 == true) = true then interval_Sub t11 t12 else some default).bind fun t62 =>
        (if (t61 == true) = true then armillaryref02_Sub t11 t12 else some default).bind fun t63 =>
        (if (t61 == true) = true then armillaryref02_Same t62 t63 else some default).bind fun t64 =>
        (if ((t61 && t64) == true) = true then interval_Neg t11 else some default).bind fun t65 =>
        (if ((t61 && t64) == true) = true then armillaryref02_Neg t11 else some default).bind fun t66 =>
        (if ((t61 && t64) == true) = true then armillaryref02_Same t65 t66 else some default).bind fun t67 =>
        (if (((t61 && t64) && t67) == true) = true then interval_Mul t11 t12 else some default).bind fun t68 =>
        (if (((t61 && t64) && t67) == true) = true then armillaryref02_Mul k0 t11 t12 else some default).bind fun t69 =>
        (if (((t61 && t64) && t67) == true) = true then armillaryref02_Same t68 t69 else some default).bind fun t70 =>
        (if ((((t61 && t64) && t67) && t70) == true) = true then interval_Square t11 else some default).bind fun t71 =>
        (if ((((t61 && t64) && t67) && t70) == true) = true then armillaryref02_Square t11 else some default).bind fun t72 =>
        (if ((((t61 && t64) && t67) && t70) == true) = true then armillaryref02_Same t71 t72 else some default).bind fun t73 =>
        (if (((((t61 && t64) && t67) && t70) && t73) == true) = true then interval_Div t11 t12 else some default).bind fun t74 =>
        (if (((((t61 && t64) && t67) && t70) && t73) == true) = true then armillaryref02_Div k0 t11 t12 else some default).bind fun t75 =>
        (if (((((t61 && t64) && t67) && t70) && t73) == true) = true then armillaryref02_Same t74 t75 else some default).bind fun t76 =>
        some ((((((t61 && t64) && t67) && t70) && t73) && t76) && t3)

/-! armillary/armillarylaw02.IntervalAlgebra: function 10 -/
def armillarylaw02_IntervalAlgebra (k0 : Nat) (a0 : TOperands) : Option (Bool) :=
  (armillarylaw02_sanity k0).bind fun t3 =>
  (armillaryref02_Made (⟨a0.A.Lo, a0.A.Hi⟩ : TInterval)).bind fun t5 =>
  (armillaryref02_Made (⟨a0.B.Lo, a0.B.Hi⟩ : TInterval)).bind fun t6 =>
  (armillarylaw02_ratio (⟨(⟨a0.A.Lo, a0.A.Hi⟩ : TInterval), (⟨a0.B.Lo, a0.B.Hi⟩ : TInterval), a0.N, a0.D⟩ : TOperands)).bind fun t8 =>
  (interval_Mul t5 t6).bind fun t10 =>
  (interval_Add t5 t6).bind fun t12 =>
  (interval_Add t6 t5).bind fun t13 =>
  (armillaryref02_Same t12 t13).bind fun t14 =>
  (if ((!t14) == false) = true then interval_Mul t6 t5 else some default).bind fun t15 =>
  (if ((!t14) == false) = true then armillaryref02_Same t10 t15 else some default).bind fun t16 =>
  (if (((!t14) || (!t16)) == false) = true then interval_Sub t5 t6 else some default).bind fun t17 =>
  (if (((!t14) || (!t16)) == false) = true then interval_Neg t6 else some default).bind fun t18 =>
  (if (((!t14) || (!t16)) == false) = true then interval_Add t5 t18 else some default).bind fun t19 =>
  (if (((!t14) || (!t16)) == false) = true then armillaryref02_Same t17 t19 else some default).bind fun t20 =>
  (if ((((!t14) || (!t16)) || (!t20)) == false) = true then interval_Neg t5 else some default).bind fun t21 =>
  (if ((((!t14) || (!t16)) || (!t20)) == false) = true then interval_Neg t21 else some default).bind fun t22 =>
  (if ((((!t14) || (!t16)) || (!t20)) == false) = true then armillaryref02_Same t22 t5 else some default).bind fun t23 =>
  (if (((((!t14) || (!t16)) || (!t20)) || (!t23)) == false) = true then interval_Neg t5 else some default).bind fun t24 =>
  (if (((((!t14) || (!t16)) || (!t20)) || (!t23)) == false) = true then interval_Mul t24 t6 else some default).bind fun t25 =>
  (if (((((!t14) || (!t16)) || (!t20)) || (!t23)) == false) = true then interval_Neg t10 else some default).bind fun t26 =>
  (if (((((!t14) || (!t16)) || (!t20)) || (!t23)) == false) = true then armillaryref02_Same t25 t26 else some default).bind fun t27 =>
  (if ((((((!t14) || (!t16)) || (!t20)) || (!t23)) || (!t27)) == false) = true then interval_Neg t5 else some default).bind fun t28 =>
  (if ((((((!t14) || (!t16)) || (!t20)) || (!t23)) || (!t27)) == false) = true then interval_Square t28 else some default).bind fun t29 =>
  (if ((((((!t14) || (!t16)) || (!t20)) || (!t23)) || (!t27)) == false) = true then interval_Square t5 else some default).bind fun t30 =>
  (if ((((((!t14) || (!t16)) || (!t20)) || (!t23)) || (!t27)) == false) = true then armillaryref02_Same t29 t30 else some default).bind fun t31 =>
  if ((((((!t14) || (!t16)) || (!t20)) || (!t23)) || (!t27)) || (!t31)) = true then
    some false
  else
    (interval_Div t5 t6).bind fun t34 =>
    (interval_Neg t5).bind fun t36 =>
    (interval_Div t36 t6).bind fun t37 =>
    (interval_Neg t34).bind fun t38 =>
    (armillaryref02_Same t37 t38).bind fun t39 =>
    (if ((!t39) == false) = true then interval_Neg t6 else some default).bind fun t40 =>
    (if ((!t39) == false) = true then interval_Div t5 t40 else some default).bind fun t41 =>
    (if ((!t39) == false) = true then interval_Neg t34 else some default).bind fun t42 =>
    (if ((!t39) == false) = true then armillaryref02_Same t41 t42 else some default).bind fun t43 =>
    (if (((!t39) || (!t43)) == false) = true then interval_MulRatio t5 (w_i64 (0 - t8.1)) t8.2 else some default).bind fun t44 =>
    (if (((!t39) || (!t43)) == false) = true then interval_MulRatio t5 t8.1 t8.2 else some default).bind fun t45 =>
    (if (((!t39) || (!t43)) == false) = true then interval_Neg t45 else some default).bind fun t46 =>
    (if (((!t39) || (!t43)) == false) = true then armillaryref02_Same t44 t46 else some default).bind fun t47 =>
    if (((!t39) || (!t43)) || (!t47)) = true then
      some false
    else
      (interval_Point 65536).bind fun t50 =>
      (interval_Mul t5 t50).bind fun t51 =>
      (armillaryref02_Same t51 t5).bind fun t52 =>
      (if (t52 == true) = true then interval_Point 0 else some default).bind fun t53 =>
      (if (t52 == true) = true then interval_Add t5 t53 else some default).bind fun t54 =>
      (if (t52 == true) = true then armillaryref02_Same t54 t5 else some default).bind fun t55 =>
      (if ((t52 && t55) == true) = true then interval_MulRatio t5 t8.2 t8.2 else some default).bind fun t56 =>
      (if ((t52 && t55) == true) = true then armillaryref02_Same t56 t5 else some default).bind fun t57 =>
      (if (((t52 && t55) && t57) == true) = true then interval_Square t5 else some default).bind fun t58 =>
      (if (((t52 && t55) && t57) == true) = true then interval_Mul t5 t5 else some default).bind fun t59 =>
      (if (((t52 && t55) && t57) == true) = true then interval_Subset t58 t59 else some default).bind fun t60 =>
      (if ((((t52 && t55) && t57) && t60) == true) = true then interval_Valid t10 else some default).bind fun t61 =>
      (if (((((t52 && t55) && t57) && t60) && t61) == true) = true then interval_Valid t34 else some default).bind fun t62 =>
      some ((((((t52 && t55) && t57) && t60) && t61) && t62) && t3)

/-- What the law's plain function must answer. -/
def armillarylaw02_IntervalInclusion.Pure : Prop :=
  ∀ (c0_0 : Int) (c0_1 : Int) (c0_2 : Int) (c0_3 : Int) (c0_4 : Int) (c0_5 : Int) (c1_0 : Int) (c2_0 : Int), ((-9223372036854775808) ≤ c0_0 ∧ c0_0 ≤ 9223372036854775807) → ((-9223372036854775808) ≤ c0_1 ∧ c0_1 ≤ 9223372036854775807) → ((-9223372036854775808) ≤ c0_2 ∧ c0_2 ≤ 9223372036854775807) → ((-9223372036854775808) ≤ c0_3 ∧ c0_3 ≤ 9223372036854775807) → ((-2147483648) ≤ c0_4 ∧ c0_4 ≤ 2147483647) → (0 ≤ c0_5 ∧ c0_5 ≤ 65535) → (0 ≤ c1_0 ∧ c1_0 ≤ 4294967295) → (0 ≤ c2_0 ∧ c2_0 ≤ 4294967295) → ∃ k0 : Nat, armillarylaw02_IntervalInclusion k0 (⟨(⟨c0_0, c0_1⟩ : TInterval), (⟨c0_2, c0_3⟩ : TInterval), c0_4, c0_5⟩ : TOperands) c1_0 c2_0 = some true

/-- What the law's plain function must answer. -/
def armillarylaw02_IntervalTightness.Pure : Prop :=
  ∀ (c0_0 : Int) (c0_1 : Int) (c0_2 : Int) (c0_3 : Int) (c0_4 : Int) (c0_5 : Int), ((-9223372036854775808) ≤ c0_0 ∧ c0_0 ≤ 9223372036854775807) → ((-9223372036854775808) ≤ c0_1 ∧ c0_1 ≤ 9223372036854775807) → ((-9223372036854775808) ≤ c0_2 ∧ c0_2 ≤ 9223372036854775807) → ((-9223372036854775808) ≤ c0_3 ∧ c0_3 ≤ 9223372036854775807) → ((-2147483648) ≤ c0_4 ∧ c0_4 ≤ 2147483647) → (0 ≤ c0_5 ∧ c0_5 ≤ 65535) → ∃ k0 : Nat, armillarylaw02_IntervalTightness k0 (⟨(⟨c0_0, c0_1⟩ : TInterval), (⟨c0_2, c0_3⟩ : TInterval), c0_4, c0_5⟩ : TOperands) = some true

/-- What the law's plain function must answer. -/
def armillarylaw02_IntervalIsotonic.Pure : Prop :=
  ∀ (c0_0 : Int) (c0_1 : Int) (c0_2 : Int) (c0_3 : Int) (c0_4 : Int) (c0_5 : Int) (c1_0 : Int) (c1_1 : Int) (c2_0 : Int) (c2_1 : Int), ((-9223372036854775808) ≤ c0_0 ∧ c0_0 ≤ 9223372036854775807) → ((-9223372036854775808) ≤ c0_1 ∧ c0_1 ≤ 9223372036854775807) → ((-9223372036854775808) ≤ c0_2 ∧ c0_2 ≤ 9223372036854775807) → ((-9223372036854775808) ≤ c0_3 ∧ c0_3 ≤ 9223372036854775807) → ((-2147483648) ≤ c0_4 ∧ c0_4 ≤ 2147483647) → (0 ≤ c0_5 ∧ c0_5 ≤ 65535) → (0 ≤ c1_0 ∧ c1_0 ≤ 4294967295) → (0 ≤ c1_1 ∧ c1_1 ≤ 4294967295) → (0 ≤ c2_0 ∧ c2_0 ≤ 4294967295) → (0 ≤ c2_1 ∧ c2_1 ≤ 4294967295) → ∃ k0 : Nat, armillarylaw02_IntervalIsotonic k0 (⟨(⟨c0_0, c0_1⟩ : TInterval), (⟨c0_2, c0_3⟩ : TInterval), c0_4, c0_5⟩ : TOperands) (⟨c1_0, c1_1⟩ : TA2_Int) (⟨c2_0, c2_1⟩ : TA2_Int) = some true

/-- What the law's plain function must answer. -/
def armillarylaw02_IntervalSubdistributive.Pure : Prop :=
  ∀ (c0_0 : Int) (c0_1 : Int) (c0_2 : Int) (c0_3 : Int) (c0_4 : Int) (c0_5 : Int) (c1_0 : Int) (c1_1 : Int), ((-9223372036854775808) ≤ c0_0 ∧ c0_0 ≤ 9223372036854775807) → ((-9223372036854775808) ≤ c0_1 ∧ c0_1 ≤ 9223372036854775807) → ((-9223372036854775808) ≤ c0_2 ∧ c0_2 ≤ 9223372036854775807) → ((-9223372036854775808) ≤ c0_3 ∧ c0_3 ≤ 9223372036854775807) → ((-2147483648) ≤ c0_4 ∧ c0_4 ≤ 2147483647) → (0 ≤ c0_5 ∧ c0_5 ≤ 65535) → ((-9223372036854775808) ≤ c1_0 ∧ c1_0 ≤ 9223372036854775807) → ((-9223372036854775808) ≤ c1_1 ∧ c1_1 ≤ 9223372036854775807) → ∃ k0 : Nat, armillarylaw02_IntervalSubdistributive k0 (⟨(⟨c0_0, c0_1⟩ : TInterval), (⟨c0_2, c0_3⟩ : TInterval), c0_4, c0_5⟩ : TOperands) (⟨c1_0, c1_1⟩ : TInterval) = some true

/-- What the law's plain function must answer. -/
def armillarylaw02_IntervalLattice.Pure : Prop :=
  ∀ (c0_0 : Int) (c0_1 : Int) (c0_2 : Int) (c0_3 : Int) (c0_4 : Int) (c0_5 : Int) (c1_0 : Int) (c1_1 : Int) (c2_0 : Int), ((-9223372036854775808) ≤ c0_0 ∧ c0_0 ≤ 9223372036854775807) → ((-9223372036854775808) ≤ c0_1 ∧ c0_1 ≤ 9223372036854775807) → ((-9223372036854775808) ≤ c0_2 ∧ c0_2 ≤ 9223372036854775807) → ((-9223372036854775808) ≤ c0_3 ∧ c0_3 ≤ 9223372036854775807) → ((-2147483648) ≤ c0_4 ∧ c0_4 ≤ 2147483647) → (0 ≤ c0_5 ∧ c0_5 ≤ 65535) → ((-9223372036854775808) ≤ c1_0 ∧ c1_0 ≤ 9223372036854775807) → ((-9223372036854775808) ≤ c1_1 ∧ c1_1 ≤ 9223372036854775807) → ((-9223372036854775808) ≤ c2_0 ∧ c2_0 ≤ 9223372036854775807) → ∃ k0 : Nat, armillarylaw02_IntervalLattice k0 (⟨(⟨c0_0, c0_1⟩ : TInterval), (⟨c0_2, c0_3⟩ : TInterval), c0_4, c0_5⟩ : TOperands) (⟨c1_0, c1_1⟩ : TInterval) c2_0 = some true

/-- What the law's plain function must answer. -/
def armillarylaw02_IntervalMeasures.Pure : Prop :=
  ∀ (c0_0 : Int) (c0_1 : Int) (c1_0 : Int), ((-9223372036854775808) ≤ c0_0 ∧ c0_0 ≤ 9223372036854775807) → ((-9223372036854775808) ≤ c0_1 ∧ c0_1 ≤ 9223372036854775807) → (0 ≤ c1_0 ∧ c1_0 ≤ 4294967295) → ∃ k0 : Nat, armillarylaw02_IntervalMeasures k0 (⟨c0_0, c0_1⟩ : TInterval) c1_0 = some true

/-- What the law's plain function must answer. -/
def armillarylaw02_IntervalMatchesReference.Pure : Prop :=
  ∀ (c0_0 : Int) (c0_1 : Int) (c0_2 : Int) (c0_3 : Int) (c0_4 : Int) (c0_5 : Int) (c1_0 : Int), ((-9223372036854775808) ≤ c0_0 ∧ c0_0 ≤ 9223372036854775807) → ((-9223372036854775808) ≤ c0_1 ∧ c0_1 ≤ 9223372036854775807) → ((-9223372036854775808) ≤ c0_2 ∧ c0_2 ≤ 9223372036854775807) → ((-9223372036854775808) ≤ c0_3 ∧ c0_3 ≤ 9223372036854775807) → ((-2147483648) ≤ c0_4 ∧ c0_4 ≤ 2147483647) → (0 ≤ c0_5 ∧ c0_5 ≤ 65535) → ((-9223372036854775808) ≤ c1_0 ∧ c1_0 ≤ 9223372036854775807) → ∃ k0 : Nat, armillarylaw02_IntervalMatchesReference k0 (⟨(⟨c0_0, c0_1⟩ : TInterval), (⟨c0_2, c0_3⟩ : TInterval), c0_4, c0_5⟩ : TOperands) c1_0 = some true

/-- What the law's plain function must answer. -/
def armillarylaw02_IntervalAlgebra.Pure : Prop :=
  ∀ (c0_0 : Int) (c0_1 : Int) (c0_2 : Int) (c0_3 : Int) (c0_4 : Int) (c0_5 : Int), ((-9223372036854775808) ≤ c0_0 ∧ c0_0 ≤ 9223372036854775807) → ((-9223372036854775808) ≤ c0_1 ∧ c0_1 ≤ 9223372036854775807) → ((-9223372036854775808) ≤ c0_2 ∧ c0_2 ≤ 9223372036854775807) → ((-9223372036854775808) ≤ c0_3 ∧ c0_3 ≤ 9223372036854775807) → ((-2147483648) ≤ c0_4 ∧ c0_4 ≤ 2147483647) → (0 ≤ c0_5 ∧ c0_5 ≤ 65535) → ∃ k0 : Nat, armillarylaw02_IntervalAlgebra k0 (⟨(⟨c0_0, c0_1⟩ : TInterval), (⟨c0_2, c0_3⟩ : TInterval), c0_4, c0_5⟩ : TOperands) = some true

end Go.Proofs.YtmjnbhigomjjnaaDoor
