/- The program's functions as plain Lean functions, printed out of the program by a program of this session. -/
import GoSem.Core.View
set_option linter.unusedVariables false
namespace Go.Proofs.Ytgccinodonkgjaa
/-! Words of the printed functions. -/
abbrev w_i64 (n : Int) : Int := Go.IntKind.wrap .i64 n
abbrev w_i32 (n : Int) : Int := Go.IntKind.wrap .i32 n
abbrev w_i16 (n : Int) : Int := Go.IntKind.wrap .i16 n
abbrev w_i8 (n : Int) : Int := Go.IntKind.wrap .i8 n
abbrev w_u64 (n : Int) : Int := Go.IntKind.wrap .u64 n
abbrev w_u32 (n : Int) : Int := Go.IntKind.wrap .u32 n
abbrev w_u16 (n : Int) : Int := Go.IntKind.wrap .u16 n
abbrev w_u8 (n : Int) : Int := Go.IntKind.wrap .u8 n
abbrev mn (x y : Int) : Int := if y < x then y else x
abbrev mx (x y : Int) : Int := if y > x then y else x
def b_and (k : Go.IntKind) (x y : Int) : Int := k.wrap ((BitVec.ofInt k.bits x) &&& (BitVec.ofInt k.bits y)).toNat
def b_or (k : Go.IntKind) (x y : Int) : Int := k.wrap ((BitVec.ofInt k.bits x) ||| (BitVec.ofInt k.bits y)).toNat
def b_xor (k : Go.IntKind) (x y : Int) : Int := k.wrap ((BitVec.ofInt k.bits x) ^^^ (BitVec.ofInt k.bits y)).toNat
def b_andNot (k : Go.IntKind) (x y : Int) : Int := k.wrap ((BitVec.ofInt k.bits x) &&& ~~~(BitVec.ofInt k.bits y)).toNat
def strAt (s : ByteArray) (i : Int) : Option Int := if h : 0 ≤ i ∧ i < s.size then some ((s[i.toNat]'(by omega)).toNat : Int) else none
structure TInterval where
  Lo : Int
  Hi : Int
deriving Inhabited, DecidableEq
structure TA2_List_Int where
  e0 : List Int
  e1 : List Int
deriving Inhabited, DecidableEq
structure TInput where
  A : List TInterval
  B : List TInterval
  C : List TInterval
  N : Int
  P : TA2_List_Int
deriving Inhabited, DecidableEq

/-! armillary/interval.pick[armillary/api.Interval]: function 92 -/
def api_Interval_92 (a0 : Bool) (a1 : TInterval) (a2 : TInterval) : Option (TInterval) :=
  if a0 = true then
    some a1
  else
    some a2

/-! armillary/interval.Intersect: function 54 -/
def interval_Intersect (a0 : TInterval) (a1 : TInterval) : Option (TInterval × Bool) :=
  (api_Interval_92 (decide ((mx a0.Lo a1.Lo) ≤ (mn a0.Hi a1.Hi))) (⟨mx a0.Lo a1.Lo, mn a0.Hi a1.Hi⟩ : TInterval) (⟨0, 0⟩ : TInterval)).bind fun t5 =>
  some (t5, decide ((mx a0.Lo a1.Lo) ≤ (mn a0.Hi a1.Hi)))

/-! armillary/box.Intersect: function 14 -/
def box_Intersect.l8 (a0 : List TInterval) (a1 : List TInterval) : List (TInterval × TInterval) → (List TInterval) → Option (List TInterval × Bool)
  | [], x7 =>
    some (x7, true)
  | (x4, y5) :: rs6, x7 =>
    (interval_Intersect x4 y5).bind fun t12 =>
    if (!t12.2) = true then
      some (([] : List TInterval), false)
    else
      if x7.length < 1000000 then
        box_Intersect.l8 a0 a1 rs6 (x7 ++ [(⟨t12.1.Lo, t12.1.Hi⟩ : TInterval)])
      else none
def box_Intersect (a0 : List TInterval) (a1 : List TInterval) : Option (List TInterval × Bool) :=
  if a0.length ≤ a1.length ∧ a0.length < 1000000 then
    box_Intersect.l8 a0 a1 (a0.zip a1) ([] : List TInterval)
  else none

/-! armillary/interval.Entire: function 88 -/
def interval_Entire : Option (TInterval) :=
  some (⟨(-2147483648), 2147483648⟩ : TInterval)

/-! armillary/interval.IsEntire: function 48 -/
def interval_IsEntire (a0 : TInterval) : Option (Bool) :=
  (interval_Entire).bind fun t3 =>
  some ((a0.Lo == t3.Lo) && ((a0.Hi == t3.Hi) && true))

/-! armillary/fixed.Valid: function 87 -/
def fixed_Valid (a0 : Int) : Option (Bool) :=
  some ((decide ((-2147483648) < a0)) && (decide (a0 < 2147483648)))

/-! armillary/interval.Valid: function 47 -/
def interval_Valid (a0 : TInterval) : Option (Bool) :=
  (interval_IsEntire a0).bind fun t3 =>
  (if (t3 == false) = true then fixed_Valid a0.Lo else some default).bind fun t4 =>
  (if ((t3 == false) && (t4 == true)) = true then fixed_Valid a0.Hi else some default).bind fun t5 =>
  some (t3 || ((t4 && t5) && (decide (a0.Lo ≤ a0.Hi))))

/-! armillary/box.Valid$1: function 56 -/
def box_Valid_1 (a0 : TInterval) : Option (Bool) :=
  (interval_Valid a0).bind fun t3 =>
  some (!t3)

/-! slices.IndexFunc[[]armillary/api.Interval,armillary/api.Interval]: function 93 -/
def api_Interval_93_s56.l6 (k0 : Nat) (a0 : List TInterval) : Nat → Int → Option ((Int) ⊕ (Unit))
  | 0, _ => none
  | k + 1, x5 =>
    if (decide (x5 < (a0.length : Int))) = true then
      if 0 ≤ x5 ∧ x5 < (a0.length : Int) then
        (a0[x5.toNat]?).bind fun t11 =>
        (box_Valid_1 t11).bind fun t12 =>
        if t12 = true then
          some (.inl x5)
        else
          api_Interval_93_s56.l6 k0 a0 k (w_i64 (x5 + 1))
      else none
    else
      some (.inr ())
def api_Interval_93_s56 (k0 : Nat) (a0 : List TInterval) : Option (Int) :=
  (api_Interval_93_s56.l6 k0 a0 k0 0).bind fun j2 => match j2 with
  | .inl r => some r
  | .inr j2v =>
    some (-1)

/-! slices.ContainsFunc[[]armillary/api.Interval,armillary/api.Interval]: function 57 -/
def api_Interval_57_s56 (k0 : Nat) (a0 : List TInterval) : Option (Bool) :=
  (api_Interval_93_s56 k0 a0).bind fun t3 =>
  some (decide (t3 ≥ 0))

/-! armillary/box.Valid: function 18 -/
def box_Valid (k0 : Nat) (a0 : List TInterval) : Option (Bool) :=
  (if (((decide ((a0.length : Int) ≥ 1)) && (decide ((a0.length : Int) ≤ 6))) == true) = true then api_Interval_57_s56 k0 a0 else some default).bind fun t4 =>
  some (((decide ((a0.length : Int) ≥ 1)) && (decide ((a0.length : Int) ≤ 6))) && (!t4))

/-! armillary/armillaryref03.Same: function 20 -/
def armillaryref03_Same.l8 (k0 : Nat) (a0 : List TInterval) (a1 : List TInterval) : Nat → Int → Option ((Bool) ⊕ (Unit))
  | 0, _ => none
  | k + 1, x7 =>
    if (decide (x7 < (a0.length : Int))) = true then
      if 0 ≤ x7 ∧ x7 < (a0.length : Int) then
        (a0[x7.toNat]?).bind fun t12 =>
        if 0 ≤ x7 ∧ x7 < (a1.length : Int) then
          (a1[x7.toNat]?).bind fun t14 =>
          if (!((t12.Lo == t14.Lo) && ((t12.Hi == t14.Hi) && true))) = true then
            some (.inl false)
          else
            armillaryref03_Same.l8 k0 a0 a1 k (w_i64 (x7 + 1))
        else none
      else none
    else
      some (.inr ())
def armillaryref03_Same (k0 : Nat) (a0 : List TInterval) (a1 : List TInterval) : Option (Bool) :=
  if ((a0.length : Int) != (a1.length : Int)) = true then
    some false
  else
    (armillaryref03_Same.l8 k0 a0 a1 k0 0).bind fun j4 => match j4 with
    | .inl r => some r
    | .inr j4v =>
      some true

/-! armillary/interval.Contains: function 59 -/
def interval_Contains (a0 : TInterval) (a1 : Int) : Option (Bool) :=
  (interval_IsEntire a0).bind fun t3 =>
  some (t3 || ((decide (a0.Lo ≤ a1)) && (decide (a1 ≤ a0.Hi))))

/-! armillary/box.Contains: function 21 -/
def box_Contains.l6 (k0 : Nat) (a0 : List TInterval) (a1 : List Int) : Nat → Int → Option ((Bool) ⊕ (Unit))
  | 0, _ => none
  | k + 1, x5 =>
    if (decide (x5 < (a0.length : Int))) = true then
      if 0 ≤ x5 ∧ x5 < (a0.length : Int) then
        (a0[x5.toNat]?).bind fun t10 =>
        if 0 ≤ x5 ∧ x5 < (a1.length : Int) then
          (a1[x5.toNat]?).bind fun t13 =>
          (interval_Contains t10 t13).bind fun t14 =>
          if (!t14) = true then
            some (.inl false)
          else
            box_Contains.l6 k0 a0 a1 k (w_i64 (x5 + 1))
        else none
      else none
    else
      some (.inr ())
def box_Contains (k0 : Nat) (a0 : List TInterval) (a1 : List Int) : Option (Bool) :=
  (box_Contains.l6 k0 a0 a1 k0 0).bind fun j2 => match j2 with
  | .inl r => some r
  | .inr j2v =>
    some true

/-! armillary/interval.Subset: function 61 -/
def interval_Subset (a0 : TInterval) (a1 : TInterval) : Option (Bool) :=
  some ((decide (a1.Lo ≤ a0.Lo)) && (decide (a0.Hi ≤ a1.Hi)))

/-! armillary/box.Subset: function 23 -/
def box_Subset.l6 (a0 : List TInterval) (a1 : List TInterval) : List (TInterval × TInterval) → Option (Bool)
  | [] =>
    some true
  | (x3, y4) :: rs5 =>
    (interval_Subset x3 y4).bind fun t10 =>
    if (!t10) = true then
      some false
    else
      box_Subset.l6 a0 a1 rs5
def box_Subset (a0 : List TInterval) (a1 : List TInterval) : Option (Bool) :=
  if a0.length ≤ a1.length ∧ a0.length < 1000000 then
    box_Subset.l6 a0 a1 (a0.zip a1)
  else none

/-! armillary/interval.Hull: function 63 -/
def interval_Hull (a0 : TInterval) (a1 : TInterval) : Option (TInterval) :=
  some (⟨mn a0.Lo a1.Lo, mx a0.Hi a1.Hi⟩ : TInterval)

/-! armillary/box.Hull: function 26 -/
def box_Hull.l8 (a0 : List TInterval) (a1 : List TInterval) : List (TInterval × TInterval) → (List TInterval) → Option (List TInterval)
  | [], x7 =>
    some x7
  | (x4, y5) :: rs6, x7 =>
    (interval_Hull x4 y5).bind fun t12 =>
    if x7.length < 1000000 then
      box_Hull.l8 a0 a1 rs6 (x7 ++ [t12])
    else none
def box_Hull (a0 : List TInterval) (a1 : List TInterval) : Option (List TInterval) :=
  if a0.length ≤ a1.length ∧ a0.length < 1000000 then
    box_Hull.l8 a0 a1 (a0.zip a1) ([] : List TInterval)
  else none

/-! armillary/interval.New: function 74 -/
def interval_New (a0 : Int) (a1 : Int) : Option (TInterval) :=
  (some (((decide (a0 ≤ (-2147483648))) || (decide (a1 ≥ 2147483648))) || (decide (a0 ≥ 2147483648)))).bind fun z3 =>
  if (z3 || (decide (a1 ≤ (-2147483648)))) = true then
    (interval_Entire).bind fun t5 =>
    some t5
  else
    some (⟨a0, a1⟩ : TInterval)

/-! armillary/interval.Add: function 65 -/
def interval_Add (a0 : TInterval) (a1 : TInterval) : Option (TInterval) :=
  (interval_IsEntire a0).bind fun t3 =>
  (if (t3 == false) = true then interval_IsEntire a1 else some default).bind fun t4 =>
  if (t3 || t4) = true then
    (interval_Entire).bind fun t6 =>
    some t6
  else
    (interval_New (w_i64 (a0.Lo + a1.Lo)) (w_i64 (a0.Hi + a1.Hi))).bind fun t8 =>
    some t8

/-! armillary/fixed.divide$1: function 104 -/
def fixed_divide_1 (a0 : Int) : Option (Int) :=
  some (mn a0 1)

/-! armillary/fixed.floorCeil[int64]: function 103 -/
def fixed_floorCeil_int64_s104 (a0 : Int) (a1 : Int) : Option (Int × Int) :=
  if a1 ≠ 0 then
    if a1 ≠ 0 then
      (if (decide ((Int.tmod a0 a1) < 0)) = true then
        some (w_i64 ((w_i64 (Int.tdiv a0 a1)) - 1), w_i64 ((Int.tmod a0 a1) + a1))
      else
        some (w_i64 (Int.tdiv a0 a1), Int.tmod a0 a1)).bind fun (j7 : Int × Int) =>
      (fixed_divide_1 j7.2).bind fun t9 =>
      some (j7.1, w_i64 (j7.1 + t9))
    else none
  else none

/-! armillary/fixed.divide: function 101 -/
def fixed_divide (a0 : Int) (a1 : Int) : Option (Int × Int) :=
  (if (decide (a1 < 0)) = true then
    some (w_i64 (0 - a0), w_i64 (0 - a1))
  else
    some (a0, a1)).bind fun (j4 : Int × Int) =>
  (fixed_floorCeil_int64_s104 j4.1 j4.2).bind fun t6 =>
  some (t6.1, t6.2)

/-! armillary/fixed.Mul: function 71 -/
def fixed_Mul (a0 : Int) (a1 : Int) : Option (Int × Int) :=
  (fixed_divide (w_i64 (a0 * a1)) 65536).bind fun t3 =>
  some (t3.1, t3.2)

/-! armillary/interval.Mag: function 95 -/
def interval_Mag (a0 : TInterval) : Option (Int) :=
  some (mx a0.Hi (w_i64 (0 - a0.Lo)))

/-! armillary/interval.Square: function 66 -/
def interval_Square (a0 : TInterval) : Option (TInterval) :=
  (interval_IsEntire a0).bind fun t3 =>
  if t3 = true then
    some a0
  else
    (interval_Mag a0).bind fun t6 =>
    (fixed_Mul (mx (mx a0.Lo (w_i64 (0 - a0.Hi))) 0) (mx (mx a0.Lo (w_i64 (0 - a0.Hi))) 0)).bind fun t8 =>
    (fixed_Mul t6 t6).bind fun t10 =>
    (interval_New t8.1 t10.2).bind fun t12 =>
    some t12

/-! armillary/interval.Neg: function 96 -/
def interval_Neg (a0 : TInterval) : Option (TInterval) :=
  some (⟨w_i64 (0 - a0.Hi), w_i64 (0 - a0.Lo)⟩ : TInterval)

/-! armillary/interval.Sub: function 67 -/
def interval_Sub (a0 : TInterval) (a1 : TInterval) : Option (TInterval) :=
  (interval_Neg a1).bind fun t3 =>
  (interval_Add a0 t3).bind fun t4 =>
  some t4

/-! armillary/box.SquaredDistance: function 28 -/
def box_SquaredDistance.l9 (a0 : List TInterval) (a1 : List TInterval) : List (TInterval × TInterval) → Int → Int → Option (TInterval)
  | [], x7, x8 =>
    some (⟨x7, x8⟩ : TInterval)
  | (x4, y5) :: rs6, x7, x8 =>
    (interval_Sub x4 y5).bind fun t13 =>
    (interval_Square t13).bind fun t14 =>
    (interval_Add (⟨x7, x8⟩ : TInterval) t14).bind fun t15 =>
    box_SquaredDistance.l9 a0 a1 rs6 t15.Lo t15.Hi
def box_SquaredDistance (a0 : List TInterval) (a1 : List TInterval) : Option (TInterval) :=
  if a0.length ≤ a1.length ∧ a0.length < 1000000 then
    box_SquaredDistance.l9 a0 a1 (a0.zip a1) 0 0
  else none

/-! armillary/box.Separated: function 30 -/
def box_Separated (a0 : List TInterval) (a1 : List TInterval) (a2 : Int) : Option (Bool) :=
  (box_SquaredDistance a0 a1).bind fun t3 =>
  (fixed_Mul a2 a2).bind fun t5 =>
  (interval_IsEntire t3).bind fun t7 =>
  some ((!t7) && (decide (t3.Lo > t5.2)))

/-! armillary/box.Inflate$1: function 73 -/
def box_Inflate_1 (a0 : TInterval) (q1_0 : Int) : Option (TInterval) :=
  (interval_IsEntire a0).bind fun t3 =>
  if t3 = true then
    some a0
  else
    (interval_New (w_i64 (a0.Lo - q1_0)) (w_i64 (a0.Hi + q1_0))).bind fun t6 =>
    some t6

/-! armillary/box.mapped[armillary/api.Interval,armillary/api.Interval]: function 72 -/
def api_Interval_72_s73.l10 (k0 : Nat) (a0 : List TInterval) (q1_0 : Int) : Nat → (List TInterval) → Int → Option (List TInterval)
  | 0, _, _ => none
  | k + 1, x8, x9 =>
    if (decide (x9 < (a0.length : Int))) = true then
      if 0 ≤ x9 ∧ x9 < (a0.length : Int) then
        (a0[x9.toNat]?).bind fun t14 =>
        (box_Inflate_1 t14 q1_0).bind fun t16 =>
        if 0 ≤ x9 ∧ x9 < (x8.length : Int) then
          (x8[x9.toNat]?).bind fun t18 =>
          api_Interval_72_s73.l10 k0 a0 q1_0 k (x8.set x9.toNat t16) (w_i64 (x9 + 1))
        else none
      else none
    else
      some (x8)
def api_Interval_72_s73 (k0 : Nat) (a0 : List TInterval) (q1_0 : Int) : Option (List TInterval) :=
  if 0 ≤ (a0.length : Int) ∧ (a0.length : Int) < 1000000 then
    (api_Interval_72_s73.l10 k0 a0 q1_0 k0 (List.replicate (a0.length : Int).toNat (⟨0, 0⟩ : TInterval)) 0).bind fun (j5 : List TInterval) =>
    some j5
  else none

/-! armillary/box.Inflate: function 32 -/
def box_Inflate (k0 : Nat) (a0 : List TInterval) (a1 : Int) : Option (List TInterval) :=
  (api_Interval_72_s73 k0 a0 a1).bind fun t3 =>
  some t3

/-! armillary/interval.Point: function 77 -/
def interval_Point (a0 : Int) : Option (TInterval) :=
  (interval_New a0 a0).bind fun t3 =>
  some t3

/-! armillary/box.mapped[int64,armillary/api.Interval]: function 76 -/
def api_Interval_76_s77.l10 (k0 : Nat) (a0 : List Int) : Nat → (List TInterval) → Int → Option (List TInterval)
  | 0, _, _ => none
  | k + 1, x8, x9 =>
    if (decide (x9 < (a0.length : Int))) = true then
      if 0 ≤ x9 ∧ x9 < (a0.length : Int) then
        (a0[x9.toNat]?).bind fun t14 =>
        (interval_Point t14).bind fun t16 =>
        if 0 ≤ x9 ∧ x9 < (x8.length : Int) then
          (x8[x9.toNat]?).bind fun t18 =>
          api_Interval_76_s77.l10 k0 a0 k (x8.set x9.toNat t16) (w_i64 (x9 + 1))
        else none
      else none
    else
      some (x8)
def api_Interval_76_s77 (k0 : Nat) (a0 : List Int) : Option (List TInterval) :=
  if 0 ≤ (a0.length : Int) ∧ (a0.length : Int) < 1000000 then
    (api_Interval_76_s77.l10 k0 a0 k0 (List.replicate (a0.length : Int).toNat (⟨0, 0⟩ : TInterval)) 0).bind fun (j5 : List TInterval) =>
    some j5
  else none

/-! armillary/box.Point: function 34 -/
def box_Point (k0 : Nat) (a0 : List Int) : Option (List TInterval) :=
  (api_Interval_76_s77 k0 a0).bind fun t3 =>
  some t3

/-! slices.Clone[[]armillary/api.Interval,armillary/api.Interval]: function 79 -/
def api_Interval_79 (a0 : List TInterval) : Option (List TInterval) :=
  if 0 < a0.length then
    if 0 < a0.length ∧ a0.length < 1000000 then
      some a0
    else none
  else none

/-! armillary/interval.Mid: function 80 -/
def interval_Mid (a0 : TInterval) : Option (Int) :=
  some (Int.fdiv (w_i64 (a0.Lo + a0.Hi)) 2)

/-! armillary/box.Bisect: function 36 -/
def box_Bisect (a0 : List TInterval) (a1 : Int) : Option (List TInterval × List TInterval × Int) :=
  if (((decide (a1 < 0)) || (decide (a1 ≥ (a0.length : Int)))) == false) = true → 0 ≤ a1 ∧ a1 < (a0.length : Int) then
    (if (((decide (a1 < 0)) || (decide (a1 ≥ (a0.length : Int)))) == false) = true then a0[a1.toNat]? else some default).bind fun t4 =>
    (if (((decide (a1 < 0)) || (decide (a1 ≥ (a0.length : Int)))) == false) = true then interval_IsEntire t4 else some default).bind fun t5 =>
    if (((decide (a1 < 0)) || (decide (a1 ≥ (a0.length : Int)))) || t5) = true then
      some (([] : List TInterval), ([] : List TInterval), 1)
    else
      (api_Interval_79 a0).bind fun t8 =>
      (api_Interval_79 a0).bind fun t9 =>
      if 0 ≤ a1 ∧ a1 < (a0.length : Int) then
        (a0[a1.toNat]?).bind fun t11 =>
        (interval_Mid t11).bind fun t12 =>
        if 0 ≤ a1 ∧ a1 < (t8.length : Int) then
          (t8[a1.toNat]?).bind fun t15 =>
          if 0 ≤ a1 ∧ a1 < (t9.length : Int) then
            (t9[a1.toNat]?).bind fun t17 =>
            some ((t8.set a1.toNat (⟨t15.Lo, t12⟩ : TInterval)), (t9.set a1.toNat (⟨t12, t17.Hi⟩ : TInterval)), 0)
          else none
        else none
      else none
  else none

/-! armillary/box.mapped[armillary/api.Interval,int64]: function 82 -/
def api_Interval_int64_s80.l10 (k0 : Nat) (a0 : List TInterval) : Nat → (List Int) → Int → Option (List Int)
  | 0, _, _ => none
  | k + 1, x8, x9 =>
    if (decide (x9 < (a0.length : Int))) = true then
      if 0 ≤ x9 ∧ x9 < (a0.length : Int) then
        (a0[x9.toNat]?).bind fun t14 =>
        (interval_Mid t14).bind fun t16 =>
        if 0 ≤ x9 ∧ x9 < (x8.length : Int) then
          (x8[x9.toNat]?).bind fun t18 =>
          api_Interval_int64_s80.l10 k0 a0 k (x8.set x9.toNat t16) (w_i64 (x9 + 1))
        else none
      else none
    else
      some (x8)
def api_Interval_int64_s80 (k0 : Nat) (a0 : List TInterval) : Option (List Int) :=
  if 0 ≤ (a0.length : Int) ∧ (a0.length : Int) < 1000000 then
    (api_Interval_int64_s80.l10 k0 a0 k0 (List.replicate (a0.length : Int).toNat (0 : Int)) 0).bind fun (j5 : List Int) =>
    some j5
  else none

/-! armillary/box.Mid: function 38 -/
def box_Mid (k0 : Nat) (a0 : List TInterval) : Option (List Int) :=
  (api_Interval_int64_s80 k0 a0).bind fun t3 =>
  some t3

/-! armillary/interval.Width: function 46 -/
def interval_Width (a0 : TInterval) : Option (Int) :=
  some (w_i64 (a0.Hi - a0.Lo))

/-! slices.Max[[]int64,int64]: function 83 -/
def slices_Max_int64_int64.l12 (k0 : Nat) (a0 : List Int) (t5 : Int) : Nat → Int → Int → Option (Int)
  | 0, _, _ => none
  | k + 1, x10, x11 =>
    if (decide (x11 < (a0.length : Int))) = true then
      if 0 ≤ x11 ∧ x11 < (a0.length : Int) then
        (a0[x11.toNat]?).bind fun t16 =>
        slices_Max_int64_int64.l12 k0 a0 t5 k (mx x10 t16) (w_i64 (x11 + 1))
      else none
    else
      some (x10)
def slices_Max_int64_int64 (k0 : Nat) (a0 : List Int) : Option (Int) :=
  if (decide ((a0.length : Int) < 1)) = true then
    none
  else
    if 0 ≤ (0 : Int) ∧ (0 : Int) < (a0.length : Int) then
      (a0[(0 : Int).toNat]?).bind fun t5 =>
      (slices_Max_int64_int64.l12 k0 a0 t5 k0 t5 1).bind fun (j7 : Int) =>
      some j7
    else none

/-! armillary/box.mapped[armillary/api.Interval,int64]: function 82 -/
def api_Interval_int64_s46.l10 (k0 : Nat) (a0 : List TInterval) : Nat → (List Int) → Int → Option (List Int)
  | 0, _, _ => none
  | k + 1, x8, x9 =>
    if (decide (x9 < (a0.length : Int))) = true then
      if 0 ≤ x9 ∧ x9 < (a0.length : Int) then
        (a0[x9.toNat]?).bind fun t14 =>
        (interval_Width t14).bind fun t16 =>
        if 0 ≤ x9 ∧ x9 < (x8.length : Int) then
          (x8[x9.toNat]?).bind fun t18 =>
          api_Interval_int64_s46.l10 k0 a0 k (x8.set x9.toNat t16) (w_i64 (x9 + 1))
        else none
      else none
    else
      some (x8)
def api_Interval_int64_s46 (k0 : Nat) (a0 : List TInterval) : Option (List Int) :=
  if 0 ≤ (a0.length : Int) ∧ (a0.length : Int) < 1000000 then
    (api_Interval_int64_s46.l10 k0 a0 k0 (List.replicate (a0.length : Int).toNat (0 : Int)) 0).bind fun (j5 : List Int) =>
    some j5
  else none

/-! armillary/box.Width: function 40 -/
def box_Width (k0 : Nat) (a0 : List TInterval) : Option (Int) :=
  (api_Interval_int64_s46 k0 a0).bind fun t3 =>
  (slices_Max_int64_int64 k0 t3).bind fun t4 =>
  some t4

/-! slices.Index[[]int64,int64]: function 85 -/
def slices_Index_int64_int64.l6 (k0 : Nat) (a0 : List Int) (a1 : Int) : Nat → Int → Option ((Int) ⊕ (Unit))
  | 0, _ => none
  | k + 1, x5 =>
    if (decide (x5 < (a0.length : Int))) = true then
      if 0 ≤ x5 ∧ x5 < (a0.length : Int) then
        (a0[x5.toNat]?).bind fun t11 =>
        if (a1 == t11) = true then
          some (.inl x5)
        else
          slices_Index_int64_int64.l6 k0 a0 a1 k (w_i64 (x5 + 1))
      else none
    else
      some (.inr ())
def slices_Index_int64_int64 (k0 : Nat) (a0 : List Int) (a1 : Int) : Option (Int) :=
  (slices_Index_int64_int64.l6 k0 a0 a1 k0 0).bind fun j2 => match j2 with
  | .inl r => some r
  | .inr j2v =>
    some (-1)

/-! armillary/box.WidestAxis: function 42 -/
def box_WidestAxis (k0 : Nat) (a0 : List TInterval) : Option (Int) :=
  (api_Interval_int64_s46 k0 a0).bind fun t3 =>
  (box_Width k0 a0).bind fun t4 =>
  (slices_Index_int64_int64 k0 t3 t4).bind fun t5 =>
  some t5

/-! armillary/armillarylaw03.span: function 51 -/
def armillarylaw03_span (a0 : Int) (a1 : Int) : Option (TInterval) :=
  some (⟨w_i64 (a0 * 65536), w_i64 (a1 * 65536)⟩ : TInterval)

/-! armillary/armillarylaw03.entire: function 52 -/
def armillarylaw03_entire : Option (TInterval) :=
  some (⟨(-2147483648), 2147483648⟩ : TInterval)

/-! armillary/armillarylaw03.sanity: function 12 -/
def armillarylaw03_sanity (k0 : Nat)  : Option (Bool) :=
  (armillarylaw03_span 0 1).bind fun t3 =>
  (armillarylaw03_span 3 5).bind fun t5 =>
  (armillarylaw03_span 0 4).bind fun t7 =>
  (armillarylaw03_span 1 9).bind fun t8 =>
  (box_Bisect ([t7, t8] : List TInterval) 1).bind fun t10 =>
  (box_Bisect ([t7, t8] : List TInterval) 2).bind fun t12 =>
  (armillarylaw03_entire).bind fun t14 =>
  (box_Bisect ([t14] : List TInterval) 0).bind fun t15 =>
  (armillarylaw03_span 3 7).bind fun t17 =>
  (armillarylaw03_span 0 2).bind fun t18 =>
  (box_Intersect ([t7, t8] : List TInterval) ([t17, t18] : List TInterval)).bind fun t19 =>
  (box_Intersect ([t3] : List TInterval) ([t5] : List TInterval)).bind fun t21 =>
  (box_Mid k0 ([t7, t8] : List TInterval)).bind fun t23 =>
  if ((t23.length : Int) != 2) = true then
    some false
  else
    (box_SquaredDistance ([t3] : List TInterval) ([t5] : List TInterval)).bind fun t27 =>
    (armillarylaw03_span 4 25).bind fun t28 =>
    (if (((t27.Lo == t28.Lo) && ((t27.Hi == t28.Hi) && true)) == true) = true then box_Separated ([t3] : List TInterval) ([t5] : List TInterval) 65536 else some default).bind fun t29 =>
    (if ((((t27.Lo == t28.Lo) && ((t27.Hi == t28.Hi) && true)) && t29) == true) = true then box_Separated ([t3] : List TInterval) ([t5] : List TInterval) 131072 else some default).bind fun t30 =>
    if ((((t27.Lo == t28.Lo) && ((t27.Hi == t28.Hi) && true)) && t29) && (!t30)) = true then
      (box_Inflate k0 ([(⟨0, 0⟩ : TInterval)] : List TInterval) 1).bind fun t32 =>
      (armillaryref03_Same k0 t32 ([(⟨(-1), 1⟩ : TInterval)] : List TInterval)).bind fun t33 =>
      if t33 = true then
        (armillarylaw03_span 0 4).bind fun t35 =>
        (armillarylaw03_span 1 5).bind fun t36 =>
        (armillaryref03_Same k0 t10.1 ([t35, t36] : List TInterval)).bind fun t37 =>
        if t37 = true then
          (armillarylaw03_span 0 4).bind fun t39 =>
          (armillarylaw03_span 5 9).bind fun t40 =>
          (armillaryref03_Same k0 t10.2.1 ([t39, t40] : List TInterval)).bind fun t41 =>
          if (((t41 && (t10.2.2 == 0)) && (t12.2.2 == 1)) && (t15.2.2 == 1)) = true then
            (armillarylaw03_span 3 4).bind fun t43 =>
            (armillarylaw03_span 1 2).bind fun t44 =>
            (armillaryref03_Same k0 t19.1 ([t43, t44] : List TInterval)).bind fun t45 =>
            if ((t45 && t19.2) && (!t21.2)) = true then
              (box_Hull ([t3] : List TInterval) ([t5] : List TInterval)).bind fun t47 =>
              (armillarylaw03_span 0 5).bind fun t48 =>
              (armillaryref03_Same k0 t47 ([t48] : List TInterval)).bind fun t49 =>
              if (t49 == true) = true → 0 ≤ (0 : Int) ∧ (0 : Int) < (t23.length : Int) then
                (if (t49 == true) = true then t23[(0 : Int).toNat]? else some default).bind fun t51 =>
                if ((t49 && (t51 == 131072)) == true) = true → 0 ≤ (1 : Int) ∧ (1 : Int) < (t23.length : Int) then
                  (if ((t49 && (t51 == 131072)) == true) = true then t23[(1 : Int).toNat]? else some default).bind fun t53 =>
                  (if (((t49 && (t51 == 131072)) && (t53 == 327680)) == true) = true then box_Width k0 ([t7, t8] : List TInterval) else some default).bind fun t54 =>
                  (if ((((t49 && (t51 == 131072)) && (t53 == 327680)) && (t54 == 524288)) == true) = true then box_WidestAxis k0 ([t7, t8] : List TInterval) else some default).bind fun t55 =>
                  if ((((t49 && (t51 == 131072)) && (t53 == 327680)) && (t54 == 524288)) && (t55 == 1)) = true then
                    (armillarylaw03_entire).bind fun t57 =>
                    (box_Subset ([t3] : List TInterval) ([t57] : List TInterval)).bind fun t58 =>
                    if t58 = true then
                      (armillarylaw03_span 0 4).bind fun t60 =>
                      (armillarylaw03_span 2 9).bind fun t61 =>
                      (box_Subset ([t7, t8] : List TInterval) ([t60, t61] : List TInterval)).bind fun t62 =>
                      if (!t62) = true then
                        (box_Contains k0 ([t7, t8] : List TInterval) ([0, 65536] : List Int)).bind fun t64 =>
                        if t64 = true then
                          (box_Contains k0 ([t7, t8] : List TInterval) ([0, 0] : List Int)).bind fun t66 =>
                          (if ((!t66) == true) = true then box_Valid k0 ([] : List TInterval) else some default).bind fun t67 =>
                          (if (((!t66) && (!t67)) == true) = true then box_Valid k0 ([t7, t8] : List TInterval) else some default).bind fun t68 =>
                          if (((!t66) && (!t67)) && t68) = true then
                            (box_Point k0 ([7] : List Int)).bind fun t70 =>
                            (armillaryref03_Same k0 t70 ([(⟨7, 7⟩ : TInterval)] : List TInterval)).bind fun t71 =>
                            some t71
                          else none
                        else none
                      else none
                    else none
                  else none
                else none
              else none
            else none
          else none
        else none
      else none
    else none

/-! armillary/armillaryref02.IsEntire: function 45 -/
def armillaryref02_IsEntire (a0 : TInterval) : Option (Bool) :=
  some ((a0.Lo == (-2147483648)) && (a0.Hi == 2147483648))

/-! armillary/armillaryref02.Number: function 94 -/
def armillaryref02_Number (a0 : Int) : Option (Bool) :=
  some ((decide (a0 > (-2147483648))) && (decide (a0 < 2147483648)))

/-! armillary/armillaryref02.Valid: function 58 -/
def armillaryref02_Valid (a0 : TInterval) : Option (Bool) :=
  (armillaryref02_IsEntire a0).bind fun t3 =>
  (if (t3 == false) = true then armillaryref02_Number a0.Lo else some default).bind fun t4 =>
  (if ((t3 == false) && (t4 == true)) = true then armillaryref02_Number a0.Hi else some default).bind fun t5 =>
  some (t3 || ((t4 && t5) && (decide (a0.Lo ≤ a0.Hi))))

/-! armillary/armillaryref02.Entire: function 97 -/
def armillaryref02_Entire : Option (TInterval) :=
  some (⟨(-2147483648), 2147483648⟩ : TInterval)

/-! armillary/armillaryref02.Small: function 102 -/
def armillaryref02_Small (a0 : TInterval) : Option (TInterval) :=
  some (⟨mn (Int.tmod a0.Lo 16777216) (Int.tmod a0.Hi 16777216), mx (Int.tmod a0.Lo 16777216) (Int.tmod a0.Hi 16777216)⟩ : TInterval)

/-! armillary/armillaryref02.Made: function 86 -/
def armillaryref02_Made (a0 : TInterval) : Option (TInterval) :=
  (armillaryref02_Valid a0).bind fun t3 =>
  if t3 = true then
    some a0
  else
    if ((b_and .i64 a0.Lo 31) == 7) = true then
      (armillaryref02_Entire).bind fun t7 =>
      some t7
    else
      (armillaryref02_Small a0).bind fun t9 =>
      some t9

/-! armillary/armillaryref03.Made: function 44 -/
def armillaryref03_Made.l9 (k0 : Nat) (a0 : List TInterval) (a1 : Int) : Nat → (List TInterval) → Int → Option (List TInterval)
  | 0, _, _ => none
  | k + 1, x7, x8 =>
    if (decide (x8 < a1)) = true then
      (if (decide (x8 < (a0.length : Int))) = true then
        if 0 ≤ x8 ∧ x8 < (a0.length : Int) then
          (a0[x8.toNat]?).bind fun t21 =>
          (armillaryref02_Made t21).bind fun t22 =>
          some (t22.Lo, t22.Hi)
        else none
      else
        some (0, 0)).bind fun (j14 : Int × Int) =>
      if x7.length < 1000000 then
        armillaryref03_Made.l9 k0 a0 a1 k (x7 ++ [(⟨j14.1, j14.2⟩ : TInterval)]) (w_i64 (x8 + 1))
      else none
    else
      some (x7)
def armillaryref03_Made (k0 : Nat) (a0 : List TInterval) (a1 : Int) : Option (List TInterval) :=
  (armillaryref03_Made.l9 k0 a0 a1 k0 ([] : List TInterval) 0).bind fun (j4 : List TInterval) =>
  some j4

/-! armillary/armillarylaw03.boxes: function 13 -/
def armillarylaw03_boxes (k0 : Nat) (a0 : TInput) : Option (List TInterval × List TInterval) :=
  (armillaryref03_Made k0 a0.A (w_i64 (1 + (w_i64 (Int.tmod a0.N 6))))).bind fun t4 =>
  (armillaryref03_Made k0 a0.B (w_i64 (1 + (w_i64 (Int.tmod a0.N 6))))).bind fun t5 =>
  some (t4, t5)

/-! armillary/armillaryref02.Intersect: function 55 -/
def armillaryref02_Intersect (a0 : TInterval) (a1 : TInterval) : Option (TInterval × Bool) :=
  if (decide ((mx a0.Lo a1.Lo) > (mn a0.Hi a1.Hi))) = true then
    some ((⟨0, 0⟩ : TInterval), false)
  else
    some ((⟨mx a0.Lo a1.Lo, mn a0.Hi a1.Hi⟩ : TInterval), true)

/-! armillary/armillaryref03.Intersect: function 15 -/
def armillaryref03_Intersect.l9 (k0 : Nat) (a0 : List TInterval) (a1 : List TInterval) : Nat → (List TInterval) → Int → Option ((List TInterval × Bool) ⊕ (List TInterval))
  | 0, _, _ => none
  | k + 1, x7, x8 =>
    if (decide (x8 < (a0.length : Int))) = true then
      if 0 ≤ x8 ∧ x8 < (a0.length : Int) then
        (a0[x8.toNat]?).bind fun t13 =>
        if 0 ≤ x8 ∧ x8 < (a1.length : Int) then
          (a1[x8.toNat]?).bind fun t15 =>
          (armillaryref02_Intersect t13 t15).bind fun t16 =>
          if (!t16.2) = true then
            some (.inl (([] : List TInterval), false))
          else
            if x7.length < 1000000 then
              armillaryref03_Intersect.l9 k0 a0 a1 k (x7 ++ [(⟨t16.1.Lo, t16.1.Hi⟩ : TInterval)]) (w_i64 (x8 + 1))
            else none
        else none
      else none
    else
      some (.inr (x7))
def armillaryref03_Intersect (k0 : Nat) (a0 : List TInterval) (a1 : List TInterval) : Option (List TInterval × Bool) :=
  (armillaryref03_Intersect.l9 k0 a0 a1 k0 ([] : List TInterval) 0).bind fun j4 => match j4 with
  | .inl r => some r
  | .inr j4v =>
    some (j4v, true)

/-! armillary/armillaryref03.PointIn: function 16 -/
def armillaryref03_PointIn.l9 (k0 : Nat) (a0 : List TInterval) (a1 : List Int) : Nat → (List Int) → Int → Option (List Int)
  | 0, _, _ => none
  | k + 1, x7, x8 =>
    if (decide (x8 < (a0.length : Int))) = true then
      ((if (decide (x8 < (a1.length : Int))) = true then
        if 0 ≤ x8 ∧ x8 < (a1.length : Int) then
          (a1[x8.toNat]?).bind fun t38 =>
          some (w_i64 t38)
        else none
      else
        some (0)).bind fun (j19 : Int) =>
      if 0 ≤ x8 ∧ x8 < (a0.length : Int) then
        (a0[x8.toNat]?).bind fun t22 =>
        (armillaryref02_IsEntire t22).bind fun t23 =>
        if t23 = true then
          if x7.length < 1000000 then
            some ((x7 ++ [j19]), j19, t22, t23)
          else none
        else
          if 0 ≤ x8 ∧ x8 < (a0.length : Int) then
            (a0[x8.toNat]?).bind fun t28 =>
            if 0 ≤ x8 ∧ x8 < (a0.length : Int) then
              (a0[x8.toNat]?).bind fun t30 =>
              if 0 ≤ x8 ∧ x8 < (a0.length : Int) then
                (a0[x8.toNat]?).bind fun t32 =>
                if x7.length < 1000000 then
                  some ((x7 ++ [w_i64 (t28.Lo + (w_i64 (Int.tdiv (w_i64 ((w_i64 (t30.Hi - t32.Lo)) * j19)) 65535)))]), j19, t22, t23)
                else none
              else none
            else none
          else none
      else none).bind fun (j15 : List Int × Int × TInterval × Bool) =>
      armillaryref03_PointIn.l9 k0 a0 a1 k j15.1 (w_i64 (x8 + 1))
    else
      some (x7)
def armillaryref03_PointIn (k0 : Nat) (a0 : List TInterval) (a1 : List Int) : Option (List Int) :=
  (armillaryref03_PointIn.l9 k0 a0 a1 k0 ([] : List Int) 0).bind fun (j4 : List Int) =>
  some j4

/-! armillary/armillaryref01.Made: function 25 -/
def armillaryref01_Made (a0 : Int) : Option (Int) :=
  some (Int.tmod a0 16777216)

/-! armillary/armillarylaw03.magnitude: function 17 -/
def armillarylaw03_magnitude (a0 : Int) : Option (Int) :=
  (armillaryref01_Made a0).bind fun t3 =>
  some (mx t3 (w_i64 (0 - t3)))

/-! armillary/armillaryref03.Valid: function 19 -/
def armillaryref03_Valid.l6 (k0 : Nat) (a0 : List TInterval) : Nat → Int → Option ((Bool) ⊕ (Unit))
  | 0, _ => none
  | k + 1, x5 =>
    if (decide (x5 < (a0.length : Int))) = true then
      if 0 ≤ x5 ∧ x5 < (a0.length : Int) then
        (a0[x5.toNat]?).bind fun t10 =>
        (armillaryref02_Valid t10).bind fun t11 =>
        if (!t11) = true then
          some (.inl false)
        else
          armillaryref03_Valid.l6 k0 a0 k (w_i64 (x5 + 1))
      else none
    else
      some (.inr ())
def armillaryref03_Valid (k0 : Nat) (a0 : List TInterval) : Option (Bool) :=
  (armillaryref03_Valid.l6 k0 a0 k0 0).bind fun j2 => match j2 with
  | .inl r => some r
  | .inr j2v =>
    some ((decide ((a0.length : Int) ≥ 1)) && (decide ((a0.length : Int) ≤ 6)))

/-! armillary/armillaryref02.Contains: function 60 -/
def armillaryref02_Contains (a0 : TInterval) (a1 : Int) : Option (Bool) :=
  (armillaryref02_IsEntire a0).bind fun t3 =>
  some (t3 || ((decide (a0.Lo ≤ a1)) && (decide (a1 ≤ a0.Hi))))

/-! armillary/armillaryref03.Contains: function 22 -/
def armillaryref03_Contains.l6 (k0 : Nat) (a0 : List TInterval) (a1 : List Int) : Nat → Int → Option ((Bool) ⊕ (Unit))
  | 0, _ => none
  | k + 1, x5 =>
    if (decide (x5 < (a0.length : Int))) = true then
      if 0 ≤ x5 ∧ x5 < (a0.length : Int) then
        (a0[x5.toNat]?).bind fun t10 =>
        if 0 ≤ x5 ∧ x5 < (a1.length : Int) then
          (a1[x5.toNat]?).bind fun t12 =>
          (armillaryref02_Contains t10 t12).bind fun t13 =>
          if (!t13) = true then
            some (.inl false)
          else
            armillaryref03_Contains.l6 k0 a0 a1 k (w_i64 (x5 + 1))
        else none
      else none
    else
      some (.inr ())
def armillaryref03_Contains (k0 : Nat) (a0 : List TInterval) (a1 : List Int) : Option (Bool) :=
  (armillaryref03_Contains.l6 k0 a0 a1 k0 0).bind fun j2 => match j2 with
  | .inl r => some r
  | .inr j2v =>
    some true

/-! armillary/armillaryref02.Subset: function 62 -/
def armillaryref02_Subset (a0 : TInterval) (a1 : TInterval) : Option (Bool) :=
  some ((decide (a1.Lo ≤ a0.Lo)) && (decide (a0.Hi ≤ a1.Hi)))

/-! armillary/armillaryref03.Subset: function 24 -/
def armillaryref03_Subset.l6 (k0 : Nat) (a0 : List TInterval) (a1 : List TInterval) : Nat → Int → Option ((Bool) ⊕ (Unit))
  | 0, _ => none
  | k + 1, x5 =>
    if (decide (x5 < (a0.length : Int))) = true then
      if 0 ≤ x5 ∧ x5 < (a0.length : Int) then
        (a0[x5.toNat]?).bind fun t10 =>
        if 0 ≤ x5 ∧ x5 < (a1.length : Int) then
          (a1[x5.toNat]?).bind fun t12 =>
          (armillaryref02_Subset t10 t12).bind fun t13 =>
          if (!t13) = true then
            some (.inl false)
          else
            armillaryref03_Subset.l6 k0 a0 a1 k (w_i64 (x5 + 1))
        else none
      else none
    else
      some (.inr ())
def armillaryref03_Subset (k0 : Nat) (a0 : List TInterval) (a1 : List TInterval) : Option (Bool) :=
  (armillaryref03_Subset.l6 k0 a0 a1 k0 0).bind fun j2 => match j2 with
  | .inl r => some r
  | .inr j2v =>
    some true

/-! armillary/armillaryref02.Hull: function 64 -/
def armillaryref02_Hull (a0 : TInterval) (a1 : TInterval) : Option (TInterval) :=
  some (⟨mn a0.Lo a1.Lo, mx a0.Hi a1.Hi⟩ : TInterval)

/-! armillary/armillaryref03.Hull: function 27 -/
def armillaryref03_Hull.l9 (k0 : Nat) (a0 : List TInterval) (a1 : List TInterval) : Nat → (List TInterval) → Int → Option (List TInterval)
  | 0, _, _ => none
  | k + 1, x7, x8 =>
    if (decide (x8 < (a0.length : Int))) = true then
      if 0 ≤ x8 ∧ x8 < (a0.length : Int) then
        (a0[x8.toNat]?).bind fun t13 =>
        if 0 ≤ x8 ∧ x8 < (a1.length : Int) then
          (a1[x8.toNat]?).bind fun t15 =>
          (armillaryref02_Hull t13 t15).bind fun t16 =>
          if x7.length < 1000000 then
            armillaryref03_Hull.l9 k0 a0 a1 k (x7 ++ [t16]) (w_i64 (x8 + 1))
          else none
        else none
      else none
    else
      some (x7)
def armillaryref03_Hull (k0 : Nat) (a0 : List TInterval) (a1 : List TInterval) : Option (List TInterval) :=
  (armillaryref03_Hull.l9 k0 a0 a1 k0 ([] : List TInterval) 0).bind fun (j4 : List TInterval) =>
  some j4

/-! armillary/armillaryref02.New: function 75 -/
def armillaryref02_New (a0 : Int) (a1 : Int) : Option (TInterval) :=
  (armillaryref02_Number a0).bind fun t3 =>
  (if ((!t3) == false) = true then armillaryref02_Number a1 else some default).bind fun t4 =>
  if ((!t3) || (!t4)) = true then
    (armillaryref02_Entire).bind fun t6 =>
    some t6
  else
    some (⟨a0, a1⟩ : TInterval)

/-! armillary/armillaryref02.Add: function 68 -/
def armillaryref02_Add (a0 : TInterval) (a1 : TInterval) : Option (TInterval) :=
  (armillaryref02_IsEntire a0).bind fun t3 =>
  (if (t3 == false) = true then armillaryref02_IsEntire a1 else some default).bind fun t4 =>
  if (t3 || t4) = true then
    (armillaryref02_Entire).bind fun t6 =>
    some t6
  else
    (armillaryref02_New (w_i64 (a0.Lo + a1.Lo)) (w_i64 (a0.Hi + a1.Hi))).bind fun t8 =>
    some t8

/-! armillary/armillaryref02.Floor: function 98 -/
def armillaryref02_Floor (a0 : Int) (a1 : Int) : Option (Int) :=
  if a1 ≠ 0 then
    (if a1 ≠ 0 then
      if (((Int.tmod a0 a1) != 0) && (!((decide (a0 < 0)) == (decide (a1 < 0))))) = true then
        some (w_i64 ((w_i64 (Int.tdiv a0 a1)) - 1))
      else
        some (w_i64 (Int.tdiv a0 a1))
    else none).bind fun (j5 : Int) =>
    some j5
  else none

/-! armillary/armillaryref02.Ceil: function 99 -/
def armillaryref02_Ceil (a0 : Int) (a1 : Int) : Option (Int) :=
  (armillaryref02_Floor (w_i64 (0 - a0)) a1).bind fun t3 =>
  some (w_i64 (0 - t3))

/-! armillary/armillaryref02.Square: function 69 -/
def armillaryref02_Square (a0 : TInterval) : Option (TInterval) :=
  (armillaryref02_IsEntire a0).bind fun t3 =>
  if t3 = true then
    (armillaryref02_Entire).bind fun t5 =>
    some t5
  else
    (if ((decide (a0.Lo ≤ 0)) && (decide (a0.Hi ≥ 0))) = true then
      some (0)
    else
      some (mn (w_i64 (a0.Lo * a0.Lo)) (w_i64 (a0.Hi * a0.Hi)))).bind fun (j8 : Int) =>
    (armillaryref02_Floor j8 65536).bind fun t10 =>
    (armillaryref02_Ceil (mx (w_i64 (a0.Lo * a0.Lo)) (w_i64 (a0.Hi * a0.Hi))) 65536).bind fun t11 =>
    (armillaryref02_New t10 t11).bind fun t12 =>
    some t12

/-! armillary/armillaryref02.Neg: function 100 -/
def armillaryref02_Neg (a0 : TInterval) : Option (TInterval) :=
  some (⟨w_i64 (0 - a0.Hi), w_i64 (0 - a0.Lo)⟩ : TInterval)

/-! armillary/armillaryref02.Sub: function 70 -/
def armillaryref02_Sub (a0 : TInterval) (a1 : TInterval) : Option (TInterval) :=
  (armillaryref02_Neg a1).bind fun t3 =>
  (armillaryref02_Add a0 t3).bind fun t4 =>
  some t4

/-! armillary/armillaryref03.SquaredDistance: function 29 -/
def armillaryref03_SquaredDistance.l11 (k0 : Nat) (a0 : List TInterval) (a1 : List TInterval) : Nat → Int → Int → Int → Option (Int × Int)
  | 0, _, _, _ => none
  | k + 1, x8, x9, x10 =>
    if (decide (x8 < (a0.length : Int))) = true then
      if 0 ≤ x8 ∧ x8 < (a0.length : Int) then
        (a0[x8.toNat]?).bind fun t15 =>
        if 0 ≤ x8 ∧ x8 < (a1.length : Int) then
          (a1[x8.toNat]?).bind fun t17 =>
          (armillaryref02_Sub t15 t17).bind fun t18 =>
          (armillaryref02_Square t18).bind fun t19 =>
          (armillaryref02_Add (⟨x9, x10⟩ : TInterval) t19).bind fun t20 =>
          armillaryref03_SquaredDistance.l11 k0 a0 a1 k (w_i64 (x8 + 1)) t20.Lo t20.Hi
        else none
      else none
    else
      some (x9, x10)
def armillaryref03_SquaredDistance (k0 : Nat) (a0 : List TInterval) (a1 : List TInterval) : Option (TInterval) :=
  (armillaryref03_SquaredDistance.l11 k0 a0 a1 k0 0 0 0).bind fun (j5 : Int × Int) =>
  some (⟨j5.1, j5.2⟩ : TInterval)

/-! armillary/armillaryref01.Down: function 89 -/
def armillaryref01_Down (a0 : Int) (a1 : Int) : Option (Int) :=
  if a1 ≠ 0 then
    (if a1 ≠ 0 then
      if (((Int.tmod a0 a1) != 0) && (!((decide (a0 < 0)) == (decide (a1 < 0))))) = true then
        some (w_i64 ((w_i64 (Int.tdiv a0 a1)) - 1))
      else
        some (w_i64 (Int.tdiv a0 a1))
    else none).bind fun (j5 : Int) =>
    some j5
  else none

/-! armillary/armillaryref01.Up: function 90 -/
def armillaryref01_Up (a0 : Int) (a1 : Int) : Option (Int) :=
  if a1 ≠ 0 then
    (if a1 ≠ 0 then
      if (((Int.tmod a0 a1) != 0) && ((decide (a0 < 0)) == (decide (a1 < 0)))) = true then
        some (w_i64 ((w_i64 (Int.tdiv a0 a1)) + 1))
      else
        some (w_i64 (Int.tdiv a0 a1))
    else none).bind fun (j5 : Int) =>
    some j5
  else none

/-! armillary/armillaryref01.Mul: function 49 -/
def armillaryref01_Mul (a0 : Int) (a1 : Int) : Option (Int × Int) :=
  (armillaryref01_Down (w_i64 (a0 * a1)) 65536).bind fun t3 =>
  (armillaryref01_Up (w_i64 (a0 * a1)) 65536).bind fun t4 =>
  some (t3, t4)

/-! armillary/armillaryref03.Separated: function 31 -/
def armillaryref03_Separated (k0 : Nat) (a0 : List TInterval) (a1 : List TInterval) (a2 : Int) : Option (Bool) :=
  (armillaryref03_SquaredDistance k0 a0 a1).bind fun t3 =>
  (armillaryref01_Mul a2 a2).bind fun t5 =>
  (armillaryref02_IsEntire t3).bind fun t7 =>
  some ((!t7) && (decide (t3.Lo > t5.2)))

/-! armillary/armillaryref03.Inflate: function 33 -/
def armillaryref03_Inflate.l9 (k0 : Nat) (a0 : List TInterval) (a1 : Int) : Nat → (List TInterval) → Int → Option (List TInterval)
  | 0, _, _ => none
  | k + 1, x7, x8 =>
    if (decide (x8 < (a0.length : Int))) = true then
      if 0 ≤ x8 ∧ x8 < (a0.length : Int) then
        (a0[x8.toNat]?).bind fun t13 =>
        ((armillaryref02_IsEntire t13).bind fun t23 =>
        if (!t23) = true then
          (armillaryref02_New (w_i64 (t13.Lo - a1)) (w_i64 (t13.Hi + a1))).bind fun t25 =>
          some (t23, (!t23), t25.Lo, t25.Hi)
        else
          some (t23, (!t23), t13.Lo, t13.Hi)).bind fun (j18 : Bool × Bool × Int × Int) =>
        if x7.length < 1000000 then
          armillaryref03_Inflate.l9 k0 a0 a1 k (x7 ++ [(⟨j18.2.2.1, j18.2.2.2⟩ : TInterval)]) (w_i64 (x8 + 1))
        else none
      else none
    else
      some (x7)
def armillaryref03_Inflate (k0 : Nat) (a0 : List TInterval) (a1 : Int) : Option (List TInterval) :=
  (armillaryref03_Inflate.l9 k0 a0 a1 k0 ([] : List TInterval) 0).bind fun (j4 : List TInterval) =>
  some j4

/-! armillary/armillaryref02.Point: function 78 -/
def armillaryref02_Point (a0 : Int) : Option (TInterval) :=
  (armillaryref02_New a0 a0).bind fun t3 =>
  some t3

/-! armillary/armillaryref03.Point: function 35 -/
def armillaryref03_Point.l9 (k0 : Nat) (a0 : List Int) : Nat → (List TInterval) → Int → Option (List TInterval)
  | 0, _, _ => none
  | k + 1, x7, x8 =>
    if (decide (x8 < (a0.length : Int))) = true then
      if 0 ≤ x8 ∧ x8 < (a0.length : Int) then
        (a0[x8.toNat]?).bind fun t13 =>
        (armillaryref02_Point t13).bind fun t14 =>
        if x7.length < 1000000 then
          armillaryref03_Point.l9 k0 a0 k (x7 ++ [t14]) (w_i64 (x8 + 1))
        else none
      else none
    else
      some (x7)
def armillaryref03_Point (k0 : Nat) (a0 : List Int) : Option (List TInterval) :=
  (armillaryref03_Point.l9 k0 a0 k0 ([] : List TInterval) 0).bind fun (j4 : List TInterval) =>
  some j4

/-! armillary/armillarylaw03.BoxMatchesReference: function 3 -/
def armillarylaw03_BoxMatchesReference.l35 (k0 : Nat) (a0 : TInput) (a1 : List Int) (a2 : Int) (t3 : Bool) (t5 : List TInterval × List TInterval) (t9 : List TInterval × Bool) (t11 : List TInterval × Bool) (t13 : List Int) (t15 : Int) (t17 : Bool) (t18 : Bool) (t19 : Bool) (t20 : Bool) (t21 : Bool) (t22 : Bool) (t23 : Bool) : Nat → (List Int) → Int → Option (List Int)
  | 0, _, _ => none
  | k + 1, x33, x34 =>
    if (decide (x34 < (a1.length : Int))) = true then
      if 0 ≤ x34 ∧ x34 < (a1.length : Int) then
        (a1[x34.toNat]?).bind fun t39 =>
        (armillaryref01_Made t39).bind fun t40 =>
        if x33.length < 1000000 then
          armillarylaw03_BoxMatchesReference.l35 k0 a0 a1 a2 t3 t5 t9 t11 t13 t15 t17 t18 t19 t20 t21 t22 t23 k (x33 ++ [t40]) (w_i64 (x34 + 1))
        else none
      else none
    else
      some (x33)
def armillarylaw03_BoxMatchesReference (k0 : Nat) (a0 : TInput) (a1 : List Int) (a2 : Int) : Option (Bool) :=
  (armillarylaw03_sanity k0).bind fun t3 =>
  (armillarylaw03_boxes k0 (⟨a0.A, a0.B, a0.C, a0.N, (⟨a0.P.e0, a0.P.e1⟩ : TA2_List_Int)⟩ : TInput)).bind fun t5 =>
  if ((decide ((a0.A.length : Int) > 20)) || (decide ((a1.length : Int) > 6))) = true then
    some t3
  else
    (box_Intersect t5.1 t5.2).bind fun t9 =>
    (armillaryref03_Intersect k0 t5.1 t5.2).bind fun t11 =>
    (armillaryref03_PointIn k0 t5.1 a0.P.e0).bind fun t13 =>
    (armillarylaw03_magnitude a2).bind fun t15 =>
    (box_Valid k0 a0.A).bind fun t17 =>
    (armillaryref03_Valid k0 a0.A).bind fun t18 =>
    (if ((!(t17 == t18)) == false) = true then armillaryref03_Same k0 t9.1 t11.1 else some default).bind fun t19 =>
    (if ((((!(t17 == t18)) || (!t19)) || (!(t9.2 == t11.2))) == false) = true then box_Contains k0 t5.2 t13 else some default).bind fun t20 =>
    (if ((((!(t17 == t18)) || (!t19)) || (!(t9.2 == t11.2))) == false) = true then armillaryref03_Contains k0 t5.2 t13 else some default).bind fun t21 =>
    (if (((((!(t17 == t18)) || (!t19)) || (!(t9.2 == t11.2))) || (!(t20 == t21))) == false) = true then box_Subset t5.1 t5.2 else some default).bind fun t22 =>
    (if (((((!(t17 == t18)) || (!t19)) || (!(t9.2 == t11.2))) || (!(t20 == t21))) == false) = true then armillaryref03_Subset k0 t5.1 t5.2 else some default).bind fun t23 =>
    if (((((!(t17 == t18)) || (!t19)) || (!(t9.2 == t11.2))) || (!(t20 == t21))) || (!(t22 == t23))) = true then
      some false
    else
      (armillarylaw03_BoxMatchesReference.l35 k0 a0 a1 a2 t3 t5 t9 t11 t13 t15 t17 t18 t19 t20 t21 t22 t23 k0 ([] : List Int) 0).bind fun (j27 : List Int) =>
      (some t3).bind fun z29 =>
      if z29 = true then
        (box_Hull t5.1 t5.2).bind fun t30 =>
        (armillaryref03_Hull k0 t5.1 t5.2).bind fun t31 =>
        (armillaryref03_Same k0 t30 t31).bind fun t32 =>
        (if (t32 == true) = true then box_SquaredDistance t5.1 t5.2 else some default).bind fun t33 =>
        (if (t32 == true) = true then armillaryref03_SquaredDistance k0 t5.1 t5.2 else some default).bind fun t34 =>
        (if ((t32 && ((t33.Lo == t34.Lo) && ((t33.Hi == t34.Hi) && true))) == true) = true then box_Separated t5.1 t5.2 t15 else some default).bind fun t35 =>
        (if ((t32 && ((t33.Lo == t34.Lo) && ((t33.Hi == t34.Hi) && true))) == true) = true then armillaryref03_Separated k0 t5.1 t5.2 t15 else some default).bind fun t36 =>
        (some ((t32 && ((t33.Lo == t34.Lo) && ((t33.Hi == t34.Hi) && true))) && (t35 == t36))).bind fun z37 =>
        if z37 = true then
          (box_Inflate k0 t5.1 t15).bind fun t38 =>
          (armillaryref03_Inflate k0 t5.1 t15).bind fun t39 =>
          (armillaryref03_Same k0 t38 t39).bind fun t40 =>
          (some t40).bind fun z41 =>
          if z41 = true then
            (some ((j27.length : Int) == 0)).bind fun z42 =>
            if z42 = true then
              some true
            else
            if z42 = false then
              (box_Point k0 j27).bind fun t43 =>
              (armillaryref03_Point k0 j27).bind fun t44 =>
              (armillaryref03_Same k0 t43 t44).bind fun t45 =>
              some t45
            else
            none
          else
          if z41 = false then
            some false
          else
          none
        else
        if z37 = false then
          some false
        else
        none
      else
      if z29 = false then
        some false
      else
      none

/-! armillary/armillaryref02.Mid: function 81 -/
def armillaryref02_Mid (a0 : TInterval) : Option (Int) :=
  (armillaryref02_Floor (w_i64 (a0.Lo + a0.Hi)) 2).bind fun t3 =>
  some t3

/-! armillary/armillaryref03.Bisect: function 37 -/
def armillaryref03_Bisect (a0 : List TInterval) (a1 : Int) : Option (List TInterval × List TInterval × Int) :=
  if (((decide (a1 < 0)) || (decide (a1 ≥ (a0.length : Int)))) == false) = true → 0 ≤ a1 ∧ a1 < (a0.length : Int) then
    (if (((decide (a1 < 0)) || (decide (a1 ≥ (a0.length : Int)))) == false) = true then a0[a1.toNat]? else some default).bind fun t4 =>
    (if (((decide (a1 < 0)) || (decide (a1 ≥ (a0.length : Int)))) == false) = true then armillaryref02_IsEntire t4 else some default).bind fun t5 =>
    if (((decide (a1 < 0)) || (decide (a1 ≥ (a0.length : Int)))) || t5) = true then
      some (([] : List TInterval), ([] : List TInterval), 1)
    else
      if 0 < a0.length ∧ a0.length < 1000000 then
        if 0 < a0.length ∧ a0.length < 1000000 then
          if 0 ≤ a1 ∧ a1 < (a0.length : Int) then
            (a0[a1.toNat]?).bind fun t13 =>
            (armillaryref02_Mid t13).bind fun t14 =>
            if 0 ≤ a1 ∧ a1 < (a0.length : Int) then
              (a0[a1.toNat]?).bind fun t17 =>
              if 0 ≤ a1 ∧ a1 < (a0.length : Int) then
                (a0[a1.toNat]?).bind fun t19 =>
                if 0 ≤ a1 ∧ a1 < (a0.length : Int) then
                  (a0[a1.toNat]?).bind fun t22 =>
                  if 0 ≤ a1 ∧ a1 < (a0.length : Int) then
                    (a0[a1.toNat]?).bind fun t24 =>
                    some ((a0.set a1.toNat (⟨t17.Lo, t14⟩ : TInterval)), (a0.set a1.toNat (⟨t14, t22.Hi⟩ : TInterval)), 0)
                  else none
                else none
              else none
            else none
          else none
        else none
      else none
  else none

/-! armillary/armillaryref03.Mid: function 39 -/
def armillaryref03_Mid.l9 (k0 : Nat) (a0 : List TInterval) : Nat → (List Int) → Int → Option (List Int)
  | 0, _, _ => none
  | k + 1, x7, x8 =>
    if (decide (x8 < (a0.length : Int))) = true then
      if 0 ≤ x8 ∧ x8 < (a0.length : Int) then
        (a0[x8.toNat]?).bind fun t13 =>
        (armillaryref02_Mid t13).bind fun t14 =>
        if x7.length < 1000000 then
          armillaryref03_Mid.l9 k0 a0 k (x7 ++ [t14]) (w_i64 (x8 + 1))
        else none
      else none
    else
      some (x7)
def armillaryref03_Mid (k0 : Nat) (a0 : List TInterval) : Option (List Int) :=
  (armillaryref03_Mid.l9 k0 a0 k0 ([] : List Int) 0).bind fun (j4 : List Int) =>
  some j4

/-! armillary/armillaryref02.Width: function 84 -/
def armillaryref02_Width (a0 : TInterval) : Option (Int) :=
  some (w_i64 (a0.Hi - a0.Lo))

/-! armillary/armillaryref03.Width: function 41 -/
def armillaryref03_Width.l9 (k0 : Nat) (a0 : List TInterval) : Nat → Int → Int → Option (Int)
  | 0, _, _ => none
  | k + 1, x7, x8 =>
    if (decide (x8 < (a0.length : Int))) = true then
      if 0 ≤ x8 ∧ x8 < (a0.length : Int) then
        (a0[x8.toNat]?).bind fun t13 =>
        (armillaryref02_Width t13).bind fun t14 =>
        armillaryref03_Width.l9 k0 a0 k (mx x7 t14) (w_i64 (x8 + 1))
      else none
    else
      some (x7)
def armillaryref03_Width (k0 : Nat) (a0 : List TInterval) : Option (Int) :=
  (armillaryref03_Width.l9 k0 a0 k0 0 0).bind fun (j4 : Int) =>
  some j4

/-! armillary/armillaryref03.WidestAxis: function 43 -/
def armillaryref03_WidestAxis.l6 (k0 : Nat) (a0 : List TInterval) : Nat → Int → Option ((Int) ⊕ (Unit))
  | 0, _ => none
  | k + 1, x5 =>
    if (decide (x5 < (a0.length : Int))) = true then
      if 0 ≤ x5 ∧ x5 < (a0.length : Int) then
        (a0[x5.toNat]?).bind fun t10 =>
        (armillaryref02_Width t10).bind fun t11 =>
        (armillaryref03_Width k0 a0).bind fun t12 =>
        if (t11 == t12) = true then
          some (.inl x5)
        else
          armillaryref03_WidestAxis.l6 k0 a0 k (w_i64 (x5 + 1))
      else none
    else
      some (.inr ())
def armillaryref03_WidestAxis (k0 : Nat) (a0 : List TInterval) : Option (Int) :=
  (armillaryref03_WidestAxis.l6 k0 a0 k0 0).bind fun j2 => match j2 with
  | .inl r => some r
  | .inr j2v =>
    some 0

/-! armillary/armillarylaw03.BoxBisectionMatchesReference: function 4 -/
def armillarylaw03_BoxBisectionMatchesReference.l26 (k0 : Nat) (a0 : TInput) (a1 : Int) (t3 : Bool) (t5 : List TInterval × List TInterval) (t7 : List TInterval × List TInterval × Int) (t9 : List TInterval × List TInterval × Int) (t11 : List Int) (t13 : List Int) : Nat → Int → Option ((Bool) ⊕ (Unit))
  | 0, _ => none
  | k + 1, x25 =>
    if (decide (x25 < (t11.length : Int))) = true then
      if 0 ≤ x25 ∧ x25 < (t11.length : Int) then
        (t11[x25.toNat]?).bind fun t30 =>
        if 0 ≤ x25 ∧ x25 < (t13.length : Int) then
          (t13[x25.toNat]?).bind fun t32 =>
          if (t30 != t32) = true then
            some (.inl false)
          else
            armillarylaw03_BoxBisectionMatchesReference.l26 k0 a0 a1 t3 t5 t7 t9 t11 t13 k (w_i64 (x25 + 1))
        else none
      else none
    else
      some (.inr ())
def armillarylaw03_BoxBisectionMatchesReference (k0 : Nat) (a0 : TInput) (a1 : Int) : Option (Bool) :=
  (armillarylaw03_sanity k0).bind fun t3 =>
  (armillarylaw03_boxes k0 (⟨a0.A, a0.B, a0.C, a0.N, (⟨a0.P.e0, a0.P.e1⟩ : TA2_List_Int)⟩ : TInput)).bind fun t5 =>
  (box_Bisect t5.1 (w_i64 a1)).bind fun t7 =>
  (armillaryref03_Bisect t5.1 (w_i64 a1)).bind fun t9 =>
  (box_Mid k0 t5.1).bind fun t11 =>
  (armillaryref03_Mid k0 t5.1).bind fun t13 =>
  if ((t11.length : Int) != (t13.length : Int)) = true then
    some false
  else
    (armillarylaw03_BoxBisectionMatchesReference.l26 k0 a0 a1 t3 t5 t7 t9 t11 t13 k0 0).bind fun j16 => match j16 with
    | .inl r => some r
    | .inr j16v =>
      (if (t3 == true) = true then armillaryref03_Same k0 t7.1 t9.1 else some default).bind fun t18 =>
      (if ((t3 && t18) == true) = true then armillaryref03_Same k0 t7.2.1 t9.2.1 else some default).bind fun t19 =>
      (if ((((t3 && t18) && t19) && (t7.2.2 == t9.2.2)) == true) = true then box_Width k0 t5.1 else some default).bind fun t20 =>
      (if ((((t3 && t18) && t19) && (t7.2.2 == t9.2.2)) == true) = true then armillaryref03_Width k0 t5.1 else some default).bind fun t21 =>
      (if (((((t3 && t18) && t19) && (t7.2.2 == t9.2.2)) && (t20 == t21)) == true) = true then box_WidestAxis k0 t5.1 else some default).bind fun t22 =>
      (if (((((t3 && t18) && t19) && (t7.2.2 == t9.2.2)) && (t20 == t21)) == true) = true then armillaryref03_WidestAxis k0 t5.1 else some default).bind fun t23 =>
      some (((((t3 && t18) && t19) && (t7.2.2 == t9.2.2)) && (t20 == t21)) && (t22 == t23))

/-! armillary/armillarylaw03.BoxSubsetOrder: function 5 -/
def armillarylaw03_BoxSubsetOrder (k0 : Nat) (a0 : TInput) : Option (Bool) :=
  (armillarylaw03_sanity k0).bind fun t3 =>
  (armillarylaw03_boxes k0 (⟨a0.A, a0.B, a0.C, a0.N, (⟨a0.P.e0, a0.P.e1⟩ : TA2_List_Int)⟩ : TInput)).bind fun t5 =>
  (armillaryref03_Made k0 a0.C (w_i64 (1 + (w_i64 (Int.tmod a0.N 6))))).bind fun t7 =>
  (armillaryref03_PointIn k0 t5.1 a0.P.e0).bind fun t9 =>
  (box_Subset t5.1 t5.1).bind fun t11 =>
  (if ((!t11) == false) = true then box_Subset t5.1 t5.2 else some default).bind fun t12 =>
  (if (((!t11) == false) && (t12 == true)) = true then box_Subset t5.2 t5.1 else some default).bind fun t13 =>
  (if (((!t11) == false) && ((t12 && t13) == true)) = true then armillaryref03_Same k0 t5.1 t5.2 else some default).bind fun t14 =>
  (if (((!t11) || ((t12 && t13) && (!t14))) == false) = true then box_Subset t5.1 t5.2 else some default).bind fun t15 =>
  (if ((((!t11) || ((t12 && t13) && (!t14))) == false) && (t15 == true)) = true then box_Subset t5.2 t7 else some default).bind fun t16 =>
  (if ((((!t11) || ((t12 && t13) && (!t14))) == false) && ((t15 && t16) == true)) = true then box_Subset t5.1 t7 else some default).bind fun t17 =>
  if (((!t11) || ((t12 && t13) && (!t14))) || ((t15 && t16) && (!t17))) = true then
    some false
  else
    (if (t3 == true) = true then box_Contains k0 t5.1 t9 else some default).bind fun t20 =>
    (if ((t3 && t20) == true) = true then box_Subset t5.1 t5.2 else some default).bind fun t21 =>
    (if (((t3 && t20) == true) && ((!t21) == false)) = true then box_Contains k0 t5.2 t9 else some default).bind fun t22 =>
    (some ((t3 && t20) && ((!t21) || t22))).bind fun z23 =>
    if z23 = true then
      (box_Point k0 t9).bind fun t24 =>
      (box_Subset t24 t5.1).bind fun t25 =>
      some t25
    else
    if z23 = false then
      some false
    else
    none

/-! armillary/armillarylaw03.BoxHullIsLeastUpperBound: function 6 -/
def armillarylaw03_BoxHullIsLeastUpperBound (k0 : Nat) (a0 : TInput) : Option (Bool) :=
  (armillarylaw03_sanity k0).bind fun t3 =>
  (armillarylaw03_boxes k0 (⟨a0.A, a0.B, a0.C, a0.N, (⟨a0.P.e0, a0.P.e1⟩ : TA2_List_Int)⟩ : TInput)).bind fun t5 =>
  (armillaryref03_Made k0 a0.C (w_i64 (1 + (w_i64 (Int.tmod a0.N 6))))).bind fun t7 =>
  (box_Hull t5.1 t5.2).bind fun t9 =>
  (box_Valid k0 t9).bind fun t11 =>
  (if ((!t11) == false) = true then box_Subset t5.1 t9 else some default).bind fun t12 =>
  (if (((!t11) || (!t12)) == false) = true then box_Subset t5.2 t9 else some default).bind fun t13 =>
  (some (((!t11) || (!t12)) || (!t13))).bind fun z14 =>
  if z14 = true then
    some false
  else
  if z14 = false then
    (box_Hull t5.2 t5.1).bind fun t15 =>
    (armillaryref03_Same k0 t9 t15).bind fun t16 =>
    (if ((!t16) == false) = true then box_Subset t5.1 t7 else some default).bind fun t17 =>
    (if (((!t16) == false) && (t17 == true)) = true then box_Subset t5.2 t7 else some default).bind fun t18 =>
    (if (((!t16) == false) && ((t17 && t18) == true)) = true then box_Subset t9 t7 else some default).bind fun t19 =>
    if ((!t16) || ((t17 && t18) && (!t19))) = true then
      some false
    else
      (if (t3 == true) = true then box_Subset t5.1 t5.2 else some default).bind fun t22 =>
      (if ((t3 == true) && ((!t22) == false)) = true then armillaryref03_Same k0 t9 t5.2 else some default).bind fun t23 =>
      (some (t3 && ((!t22) || t23))).bind fun z24 =>
      if z24 = true then
        (box_Hull t9 t5.1).bind fun t25 =>
        (armillaryref03_Same k0 t25 t9).bind fun t26 =>
        some t26
      else
      if z24 = false then
        some false
      else
      none
  else
  none

/-! armillary/armillarylaw03.BoxIntersectIsGreatestLowerBound: function 7 -/
def armillarylaw03_BoxIntersectIsGreatestLowerBound (k0 : Nat) (a0 : TInput) : Option (Bool) :=
  (armillarylaw03_sanity k0).bind fun t3 =>
  (armillarylaw03_boxes k0 (⟨a0.A, a0.B, a0.C, a0.N, (⟨a0.P.e0, a0.P.e1⟩ : TA2_List_Int)⟩ : TInput)).bind fun t5 =>
  (armillaryref03_Made k0 a0.C (w_i64 (1 + (w_i64 (Int.tmod a0.N 6))))).bind fun t7 =>
  (armillaryref03_PointIn k0 t5.1 a0.P.e0).bind fun t9 =>
  (box_Intersect t5.1 t5.2).bind fun t11 =>
  (box_Intersect t5.2 t5.1).bind fun t13 =>
  (if ((!(t11.2 == t13.2)) == false) = true then armillaryref03_Same k0 t11.1 t13.1 else some default).bind fun t15 =>
  (if (((!(t11.2 == t13.2)) || (!t15)) == false) = true then box_Subset t7 t5.1 else some default).bind fun t16 =>
  (if ((((!(t11.2 == t13.2)) || (!t15)) == false) && (t16 == true)) = true then box_Subset t7 t5.2 else some default).bind fun t17 =>
  (if (((((!(t11.2 == t13.2)) || (!t15)) == false) && ((t16 && t17) == true)) && (t11.2 == true)) = true then box_Subset t7 t11.1 else some default).bind fun t18 =>
  if (((!(t11.2 == t13.2)) || (!t15)) || ((t16 && t17) && (!(t11.2 && t18)))) = true then
    some false
  else
    if (!t11.2) = true then
      (if (t3 == true) = true then box_Contains k0 t5.2 t9 else some default).bind fun t22 =>
      some ((t3 && (!t22)) && ((t11.1.length : Int) == 0))
    else
      (if (t3 == true) = true then box_Valid k0 t11.1 else some default).bind fun t24 =>
      (if ((t3 && t24) == true) = true then box_Subset t11.1 t5.1 else some default).bind fun t25 =>
      (if (((t3 && t24) && t25) == true) = true then box_Subset t11.1 t5.2 else some default).bind fun t26 =>
      (if ((((t3 && t24) && t25) && t26) == true) = true then box_Contains k0 t11.1 t9 else some default).bind fun t27 =>
      (if ((((t3 && t24) && t25) && t26) == true) = true then box_Contains k0 t5.2 t9 else some default).bind fun t28 =>
      some ((((t3 && t24) && t25) && t26) && (t27 == t28))

/-! armillary/armillarylaw03.BoxBisectionCovers: function 8 -/
def armillarylaw03_BoxBisectionCovers (k0 : Nat) (a0 : TInput) : Option (Bool) :=
  (armillarylaw03_sanity k0).bind fun t3 =>
  (armillarylaw03_boxes k0 (⟨a0.A, a0.B, a0.C, a0.N, (⟨a0.P.e0, a0.P.e1⟩ : TA2_List_Int)⟩ : TInput)).bind fun t5 =>
  (armillaryref03_PointIn k0 t5.1 a0.P.e0).bind fun t7 =>
  (box_WidestAxis k0 t5.1).bind fun t9 =>
  (box_Bisect t5.1 t9).bind fun t11 =>
  if ((decide (t9 < 0)) || (decide (t9 ≥ (t5.1.length : Int)))) = true then
    some false
  else
    if 0 ≤ t9 ∧ t9 < (t5.1.length : Int) then
      (t5.1[t9.toNat]?).bind fun t16 =>
      (armillaryref02_IsEntire t16).bind fun t17 =>
      if t17 = true then
        some (t3 && (t11.2.2 == 1))
      else
        (some (((t11.2.2 != 0) || ((t11.1.length : Int) != (t5.1.length : Int))) || ((t11.2.1.length : Int) != (t5.1.length : Int)))).bind fun z20 =>
        (some z20).bind fun z21 =>
        if z21 = true then
          some false
        else
        if z21 = false then
          (box_Hull t11.1 t11.2.1).bind fun t22 =>
          (armillaryref03_Same k0 t22 t5.1).bind fun t23 =>
          (if ((!t23) == false) = true then box_Contains k0 t11.1 t7 else some default).bind fun t24 =>
          (if (((!t23) == false) && (t24 == false)) = true then box_Contains k0 t11.2.1 t7 else some default).bind fun t25 =>
          if ((!t23) || (!(t24 || t25))) = true then
            some false
          else
            (box_Intersect t11.1 t11.2.1).bind fun t28 =>
            if ((t3 && t28.2) == true) = true → 0 ≤ t9 ∧ t9 < (t28.1.length : Int) then
              (if ((t3 && t28.2) == true) = true then t28.1[t9.toNat]? else some default).bind fun t31 =>
              (if ((t3 && t28.2) == true) = true then interval_Width t31 else some default).bind fun t32 =>
              if (((t3 && t28.2) && (t32 == 0)) == true) = true → 0 ≤ t9 ∧ t9 < (t11.1.length : Int) then
                (if (((t3 && t28.2) && (t32 == 0)) == true) = true then t11.1[t9.toNat]? else some default).bind fun t34 =>
                (if (((t3 && t28.2) && (t32 == 0)) == true) = true then interval_Width t34 else some default).bind fun t35 =>
                if (((t3 && t28.2) && (t32 == 0)) == true) = true → 0 ≤ t9 ∧ t9 < (t11.2.1.length : Int) then
                  (if (((t3 && t28.2) && (t32 == 0)) == true) = true then t11.2.1[t9.toNat]? else some default).bind fun t37 =>
                  (if (((t3 && t28.2) && (t32 == 0)) == true) = true then interval_Width t37 else some default).bind fun t38 =>
                  if (((t3 && t28.2) && (t32 == 0)) == true) = true → 0 ≤ t9 ∧ t9 < (t5.1.length : Int) then
                    (if (((t3 && t28.2) && (t32 == 0)) == true) = true then t5.1[t9.toNat]? else some default).bind fun t40 =>
                    (if (((t3 && t28.2) && (t32 == 0)) == true) = true then interval_Width t40 else some default).bind fun t41 =>
                    if ((((t3 && t28.2) && (t32 == 0)) && ((w_i64 (t35 + t38)) == t41)) == true) = true → 0 ≤ t9 ∧ t9 < (t11.2.1.length : Int) then
                      (if ((((t3 && t28.2) && (t32 == 0)) && ((w_i64 (t35 + t38)) == t41)) == true) = true then t11.2.1[t9.toNat]? else some default).bind fun t43 =>
                      (if ((((t3 && t28.2) && (t32 == 0)) && ((w_i64 (t35 + t38)) == t41)) == true) = true then interval_Width t43 else some default).bind fun t44 =>
                      if ((((t3 && t28.2) && (t32 == 0)) && ((w_i64 (t35 + t38)) == t41)) == true) = true → 0 ≤ t9 ∧ t9 < (t11.1.length : Int) then
                        (if ((((t3 && t28.2) && (t32 == 0)) && ((w_i64 (t35 + t38)) == t41)) == true) = true then t11.1[t9.toNat]? else some default).bind fun t46 =>
                        (if ((((t3 && t28.2) && (t32 == 0)) && ((w_i64 (t35 + t38)) == t41)) == true) = true then interval_Width t46 else some default).bind fun t47 =>
                        (some ((((t3 && t28.2) && (t32 == 0)) && ((w_i64 (t35 + t38)) == t41)) && (decide ((w_i64 (t44 - t47)) ≤ 1)))).bind fun z48 =>
                        if (z48 == true) = true → 0 ≤ t9 ∧ t9 < (t11.2.1.length : Int) then
                          (if (z48 == true) = true then t11.2.1[t9.toNat]? else some default).bind fun t50 =>
                          (if (z48 == true) = true then interval_Width t50 else some default).bind fun t51 =>
                          if (z48 == true) = true → 0 ≤ t9 ∧ t9 < (t11.1.length : Int) then
                            (if (z48 == true) = true then t11.1[t9.toNat]? else some default).bind fun t53 =>
                            (if (z48 == true) = true then interval_Width t53 else some default).bind fun t54 =>
                            some (z48 && (decide (t51 ≥ t54)))
                          else none
                        else none
                      else none
                    else none
                  else none
                else none
              else none
            else none
        else
        none
    else none

/-! armillary/armillarylaw03.BoxDistanceEncloses: function 9 -/
def armillarylaw03_BoxDistanceEncloses.l30 (k0 : Nat) (a0 : TInput) (t3 : Bool) (t5 : List TInterval × List TInterval) (t7 : List Int) (t9 : List Int) (t11 : TInterval) (t13 : TInterval) (t14 : Bool) (t17 : Bool) : Nat → Int → Int → Int → Option (Int × Int)
  | 0, _, _, _ => none
  | k + 1, x27, x28, x29 =>
    if (decide (x29 < (t7.length : Int))) = true then
      if 0 ≤ x29 ∧ x29 < (t7.length : Int) then
        (t7[x29.toNat]?).bind fun t34 =>
        if 0 ≤ x29 ∧ x29 < (t9.length : Int) then
          (t9[x29.toNat]?).bind fun t36 =>
          if 0 ≤ x29 ∧ x29 < (t7.length : Int) then
            (t7[x29.toNat]?).bind fun t38 =>
            if 0 ≤ x29 ∧ x29 < (t9.length : Int) then
              (t9[x29.toNat]?).bind fun t40 =>
              (armillaryref01_Mul (w_i64 (t34 - t36)) (w_i64 (t38 - t40))).bind fun t41 =>
              armillarylaw03_BoxDistanceEncloses.l30 k0 a0 t3 t5 t7 t9 t11 t13 t14 t17 k (w_i64 (x27 + t41.1)) (w_i64 (x28 + t41.2)) (w_i64 (x29 + 1))
            else none
          else none
        else none
      else none
    else
      some (x27, x28)
def armillarylaw03_BoxDistanceEncloses (k0 : Nat) (a0 : TInput) : Option (Bool) :=
  (armillarylaw03_sanity k0).bind fun t3 =>
  (armillarylaw03_boxes k0 (⟨a0.A, a0.B, a0.C, a0.N, (⟨a0.P.e0, a0.P.e1⟩ : TA2_List_Int)⟩ : TInput)).bind fun t5 =>
  (armillaryref03_PointIn k0 t5.1 a0.P.e0).bind fun t7 =>
  (armillaryref03_PointIn k0 t5.2 a0.P.e1).bind fun t9 =>
  (box_SquaredDistance t5.1 t5.2).bind fun t11 =>
  (box_SquaredDistance t5.2 t5.1).bind fun t13 =>
  (if ((!((t11.Lo == t13.Lo) && ((t11.Hi == t13.Hi) && true))) == false) = true then interval_Valid t11 else some default).bind fun t14 =>
  if ((!((t11.Lo == t13.Lo) && ((t11.Hi == t13.Hi) && true))) || (!t14)) = true then
    some false
  else
    (interval_IsEntire t11).bind fun t17 =>
    if t17 = true then
      some t3
    else
      (armillarylaw03_BoxDistanceEncloses.l30 k0 a0 t3 t5 t7 t9 t11 t13 t14 t17 k0 0 0 0).bind fun (j23 : Int × Int) =>
      (some (((t3 && (decide (t11.Lo ≤ j23.2))) && (decide (j23.1 ≤ t11.Hi))) && (decide (t11.Lo ≥ 0)))).bind fun z25 =>
      some z25

/-! armillary/armillarylaw03.BoxSeparatedIsMonotone: function 10 -/
def armillarylaw03_BoxSeparatedIsMonotone (k0 : Nat) (a0 : TInput) (a1 : Int) (a2 : Int) : Option (Bool) :=
  (armillarylaw03_sanity k0).bind fun t3 =>
  (armillarylaw03_boxes k0 (⟨a0.A, a0.B, a0.C, a0.N, (⟨a0.P.e0, a0.P.e1⟩ : TA2_List_Int)⟩ : TInput)).bind fun t5 =>
  (armillarylaw03_magnitude a1).bind fun t7 =>
  (armillarylaw03_magnitude a2).bind fun t9 =>
  (box_Separated t5.1 t5.2 t7).bind fun t11 =>
  (box_Separated t5.2 t5.1 t7).bind fun t13 =>
  (if ((!(t11 == t13)) == false) = true then box_Separated t5.1 t5.1 t9 else some default).bind fun t14 =>
  if ((!(t11 == t13)) || t14) = true then
    some false
  else
    if (!t11) = true then
      some t3
    else
      (box_Intersect t5.1 t5.2).bind fun t19 =>
      (armillaryref03_PointIn k0 t5.1 a0.P.e0).bind fun t21 =>
      (box_Point k0 t21).bind fun t22 =>
      (armillaryref03_PointIn k0 t5.2 a0.P.e1).bind fun t24 =>
      (box_Point k0 t24).bind fun t25 =>
      (if ((t3 && (!t19.2)) == true) = true then box_Separated t22 t25 t7 else some default).bind fun t27 =>
      (if ((((t3 && (!t19.2)) && t27) == true) && ((decide (t9 > t7)) == false)) = true then box_Separated t5.1 t5.2 t9 else some default).bind fun t28 =>
      (if ((((t3 && (!t19.2)) && t27) && ((decide (t9 > t7)) || t28)) == true) = true then box_Subset t22 t5.2 else some default).bind fun t29 =>
      some ((((t3 && (!t19.2)) && t27) && ((decide (t9 > t7)) || t28)) && (!t29))

/-! armillary/armillarylaw03.unbounded: function 50 -/
def armillarylaw03_unbounded.l6 (k0 : Nat) (a0 : List TInterval) : Nat → Int → Option ((Bool) ⊕ (Unit))
  | 0, _ => none
  | k + 1, x5 =>
    if (decide (x5 < (a0.length : Int))) = true then
      if 0 ≤ x5 ∧ x5 < (a0.length : Int) then
        (a0[x5.toNat]?).bind fun t10 =>
        (interval_IsEntire t10).bind fun t11 =>
        if t11 = true then
          some (.inl true)
        else
          armillarylaw03_unbounded.l6 k0 a0 k (w_i64 (x5 + 1))
      else none
    else
      some (.inr ())
def armillarylaw03_unbounded (k0 : Nat) (a0 : List TInterval) : Option (Bool) :=
  (armillarylaw03_unbounded.l6 k0 a0 k0 0).bind fun j2 => match j2 with
  | .inl r => some r
  | .inr j2v =>
    some false

/-! armillary/armillarylaw03.BoxInflate: function 11 -/
def armillarylaw03_BoxInflate (k0 : Nat) (a0 : TInput) (a1 : Int) (a2 : Int) : Option (Bool) :=
  (armillarylaw03_sanity k0).bind fun t3 =>
  (armillarylaw03_boxes k0 (⟨a0.A, a0.B, a0.C, a0.N, (⟨a0.P.e0, a0.P.e1⟩ : TA2_List_Int)⟩ : TInput)).bind fun t5 =>
  (armillarylaw03_magnitude a1).bind fun t7 =>
  (armillarylaw03_magnitude a2).bind fun t9 =>
  (box_Inflate k0 t5.1 t7).bind fun t11 =>
  (box_Valid k0 t11).bind fun t13 =>
  (if ((!t13) == false) = true then box_Subset t5.1 t11 else some default).bind fun t14 =>
  (some ((!t13) || (!t14))).bind fun z15 =>
  if z15 = true then
    some false
  else
  if z15 = false then
    (box_Inflate k0 t5.1 0).bind fun t16 =>
    (armillaryref03_Same k0 t16 t5.1).bind fun t17 =>
    (some (!t17)).bind fun z18 =>
    if z18 = true then
      some false
    else
    if z18 = false then
      (box_Inflate k0 t11 t9).bind fun t19 =>
      (box_Inflate k0 t5.1 (w_i64 (t7 + t9))).bind fun t20 =>
      (armillaryref03_Same k0 t19 t20).bind fun t21 =>
      if (!t21) = true then
        some false
      else
        (box_Intersect t11 t5.2).bind fun t24 =>
        (box_Inflate k0 t5.2 t7).bind fun t26 =>
        (box_Intersect t5.1 t26).bind fun t27 =>
        (some t3).bind fun z29 =>
        if z29 = true then
          (if ((t24.2 == t27.2) == false) = true then armillarylaw03_unbounded k0 t11 else some default).bind fun t30 =>
          (some ((t24.2 == t27.2) || t30)).bind fun z31 =>
          if z31 = true then
            (box_Subset t5.1 t5.2).bind fun t32 =>
            (some (!t32)).bind fun z33 =>
            if z33 = true then
              some true
            else
            if z33 = false then
              (box_Inflate k0 t5.2 t7).bind fun t34 =>
              (box_Subset t11 t34).bind fun t35 =>
              some t35
            else
            none
          else
          if z31 = false then
            (box_Inflate k0 t5.2 t7).bind fun t32 =>
            (armillarylaw03_unbounded k0 t32).bind fun t33 =>
            (some t33).bind fun z34 =>
            if z34 = true then
              (box_Subset t5.1 t5.2).bind fun t35 =>
              (some (!t35)).bind fun z36 =>
              if z36 = true then
                some true
              else
              if z36 = false then
                (box_Inflate k0 t5.2 t7).bind fun t37 =>
                (box_Subset t11 t37).bind fun t38 =>
                some t38
              else
              none
            else
            if z34 = false then
              some false
            else
            none
          else
          none
        else
        if z29 = false then
          some false
        else
        none
    else
    none
  else
  none

/-- What the law's plain function must answer. -/
def armillarylaw03_BoxMatchesReference.Pure : Prop :=
  ∀ (c0_0 : List TInterval) (c0_1 : List TInterval) (c0_2 : List TInterval) (c0_3 : Int) (c0_4 : List Int) (c0_5 : List Int) (c1_0 : List Int) (c2_0 : Int), (∀ y ∈ c0_0, ((-9223372036854775808) ≤ y.Lo ∧ y.Lo ≤ 9223372036854775807) ∧ ((-9223372036854775808) ≤ y.Hi ∧ y.Hi ≤ 9223372036854775807)) → (∀ y ∈ c0_1, ((-9223372036854775808) ≤ y.Lo ∧ y.Lo ≤ 9223372036854775807) ∧ ((-9223372036854775808) ≤ y.Hi ∧ y.Hi ≤ 9223372036854775807)) → (∀ y ∈ c0_2, ((-9223372036854775808) ≤ y.Lo ∧ y.Lo ≤ 9223372036854775807) ∧ ((-9223372036854775808) ≤ y.Hi ∧ y.Hi ≤ 9223372036854775807)) → (0 ≤ c0_3 ∧ c0_3 ≤ 255) → (∀ y ∈ c0_4, (0 ≤ y ∧ y ≤ 65535)) → (∀ y ∈ c0_5, (0 ≤ y ∧ y ≤ 65535)) → (∀ y ∈ c1_0, ((-9223372036854775808) ≤ y ∧ y ≤ 9223372036854775807)) → ((-9223372036854775808) ≤ c2_0 ∧ c2_0 ≤ 9223372036854775807) → ∃ k0 : Nat, armillarylaw03_BoxMatchesReference k0 (⟨c0_0, c0_1, c0_2, c0_3, (⟨c0_4, c0_5⟩ : TA2_List_Int)⟩ : TInput) c1_0 c2_0 = some true

/-- What the law's plain function must answer. -/
def armillarylaw03_BoxBisectionMatchesReference.Pure : Prop :=
  ∀ (c0_0 : List TInterval) (c0_1 : List TInterval) (c0_2 : List TInterval) (c0_3 : Int) (c0_4 : List Int) (c0_5 : List Int) (c1_0 : Int), (∀ y ∈ c0_0, ((-9223372036854775808) ≤ y.Lo ∧ y.Lo ≤ 9223372036854775807) ∧ ((-9223372036854775808) ≤ y.Hi ∧ y.Hi ≤ 9223372036854775807)) → (∀ y ∈ c0_1, ((-9223372036854775808) ≤ y.Lo ∧ y.Lo ≤ 9223372036854775807) ∧ ((-9223372036854775808) ≤ y.Hi ∧ y.Hi ≤ 9223372036854775807)) → (∀ y ∈ c0_2, ((-9223372036854775808) ≤ y.Lo ∧ y.Lo ≤ 9223372036854775807) ∧ ((-9223372036854775808) ≤ y.Hi ∧ y.Hi ≤ 9223372036854775807)) → (0 ≤ c0_3 ∧ c0_3 ≤ 255) → (∀ y ∈ c0_4, (0 ≤ y ∧ y ≤ 65535)) → (∀ y ∈ c0_5, (0 ≤ y ∧ y ≤ 65535)) → ((-128) ≤ c1_0 ∧ c1_0 ≤ 127) → ∃ k0 : Nat, armillarylaw03_BoxBisectionMatchesReference k0 (⟨c0_0, c0_1, c0_2, c0_3, (⟨c0_4, c0_5⟩ : TA2_List_Int)⟩ : TInput) c1_0 = some true

/-- What the law's plain function must answer. -/
def armillarylaw03_BoxSubsetOrder.Pure : Prop :=
  ∀ (c0_0 : List TInterval) (c0_1 : List TInterval) (c0_2 : List TInterval) (c0_3 : Int) (c0_4 : List Int) (c0_5 : List Int), (∀ y ∈ c0_0, ((-9223372036854775808) ≤ y.Lo ∧ y.Lo ≤ 9223372036854775807) ∧ ((-9223372036854775808) ≤ y.Hi ∧ y.Hi ≤ 9223372036854775807)) → (∀ y ∈ c0_1, ((-9223372036854775808) ≤ y.Lo ∧ y.Lo ≤ 9223372036854775807) ∧ ((-9223372036854775808) ≤ y.Hi ∧ y.Hi ≤ 9223372036854775807)) → (∀ y ∈ c0_2, ((-9223372036854775808) ≤ y.Lo ∧ y.Lo ≤ 9223372036854775807) ∧ ((-9223372036854775808) ≤ y.Hi ∧ y.Hi ≤ 9223372036854775807)) → (0 ≤ c0_3 ∧ c0_3 ≤ 255) → (∀ y ∈ c0_4, (0 ≤ y ∧ y ≤ 65535)) → (∀ y ∈ c0_5, (0 ≤ y ∧ y ≤ 65535)) → ∃ k0 : Nat, armillarylaw03_BoxSubsetOrder k0 (⟨c0_0, c0_1, c0_2, c0_3, (⟨c0_4, c0_5⟩ : TA2_List_Int)⟩ : TInput) = some true

/-- What the law's plain function must answer. -/
def armillarylaw03_BoxHullIsLeastUpperBound.Pure : Prop :=
  ∀ (c0_0 : List TInterval) (c0_1 : List TInterval) (c0_2 : List TInterval) (c0_3 : Int) (c0_4 : List Int) (c0_5 : List Int), (∀ y ∈ c0_0, ((-9223372036854775808) ≤ y.Lo ∧ y.Lo ≤ 9223372036854775807) ∧ ((-9223372036854775808) ≤ y.Hi ∧ y.Hi ≤ 9223372036854775807)) → (∀ y ∈ c0_1, ((-9223372036854775808) ≤ y.Lo ∧ y.Lo ≤ 9223372036854775807) ∧ ((-9223372036854775808) ≤ y.Hi ∧ y.Hi ≤ 9223372036854775807)) → (∀ y ∈ c0_2, ((-9223372036854775808) ≤ y.Lo ∧ y.Lo ≤ 9223372036854775807) ∧ ((-9223372036854775808) ≤ y.Hi ∧ y.Hi ≤ 9223372036854775807)) → (0 ≤ c0_3 ∧ c0_3 ≤ 255) → (∀ y ∈ c0_4, (0 ≤ y ∧ y ≤ 65535)) → (∀ y ∈ c0_5, (0 ≤ y ∧ y ≤ 65535)) → ∃ k0 : Nat, armillarylaw03_BoxHullIsLeastUpperBound k0 (⟨c0_0, c0_1, c0_2, c0_3, (⟨c0_4, c0_5⟩ : TA2_List_Int)⟩ : TInput) = some true

/-- What the law's plain function must answer. -/
def armillarylaw03_BoxIntersectIsGreatestLowerBound.Pure : Prop :=
  ∀ (c0_0 : List TInterval) (c0_1 : List TInterval) (c0_2 : List TInterval) (c0_3 : Int) (c0_4 : List Int) (c0_5 : List Int), (∀ y ∈ c0_0, ((-9223372036854775808) ≤ y.Lo ∧ y.Lo ≤ 9223372036854775807) ∧ ((-9223372036854775808) ≤ y.Hi ∧ y.Hi ≤ 9223372036854775807)) → (∀ y ∈ c0_1, ((-9223372036854775808) ≤ y.Lo ∧ y.Lo ≤ 9223372036854775807) ∧ ((-9223372036854775808) ≤ y.Hi ∧ y.Hi ≤ 9223372036854775807)) → (∀ y ∈ c0_2, ((-9223372036854775808) ≤ y.Lo ∧ y.Lo ≤ 9223372036854775807) ∧ ((-9223372036854775808) ≤ y.Hi ∧ y.Hi ≤ 9223372036854775807)) → (0 ≤ c0_3 ∧ c0_3 ≤ 255) → (∀ y ∈ c0_4, (0 ≤ y ∧ y ≤ 65535)) → (∀ y ∈ c0_5, (0 ≤ y ∧ y ≤ 65535)) → ∃ k0 : Nat, armillarylaw03_BoxIntersectIsGreatestLowerBound k0 (⟨c0_0, c0_1, c0_2, c0_3, (⟨c0_4, c0_5⟩ : TA2_List_Int)⟩ : TInput) = some true

/-- What the law's plain function must answer. -/
def armillarylaw03_BoxBisectionCovers.Pure : Prop :=
  ∀ (c0_0 : List TInterval) (c0_1 : List TInterval) (c0_2 : List TInterval) (c0_3 : Int) (c0_4 : List Int) (c0_5 : List Int), (∀ y ∈ c0_0, ((-9223372036854775808) ≤ y.Lo ∧ y.Lo ≤ 9223372036854775807) ∧ ((-9223372036854775808) ≤ y.Hi ∧ y.Hi ≤ 9223372036854775807)) → (∀ y ∈ c0_1, ((-9223372036854775808) ≤ y.Lo ∧ y.Lo ≤ 9223372036854775807) ∧ ((-9223372036854775808) ≤ y.Hi ∧ y.Hi ≤ 9223372036854775807)) → (∀ y ∈ c0_2, ((-9223372036854775808) ≤ y.Lo ∧ y.Lo ≤ 9223372036854775807) ∧ ((-9223372036854775808) ≤ y.Hi ∧ y.Hi ≤ 9223372036854775807)) → (0 ≤ c0_3 ∧ c0_3 ≤ 255) → (∀ y ∈ c0_4, (0 ≤ y ∧ y ≤ 65535)) → (∀ y ∈ c0_5, (0 ≤ y ∧ y ≤ 65535)) → ∃ k0 : Nat, armillarylaw03_BoxBisectionCovers k0 (⟨c0_0, c0_1, c0_2, c0_3, (⟨c0_4, c0_5⟩ : TA2_List_Int)⟩ : TInput) = some true

/-- What the law's plain function must answer. -/
def armillarylaw03_BoxDistanceEncloses.Pure : Prop :=
  ∀ (c0_0 : List TInterval) (c0_1 : List TInterval) (c0_2 : List TInterval) (c0_3 : Int) (c0_4 : List Int) (c0_5 : List Int), (∀ y ∈ c0_0, ((-9223372036854775808) ≤ y.Lo ∧ y.Lo ≤ 9223372036854775807) ∧ ((-9223372036854775808) ≤ y.Hi ∧ y.Hi ≤ 9223372036854775807)) → (∀ y ∈ c0_1, ((-9223372036854775808) ≤ y.Lo ∧ y.Lo ≤ 9223372036854775807) ∧ ((-9223372036854775808) ≤ y.Hi ∧ y.Hi ≤ 9223372036854775807)) → (∀ y ∈ c0_2, ((-9223372036854775808) ≤ y.Lo ∧ y.Lo ≤ 9223372036854775807) ∧ ((-9223372036854775808) ≤ y.Hi ∧ y.Hi ≤ 9223372036854775807)) → (0 ≤ c0_3 ∧ c0_3 ≤ 255) → (∀ y ∈ c0_4, (0 ≤ y ∧ y ≤ 65535)) → (∀ y ∈ c0_5, (0 ≤ y ∧ y ≤ 65535)) → ∃ k0 : Nat, armillarylaw03_BoxDistanceEncloses k0 (⟨c0_0, c0_1, c0_2, c0_3, (⟨c0_4, c0_5⟩ : TA2_List_Int)⟩ : TInput) = some true

/-- What the law's plain function must answer. -/
def armillarylaw03_BoxSeparatedIsMonotone.Pure : Prop :=
  ∀ (c0_0 : List TInterval) (c0_1 : List TInterval) (c0_2 : List TInterval) (c0_3 : Int) (c0_4 : List Int) (c0_5 : List Int) (c1_0 : Int) (c2_0 : Int), (∀ y ∈ c0_0, ((-9223372036854775808) ≤ y.Lo ∧ y.Lo ≤ 9223372036854775807) ∧ ((-9223372036854775808) ≤ y.Hi ∧ y.Hi ≤ 9223372036854775807)) → (∀ y ∈ c0_1, ((-9223372036854775808) ≤ y.Lo ∧ y.Lo ≤ 9223372036854775807) ∧ ((-9223372036854775808) ≤ y.Hi ∧ y.Hi ≤ 9223372036854775807)) → (∀ y ∈ c0_2, ((-9223372036854775808) ≤ y.Lo ∧ y.Lo ≤ 9223372036854775807) ∧ ((-9223372036854775808) ≤ y.Hi ∧ y.Hi ≤ 9223372036854775807)) → (0 ≤ c0_3 ∧ c0_3 ≤ 255) → (∀ y ∈ c0_4, (0 ≤ y ∧ y ≤ 65535)) → (∀ y ∈ c0_5, (0 ≤ y ∧ y ≤ 65535)) → ((-9223372036854775808) ≤ c1_0 ∧ c1_0 ≤ 9223372036854775807) → ((-9223372036854775808) ≤ c2_0 ∧ c2_0 ≤ 9223372036854775807) → ∃ k0 : Nat, armillarylaw03_BoxSeparatedIsMonotone k0 (⟨c0_0, c0_1, c0_2, c0_3, (⟨c0_4, c0_5⟩ : TA2_List_Int)⟩ : TInput) c1_0 c2_0 = some true

/-- What the law's plain function must answer. -/
def armillarylaw03_BoxInflate.Pure : Prop :=
  ∀ (c0_0 : List TInterval) (c0_1 : List TInterval) (c0_2 : List TInterval) (c0_3 : Int) (c0_4 : List Int) (c0_5 : List Int) (c1_0 : Int) (c2_0 : Int), (∀ y ∈ c0_0, ((-9223372036854775808) ≤ y.Lo ∧ y.Lo ≤ 9223372036854775807) ∧ ((-9223372036854775808) ≤ y.Hi ∧ y.Hi ≤ 9223372036854775807)) → (∀ y ∈ c0_1, ((-9223372036854775808) ≤ y.Lo ∧ y.Lo ≤ 9223372036854775807) ∧ ((-9223372036854775808) ≤ y.Hi ∧ y.Hi ≤ 9223372036854775807)) → (∀ y ∈ c0_2, ((-9223372036854775808) ≤ y.Lo ∧ y.Lo ≤ 9223372036854775807) ∧ ((-9223372036854775808) ≤ y.Hi ∧ y.Hi ≤ 9223372036854775807)) → (0 ≤ c0_3 ∧ c0_3 ≤ 255) → (∀ y ∈ c0_4, (0 ≤ y ∧ y ≤ 65535)) → (∀ y ∈ c0_5, (0 ≤ y ∧ y ≤ 65535)) → ((-9223372036854775808) ≤ c1_0 ∧ c1_0 ≤ 9223372036854775807) → ((-9223372036854775808) ≤ c2_0 ∧ c2_0 ≤ 9223372036854775807) → ∃ k0 : Nat, armillarylaw03_BoxInflate k0 (⟨c0_0, c0_1, c0_2, c0_3, (⟨c0_4, c0_5⟩ : TA2_List_Int)⟩ : TInput) c1_0 c2_0 = some true

end Go.Proofs.Ytgccinodonkgjaa
