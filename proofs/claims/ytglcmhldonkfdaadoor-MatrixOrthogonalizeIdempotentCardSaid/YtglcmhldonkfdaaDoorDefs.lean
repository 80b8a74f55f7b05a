/- The program's functions as plain Lean functions, printed out of the program by a program of this session. -/
import GoSem.Core.View
set_option linter.unusedVariables false
namespace Go.Proofs.YtglcmhldonkfdaaDoor
abbrev w_i64 (n : Int) : Int := Go.IntKind.wrap .i64 n
abbrev w_u64 (n : Int) : Int := Go.IntKind.wrap .u64 n
abbrev mn (x y : Int) : Int := if y < x then y else x
abbrev mx (x y : Int) : Int := if y > x then y else x
structure TInterval where
  Lo : Int
  Hi : Int
deriving Inhabited, DecidableEq
structure TA6_Int where
  e0 : Int
  e1 : Int
  e2 : Int
  e3 : Int
  e4 : Int
  e5 : Int
deriving Inhabited, DecidableEq
structure Tbasis where
  n : Int
  columns : List TA6_Int
deriving Inhabited, DecidableEq
def interval_Entire : Option (TInterval) :=
  some (⟨(-2147483648), 2147483648⟩ : TInterval)
def interval_IsEntire (a0 : TInterval) : Option (Bool) :=
  (interval_Entire).bind fun t3 =>
  some ((a0.Lo == t3.Lo) && ((a0.Hi == t3.Hi) && true))
def interval_New (a0 : Int) (a1 : Int) : Option (TInterval) :=
  (some (((decide (a0 ≤ (-2147483648))) || (decide (a1 ≥ 2147483648))) || (decide (a0 ≥ 2147483648)))).bind fun z3 =>
  if (z3 || (decide (a1 ≤ (-2147483648)))) = true then
    (interval_Entire).bind fun t5 =>
    some t5
  else
    some (⟨a0, a1⟩ : TInterval)
def interval_side (a0 : TInterval) : Option (Int) :=
  if (decide (a0.Hi ≤ 0)) = true then
    some 0
  else
    if (decide (a0.Lo ≥ 0)) = true then
      some 2
    else
      some 1
def fixed_divide_1 (a0 : Int) : Option (Int) :=
  some (mn a0 1)
def fixed_floorCeil_int64_s112 (a0 : Int) (a1 : Int) : Option (Int × Int) :=
  if a1 ≠ 0 then
    if a1 ≠ 0 then
      (if (decide ((Int.tmod a0 a1) < 0)) = true then
        some (w_i64 ((w_i64 (Int.tdiv a0 a1)) - 1), w_i64 ((Int.tmod a0 a1) + a1))
      else
        some (w_i64 (Int.tdiv a0 a1), Int.tmod a0 a1)).bind fun (j7 : Int × Int) =>
      (fixed_divide_1 j7.2).bind fun t9 =>
      some (j7.1, w_i64 (j7.1 + t9))
    else none
  else none
def fixed_divide (a0 : Int) (a1 : Int) : Option (Int × Int) :=
  (if (decide (a1 < 0)) = true then
    some (w_i64 (0 - a0), w_i64 (0 - a1))
  else
    some (a0, a1)).bind fun (j4 : Int × Int) =>
  (fixed_floorCeil_int64_s112 j4.1 j4.2).bind fun t6 =>
  some (t6.1, t6.2)
def fixed_Mul (a0 : Int) (a1 : Int) : Option (Int × Int) :=
  (fixed_divide (w_i64 (a0 * a1)) 65536).bind fun t3 =>
  some (t3.1, t3.2)
def interval_hl (a0 : TInterval) (a1 : TInterval) : Option (Int × Int) :=
  some (a0.Hi, a1.Lo)
def interval_lh (a0 : TInterval) (a1 : TInterval) : Option (Int × Int) :=
  some (a0.Lo, a1.Hi)
def interval_ll (a0 : TInterval) (a1 : TInterval) : Option (Int × Int) :=
  some (a0.Lo, a1.Lo)
def interval_hh (a0 : TInterval) (a1 : TInterval) : Option (Int × Int) :=
  some (a0.Hi, a1.Hi)
def interval_Mul (a0 : TInterval) (a1 : TInterval) : Option (TInterval) :=
  (interval_IsEntire a0).bind fun t3 =>
  (if (t3 == false) = true then interval_IsEntire a1 else some default).bind fun t4 =>
  if (t3 || t4) = true then
    (interval_Entire).bind fun t6 =>
    some t6
  else
    (interval_side a0).bind fun t8 =>
    (interval_side a1).bind fun t9 =>
    if ((t8 == 1) && (t9 == 1)) = true then
      (fixed_Mul a0.Lo a1.Hi).bind fun t12 =>
      (fixed_Mul a0.Hi a1.Lo).bind fun t14 =>
      (fixed_Mul a0.Lo a1.Lo).bind fun t16 =>
      (fixed_Mul a0.Hi a1.Hi).bind fun t18 =>
      (interval_New (mn t12.1 t14.1) (mx t16.2 t18.2)).bind fun t20 =>
      some t20
    else
      if t8 = 0 then
        if t9 = 0 then
          (interval_hh a0 a1).bind fun t23 =>
          (fixed_Mul t23.1 t23.2).bind fun t24 =>
          (interval_ll a0 a1).bind fun t26 =>
          (fixed_Mul t26.1 t26.2).bind fun t27 =>
          (interval_New t24.1 t27.2).bind fun t29 =>
          some t29
        else
        if t9 = 1 then
          (interval_lh a0 a1).bind fun t32 =>
          (fixed_Mul t32.1 t32.2).bind fun t33 =>
          (interval_ll a0 a1).bind fun t35 =>
          (fixed_Mul t35.1 t35.2).bind fun t36 =>
          (interval_New t33.1 t36.2).bind fun t38 =>
          some t38
        else
        if t9 = 2 then
          (interval_lh a0 a1).bind fun t41 =>
          (fixed_Mul t41.1 t41.2).bind fun t42 =>
          (interval_hl a0 a1).bind fun t44 =>
          (fixed_Mul t44.1 t44.2).bind fun t45 =>
          (interval_New t42.1 t45.2).bind fun t47 =>
          some t47
        else
        none
      else
      if t8 = 1 then
        if t9 = 0 then
          (interval_hl a0 a1).bind fun t53 =>
          (fixed_Mul t53.1 t53.2).bind fun t54 =>
          (interval_ll a0 a1).bind fun t56 =>
          (fixed_Mul t56.1 t56.2).bind fun t57 =>
          (interval_New t54.1 t57.2).bind fun t59 =>
          some t59
        else
        if t9 = 1 then
          none
        else
        if t9 = 2 then
          (interval_lh a0 a1).bind fun t63 =>
          (fixed_Mul t63.1 t63.2).bind fun t64 =>
          (interval_hh a0 a1).bind fun t66 =>
          (fixed_Mul t66.1 t66.2).bind fun t67 =>
          (interval_New t64.1 t67.2).bind fun t69 =>
          some t69
        else
        none
      else
      if t8 = 2 then
        if t9 = 0 then
          (interval_hl a0 a1).bind fun t75 =>
          (fixed_Mul t75.1 t75.2).bind fun t76 =>
          (interval_lh a0 a1).bind fun t78 =>
          (fixed_Mul t78.1 t78.2).bind fun t79 =>
          (interval_New t76.1 t79.2).bind fun t81 =>
          some t81
        else
        if t9 = 1 then
          (interval_hl a0 a1).bind fun t84 =>
          (fixed_Mul t84.1 t84.2).bind fun t85 =>
          (interval_hh a0 a1).bind fun t87 =>
          (fixed_Mul t87.1 t87.2).bind fun t88 =>
          (interval_New t85.1 t88.2).bind fun t90 =>
          some t90
        else
        if t9 = 2 then
          (interval_ll a0 a1).bind fun t93 =>
          (fixed_Mul t93.1 t93.2).bind fun t94 =>
          (interval_hh a0 a1).bind fun t96 =>
          (fixed_Mul t96.1 t96.2).bind fun t97 =>
          (interval_New t94.1 t97.2).bind fun t99 =>
          some t99
        else
        none
      else
      none
def interval_Add (a0 : TInterval) (a1 : TInterval) : Option (TInterval) :=
  (interval_IsEntire a0).bind fun t3 =>
  (if (t3 == false) = true then interval_IsEntire a1 else some default).bind fun t4 =>
  if (t3 || t4) = true then
    (interval_Entire).bind fun t6 =>
    some t6
  else
    (interval_New (w_i64 (a0.Lo + a1.Lo)) (w_i64 (a0.Hi + a1.Hi))).bind fun t8 =>
    some t8
def matrix_Apply_1_m (a0 : Int) (q0 : List (List TInterval)) (q1 : Int) : Option (TInterval) :=
  if 0 ≤ q1 ∧ q1 < (q0.length : Int) then
    (q0[q1.toNat]?).bind fun t4 =>
    if 0 ≤ a0 ∧ a0 < (t4.length : Int) then
      (t4[a0.toNat]?).bind fun t6 =>
      some t6
    else none
  else none
def matrix_Apply_2_m (a0 : Int) (q0 : List TInterval) : Option (TInterval) :=
  if 0 ≤ a0 ∧ a0 < (q0.length : Int) then
    (q0[a0.toNat]?).bind fun t4 =>
    some t4
  else none
def matrix_dot_s53_s54.l14 (k0 : Nat) (a0 : Int) (a1_0 : List (List TInterval)) (a1_1 : Int) (a2_0 : List TInterval) (t3 : TInterval) (t4 : TInterval) (t5 : TInterval) : Nat → Int → Int → Int → Option (Int × Int)
  | 0, _, _, _ => none
  | k + 1, x11, x12, x13 =>
    if (decide (x13 < a0)) = true then
      (matrix_Apply_1_m x13 a1_0 a1_1).bind fun t17 =>
      (matrix_Apply_2_m x13 a2_0).bind fun t18 =>
      (interval_Mul t17 t18).bind fun t19 =>
      (interval_Add (⟨x11, x12⟩ : TInterval) t19).bind fun t20 =>
      matrix_dot_s53_s54.l14 k0 a0 a1_0 a1_1 a2_0 t3 t4 t5 k t20.Lo t20.Hi (w_i64 (x13 + 1))
    else
      some (x11, x12)
def matrix_dot_s53_s54 (k0 : Nat) (a0 : Int) (a1_0 : List (List TInterval)) (a1_1 : Int) (a2_0 : List TInterval) : Option (TInterval) :=
  (matrix_Apply_1_m 0 a1_0 a1_1).bind fun t3 =>
  (matrix_Apply_2_m 0 a2_0).bind fun t4 =>
  (interval_Mul t3 t4).bind fun t5 =>
  (matrix_dot_s53_s54.l14 k0 a0 a1_0 a1_1 a2_0 t3 t4 t5 k0 t5.Lo t5.Hi 1).bind fun (j8 : Int × Int) =>
  some (⟨j8.1, j8.2⟩ : TInterval)
def matrix_Apply.l9 (k0 : Nat) (a0 : List (List TInterval)) (a1 : List TInterval) : Nat → (List TInterval) → Int → Option (List TInterval)
  | 0, _, _ => none
  | k + 1, x7, x8 =>
    if (decide (x8 < (a0.length : Int))) = true then
      (matrix_dot_s53_s54 k0 (a0.length : Int) a0 x8 a1).bind fun t13 =>
      if x7.length < 1000000 then
        matrix_Apply.l9 k0 a0 a1 k (x7 ++ [t13]) (w_i64 (x8 + 1))
      else none
    else
      some (x7)
def matrix_Apply (k0 : Nat) (a0 : List (List TInterval)) (a1 : List TInterval) : Option (List TInterval) :=
  (matrix_Apply.l9 k0 a0 a1 k0 ([] : List TInterval) 0).bind fun (j4 : List TInterval) =>
  some j4
def matrix_Mul_1_1_m (a0 : Int) (q0 : List (List TInterval)) (q1 : Int) : Option (TInterval) :=
  if 0 ≤ q1 ∧ q1 < (q0.length : Int) then
    (q0[q1.toNat]?).bind fun t4 =>
    if 0 ≤ a0 ∧ a0 < (t4.length : Int) then
      (t4[a0.toNat]?).bind fun t6 =>
      some t6
    else none
  else none
def matrix_Mul_1_2_m (a0 : Int) (q0 : List (List TInterval)) (q1 : Int) : Option (TInterval) :=
  if 0 ≤ a0 ∧ a0 < (q0.length : Int) then
    (q0[a0.toNat]?).bind fun t4 =>
    if 0 ≤ q1 ∧ q1 < (t4.length : Int) then
      (t4[q1.toNat]?).bind fun t7 =>
      some t7
    else none
  else none
def matrix_dot_s58_s59.l14 (k0 : Nat) (a0 : Int) (a1_0 : List (List TInterval)) (a1_1 : Int) (a2_0 : List (List TInterval)) (a2_1 : Int) (t3 : TInterval) (t4 : TInterval) (t5 : TInterval) : Nat → Int → Int → Int → Option (Int × Int)
  | 0, _, _, _ => none
  | k + 1, x11, x12, x13 =>
    if (decide (x13 < a0)) = true then
      (matrix_Mul_1_1_m x13 a1_0 a1_1).bind fun t17 =>
      (matrix_Mul_1_2_m x13 a2_0 a2_1).bind fun t18 =>
      (interval_Mul t17 t18).bind fun t19 =>
      (interval_Add (⟨x11, x12⟩ : TInterval) t19).bind fun t20 =>
      matrix_dot_s58_s59.l14 k0 a0 a1_0 a1_1 a2_0 a2_1 t3 t4 t5 k t20.Lo t20.Hi (w_i64 (x13 + 1))
    else
      some (x11, x12)
def matrix_dot_s58_s59 (k0 : Nat) (a0 : Int) (a1_0 : List (List TInterval)) (a1_1 : Int) (a2_0 : List (List TInterval)) (a2_1 : Int) : Option (TInterval) :=
  (matrix_Mul_1_1_m 0 a1_0 a1_1).bind fun t3 =>
  (matrix_Mul_1_2_m 0 a2_0 a2_1).bind fun t4 =>
  (interval_Mul t3 t4).bind fun t5 =>
  (matrix_dot_s58_s59.l14 k0 a0 a1_0 a1_1 a2_0 a2_1 t3 t4 t5 k0 t5.Lo t5.Hi 1).bind fun (j8 : Int × Int) =>
  some (⟨j8.1, j8.2⟩ : TInterval)
def matrix_Mul_1_m (k0 : Nat) (a0 : Int) (a1 : Int) (q0 : List (List TInterval)) (q1 : List (List TInterval)) : Option (TInterval) :=
  (matrix_dot_s58_s59 k0 (q0.length : Int) q0 a0 q1 a1).bind fun t3 =>
  some t3
def api_Interval_56_s57.l19 (k0 : Nat) (a0 : Int) (a1_0 : List (List TInterval)) (a1_1 : List (List TInterval)) (x8 : List (List TInterval)) (x9 : Int) : Nat → (List (List TInterval)) → Int → Option (List (List TInterval))
  | 0, _, _ => none
  | k + 1, x17, x18 =>
    if (decide (x18 < a0)) = true then
      if 0 ≤ x9 ∧ x9 < (x17.length : Int) then
        (x17[x9.toNat]?).bind fun t24 =>
        (matrix_Mul_1_m k0 x9 x18 a1_0 a1_1).bind fun t26 =>
        if t24.length < 1000000 then
          if 0 ≤ x9 ∧ x9 < (x17.length : Int) then
            (x17[x9.toNat]?).bind fun t29 =>
            api_Interval_56_s57.l19 k0 a0 a1_0 a1_1 x8 x9 k (x17.set x9.toNat (t24 ++ [t26])) (w_i64 (x18 + 1))
          else none
        else none
      else none
    else
      some (x17)
def api_Interval_56_s57.l10 (k0 : Nat) (a0 : Int) (a1_0 : List (List TInterval)) (a1_1 : List (List TInterval)) : Nat → (List (List TInterval)) → Int → Option (List (List TInterval))
  | 0, _, _ => none
  | k + 1, x8, x9 =>
    if (decide (x9 < a0)) = true then
      (api_Interval_56_s57.l19 k0 a0 a1_0 a1_1 x8 x9 k0 x8 0).bind fun (j13 : List (List TInterval)) =>
      api_Interval_56_s57.l10 k0 a0 a1_0 a1_1 k j13 (w_i64 (x9 + 1))
    else
      some (x8)
def api_Interval_56_s57 (k0 : Nat) (a0 : Int) (a1_0 : List (List TInterval)) (a1_1 : List (List TInterval)) : Option (List (List TInterval)) :=
  if 0 ≤ a0 ∧ a0 < 1000000 then
    (api_Interval_56_s57.l10 k0 a0 a1_0 a1_1 k0 (List.replicate a0.toNat ([] : List TInterval)) 0).bind fun (j5 : List (List TInterval)) =>
    some j5
  else none
def matrix_Mul (k0 : Nat) (a0 : List (List TInterval)) (a1 : List (List TInterval)) : Option (List (List TInterval)) :=
  (api_Interval_56_s57 k0 (a0.length : Int) a0 a1).bind fun t3 =>
  some t3
def interval_Point (a0 : Int) : Option (TInterval) :=
  (interval_New a0 a0).bind fun t3 =>
  some t3
def matrix_Identity_1 (a0 : Int) (a1 : Int) : Option (TInterval) :=
  if (a0 == a1) = true then
    (interval_Point 65536).bind fun t4 =>
    some t4
  else
    (interval_Point 0).bind fun t6 =>
    some t6
def api_Interval_56_s63.l19 (k0 : Nat) (a0 : Int) (x8 : List (List TInterval)) (x9 : Int) : Nat → (List (List TInterval)) → Int → Option (List (List TInterval))
  | 0, _, _ => none
  | k + 1, x17, x18 =>
    if (decide (x18 < a0)) = true then
      if 0 ≤ x9 ∧ x9 < (x17.length : Int) then
        (x17[x9.toNat]?).bind fun t24 =>
        (matrix_Identity_1 x9 x18).bind fun t26 =>
        if t24.length < 1000000 then
          if 0 ≤ x9 ∧ x9 < (x17.length : Int) then
            (x17[x9.toNat]?).bind fun t29 =>
            api_Interval_56_s63.l19 k0 a0 x8 x9 k (x17.set x9.toNat (t24 ++ [t26])) (w_i64 (x18 + 1))
          else none
        else none
      else none
    else
      some (x17)
def api_Interval_56_s63.l10 (k0 : Nat) (a0 : Int) : Nat → (List (List TInterval)) → Int → Option (List (List TInterval))
  | 0, _, _ => none
  | k + 1, x8, x9 =>
    if (decide (x9 < a0)) = true then
      (api_Interval_56_s63.l19 k0 a0 x8 x9 k0 x8 0).bind fun (j13 : List (List TInterval)) =>
      api_Interval_56_s63.l10 k0 a0 k j13 (w_i64 (x9 + 1))
    else
      some (x8)
def api_Interval_56_s63 (k0 : Nat) (a0 : Int) : Option (List (List TInterval)) :=
  if 0 ≤ a0 ∧ a0 < 1000000 then
    (api_Interval_56_s63.l10 k0 a0 k0 (List.replicate a0.toNat ([] : List TInterval)) 0).bind fun (j5 : List (List TInterval)) =>
    some j5
  else none
def matrix_Identity (k0 : Nat) (a0 : Int) : Option (List (List TInterval)) :=
  if ((decide (a0 < 1)) || (decide (a0 > 6))) = true then
    some ([] : List (List TInterval))
  else
    (api_Interval_56_s63 k0 a0).bind fun t5 =>
    some t5
def armillaryref04_Same.l22 (k0 : Nat) (a0 : List (List TInterval)) (a1 : List (List TInterval)) (x7 : Int) (t14 : List TInterval) (t17 : List TInterval) : Nat → Int → Option (((Bool) ⊕ (Unit)) ⊕ (Unit))
  | 0, _ => none
  | k + 1, x21 =>
    if 0 ≤ x7 ∧ x7 < (a0.length : Int) then
      (a0[x7.toNat]?).bind fun t25 =>
      if (decide (x21 < (t25.length : Int))) = true then
        if 0 ≤ x7 ∧ x7 < (a0.length : Int) then
          (a0[x7.toNat]?).bind fun t28 =>
          if 0 ≤ x21 ∧ x21 < (t28.length : Int) then
            (t28[x21.toNat]?).bind fun t31 =>
            if 0 ≤ x7 ∧ x7 < (a1.length : Int) then
              (a1[x7.toNat]?).bind fun t33 =>
              if 0 ≤ x21 ∧ x21 < (t33.length : Int) then
                (t33[x21.toNat]?).bind fun t36 =>
                if (!((t31.Lo == t36.Lo) && ((t31.Hi == t36.Hi) && true))) = true then
                  some (.inl (.inl false))
                else
                  armillaryref04_Same.l22 k0 a0 a1 x7 t14 t17 k (w_i64 (x21 + 1))
              else none
            else none
          else none
        else none
      else
        some (.inr ())
    else none
def armillaryref04_Same.l8 (k0 : Nat) (a0 : List (List TInterval)) (a1 : List (List TInterval)) : Nat → Int → Option ((Bool) ⊕ (Unit))
  | 0, _ => none
  | k + 1, x7 =>
    if (decide (x7 < (a0.length : Int))) = true then
      (if 0 ≤ x7 ∧ x7 < (a0.length : Int) then
        (a0[x7.toNat]?).bind fun t14 =>
        if 0 ≤ x7 ∧ x7 < (a1.length : Int) then
          (a1[x7.toNat]?).bind fun t17 =>
          if ((t14.length : Int) != (t17.length : Int)) = true then
            some (.inl (.inl false))
          else
            armillaryref04_Same.l22 k0 a0 a1 x7 t14 t17 k0 0
        else none
      else none : Option (((Bool) ⊕ (Unit)) ⊕ (Unit))).bind fun j10 => match j10 with
      | .inl r => some r
      | .inr j10v =>
        armillaryref04_Same.l8 k0 a0 a1 k (w_i64 (x7 + 1))
    else
      some (.inr ())
def armillaryref04_Same (k0 : Nat) (a0 : List (List TInterval)) (a1 : List (List TInterval)) : Option (Bool) :=
  if ((a0.length : Int) != (a1.length : Int)) = true then
    some false
  else
    (armillaryref04_Same.l8 k0 a0 a1 k0 0 : Option ((Bool) ⊕ (Unit))).bind fun j4 => match j4 with
    | .inl r => some r
    | .inr j4v =>
      some true
def matrix_Transpose_1_m (a0 : Int) (a1 : Int) (q0 : List (List TInterval)) : Option (TInterval) :=
  if 0 ≤ a1 ∧ a1 < (q0.length : Int) then
    (q0[a1.toNat]?).bind fun t4 =>
    if 0 ≤ a0 ∧ a0 < (t4.length : Int) then
      (t4[a0.toNat]?).bind fun t6 =>
      some t6
    else none
  else none
def api_Interval_56_s65.l19 (k0 : Nat) (a0 : Int) (a1_0 : List (List TInterval)) (x8 : List (List TInterval)) (x9 : Int) : Nat → (List (List TInterval)) → Int → Option (List (List TInterval))
  | 0, _, _ => none
  | k + 1, x17, x18 =>
    if (decide (x18 < a0)) = true then
      if 0 ≤ x9 ∧ x9 < (x17.length : Int) then
        (x17[x9.toNat]?).bind fun t24 =>
        (matrix_Transpose_1_m x9 x18 a1_0).bind fun t26 =>
        if t24.length < 1000000 then
          if 0 ≤ x9 ∧ x9 < (x17.length : Int) then
            (x17[x9.toNat]?).bind fun t29 =>
            api_Interval_56_s65.l19 k0 a0 a1_0 x8 x9 k (x17.set x9.toNat (t24 ++ [t26])) (w_i64 (x18 + 1))
          else none
        else none
      else none
    else
      some (x17)
def api_Interval_56_s65.l10 (k0 : Nat) (a0 : Int) (a1_0 : List (List TInterval)) : Nat → (List (List TInterval)) → Int → Option (List (List TInterval))
  | 0, _, _ => none
  | k + 1, x8, x9 =>
    if (decide (x9 < a0)) = true then
      (api_Interval_56_s65.l19 k0 a0 a1_0 x8 x9 k0 x8 0).bind fun (j13 : List (List TInterval)) =>
      api_Interval_56_s65.l10 k0 a0 a1_0 k j13 (w_i64 (x9 + 1))
    else
      some (x8)
def api_Interval_56_s65 (k0 : Nat) (a0 : Int) (a1_0 : List (List TInterval)) : Option (List (List TInterval)) :=
  if 0 ≤ a0 ∧ a0 < 1000000 then
    (api_Interval_56_s65.l10 k0 a0 a1_0 k0 (List.replicate a0.toNat ([] : List TInterval)) 0).bind fun (j5 : List (List TInterval)) =>
    some j5
  else none
def matrix_Transpose (k0 : Nat) (a0 : List (List TInterval)) : Option (List (List TInterval)) :=
  (api_Interval_56_s65 k0 (a0.length : Int) a0).bind fun t3 =>
  some t3
def armillaryref03_Same.l8 (k0 : Nat) (a0 : List TInterval) (a1 : List TInterval) : Nat → Int → Option ((Bool) ⊕ (Unit))
  | 0, _ => none
  | k + 1, x7 =>
    if (decide (x7 < (a0.length : Int))) = true then
      if 0 ≤ x7 ∧ x7 < (a0.length : Int) then
        (a0[x7.toNat]?).bind fun t12 =>
        if 0 ≤ x7 ∧ x7 < (a1.length : Int) then
          (a1[x7.toNat]?).bind fun t15 =>
          if (!((t12.Lo == t15.Lo) && ((t12.Hi == t15.Hi) && true))) = true then
            some (.inl false)
          else
            armillaryref03_Same.l8 k0 a0 a1 k (w_i64 (x7 + 1))
        else none
      else none
    else
      some (.inr ())
def armillaryref03_Same (k0 : Nat) (a0 : List TInterval) (a1 : List TInterval) : Option (Bool) :=
  if ((a0.length : Int) != (a1.length : Int)) = true then
    some false
  else
    (armillaryref03_Same.l8 k0 a0 a1 k0 0 : Option ((Bool) ⊕ (Unit))).bind fun j4 => match j4 with
    | .inl r => some r
    | .inr j4v =>
      some true
def matrix_vector_110_m (a1 : Int) : Option (List TA6_Int) :=
  if (decide (a1 < 0)) = true then
    none
  else
    if (decide ((w_i64 (a1 - (w_i64 (0 - 0)))) > 0)) = true then
      if 0 < w_i64 (a1 - (w_i64 (0 - 0))) ∧ w_i64 (a1 - (w_i64 (0 - 0))) < 1000000 then
        some ([] : List TA6_Int)
      else none
    else
      some ([] : List TA6_Int)
def matrix_vector_107.l13 (k0 : Nat) (a0 : List (List TA6_Int)) (j4 : Int) (t6 : List TA6_Int) : Nat → (List TA6_Int) → Int → Option (List TA6_Int)
  | 0, _, _ => none
  | k + 1, x11, x12 =>
    if (decide (x12 < (a0.length : Int))) = true then
      if 0 ≤ x12 ∧ x12 < (a0.length : Int) then
        (a0[x12.toNat]?).bind fun t17 =>
        if t17.length < 1000000 ∧ x11.length < 1000000 then
          matrix_vector_107.l13 k0 a0 j4 t6 k (x11 ++ t17) (w_i64 (x12 + 1))
        else none
      else none
    else
      some (x11)
def matrix_vector_107.l25 (k0 : Nat) (a0 : List (List TA6_Int)) : Nat → Int → Int → Option (Int)
  | 0, _, _ => none
  | k + 1, x23, x24 =>
    if (decide (x24 < (a0.length : Int))) = true then
      if 0 ≤ x24 ∧ x24 < (a0.length : Int) then
        (a0[x24.toNat]?).bind fun t29 =>
        if (decide ((w_i64 (x23 + (t29.length : Int))) < 0)) = true then
          none
        else
          matrix_vector_107.l25 k0 a0 k (w_i64 (x23 + (t29.length : Int))) (w_i64 (x24 + 1))
      else none
    else
      some (x23)
def matrix_vector_107 (k0 : Nat) (a0 : List (List TA6_Int)) : Option (List TA6_Int) :=
  (matrix_vector_107.l25 k0 a0 k0 0 0).bind fun (j4 : Int) =>
  (matrix_vector_110_m j4).bind fun t6 =>
  (matrix_vector_107.l13 k0 a0 j4 t6 k0 t6 0).bind fun (j8 : List TA6_Int) =>
  some j8
def matrix_isqrt.l9 (k0 : Nat) (a0 : Int) : Nat → Int → Int → Option (Int)
  | 0, _, _ => none
  | k + 1, x7, x8 =>
    if (decide (x8 > 0)) = true then
      (if (decide ((w_u64 ((w_u64 (x7 + x8)) * (w_u64 (x7 + x8)))) ≤ a0)) = true then
        some (w_u64 (x7 + x8))
      else
        some (x7)).bind fun (j12 : Int) =>
      matrix_isqrt.l9 k0 a0 k j12 (Int.fdiv x8 2)
    else
      some (x7)
def matrix_isqrt (k0 : Nat) (a0 : Int) : Option (Int) :=
  (matrix_isqrt.l9 k0 a0 k0 0 2147483648).bind fun (j4 : Int) =>
  some (w_i64 j4)
def matrix_vector_length.l10 (k0 : Nat) (a0 : TA6_Int) : Nat → Int → Int → Option (Int)
  | 0, _, _ => none
  | k + 1, x8, x9 =>
    if (decide (x9 < 6)) = true then
      if x9 = 0 then
        matrix_vector_length.l10 k0 a0 k (w_u64 (x8 + (w_u64 (w_i64 (a0.e0 * a0.e0))))) (w_i64 (0 + 1))
      else
      if x9 = 1 then
        matrix_vector_length.l10 k0 a0 k (w_u64 (x8 + (w_u64 (w_i64 (a0.e1 * a0.e1))))) (w_i64 (1 + 1))
      else
      if x9 = 2 then
        matrix_vector_length.l10 k0 a0 k (w_u64 (x8 + (w_u64 (w_i64 (a0.e2 * a0.e2))))) (w_i64 (2 + 1))
      else
      if x9 = 3 then
        matrix_vector_length.l10 k0 a0 k (w_u64 (x8 + (w_u64 (w_i64 (a0.e3 * a0.e3))))) (w_i64 (3 + 1))
      else
      if x9 = 4 then
        matrix_vector_length.l10 k0 a0 k (w_u64 (x8 + (w_u64 (w_i64 (a0.e4 * a0.e4))))) (w_i64 (4 + 1))
      else
      if x9 = 5 then
        matrix_vector_length.l10 k0 a0 k (w_u64 (x8 + (w_u64 (w_i64 (a0.e5 * a0.e5))))) (w_i64 (5 + 1))
      else
      none
    else
      some (x8)
def matrix_vector_length (k0 : Nat) (a0 : TA6_Int) : Option (Int) :=
  (matrix_vector_length.l10 k0 a0 k0 0 0).bind fun (j4 : Int) =>
  (matrix_isqrt k0 j4).bind fun t6 =>
  some t6
def fixed_MulRatio (a0 : Int) (a1 : Int) (a2 : Int) : Option (Int × Int × Int) :=
  if ((((decide (a1 < (-1073741824))) || (decide (a1 > 1073741824))) || (decide (a2 < 1))) || (decide (a2 > 1073741824))) = true then
    some (0, 0, 1)
  else
    (fixed_divide (w_i64 (a0 * a1)) a2).bind fun t5 =>
    some (t5.1, t5.2, 0)
def matrix_basis_reduce_m.l43 (k0 : Nat) (a0 : Tbasis) (a1 : TA6_Int) (t11 : List TA6_Int) (x12 : Int) (x13 : Int) (x14 : Int) (x15 : Int) (x16 : Int) (x17 : Int) (x18 : Int) (t31 : TA6_Int) (j34 : Int) : Nat → Int → Int → Int → Int → Int → Int → Int → Option (Int × Int × Int × Int × Int × Int)
  | 0, _, _, _, _, _, _, _ => none
  | k + 1, x36, x37, x38, x39, x40, x41, x42 =>
    if (decide (x42 < a0.n)) = true then
      if x42 = 0 then
        (fixed_Mul j34 t31.e0).bind fun t47 =>
        matrix_basis_reduce_m.l43 k0 a0 a1 t11 x12 x13 x14 x15 x16 x17 x18 t31 j34 k (w_i64 (x36 - t47.1)) x37 x38 x39 x40 x41 (w_i64 (0 + 1))
      else
      if x42 = 1 then
        (fixed_Mul j34 t31.e1).bind fun t51 =>
        matrix_basis_reduce_m.l43 k0 a0 a1 t11 x12 x13 x14 x15 x16 x17 x18 t31 j34 k x36 (w_i64 (x37 - t51.1)) x38 x39 x40 x41 (w_i64 (1 + 1))
      else
      if x42 = 2 then
        (fixed_Mul j34 t31.e2).bind fun t55 =>
        matrix_basis_reduce_m.l43 k0 a0 a1 t11 x12 x13 x14 x15 x16 x17 x18 t31 j34 k x36 x37 (w_i64 (x38 - t55.1)) x39 x40 x41 (w_i64 (2 + 1))
      else
      if x42 = 3 then
        (fixed_Mul j34 t31.e3).bind fun t59 =>
        matrix_basis_reduce_m.l43 k0 a0 a1 t11 x12 x13 x14 x15 x16 x17 x18 t31 j34 k x36 x37 x38 (w_i64 (x39 - t59.1)) x40 x41 (w_i64 (3 + 1))
      else
      if x42 = 4 then
        (fixed_Mul j34 t31.e4).bind fun t63 =>
        matrix_basis_reduce_m.l43 k0 a0 a1 t11 x12 x13 x14 x15 x16 x17 x18 t31 j34 k x36 x37 x38 x39 (w_i64 (x40 - t63.1)) x41 (w_i64 (4 + 1))
      else
      if x42 = 5 then
        (fixed_Mul j34 t31.e5).bind fun t67 =>
        matrix_basis_reduce_m.l43 k0 a0 a1 t11 x12 x13 x14 x15 x16 x17 x18 t31 j34 k x36 x37 x38 x39 x40 (w_i64 (x41 - t67.1)) (w_i64 (5 + 1))
      else
      none
    else
      some (x36, x37, x38, x39, x40, x41)
def matrix_basis_reduce_m.l80 (k0 : Nat) (a0 : Tbasis) (a1 : TA6_Int) (t11 : List TA6_Int) (x12 : Int) (x13 : Int) (x14 : Int) (x15 : Int) (x16 : Int) (x17 : Int) (x18 : Int) (t31 : TA6_Int) : Nat → Int → Int → Option (Int)
  | 0, _, _ => none
  | k + 1, x78, x79 =>
    if (decide (x79 < a0.n)) = true then
      if x79 = 0 then
        (fixed_Mul x12 t31.e0).bind fun t84 =>
        matrix_basis_reduce_m.l80 k0 a0 a1 t11 x12 x13 x14 x15 x16 x17 x18 t31 k (w_i64 (x78 + t84.1)) (w_i64 (0 + 1))
      else
      if x79 = 1 then
        (fixed_Mul x13 t31.e1).bind fun t88 =>
        matrix_basis_reduce_m.l80 k0 a0 a1 t11 x12 x13 x14 x15 x16 x17 x18 t31 k (w_i64 (x78 + t88.1)) (w_i64 (1 + 1))
      else
      if x79 = 2 then
        (fixed_Mul x14 t31.e2).bind fun t92 =>
        matrix_basis_reduce_m.l80 k0 a0 a1 t11 x12 x13 x14 x15 x16 x17 x18 t31 k (w_i64 (x78 + t92.1)) (w_i64 (2 + 1))
      else
      if x79 = 3 then
        (fixed_Mul x15 t31.e3).bind fun t96 =>
        matrix_basis_reduce_m.l80 k0 a0 a1 t11 x12 x13 x14 x15 x16 x17 x18 t31 k (w_i64 (x78 + t96.1)) (w_i64 (3 + 1))
      else
      if x79 = 4 then
        (fixed_Mul x16 t31.e4).bind fun t100 =>
        matrix_basis_reduce_m.l80 k0 a0 a1 t11 x12 x13 x14 x15 x16 x17 x18 t31 k (w_i64 (x78 + t100.1)) (w_i64 (4 + 1))
      else
      if x79 = 5 then
        (fixed_Mul x17 t31.e5).bind fun t104 =>
        matrix_basis_reduce_m.l80 k0 a0 a1 t11 x12 x13 x14 x15 x16 x17 x18 t31 k (w_i64 (x78 + t104.1)) (w_i64 (5 + 1))
      else
      none
    else
      some (x78)
def matrix_basis_reduce_m.l19 (k0 : Nat) (a0 : Tbasis) (a1 : TA6_Int) (t11 : List TA6_Int) : Nat → Int → Int → Int → Int → Int → Int → Int → Option (Int × Int × Int × Int × Int × Int)
  | 0, _, _, _, _, _, _, _ => none
  | k + 1, x12, x13, x14, x15, x16, x17, x18 =>
    if (decide (x18 < (t11.length : Int))) = true then
      (if 0 ≤ x18 ∧ x18 < (t11.length : Int) then
        (t11[x18.toNat]?).bind fun t31 =>
        (matrix_basis_reduce_m.l80 k0 a0 a1 t11 x12 x13 x14 x15 x16 x17 x18 t31 k0 0 0).bind fun (j34 : Int) =>
        matrix_basis_reduce_m.l43 k0 a0 a1 t11 x12 x13 x14 x15 x16 x17 x18 t31 j34 k0 x12 x13 x14 x15 x16 x17 0
      else none).bind fun (j27 : Int × Int × Int × Int × Int × Int) =>
      matrix_basis_reduce_m.l19 k0 a0 a1 t11 k j27.1 j27.2.1 j27.2.2.1 j27.2.2.2.1 j27.2.2.2.2.1 j27.2.2.2.2.2 (w_i64 (x18 + 1))
    else
      some (x12, x13, x14, x15, x16, x17)
def matrix_basis_reduce_m (k0 : Nat) (a0 : Tbasis) (a1 : TA6_Int) : Option (TA6_Int) :=
  ((matrix_vector_107 k0 ([a0.columns, a0.columns, a0.columns] : List (List TA6_Int))).bind fun t11 =>
  matrix_basis_reduce_m.l19 k0 a0 a1 t11 k0 a1.e0 a1.e1 a1.e2 a1.e3 a1.e4 a1.e5 0).bind fun (j8 : Int × Int × Int × Int × Int × Int) =>
  some (⟨j8.1, j8.2.1, j8.2.2.1, j8.2.2.2.1, j8.2.2.2.2.1, j8.2.2.2.2.2⟩ : TA6_Int)
def matrix_basis_extend_m.l36 (k0 : Nat) (a0_0 : Int) (a0_1 : List TA6_Int) (a1 : List TA6_Int) (x3 : Int) (x4 : Int) (t11 : TA6_Int) (t13 : TA6_Int) (t17 : Int) : Nat → Int → Int → Int → Int → Int → Int → Int → Option (Int × Int × Int × Int × Int × Int)
  | 0, _, _, _, _, _, _, _ => none
  | k + 1, x29, x30, x31, x32, x33, x34, x35 =>
    if (decide (x35 < a0_0)) = true then
      if x35 = 0 then
        (fixed_MulRatio x29 65536 t17).bind fun t40 =>
        matrix_basis_extend_m.l36 k0 a0_0 a0_1 a1 x3 x4 t11 t13 t17 k t40.1 x30 x31 x32 x33 x34 (w_i64 (0 + 1))
      else
      if x35 = 1 then
        (fixed_MulRatio x30 65536 t17).bind fun t43 =>
        matrix_basis_extend_m.l36 k0 a0_0 a0_1 a1 x3 x4 t11 t13 t17 k x29 t43.1 x31 x32 x33 x34 (w_i64 (1 + 1))
      else
      if x35 = 2 then
        (fixed_MulRatio x31 65536 t17).bind fun t46 =>
        matrix_basis_extend_m.l36 k0 a0_0 a0_1 a1 x3 x4 t11 t13 t17 k x29 x30 t46.1 x32 x33 x34 (w_i64 (2 + 1))
      else
      if x35 = 3 then
        (fixed_MulRatio x32 65536 t17).bind fun t49 =>
        matrix_basis_extend_m.l36 k0 a0_0 a0_1 a1 x3 x4 t11 t13 t17 k x29 x30 x31 t49.1 x33 x34 (w_i64 (3 + 1))
      else
      if x35 = 4 then
        (fixed_MulRatio x33 65536 t17).bind fun t52 =>
        matrix_basis_extend_m.l36 k0 a0_0 a0_1 a1 x3 x4 t11 t13 t17 k x29 x30 x31 x32 t52.1 x34 (w_i64 (4 + 1))
      else
      if x35 = 5 then
        (fixed_MulRatio x34 65536 t17).bind fun t55 =>
        matrix_basis_extend_m.l36 k0 a0_0 a0_1 a1 x3 x4 t11 t13 t17 k x29 x30 x31 x32 x33 t55.1 (w_i64 (5 + 1))
      else
      none
    else
      some (x29, x30, x31, x32, x33, x34)
def matrix_basis_extend_m.l5 (k0 : Nat) (a0_0 : Int) (a0_1 : List TA6_Int) (a1 : List TA6_Int) : Nat → Int → Int → Option (Int × List TA6_Int)
  | 0, _, _ => none
  | k + 1, x3, x4 =>
    if (decide (x4 < (a1.length : Int))) = true then
      (if 0 ≤ x4 ∧ x4 < (a1.length : Int) then
        (a1[x4.toNat]?).bind fun t11 =>
        (matrix_basis_reduce_m k0 (⟨a0_0, a0_1⟩ : Tbasis) t11).bind fun t13 =>
        ((matrix_vector_length k0 t13).bind fun t17 =>
        if (decide (t17 ≥ x3)) = true then
          (matrix_basis_extend_m.l36 k0 a0_0 a0_1 a1 x3 x4 t11 t13 t17 k0 t13.e0 t13.e1 t13.e2 t13.e3 t13.e4 t13.e5 0).bind fun (j25 : Int × Int × Int × Int × Int × Int) =>
          if a0_1.length < 1000000 then
            some (.inl (.inl (a0_0, (a0_1 ++ [(⟨j25.1, j25.2.1, j25.2.2.1, j25.2.2.2.1, j25.2.2.2.2.1, j25.2.2.2.2.2⟩ : TA6_Int)]))))
          else none
        else
          some (.inr ()) : Option (((Int × List TA6_Int) ⊕ (Unit)) ⊕ (Unit))).bind fun j14 => match j14 with
        | .inl r => some r
        | .inr j14v =>
          some (.inr ())
      else none : Option ((Int × List TA6_Int) ⊕ (Unit))).bind fun j7 => match j7 with
      | .inl r => some r
      | .inr j7v =>
        matrix_basis_extend_m.l5 k0 a0_0 a0_1 a1 k 16384 (w_i64 (x4 + 1))
    else
      some (a0_0, a0_1)
def matrix_basis_extend_m (k0 : Nat) (a0_0 : Int) (a0_1 : List TA6_Int) (a1 : List TA6_Int) : Option (Int × List TA6_Int) :=
  matrix_basis_extend_m.l5 k0 a0_0 a0_1 a1 k0 4096 0
def matrix_Orthogonalize_1_m (a0 : Int) (a1 : Int) (q0_0 : Tbasis) : Option (Int) :=
  if a0 = 0 then
    if 0 ≤ a1 ∧ a1 < (q0_0.columns.length : Int) then
      (q0_0.columns[a1.toNat]?).bind fun t4 =>
      some t4.e0
    else none
  else
  if a0 = 1 then
    if 0 ≤ a1 ∧ a1 < (q0_0.columns.length : Int) then
      (q0_0.columns[a1.toNat]?).bind fun t7 =>
      some t7.e1
    else none
  else
  if a0 = 2 then
    if 0 ≤ a1 ∧ a1 < (q0_0.columns.length : Int) then
      (q0_0.columns[a1.toNat]?).bind fun t10 =>
      some t10.e2
    else none
  else
  if a0 = 3 then
    if 0 ≤ a1 ∧ a1 < (q0_0.columns.length : Int) then
      (q0_0.columns[a1.toNat]?).bind fun t13 =>
      some t13.e3
    else none
  else
  if a0 = 4 then
    if 0 ≤ a1 ∧ a1 < (q0_0.columns.length : Int) then
      (q0_0.columns[a1.toNat]?).bind fun t16 =>
      some t16.e4
    else none
  else
  if a0 = 5 then
    if 0 ≤ a1 ∧ a1 < (q0_0.columns.length : Int) then
      (q0_0.columns[a1.toNat]?).bind fun t19 =>
      some t19.e5
    else none
  else
  none
def matrix_build_int64_s68.l19 (k0 : Nat) (a0 : Int) (a1_0_0 : Tbasis) (x8 : List (List Int)) (x9 : Int) : Nat → (List (List Int)) → Int → Option (List (List Int))
  | 0, _, _ => none
  | k + 1, x17, x18 =>
    if (decide (x18 < a0)) = true then
      if 0 ≤ x9 ∧ x9 < (x17.length : Int) then
        (x17[x9.toNat]?).bind fun t24 =>
        (matrix_Orthogonalize_1_m x9 x18 (⟨a1_0_0.n, a1_0_0.columns⟩ : Tbasis)).bind fun t26 =>
        if t24.length < 1000000 then
          if 0 ≤ x9 ∧ x9 < (x17.length : Int) then
            (x17[x9.toNat]?).bind fun t29 =>
            matrix_build_int64_s68.l19 k0 a0 a1_0_0 x8 x9 k (x17.set x9.toNat (t24 ++ [t26])) (w_i64 (x18 + 1))
          else none
        else none
      else none
    else
      some (x17)
def matrix_build_int64_s68.l10 (k0 : Nat) (a0 : Int) (a1_0_0 : Tbasis) : Nat → (List (List Int)) → Int → Option (List (List Int))
  | 0, _, _ => none
  | k + 1, x8, x9 =>
    if (decide (x9 < a0)) = true then
      (matrix_build_int64_s68.l19 k0 a0 a1_0_0 x8 x9 k0 x8 0).bind fun (j13 : List (List Int)) =>
      matrix_build_int64_s68.l10 k0 a0 a1_0_0 k j13 (w_i64 (x9 + 1))
    else
      some (x8)
def matrix_build_int64_s68 (k0 : Nat) (a0 : Int) (a1_0_0 : Tbasis) : Option (List (List Int)) :=
  if 0 ≤ a0 ∧ a0 < 1000000 then
    (matrix_build_int64_s68.l10 k0 a0 a1_0_0 k0 (List.replicate a0.toNat ([] : List Int)) 0).bind fun (j5 : List (List Int)) =>
    some j5
  else none
def matrix_Orthogonalize.l43 (k0 : Nat) (a0 : List (List Int)) (j6 : List TA6_Int) (x14 : Int) (x15 : List TA6_Int) (x16 : Int) : Nat → Int → Int → Int → Int → Int → Int → Int → Option (Int × Int × Int × Int × Int × Int)
  | 0, _, _, _, _, _, _, _ => none
  | k + 1, x36, x37, x38, x39, x40, x41, x42 =>
    if (decide (x42 < (a0.length : Int))) = true then
      if x42 = 0 then
        if 0 ≤ (0 : Int) ∧ (0 : Int) < (a0.length : Int) then
          (a0[(0 : Int).toNat]?).bind fun t48 =>
          if 0 ≤ x16 ∧ x16 < (t48.length : Int) then
            (t48[x16.toNat]?).bind fun t50 =>
            matrix_Orthogonalize.l43 k0 a0 j6 x14 x15 x16 k t50 x37 x38 x39 x40 x41 (w_i64 (0 + 1))
          else none
        else none
      else
      if x42 = 1 then
        if 0 ≤ (1 : Int) ∧ (1 : Int) < (a0.length : Int) then
          (a0[(1 : Int).toNat]?).bind fun t54 =>
          if 0 ≤ x16 ∧ x16 < (t54.length : Int) then
            (t54[x16.toNat]?).bind fun t56 =>
            matrix_Orthogonalize.l43 k0 a0 j6 x14 x15 x16 k x36 t56 x38 x39 x40 x41 (w_i64 (1 + 1))
          else none
        else none
      else
      if x42 = 2 then
        if 0 ≤ (2 : Int) ∧ (2 : Int) < (a0.length : Int) then
          (a0[(2 : Int).toNat]?).bind fun t60 =>
          if 0 ≤ x16 ∧ x16 < (t60.length : Int) then
            (t60[x16.toNat]?).bind fun t62 =>
            matrix_Orthogonalize.l43 k0 a0 j6 x14 x15 x16 k x36 x37 t62 x39 x40 x41 (w_i64 (2 + 1))
          else none
        else none
      else
      if x42 = 3 then
        if 0 ≤ (3 : Int) ∧ (3 : Int) < (a0.length : Int) then
          (a0[(3 : Int).toNat]?).bind fun t66 =>
          if 0 ≤ x16 ∧ x16 < (t66.length : Int) then
            (t66[x16.toNat]?).bind fun t68 =>
            matrix_Orthogonalize.l43 k0 a0 j6 x14 x15 x16 k x36 x37 x38 t68 x40 x41 (w_i64 (3 + 1))
          else none
        else none
      else
      if x42 = 4 then
        if 0 ≤ (4 : Int) ∧ (4 : Int) < (a0.length : Int) then
          (a0[(4 : Int).toNat]?).bind fun t72 =>
          if 0 ≤ x16 ∧ x16 < (t72.length : Int) then
            (t72[x16.toNat]?).bind fun t74 =>
            matrix_Orthogonalize.l43 k0 a0 j6 x14 x15 x16 k x36 x37 x38 x39 t74 x41 (w_i64 (4 + 1))
          else none
        else none
      else
      if x42 = 5 then
        if 0 ≤ (5 : Int) ∧ (5 : Int) < (a0.length : Int) then
          (a0[(5 : Int).toNat]?).bind fun t78 =>
          if 0 ≤ x16 ∧ x16 < (t78.length : Int) then
            (t78[x16.toNat]?).bind fun t80 =>
            matrix_Orthogonalize.l43 k0 a0 j6 x14 x15 x16 k x36 x37 x38 x39 x40 t80 (w_i64 (5 + 1))
          else none
        else none
      else
      none
    else
      some (x36, x37, x38, x39, x40, x41)
def matrix_Orthogonalize.l17 (k0 : Nat) (a0 : List (List Int)) (j6 : List TA6_Int) : Nat → Int → (List TA6_Int) → Int → Option (Int × List TA6_Int)
  | 0, _, _, _ => none
  | k + 1, x14, x15, x16 =>
    if (decide (x16 < (a0.length : Int))) = true then
      ((matrix_Orthogonalize.l43 k0 a0 j6 x14 x15 x16 k0 0 0 0 0 0 0 0).bind fun (j31 : Int × Int × Int × Int × Int × Int) =>
      if j6.length < 1000000 ∧ ([(⟨j31.1, j31.2.1, j31.2.2.1, j31.2.2.2.1, j31.2.2.2.2.1, j31.2.2.2.2.2⟩ : TA6_Int)] : List TA6_Int).length < 1000000 then
        (matrix_basis_extend_m k0 x14 x15 (([(⟨j31.1, j31.2.1, j31.2.2.1, j31.2.2.2.1, j31.2.2.2.2.1, j31.2.2.2.2.2⟩ : TA6_Int)] : List TA6_Int) ++ j6)).bind fun t34 =>
        some (t34.1, t34.2)
      else none).bind fun (j21 : Int × List TA6_Int) =>
      matrix_Orthogonalize.l17 k0 a0 j6 k j21.1 j21.2 (w_i64 (x16 + 1))
    else
      some (x14, x15)
def matrix_Orthogonalize.l93 (k0 : Nat) (a0 : List (List Int)) : Nat → (List TA6_Int) → Int → Option (List TA6_Int)
  | 0, _, _ => none
  | k + 1, x91, x92 =>
    if (decide (x92 < (a0.length : Int))) = true then
      if x92 = 0 then
        if 0 ≤ (0 : Int) ∧ (0 : Int) < (x91.length : Int) then
          (x91[(0 : Int).toNat]?).bind fun t98 =>
          matrix_Orthogonalize.l93 k0 a0 k (x91.set ((0 : Int).toNat) (⟨65536, t98.e1, t98.e2, t98.e3, t98.e4, t98.e5⟩ : TA6_Int)) (w_i64 (0 + 1))
        else none
      else
      if x92 = 1 then
        if 0 ≤ (1 : Int) ∧ (1 : Int) < (x91.length : Int) then
          (x91[(1 : Int).toNat]?).bind fun t102 =>
          matrix_Orthogonalize.l93 k0 a0 k (x91.set ((1 : Int).toNat) (⟨t102.e0, 65536, t102.e2, t102.e3, t102.e4, t102.e5⟩ : TA6_Int)) (w_i64 (1 + 1))
        else none
      else
      if x92 = 2 then
        if 0 ≤ (2 : Int) ∧ (2 : Int) < (x91.length : Int) then
          (x91[(2 : Int).toNat]?).bind fun t106 =>
          matrix_Orthogonalize.l93 k0 a0 k (x91.set ((2 : Int).toNat) (⟨t106.e0, t106.e1, 65536, t106.e3, t106.e4, t106.e5⟩ : TA6_Int)) (w_i64 (2 + 1))
        else none
      else
      if x92 = 3 then
        if 0 ≤ (3 : Int) ∧ (3 : Int) < (x91.length : Int) then
          (x91[(3 : Int).toNat]?).bind fun t110 =>
          matrix_Orthogonalize.l93 k0 a0 k (x91.set ((3 : Int).toNat) (⟨t110.e0, t110.e1, t110.e2, 65536, t110.e4, t110.e5⟩ : TA6_Int)) (w_i64 (3 + 1))
        else none
      else
      if x92 = 4 then
        if 0 ≤ (4 : Int) ∧ (4 : Int) < (x91.length : Int) then
          (x91[(4 : Int).toNat]?).bind fun t114 =>
          matrix_Orthogonalize.l93 k0 a0 k (x91.set ((4 : Int).toNat) (⟨t114.e0, t114.e1, t114.e2, t114.e3, 65536, t114.e5⟩ : TA6_Int)) (w_i64 (4 + 1))
        else none
      else
      if x92 = 5 then
        if 0 ≤ (5 : Int) ∧ (5 : Int) < (x91.length : Int) then
          (x91[(5 : Int).toNat]?).bind fun t118 =>
          matrix_Orthogonalize.l93 k0 a0 k (x91.set ((5 : Int).toNat) (⟨t118.e0, t118.e1, t118.e2, t118.e3, t118.e4, 65536⟩ : TA6_Int)) (w_i64 (5 + 1))
        else none
      else
      none
    else
      some (x91)
def matrix_Orthogonalize (k0 : Nat) (a0 : List (List Int)) : Option (List (List Int)) :=
  if 0 ≤ (a0.length : Int) ∧ (a0.length : Int) < 1000000 then
    (matrix_Orthogonalize.l93 k0 a0 k0 (List.replicate (a0.length : Int).toNat (⟨0, 0, 0, 0, 0, 0⟩ : TA6_Int)) 0).bind fun (j6 : List TA6_Int) =>
    (matrix_Orthogonalize.l17 k0 a0 j6 k0 (a0.length : Int) ([] : List TA6_Int) 0).bind fun (j10 : Int × List TA6_Int) =>
    (matrix_build_int64_s68 k0 (a0.length : Int) (⟨j10.1, j10.2⟩ : Tbasis)).bind fun t12 =>
    some t12
  else none
def api_Interval_95_m (a1 : Int) : Option (List TInterval) :=
  if (decide (a1 < 0)) = true then
    none
  else
    if (decide ((w_i64 (a1 - (w_i64 (0 - 0)))) > 0)) = true then
      if 0 < w_i64 (a1 - (w_i64 (0 - 0))) ∧ w_i64 (a1 - (w_i64 (0 - 0))) < 1000000 then
        some ([] : List TInterval)
      else none
    else
      some ([] : List TInterval)
def api_Interval_70.l13 (k0 : Nat) (a0 : List (List TInterval)) (j4 : Int) (t6 : List TInterval) : Nat → (List TInterval) → Int → Option (List TInterval)
  | 0, _, _ => none
  | k + 1, x11, x12 =>
    if (decide (x12 < (a0.length : Int))) = true then
      if 0 ≤ x12 ∧ x12 < (a0.length : Int) then
        (a0[x12.toNat]?).bind fun t17 =>
        if t17.length < 1000000 ∧ x11.length < 1000000 then
          api_Interval_70.l13 k0 a0 j4 t6 k (x11 ++ t17) (w_i64 (x12 + 1))
        else none
      else none
    else
      some (x11)
def api_Interval_70.l25 (k0 : Nat) (a0 : List (List TInterval)) : Nat → Int → Int → Option (Int)
  | 0, _, _ => none
  | k + 1, x23, x24 =>
    if (decide (x24 < (a0.length : Int))) = true then
      if 0 ≤ x24 ∧ x24 < (a0.length : Int) then
        (a0[x24.toNat]?).bind fun t29 =>
        if (decide ((w_i64 (x23 + (t29.length : Int))) < 0)) = true then
          none
        else
          api_Interval_70.l25 k0 a0 k (w_i64 (x23 + (t29.length : Int))) (w_i64 (x24 + 1))
      else none
    else
      some (x23)
def api_Interval_70 (k0 : Nat) (a0 : List (List TInterval)) : Option (List TInterval) :=
  (api_Interval_70.l25 k0 a0 k0 0 0).bind fun (j4 : Int) =>
  (api_Interval_95_m j4).bind fun t6 =>
  (api_Interval_70.l13 k0 a0 j4 t6 k0 t6 0).bind fun (j8 : List TInterval) =>
  some j8
def interval_pick_int (a0 : Bool) (a1 : Int) (a2 : Int) : Option (Int) :=
  if a0 = true then
    some a1
  else
    some a2
def interval_Sign (a0 : TInterval) : Option (Int) :=
  (interval_pick_int (decide (a0.Hi < 0)) (-1) 0).bind fun t3 =>
  (interval_pick_int (decide (a0.Lo > 0)) 1 t3).bind fun t4 =>
  some t4
def matrix_mignitude (a0 : TInterval) : Option (Int) :=
  some (mn (mx a0.Lo (w_i64 (0 - a0.Lo))) (mx a0.Hi (w_i64 (0 - a0.Hi))))
def matrix_pivotRow.l9 (k0 : Nat) (a0 : List (List TInterval)) (a1 : Int) : Nat → Int → Int → Option (Int)
  | 0, _, _ => none
  | k + 1, x7, x8 =>
    if (decide (x8 < (a0.length : Int))) = true then
      (if 0 ≤ x8 ∧ x8 < (a0.length : Int) then
        (a0[x8.toNat]?).bind fun t16 =>
        if 0 ≤ a1 ∧ a1 < (t16.length : Int) then
          (t16[a1.toNat]?).bind fun t19 =>
          (interval_Sign t19).bind fun t20 =>
          (some (t20 != 0)).bind fun z21 =>
          if z21 = true then
            (some (decide (x7 < 0))).bind fun z22 =>
            if z22 = true then
              some (x8)
            else
            if z22 = false then
              if 0 ≤ x8 ∧ x8 < (a0.length : Int) then
                (a0[x8.toNat]?).bind fun t24 =>
                if 0 ≤ a1 ∧ a1 < (t24.length : Int) then
                  (t24[a1.toNat]?).bind fun t26 =>
                  (matrix_mignitude t26).bind fun t27 =>
                  if 0 ≤ x7 ∧ x7 < (a0.length : Int) then
                    (a0[x7.toNat]?).bind fun t29 =>
                    if 0 ≤ a1 ∧ a1 < (t29.length : Int) then
                      (t29[a1.toNat]?).bind fun t31 =>
                      (matrix_mignitude t31).bind fun t32 =>
                      if (decide (t27 > t32)) = true then
                        some (x8)
                      else
                        some (x7)
                    else none
                  else none
                else none
              else none
            else
            none
          else
          if z21 = false then
            some (x7)
          else
          none
        else none
      else none).bind fun (j12 : Int) =>
      matrix_pivotRow.l9 k0 a0 a1 k j12 (w_i64 (x8 + 1))
    else
      some (x7)
def matrix_pivotRow (k0 : Nat) (a0 : List (List TInterval)) (a1 : Int) : Option (Int) :=
  (matrix_pivotRow.l9 k0 a0 a1 k0 (-1) a1).bind fun (j4 : Int) =>
  some j4
def interval_Contains (a0 : TInterval) (a1 : Int) : Option (Bool) :=
  (interval_IsEntire a0).bind fun t3 =>
  some (t3 || ((decide (a0.Lo ≤ a1)) && (decide (a1 ≤ a0.Hi))))
def fixed_Div (a0 : Int) (a1 : Int) : Option (Int × Int × Int) :=
  if (a1 == 0) = true then
    some (0, 0, 3)
  else
    (fixed_divide (w_i64 (a0 * 65536)) a1).bind fun t5 =>
    some (t5.1, t5.2, 0)
def interval_Div (a0 : TInterval) (a1 : TInterval) : Option (TInterval) :=
  (interval_IsEntire a0).bind fun t3 =>
  (if (t3 == false) = true then interval_IsEntire a1 else some default).bind fun t4 =>
  (if ((t3 || t4) == false) = true then interval_Contains a1 0 else some default).bind fun t5 =>
  if ((t3 || t4) || t5) = true then
    (interval_Entire).bind fun t7 =>
    some t7
  else
    (interval_side a0).bind fun t9 =>
    if t9 = 0 then
      (interval_pick_int (decide (a1.Lo > 0)) 1 0).bind fun t10 =>
      if t10 = 0 then
        (interval_hl a0 a1).bind fun t12 =>
        (fixed_Div t12.1 t12.2).bind fun t13 =>
        (interval_lh a0 a1).bind fun t15 =>
        (fixed_Div t15.1 t15.2).bind fun t16 =>
        (interval_New t13.1 t16.2.1).bind fun t18 =>
        some t18
      else
      if t10 = 1 then
        (interval_ll a0 a1).bind fun t12 =>
        (fixed_Div t12.1 t12.2).bind fun t13 =>
        (interval_hh a0 a1).bind fun t15 =>
        (fixed_Div t15.1 t15.2).bind fun t16 =>
        (interval_New t13.1 t16.2.1).bind fun t18 =>
        some t18
      else
      none
    else
    if t9 = 1 then
      (interval_pick_int (decide (a1.Lo > 0)) 1 0).bind fun t10 =>
      if t10 = 0 then
        (interval_hh a0 a1).bind fun t12 =>
        (fixed_Div t12.1 t12.2).bind fun t13 =>
        (interval_lh a0 a1).bind fun t15 =>
        (fixed_Div t15.1 t15.2).bind fun t16 =>
        (interval_New t13.1 t16.2.1).bind fun t18 =>
        some t18
      else
      if t10 = 1 then
        (interval_ll a0 a1).bind fun t12 =>
        (fixed_Div t12.1 t12.2).bind fun t13 =>
        (interval_hl a0 a1).bind fun t15 =>
        (fixed_Div t15.1 t15.2).bind fun t16 =>
        (interval_New t13.1 t16.2.1).bind fun t18 =>
        some t18
      else
      none
    else
    if t9 = 2 then
      (interval_pick_int (decide (a1.Lo > 0)) 1 0).bind fun t10 =>
      if t10 = 0 then
        (interval_hh a0 a1).bind fun t12 =>
        (fixed_Div t12.1 t12.2).bind fun t13 =>
        (interval_ll a0 a1).bind fun t15 =>
        (fixed_Div t15.1 t15.2).bind fun t16 =>
        (interval_New t13.1 t16.2.1).bind fun t18 =>
        some t18
      else
      if t10 = 1 then
        (interval_lh a0 a1).bind fun t12 =>
        (fixed_Div t12.1 t12.2).bind fun t13 =>
        (interval_hl a0 a1).bind fun t15 =>
        (fixed_Div t15.1 t15.2).bind fun t16 =>
        (interval_New t13.1 t16.2.1).bind fun t18 =>
        some t18
      else
      none
    else
    none
def interval_Neg (a0 : TInterval) : Option (TInterval) :=
  some (⟨w_i64 (0 - a0.Hi), w_i64 (0 - a0.Lo)⟩ : TInterval)
def interval_Sub (a0 : TInterval) (a1 : TInterval) : Option (TInterval) :=
  (interval_Neg a1).bind fun t3 =>
  (interval_Add a0 t3).bind fun t4 =>
  some t4
def api_Interval_105_s76.l6 (k0 : Nat) (a0 : List TInterval) : Nat → Int → Option ((Int) ⊕ (Unit))
  | 0, _ => none
  | k + 1, x5 =>
    if (decide (x5 < (a0.length : Int))) = true then
      if 0 ≤ x5 ∧ x5 < (a0.length : Int) then
        (a0[x5.toNat]?).bind fun t11 =>
        (interval_IsEntire t11).bind fun t12 =>
        if t12 = true then
          some (.inl x5)
        else
          api_Interval_105_s76.l6 k0 a0 k (w_i64 (x5 + 1))
      else none
    else
      some (.inr ())
def api_Interval_105_s76 (k0 : Nat) (a0 : List TInterval) : Option (Int) :=
  (api_Interval_105_s76.l6 k0 a0 k0 0 : Option ((Int) ⊕ (Unit))).bind fun j2 => match j2 with
  | .inl r => some r
  | .inr j2v =>
    some (-1)
def api_Interval_75_s76 (k0 : Nat) (a0 : List TInterval) : Option (Bool) :=
  (api_Interval_105_s76 k0 a0).bind fun t3 =>
  some (decide (t3 ≥ 0))
def matrix_Inverse.l15 (k0 : Nat) (a0 : List (List TInterval)) (j6 : List (List TInterval)) (j8v : List (List TInterval)) : Nat → (List (List TInterval)) → Int → Option ((List (List TInterval) × Bool) ⊕ (List (List TInterval)))
  | 0, _, _ => none
  | k + 1, x13, x14 =>
    if (decide (x14 < (a0.length : Int))) = true then
      if 0 ≤ x14 ∧ x14 < (x13.length : Int) then
        (x13[x14.toNat]?).bind fun t20 =>
        if 0 ≤ (a0.length : Int) ∧ (a0.length : Int) ≤ (t20.length : Int) then
          if 0 ≤ x14 ∧ x14 < (x13.length : Int) then
            (x13[x14.toNat]?).bind fun t23 =>
            if 0 ≤ x14 ∧ x14 < ((x13.set x14.toNat (t20.drop (a0.length : Int).toNat)).length : Int) then
              ((x13.set x14.toNat (t20.drop (a0.length : Int).toNat))[x14.toNat]?).bind fun t26 =>
              (api_Interval_75_s76 k0 t26).bind fun t27 =>
              if t27 = true then
                some (.inl (([] : List (List TInterval)), false))
              else
                matrix_Inverse.l15 k0 a0 j6 j8v k (x13.set x14.toNat (t20.drop (a0.length : Int).toNat)) (w_i64 (x14 + 1))
            else none
          else none
        else none
      else none
    else
      some (.inr (x13))
def matrix_Inverse.l82 (k0 : Nat) (a0 : List (List TInterval)) (j6 : List (List TInterval)) (x33 : List (List TInterval)) (x34 : Int) (t42 : Int) (t47 : List TInterval) (t50 : List TInterval) (t52 : List TInterval) (t54 : List TInterval) (t57 : List TInterval) (t59 : TInterval) (j61 : List (List TInterval)) (x63 : List (List TInterval)) (x64 : Int) (t74 : List TInterval) (t76 : TInterval) (t79 : List TInterval) : Nat → (List (List TInterval)) → Int → Option (List (List TInterval))
  | 0, _, _ => none
  | k + 1, x80, x81 =>
    if (decide (x81 < (t79.length : Int))) = true then
      if 0 ≤ x64 ∧ x64 < (x80.length : Int) then
        (x80[x64.toNat]?).bind fun t87 =>
        if 0 ≤ x64 ∧ x64 < (x80.length : Int) then
          (x80[x64.toNat]?).bind fun t90 =>
          if 0 ≤ x81 ∧ x81 < (t90.length : Int) then
            (t90[x81.toNat]?).bind fun t92 =>
            if 0 ≤ x34 ∧ x34 < (x80.length : Int) then
              (x80[x34.toNat]?).bind fun t95 =>
              if 0 ≤ x81 ∧ x81 < (t95.length : Int) then
                (t95[x81.toNat]?).bind fun t97 =>
                (interval_Mul t76 t97).bind fun t99 =>
                (interval_Sub t92 t99).bind fun t100 =>
                if 0 ≤ x81 ∧ x81 < (t87.length : Int) then
                  (t87[x81.toNat]?).bind fun t102 =>
                  matrix_Inverse.l82 k0 a0 j6 x33 x34 t42 t47 t50 t52 t54 t57 t59 j61 x63 x64 t74 t76 t79 k (x80.set x64.toNat (t87.set x81.toNat t100)) (w_i64 (x81 + 1))
                else none
              else none
            else none
          else none
        else none
      else none
    else
      some (x80)
def matrix_Inverse.l65 (k0 : Nat) (a0 : List (List TInterval)) (j6 : List (List TInterval)) (x33 : List (List TInterval)) (x34 : Int) (t42 : Int) (t47 : List TInterval) (t50 : List TInterval) (t52 : List TInterval) (t54 : List TInterval) (t57 : List TInterval) (t59 : TInterval) (j61 : List (List TInterval)) : Nat → (List (List TInterval)) → Int → Option (((List (List TInterval) × Bool) ⊕ (List (List TInterval))) ⊕ (List (List TInterval)))
  | 0, _, _ => none
  | k + 1, x63, x64 =>
    if (decide (x64 < (a0.length : Int))) = true then
      (if (x64 == x34) = true then
        some (x63)
      else
        if 0 ≤ x64 ∧ x64 < (x63.length : Int) then
          (x63[x64.toNat]?).bind fun t74 =>
          if 0 ≤ x34 ∧ x34 < (t74.length : Int) then
            (t74[x34.toNat]?).bind fun t76 =>
            if 0 ≤ x64 ∧ x64 < (x63.length : Int) then
              (x63[x64.toNat]?).bind fun t79 =>
              matrix_Inverse.l82 k0 a0 j6 x33 x34 t42 t47 t50 t52 t54 t57 t59 j61 x63 x64 t74 t76 t79 k0 x63 0
            else none
          else none
        else none).bind fun (j68 : List (List TInterval)) =>
      matrix_Inverse.l65 k0 a0 j6 x33 x34 t42 t47 t50 t52 t54 t57 t59 j61 k j68 (w_i64 (x64 + 1))
    else
      some (.inr (x63))
def matrix_Inverse.l113 (k0 : Nat) (a0 : List (List TInterval)) (j6 : List (List TInterval)) (x33 : List (List TInterval)) (x34 : Int) (t42 : Int) (t47 : List TInterval) (t50 : List TInterval) (t52 : List TInterval) (t54 : List TInterval) (t57 : List TInterval) (t59 : TInterval) (t110 : List TInterval) : Nat → (List (List TInterval)) → Int → Option (List (List TInterval))
  | 0, _, _ => none
  | k + 1, x111, x112 =>
    if (decide (x112 < (t110.length : Int))) = true then
      if 0 ≤ x34 ∧ x34 < (x111.length : Int) then
        (x111[x34.toNat]?).bind fun t118 =>
        if 0 ≤ x34 ∧ x34 < (x111.length : Int) then
          (x111[x34.toNat]?).bind fun t121 =>
          if 0 ≤ x112 ∧ x112 < (t121.length : Int) then
            (t121[x112.toNat]?).bind fun t123 =>
            (interval_Div t123 t59).bind fun t125 =>
            if 0 ≤ x112 ∧ x112 < (t118.length : Int) then
              (t118[x112.toNat]?).bind fun t127 =>
              matrix_Inverse.l113 k0 a0 j6 x33 x34 t42 t47 t50 t52 t54 t57 t59 t110 k (x111.set x34.toNat (t118.set x112.toNat t125)) (w_i64 (x112 + 1))
            else none
          else none
        else none
      else none
    else
      some (x111)
def matrix_Inverse.l35 (k0 : Nat) (a0 : List (List TInterval)) (j6 : List (List TInterval)) : Nat → (List (List TInterval)) → Int → Option ((List (List TInterval) × Bool) ⊕ (List (List TInterval)))
  | 0, _, _ => none
  | k + 1, x33, x34 =>
    if (decide (x34 < (a0.length : Int))) = true then
      ((matrix_pivotRow k0 x33 x34).bind fun t42 =>
      if (decide (t42 < 0)) = true then
        some (.inl (.inl (([] : List (List TInterval)), false)))
      else
        if 0 ≤ t42 ∧ t42 < (x33.length : Int) then
          (x33[t42.toNat]?).bind fun t47 =>
          if 0 ≤ x34 ∧ x34 < (x33.length : Int) then
            (x33[x34.toNat]?).bind fun t50 =>
            if 0 ≤ x34 ∧ x34 < (x33.length : Int) then
              (x33[x34.toNat]?).bind fun t52 =>
              if 0 ≤ t42 ∧ t42 < ((x33.set x34.toNat t47).length : Int) then
                ((x33.set x34.toNat t47)[t42.toNat]?).bind fun t54 =>
                if 0 ≤ x34 ∧ x34 < (((x33.set x34.toNat t47).set t42.toNat t50).length : Int) then
                  (((x33.set x34.toNat t47).set t42.toNat t50)[x34.toNat]?).bind fun t57 =>
                  if 0 ≤ x34 ∧ x34 < (t57.length : Int) then
                    (t57[x34.toNat]?).bind fun t59 =>
                    (if 0 ≤ x34 ∧ x34 < (((x33.set x34.toNat t47).set t42.toNat t50).length : Int) then
                      (((x33.set x34.toNat t47).set t42.toNat t50)[x34.toNat]?).bind fun t110 =>
                      matrix_Inverse.l113 k0 a0 j6 x33 x34 t42 t47 t50 t52 t54 t57 t59 t110 k0 ((x33.set x34.toNat t47).set t42.toNat t50) 0
                    else none).bind fun (j61 : List (List TInterval)) =>
                    matrix_Inverse.l65 k0 a0 j6 x33 x34 t42 t47 t50 t52 t54 t57 t59 j61 k0 j61 0
                  else none
                else none
              else none
            else none
          else none
        else none : Option (((List (List TInterval) × Bool) ⊕ (List (List TInterval))) ⊕ (List (List TInterval)))).bind fun j38 => match j38 with
      | .inl r => some r
      | .inr j38v =>
        matrix_Inverse.l35 k0 a0 j6 k j38v (w_i64 (x34 + 1))
    else
      some (.inr (x33))
def matrix_Inverse.l137 (k0 : Nat) (a0 : List (List TInterval)) (t134 : List (List TInterval)) : Nat → (List (List TInterval)) → Int → Option (List (List TInterval))
  | 0, _, _ => none
  | k + 1, x135, x136 =>
    if (decide (x136 < (t134.length : Int))) = true then
      if 0 ≤ x136 ∧ x136 < (t134.length : Int) then
        (t134[x136.toNat]?).bind fun t141 =>
        if 0 ≤ x136 ∧ x136 < (a0.length : Int) then
          (a0[x136.toNat]?).bind fun t144 =>
          (api_Interval_70 k0 ([t144, t141] : List (List TInterval))).bind fun t145 =>
          if 0 ≤ x136 ∧ x136 < (x135.length : Int) then
            (x135[x136.toNat]?).bind fun t147 =>
            matrix_Inverse.l137 k0 a0 t134 k (x135.set x136.toNat t145) (w_i64 (x136 + 1))
          else none
        else none
      else none
    else
      some (x135)
def matrix_Inverse (k0 : Nat) (a0 : List (List TInterval)) : Option (List (List TInterval) × Bool) :=
  if 0 ≤ (a0.length : Int) ∧ (a0.length : Int) < 1000000 then
    ((matrix_Identity k0 (a0.length : Int)).bind fun t134 =>
    matrix_Inverse.l137 k0 a0 t134 k0 (List.replicate (a0.length : Int).toNat ([] : List TInterval)) 0).bind fun (j6 : List (List TInterval)) =>
    (matrix_Inverse.l35 k0 a0 j6 k0 j6 0 : Option ((List (List TInterval) × Bool) ⊕ (List (List TInterval)))).bind fun j8 => match j8 with
    | .inl r => some r
    | .inr j8v =>
      (matrix_Inverse.l15 k0 a0 j6 j8v k0 j8v 0 : Option ((List (List TInterval) × Bool) ⊕ (List (List TInterval)))).bind fun j10 => match j10 with
      | .inl r => some r
      | .inr j10v =>
        some (j10v, true)
  else none
def armillaryref02_Number (a0 : Int) : Option (Bool) :=
  some ((decide (a0 > (-2147483648))) && (decide (a0 < 2147483648)))
def armillaryref02_Entire : Option (TInterval) :=
  some (⟨(-2147483648), 2147483648⟩ : TInterval)
def armillaryref02_New (a0 : Int) (a1 : Int) : Option (TInterval) :=
  (armillaryref02_Number a0).bind fun t3 =>
  (if ((!t3) == false) = true then armillaryref02_Number a1 else some default).bind fun t4 =>
  if ((!t3) || (!t4)) = true then
    (armillaryref02_Entire).bind fun t6 =>
    some t6
  else
    some (⟨a0, a1⟩ : TInterval)
def armillaryref02_Point (a0 : Int) : Option (TInterval) :=
  (armillaryref02_New a0 a0).bind fun t3 =>
  some t3
def matrix_FromNumbers_1_m (a0 : Int) (a1 : Int) (q0 : List (List Int)) : Option (TInterval) :=
  if 0 ≤ a0 ∧ a0 < (q0.length : Int) then
    (q0[a0.toNat]?).bind fun t4 =>
    if 0 ≤ a1 ∧ a1 < (t4.length : Int) then
      (t4[a1.toNat]?).bind fun t6 =>
      (interval_Point t6).bind fun t7 =>
      some t7
    else none
  else none
def api_Interval_56_s83.l19 (k0 : Nat) (a0 : Int) (a1_0 : List (List Int)) (x8 : List (List TInterval)) (x9 : Int) : Nat → (List (List TInterval)) → Int → Option (List (List TInterval))
  | 0, _, _ => none
  | k + 1, x17, x18 =>
    if (decide (x18 < a0)) = true then
      if 0 ≤ x9 ∧ x9 < (x17.length : Int) then
        (x17[x9.toNat]?).bind fun t24 =>
        (matrix_FromNumbers_1_m x9 x18 a1_0).bind fun t26 =>
        if t24.length < 1000000 then
          if 0 ≤ x9 ∧ x9 < (x17.length : Int) then
            (x17[x9.toNat]?).bind fun t29 =>
            api_Interval_56_s83.l19 k0 a0 a1_0 x8 x9 k (x17.set x9.toNat (t24 ++ [t26])) (w_i64 (x18 + 1))
          else none
        else none
      else none
    else
      some (x17)
def api_Interval_56_s83.l10 (k0 : Nat) (a0 : Int) (a1_0 : List (List Int)) : Nat → (List (List TInterval)) → Int → Option (List (List TInterval))
  | 0, _, _ => none
  | k + 1, x8, x9 =>
    if (decide (x9 < a0)) = true then
      (api_Interval_56_s83.l19 k0 a0 a1_0 x8 x9 k0 x8 0).bind fun (j13 : List (List TInterval)) =>
      api_Interval_56_s83.l10 k0 a0 a1_0 k j13 (w_i64 (x9 + 1))
    else
      some (x8)
def api_Interval_56_s83 (k0 : Nat) (a0 : Int) (a1_0 : List (List Int)) : Option (List (List TInterval)) :=
  if 0 ≤ a0 ∧ a0 < 1000000 then
    (api_Interval_56_s83.l10 k0 a0 a1_0 k0 (List.replicate a0.toNat ([] : List TInterval)) 0).bind fun (j5 : List (List TInterval)) =>
    some j5
  else none
def matrix_FromNumbers (k0 : Nat) (a0 : List (List Int)) : Option (List (List TInterval)) :=
  (api_Interval_56_s83 k0 (a0.length : Int) a0).bind fun t3 =>
  some t3
def armillarylaw04_square (a0 : Int) (a1 : Int) (a2 : Int) (a3 : Int) : Option (List (List Int)) :=
  some ([([w_i64 (a0 * 65536), w_i64 (a1 * 65536)] : List Int), ([w_i64 (a2 * 65536), w_i64 (a3 * 65536)] : List Int)] : List (List Int))
def interval_Mid (a0 : TInterval) : Option (Int) :=
  some (Int.fdiv (w_i64 (a0.Lo + a0.Hi)) 2)
def matrix_Mid_1_m (a0 : Int) (a1 : Int) (q0 : List (List TInterval)) : Option (Int) :=
  if 0 ≤ a0 ∧ a0 < (q0.length : Int) then
    (q0[a0.toNat]?).bind fun t4 =>
    if 0 ≤ a1 ∧ a1 < (t4.length : Int) then
      (t4[a1.toNat]?).bind fun t6 =>
      (interval_Mid t6).bind fun t7 =>
      some t7
    else none
  else none
def matrix_build_int64_s84.l19 (k0 : Nat) (a0 : Int) (a1_0 : List (List TInterval)) (x8 : List (List Int)) (x9 : Int) : Nat → (List (List Int)) → Int → Option (List (List Int))
  | 0, _, _ => none
  | k + 1, x17, x18 =>
    if (decide (x18 < a0)) = true then
      if 0 ≤ x9 ∧ x9 < (x17.length : Int) then
        (x17[x9.toNat]?).bind fun t24 =>
        (matrix_Mid_1_m x9 x18 a1_0).bind fun t26 =>
        if t24.length < 1000000 then
          if 0 ≤ x9 ∧ x9 < (x17.length : Int) then
            (x17[x9.toNat]?).bind fun t29 =>
            matrix_build_int64_s84.l19 k0 a0 a1_0 x8 x9 k (x17.set x9.toNat (t24 ++ [t26])) (w_i64 (x18 + 1))
          else none
        else none
      else none
    else
      some (x17)
def matrix_build_int64_s84.l10 (k0 : Nat) (a0 : Int) (a1_0 : List (List TInterval)) : Nat → (List (List Int)) → Int → Option (List (List Int))
  | 0, _, _ => none
  | k + 1, x8, x9 =>
    if (decide (x9 < a0)) = true then
      (matrix_build_int64_s84.l19 k0 a0 a1_0 x8 x9 k0 x8 0).bind fun (j13 : List (List Int)) =>
      matrix_build_int64_s84.l10 k0 a0 a1_0 k j13 (w_i64 (x9 + 1))
    else
      some (x8)
def matrix_build_int64_s84 (k0 : Nat) (a0 : Int) (a1_0 : List (List TInterval)) : Option (List (List Int)) :=
  if 0 ≤ a0 ∧ a0 < 1000000 then
    (matrix_build_int64_s84.l10 k0 a0 a1_0 k0 (List.replicate a0.toNat ([] : List Int)) 0).bind fun (j5 : List (List Int)) =>
    some j5
  else none
def matrix_Mid (k0 : Nat) (a0 : List (List TInterval)) : Option (List (List Int)) :=
  (matrix_build_int64_s84 k0 (a0.length : Int) a0).bind fun t3 =>
  some t3
def fixed_Valid (a0 : Int) : Option (Bool) :=
  some ((decide ((-2147483648) < a0)) && (decide (a0 < 2147483648)))
def interval_Valid (a0 : TInterval) : Option (Bool) :=
  (interval_IsEntire a0).bind fun t3 =>
  (if (t3 == false) = true then fixed_Valid a0.Lo else some default).bind fun t4 =>
  (if ((t3 == false) && (t4 == true)) = true then fixed_Valid a0.Hi else some default).bind fun t5 =>
  some (t3 || ((t4 && t5) && (decide (a0.Lo ≤ a0.Hi))))
def matrix_Valid_1 (a0 : TInterval) : Option (Bool) :=
  (interval_Valid a0).bind fun t3 =>
  some (!t3)
def api_Interval_105_s86.l6 (k0 : Nat) (a0 : List TInterval) : Nat → Int → Option ((Int) ⊕ (Unit))
  | 0, _ => none
  | k + 1, x5 =>
    if (decide (x5 < (a0.length : Int))) = true then
      if 0 ≤ x5 ∧ x5 < (a0.length : Int) then
        (a0[x5.toNat]?).bind fun t11 =>
        (matrix_Valid_1 t11).bind fun t12 =>
        if t12 = true then
          some (.inl x5)
        else
          api_Interval_105_s86.l6 k0 a0 k (w_i64 (x5 + 1))
      else none
    else
      some (.inr ())
def api_Interval_105_s86 (k0 : Nat) (a0 : List TInterval) : Option (Int) :=
  (api_Interval_105_s86.l6 k0 a0 k0 0 : Option ((Int) ⊕ (Unit))).bind fun j2 => match j2 with
  | .inl r => some r
  | .inr j2v =>
    some (-1)
def api_Interval_75_s86 (k0 : Nat) (a0 : List TInterval) : Option (Bool) :=
  (api_Interval_105_s86 k0 a0).bind fun t3 =>
  some (decide (t3 ≥ 0))
def matrix_Valid.l9 (k0 : Nat) (a0 : List (List TInterval)) : Nat → Int → Option ((Bool) ⊕ (Unit))
  | 0, _ => none
  | k + 1, x8 =>
    if (decide (x8 < (a0.length : Int))) = true then
      if 0 ≤ x8 ∧ x8 < (a0.length : Int) then
        (a0[x8.toNat]?).bind fun t13 =>
        (if (((t13.length : Int) != (a0.length : Int)) == false) = true then api_Interval_75_s86 k0 t13 else some default).bind fun t15 =>
        if (((t13.length : Int) != (a0.length : Int)) || t15) = true then
          some (.inl false)
        else
          matrix_Valid.l9 k0 a0 k (w_i64 (x8 + 1))
      else none
    else
      some (.inr ())
def matrix_Valid (k0 : Nat) (a0 : List (List TInterval)) : Option (Bool) :=
  if ((decide ((a0.length : Int) < 1)) || (decide ((a0.length : Int) > 6))) = true then
    some false
  else
    (matrix_Valid.l9 k0 a0 k0 0 : Option ((Bool) ⊕ (Unit))).bind fun j5 => match j5 with
    | .inl r => some r
    | .inr j5v =>
      some true
def armillarylaw04_sanity (k0 : Nat)  : Option (Bool) :=
  (armillarylaw04_square 1 2 0 1).bind fun t3 =>
  (matrix_FromNumbers k0 t3).bind fun t4 =>
  (armillaryref02_Point 65536).bind fun t5 =>
  (matrix_Apply k0 t4 ([t5, t5] : List TInterval)).bind fun t7 =>
  (armillarylaw04_square 1 1 0 1).bind fun t9 =>
  (matrix_Orthogonalize k0 t9).bind fun t10 =>
  (armillarylaw04_square 2 0 0 4).bind fun t12 =>
  (matrix_FromNumbers k0 t12).bind fun t13 =>
  (matrix_Inverse k0 t13).bind fun t14 =>
  (armillarylaw04_square 1 1 1 1).bind fun t16 =>
  (matrix_FromNumbers k0 t16).bind fun t17 =>
  (matrix_Inverse k0 t17).bind fun t18 =>
  (matrix_Mul k0 t4 t4).bind fun t20 =>
  (matrix_Transpose k0 t4).bind fun t22 =>
  (matrix_Mid k0 ([([(⟨(-3), 0⟩ : TInterval)] : List TInterval)] : List (List TInterval))).bind fun t24 =>
  if ((t10.length : Int) != 2) = false then
    if 0 ≤ (0 : Int) ∧ (0 : Int) < (t10.length : Int) then
      (t10[(0 : Int).toNat]?).bind fun t28 =>
      if ((t28.length : Int) != 2) = false then
        if 0 ≤ (1 : Int) ∧ (1 : Int) < (t10.length : Int) then
          (t10[(1 : Int).toNat]?).bind fun t31 =>
          if (((t31.length : Int) != 2) || ((t24.length : Int) != 1)) = false then
            if 0 ≤ (0 : Int) ∧ (0 : Int) < (t24.length : Int) then
              (t24[(0 : Int).toNat]?).bind fun t34 =>
              if ((t34.length : Int) != 1) = true then
                some false
              else
                (matrix_Valid k0 t4).bind fun t37 =>
                (if (t37 == true) = true then matrix_Valid k0 ([] : List (List TInterval)) else some default).bind fun t38 =>
                if (t37 && (!t38)) = true then
                  (matrix_Valid k0 ([([t5, t5] : List TInterval)] : List (List TInterval))).bind fun t40 =>
                  if (!t40) = true then
                    (matrix_Valid k0 ([([(⟨2, 1⟩ : TInterval)] : List TInterval)] : List (List TInterval))).bind fun t42 =>
                    if (!t42) = true then
                      (armillaryref02_Point 196608).bind fun t44 =>
                      (armillaryref03_Same k0 t7 ([t44, t5] : List TInterval)).bind fun t45 =>
                      if t45 = true then
                        if 0 ≤ (0 : Int) ∧ (0 : Int) < (t10.length : Int) then
                          (t10[(0 : Int).toNat]?).bind fun t48 =>
                          if 0 ≤ (0 : Int) ∧ (0 : Int) < (t48.length : Int) then
                            (t48[(0 : Int).toNat]?).bind fun t51 =>
                            if (t51 == 65536) = true then
                              if 0 ≤ (0 : Int) ∧ (0 : Int) < (t10.length : Int) then
                                (t10[(0 : Int).toNat]?).bind fun t55 =>
                                if 0 ≤ (1 : Int) ∧ (1 : Int) < (t55.length : Int) then
                                  (t55[(1 : Int).toNat]?).bind fun t57 =>
                                  if (t57 == 0) = true then
                                    if 0 ≤ (1 : Int) ∧ (1 : Int) < (t10.length : Int) then
                                      (t10[(1 : Int).toNat]?).bind fun t61 =>
                                      if 0 ≤ (0 : Int) ∧ (0 : Int) < (t61.length : Int) then
                                        (t61[(0 : Int).toNat]?).bind fun t63 =>
                                        if (t63 == 0) = true then
                                          if 0 ≤ (1 : Int) ∧ (1 : Int) < (t10.length : Int) then
                                            (t10[(1 : Int).toNat]?).bind fun t67 =>
                                            if 0 ≤ (1 : Int) ∧ (1 : Int) < (t67.length : Int) then
                                              (t67[(1 : Int).toNat]?).bind fun t69 =>
                                              if (t69 == 65536) = true then
                                                (armillaryref02_Point 32768).bind fun t72 =>
                                                (armillaryref02_Point 16384).bind fun t73 =>
                                                (armillaryref04_Same k0 t14.1 ([([t72, (⟨0, 0⟩ : TInterval)] : List TInterval), ([(⟨0, 0⟩ : TInterval), t73] : List TInterval)] : List (List TInterval))).bind fun t74 =>
                                                if ((t74 && t14.2) && (!t18.2)) = true then
                                                  (armillarylaw04_square 1 4 0 1).bind fun t76 =>
                                                  (matrix_FromNumbers k0 t76).bind fun t77 =>
                                                  (armillaryref04_Same k0 t20 t77).bind fun t78 =>
                                                  if t78 = true then
                                                    (armillarylaw04_square 1 0 2 1).bind fun t80 =>
                                                    (matrix_FromNumbers k0 t80).bind fun t81 =>
                                                    (armillaryref04_Same k0 t22 t81).bind fun t82 =>
                                                    if t82 = true then
                                                      if 0 ≤ (0 : Int) ∧ (0 : Int) < (t24.length : Int) then
                                                        (t24[(0 : Int).toNat]?).bind fun t85 =>
                                                        if 0 ≤ (0 : Int) ∧ (0 : Int) < (t85.length : Int) then
                                                          (t85[(0 : Int).toNat]?).bind fun t88 =>
                                                          if (t88 == (-2)) = true then
                                                            (matrix_Identity k0 2).bind fun t91 =>
                                                            (armillarylaw04_square 1 0 0 1).bind fun t92 =>
                                                            (matrix_FromNumbers k0 t92).bind fun t93 =>
                                                            (armillaryref04_Same k0 t91 t93).bind fun t94 =>
                                                            if t94 = true then
                                                              (matrix_Identity k0 0).bind fun t96 =>
                                                              if ((t96.length : Int) == 0) = true then
                                                                (matrix_Identity k0 7).bind fun t98 =>
                                                                some ((t98.length : Int) == 0)
                                                              else none
                                                            else none
                                                          else none
                                                        else none
                                                      else none
                                                    else none
                                                  else none
                                                else none
                                              else none
                                            else none
                                          else none
                                        else none
                                      else none
                                    else none
                                  else none
                                else none
                              else none
                            else none
                          else none
                        else none
                      else none
                    else none
                  else none
                else none
            else none
          else none
        else none
      else none
    else none
  else none
def armillaryref04_Dim (a0 : Int) : Option (Int) :=
  some (w_i64 (1 + (Int.tmod (w_i64 a0) 4)))
def armillaryref04_Column.l9 (k0 : Nat) (a0 : List (List Int)) (a1 : Int) : Nat → (List Int) → Int → Option (List Int)
  | 0, _, _ => none
  | k + 1, x7, x8 =>
    if (decide (x8 < (a0.length : Int))) = true then
      if 0 ≤ x8 ∧ x8 < (a0.length : Int) then
        (a0[x8.toNat]?).bind fun t13 =>
        if 0 ≤ a1 ∧ a1 < (t13.length : Int) then
          (t13[a1.toNat]?).bind fun t15 =>
          if x7.length < 1000000 then
            armillaryref04_Column.l9 k0 a0 a1 k (x7 ++ [t15]) (w_i64 (x8 + 1))
          else none
        else none
      else none
    else
      some (x7)
def armillaryref04_Column (k0 : Nat) (a0 : List (List Int)) (a1 : Int) : Option (List Int) :=
  (armillaryref04_Column.l9 k0 a0 a1 k0 ([] : List Int) 0).bind fun (j4 : List Int) =>
  some j4
def armillaryref01_Made (a0 : Int) : Option (Int) :=
  some (Int.tmod a0 16777216)
def armillaryref04_Numbers.l23 (k0 : Nat) (a0 : List Int) (a1 : Int) (x7 : List (List Int)) (x8 : Int) : Nat → (List Int) → Int → Option (List Int)
  | 0, _, _ => none
  | k + 1, x21, x22 =>
    if ((decide (x22 < a1)) && (decide ((w_i64 ((w_i64 (x8 * a1)) + x22)) < (a0.length : Int)))) = true then
      if 0 ≤ w_i64 ((w_i64 (x8 * a1)) + x22) ∧ w_i64 ((w_i64 (x8 * a1)) + x22) < (a0.length : Int) then
        (a0[(w_i64 ((w_i64 (x8 * a1)) + x22)).toNat]?).bind fun t27 =>
        (armillaryref01_Made t27).bind fun t28 =>
        if 0 ≤ x22 ∧ x22 < (x21.length : Int) then
          (x21[x22.toNat]?).bind fun t30 =>
          armillaryref04_Numbers.l23 k0 a0 a1 x7 x8 k (x21.set x22.toNat t28) (w_i64 (x22 + 1))
        else none
      else none
    else
      some (x21)
def armillaryref04_Numbers.l9 (k0 : Nat) (a0 : List Int) (a1 : Int) : Nat → (List (List Int)) → Int → Option (List (List Int))
  | 0, _, _ => none
  | k + 1, x7, x8 =>
    if (decide (x8 < a1)) = true then
      (if 0 ≤ a1 ∧ a1 < 1000000 then
        (armillaryref04_Numbers.l23 k0 a0 a1 x7 x8 k0 (List.replicate a1.toNat (0 : Int)) 0).bind fun (j17 : List Int) =>
        if x7.length < 1000000 then
          some ((x7 ++ [j17]))
        else none
      else none).bind fun (j12 : List (List Int)) =>
      armillaryref04_Numbers.l9 k0 a0 a1 k j12 (w_i64 (x8 + 1))
    else
      some (x7)
def armillaryref04_Numbers (k0 : Nat) (a0 : List Int) (a1 : Int) : Option (List (List Int)) :=
  (armillaryref04_Numbers.l9 k0 a0 a1 k0 ([] : List (List Int)) 0).bind fun (j4 : List (List Int)) =>
  some j4
def armillarylaw04_abs (a0 : Int) : Option (Int) :=
  some (mx a0 (w_i64 (0 - a0)))
def armillarylaw04_bounded.l18 (k0 : Nat) (a0 : List (List Int)) (a1 : Int) (x7 : Int) (t14 : List Int) : Nat → Int → Option (((Bool) ⊕ (Unit)) ⊕ (Unit))
  | 0, _ => none
  | k + 1, x17 =>
    if (decide (x17 < a1)) = true then
      if 0 ≤ x7 ∧ x7 < (a0.length : Int) then
        (a0[x7.toNat]?).bind fun t22 =>
        if 0 ≤ x17 ∧ x17 < (t22.length : Int) then
          (t22[x17.toNat]?).bind fun t24 =>
          (armillarylaw04_abs t24).bind fun t25 =>
          if (decide (t25 > 1048576)) = true then
            some (.inl (.inl false))
          else
            armillarylaw04_bounded.l18 k0 a0 a1 x7 t14 k (w_i64 (x17 + 1))
        else none
      else none
    else
      some (.inr ())
def armillarylaw04_bounded.l8 (k0 : Nat) (a0 : List (List Int)) (a1 : Int) : Nat → Int → Option ((Bool) ⊕ (Unit))
  | 0, _ => none
  | k + 1, x7 =>
    if (decide (x7 < a1)) = true then
      (if 0 ≤ x7 ∧ x7 < (a0.length : Int) then
        (a0[x7.toNat]?).bind fun t14 =>
        if ((t14.length : Int) != a1) = true then
          some (.inl (.inl false))
        else
          armillarylaw04_bounded.l18 k0 a0 a1 x7 t14 k0 0
      else none : Option (((Bool) ⊕ (Unit)) ⊕ (Unit))).bind fun j10 => match j10 with
      | .inl r => some r
      | .inr j10v =>
        armillarylaw04_bounded.l8 k0 a0 a1 k (w_i64 (x7 + 1))
    else
      some (.inr ())
def armillarylaw04_bounded (k0 : Nat) (a0 : List (List Int)) (a1 : Int) : Option (Bool) :=
  if ((a0.length : Int) != a1) = true then
    some false
  else
    (armillarylaw04_bounded.l8 k0 a0 a1 k0 0 : Option ((Bool) ⊕ (Unit))).bind fun j4 => match j4 with
    | .inl r => some r
    | .inr j4v =>
      some true
def armillaryref04_Length.l11 (k0 : Nat) (a0 : List Int) (j4 : Int) : Nat → Int → Int → Option (Int)
  | 0, _, _ => none
  | k + 1, x9, x10 =>
    if (decide (x9 < x10)) = true then
      (some (w_i64 ((w_i64 (Int.tdiv (w_i64 ((w_i64 (x9 + x10)) + 1)) 2)) * (w_i64 (Int.tdiv (w_i64 ((w_i64 (x9 + x10)) + 1)) 2))))).bind fun z15 =>
      if (decide (z15 ≤ j4)) = true then
        armillaryref04_Length.l11 k0 a0 j4 k (w_i64 (Int.tdiv (w_i64 ((w_i64 (x9 + x10)) + 1)) 2)) x10
      else
        armillaryref04_Length.l11 k0 a0 j4 k x9 (w_i64 ((w_i64 (Int.tdiv (w_i64 ((w_i64 (x9 + x10)) + 1)) 2)) - 1))
    else
      some (x9)
def armillaryref04_Length.l23 (k0 : Nat) (a0 : List Int) : Nat → Int → Int → Option (Int)
  | 0, _, _ => none
  | k + 1, x21, x22 =>
    if (decide (x22 < (a0.length : Int))) = true then
      if 0 ≤ x22 ∧ x22 < (a0.length : Int) then
        (a0[x22.toNat]?).bind fun t27 =>
        if 0 ≤ x22 ∧ x22 < (a0.length : Int) then
          (a0[x22.toNat]?).bind fun t30 =>
          armillaryref04_Length.l23 k0 a0 k (w_i64 (x21 + (w_i64 (t27 * t30)))) (w_i64 (x22 + 1))
        else none
      else none
    else
      some (x21)
def armillaryref04_Length (k0 : Nat) (a0 : List Int) : Option (Int) :=
  (armillaryref04_Length.l23 k0 a0 k0 0 0).bind fun (j4 : Int) =>
  (armillaryref04_Length.l11 k0 a0 j4 k0 0 2147483648).bind fun (j7 : Int) =>
  some j7
def armillarylaw04_MatrixOrthogonalizeIdempotent.l27 (k0 : Nat) (a0 : List Int) (a1 : Int) (t3 : Bool) (t5 : Int) (t7 : List (List Int)) (t9 : List (List Int)) (t11 : Bool) (t14 : List (List Int)) (t16 : Bool) (j18v : Unit) (t20 : List Int) (t22 : Int) : Nat → Int → Option ((Bool) ⊕ (Unit))
  | 0, _ => none
  | k + 1, x26 =>
    if ((decide (x26 < t5)) && (decide (t22 ≥ 4096))) = true then
      if 0 ≤ x26 ∧ x26 < (t9.length : Int) then
        (t9[x26.toNat]?).bind fun t31 =>
        if 0 ≤ (0 : Int) ∧ (0 : Int) < (t31.length : Int) then
          (t31[(0 : Int).toNat]?).bind fun t34 =>
          if 0 ≤ x26 ∧ x26 < (t20.length : Int) then
            (t20[x26.toNat]?).bind fun t37 =>
            (armillarylaw04_abs (w_i64 ((w_i64 (t34 * t22)) - (w_i64 (t37 * 65536))))).bind fun t39 =>
            if (decide (t39 > (w_i64 (2 * t22)))) = true then
              some (.inl false)
            else
              armillarylaw04_MatrixOrthogonalizeIdempotent.l27 k0 a0 a1 t3 t5 t7 t9 t11 t14 t16 j18v t20 t22 k (w_i64 (x26 + 1))
          else none
        else none
      else none
    else
      some (.inr ())
def armillarylaw04_MatrixOrthogonalizeIdempotent.l52 (k0 : Nat) (a0 : List Int) (a1 : Int) (t3 : Bool) (t5 : Int) (t7 : List (List Int)) (t9 : List (List Int)) (t11 : Bool) (t14 : List (List Int)) (t16 : Bool) (x45 : Int) : Nat → Int → Option (((Bool) ⊕ (Unit)) ⊕ (Unit))
  | 0, _ => none
  | k + 1, x51 =>
    if (decide (x51 < t5)) = true then
      if 0 ≤ x45 ∧ x45 < (t9.length : Int) then
        (t9[x45.toNat]?).bind fun t56 =>
        if 0 ≤ x51 ∧ x51 < (t56.length : Int) then
          (t56[x51.toNat]?).bind fun t59 =>
          if 0 ≤ x45 ∧ x45 < (t14.length : Int) then
            (t14[x45.toNat]?).bind fun t62 =>
            if 0 ≤ x51 ∧ x51 < (t62.length : Int) then
              (t62[x51.toNat]?).bind fun t65 =>
              (armillarylaw04_abs (w_i64 (t59 - t65))).bind fun t67 =>
              if (decide (t67 > 1024)) = true then
                some (.inl (.inl false))
              else
                armillarylaw04_MatrixOrthogonalizeIdempotent.l52 k0 a0 a1 t3 t5 t7 t9 t11 t14 t16 x45 k (w_i64 (x51 + 1))
            else none
          else none
        else none
      else none
    else
      some (.inr ())
def armillarylaw04_MatrixOrthogonalizeIdempotent.l46 (k0 : Nat) (a0 : List Int) (a1 : Int) (t3 : Bool) (t5 : Int) (t7 : List (List Int)) (t9 : List (List Int)) (t11 : Bool) (t14 : List (List Int)) (t16 : Bool) : Nat → Int → Option ((Bool) ⊕ (Unit))
  | 0, _ => none
  | k + 1, x45 =>
    if (decide (x45 < t5)) = true then
      (armillarylaw04_MatrixOrthogonalizeIdempotent.l52 k0 a0 a1 t3 t5 t7 t9 t11 t14 t16 x45 k0 0 : Option (((Bool) ⊕ (Unit)) ⊕ (Unit))).bind fun j48 => match j48 with
      | .inl r => some r
      | .inr j48v =>
        armillarylaw04_MatrixOrthogonalizeIdempotent.l46 k0 a0 a1 t3 t5 t7 t9 t11 t14 t16 k (w_i64 (x45 + 1))
    else
      some (.inr ())
def armillarylaw04_MatrixOrthogonalizeIdempotent (k0 : Nat) (a0 : List Int) (a1 : Int) : Option (Bool) :=
  (armillarylaw04_sanity k0).bind fun t3 =>
  (armillaryref04_Dim a1).bind fun t5 =>
  (armillaryref04_Numbers k0 a0 t5).bind fun t7 =>
  (matrix_Orthogonalize k0 t7).bind fun t9 =>
  (armillarylaw04_bounded k0 t9 t5).bind fun t11 =>
  if (!t11) = true then
    some false
  else
    (matrix_Orthogonalize k0 t9).bind fun t14 =>
    (armillarylaw04_bounded k0 t14 t5).bind fun t16 =>
    if (!t16) = true then
      some false
    else
      (armillarylaw04_MatrixOrthogonalizeIdempotent.l46 k0 a0 a1 t3 t5 t7 t9 t11 t14 t16 k0 0 : Option ((Bool) ⊕ (Unit))).bind fun j18 => match j18 with
      | .inl r => some r
      | .inr j18v =>
        (armillaryref04_Column k0 t7 0).bind fun t20 =>
        (armillaryref04_Length k0 t20).bind fun t22 =>
        (armillarylaw04_MatrixOrthogonalizeIdempotent.l27 k0 a0 a1 t3 t5 t7 t9 t11 t14 t16 j18v t20 t22 k0 0 : Option ((Bool) ⊕ (Unit))).bind fun j23 => match j23 with
        | .inl r => some r
        | .inr j23v =>
          some t3
def armillarylaw04_MatrixOrthogonalizeIdempotent.Pure : Prop :=
  ∀ (c0_0 : List Int) (c1_0 : Int), (∀ y ∈ c0_0, ((-9223372036854775808) ≤ y ∧ y ≤ 9223372036854775807)) → (0 ≤ c1_0 ∧ c1_0 ≤ 255) → ∃ k0 : Nat, armillarylaw04_MatrixOrthogonalizeIdempotent k0 c0_0 c1_0 = some true
end Go.Proofs.YtglcmhldonkfdaaDoor
