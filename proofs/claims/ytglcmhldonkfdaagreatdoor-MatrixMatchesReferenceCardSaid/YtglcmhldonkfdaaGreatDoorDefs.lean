/- The program's functions as plain Lean functions, printed out of the program by a program of this session. -/
import GoSem.Core.View
set_option linter.unusedVariables false
namespace Go.Proofs.YtglcmhldonkfdaaGreatDoor
abbrev qe (n : Int) : Int := Go.IntKind.wrap .i64 n
abbrev XI (n : Int) : Int := Go.IntKind.wrap .u64 n
abbrev mn (x y : Int) : Int := if y < x then y else x
abbrev mx (x y : Int) : Int := if y > x then y else x
def qbP (k : Go.IntKind) (x y : Int) : Int := k.wrap ((BitVec.ofInt k.bits x) &&& (BitVec.ofInt k.bits y)).toNat
structure qa where
 Lo : Int
 Hi : Int
deriving Inhabited, DecidableEq
structure qG where
 e0 : Int
 e1 : Int
 e2 : Int
 e3 : Int
 e4 : Int
 e5 : Int
deriving Inhabited, DecidableEq
structure Zx where
 n : Int
 columns : List qG
deriving Inhabited, DecidableEq
structure Zp where
 A : List qa
 B : List qa
 X : List qa
 N : Int
deriving Inhabited, DecidableEq
def XD : Option (qa) :=
 some (⟨(-2147483648), 2147483648⟩ : qa)
def Qz (a0 : qa) : Option (Bool) :=
 (XD).bind fun t3 =>
 some ((a0.Lo == t3.Lo) && ((a0.Hi == t3.Hi) && true))
def Y8 (a0 : Int) : Option (Bool) :=
 some ((decide ((-2147483648) < a0)) && (decide (a0 < 2147483648)))
def YY (a0 : qa) : Option (Bool) :=
 (Qz a0).bind fun t3 =>
 (if (t3 == false) = true then Y8 a0.Lo else some default).bind fun t4 =>
 (if ((t3 == false) && (t4 == true)) = true then Y8 a0.Hi else some default).bind fun t5 =>
 some (t3 || ((t4 && t5) && (decide (a0.Lo ≤ a0.Hi))))
def Y1 (a0 : qa) : Option (Bool) :=
 (YY a0).bind fun t3 =>
 some (!t3)
def QY.l6 (k0 : Nat) (a0 : List qa) : Nat → Int → Option ((Int) ⊕ (Unit))
 | 0, _ => none
 | k + 1, x5 =>
  if (decide (x5 < (a0.length : Int))) = true then
   if 0 ≤ x5 ∧ x5 < (a0.length : Int) then
    (a0[x5.toNat]?).bind fun t11 =>
    (Y1 t11).bind fun t12 =>
    if t12 = true then
     some (.inl x5)
    else
     QY.l6 k0 a0 k (qe (x5 + 1))
   else none
  else
   some (.inr ())
def QY (k0 : Nat) (a0 : List qa) : Option (Int) :=
 (QY.l6 k0 a0 k0 0 : Option ((Int) ⊕ (Unit))).bind fun j2 => match j2 with
 | .inl r => some r
 | .inr j2v =>
  some (-1)
def Yv (k0 : Nat) (a0 : List qa) : Option (Bool) :=
 (QY k0 a0).bind fun t3 =>
 some (decide (t3 ≥ 0))
def Xd.l9 (k0 : Nat) (a0 : List (List qa)) : Nat → Int → Option ((Bool) ⊕ (Unit))
 | 0, _ => none
 | k + 1, x8 =>
  if (decide (x8 < (a0.length : Int))) = true then
   if 0 ≤ x8 ∧ x8 < (a0.length : Int) then
    (a0[x8.toNat]?).bind fun t13 =>
    (if (((t13.length : Int) != (a0.length : Int)) == false) = true then Yv k0 t13 else some default).bind fun t15 =>
    if (((t13.length : Int) != (a0.length : Int)) || t15) = true then
     some (.inl false)
    else
     Xd.l9 k0 a0 k (qe (x8 + 1))
   else none
  else
   some (.inr ())
def Xd (k0 : Nat) (a0 : List (List qa)) : Option (Bool) :=
 if ((decide ((a0.length : Int) < 1)) || (decide ((a0.length : Int) > 6))) = true then
  some false
 else
  (Xd.l9 k0 a0 k0 0 : Option ((Bool) ⊕ (Unit))).bind fun j5 => match j5 with
  | .inl r => some r
  | .inr j5v =>
   some true
def Qx (a0 : Int) (a1 : Int) : Option (qa) :=
 (some (((decide (a0 ≤ (-2147483648))) || (decide (a1 ≥ 2147483648))) || (decide (a0 ≥ 2147483648)))).bind fun z3 =>
 if (z3 || (decide (a1 ≤ (-2147483648)))) = true then
  (XD).bind fun t5 =>
  some t5
 else
  some (⟨a0, a1⟩ : qa)
def Yl (a0 : Int) : Option (qa) :=
 (Qx a0 a0).bind fun t3 =>
 some t3
def YH (a0 : Int) (a1 : Int) : Option (qa) :=
 if (a0 == a1) = true then
  (Yl 65536).bind fun t4 =>
  some t4
 else
  (Yl 0).bind fun t6 =>
  some t6
def Qg.l19 (k0 : Nat) (a0 : Int) (x8 : List (List qa)) (x9 : Int) : Nat → (List (List qa)) → Int → Option (List (List qa))
 | 0, _, _ => none
 | k + 1, x17, x18 =>
  if (decide (x18 < a0)) = true then
   if 0 ≤ x9 ∧ x9 < (x17.length : Int) then
    (x17[x9.toNat]?).bind fun t24 =>
    (YH x9 x18).bind fun t26 =>
    if t24.length < 1000000 then
     if 0 ≤ x9 ∧ x9 < (x17.length : Int) then
      (x17[x9.toNat]?).bind fun t29 =>
      Qg.l19 k0 a0 x8 x9 k (x17.set x9.toNat (t24 ++ [t26])) (qe (x18 + 1))
     else none
    else none
   else none
  else
   some (x17)
def Qg.l10 (k0 : Nat) (a0 : Int) : Nat → (List (List qa)) → Int → Option (List (List qa))
 | 0, _, _ => none
 | k + 1, x8, x9 =>
  if (decide (x9 < a0)) = true then
   (Qg.l19 k0 a0 x8 x9 k0 x8 0).bind fun (j13 : List (List qa)) =>
   Qg.l10 k0 a0 k j13 (qe (x9 + 1))
  else
   some (x8)
def Qg (k0 : Nat) (a0 : Int) : Option (List (List qa)) :=
 if 0 ≤ a0 ∧ a0 < 1000000 then
  (Qg.l10 k0 a0 k0 (List.replicate a0.toNat ([] : List qa)) 0).bind fun (j5 : List (List qa)) =>
  some j5
 else none
def Xp (k0 : Nat) (a0 : Int) : Option (List (List qa)) :=
 if ((decide (a0 < 1)) || (decide (a0 > 6))) = true then
  some ([] : List (List qa))
 else
  (Qg k0 a0).bind fun t5 =>
  some t5
def YF (a1 : Int) : Option (List qa) :=
 if (decide (a1 < 0)) = true then
  none
 else
  if (decide ((qe (a1 - (qe (0 - 0)))) > 0)) = true then
   if 0 < qe (a1 - (qe (0 - 0))) ∧ qe (a1 - (qe (0 - 0))) < 1000000 then
    some ([] : List qa)
   else none
  else
   some ([] : List qa)
def QK.l13 (k0 : Nat) (a0 : List (List qa)) (j4 : Int) (t6 : List qa) : Nat → (List qa) → Int → Option (List qa)
 | 0, _, _ => none
 | k + 1, x11, x12 =>
  if (decide (x12 < (a0.length : Int))) = true then
   if 0 ≤ x12 ∧ x12 < (a0.length : Int) then
    (a0[x12.toNat]?).bind fun t17 =>
    if t17.length < 1000000 ∧ x11.length < 1000000 then
     QK.l13 k0 a0 j4 t6 k (x11 ++ t17) (qe (x12 + 1))
    else none
   else none
  else
   some (x11)
def QK.l25 (k0 : Nat) (a0 : List (List qa)) : Nat → Int → Int → Option (Int)
 | 0, _, _ => none
 | k + 1, x23, x24 =>
  if (decide (x24 < (a0.length : Int))) = true then
   if 0 ≤ x24 ∧ x24 < (a0.length : Int) then
    (a0[x24.toNat]?).bind fun t29 =>
    if (decide ((qe (x23 + (t29.length : Int))) < 0)) = true then
     none
    else
     QK.l25 k0 a0 k (qe (x23 + (t29.length : Int))) (qe (x24 + 1))
   else none
  else
   some (x23)
def QK (k0 : Nat) (a0 : List (List qa)) : Option (List qa) :=
 (QK.l25 k0 a0 k0 0 0).bind fun (j4 : Int) =>
 (YF j4).bind fun t6 =>
 (QK.l13 k0 a0 j4 t6 k0 t6 0).bind fun (j8 : List qa) =>
 some j8
def Q2 (a0 : Bool) (a1 : Int) (a2 : Int) : Option (Int) :=
 if a0 = true then
  some a1
 else
  some a2
def YM (a0 : qa) : Option (Int) :=
 (Q2 (decide (a0.Hi < 0)) (-1) 0).bind fun t3 =>
 (Q2 (decide (a0.Lo > 0)) 1 t3).bind fun t4 =>
 some t4
def Yr (a0 : qa) : Option (Int) :=
 some (mn (mx a0.Lo (qe (0 - a0.Lo))) (mx a0.Hi (qe (0 - a0.Hi))))
def Xl.l9 (k0 : Nat) (a0 : List (List qa)) (a1 : Int) : Nat → Int → Int → Option (Int)
 | 0, _, _ => none
 | k + 1, x7, x8 =>
  if (decide (x8 < (a0.length : Int))) = true then
   (if 0 ≤ x8 ∧ x8 < (a0.length : Int) then
    (a0[x8.toNat]?).bind fun t16 =>
    if 0 ≤ a1 ∧ a1 < (t16.length : Int) then
     (t16[a1.toNat]?).bind fun t19 =>
     (YM t19).bind fun t20 =>
     (some (t20 != 0)).bind fun z21 =>
     if z21 = true then
      (some (decide (x7 < 0))).bind fun z22 =>
      if z22 = true then
       some (x8)
      else
      if z22 = false then
       if 0 ≤ x8 ∧ x8 < (a0.length : Int) then
        (a0[x8.toNat]?).bind fun t24 =>
        if 0 ≤ a1 ∧ a1 < (t24.length : Int) then
         (t24[a1.toNat]?).bind fun t26 =>
         (Yr t26).bind fun t27 =>
         if 0 ≤ x7 ∧ x7 < (a0.length : Int) then
          (a0[x7.toNat]?).bind fun t29 =>
          if 0 ≤ a1 ∧ a1 < (t29.length : Int) then
           (t29[a1.toNat]?).bind fun t31 =>
           (Yr t31).bind fun t32 =>
           if (decide (t27 > t32)) = true then
            some (x8)
           else
            some (x7)
          else none
         else none
        else none
       else none
      else
      none
     else
     if z21 = false then
      some (x7)
     else
     none
    else none
   else none).bind fun (j12 : Int) =>
   Xl.l9 k0 a0 a1 k j12 (qe (x8 + 1))
  else
   some (x7)
def Xl (k0 : Nat) (a0 : List (List qa)) (a1 : Int) : Option (Int) :=
 (Xl.l9 k0 a0 a1 k0 (-1) a1).bind fun (j4 : Int) =>
 some j4
def Yx (a0 : qa) (a1 : Int) : Option (Bool) :=
 (Qz a0).bind fun t3 =>
 some (t3 || ((decide (a0.Lo ≤ a1)) && (decide (a1 ≤ a0.Hi))))
def XR (a0 : qa) : Option (Int) :=
 if (decide (a0.Hi ≤ 0)) = true then
  some 0
 else
  if (decide (a0.Lo ≥ 0)) = true then
   some 2
  else
   some 1
def Zh (a0 : Int) : Option (Int) :=
 some (mn a0 1)
def XH (a0 : Int) (a1 : Int) : Option (Int × Int) :=
 if a1 ≠ 0 then
  if a1 ≠ 0 then
   (if (decide ((Int.tmod a0 a1) < 0)) = true then
    some (qe ((qe (Int.tdiv a0 a1)) - 1), qe ((Int.tmod a0 a1) + a1))
   else
    some (qe (Int.tdiv a0 a1), Int.tmod a0 a1)).bind fun (j7 : Int × Int) =>
   (Zh j7.2).bind fun t9 =>
   some (j7.1, qe (j7.1 + t9))
  else none
 else none
def Yp (a0 : Int) (a1 : Int) : Option (Int × Int) :=
 (if (decide (a1 < 0)) = true then
  some (qe (0 - a0), qe (0 - a1))
 else
  some (a0, a1)).bind fun (j4 : Int × Int) =>
 (XH j4.1 j4.2).bind fun t6 =>
 some (t6.1, t6.2)
def Xu (a0 : Int) (a1 : Int) : Option (Int × Int × Int) :=
 if (a1 == 0) = true then
  some (0, 0, 3)
 else
  (Yp (qe (a0 * 65536)) a1).bind fun t5 =>
  some (t5.1, t5.2, 0)
def XK (a0 : qa) (a1 : qa) : Option (Int × Int) :=
 some (a0.Hi, a1.Lo)
def XL (a0 : qa) (a1 : qa) : Option (Int × Int) :=
 some (a0.Lo, a1.Hi)
def XN (a0 : qa) (a1 : qa) : Option (Int × Int) :=
 some (a0.Lo, a1.Lo)
def XM (a0 : qa) (a1 : qa) : Option (Int × Int) :=
 some (a0.Hi, a1.Hi)
def Xz (a0 : qa) (a1 : qa) : Option (qa) :=
 (Qz a0).bind fun t3 =>
 (if (t3 == false) = true then Qz a1 else some default).bind fun t4 =>
 (if ((t3 || t4) == false) = true then Yx a1 0 else some default).bind fun t5 =>
 if ((t3 || t4) || t5) = true then
  (XD).bind fun t7 =>
  some t7
 else
  (XR a0).bind fun t9 =>
  if t9 = 0 then
   (Q2 (decide (a1.Lo > 0)) 1 0).bind fun t10 =>
   if t10 = 0 then
    (XK a0 a1).bind fun t12 =>
    (Xu t12.1 t12.2).bind fun t13 =>
    (XL a0 a1).bind fun t15 =>
    (Xu t15.1 t15.2).bind fun t16 =>
    (Qx t13.1 t16.2.1).bind fun t18 =>
    some t18
   else
   if t10 = 1 then
    (XN a0 a1).bind fun t12 =>
    (Xu t12.1 t12.2).bind fun t13 =>
    (XM a0 a1).bind fun t15 =>
    (Xu t15.1 t15.2).bind fun t16 =>
    (Qx t13.1 t16.2.1).bind fun t18 =>
    some t18
   else
   none
  else
  if t9 = 1 then
   (Q2 (decide (a1.Lo > 0)) 1 0).bind fun t10 =>
   if t10 = 0 then
    (XM a0 a1).bind fun t12 =>
    (Xu t12.1 t12.2).bind fun t13 =>
    (XL a0 a1).bind fun t15 =>
    (Xu t15.1 t15.2).bind fun t16 =>
    (Qx t13.1 t16.2.1).bind fun t18 =>
    some t18
   else
   if t10 = 1 then
    (XN a0 a1).bind fun t12 =>
    (Xu t12.1 t12.2).bind fun t13 =>
    (XK a0 a1).bind fun t15 =>
    (Xu t15.1 t15.2).bind fun t16 =>
    (Qx t13.1 t16.2.1).bind fun t18 =>
    some t18
   else
   none
  else
  if t9 = 2 then
   (Q2 (decide (a1.Lo > 0)) 1 0).bind fun t10 =>
   if t10 = 0 then
    (XM a0 a1).bind fun t12 =>
    (Xu t12.1 t12.2).bind fun t13 =>
    (XN a0 a1).bind fun t15 =>
    (Xu t15.1 t15.2).bind fun t16 =>
    (Qx t13.1 t16.2.1).bind fun t18 =>
    some t18
   else
   if t10 = 1 then
    (XL a0 a1).bind fun t12 =>
    (Xu t12.1 t12.2).bind fun t13 =>
    (XK a0 a1).bind fun t15 =>
    (Xu t15.1 t15.2).bind fun t16 =>
    (Qx t13.1 t16.2.1).bind fun t18 =>
    some t18
   else
   none
  else
  none
def Xx (a0 : qa) (a1 : qa) : Option (qa) :=
 (Qz a0).bind fun t3 =>
 (if (t3 == false) = true then Qz a1 else some default).bind fun t4 =>
 if (t3 || t4) = true then
  (XD).bind fun t6 =>
  some t6
 else
  (Qx (qe (a0.Lo + a1.Lo)) (qe (a0.Hi + a1.Hi))).bind fun t8 =>
  some t8
def YK (a0 : qa) : Option (qa) :=
 some (⟨qe (0 - a0.Hi), qe (0 - a0.Lo)⟩ : qa)
def XV (a0 : qa) (a1 : qa) : Option (qa) :=
 (YK a1).bind fun t3 =>
 (Xx a0 t3).bind fun t4 =>
 some t4
def Qa (a0 : Int) (a1 : Int) : Option (Int × Int) :=
 (Yp (qe (a0 * a1)) 65536).bind fun t3 =>
 some (t3.1, t3.2)
def Xh (a0 : qa) (a1 : qa) : Option (qa) :=
 (Qz a0).bind fun t3 =>
 (if (t3 == false) = true then Qz a1 else some default).bind fun t4 =>
 if (t3 || t4) = true then
  (XD).bind fun t6 =>
  some t6
 else
  (XR a0).bind fun t8 =>
  (XR a1).bind fun t9 =>
  if ((t8 == 1) && (t9 == 1)) = true then
   (Qa a0.Lo a1.Hi).bind fun t12 =>
   (Qa a0.Hi a1.Lo).bind fun t14 =>
   (Qa a0.Lo a1.Lo).bind fun t16 =>
   (Qa a0.Hi a1.Hi).bind fun t18 =>
   (Qx (mn t12.1 t14.1) (mx t16.2 t18.2)).bind fun t20 =>
   some t20
  else
   if t8 = 0 then
    if t9 = 0 then
     (XM a0 a1).bind fun t23 =>
     (Qa t23.1 t23.2).bind fun t24 =>
     (XN a0 a1).bind fun t26 =>
     (Qa t26.1 t26.2).bind fun t27 =>
     (Qx t24.1 t27.2).bind fun t29 =>
     some t29
    else
    if t9 = 1 then
     (XL a0 a1).bind fun t32 =>
     (Qa t32.1 t32.2).bind fun t33 =>
     (XN a0 a1).bind fun t35 =>
     (Qa t35.1 t35.2).bind fun t36 =>
     (Qx t33.1 t36.2).bind fun t38 =>
     some t38
    else
    if t9 = 2 then
     (XL a0 a1).bind fun t41 =>
     (Qa t41.1 t41.2).bind fun t42 =>
     (XK a0 a1).bind fun t44 =>
     (Qa t44.1 t44.2).bind fun t45 =>
     (Qx t42.1 t45.2).bind fun t47 =>
     some t47
    else
    none
   else
   if t8 = 1 then
    if t9 = 0 then
     (XK a0 a1).bind fun t53 =>
     (Qa t53.1 t53.2).bind fun t54 =>
     (XN a0 a1).bind fun t56 =>
     (Qa t56.1 t56.2).bind fun t57 =>
     (Qx t54.1 t57.2).bind fun t59 =>
     some t59
    else
    if t9 = 1 then
     none
    else
    if t9 = 2 then
     (XL a0 a1).bind fun t63 =>
     (Qa t63.1 t63.2).bind fun t64 =>
     (XM a0 a1).bind fun t66 =>
     (Qa t66.1 t66.2).bind fun t67 =>
     (Qx t64.1 t67.2).bind fun t69 =>
     some t69
    else
    none
   else
   if t8 = 2 then
    if t9 = 0 then
     (XK a0 a1).bind fun t75 =>
     (Qa t75.1 t75.2).bind fun t76 =>
     (XL a0 a1).bind fun t78 =>
     (Qa t78.1 t78.2).bind fun t79 =>
     (Qx t76.1 t79.2).bind fun t81 =>
     some t81
    else
    if t9 = 1 then
     (XK a0 a1).bind fun t84 =>
     (Qa t84.1 t84.2).bind fun t85 =>
     (XM a0 a1).bind fun t87 =>
     (Qa t87.1 t87.2).bind fun t88 =>
     (Qx t85.1 t88.2).bind fun t90 =>
     some t90
    else
    if t9 = 2 then
     (XN a0 a1).bind fun t93 =>
     (Qa t93.1 t93.2).bind fun t94 =>
     (XM a0 a1).bind fun t96 =>
     (Qa t96.1 t96.2).bind fun t97 =>
     (Qx t94.1 t97.2).bind fun t99 =>
     some t99
    else
    none
   else
   none
def QX.l6 (k0 : Nat) (a0 : List qa) : Nat → Int → Option ((Int) ⊕ (Unit))
 | 0, _ => none
 | k + 1, x5 =>
  if (decide (x5 < (a0.length : Int))) = true then
   if 0 ≤ x5 ∧ x5 < (a0.length : Int) then
    (a0[x5.toNat]?).bind fun t11 =>
    (Qz t11).bind fun t12 =>
    if t12 = true then
     some (.inl x5)
    else
     QX.l6 k0 a0 k (qe (x5 + 1))
   else none
  else
   some (.inr ())
def QX (k0 : Nat) (a0 : List qa) : Option (Int) :=
 (QX.l6 k0 a0 k0 0 : Option ((Int) ⊕ (Unit))).bind fun j2 => match j2 with
 | .inl r => some r
 | .inr j2v =>
  some (-1)
def Ys (k0 : Nat) (a0 : List qa) : Option (Bool) :=
 (QX k0 a0).bind fun t3 =>
 some (decide (t3 ≥ 0))
def qw.l15 (k0 : Nat) (a0 : List (List qa)) (j6 : List (List qa)) (j8v : List (List qa)) : Nat → (List (List qa)) → Int → Option ((List (List qa) × Bool) ⊕ (List (List qa)))
 | 0, _, _ => none
 | k + 1, x13, x14 =>
  if (decide (x14 < (a0.length : Int))) = true then
   if 0 ≤ x14 ∧ x14 < (x13.length : Int) then
    (x13[x14.toNat]?).bind fun t20 =>
    if 0 ≤ (a0.length : Int) ∧ (a0.length : Int) ≤ (t20.length : Int) then
     if 0 ≤ x14 ∧ x14 < (x13.length : Int) then
      (x13[x14.toNat]?).bind fun t23 =>
      if 0 ≤ x14 ∧ x14 < ((x13.set x14.toNat (t20.drop (a0.length : Int).toNat)).length : Int) then
       ((x13.set x14.toNat (t20.drop (a0.length : Int).toNat))[x14.toNat]?).bind fun t26 =>
       (Ys k0 t26).bind fun t27 =>
       if t27 = true then
        some (.inl (([] : List (List qa)), false))
       else
        qw.l15 k0 a0 j6 j8v k (x13.set x14.toNat (t20.drop (a0.length : Int).toNat)) (qe (x14 + 1))
      else none
     else none
    else none
   else none
  else
   some (.inr (x13))
def qw.l82 (k0 : Nat) (a0 : List (List qa)) (j6 : List (List qa)) (x33 : List (List qa)) (x34 : Int) (t42 : Int) (t47 : List qa) (t50 : List qa) (t52 : List qa) (t54 : List qa) (t57 : List qa) (t59 : qa) (j61 : List (List qa)) (x63 : List (List qa)) (x64 : Int) (t74 : List qa) (t76 : qa) (t79 : List qa) : Nat → (List (List qa)) → Int → Option (List (List qa))
 | 0, _, _ => none
 | k + 1, x80, x81 =>
  if (decide (x81 < (t79.length : Int))) = true then
   if 0 ≤ x64 ∧ x64 < (x80.length : Int) then
    (x80[x64.toNat]?).bind fun t87 =>
    if 0 ≤ x64 ∧ x64 < (x80.length : Int) then
     (x80[x64.toNat]?).bind fun t90 =>
     if 0 ≤ x81 ∧ x81 < (t90.length : Int) then
      (t90[x81.toNat]?).bind fun t92 =>
      if 0 ≤ x34 ∧ x34 < (x80.length : Int) then
       (x80[x34.toNat]?).bind fun t95 =>
       if 0 ≤ x81 ∧ x81 < (t95.length : Int) then
        (t95[x81.toNat]?).bind fun t97 =>
        (Xh t76 t97).bind fun t99 =>
        (XV t92 t99).bind fun t100 =>
        if 0 ≤ x81 ∧ x81 < (t87.length : Int) then
         (t87[x81.toNat]?).bind fun t102 =>
         qw.l82 k0 a0 j6 x33 x34 t42 t47 t50 t52 t54 t57 t59 j61 x63 x64 t74 t76 t79 k (x80.set x64.toNat (t87.set x81.toNat t100)) (qe (x81 + 1))
        else none
       else none
      else none
     else none
    else none
   else none
  else
   some (x80)
def qw.l65 (k0 : Nat) (a0 : List (List qa)) (j6 : List (List qa)) (x33 : List (List qa)) (x34 : Int) (t42 : Int) (t47 : List qa) (t50 : List qa) (t52 : List qa) (t54 : List qa) (t57 : List qa) (t59 : qa) (j61 : List (List qa)) : Nat → (List (List qa)) → Int → Option (((List (List qa) × Bool) ⊕ (List (List qa))) ⊕ (List (List qa)))
 | 0, _, _ => none
 | k + 1, x63, x64 =>
  if (decide (x64 < (a0.length : Int))) = true then
   (if (x64 == x34) = true then
    some (x63)
   else
    if 0 ≤ x64 ∧ x64 < (x63.length : Int) then
     (x63[x64.toNat]?).bind fun t74 =>
     if 0 ≤ x34 ∧ x34 < (t74.length : Int) then
      (t74[x34.toNat]?).bind fun t76 =>
      if 0 ≤ x64 ∧ x64 < (x63.length : Int) then
       (x63[x64.toNat]?).bind fun t79 =>
       qw.l82 k0 a0 j6 x33 x34 t42 t47 t50 t52 t54 t57 t59 j61 x63 x64 t74 t76 t79 k0 x63 0
      else none
     else none
    else none).bind fun (j68 : List (List qa)) =>
   qw.l65 k0 a0 j6 x33 x34 t42 t47 t50 t52 t54 t57 t59 j61 k j68 (qe (x64 + 1))
  else
   some (.inr (x63))
def qw.l113 (k0 : Nat) (a0 : List (List qa)) (j6 : List (List qa)) (x33 : List (List qa)) (x34 : Int) (t42 : Int) (t47 : List qa) (t50 : List qa) (t52 : List qa) (t54 : List qa) (t57 : List qa) (t59 : qa) (t110 : List qa) : Nat → (List (List qa)) → Int → Option (List (List qa))
 | 0, _, _ => none
 | k + 1, x111, x112 =>
  if (decide (x112 < (t110.length : Int))) = true then
   if 0 ≤ x34 ∧ x34 < (x111.length : Int) then
    (x111[x34.toNat]?).bind fun t118 =>
    if 0 ≤ x34 ∧ x34 < (x111.length : Int) then
     (x111[x34.toNat]?).bind fun t121 =>
     if 0 ≤ x112 ∧ x112 < (t121.length : Int) then
      (t121[x112.toNat]?).bind fun t123 =>
      (Xz t123 t59).bind fun t125 =>
      if 0 ≤ x112 ∧ x112 < (t118.length : Int) then
       (t118[x112.toNat]?).bind fun t127 =>
       qw.l113 k0 a0 j6 x33 x34 t42 t47 t50 t52 t54 t57 t59 t110 k (x111.set x34.toNat (t118.set x112.toNat t125)) (qe (x112 + 1))
      else none
     else none
    else none
   else none
  else
   some (x111)
def qw.l35 (k0 : Nat) (a0 : List (List qa)) (j6 : List (List qa)) : Nat → (List (List qa)) → Int → Option ((List (List qa) × Bool) ⊕ (List (List qa)))
 | 0, _, _ => none
 | k + 1, x33, x34 =>
  if (decide (x34 < (a0.length : Int))) = true then
   ((Xl k0 x33 x34).bind fun t42 =>
   if (decide (t42 < 0)) = true then
    some (.inl (.inl (([] : List (List qa)), false)))
   else
    if 0 ≤ t42 ∧ t42 < (x33.length : Int) then
     (x33[t42.toNat]?).bind fun t47 =>
     if 0 ≤ x34 ∧ x34 < (x33.length : Int) then
      (x33[x34.toNat]?).bind fun t50 =>
      if 0 ≤ x34 ∧ x34 < (x33.length : Int) then
       (x33[x34.toNat]?).bind fun t52 =>
       if 0 ≤ t42 ∧ t42 < ((x33.set x34.toNat t47).length : Int) then
        ((x33.set x34.toNat t47)[t42.toNat]?).bind fun t54 =>
        if 0 ≤ x34 ∧ x34 < (((x33.set x34.toNat t47).set t42.toNat t50).length : Int) then
         (((x33.set x34.toNat t47).set t42.toNat t50)[x34.toNat]?).bind fun t57 =>
         if 0 ≤ x34 ∧ x34 < (t57.length : Int) then
          (t57[x34.toNat]?).bind fun t59 =>
          (if 0 ≤ x34 ∧ x34 < (((x33.set x34.toNat t47).set t42.toNat t50).length : Int) then
           (((x33.set x34.toNat t47).set t42.toNat t50)[x34.toNat]?).bind fun t110 =>
           qw.l113 k0 a0 j6 x33 x34 t42 t47 t50 t52 t54 t57 t59 t110 k0 ((x33.set x34.toNat t47).set t42.toNat t50) 0
          else none).bind fun (j61 : List (List qa)) =>
          qw.l65 k0 a0 j6 x33 x34 t42 t47 t50 t52 t54 t57 t59 j61 k0 j61 0
         else none
        else none
       else none
      else none
     else none
    else none : Option (((List (List qa) × Bool) ⊕ (List (List qa))) ⊕ (List (List qa)))).bind fun j38 => match j38 with
   | .inl r => some r
   | .inr j38v =>
    qw.l35 k0 a0 j6 k j38v (qe (x34 + 1))
  else
   some (.inr (x33))
def qw.l137 (k0 : Nat) (a0 : List (List qa)) (t134 : List (List qa)) : Nat → (List (List qa)) → Int → Option (List (List qa))
 | 0, _, _ => none
 | k + 1, x135, x136 =>
  if (decide (x136 < (t134.length : Int))) = true then
   if 0 ≤ x136 ∧ x136 < (t134.length : Int) then
    (t134[x136.toNat]?).bind fun t141 =>
    if 0 ≤ x136 ∧ x136 < (a0.length : Int) then
     (a0[x136.toNat]?).bind fun t144 =>
     (QK k0 ([t144, t141] : List (List qa))).bind fun t145 =>
     if 0 ≤ x136 ∧ x136 < (x135.length : Int) then
      (x135[x136.toNat]?).bind fun t147 =>
      qw.l137 k0 a0 t134 k (x135.set x136.toNat t145) (qe (x136 + 1))
     else none
    else none
   else none
  else
   some (x135)
def qw (k0 : Nat) (a0 : List (List qa)) : Option (List (List qa) × Bool) :=
 if 0 ≤ (a0.length : Int) ∧ (a0.length : Int) < 1000000 then
  ((Xp k0 (a0.length : Int)).bind fun t134 =>
  qw.l137 k0 a0 t134 k0 (List.replicate (a0.length : Int).toNat ([] : List qa)) 0).bind fun (j6 : List (List qa)) =>
  (qw.l35 k0 a0 j6 k0 j6 0 : Option ((List (List qa) × Bool) ⊕ (List (List qa)))).bind fun j8 => match j8 with
  | .inl r => some r
  | .inr j8v =>
   (qw.l15 k0 a0 j6 j8v k0 j8v 0 : Option ((List (List qa) × Bool) ⊕ (List (List qa)))).bind fun j10 => match j10 with
   | .inl r => some r
   | .inr j10v =>
    some (j10v, true)
 else none
def qz.l22 (k0 : Nat) (a0 : List (List qa)) (a1 : List (List qa)) (x7 : Int) (t14 : List qa) (t17 : List qa) : Nat → Int → Option (((Bool) ⊕ (Unit)) ⊕ (Unit))
 | 0, _ => none
 | k + 1, x21 =>
  if 0 ≤ x7 ∧ x7 < (a0.length : Int) then
   (a0[x7.toNat]?).bind fun t25 =>
   if (decide (x21 < (t25.length : Int))) = true then
    if 0 ≤ x7 ∧ x7 < (a0.length : Int) then
     (a0[x7.toNat]?).bind fun t28 =>
     if 0 ≤ x21 ∧ x21 < (t28.length : Int) then
      (t28[x21.toNat]?).bind fun t31 =>
      if 0 ≤ x7 ∧ x7 < (a1.length : Int) then
       (a1[x7.toNat]?).bind fun t33 =>
       if 0 ≤ x21 ∧ x21 < (t33.length : Int) then
        (t33[x21.toNat]?).bind fun t36 =>
        if (!((t31.Lo == t36.Lo) && ((t31.Hi == t36.Hi) && true))) = true then
         some (.inl (.inl false))
        else
         qz.l22 k0 a0 a1 x7 t14 t17 k (qe (x21 + 1))
       else none
      else none
     else none
    else none
   else
    some (.inr ())
  else none
def qz.l8 (k0 : Nat) (a0 : List (List qa)) (a1 : List (List qa)) : Nat → Int → Option ((Bool) ⊕ (Unit))
 | 0, _ => none
 | k + 1, x7 =>
  if (decide (x7 < (a0.length : Int))) = true then
   (if 0 ≤ x7 ∧ x7 < (a0.length : Int) then
    (a0[x7.toNat]?).bind fun t14 =>
    if 0 ≤ x7 ∧ x7 < (a1.length : Int) then
     (a1[x7.toNat]?).bind fun t17 =>
     if ((t14.length : Int) != (t17.length : Int)) = true then
      some (.inl (.inl false))
     else
      qz.l22 k0 a0 a1 x7 t14 t17 k0 0
    else none
   else none : Option (((Bool) ⊕ (Unit)) ⊕ (Unit))).bind fun j10 => match j10 with
   | .inl r => some r
   | .inr j10v =>
    qz.l8 k0 a0 a1 k (qe (x7 + 1))
  else
   some (.inr ())
def qz (k0 : Nat) (a0 : List (List qa)) (a1 : List (List qa)) : Option (Bool) :=
 if ((a0.length : Int) != (a1.length : Int)) = true then
  some false
 else
  (qz.l8 k0 a0 a1 k0 0 : Option ((Bool) ⊕ (Unit))).bind fun j4 => match j4 with
  | .inl r => some r
  | .inr j4v =>
   some true
def Yd (a0 : Int) (q0 : List (List qa)) (q1 : Int) : Option (qa) :=
 if 0 ≤ q1 ∧ q1 < (q0.length : Int) then
  (q0[q1.toNat]?).bind fun t4 =>
  if 0 ≤ a0 ∧ a0 < (t4.length : Int) then
   (t4[a0.toNat]?).bind fun t6 =>
   some t6
  else none
 else none
def Yg (a0 : Int) (q0 : List (List qa)) (q1 : Int) : Option (qa) :=
 if 0 ≤ a0 ∧ a0 < (q0.length : Int) then
  (q0[a0.toNat]?).bind fun t4 =>
  if 0 ≤ q1 ∧ q1 < (t4.length : Int) then
   (t4[q1.toNat]?).bind fun t7 =>
   some t7
  else none
 else none
def Q1.l14 (k0 : Nat) (a0 : Int) (a1_0 : List (List qa)) (a1_1 : Int) (a2_0 : List (List qa)) (a2_1 : Int) (t3 : qa) (t4 : qa) (t5 : qa) : Nat → Int → Int → Int → Option (Int × Int)
 | 0, _, _, _ => none
 | k + 1, x11, x12, x13 =>
  if (decide (x13 < a0)) = true then
   (Yd x13 a1_0 a1_1).bind fun t17 =>
   (Yg x13 a2_0 a2_1).bind fun t18 =>
   (Xh t17 t18).bind fun t19 =>
   (Xx (⟨x11, x12⟩ : qa) t19).bind fun t20 =>
   Q1.l14 k0 a0 a1_0 a1_1 a2_0 a2_1 t3 t4 t5 k t20.Lo t20.Hi (qe (x13 + 1))
  else
   some (x11, x12)
def Q1 (k0 : Nat) (a0 : Int) (a1_0 : List (List qa)) (a1_1 : Int) (a2_0 : List (List qa)) (a2_1 : Int) : Option (qa) :=
 (Yd 0 a1_0 a1_1).bind fun t3 =>
 (Yg 0 a2_0 a2_1).bind fun t4 =>
 (Xh t3 t4).bind fun t5 =>
 (Q1.l14 k0 a0 a1_0 a1_1 a2_0 a2_1 t3 t4 t5 k0 t5.Lo t5.Hi 1).bind fun (j8 : Int × Int) =>
 some (⟨j8.1, j8.2⟩ : qa)
def Y0 (k0 : Nat) (a0 : Int) (a1 : Int) (q0 : List (List qa)) (q1 : List (List qa)) : Option (qa) :=
 (Q1 k0 (q0.length : Int) q0 a0 q1 a1).bind fun t3 =>
 some t3
def Qe.l19 (k0 : Nat) (a0 : Int) (a1_0 : List (List qa)) (a1_1 : List (List qa)) (x8 : List (List qa)) (x9 : Int) : Nat → (List (List qa)) → Int → Option (List (List qa))
 | 0, _, _ => none
 | k + 1, x17, x18 =>
  if (decide (x18 < a0)) = true then
   if 0 ≤ x9 ∧ x9 < (x17.length : Int) then
    (x17[x9.toNat]?).bind fun t24 =>
    (Y0 k0 x9 x18 a1_0 a1_1).bind fun t26 =>
    if t24.length < 1000000 then
     if 0 ≤ x9 ∧ x9 < (x17.length : Int) then
      (x17[x9.toNat]?).bind fun t29 =>
      Qe.l19 k0 a0 a1_0 a1_1 x8 x9 k (x17.set x9.toNat (t24 ++ [t26])) (qe (x18 + 1))
     else none
    else none
   else none
  else
   some (x17)
def Qe.l10 (k0 : Nat) (a0 : Int) (a1_0 : List (List qa)) (a1_1 : List (List qa)) : Nat → (List (List qa)) → Int → Option (List (List qa))
 | 0, _, _ => none
 | k + 1, x8, x9 =>
  if (decide (x9 < a0)) = true then
   (Qe.l19 k0 a0 a1_0 a1_1 x8 x9 k0 x8 0).bind fun (j13 : List (List qa)) =>
   Qe.l10 k0 a0 a1_0 a1_1 k j13 (qe (x9 + 1))
  else
   some (x8)
def Qe (k0 : Nat) (a0 : Int) (a1_0 : List (List qa)) (a1_1 : List (List qa)) : Option (List (List qa)) :=
 if 0 ≤ a0 ∧ a0 < 1000000 then
  (Qe.l10 k0 a0 a1_0 a1_1 k0 (List.replicate a0.toNat ([] : List qa)) 0).bind fun (j5 : List (List qa)) =>
  some j5
 else none
def Zk (k0 : Nat) (a0 : List (List qa)) (a1 : List (List qa)) : Option (List (List qa)) :=
 (Qe k0 (a0.length : Int) a0 a1).bind fun t3 =>
 some t3
def QI.l8 (k0 : Nat) (a0 : List qa) (a1 : List qa) : Nat → Int → Option ((Bool) ⊕ (Unit))
 | 0, _ => none
 | k + 1, x7 =>
  if (decide (x7 < (a0.length : Int))) = true then
   if 0 ≤ x7 ∧ x7 < (a0.length : Int) then
    (a0[x7.toNat]?).bind fun t12 =>
    if 0 ≤ x7 ∧ x7 < (a1.length : Int) then
     (a1[x7.toNat]?).bind fun t15 =>
     if (!((t12.Lo == t15.Lo) && ((t12.Hi == t15.Hi) && true))) = true then
      some (.inl false)
     else
      QI.l8 k0 a0 a1 k (qe (x7 + 1))
    else none
   else none
  else
   some (.inr ())
def QI (k0 : Nat) (a0 : List qa) (a1 : List qa) : Option (Bool) :=
 if ((a0.length : Int) != (a1.length : Int)) = true then
  some false
 else
  (QI.l8 k0 a0 a1 k0 0 : Option ((Bool) ⊕ (Unit))).bind fun j4 => match j4 with
  | .inl r => some r
  | .inr j4v =>
   some true
def Yf (a0 : Int) (q0 : List (List qa)) (q1 : Int) : Option (qa) :=
 if 0 ≤ q1 ∧ q1 < (q0.length : Int) then
  (q0[q1.toNat]?).bind fun t4 =>
  if 0 ≤ a0 ∧ a0 < (t4.length : Int) then
   (t4[a0.toNat]?).bind fun t6 =>
   some t6
  else none
 else none
def Ye (a0 : Int) (q0 : List qa) : Option (qa) :=
 if 0 ≤ a0 ∧ a0 < (q0.length : Int) then
  (q0[a0.toNat]?).bind fun t4 =>
  some t4
 else none
def Q0.l14 (k0 : Nat) (a0 : Int) (a1_0 : List (List qa)) (a1_1 : Int) (a2_0 : List qa) (t3 : qa) (t4 : qa) (t5 : qa) : Nat → Int → Int → Int → Option (Int × Int)
 | 0, _, _, _ => none
 | k + 1, x11, x12, x13 =>
  if (decide (x13 < a0)) = true then
   (Yf x13 a1_0 a1_1).bind fun t17 =>
   (Ye x13 a2_0).bind fun t18 =>
   (Xh t17 t18).bind fun t19 =>
   (Xx (⟨x11, x12⟩ : qa) t19).bind fun t20 =>
   Q0.l14 k0 a0 a1_0 a1_1 a2_0 t3 t4 t5 k t20.Lo t20.Hi (qe (x13 + 1))
  else
   some (x11, x12)
def Q0 (k0 : Nat) (a0 : Int) (a1_0 : List (List qa)) (a1_1 : Int) (a2_0 : List qa) : Option (qa) :=
 (Yf 0 a1_0 a1_1).bind fun t3 =>
 (Ye 0 a2_0).bind fun t4 =>
 (Xh t3 t4).bind fun t5 =>
 (Q0.l14 k0 a0 a1_0 a1_1 a2_0 t3 t4 t5 k0 t5.Lo t5.Hi 1).bind fun (j8 : Int × Int) =>
 some (⟨j8.1, j8.2⟩ : qa)
def XA.l9 (k0 : Nat) (a0 : List (List qa)) (a1 : List qa) : Nat → (List qa) → Int → Option (List qa)
 | 0, _, _ => none
 | k + 1, x7, x8 =>
  if (decide (x8 < (a0.length : Int))) = true then
   (Q0 k0 (a0.length : Int) a0 x8 a1).bind fun t13 =>
   if x7.length < 1000000 then
    XA.l9 k0 a0 a1 k (x7 ++ [t13]) (qe (x8 + 1))
   else none
  else
   some (x7)
def XA (k0 : Nat) (a0 : List (List qa)) (a1 : List qa) : Option (List qa) :=
 (XA.l9 k0 a0 a1 k0 ([] : List qa) 0).bind fun (j4 : List qa) =>
 some j4
def Yn (a0 : Int) (a1 : Int) (q0 : List (List qa)) : Option (qa) :=
 if 0 ≤ a1 ∧ a1 < (q0.length : Int) then
  (q0[a1.toNat]?).bind fun t4 =>
  if 0 ≤ a0 ∧ a0 < (t4.length : Int) then
   (t4[a0.toNat]?).bind fun t6 =>
   some t6
  else none
 else none
def Qf.l19 (k0 : Nat) (a0 : Int) (a1_0 : List (List qa)) (x8 : List (List qa)) (x9 : Int) : Nat → (List (List qa)) → Int → Option (List (List qa))
 | 0, _, _ => none
 | k + 1, x17, x18 =>
  if (decide (x18 < a0)) = true then
   if 0 ≤ x9 ∧ x9 < (x17.length : Int) then
    (x17[x9.toNat]?).bind fun t24 =>
    (Yn x9 x18 a1_0).bind fun t26 =>
    if t24.length < 1000000 then
     if 0 ≤ x9 ∧ x9 < (x17.length : Int) then
      (x17[x9.toNat]?).bind fun t29 =>
      Qf.l19 k0 a0 a1_0 x8 x9 k (x17.set x9.toNat (t24 ++ [t26])) (qe (x18 + 1))
     else none
    else none
   else none
  else
   some (x17)
def Qf.l10 (k0 : Nat) (a0 : Int) (a1_0 : List (List qa)) : Nat → (List (List qa)) → Int → Option (List (List qa))
 | 0, _, _ => none
 | k + 1, x8, x9 =>
  if (decide (x9 < a0)) = true then
   (Qf.l19 k0 a0 a1_0 x8 x9 k0 x8 0).bind fun (j13 : List (List qa)) =>
   Qf.l10 k0 a0 a1_0 k j13 (qe (x9 + 1))
  else
   some (x8)
def Qf (k0 : Nat) (a0 : Int) (a1_0 : List (List qa)) : Option (List (List qa)) :=
 if 0 ≤ a0 ∧ a0 < 1000000 then
  (Qf.l10 k0 a0 a1_0 k0 (List.replicate a0.toNat ([] : List qa)) 0).bind fun (j5 : List (List qa)) =>
  some j5
 else none
def Yq (k0 : Nat) (a0 : List (List qa)) : Option (List (List qa)) :=
 (Qf k0 (a0.length : Int) a0).bind fun t3 =>
 some t3
def X9 (a0 : Int) (a1 : Int) (q0 : List (List Int)) : Option (qa) :=
 if 0 ≤ a0 ∧ a0 < (q0.length : Int) then
  (q0[a0.toNat]?).bind fun t4 =>
  if 0 ≤ a1 ∧ a1 < (t4.length : Int) then
   (t4[a1.toNat]?).bind fun t6 =>
   (Yl t6).bind fun t7 =>
   some t7
  else none
 else none
def Qd.l19 (k0 : Nat) (a0 : Int) (a1_0 : List (List Int)) (x8 : List (List qa)) (x9 : Int) : Nat → (List (List qa)) → Int → Option (List (List qa))
 | 0, _, _ => none
 | k + 1, x17, x18 =>
  if (decide (x18 < a0)) = true then
   if 0 ≤ x9 ∧ x9 < (x17.length : Int) then
    (x17[x9.toNat]?).bind fun t24 =>
    (X9 x9 x18 a1_0).bind fun t26 =>
    if t24.length < 1000000 then
     if 0 ≤ x9 ∧ x9 < (x17.length : Int) then
      (x17[x9.toNat]?).bind fun t29 =>
      Qd.l19 k0 a0 a1_0 x8 x9 k (x17.set x9.toNat (t24 ++ [t26])) (qe (x18 + 1))
     else none
    else none
   else none
  else
   some (x17)
def Qd.l10 (k0 : Nat) (a0 : Int) (a1_0 : List (List Int)) : Nat → (List (List qa)) → Int → Option (List (List qa))
 | 0, _, _ => none
 | k + 1, x8, x9 =>
  if (decide (x9 < a0)) = true then
   (Qd.l19 k0 a0 a1_0 x8 x9 k0 x8 0).bind fun (j13 : List (List qa)) =>
   Qd.l10 k0 a0 a1_0 k j13 (qe (x9 + 1))
  else
   some (x8)
def Qd (k0 : Nat) (a0 : Int) (a1_0 : List (List Int)) : Option (List (List qa)) :=
 if 0 ≤ a0 ∧ a0 < 1000000 then
  (Qd.l10 k0 a0 a1_0 k0 (List.replicate a0.toNat ([] : List qa)) 0).bind fun (j5 : List (List qa)) =>
  some j5
 else none
def QJ (k0 : Nat) (a0 : List (List Int)) : Option (List (List qa)) :=
 (Qd k0 (a0.length : Int) a0).bind fun t3 =>
 some t3
def Zn (a0 : qa) : Option (Int) :=
 some (Int.fdiv (qe (a0.Lo + a0.Hi)) 2)
def YV (a0 : Int) (a1 : Int) (q0 : List (List qa)) : Option (Int) :=
 if 0 ≤ a0 ∧ a0 < (q0.length : Int) then
  (q0[a0.toNat]?).bind fun t4 =>
  if 0 ≤ a1 ∧ a1 < (t4.length : Int) then
   (t4[a1.toNat]?).bind fun t6 =>
   (Zn t6).bind fun t7 =>
   some t7
  else none
 else none
def qR.l19 (k0 : Nat) (a0 : Int) (a1_0 : List (List qa)) (x8 : List (List Int)) (x9 : Int) : Nat → (List (List Int)) → Int → Option (List (List Int))
 | 0, _, _ => none
 | k + 1, x17, x18 =>
  if (decide (x18 < a0)) = true then
   if 0 ≤ x9 ∧ x9 < (x17.length : Int) then
    (x17[x9.toNat]?).bind fun t24 =>
    (YV x9 x18 a1_0).bind fun t26 =>
    if t24.length < 1000000 then
     if 0 ≤ x9 ∧ x9 < (x17.length : Int) then
      (x17[x9.toNat]?).bind fun t29 =>
      qR.l19 k0 a0 a1_0 x8 x9 k (x17.set x9.toNat (t24 ++ [t26])) (qe (x18 + 1))
     else none
    else none
   else none
  else
   some (x17)
def qR.l10 (k0 : Nat) (a0 : Int) (a1_0 : List (List qa)) : Nat → (List (List Int)) → Int → Option (List (List Int))
 | 0, _, _ => none
 | k + 1, x8, x9 =>
  if (decide (x9 < a0)) = true then
   (qR.l19 k0 a0 a1_0 x8 x9 k0 x8 0).bind fun (j13 : List (List Int)) =>
   qR.l10 k0 a0 a1_0 k j13 (qe (x9 + 1))
  else
   some (x8)
def qR (k0 : Nat) (a0 : Int) (a1_0 : List (List qa)) : Option (List (List Int)) :=
 if 0 ≤ a0 ∧ a0 < 1000000 then
  (qR.l10 k0 a0 a1_0 k0 (List.replicate a0.toNat ([] : List Int)) 0).bind fun (j5 : List (List Int)) =>
  some j5
 else none
def Zj (k0 : Nat) (a0 : List (List qa)) : Option (List (List Int)) :=
 (qR k0 (a0.length : Int) a0).bind fun t3 =>
 some t3
def Yt (a1 : Int) : Option (List qG) :=
 if (decide (a1 < 0)) = true then
  none
 else
  if (decide ((qe (a1 - (qe (0 - 0)))) > 0)) = true then
   if 0 < qe (a1 - (qe (0 - 0))) ∧ qe (a1 - (qe (0 - 0))) < 1000000 then
    some ([] : List qG)
   else none
  else
   some ([] : List qG)
def Qu.l13 (k0 : Nat) (a0 : List (List qG)) (j4 : Int) (t6 : List qG) : Nat → (List qG) → Int → Option (List qG)
 | 0, _, _ => none
 | k + 1, x11, x12 =>
  if (decide (x12 < (a0.length : Int))) = true then
   if 0 ≤ x12 ∧ x12 < (a0.length : Int) then
    (a0[x12.toNat]?).bind fun t17 =>
    if t17.length < 1000000 ∧ x11.length < 1000000 then
     Qu.l13 k0 a0 j4 t6 k (x11 ++ t17) (qe (x12 + 1))
    else none
   else none
  else
   some (x11)
def Qu.l25 (k0 : Nat) (a0 : List (List qG)) : Nat → Int → Int → Option (Int)
 | 0, _, _ => none
 | k + 1, x23, x24 =>
  if (decide (x24 < (a0.length : Int))) = true then
   if 0 ≤ x24 ∧ x24 < (a0.length : Int) then
    (a0[x24.toNat]?).bind fun t29 =>
    if (decide ((qe (x23 + (t29.length : Int))) < 0)) = true then
     none
    else
     Qu.l25 k0 a0 k (qe (x23 + (t29.length : Int))) (qe (x24 + 1))
   else none
  else
   some (x23)
def Qu (k0 : Nat) (a0 : List (List qG)) : Option (List qG) :=
 (Qu.l25 k0 a0 k0 0 0).bind fun (j4 : Int) =>
 (Yt j4).bind fun t6 =>
 (Qu.l13 k0 a0 j4 t6 k0 t6 0).bind fun (j8 : List qG) =>
 some j8
def XJ.l9 (k0 : Nat) (a0 : Int) : Nat → Int → Int → Option (Int)
 | 0, _, _ => none
 | k + 1, x7, x8 =>
  if (decide (x8 > 0)) = true then
   (if (decide ((XI ((XI (x7 + x8)) * (XI (x7 + x8)))) ≤ a0)) = true then
    some (XI (x7 + x8))
   else
    some (x7)).bind fun (j12 : Int) =>
   XJ.l9 k0 a0 k j12 (Int.fdiv x8 2)
  else
   some (x7)
def XJ (k0 : Nat) (a0 : Int) : Option (Int) :=
 (XJ.l9 k0 a0 k0 0 2147483648).bind fun (j4 : Int) =>
 some (qe j4)
def Qn.l10 (k0 : Nat) (a0 : qG) : Nat → Int → Int → Option (Int)
 | 0, _, _ => none
 | k + 1, x8, x9 =>
  if (decide (x9 < 6)) = true then
   if x9 = 0 then
    Qn.l10 k0 a0 k (XI (x8 + (XI (qe (a0.e0 * a0.e0))))) (qe (0 + 1))
   else
   if x9 = 1 then
    Qn.l10 k0 a0 k (XI (x8 + (XI (qe (a0.e1 * a0.e1))))) (qe (1 + 1))
   else
   if x9 = 2 then
    Qn.l10 k0 a0 k (XI (x8 + (XI (qe (a0.e2 * a0.e2))))) (qe (2 + 1))
   else
   if x9 = 3 then
    Qn.l10 k0 a0 k (XI (x8 + (XI (qe (a0.e3 * a0.e3))))) (qe (3 + 1))
   else
   if x9 = 4 then
    Qn.l10 k0 a0 k (XI (x8 + (XI (qe (a0.e4 * a0.e4))))) (qe (4 + 1))
   else
   if x9 = 5 then
    Qn.l10 k0 a0 k (XI (x8 + (XI (qe (a0.e5 * a0.e5))))) (qe (5 + 1))
   else
   none
  else
   some (x8)
def Qn (k0 : Nat) (a0 : qG) : Option (Int) :=
 (Qn.l10 k0 a0 k0 0 0).bind fun (j4 : Int) =>
 (XJ k0 j4).bind fun t6 =>
 some t6
def Xq (a0 : Int) (a1 : Int) (a2 : Int) : Option (Int × Int × Int) :=
 if ((((decide (a1 < (-1073741824))) || (decide (a1 > 1073741824))) || (decide (a2 < 1))) || (decide (a2 > 1073741824))) = true then
  some (0, 0, 1)
 else
  (Yp (qe (a0 * a1)) a2).bind fun t5 =>
  some (t5.1, t5.2, 0)
def qu.l43 (k0 : Nat) (a0 : Zx) (a1 : qG) (t11 : List qG) (x12 : Int) (x13 : Int) (x14 : Int) (x15 : Int) (x16 : Int) (x17 : Int) (x18 : Int) (t31 : qG) (j34 : Int) : Nat → Int → Int → Int → Int → Int → Int → Int → Option (Int × Int × Int × Int × Int × Int)
 | 0, _, _, _, _, _, _, _ => none
 | k + 1, x36, x37, x38, x39, x40, x41, x42 =>
  if (decide (x42 < a0.n)) = true then
   if x42 = 0 then
    (Qa j34 t31.e0).bind fun t47 =>
    qu.l43 k0 a0 a1 t11 x12 x13 x14 x15 x16 x17 x18 t31 j34 k (qe (x36 - t47.1)) x37 x38 x39 x40 x41 (qe (0 + 1))
   else
   if x42 = 1 then
    (Qa j34 t31.e1).bind fun t51 =>
    qu.l43 k0 a0 a1 t11 x12 x13 x14 x15 x16 x17 x18 t31 j34 k x36 (qe (x37 - t51.1)) x38 x39 x40 x41 (qe (1 + 1))
   else
   if x42 = 2 then
    (Qa j34 t31.e2).bind fun t55 =>
    qu.l43 k0 a0 a1 t11 x12 x13 x14 x15 x16 x17 x18 t31 j34 k x36 x37 (qe (x38 - t55.1)) x39 x40 x41 (qe (2 + 1))
   else
   if x42 = 3 then
    (Qa j34 t31.e3).bind fun t59 =>
    qu.l43 k0 a0 a1 t11 x12 x13 x14 x15 x16 x17 x18 t31 j34 k x36 x37 x38 (qe (x39 - t59.1)) x40 x41 (qe (3 + 1))
   else
   if x42 = 4 then
    (Qa j34 t31.e4).bind fun t63 =>
    qu.l43 k0 a0 a1 t11 x12 x13 x14 x15 x16 x17 x18 t31 j34 k x36 x37 x38 x39 (qe (x40 - t63.1)) x41 (qe (4 + 1))
   else
   if x42 = 5 then
    (Qa j34 t31.e5).bind fun t67 =>
    qu.l43 k0 a0 a1 t11 x12 x13 x14 x15 x16 x17 x18 t31 j34 k x36 x37 x38 x39 x40 (qe (x41 - t67.1)) (qe (5 + 1))
   else
   none
  else
   some (x36, x37, x38, x39, x40, x41)
def qu.l80 (k0 : Nat) (a0 : Zx) (a1 : qG) (t11 : List qG) (x12 : Int) (x13 : Int) (x14 : Int) (x15 : Int) (x16 : Int) (x17 : Int) (x18 : Int) (t31 : qG) : Nat → Int → Int → Option (Int)
 | 0, _, _ => none
 | k + 1, x78, x79 =>
  if (decide (x79 < a0.n)) = true then
   if x79 = 0 then
    (Qa x12 t31.e0).bind fun t84 =>
    qu.l80 k0 a0 a1 t11 x12 x13 x14 x15 x16 x17 x18 t31 k (qe (x78 + t84.1)) (qe (0 + 1))
   else
   if x79 = 1 then
    (Qa x13 t31.e1).bind fun t88 =>
    qu.l80 k0 a0 a1 t11 x12 x13 x14 x15 x16 x17 x18 t31 k (qe (x78 + t88.1)) (qe (1 + 1))
   else
   if x79 = 2 then
    (Qa x14 t31.e2).bind fun t92 =>
    qu.l80 k0 a0 a1 t11 x12 x13 x14 x15 x16 x17 x18 t31 k (qe (x78 + t92.1)) (qe (2 + 1))
   else
   if x79 = 3 then
    (Qa x15 t31.e3).bind fun t96 =>
    qu.l80 k0 a0 a1 t11 x12 x13 x14 x15 x16 x17 x18 t31 k (qe (x78 + t96.1)) (qe (3 + 1))
   else
   if x79 = 4 then
    (Qa x16 t31.e4).bind fun t100 =>
    qu.l80 k0 a0 a1 t11 x12 x13 x14 x15 x16 x17 x18 t31 k (qe (x78 + t100.1)) (qe (4 + 1))
   else
   if x79 = 5 then
    (Qa x17 t31.e5).bind fun t104 =>
    qu.l80 k0 a0 a1 t11 x12 x13 x14 x15 x16 x17 x18 t31 k (qe (x78 + t104.1)) (qe (5 + 1))
   else
   none
  else
   some (x78)
def qu.l19 (k0 : Nat) (a0 : Zx) (a1 : qG) (t11 : List qG) : Nat → Int → Int → Int → Int → Int → Int → Int → Option (Int × Int × Int × Int × Int × Int)
 | 0, _, _, _, _, _, _, _ => none
 | k + 1, x12, x13, x14, x15, x16, x17, x18 =>
  if (decide (x18 < (t11.length : Int))) = true then
   (if 0 ≤ x18 ∧ x18 < (t11.length : Int) then
    (t11[x18.toNat]?).bind fun t31 =>
    (qu.l80 k0 a0 a1 t11 x12 x13 x14 x15 x16 x17 x18 t31 k0 0 0).bind fun (j34 : Int) =>
    qu.l43 k0 a0 a1 t11 x12 x13 x14 x15 x16 x17 x18 t31 j34 k0 x12 x13 x14 x15 x16 x17 0
   else none).bind fun (j27 : Int × Int × Int × Int × Int × Int) =>
   qu.l19 k0 a0 a1 t11 k j27.1 j27.2.1 j27.2.2.1 j27.2.2.2.1 j27.2.2.2.2.1 j27.2.2.2.2.2 (qe (x18 + 1))
  else
   some (x12, x13, x14, x15, x16, x17)
def qu (k0 : Nat) (a0 : Zx) (a1 : qG) : Option (qG) :=
 ((Qu k0 ([a0.columns, a0.columns, a0.columns] : List (List qG))).bind fun t11 =>
 qu.l19 k0 a0 a1 t11 k0 a1.e0 a1.e1 a1.e2 a1.e3 a1.e4 a1.e5 0).bind fun (j8 : Int × Int × Int × Int × Int × Int) =>
 some (⟨j8.1, j8.2.1, j8.2.2.1, j8.2.2.2.1, j8.2.2.2.2.1, j8.2.2.2.2.2⟩ : qG)
def qJ.l36 (k0 : Nat) (a0_0 : Int) (a0_1 : List qG) (a1 : List qG) (x3 : Int) (x4 : Int) (t11 : qG) (t13 : qG) (t17 : Int) : Nat → Int → Int → Int → Int → Int → Int → Int → Option (Int × Int × Int × Int × Int × Int)
 | 0, _, _, _, _, _, _, _ => none
 | k + 1, x29, x30, x31, x32, x33, x34, x35 =>
  if (decide (x35 < a0_0)) = true then
   if x35 = 0 then
    (Xq x29 65536 t17).bind fun t40 =>
    qJ.l36 k0 a0_0 a0_1 a1 x3 x4 t11 t13 t17 k t40.1 x30 x31 x32 x33 x34 (qe (0 + 1))
   else
   if x35 = 1 then
    (Xq x30 65536 t17).bind fun t43 =>
    qJ.l36 k0 a0_0 a0_1 a1 x3 x4 t11 t13 t17 k x29 t43.1 x31 x32 x33 x34 (qe (1 + 1))
   else
   if x35 = 2 then
    (Xq x31 65536 t17).bind fun t46 =>
    qJ.l36 k0 a0_0 a0_1 a1 x3 x4 t11 t13 t17 k x29 x30 t46.1 x32 x33 x34 (qe (2 + 1))
   else
   if x35 = 3 then
    (Xq x32 65536 t17).bind fun t49 =>
    qJ.l36 k0 a0_0 a0_1 a1 x3 x4 t11 t13 t17 k x29 x30 x31 t49.1 x33 x34 (qe (3 + 1))
   else
   if x35 = 4 then
    (Xq x33 65536 t17).bind fun t52 =>
    qJ.l36 k0 a0_0 a0_1 a1 x3 x4 t11 t13 t17 k x29 x30 x31 x32 t52.1 x34 (qe (4 + 1))
   else
   if x35 = 5 then
    (Xq x34 65536 t17).bind fun t55 =>
    qJ.l36 k0 a0_0 a0_1 a1 x3 x4 t11 t13 t17 k x29 x30 x31 x32 x33 t55.1 (qe (5 + 1))
   else
   none
  else
   some (x29, x30, x31, x32, x33, x34)
def qJ.l5 (k0 : Nat) (a0_0 : Int) (a0_1 : List qG) (a1 : List qG) : Nat → Int → Int → Option (Int × List qG)
 | 0, _, _ => none
 | k + 1, x3, x4 =>
  if (decide (x4 < (a1.length : Int))) = true then
   (if 0 ≤ x4 ∧ x4 < (a1.length : Int) then
    (a1[x4.toNat]?).bind fun t11 =>
    (qu k0 (⟨a0_0, a0_1⟩ : Zx) t11).bind fun t13 =>
    ((Qn k0 t13).bind fun t17 =>
    if (decide (t17 ≥ x3)) = true then
     (qJ.l36 k0 a0_0 a0_1 a1 x3 x4 t11 t13 t17 k0 t13.e0 t13.e1 t13.e2 t13.e3 t13.e4 t13.e5 0).bind fun (j25 : Int × Int × Int × Int × Int × Int) =>
     if a0_1.length < 1000000 then
      some (.inl (.inl (a0_0, (a0_1 ++ [(⟨j25.1, j25.2.1, j25.2.2.1, j25.2.2.2.1, j25.2.2.2.2.1, j25.2.2.2.2.2⟩ : qG)]))))
     else none
    else
     some (.inr ()) : Option (((Int × List qG) ⊕ (Unit)) ⊕ (Unit))).bind fun j14 => match j14 with
    | .inl r => some r
    | .inr j14v =>
     some (.inr ())
   else none : Option ((Int × List qG) ⊕ (Unit))).bind fun j7 => match j7 with
   | .inl r => some r
   | .inr j7v =>
    qJ.l5 k0 a0_0 a0_1 a1 k 16384 (qe (x4 + 1))
  else
   some (a0_0, a0_1)
def qJ (k0 : Nat) (a0_0 : Int) (a0_1 : List qG) (a1 : List qG) : Option (Int × List qG) :=
 qJ.l5 k0 a0_0 a0_1 a1 k0 4096 0
def XW (a0 : Int) (a1 : Int) (q0_0 : Zx) : Option (Int) :=
 if a0 = 0 then
  if 0 ≤ a1 ∧ a1 < (q0_0.columns.length : Int) then
   (q0_0.columns[a1.toNat]?).bind fun t4 =>
   some t4.e0
  else none
 else
 if a0 = 1 then
  if 0 ≤ a1 ∧ a1 < (q0_0.columns.length : Int) then
   (q0_0.columns[a1.toNat]?).bind fun t7 =>
   some t7.e1
  else none
 else
 if a0 = 2 then
  if 0 ≤ a1 ∧ a1 < (q0_0.columns.length : Int) then
   (q0_0.columns[a1.toNat]?).bind fun t10 =>
   some t10.e2
  else none
 else
 if a0 = 3 then
  if 0 ≤ a1 ∧ a1 < (q0_0.columns.length : Int) then
   (q0_0.columns[a1.toNat]?).bind fun t13 =>
   some t13.e3
  else none
 else
 if a0 = 4 then
  if 0 ≤ a1 ∧ a1 < (q0_0.columns.length : Int) then
   (q0_0.columns[a1.toNat]?).bind fun t16 =>
   some t16.e4
  else none
 else
 if a0 = 5 then
  if 0 ≤ a1 ∧ a1 < (q0_0.columns.length : Int) then
   (q0_0.columns[a1.toNat]?).bind fun t19 =>
   some t19.e5
  else none
 else
 none
def qS.l19 (k0 : Nat) (a0 : Int) (a1_0_0 : Zx) (x8 : List (List Int)) (x9 : Int) : Nat → (List (List Int)) → Int → Option (List (List Int))
 | 0, _, _ => none
 | k + 1, x17, x18 =>
  if (decide (x18 < a0)) = true then
   if 0 ≤ x9 ∧ x9 < (x17.length : Int) then
    (x17[x9.toNat]?).bind fun t24 =>
    (XW x9 x18 (⟨a1_0_0.n, a1_0_0.columns⟩ : Zx)).bind fun t26 =>
    if t24.length < 1000000 then
     if 0 ≤ x9 ∧ x9 < (x17.length : Int) then
      (x17[x9.toNat]?).bind fun t29 =>
      qS.l19 k0 a0 a1_0_0 x8 x9 k (x17.set x9.toNat (t24 ++ [t26])) (qe (x18 + 1))
     else none
    else none
   else none
  else
   some (x17)
def qS.l10 (k0 : Nat) (a0 : Int) (a1_0_0 : Zx) : Nat → (List (List Int)) → Int → Option (List (List Int))
 | 0, _, _ => none
 | k + 1, x8, x9 =>
  if (decide (x9 < a0)) = true then
   (qS.l19 k0 a0 a1_0_0 x8 x9 k0 x8 0).bind fun (j13 : List (List Int)) =>
   qS.l10 k0 a0 a1_0_0 k j13 (qe (x9 + 1))
  else
   some (x8)
def qS (k0 : Nat) (a0 : Int) (a1_0_0 : Zx) : Option (List (List Int)) :=
 if 0 ≤ a0 ∧ a0 < 1000000 then
  (qS.l10 k0 a0 a1_0_0 k0 (List.replicate a0.toNat ([] : List Int)) 0).bind fun (j5 : List (List Int)) =>
  some j5
 else none
def qt.l43 (k0 : Nat) (a0 : List (List Int)) (j6 : List qG) (x14 : Int) (x15 : List qG) (x16 : Int) : Nat → Int → Int → Int → Int → Int → Int → Int → Option (Int × Int × Int × Int × Int × Int)
 | 0, _, _, _, _, _, _, _ => none
 | k + 1, x36, x37, x38, x39, x40, x41, x42 =>
  if (decide (x42 < (a0.length : Int))) = true then
   if x42 = 0 then
    if 0 ≤ (0 : Int) ∧ (0 : Int) < (a0.length : Int) then
     (a0[(0 : Int).toNat]?).bind fun t48 =>
     if 0 ≤ x16 ∧ x16 < (t48.length : Int) then
      (t48[x16.toNat]?).bind fun t50 =>
      qt.l43 k0 a0 j6 x14 x15 x16 k t50 x37 x38 x39 x40 x41 (qe (0 + 1))
     else none
    else none
   else
   if x42 = 1 then
    if 0 ≤ (1 : Int) ∧ (1 : Int) < (a0.length : Int) then
     (a0[(1 : Int).toNat]?).bind fun t54 =>
     if 0 ≤ x16 ∧ x16 < (t54.length : Int) then
      (t54[x16.toNat]?).bind fun t56 =>
      qt.l43 k0 a0 j6 x14 x15 x16 k x36 t56 x38 x39 x40 x41 (qe (1 + 1))
     else none
    else none
   else
   if x42 = 2 then
    if 0 ≤ (2 : Int) ∧ (2 : Int) < (a0.length : Int) then
     (a0[(2 : Int).toNat]?).bind fun t60 =>
     if 0 ≤ x16 ∧ x16 < (t60.length : Int) then
      (t60[x16.toNat]?).bind fun t62 =>
      qt.l43 k0 a0 j6 x14 x15 x16 k x36 x37 t62 x39 x40 x41 (qe (2 + 1))
     else none
    else none
   else
   if x42 = 3 then
    if 0 ≤ (3 : Int) ∧ (3 : Int) < (a0.length : Int) then
     (a0[(3 : Int).toNat]?).bind fun t66 =>
     if 0 ≤ x16 ∧ x16 < (t66.length : Int) then
      (t66[x16.toNat]?).bind fun t68 =>
      qt.l43 k0 a0 j6 x14 x15 x16 k x36 x37 x38 t68 x40 x41 (qe (3 + 1))
     else none
    else none
   else
   if x42 = 4 then
    if 0 ≤ (4 : Int) ∧ (4 : Int) < (a0.length : Int) then
     (a0[(4 : Int).toNat]?).bind fun t72 =>
     if 0 ≤ x16 ∧ x16 < (t72.length : Int) then
      (t72[x16.toNat]?).bind fun t74 =>
      qt.l43 k0 a0 j6 x14 x15 x16 k x36 x37 x38 x39 t74 x41 (qe (4 + 1))
     else none
    else none
   else
   if x42 = 5 then
    if 0 ≤ (5 : Int) ∧ (5 : Int) < (a0.length : Int) then
     (a0[(5 : Int).toNat]?).bind fun t78 =>
     if 0 ≤ x16 ∧ x16 < (t78.length : Int) then
      (t78[x16.toNat]?).bind fun t80 =>
      qt.l43 k0 a0 j6 x14 x15 x16 k x36 x37 x38 x39 x40 t80 (qe (5 + 1))
     else none
    else none
   else
   none
  else
   some (x36, x37, x38, x39, x40, x41)
def qt.l17 (k0 : Nat) (a0 : List (List Int)) (j6 : List qG) : Nat → Int → (List qG) → Int → Option (Int × List qG)
 | 0, _, _, _ => none
 | k + 1, x14, x15, x16 =>
  if (decide (x16 < (a0.length : Int))) = true then
   ((qt.l43 k0 a0 j6 x14 x15 x16 k0 0 0 0 0 0 0 0).bind fun (j31 : Int × Int × Int × Int × Int × Int) =>
   if j6.length < 1000000 ∧ ([(⟨j31.1, j31.2.1, j31.2.2.1, j31.2.2.2.1, j31.2.2.2.2.1, j31.2.2.2.2.2⟩ : qG)] : List qG).length < 1000000 then
    (qJ k0 x14 x15 (([(⟨j31.1, j31.2.1, j31.2.2.1, j31.2.2.2.1, j31.2.2.2.2.1, j31.2.2.2.2.2⟩ : qG)] : List qG) ++ j6)).bind fun t34 =>
    some (t34.1, t34.2)
   else none).bind fun (j21 : Int × List qG) =>
   qt.l17 k0 a0 j6 k j21.1 j21.2 (qe (x16 + 1))
  else
   some (x14, x15)
def qt.l93 (k0 : Nat) (a0 : List (List Int)) : Nat → (List qG) → Int → Option (List qG)
 | 0, _, _ => none
 | k + 1, x91, x92 =>
  if (decide (x92 < (a0.length : Int))) = true then
   if x92 = 0 then
    if 0 ≤ (0 : Int) ∧ (0 : Int) < (x91.length : Int) then
     (x91[(0 : Int).toNat]?).bind fun t98 =>
     qt.l93 k0 a0 k (x91.set ((0 : Int).toNat) (⟨65536, t98.e1, t98.e2, t98.e3, t98.e4, t98.e5⟩ : qG)) (qe (0 + 1))
    else none
   else
   if x92 = 1 then
    if 0 ≤ (1 : Int) ∧ (1 : Int) < (x91.length : Int) then
     (x91[(1 : Int).toNat]?).bind fun t102 =>
     qt.l93 k0 a0 k (x91.set ((1 : Int).toNat) (⟨t102.e0, 65536, t102.e2, t102.e3, t102.e4, t102.e5⟩ : qG)) (qe (1 + 1))
    else none
   else
   if x92 = 2 then
    if 0 ≤ (2 : Int) ∧ (2 : Int) < (x91.length : Int) then
     (x91[(2 : Int).toNat]?).bind fun t106 =>
     qt.l93 k0 a0 k (x91.set ((2 : Int).toNat) (⟨t106.e0, t106.e1, 65536, t106.e3, t106.e4, t106.e5⟩ : qG)) (qe (2 + 1))
    else none
   else
   if x92 = 3 then
    if 0 ≤ (3 : Int) ∧ (3 : Int) < (x91.length : Int) then
     (x91[(3 : Int).toNat]?).bind fun t110 =>
     qt.l93 k0 a0 k (x91.set ((3 : Int).toNat) (⟨t110.e0, t110.e1, t110.e2, 65536, t110.e4, t110.e5⟩ : qG)) (qe (3 + 1))
    else none
   else
   if x92 = 4 then
    if 0 ≤ (4 : Int) ∧ (4 : Int) < (x91.length : Int) then
     (x91[(4 : Int).toNat]?).bind fun t114 =>
     qt.l93 k0 a0 k (x91.set ((4 : Int).toNat) (⟨t114.e0, t114.e1, t114.e2, t114.e3, 65536, t114.e5⟩ : qG)) (qe (4 + 1))
    else none
   else
   if x92 = 5 then
    if 0 ≤ (5 : Int) ∧ (5 : Int) < (x91.length : Int) then
     (x91[(5 : Int).toNat]?).bind fun t118 =>
     qt.l93 k0 a0 k (x91.set ((5 : Int).toNat) (⟨t118.e0, t118.e1, t118.e2, t118.e3, t118.e4, 65536⟩ : qG)) (qe (5 + 1))
    else none
   else
   none
  else
   some (x91)
def qt (k0 : Nat) (a0 : List (List Int)) : Option (List (List Int)) :=
 if 0 ≤ (a0.length : Int) ∧ (a0.length : Int) < 1000000 then
  (qt.l93 k0 a0 k0 (List.replicate (a0.length : Int).toNat (⟨0, 0, 0, 0, 0, 0⟩ : qG)) 0).bind fun (j6 : List qG) =>
  (qt.l17 k0 a0 j6 k0 (a0.length : Int) ([] : List qG) 0).bind fun (j10 : Int × List qG) =>
  (qS k0 (a0.length : Int) (⟨j10.1, j10.2⟩ : Zx)).bind fun t12 =>
  some t12
 else none
def QM (a0 : Int) (a1 : Int) (a2 : Int) (a3 : Int) : Option (List (List Int)) :=
 some ([([qe (a0 * 65536), qe (a1 * 65536)] : List Int), ([qe (a2 * 65536), qe (a3 * 65536)] : List Int)] : List (List Int))
def Q6 (a0 : Int) : Option (Bool) :=
 some ((decide (a0 > (-2147483648))) && (decide (a0 < 2147483648)))
def Xf : Option (qa) :=
 some (⟨(-2147483648), 2147483648⟩ : qa)
def Xn (a0 : Int) (a1 : Int) : Option (qa) :=
 (Q6 a0).bind fun t3 =>
 (if ((!t3) == false) = true then Q6 a1 else some default).bind fun t4 =>
 if ((!t3) || (!t4)) = true then
  (Xf).bind fun t6 =>
  some t6
 else
  some (⟨a0, a1⟩ : qa)
def QR (a0 : Int) : Option (qa) :=
 (Xn a0 a0).bind fun t3 =>
 some t3
def Yy (k0 : Nat)  : Option (Bool) :=
 (QM 1 2 0 1).bind fun t3 =>
 (QJ k0 t3).bind fun t4 =>
 (QR 65536).bind fun t5 =>
 (XA k0 t4 ([t5, t5] : List qa)).bind fun t7 =>
 (QM 1 1 0 1).bind fun t9 =>
 (qt k0 t9).bind fun t10 =>
 (QM 2 0 0 4).bind fun t12 =>
 (QJ k0 t12).bind fun t13 =>
 (qw k0 t13).bind fun t14 =>
 (QM 1 1 1 1).bind fun t16 =>
 (QJ k0 t16).bind fun t17 =>
 (qw k0 t17).bind fun t18 =>
 (Zk k0 t4 t4).bind fun t20 =>
 (Yq k0 t4).bind fun t22 =>
 (Zj k0 ([([(⟨(-3), 0⟩ : qa)] : List qa)] : List (List qa))).bind fun t24 =>
 if ((t10.length : Int) != 2) = false then
  if 0 ≤ (0 : Int) ∧ (0 : Int) < (t10.length : Int) then
   (t10[(0 : Int).toNat]?).bind fun t28 =>
   if ((t28.length : Int) != 2) = false then
    if 0 ≤ (1 : Int) ∧ (1 : Int) < (t10.length : Int) then
     (t10[(1 : Int).toNat]?).bind fun t31 =>
     if (((t31.length : Int) != 2) || ((t24.length : Int) != 1)) = false then
      if 0 ≤ (0 : Int) ∧ (0 : Int) < (t24.length : Int) then
       (t24[(0 : Int).toNat]?).bind fun t34 =>
       if ((t34.length : Int) != 1) = true then
        some false
       else
        (Xd k0 t4).bind fun t37 =>
        (if (t37 == true) = true then Xd k0 ([] : List (List qa)) else some default).bind fun t38 =>
        if (t37 && (!t38)) = true then
         (Xd k0 ([([t5, t5] : List qa)] : List (List qa))).bind fun t40 =>
         if (!t40) = true then
          (Xd k0 ([([(⟨2, 1⟩ : qa)] : List qa)] : List (List qa))).bind fun t42 =>
          if (!t42) = true then
           (QR 196608).bind fun t44 =>
           (QI k0 t7 ([t44, t5] : List qa)).bind fun t45 =>
           if t45 = true then
            if 0 ≤ (0 : Int) ∧ (0 : Int) < (t10.length : Int) then
             (t10[(0 : Int).toNat]?).bind fun t48 =>
             if 0 ≤ (0 : Int) ∧ (0 : Int) < (t48.length : Int) then
              (t48[(0 : Int).toNat]?).bind fun t51 =>
              if (t51 == 65536) = true then
               if 0 ≤ (0 : Int) ∧ (0 : Int) < (t10.length : Int) then
                (t10[(0 : Int).toNat]?).bind fun t55 =>
                if 0 ≤ (1 : Int) ∧ (1 : Int) < (t55.length : Int) then
                 (t55[(1 : Int).toNat]?).bind fun t57 =>
                 if (t57 == 0) = true then
                  if 0 ≤ (1 : Int) ∧ (1 : Int) < (t10.length : Int) then
                   (t10[(1 : Int).toNat]?).bind fun t61 =>
                   if 0 ≤ (0 : Int) ∧ (0 : Int) < (t61.length : Int) then
                    (t61[(0 : Int).toNat]?).bind fun t63 =>
                    if (t63 == 0) = true then
                     if 0 ≤ (1 : Int) ∧ (1 : Int) < (t10.length : Int) then
                      (t10[(1 : Int).toNat]?).bind fun t67 =>
                      if 0 ≤ (1 : Int) ∧ (1 : Int) < (t67.length : Int) then
                       (t67[(1 : Int).toNat]?).bind fun t69 =>
                       if (t69 == 65536) = true then
                        (QR 32768).bind fun t72 =>
                        (QR 16384).bind fun t73 =>
                        (qz k0 t14.1 ([([t72, (⟨0, 0⟩ : qa)] : List qa), ([(⟨0, 0⟩ : qa), t73] : List qa)] : List (List qa))).bind fun t74 =>
                        if ((t74 && t14.2) && (!t18.2)) = true then
                         (QM 1 4 0 1).bind fun t76 =>
                         (QJ k0 t76).bind fun t77 =>
                         (qz k0 t20 t77).bind fun t78 =>
                         if t78 = true then
                          (QM 1 0 2 1).bind fun t80 =>
                          (QJ k0 t80).bind fun t81 =>
                          (qz k0 t22 t81).bind fun t82 =>
                          if t82 = true then
                           if 0 ≤ (0 : Int) ∧ (0 : Int) < (t24.length : Int) then
                            (t24[(0 : Int).toNat]?).bind fun t85 =>
                            if 0 ≤ (0 : Int) ∧ (0 : Int) < (t85.length : Int) then
                             (t85[(0 : Int).toNat]?).bind fun t88 =>
                             if (t88 == (-2)) = true then
                              (Xp k0 2).bind fun t91 =>
                              (QM 1 0 0 1).bind fun t92 =>
                              (QJ k0 t92).bind fun t93 =>
                              (qz k0 t91 t93).bind fun t94 =>
                              if t94 = true then
                               (Xp k0 0).bind fun t96 =>
                               if ((t96.length : Int) == 0) = true then
                                (Xp k0 7).bind fun t98 =>
                                some ((t98.length : Int) == 0)
                               else none
                              else none
                             else none
                            else none
                           else none
                          else none
                         else none
                        else none
                       else none
                      else none
                     else none
                    else none
                   else none
                  else none
                 else none
                else none
               else none
              else none
             else none
            else none
           else none
          else none
         else none
        else none
      else none
     else none
    else none
   else none
  else none
 else none
def q9 (a0 : qa) : Option (Bool) :=
 some ((a0.Lo == (-2147483648)) && (a0.Hi == 2147483648))
def XU (a0 : qa) : Option (Bool) :=
 (q9 a0).bind fun t3 =>
 (if (t3 == false) = true then Q6 a0.Lo else some default).bind fun t4 =>
 (if ((t3 == false) && (t4 == true)) = true then Q6 a0.Hi else some default).bind fun t5 =>
 some (t3 || ((t4 && t5) && (decide (a0.Lo ≤ a0.Hi))))
def qX.l18 (k0 : Nat) (a0 : List (List qa)) (x7 : Int) (t14 : List qa) : Nat → Int → Option (((Bool) ⊕ (Unit)) ⊕ (Unit))
 | 0, _ => none
 | k + 1, x17 =>
  if (decide (x17 < (a0.length : Int))) = true then
   if 0 ≤ x7 ∧ x7 < (a0.length : Int) then
    (a0[x7.toNat]?).bind fun t22 =>
    if 0 ≤ x17 ∧ x17 < (t22.length : Int) then
     (t22[x17.toNat]?).bind fun t24 =>
     (XU t24).bind fun t25 =>
     if (!t25) = true then
      some (.inl (.inl false))
     else
      qX.l18 k0 a0 x7 t14 k (qe (x17 + 1))
    else none
   else none
  else
   some (.inr ())
def qX.l8 (k0 : Nat) (a0 : List (List qa)) : Nat → Int → Option ((Bool) ⊕ (Unit))
 | 0, _ => none
 | k + 1, x7 =>
  if (decide (x7 < (a0.length : Int))) = true then
   (if 0 ≤ x7 ∧ x7 < (a0.length : Int) then
    (a0[x7.toNat]?).bind fun t14 =>
    if ((t14.length : Int) != (a0.length : Int)) = true then
     some (.inl (.inl false))
    else
     qX.l18 k0 a0 x7 t14 k0 0
   else none : Option (((Bool) ⊕ (Unit)) ⊕ (Unit))).bind fun j10 => match j10 with
   | .inl r => some r
   | .inr j10v =>
    qX.l8 k0 a0 k (qe (x7 + 1))
  else
   some (.inr ())
def qX (k0 : Nat) (a0 : List (List qa)) : Option (Bool) :=
 if ((decide ((a0.length : Int) < 1)) || (decide ((a0.length : Int) > 6))) = true then
  some false
 else
  (qX.l8 k0 a0 k0 0 : Option ((Bool) ⊕ (Unit))).bind fun j4 => match j4 with
  | .inl r => some r
  | .inr j4v =>
   some true
def XY (a0 : Int) : Option (Int) :=
 some (qe (1 + (Int.tmod (qe a0) 4)))
def qZ.l11 (k0 : Nat) (a0 : Int) : Nat → (List (List qa)) → Int → Option (List (List qa))
 | 0, _, _ => none
 | k + 1, x9, x10 =>
  if (decide (x10 < a0)) = true then
   if 0 ≤ a0 ∧ a0 < 1000000 then
    (QR 65536).bind fun t16 =>
    if 0 ≤ x10 ∧ x10 < ((List.replicate a0.toNat (⟨0, 0⟩ : qa)).length : Int) then
     ((List.replicate a0.toNat (⟨0, 0⟩ : qa))[x10.toNat]?).bind fun t18 =>
     if x9.length < 1000000 then
      qZ.l11 k0 a0 k (x9 ++ [((List.replicate a0.toNat (⟨0, 0⟩ : qa)).set x10.toNat t16)]) (qe (x10 + 1))
     else none
    else none
   else none
  else
   some (x9)
def qZ (k0 : Nat) (a0 : Int) : Option (List (List qa)) :=
 if ((decide (a0 < 1)) || (decide (a0 > 6))) = true then
  some ([] : List (List qa))
 else
  (qZ.l11 k0 a0 k0 ([] : List (List qa)) 0).bind fun (j6 : List (List qa)) =>
  some j6
def YN (a0 : qa) : Option (qa) :=
 some (⟨mn (Int.tmod a0.Lo 16777216) (Int.tmod a0.Hi 16777216), mx (Int.tmod a0.Lo 16777216) (Int.tmod a0.Hi 16777216)⟩ : qa)
def X3 (a0 : qa) : Option (qa) :=
 (XU a0).bind fun t3 =>
 if t3 = true then
  some a0
 else
  if ((qbP .i64 a0.Lo 31) == 7) = true then
   (Xf).bind fun t7 =>
   some t7
  else
   (YN a0).bind fun t9 =>
   some t9
def qV.l18 (k0 : Nat) (a0 : List qa) (a1 : Int) (t3 : List (List qa)) (x8 : List (List qa)) (x9 : Int) : Nat → (List (List qa)) → Int → Option (List (List qa))
 | 0, _, _ => none
 | k + 1, x16, x17 =>
  if ((decide (x17 < a1)) && (decide ((qe ((qe (x9 * a1)) + x17)) < (a0.length : Int)))) = true then
   if 0 ≤ x9 ∧ x9 < (x16.length : Int) then
    (x16[x9.toNat]?).bind fun t22 =>
    if 0 ≤ qe ((qe (x9 * a1)) + x17) ∧ qe ((qe (x9 * a1)) + x17) < (a0.length : Int) then
     (a0[(qe ((qe (x9 * a1)) + x17)).toNat]?).bind fun t25 =>
     (X3 t25).bind fun t27 =>
     if 0 ≤ x17 ∧ x17 < (t22.length : Int) then
      (t22[x17.toNat]?).bind fun t29 =>
      qV.l18 k0 a0 a1 t3 x8 x9 k (x16.set x9.toNat (t22.set x17.toNat t27)) (qe (x17 + 1))
     else none
    else none
   else none
  else
   some (x16)
def qV.l10 (k0 : Nat) (a0 : List qa) (a1 : Int) (t3 : List (List qa)) : Nat → (List (List qa)) → Int → Option (List (List qa))
 | 0, _, _ => none
 | k + 1, x8, x9 =>
  if (decide (x9 < a1)) = true then
   (qV.l18 k0 a0 a1 t3 x8 x9 k0 x8 0).bind fun (j13 : List (List qa)) =>
   qV.l10 k0 a0 a1 t3 k j13 (qe (x9 + 1))
  else
   some (x8)
def qV (k0 : Nat) (a0 : List qa) (a1 : Int) : Option (List (List qa)) :=
 (qZ k0 a1).bind fun t3 =>
 (qV.l10 k0 a0 a1 t3 k0 t3 0).bind fun (j5 : List (List qa)) =>
 some j5
def QT.l9 (k0 : Nat) (a0 : List qa) (a1 : Int) : Nat → (List qa) → Int → Option (List qa)
 | 0, _, _ => none
 | k + 1, x7, x8 =>
  if (decide (x8 < a1)) = true then
   (if (decide (x8 < (a0.length : Int))) = true then
    if 0 ≤ x8 ∧ x8 < (a0.length : Int) then
     (a0[x8.toNat]?).bind fun t21 =>
     (X3 t21).bind fun t22 =>
     some (t22.Lo, t22.Hi)
    else none
   else
    some (0, 0)).bind fun (j14 : Int × Int) =>
   if x7.length < 1000000 then
    QT.l9 k0 a0 a1 k (x7 ++ [(⟨j14.1, j14.2⟩ : qa)]) (qe (x8 + 1))
   else none
  else
   some (x7)
def QT (k0 : Nat) (a0 : List qa) (a1 : Int) : Option (List qa) :=
 (QT.l9 k0 a0 a1 k0 ([] : List qa) 0).bind fun (j4 : List qa) =>
 some j4
def Yu (k0 : Nat) (a0 : Zp) : Option (List (List qa) × List (List qa) × List qa) :=
 (XY a0.N).bind fun t3 =>
 (qV k0 a0.A t3).bind fun t5 =>
 (qV k0 a0.B t3).bind fun t6 =>
 (QT k0 a0.X t3).bind fun t7 =>
 some (t5, t6, t7)
def YP (a0 : Int) : Option (Int) :=
 some (Int.tmod a0 16777216)
def qO.l23 (k0 : Nat) (a0 : List Int) (a1 : Int) (x7 : List (List Int)) (x8 : Int) : Nat → (List Int) → Int → Option (List Int)
 | 0, _, _ => none
 | k + 1, x21, x22 =>
  if ((decide (x22 < a1)) && (decide ((qe ((qe (x8 * a1)) + x22)) < (a0.length : Int)))) = true then
   if 0 ≤ qe ((qe (x8 * a1)) + x22) ∧ qe ((qe (x8 * a1)) + x22) < (a0.length : Int) then
    (a0[(qe ((qe (x8 * a1)) + x22)).toNat]?).bind fun t27 =>
    (YP t27).bind fun t28 =>
    if 0 ≤ x22 ∧ x22 < (x21.length : Int) then
     (x21[x22.toNat]?).bind fun t30 =>
     qO.l23 k0 a0 a1 x7 x8 k (x21.set x22.toNat t28) (qe (x22 + 1))
    else none
   else none
  else
   some (x21)
def qO.l9 (k0 : Nat) (a0 : List Int) (a1 : Int) : Nat → (List (List Int)) → Int → Option (List (List Int))
 | 0, _, _ => none
 | k + 1, x7, x8 =>
  if (decide (x8 < a1)) = true then
   (if 0 ≤ a1 ∧ a1 < 1000000 then
    (qO.l23 k0 a0 a1 x7 x8 k0 (List.replicate a1.toNat (0 : Int)) 0).bind fun (j17 : List Int) =>
    if x7.length < 1000000 then
     some ((x7 ++ [j17]))
    else none
   else none).bind fun (j12 : List (List Int)) =>
   qO.l9 k0 a0 a1 k j12 (qe (x8 + 1))
  else
   some (x7)
def qO (k0 : Nat) (a0 : List Int) (a1 : Int) : Option (List (List Int)) :=
 (qO.l9 k0 a0 a1 k0 ([] : List (List Int)) 0).bind fun (j4 : List (List Int)) =>
 some j4
def X4 (a0 : qa) : Option (Int) :=
 if (decide (a0.Lo > 0)) = true then
  some 1
 else
  if (decide (a0.Hi < 0)) = true then
   some (-1)
  else
   some 0
def Xw (a0 : qa) : Option (Int) :=
 some (mn (mx a0.Lo (qe (0 - a0.Lo))) (mx a0.Hi (qe (0 - a0.Hi))))
def QD (a0 : Int) (a1 : Int) : Option (Int) :=
 if a1 ≠ 0 then
  (if a1 ≠ 0 then
   if (((Int.tmod a0 a1) != 0) && (!((decide (a0 < 0)) == (decide (a1 < 0))))) = true then
    some (qe ((qe (Int.tdiv a0 a1)) - 1))
   else
    some (qe (Int.tdiv a0 a1))
  else none).bind fun (j5 : Int) =>
  some j5
 else none
def Xj (a0 : Int) (a1 : Int) : Option (Int) :=
 (QD (qe (0 - a0)) a1).bind fun t3 =>
 some (qe (0 - t3))
def QC.l20 (k0 : Nat) (a0 : qa) (a1 : qa) (t3 : Bool) (t4 : Bool) : Nat → Int → Int → Int → Option (Int × Int)
 | 0, _, _, _ => none
 | k + 1, x17, x18, x19 =>
  if (decide (x19 < 4)) = true then
   if 0 ≤ x19 ∧ x19 < 4 then
    ([qe (a0.Lo * a1.Lo), qe (a0.Lo * a1.Hi), qe (a0.Hi * a1.Lo), qe (a0.Hi * a1.Hi)][x19.toNat]?).bind fun t24 =>
    if 0 ≤ x19 ∧ x19 < 4 then
     ([qe (a0.Lo * a1.Lo), qe (a0.Lo * a1.Hi), qe (a0.Hi * a1.Lo), qe (a0.Hi * a1.Hi)][x19.toNat]?).bind fun t27 =>
     QC.l20 k0 a0 a1 t3 t4 k (mn x17 t24) (mx x18 t27) (qe (x19 + 1))
    else none
   else none
  else
   some (x17, x18)
def QC (k0 : Nat) (a0 : qa) (a1 : qa) : Option (qa) :=
 (q9 a0).bind fun t3 =>
 (if (t3 == false) = true then q9 a1 else some default).bind fun t4 =>
 if (t3 || t4) = true then
  (Xf).bind fun t6 =>
  some t6
 else
  (QC.l20 k0 a0 a1 t3 t4 k0 (qe (a0.Lo * a1.Lo)) (qe (a0.Lo * a1.Lo)) 1).bind fun (j11 : Int × Int) =>
  (QD j11.1 65536).bind fun t13 =>
  (Xj j11.2 65536).bind fun t14 =>
  (Xn t13 t14).bind fun t15 =>
  some t15
def Qi.l30 (k0 : Nat) (a0 : qa) (a1 : qa) (t3 : Bool) (t4 : Bool) (t9 : Int) (t10 : Int) (x17 : Int) (x18 : Int) (x19 : Int) : Nat → Int → Int → Int → Option (Int × Int)
 | 0, _, _, _ => none
 | k + 1, x27, x28, x29 =>
  if (decide (x29 < 2)) = true then
   if 0 ≤ x19 ∧ x19 < 2 then
    ([a0.Lo, a0.Hi][x19.toNat]?).bind fun t34 =>
    if 0 ≤ x29 ∧ x29 < 2 then
     ([a1.Lo, a1.Hi][x29.toNat]?).bind fun t36 =>
     (QD (qe (t34 * 65536)) t36).bind fun t37 =>
     if 0 ≤ x19 ∧ x19 < 2 then
      ([a0.Lo, a0.Hi][x19.toNat]?).bind fun t40 =>
      if 0 ≤ x29 ∧ x29 < 2 then
       ([a1.Lo, a1.Hi][x29.toNat]?).bind fun t42 =>
       (Xj (qe (t40 * 65536)) t42).bind fun t43 =>
       Qi.l30 k0 a0 a1 t3 t4 t9 t10 x17 x18 x19 k (mn x27 t37) (mx x28 t43) (qe (x29 + 1))
      else none
     else none
    else none
   else none
  else
   some (x27, x28)
def Qi.l20 (k0 : Nat) (a0 : qa) (a1 : qa) (t3 : Bool) (t4 : Bool) (t9 : Int) (t10 : Int) : Nat → Int → Int → Int → Option (Int × Int)
 | 0, _, _, _ => none
 | k + 1, x17, x18, x19 =>
  if (decide (x19 < 2)) = true then
   (Qi.l30 k0 a0 a1 t3 t4 t9 t10 x17 x18 x19 k0 x17 x18 0).bind fun (j24 : Int × Int) =>
   Qi.l20 k0 a0 a1 t3 t4 t9 t10 k j24.1 j24.2 (qe (x19 + 1))
  else
   some (x17, x18)
def Qi (k0 : Nat) (a0 : qa) (a1 : qa) : Option (qa) :=
 (q9 a0).bind fun t3 =>
 (if (t3 == false) = true then q9 a1 else some default).bind fun t4 =>
 if ((t3 || t4) || ((decide (a1.Lo ≤ 0)) && (decide (a1.Hi ≥ 0)))) = true then
  (Xf).bind fun t6 =>
  some t6
 else
  (QD (qe (a0.Lo * 65536)) a1.Lo).bind fun t9 =>
  (Xj (qe (a0.Lo * 65536)) a1.Lo).bind fun t10 =>
  (Qi.l20 k0 a0 a1 t3 t4 t9 t10 k0 t9 t10 0).bind fun (j13 : Int × Int) =>
  (Xn j13.1 j13.2).bind fun t15 =>
  some t15
def XZ (a0 : qa) (a1 : qa) : Option (qa) :=
 (q9 a0).bind fun t3 =>
 (if (t3 == false) = true then q9 a1 else some default).bind fun t4 =>
 if (t3 || t4) = true then
  (Xf).bind fun t6 =>
  some t6
 else
  (Xn (qe (a0.Lo + a1.Lo)) (qe (a0.Hi + a1.Hi))).bind fun t8 =>
  some t8
def YI (a0 : qa) : Option (qa) :=
 some (⟨qe (0 - a0.Hi), qe (0 - a0.Lo)⟩ : qa)
def Ym (a0 : qa) (a1 : qa) : Option (qa) :=
 (YI a1).bind fun t3 =>
 (XZ a0 t3).bind fun t4 =>
 some t4
def qE.l26 (k0 : Nat) (a0 : List (List qa)) (a1 : Int) (j4 : List qa) (x9 : List (List qa)) (x10 : Int) : Nat → (List qa) → Int → Option (List qa)
 | 0, _, _ => none
 | k + 1, x24, x25 =>
  if 0 ≤ x10 ∧ x10 < (a0.length : Int) then
   (a0[x10.toNat]?).bind fun t29 =>
   if (decide (x25 < (t29.length : Int))) = true then
    if 0 ≤ x10 ∧ x10 < (a0.length : Int) then
     (a0[x10.toNat]?).bind fun t32 =>
     if 0 ≤ x25 ∧ x25 < (t32.length : Int) then
      (t32[x25.toNat]?).bind fun t35 =>
      if 0 ≤ x10 ∧ x10 < (a0.length : Int) then
       (a0[x10.toNat]?).bind fun t37 =>
       if 0 ≤ a1 ∧ a1 < (t37.length : Int) then
        (t37[a1.toNat]?).bind fun t39 =>
        if 0 ≤ x25 ∧ x25 < (j4.length : Int) then
         (j4[x25.toNat]?).bind fun t41 =>
         (QC k0 t39 t41).bind fun t43 =>
         (Ym t35 t43).bind fun t44 =>
         if x24.length < 1000000 then
          qE.l26 k0 a0 a1 j4 x9 x10 k (x24 ++ [t44]) (qe (x25 + 1))
         else none
        else none
       else none
      else none
     else none
    else none
   else
    some (x24)
  else none
def qE.l11 (k0 : Nat) (a0 : List (List qa)) (a1 : Int) (j4 : List qa) : Nat → (List (List qa)) → Int → Option (List (List qa))
 | 0, _, _ => none
 | k + 1, x9, x10 =>
  if (decide (x10 < (a0.length : Int))) = true then
   ((if (x10 != a1) = true then
    qE.l26 k0 a0 a1 j4 x9 x10 k0 ([] : List qa) 0
   else
    some (j4)).bind fun (j18 : List qa) =>
   if x9.length < 1000000 then
    some ((x9 ++ [j18]))
   else none).bind fun (j14 : List (List qa)) =>
   qE.l11 k0 a0 a1 j4 k j14 (qe (x10 + 1))
  else
   some (x9)
def qE.l53 (k0 : Nat) (a0 : List (List qa)) (a1 : Int) : Nat → (List qa) → Int → Option (List qa)
 | 0, _, _ => none
 | k + 1, x51, x52 =>
  if 0 ≤ a1 ∧ a1 < (a0.length : Int) then
   (a0[a1.toNat]?).bind fun t56 =>
   if (decide (x52 < (t56.length : Int))) = true then
    if 0 ≤ a1 ∧ a1 < (a0.length : Int) then
     (a0[a1.toNat]?).bind fun t59 =>
     if 0 ≤ x52 ∧ x52 < (t59.length : Int) then
      (t59[x52.toNat]?).bind fun t62 =>
      if 0 ≤ a1 ∧ a1 < (a0.length : Int) then
       (a0[a1.toNat]?).bind fun t64 =>
       if 0 ≤ a1 ∧ a1 < (t64.length : Int) then
        (t64[a1.toNat]?).bind fun t66 =>
        (Qi k0 t62 t66).bind fun t67 =>
        if x51.length < 1000000 then
         qE.l53 k0 a0 a1 k (x51 ++ [t67]) (qe (x52 + 1))
        else none
       else none
      else none
     else none
    else none
   else
    some (x51)
  else none
def qE (k0 : Nat) (a0 : List (List qa)) (a1 : Int) : Option (List (List qa)) :=
 (qE.l53 k0 a0 a1 k0 ([] : List qa) 0).bind fun (j4 : List qa) =>
 (qE.l11 k0 a0 a1 j4 k0 ([] : List (List qa)) 0).bind fun (j6 : List (List qa)) =>
 some j6
def qm.l28 (k0 : Nat) (a0 : List (List qa)) (t3 : List (List qa)) (j5 : List (List qa)) (j7v : List (List qa)) (x13 : List (List qa)) (x14 : Int) : Nat → Int → Option ((((List (List qa) × Bool) ⊕ (List (List qa))) ⊕ (List (List qa))) ⊕ (Unit))
 | 0, _ => none
 | k + 1, x27 =>
  if (decide (x27 < (qe (2 * (a0.length : Int))))) = true then
   if 0 ≤ x14 ∧ x14 < (j7v.length : Int) then
    (j7v[x14.toNat]?).bind fun t32 =>
    if 0 ≤ x27 ∧ x27 < (t32.length : Int) then
     (t32[x27.toNat]?).bind fun t34 =>
     (q9 t34).bind fun t35 =>
     if t35 = true then
      some (.inl (.inl (.inl (([] : List (List qa)), false))))
     else
      qm.l28 k0 a0 t3 j5 j7v x13 x14 k (qe (x27 + 1))
    else none
   else none
  else
   some (.inr ())
def qm.l15 (k0 : Nat) (a0 : List (List qa)) (t3 : List (List qa)) (j5 : List (List qa)) (j7v : List (List qa)) : Nat → (List (List qa)) → Int → Option ((List (List qa) × Bool) ⊕ (List (List qa)))
 | 0, _, _ => none
 | k + 1, x13, x14 =>
  if (decide (x14 < (a0.length : Int))) = true then
   ((qm.l28 k0 a0 t3 j5 j7v x13 x14 k0 (a0.length : Int) : Option ((((List (List qa) × Bool) ⊕ (List (List qa))) ⊕ (List (List qa))) ⊕ (Unit))).bind fun j20 => match j20 with
   | .inl r => some r
   | .inr j20v =>
    if 0 ≤ x14 ∧ x14 < (j7v.length : Int) then
     (j7v[x14.toNat]?).bind fun t23 =>
     if 0 ≤ (a0.length : Int) ∧ (a0.length : Int) ≤ (t23.length : Int) then
      if x13.length < 1000000 then
       some (.inr ((x13 ++ [(t23.drop (a0.length : Int).toNat)])))
      else none
     else none
    else none : Option (((List (List qa) × Bool) ⊕ (List (List qa))) ⊕ (List (List qa)))).bind fun j18 => match j18 with
   | .inl r => some r
   | .inr j18v =>
    qm.l15 k0 a0 t3 j5 j7v k j18v (qe (x14 + 1))
  else
   some (.inr (x13))
def qm.l71 (k0 : Nat) (a0 : List (List qa)) (t3 : List (List qa)) (j5 : List (List qa)) (x42 : List (List qa)) (x43 : Int) : Nat → Int → Int → Option (Int)
 | 0, _, _ => none
 | k + 1, x69, x70 =>
  if (decide (x70 < (a0.length : Int))) = true then
   (if 0 ≤ x70 ∧ x70 < (x42.length : Int) then
    (x42[x70.toNat]?).bind fun t78 =>
    if 0 ≤ x43 ∧ x43 < (t78.length : Int) then
     (t78[x43.toNat]?).bind fun t81 =>
     (X4 t81).bind fun t82 =>
     (some (t82 != 0)).bind fun z83 =>
     if z83 = true then
      (some (decide (x69 < 0))).bind fun z84 =>
      if z84 = true then
       some (x70)
      else
      if z84 = false then
       if 0 ≤ x70 ∧ x70 < (x42.length : Int) then
        (x42[x70.toNat]?).bind fun t86 =>
        if 0 ≤ x43 ∧ x43 < (t86.length : Int) then
         (t86[x43.toNat]?).bind fun t88 =>
         (Xw t88).bind fun t89 =>
         if 0 ≤ x69 ∧ x69 < (x42.length : Int) then
          (x42[x69.toNat]?).bind fun t91 =>
          if 0 ≤ x43 ∧ x43 < (t91.length : Int) then
           (t91[x43.toNat]?).bind fun t93 =>
           (Xw t93).bind fun t94 =>
           if (decide (t89 > t94)) = true then
            some (x70)
           else
            some (x69)
          else none
         else none
        else none
       else none
      else
      none
     else
     if z83 = false then
      some (x69)
     else
     none
    else none
   else none).bind fun (j74 : Int) =>
   qm.l71 k0 a0 t3 j5 x42 x43 k j74 (qe (x70 + 1))
  else
   some (x69)
def qm.l44 (k0 : Nat) (a0 : List (List qa)) (t3 : List (List qa)) (j5 : List (List qa)) : Nat → (List (List qa)) → Int → Option ((List (List qa) × Bool) ⊕ (List (List qa)))
 | 0, _, _ => none
 | k + 1, x42, x43 =>
  if (decide (x43 < (a0.length : Int))) = true then
   ((qm.l71 k0 a0 t3 j5 x42 x43 k0 (-1) x43).bind fun (j51 : Int) =>
   if (decide (j51 < 0)) = true then
    some (.inl (.inl (([] : List (List qa)), false)))
   else
    if 0 ≤ j51 ∧ j51 < (x42.length : Int) then
     (x42[j51.toNat]?).bind fun t56 =>
     if 0 ≤ x43 ∧ x43 < (x42.length : Int) then
      (x42[x43.toNat]?).bind fun t59 =>
      if 0 ≤ j51 ∧ j51 < (x42.length : Int) then
       (x42[j51.toNat]?).bind fun t61 =>
       if 0 ≤ x43 ∧ x43 < ((x42.set j51.toNat t59).length : Int) then
        ((x42.set j51.toNat t59)[x43.toNat]?).bind fun t64 =>
        (qE k0 ((x42.set j51.toNat t59).set x43.toNat t56) x43).bind fun t66 =>
        some (.inr (t66))
       else none
      else none
     else none
    else none : Option (((List (List qa) × Bool) ⊕ (List (List qa))) ⊕ (List (List qa)))).bind fun j47 => match j47 with
   | .inl r => some r
   | .inr j47v =>
    qm.l44 k0 a0 t3 j5 k j47v (qe (x43 + 1))
  else
   some (.inr (x42))
def qm.l91 (k0 : Nat) (a0 : List (List qa)) (t3 : List (List qa)) : Nat → (List (List qa)) → Int → Option (List (List qa))
 | 0, _, _ => none
 | k + 1, x89, x90 =>
  if (decide (x90 < (a0.length : Int))) = true then
   if 0 ≤ x90 ∧ x90 < (a0.length : Int) then
    (a0[x90.toNat]?).bind fun t95 =>
    if t95.length < 1000000 ∧ ([] : List qa).length < 1000000 then
     if 0 ≤ x90 ∧ x90 < (t3.length : Int) then
      (t3[x90.toNat]?).bind fun t99 =>
      if t99.length < 1000000 ∧ (([] : List qa) ++ t95).length < 1000000 then
       if x89.length < 1000000 then
        qm.l91 k0 a0 t3 k (x89 ++ [((([] : List qa) ++ t95) ++ t99)]) (qe (x90 + 1))
       else none
      else none
     else none
    else none
   else none
  else
   some (x89)
def qm (k0 : Nat) (a0 : List (List qa)) : Option (List (List qa) × Bool) :=
 (qZ k0 (a0.length : Int)).bind fun t3 =>
 (qm.l91 k0 a0 t3 k0 ([] : List (List qa)) 0).bind fun (j5 : List (List qa)) =>
 (qm.l44 k0 a0 t3 j5 k0 j5 0 : Option ((List (List qa) × Bool) ⊕ (List (List qa)))).bind fun j7 => match j7 with
 | .inl r => some r
 | .inr j7v =>
  (qm.l15 k0 a0 t3 j5 j7v k0 ([] : List (List qa)) 0 : Option ((List (List qa) × Bool) ⊕ (List (List qa)))).bind fun j10 => match j10 with
  | .inl r => some r
  | .inr j10v =>
   some (j10v, true)
def qW.l33 (k0 : Nat) (a0 : List (List qa)) (a1 : List qa) (x7 : List qa) (x8 : Int) (t16 : List qa) (t19 : qa) (t21 : qa) (t23 : qa) : Nat → Int → Int → Int → Option (Int × Int)
 | 0, _, _, _ => none
 | k + 1, x30, x31, x32 =>
  if (decide (x32 < (a0.length : Int))) = true then
   if 0 ≤ x8 ∧ x8 < (a0.length : Int) then
    (a0[x8.toNat]?).bind fun t37 =>
    if 0 ≤ x32 ∧ x32 < (t37.length : Int) then
     (t37[x32.toNat]?).bind fun t40 =>
     if 0 ≤ x32 ∧ x32 < (a1.length : Int) then
      (a1[x32.toNat]?).bind fun t42 =>
      (QC k0 t40 t42).bind fun t44 =>
      (XZ (⟨x30, x31⟩ : qa) t44).bind fun t45 =>
      qW.l33 k0 a0 a1 x7 x8 t16 t19 t21 t23 k t45.Lo t45.Hi (qe (x32 + 1))
     else none
    else none
   else none
  else
   some (x30, x31)
def qW.l9 (k0 : Nat) (a0 : List (List qa)) (a1 : List qa) : Nat → (List qa) → Int → Option (List qa)
 | 0, _, _ => none
 | k + 1, x7, x8 =>
  if (decide (x8 < (a0.length : Int))) = true then
   (if 0 ≤ x8 ∧ x8 < (a0.length : Int) then
    (a0[x8.toNat]?).bind fun t16 =>
    if 0 ≤ (0 : Int) ∧ (0 : Int) < (t16.length : Int) then
     (t16[(0 : Int).toNat]?).bind fun t19 =>
     if 0 ≤ (0 : Int) ∧ (0 : Int) < (a1.length : Int) then
      (a1[(0 : Int).toNat]?).bind fun t21 =>
      (QC k0 t19 t21).bind fun t23 =>
      (qW.l33 k0 a0 a1 x7 x8 t16 t19 t21 t23 k0 t23.Lo t23.Hi 1).bind fun (j26 : Int × Int) =>
      if x7.length < 1000000 then
       some ((x7 ++ [(⟨j26.1, j26.2⟩ : qa)]))
      else none
     else none
    else none
   else none).bind fun (j12 : List qa) =>
   qW.l9 k0 a0 a1 k j12 (qe (x8 + 1))
  else
   some (x7)
def qW (k0 : Nat) (a0 : List (List qa)) (a1 : List qa) : Option (List qa) :=
 (qW.l9 k0 a0 a1 k0 ([] : List qa) 0).bind fun (j4 : List qa) =>
 some j4
def qM.l22 (k0 : Nat) (a0 : List (List qa)) (x7 : List (List qa)) (x8 : Int) : Nat → (List qa) → Int → Option (List qa)
 | 0, _, _ => none
 | k + 1, x20, x21 =>
  if (decide (x21 < (a0.length : Int))) = true then
   if 0 ≤ x21 ∧ x21 < (a0.length : Int) then
    (a0[x21.toNat]?).bind fun t26 =>
    if 0 ≤ x8 ∧ x8 < (t26.length : Int) then
     (t26[x8.toNat]?).bind fun t28 =>
     if x20.length < 1000000 then
      qM.l22 k0 a0 x7 x8 k (x20 ++ [t28]) (qe (x21 + 1))
     else none
    else none
   else none
  else
   some (x20)
def qM.l9 (k0 : Nat) (a0 : List (List qa)) : Nat → (List (List qa)) → Int → Option (List (List qa))
 | 0, _, _ => none
 | k + 1, x7, x8 =>
  if (decide (x8 < (a0.length : Int))) = true then
   ((qM.l22 k0 a0 x7 x8 k0 ([] : List qa) 0).bind fun (j16 : List qa) =>
   if x7.length < 1000000 then
    some ((x7 ++ [j16]))
   else none).bind fun (j12 : List (List qa)) =>
   qM.l9 k0 a0 k j12 (qe (x8 + 1))
  else
   some (x7)
def qM (k0 : Nat) (a0 : List (List qa)) : Option (List (List qa)) :=
 (qM.l9 k0 a0 k0 ([] : List (List qa)) 0).bind fun (j4 : List (List qa)) =>
 some j4
def Xb.l11 (k0 : Nat) (a0 : List (List qa)) (a1 : List (List qa)) (t3 : List (List qa)) : Nat → (List (List qa)) → Int → Option (List (List qa))
 | 0, _, _ => none
 | k + 1, x9, x10 =>
  if (decide (x10 < (a1.length : Int))) = true then
   if 0 ≤ x10 ∧ x10 < (t3.length : Int) then
    (t3[x10.toNat]?).bind fun t15 =>
    (qW k0 a0 t15).bind fun t16 =>
    if x9.length < 1000000 then
     Xb.l11 k0 a0 a1 t3 k (x9 ++ [t16]) (qe (x10 + 1))
    else none
   else none
  else
   some (x9)
def Xb (k0 : Nat) (a0 : List (List qa)) (a1 : List (List qa)) : Option (List (List qa)) :=
 (qM k0 a1).bind fun t3 =>
 (Xb.l11 k0 a0 a1 t3 k0 ([] : List (List qa)) 0).bind fun (j5 : List (List qa)) =>
 (qM k0 j5).bind fun t7 =>
 some t7
def qL.l22 (k0 : Nat) (a0 : List (List Int)) (x7 : List (List qa)) (x8 : Int) : Nat → (List qa) → Int → Option (List qa)
 | 0, _, _ => none
 | k + 1, x20, x21 =>
  if (decide (x21 < (a0.length : Int))) = true then
   if 0 ≤ x8 ∧ x8 < (a0.length : Int) then
    (a0[x8.toNat]?).bind fun t26 =>
    if 0 ≤ x21 ∧ x21 < (t26.length : Int) then
     (t26[x21.toNat]?).bind fun t28 =>
     (QR t28).bind fun t29 =>
     if x20.length < 1000000 then
      qL.l22 k0 a0 x7 x8 k (x20 ++ [t29]) (qe (x21 + 1))
     else none
    else none
   else none
  else
   some (x20)
def qL.l9 (k0 : Nat) (a0 : List (List Int)) : Nat → (List (List qa)) → Int → Option (List (List qa))
 | 0, _, _ => none
 | k + 1, x7, x8 =>
  if (decide (x8 < (a0.length : Int))) = true then
   ((qL.l22 k0 a0 x7 x8 k0 ([] : List qa) 0).bind fun (j16 : List qa) =>
   if x7.length < 1000000 then
    some ((x7 ++ [j16]))
   else none).bind fun (j12 : List (List qa)) =>
   qL.l9 k0 a0 k j12 (qe (x8 + 1))
  else
   some (x7)
def qL (k0 : Nat) (a0 : List (List Int)) : Option (List (List qa)) :=
 (qL.l9 k0 a0 k0 ([] : List (List qa)) 0).bind fun (j4 : List (List qa)) =>
 some j4
def YB (a0 : qa) : Option (Int) :=
 (QD (qe (a0.Lo + a0.Hi)) 2).bind fun t3 =>
 some t3
def Qs.l22 (k0 : Nat) (a0 : List (List qa)) (x7 : List (List Int)) (x8 : Int) : Nat → (List Int) → Int → Option (List Int)
 | 0, _, _ => none
 | k + 1, x20, x21 =>
  if (decide (x21 < (a0.length : Int))) = true then
   if 0 ≤ x8 ∧ x8 < (a0.length : Int) then
    (a0[x8.toNat]?).bind fun t26 =>
    if 0 ≤ x21 ∧ x21 < (t26.length : Int) then
     (t26[x21.toNat]?).bind fun t28 =>
     (YB t28).bind fun t29 =>
     if x20.length < 1000000 then
      Qs.l22 k0 a0 x7 x8 k (x20 ++ [t29]) (qe (x21 + 1))
     else none
    else none
   else none
  else
   some (x20)
def Qs.l9 (k0 : Nat) (a0 : List (List qa)) : Nat → (List (List Int)) → Int → Option (List (List Int))
 | 0, _, _ => none
 | k + 1, x7, x8 =>
  if (decide (x8 < (a0.length : Int))) = true then
   ((Qs.l22 k0 a0 x7 x8 k0 ([] : List Int) 0).bind fun (j16 : List Int) =>
   if x7.length < 1000000 then
    some ((x7 ++ [j16]))
   else none).bind fun (j12 : List (List Int)) =>
   Qs.l9 k0 a0 k j12 (qe (x8 + 1))
  else
   some (x7)
def Qs (k0 : Nat) (a0 : List (List qa)) : Option (List (List Int)) :=
 (Qs.l9 k0 a0 k0 ([] : List (List Int)) 0).bind fun (j4 : List (List Int)) =>
 some j4
def XS (a0 : Int) (a1 : Int) : Option (Int) :=
 if a1 ≠ 0 then
  (if a1 ≠ 0 then
   if (((Int.tmod a0 a1) != 0) && (!((decide (a0 < 0)) == (decide (a1 < 0))))) = true then
    some (qe ((qe (Int.tdiv a0 a1)) - 1))
   else
    some (qe (Int.tdiv a0 a1))
  else none).bind fun (j5 : Int) =>
  some j5
 else none
def qr.l21 (k0 : Nat) (a0 : List Int) (a1 : List (List Int)) (x8 : List Int) (x9 : Int) (j17 : Int) : Nat → (List Int) → Int → Option (List Int)
 | 0, _, _ => none
 | k + 1, x19, x20 =>
  if (decide (x20 < (x19.length : Int))) = true then
   if 0 ≤ x20 ∧ x20 < (x19.length : Int) then
    (x19[x20.toNat]?).bind fun t25 =>
    if 0 ≤ x9 ∧ x9 < (a1.length : Int) then
     (a1[x9.toNat]?).bind fun t28 =>
     if 0 ≤ x20 ∧ x20 < (t28.length : Int) then
      (t28[x20.toNat]?).bind fun t31 =>
      (XS (qe (j17 * t31)) 65536).bind fun t32 =>
      if 0 ≤ x20 ∧ x20 < (x19.length : Int) then
       (x19[x20.toNat]?).bind fun t34 =>
       qr.l21 k0 a0 a1 x8 x9 j17 k (x19.set x20.toNat (qe (t25 - t32))) (qe (x20 + 1))
      else none
     else none
    else none
   else none
  else
   some (x19)
def qr.l40 (k0 : Nat) (a0 : List Int) (a1 : List (List Int)) (x8 : List Int) (x9 : Int) : Nat → Int → Int → Option (Int)
 | 0, _, _ => none
 | k + 1, x38, x39 =>
  if (decide (x39 < (x8.length : Int))) = true then
   if 0 ≤ x39 ∧ x39 < (x8.length : Int) then
    (x8[x39.toNat]?).bind fun t44 =>
    if 0 ≤ x9 ∧ x9 < (a1.length : Int) then
     (a1[x9.toNat]?).bind fun t47 =>
     if 0 ≤ x39 ∧ x39 < (t47.length : Int) then
      (t47[x39.toNat]?).bind fun t50 =>
      (XS (qe (t44 * t50)) 65536).bind fun t51 =>
      qr.l40 k0 a0 a1 x8 x9 k (qe (x38 + t51)) (qe (x39 + 1))
     else none
    else none
   else none
  else
   some (x38)
def qr.l10 (k0 : Nat) (a0 : List Int) (a1 : List (List Int)) : Nat → (List Int) → Int → Option (List Int)
 | 0, _, _ => none
 | k + 1, x8, x9 =>
  if (decide (x9 < (a1.length : Int))) = true then
   ((qr.l40 k0 a0 a1 x8 x9 k0 0 0).bind fun (j17 : Int) =>
   qr.l21 k0 a0 a1 x8 x9 j17 k0 x8 0).bind fun (j13 : List Int) =>
   qr.l10 k0 a0 a1 k j13 (qe (x9 + 1))
  else
   some (x8)
def qr (k0 : Nat) (a0 : List Int) (a1 : List (List Int)) : Option (List Int) :=
 if a0.length < 1000000 ∧ ([] : List Int).length < 1000000 then
  (qr.l10 k0 a0 a1 k0 (([] : List Int) ++ a0) 0).bind fun (j5 : List Int) =>
  some j5
 else none
def qU.l11 (k0 : Nat) (a0 : List Int) (j4 : Int) : Nat → Int → Int → Option (Int)
 | 0, _, _ => none
 | k + 1, x9, x10 =>
  if (decide (x9 < x10)) = true then
   (some (qe ((qe (Int.tdiv (qe ((qe (x9 + x10)) + 1)) 2)) * (qe (Int.tdiv (qe ((qe (x9 + x10)) + 1)) 2))))).bind fun z15 =>
   if (decide (z15 ≤ j4)) = true then
    qU.l11 k0 a0 j4 k (qe (Int.tdiv (qe ((qe (x9 + x10)) + 1)) 2)) x10
   else
    qU.l11 k0 a0 j4 k x9 (qe ((qe (Int.tdiv (qe ((qe (x9 + x10)) + 1)) 2)) - 1))
  else
   some (x9)
def qU.l23 (k0 : Nat) (a0 : List Int) : Nat → Int → Int → Option (Int)
 | 0, _, _ => none
 | k + 1, x21, x22 =>
  if (decide (x22 < (a0.length : Int))) = true then
   if 0 ≤ x22 ∧ x22 < (a0.length : Int) then
    (a0[x22.toNat]?).bind fun t27 =>
    if 0 ≤ x22 ∧ x22 < (a0.length : Int) then
     (a0[x22.toNat]?).bind fun t30 =>
     qU.l23 k0 a0 k (qe (x21 + (qe (t27 * t30)))) (qe (x22 + 1))
    else none
   else none
  else
   some (x21)
def qU (k0 : Nat) (a0 : List Int) : Option (Int) :=
 (qU.l23 k0 a0 k0 0 0).bind fun (j4 : Int) =>
 (qU.l11 k0 a0 j4 k0 0 2147483648).bind fun (j7 : Int) =>
 some j7
def qF.l30 (k0 : Nat) (a0 : List Int) (a1 : List (List Int)) (x6 : List Int) (x7 : Int) (j16 : List Int × Int) (t18 : List Int) (t19 : List Int) (t20 : List Int) (t22 : Int) : Nat → (List Int) → Int → Option (List Int)
 | 0, _, _ => none
 | k + 1, x28, x29 =>
  if (decide (x29 < (x28.length : Int))) = true then
   if 0 ≤ x29 ∧ x29 < (x28.length : Int) then
    (x28[x29.toNat]?).bind fun t34 =>
    (XS (qe (t34 * 65536)) t22).bind fun t35 =>
    if 0 ≤ x29 ∧ x29 < (x28.length : Int) then
     (x28[x29.toNat]?).bind fun t37 =>
     qF.l30 k0 a0 a1 x6 x7 j16 t18 t19 t20 t22 k (x28.set x29.toNat t35) (qe (x29 + 1))
    else none
   else none
  else
   some (x28)
def qF.l8 (k0 : Nat) (a0 : List Int) (a1 : List (List Int)) : Nat → (List Int) → Int → Option ((List Int) ⊕ (List Int))
 | 0, _, _ => none
 | k + 1, x6, x7 =>
  if (decide (x7 < (x6.length : Int))) = true then
   ((if (decide (x7 ≥ 0)) = true then
    if 0 ≤ (x6.length : Int) ∧ (x6.length : Int) < 1000000 then
     if 0 ≤ x7 ∧ x7 < ((List.replicate (x6.length : Int).toNat (0 : Int)).length : Int) then
      ((List.replicate (x6.length : Int).toNat (0 : Int))[x7.toNat]?).bind fun t46 =>
      some (((List.replicate (x6.length : Int).toNat (0 : Int)).set x7.toNat 65536), 16384)
     else none
    else none
   else
    some (x6, 4096)).bind fun (j16 : List Int × Int) =>
   (qr k0 j16.1 a1).bind fun t18 =>
   (qr k0 t18 a1).bind fun t19 =>
   (qr k0 t19 a1).bind fun t20 =>
   (qU k0 t20).bind fun t22 =>
   if (decide (t22 < j16.2)) = true then
    some (.inr (j16.1))
   else
    (qF.l30 k0 a0 a1 x6 x7 j16 t18 t19 t20 t22 k0 t20 0).bind fun (j25 : List Int) =>
    some (.inl (.inl j25)) : Option (((List Int) ⊕ (List Int)) ⊕ (List Int))).bind fun j11 => match j11 with
   | .inl r => some r
   | .inr j11v =>
    qF.l8 k0 a0 a1 k j11v (qe (x7 + 1))
  else
   some (.inr (x6))
def qF (k0 : Nat) (a0 : List Int) (a1 : List (List Int)) : Option (List Int) :=
 (qF.l8 k0 a0 a1 k0 a0 (-1) : Option ((List Int) ⊕ (List Int))).bind fun j3 => match j3 with
 | .inl r => some r
 | .inr j3v =>
  some j3v
def Qy.l9 (k0 : Nat) (a0 : List (List Int)) (a1 : Int) : Nat → (List Int) → Int → Option (List Int)
 | 0, _, _ => none
 | k + 1, x7, x8 =>
  if (decide (x8 < (a0.length : Int))) = true then
   if 0 ≤ x8 ∧ x8 < (a0.length : Int) then
    (a0[x8.toNat]?).bind fun t13 =>
    if 0 ≤ a1 ∧ a1 < (t13.length : Int) then
     (t13[a1.toNat]?).bind fun t15 =>
     if x7.length < 1000000 then
      Qy.l9 k0 a0 a1 k (x7 ++ [t15]) (qe (x8 + 1))
     else none
    else none
   else none
  else
   some (x7)
def Qy (k0 : Nat) (a0 : List (List Int)) (a1 : Int) : Option (List Int) :=
 (Qy.l9 k0 a0 a1 k0 ([] : List Int) 0).bind fun (j4 : List Int) =>
 some j4
def qK.l11 (k0 : Nat) (a0 : List (List Int)) (j4 : List (List Int)) : Nat → (List (List Int)) → Int → Option (List (List Int))
 | 0, _, _ => none
 | k + 1, x9, x10 =>
  if (decide (x10 < (a0.length : Int))) = true then
   (Qy k0 j4 x10).bind fun t14 =>
   if x9.length < 1000000 then
    qK.l11 k0 a0 j4 k (x9 ++ [t14]) (qe (x10 + 1))
   else none
  else
   some (x9)
def qK.l21 (k0 : Nat) (a0 : List (List Int)) : Nat → (List (List Int)) → Int → Option (List (List Int))
 | 0, _, _ => none
 | k + 1, x19, x20 =>
  if (decide (x20 < (a0.length : Int))) = true then
   (Qy k0 a0 x20).bind fun t24 =>
   (qF k0 t24 x19).bind fun t25 =>
   if x19.length < 1000000 then
    qK.l21 k0 a0 k (x19 ++ [t25]) (qe (x20 + 1))
   else none
  else
   some (x19)
def qK (k0 : Nat) (a0 : List (List Int)) : Option (List (List Int)) :=
 (qK.l21 k0 a0 k0 ([] : List (List Int)) 0).bind fun (j4 : List (List Int)) =>
 (qK.l11 k0 a0 j4 k0 ([] : List (List Int)) 0).bind fun (j6 : List (List Int)) =>
 some j6
def QL (k0 : Nat) (a0 : Zp) (a1 : List (List qa)) (a2 : List Int) : Option (Bool) :=
 (Yy k0).bind fun t3 =>
 (if ((decide ((a1.length : Int) ≤ 8)) == true) = true then Xd k0 a1 else some default).bind fun t5 =>
 (if ((decide ((a1.length : Int) ≤ 8)) == true) = true then qX k0 a1 else some default).bind fun t6 =>
 if ((decide ((a1.length : Int) ≤ 8)) && (!(t5 == t6))) = true then
  some false
 else
  (Yu k0 (⟨a0.A, a0.B, a0.X, a0.N⟩ : Zp)).bind fun t9 =>
  (XY a0.N).bind fun t11 =>
  (qO k0 a2 t11).bind fun t12 =>
  (qw k0 t9.1).bind fun t14 =>
  (qm k0 t9.1).bind fun t16 =>
  (Zk k0 t9.1 t9.2.1).bind fun t18 =>
  (Xb k0 t9.1 t9.2.1).bind fun t19 =>
  (qz k0 t18 t19).bind fun t20 =>
  if t20 = true then
   (XA k0 t9.1 t9.2.2).bind fun t22 =>
   (qW k0 t9.1 t9.2.2).bind fun t23 =>
   (QI k0 t22 t23).bind fun t24 =>
   if t24 = true then
    (Yq k0 t9.1).bind fun t26 =>
    (qM k0 t9.1).bind fun t27 =>
    (qz k0 t26 t27).bind fun t28 =>
    if t28 = true then
     (Zj k0 t9.1).bind fun t30 =>
     (QJ k0 t30).bind fun t31 =>
     (Qs k0 t9.1).bind fun t32 =>
     (qL k0 t32).bind fun t33 =>
     (qz k0 t31 t33).bind fun t34 =>
     if t34 = true then
      (qt k0 t12).bind fun t36 =>
      (QJ k0 t36).bind fun t37 =>
      (qK k0 t12).bind fun t38 =>
      (qL k0 t38).bind fun t39 =>
      (qz k0 t37 t39).bind fun t40 =>
      (if (t40 == true) = true then qz k0 t14.1 t16.1 else some default).bind fun t41 =>
      if ((t40 && t41) && (t14.2 == t16.2)) = true then
       (Xp k0 (qe a0.N)).bind fun t43 =>
       (qZ k0 (qe a0.N)).bind fun t44 =>
       (qz k0 t43 t44).bind fun t45 =>
       some (t45 && t3)
      else none
     else none
    else none
   else none
  else none
def QL.Pure : Prop :=
 ∀ (c0_0 : List qa) (c0_1 : List qa) (c0_2 : List qa) (c0_3 : Int) (c1_0 : List (List qa)) (c2_0 : List Int), (∀ y ∈ c0_0, ((-9223372036854775808) ≤ y.Lo ∧ y.Lo ≤ 9223372036854775807) ∧ ((-9223372036854775808) ≤ y.Hi ∧ y.Hi ≤ 9223372036854775807)) → (∀ y ∈ c0_1, ((-9223372036854775808) ≤ y.Lo ∧ y.Lo ≤ 9223372036854775807) ∧ ((-9223372036854775808) ≤ y.Hi ∧ y.Hi ≤ 9223372036854775807)) → (∀ y ∈ c0_2, ((-9223372036854775808) ≤ y.Lo ∧ y.Lo ≤ 9223372036854775807) ∧ ((-9223372036854775808) ≤ y.Hi ∧ y.Hi ≤ 9223372036854775807)) → (0 ≤ c0_3 ∧ c0_3 ≤ 255) → (∀ x ∈ c1_0, ∀ y ∈ x, ((-9223372036854775808) ≤ y.Lo ∧ y.Lo ≤ 9223372036854775807) ∧ ((-9223372036854775808) ≤ y.Hi ∧ y.Hi ≤ 9223372036854775807)) → (∀ y ∈ c2_0, ((-9223372036854775808) ≤ y ∧ y ≤ 9223372036854775807)) → ∃ k0 : Nat, QL k0 (⟨c0_0, c0_1, c0_2, c0_3⟩ : Zp) c1_0 c2_0 = some true
end Go.Proofs.YtglcmhldonkfdaaGreatDoor
