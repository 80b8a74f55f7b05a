/- The program's functions as plain Lean functions, printed out of the program by a program of this session. -/
import GoSem.Core.View
import Derived.Test.YtpmgpcklieincaaGreatDoorSxAll0
set_option linter.unusedVariables false
namespace Go.Proofs.YtpmgpcklieincaaGreatDoor
open Go.Sx
abbrev qc (n:Int):Int:=Go.IntKind.wrap .i64 n
abbrev Ja (n:Int):Int:=Go.IntKind.wrap .u64 n
abbrev Wq (n:Int):Int:=Go.IntKind.wrap .u8 n
abbrev mn (x y:Int):Int:=if y<x then y else x
abbrev mx (x y:Int):Int:=if y > x then y else x
def QW (k:Go.IntKind) (x y:Int):Int:=k.wrap ((BitVec.ofInt k.bits x) &&& (BitVec.ofInt k.bits y)).toNat
def qay (s:ByteArray) (i:Int):Option Int:=if h:0≤i∧i<s.size then some ((s[i.toNat]'(by omega)).toNat:Int) else none
structure qb where
 Lo:Int
 Hi:Int
deriving Inhabited,DecidableEq
structure qH where
 Order:Int
 First:Int
 Least:Int
 Most:Int
 Wide:Int
deriving Inhabited,DecidableEq
structure qh where
 Op:Int
 A:Int
 B:Int
 C:qb
deriving Inhabited,DecidableEq
structure QE where
 N:Int
 L:List qh
 Out:List Int
deriving Inhabited,DecidableEq
structure Q6 where
 T:Int
 H:Int
deriving Inhabited,DecidableEq
structure Zu where
 Ctrl:qH
 T:Int
 Last:Int
deriving Inhabited,DecidableEq
structure JM where
 T:Int
 H:Int
 Part:qb
 Order:Int
deriving Inhabited,DecidableEq
structure Qc where
 T:Int
 H:Int
 From:List qb
 Pre:List qb
 Tube:List qb
 To:List qb
deriving Inhabited,DecidableEq
structure Z5 where
 Ctrl:qH
 T:Int
 Last:Int
 H:Int
deriving Inhabited,DecidableEq
structure qu where
 Op:Int
 N:Int
 C:qb
deriving Inhabited,DecidableEq
structure YF where
 Names:List ByteArray
 F:List (List qu)
deriving Inhabited,DecidableEq
structure X1 where
 raw:List qu
 n:Int
deriving Inhabited,DecidableEq
structure X4 where
 L:List (List qu)
 X:List qb
 T:qb
 G:Q6
 N:Int
 K:Int
 S:List Int
deriving Inhabited,DecidableEq
def X9 (a0:Int):Option (qH) :=
 some (⟨qc (1+(qc (Int.tmod a0 3))),4096,1024,16384,16777216⟩:qH)
def Q0 (a0:Int) (a1:Int) (a2:Int):Option (Zu) :=
 (X9 a0).bind fun t4 =>
 (some (qc ((qc ((qc a1) * 65536))+(qc ((qc (1+(qc (Int.tmod a2 64)))) * 4096))))).bind fun z5 =>
 some (⟨t4,qc ((qc a1) * 65536),z5⟩:Zu)
def Zd (a0:qH):Option (Bool) :=
 (some (((decide (1≤a0.Least)) && (decide (a0.Least≤a0.First))) && (decide (a0.First≤a0.Most)))).bind fun z3 =>
 (some (((decide (a0.Order ≥ 1)) && (decide (a0.Order<8))) && (z3 && (decide (a0.Most<2147483648))))).bind fun z5 =>
 some ((z5 && (decide (a0.Wide ≥ 1))) && (decide (a0.Wide<2147483648)))
def YM (a0:Int):Option (Bool) :=
 some ((decide ((-2147483648)<a0)) && (decide (a0<2147483648)))
def Y9 (a0:qH) (a1:Int):Option (Int) :=
 some (mn a0.First a1)
def YP (a0:qH) (a1:Int):Option (Int × Int) :=
 if (decide ((qc (Int.tdiv a1 2))<a0.Least))=true then
  some (0,130)
 else
  some (qc (Int.tdiv a1 2),0)
def QT:Option (qb) :=
 some (⟨(-2147483648),2147483648⟩:qb)
def qI (a0:Int) (a1:Int):Option (qb) :=
 (some (((decide (a0≤(-2147483648))) || (decide (a1 ≥ 2147483648))) || (decide (a0 ≥ 2147483648)))).bind fun z3 =>
 if (z3 || (decide (a1≤(-2147483648))))=true then
  (QT).bind fun t5 =>
  some t5
 else
  some (⟨a0,a1⟩:qb)
def qV (a0:qb):Option (Bool) :=
 (QT).bind fun t3 =>
 some ((a0.Lo == t3.Lo) && ((a0.Hi == t3.Hi) && true))
def QU (a0:qb) (a1:qb):Option (qb) :=
 (qV a0).bind fun t3 =>
 (if (t3 == false)=true then qV a1 else some default).bind fun t4 =>
 if (t3 || t4)=true then
  (QT).bind fun t6 =>
  some t6
 else
  (qI (qc (a0.Lo+a1.Lo)) (qc (a0.Hi+a1.Hi))).bind fun t8 =>
  some t8
def Zl (a0:Int):Option (Int) :=
 some (mn a0 1)
def Xy (a0:Int) (a1:Int):Option (Int × Int) :=
 if a1≠0 then
  if a1≠0 then
   (if (decide ((Int.tmod a0 a1)<0))=true then
    some (qc ((qc (Int.tdiv a0 a1)) - 1),qc ((Int.tmod a0 a1)+a1))
   else
    some (qc (Int.tdiv a0 a1),Int.tmod a0 a1)).bind fun (j7:Int × Int) =>
   (Zl j7.2).bind fun t9 =>
   some (j7.1,qc (j7.1+t9))
  else none
 else none
def Ya (a0:Int) (a1:Int):Option (Int × Int) :=
 (if (decide (a1<0))=true then
  some (qc (0 - a0),qc (0 - a1))
 else
  some (a0,a1)).bind fun (j4:Int × Int) =>
 (Xy j4.1 j4.2).bind fun t6 =>
 some (t6.1,t6.2)
def Qq (a0:Int) (a1:Int):Option (Int × Int) :=
 (Ya (qc (a0 * a1)) 65536).bind fun t3 =>
 some (t3.1,t3.2)
def Zp (a0:qb):Option (Int) :=
 some (mx a0.Hi (qc (0 - a0.Lo)))
def Xz (a0:qb):Option (qb) :=
 (qV a0).bind fun t3 =>
 if t3=true then
  some a0
 else
  (Zp a0).bind fun t6 =>
  (Qq (mx (mx a0.Lo (qc (0 - a0.Hi))) 0) (mx (mx a0.Lo (qc (0 - a0.Hi))) 0)).bind fun t8 =>
  (Qq t6 t6).bind fun t10 =>
  (qI t8.1 t10.2).bind fun t12 =>
  some t12
def XQ (a0:qb):Option (qb) :=
 some (⟨qc (0 - a0.Hi),qc (0 - a0.Lo)⟩:qb)
def Xj (a0:qb) (a1:qb):Option (qb) :=
 (XQ a1).bind fun t3 =>
 (QU a0 t3).bind fun t4 =>
 some t4
def Xw (a0:qb):Option (Int) :=
 if (decide (a0.Hi≤0))=true then
  some 0
 else
  if (decide (a0.Lo ≥ 0))=true then
   some 2
  else
   some 1
def Xr (a0:qb) (a1:qb):Option (Int × Int) :=
 some (a0.Hi,a1.Hi)
def Xt (a0:qb) (a1:qb):Option (Int × Int) :=
 some (a0.Lo,a1.Lo)
def Xs (a0:qb) (a1:qb):Option (Int × Int) :=
 some (a0.Lo,a1.Hi)
def Xu (a0:qb) (a1:qb):Option (Int × Int) :=
 some (a0.Hi,a1.Lo)
def Q9 (a0:qb) (a1:qb):Option (qb) :=
 (qV a0).bind fun t3 =>
 (if (t3 == false)=true then qV a1 else some default).bind fun t4 =>
 if (t3 || t4)=true then
  (QT).bind fun t6 =>
  some t6
 else
  (Xw a0).bind fun t8 =>
  (Xw a1).bind fun t9 =>
  if ((t8 == 1) && (t9 == 1))=true then
   (Qq a0.Lo a1.Hi).bind fun t12 =>
   (Qq a0.Hi a1.Lo).bind fun t14 =>
   (Qq a0.Lo a1.Lo).bind fun t16 =>
   (Qq a0.Hi a1.Hi).bind fun t18 =>
   (qI (mn t12.1 t14.1) (mx t16.2 t18.2)).bind fun t20 =>
   some t20
  else
   if t8=0 then
    if t9=0 then
     (Xr a0 a1).bind fun t23 =>
     (Qq t23.1 t23.2).bind fun t24 =>
     (Xt a0 a1).bind fun t26 =>
     (Qq t26.1 t26.2).bind fun t27 =>
     (qI t24.1 t27.2).bind fun t29 =>
     some t29
    else
    if t9=1 then
     (Xs a0 a1).bind fun t32 =>
     (Qq t32.1 t32.2).bind fun t33 =>
     (Xt a0 a1).bind fun t35 =>
     (Qq t35.1 t35.2).bind fun t36 =>
     (qI t33.1 t36.2).bind fun t38 =>
     some t38
    else
    if t9=2 then
     (Xs a0 a1).bind fun t41 =>
     (Qq t41.1 t41.2).bind fun t42 =>
     (Xu a0 a1).bind fun t44 =>
     (Qq t44.1 t44.2).bind fun t45 =>
     (qI t42.1 t45.2).bind fun t47 =>
     some t47
    else
    none
   else
   if t8=1 then
    if t9=0 then
     (Xu a0 a1).bind fun t53 =>
     (Qq t53.1 t53.2).bind fun t54 =>
     (Xt a0 a1).bind fun t56 =>
     (Qq t56.1 t56.2).bind fun t57 =>
     (qI t54.1 t57.2).bind fun t59 =>
     some t59
    else
    if t9=1 then
     none
    else
    if t9=2 then
     (Xs a0 a1).bind fun t63 =>
     (Qq t63.1 t63.2).bind fun t64 =>
     (Xr a0 a1).bind fun t66 =>
     (Qq t66.1 t66.2).bind fun t67 =>
     (qI t64.1 t67.2).bind fun t69 =>
     some t69
    else
    none
   else
   if t8=2 then
    if t9=0 then
     (Xu a0 a1).bind fun t75 =>
     (Qq t75.1 t75.2).bind fun t76 =>
     (Xs a0 a1).bind fun t78 =>
     (Qq t78.1 t78.2).bind fun t79 =>
     (qI t76.1 t79.2).bind fun t81 =>
     some t81
    else
    if t9=1 then
     (Xu a0 a1).bind fun t84 =>
     (Qq t84.1 t84.2).bind fun t85 =>
     (Xr a0 a1).bind fun t87 =>
     (Qq t87.1 t87.2).bind fun t88 =>
     (qI t85.1 t88.2).bind fun t90 =>
     some t90
    else
    if t9=2 then
     (Xt a0 a1).bind fun t93 =>
     (Qq t93.1 t93.2).bind fun t94 =>
     (Xr a0 a1).bind fun t96 =>
     (Qq t96.1 t96.2).bind fun t97 =>
     (qI t94.1 t97.2).bind fun t99 =>
     some t99
    else
    none
   else
   none
def Yg (a0:qb) (a1:Int):Option (Bool) :=
 (qV a0).bind fun t3 =>
 some (t3 || ((decide (a0.Lo≤a1)) && (decide (a1≤a0.Hi))))
def Q4 (a0:Bool) (a1:Int) (a2:Int):Option (Int) :=
 if a0=true then
  some a1
 else
  some a2
def Q5 (a0:Int) (a1:Int):Option (Int × Int × Int) :=
 if (a1 == 0)=true then
  some (0,0,3)
 else
  (Ya (qc (a0 * 65536)) a1).bind fun t5 =>
  some (t5.1,t5.2,0)
def QY (a0:qb) (a1:qb):Option (qb) :=
 (qV a0).bind fun t3 =>
 (if (t3 == false)=true then qV a1 else some default).bind fun t4 =>
 (if ((t3 || t4) == false)=true then Yg a1 0 else some default).bind fun t5 =>
 if ((t3 || t4) || t5)=true then
  (QT).bind fun t7 =>
  some t7
 else
  (Xw a0).bind fun t9 =>
  if t9=0 then
   (Q4 (decide (a1.Lo > 0)) 1 0).bind fun t10 =>
   if t10=0 then
    (Xu a0 a1).bind fun t12 =>
    (Q5 t12.1 t12.2).bind fun t13 =>
    (Xs a0 a1).bind fun t15 =>
    (Q5 t15.1 t15.2).bind fun t16 =>
    (qI t13.1 t16.2.1).bind fun t18 =>
    some t18
   else
   if t10=1 then
    (Xt a0 a1).bind fun t12 =>
    (Q5 t12.1 t12.2).bind fun t13 =>
    (Xr a0 a1).bind fun t15 =>
    (Q5 t15.1 t15.2).bind fun t16 =>
    (qI t13.1 t16.2.1).bind fun t18 =>
    some t18
   else
   none
  else
  if t9=1 then
   (Q4 (decide (a1.Lo > 0)) 1 0).bind fun t10 =>
   if t10=0 then
    (Xr a0 a1).bind fun t12 =>
    (Q5 t12.1 t12.2).bind fun t13 =>
    (Xs a0 a1).bind fun t15 =>
    (Q5 t15.1 t15.2).bind fun t16 =>
    (qI t13.1 t16.2.1).bind fun t18 =>
    some t18
   else
   if t10=1 then
    (Xt a0 a1).bind fun t12 =>
    (Q5 t12.1 t12.2).bind fun t13 =>
    (Xu a0 a1).bind fun t15 =>
    (Q5 t15.1 t15.2).bind fun t16 =>
    (qI t13.1 t16.2.1).bind fun t18 =>
    some t18
   else
   none
  else
  if t9=2 then
   (Q4 (decide (a1.Lo > 0)) 1 0).bind fun t10 =>
   if t10=0 then
    (Xr a0 a1).bind fun t12 =>
    (Q5 t12.1 t12.2).bind fun t13 =>
    (Xt a0 a1).bind fun t15 =>
    (Q5 t15.1 t15.2).bind fun t16 =>
    (qI t13.1 t16.2.1).bind fun t18 =>
    some t18
   else
   if t10=1 then
    (Xs a0 a1).bind fun t12 =>
    (Q5 t12.1 t12.2).bind fun t13 =>
    (Xu a0 a1).bind fun t15 =>
    (Q5 t15.1 t15.2).bind fun t16 =>
    (qI t13.1 t16.2.1).bind fun t18 =>
    some t18
   else
   none
  else
  none
def ZU (a0:Int):Option (Int) :=
 (if (decide (a0 ≥ 4294967296))=true then
  some (Int.fdiv a0 4294967296,32)
 else
  some (a0,0)).bind fun (j4:Int × Int) =>
 (if (decide (j4.1 ≥ 65536))=true then
  some (Int.fdiv j4.1 65536,qc (j4.2+16))
 else
  some (j4.1,j4.2)).bind fun (j7:Int × Int) =>
 (if (decide (j7.1 ≥ 256))=true then
  some (Int.fdiv j7.1 256,qc (j7.2+8))
 else
  some (j7.1,j7.2)).bind fun (j10:Int × Int) =>
 (qay (⟨#[0,1,2,2,3,3,3,3,4,4,4,4,4,4,4,4,5,5,5,5,5,5,5,5,5,5,5,5,5,5,5,5,6,6,6,6,6,6,6,6,6,6,6,6,6,6,6,6,6,6,6,6,6,6,6,6,6,6,6,6,6,6,6,6,7,7,7,7,7,7,7,7,7,7,7,7,7,7,7,7,7,7,7,7,7,7,7,7,7,7,7,7,7,7,7,7,7,7,7,7,7,7,7,7,7,7,7,7,7,7,7,7,7,7,7,7,7,7,7,7,7,7,7,7,7,7,7,7,8,8,8,8,8,8,8,8,8,8,8,8,8,8,8,8,8,8,8,8,8,8,8,8,8,8,8,8,8,8,8,8,8,8,8,8,8,8,8,8,8,8,8,8,8,8,8,8,8,8,8,8,8,8,8,8,8,8,8,8,8,8,8,8,8,8,8,8,8,8,8,8,8,8,8,8,8,8,8,8,8,8,8,8,8,8,8,8,8,8,8,8,8,8,8,8,8,8,8,8,8,8,8,8,8,8,8,8,8,8,8,8,8,8,8,8,8,8,8,8,8,8,8,8,8,8,8,8]⟩:ByteArray) (Wq j10.1)).bind fun t12 =>
 some (qc (j10.2+(qc t12)))
def X3.l17 (k0:Nat) (a0:Int) (t8:Int):Nat→Int→Option (Int)
 | 0,_=>none
 | k+1,x16 =>
  if x16≠0 then
   (some (decide ((qc (Int.tdiv (qc (x16+(qc (Int.tdiv (qc (a0 * 65536)) x16)))) 2)) ≥ x16))).bind fun z21 =>
   if z21=true then
    some (x16)
   else
    X3.l17 k0 a0 t8 k (qc (Int.tdiv (qc (x16+(qc (Int.tdiv (qc (a0 * 65536)) x16)))) 2))
  else none
def X3 (k0:Nat) (a0:Int):Option (Int × Int × Int) :=
 if (decide (a0<0))=true then
  some (0,0,4)
 else
  if ((qc (a0 * 65536)) == 0)=true then
   some (0,0,0)
  else
   (ZU (Ja (qc (a0 * 65536)))).bind fun t8 =>
   if 0≤(qc (Int.tdiv (qc (t8+1)) 2)) then
    (X3.l17 k0 a0 t8 k0 (qc (1 * 2 ^ (min (qc (Int.tdiv (qc (t8+1)) 2)).toNat 64)))).bind fun (j11:Int) =>
    if (decide ((qc (j11 * j11))<(qc (a0 * 65536))))=true then
     some (j11,qc (j11+1),0)
    else
     some (j11,j11,0)
   else none
def Xe (k0:Nat) (a0:qb):Option (qb × Bool) :=
 (qV a0).bind fun t3 =>
 if t3=true then
  some (a0,true)
 else
  if (decide (a0.Hi<0))=true then
   some ((⟨0,0⟩:qb),false)
  else
   (X3 k0 (mx a0.Lo 0)).bind fun t8 =>
   (X3 k0 a0.Hi).bind fun t10 =>
   (qI t8.1 t10.2.1).bind fun t12 =>
   some (t12,true)
def Jc (k0:Nat) (a0:qb):Option (qb) :=
 if (decide (a0.Lo<0))=true then
  (QT).bind fun t4 =>
  some t4
 else
  (Xe k0 a0).bind fun t6 =>
  some (⟨t6.1.Lo,t6.1.Hi⟩:qb)
def QP.l14 (k0:Nat) (a0:QE) (a1:List qb) (a2:qb) (j5:List qb):Nat→(List qb)→Int→Option (List qb)
 | 0,_,_=>none
 | k+1,x12,x13 =>
  if (decide (x13<(a0.Out.length:Int)))=true then
   if 0≤x13∧x13<(a0.Out.length:Int) then
    (a0.Out[x13.toNat]?).bind fun t18 =>
    if 0≤t18∧t18<(j5.length:Int) then
     (j5[t18.toNat]?).bind fun t21 =>
     if 0≤x13∧x13<(x12.length:Int) then
      (x12[x13.toNat]?).bind fun t23 =>
      QP.l14 k0 a0 a1 a2 j5 k (x12.set x13.toNat t21) (qc (x13+1))
     else none
    else none
   else none
  else
   some (x12)
def QP.l29 (k0:Nat) (a0:QE) (a1:List qb) (a2:qb):Nat→(List qb)→Int→Option (List qb)
 | 0,_,_=>none
 | k+1,x27,x28 =>
  if (decide (x28<(a0.L.length:Int)))=true then
   (if 0≤x28∧x28<(a0.L.length:Int) then
    (a0.L[x28.toNat]?).bind fun t36 =>
    (some t36.Op).bind fun z37 =>
    if z37=0 then
     none
    else
    if z37=1 then
     if 0≤x28∧x28<(x27.length:Int) then
      (x27[x28.toNat]?).bind fun t47 =>
      some ((x27.set x28.toNat (⟨t36.C.Lo,t36.C.Hi⟩:qb)))
     else none
    else
    if z37=2 then
     if 0≤t36.A∧t36.A<(a1.length:Int) then
      (a1[t36.A.toNat]?).bind fun t53 =>
      if 0≤x28∧x28<(x27.length:Int) then
       (x27[x28.toNat]?).bind fun t55 =>
       some ((x27.set x28.toNat t53))
      else none
     else none
    else
    if z37=3 then
     if 0≤x28∧x28<(x27.length:Int) then
      (x27[x28.toNat]?).bind fun t62 =>
      some ((x27.set x28.toNat a2))
     else none
    else
    if z37=4 then
     if 0≤t36.A∧t36.A<(x27.length:Int) then
      (x27[t36.A.toNat]?).bind fun t70 =>
      (XQ t70).bind fun t72 =>
      if 0≤x28∧x28<(x27.length:Int) then
       (x27[x28.toNat]?).bind fun t74 =>
       some ((x27.set x28.toNat t72))
      else none
     else none
    else
    if z37=5 then
     if 0≤t36.A∧t36.A<(x27.length:Int) then
      (x27[t36.A.toNat]?).bind fun t82 =>
      (Xz t82).bind fun t84 =>
      if 0≤x28∧x28<(x27.length:Int) then
       (x27[x28.toNat]?).bind fun t86 =>
       some ((x27.set x28.toNat t84))
      else none
     else none
    else
    if z37=6 then
     if 0≤t36.A∧t36.A<(x27.length:Int) then
      (x27[t36.A.toNat]?).bind fun t94 =>
      (Jc k0 t94).bind fun t96 =>
      if 0≤x28∧x28<(x27.length:Int) then
       (x27[x28.toNat]?).bind fun t98 =>
       some ((x27.set x28.toNat t96))
      else none
     else none
    else
    if z37=7 then
     if 0≤t36.A∧t36.A<(x27.length:Int) then
      (x27[t36.A.toNat]?).bind fun t106 =>
      if 0≤t36.B∧t36.B<(x27.length:Int) then
       (x27[t36.B.toNat]?).bind fun t109 =>
       (QU t106 t109).bind fun t110 =>
       if 0≤x28∧x28<(x27.length:Int) then
        (x27[x28.toNat]?).bind fun t112 =>
        some ((x27.set x28.toNat t110))
       else none
      else none
     else none
    else
    if z37=8 then
     if 0≤t36.A∧t36.A<(x27.length:Int) then
      (x27[t36.A.toNat]?).bind fun t120 =>
      if 0≤t36.B∧t36.B<(x27.length:Int) then
       (x27[t36.B.toNat]?).bind fun t123 =>
       (Xj t120 t123).bind fun t124 =>
       if 0≤x28∧x28<(x27.length:Int) then
        (x27[x28.toNat]?).bind fun t126 =>
        some ((x27.set x28.toNat t124))
       else none
      else none
     else none
    else
    if z37=9 then
     if 0≤t36.A∧t36.A<(x27.length:Int) then
      (x27[t36.A.toNat]?).bind fun t134 =>
      if 0≤t36.B∧t36.B<(x27.length:Int) then
       (x27[t36.B.toNat]?).bind fun t137 =>
       (Q9 t134 t137).bind fun t138 =>
       if 0≤x28∧x28<(x27.length:Int) then
        (x27[x28.toNat]?).bind fun t140 =>
        some ((x27.set x28.toNat t138))
       else none
      else none
     else none
    else
    if z37=10 then
     if 0≤t36.A∧t36.A<(x27.length:Int) then
      (x27[t36.A.toNat]?).bind fun t148 =>
      if 0≤t36.B∧t36.B<(x27.length:Int) then
       (x27[t36.B.toNat]?).bind fun t151 =>
       (QY t148 t151).bind fun t152 =>
       if 0≤x28∧x28<(x27.length:Int) then
        (x27[x28.toNat]?).bind fun t154 =>
        some ((x27.set x28.toNat t152))
       else none
      else none
     else none
    else
    none
   else none).bind fun (j32:List qb) =>
   QP.l29 k0 a0 a1 a2 k j32 (qc (x28+1))
  else
   some (x27)
def QP (k0:Nat) (a0:QE) (a1:List qb) (a2:qb):Option (List qb) :=
 if 0≤(a0.L.length:Int)∧(a0.L.length:Int)<1000000 then
  (QP.l29 k0 a0 a1 a2 k0 (List.replicate (a0.L.length:Int).toNat (⟨0,0⟩:qb)) 0).bind fun (j5:List qb) =>
  if 0≤(a0.Out.length:Int)∧(a0.Out.length:Int)<1000000 then
   (QP.l14 k0 a0 a1 a2 j5 k0 (List.replicate (a0.Out.length:Int).toNat (⟨0,0⟩:qb)) 0).bind fun (j9:List qb) =>
   some j9
  else none
 else none
def YI (a0:qb) (a1:qb) (q0:qb):Option (qb) :=
 (Q9 q0 a1).bind fun t3 =>
 (QU a0 t3).bind fun t4 =>
 some t4
def Ql.l10 (k0:Nat) (a0:List qb) (a1:List qb) (a2_0:qb):Nat→(List qb)→Int→Option (List qb)
 | 0,_,_=>none
 | k+1,x8,x9 =>
  if (decide (x9<(a0.length:Int)))=true then
   if 0≤x9∧x9<(a0.length:Int) then
    (a0[x9.toNat]?).bind fun t15 =>
    if 0≤x9∧x9<(a1.length:Int) then
     (a1[x9.toNat]?).bind fun t18 =>
     (YI t15 t18 a2_0).bind fun t20 =>
     if 0≤x9∧x9<(x8.length:Int) then
      (x8[x9.toNat]?).bind fun t22 =>
      Ql.l10 k0 a0 a1 a2_0 k (x8.set x9.toNat t20) (qc (x9+1))
     else none
    else none
   else none
  else
   some (x8)
def Ql (k0:Nat) (a0:List qb) (a1:List qb) (a2_0:qb):Option (List qb) :=
 if 0≤(a0.length:Int)∧(a0.length:Int)<1000000 then
  (Ql.l10 k0 a0 a1 a2_0 k0 (List.replicate (a0.length:Int).toNat (⟨0,0⟩:qb)) 0).bind fun (j5:List qb) =>
  some j5
 else none
def Yb (k0:Nat) (a0:QE) (a1:List qb) (a2:List qb) (a3:Q6):Option (List qb) :=
 (qI 0 a3.H).bind fun t3 =>
 (qI a3.T (qc (a3.T+a3.H))).bind fun t5 =>
 (QP k0 (⟨a0.N,a0.L,a0.Out⟩:QE) a2 t5).bind fun t6 =>
 (Ql k0 a1 t6 t3).bind fun t8 =>
 some t8
def ZP (a0:qb) (a1:qb):Option (qb) :=
 some (⟨mn a0.Lo a1.Lo,mx a0.Hi a1.Hi⟩:qb)
def QG.l6 (k0:Nat) (a0:List qb):Nat→Int→Option ((Int) ⊕ (Unit))
 | 0,_=>none
 | k+1,x5 =>
  if (decide (x5<(a0.length:Int)))=true then
   if 0≤x5∧x5<(a0.length:Int) then
    (a0[x5.toNat]?).bind fun t11 =>
    (qV t11).bind fun t12 =>
    if t12=true then
     some (.inl x5)
    else
     QG.l6 k0 a0 k (qc (x5+1))
   else none
  else
   some (.inr ())
def QG (k0:Nat) (a0:List qb):Option (Int) :=
 (QG.l6 k0 a0 k0 0:Option ((Int) ⊕ (Unit))).bind fun j2=>match j2 with
 | .inl r=>some r
 | .inr j2v =>
  some (-1)
def Q1 (k0:Nat) (a0:List qb):Option (Bool) :=
 (QG k0 a0).bind fun t3 =>
 some (decide (t3 ≥ 0))
def XR (k0:Nat) (a0:List qb):Option (Bool) :=
 (Q1 k0 a0).bind fun t3 =>
 some (!t3)
def Yu (a0:qb):Option (Int) :=
 some (qc (a0.Hi - a0.Lo))
def Xc.l10 (k0:Nat) (a0:List qb):Nat→(List qb)→Int→Option (List qb)
 | 0,_,_=>none
 | k+1,x8,x9 =>
  if (decide (x9<(a0.length:Int)))=true then
   if 0≤x9∧x9<(a0.length:Int) then
    (a0[x9.toNat]?).bind fun t14 =>
    (Yu t14).bind fun t16 =>
    (qI (qc (t14.Lo - (qc ((qc (Int.tdiv t16 16))+1)))) (qc (t14.Hi+(qc ((qc (Int.tdiv t16 16))+1))))).bind fun t18 =>
    if 0≤x9∧x9<(x8.length:Int) then
     (x8[x9.toNat]?).bind fun t20 =>
     Xc.l10 k0 a0 k (x8.set x9.toNat t18) (qc (x9+1))
    else none
   else none
  else
   some (x8)
def Xc (k0:Nat) (a0:List qb):Option (List qb) :=
 if 0≤(a0.length:Int)∧(a0.length:Int)<1000000 then
  (Xc.l10 k0 a0 k0 (List.replicate (a0.length:Int).toNat (⟨0,0⟩:qb)) 0).bind fun (j5:List qb) =>
  some j5
 else none
def YV (a0:qb) (a1:qb):Option (Bool) :=
 some ((decide (a1.Lo≤a0.Lo)) && (decide (a0.Hi≤a1.Hi)))
def Xm.l3 (k0:Nat) (q0:List qb) (q1:List qb):Nat→Int→Option (List (qb × qb))
 | 0,_=>none
 | k+1,x2 =>
  if (decide (x2<(q0.length:Int)))=true then
   if 0≤x2∧x2<(q0.length:Int) then
    (q0[x2.toNat]?).bind fun t7 =>
    if 0≤x2∧x2<(q1.length:Int) then
     (q1[x2.toNat]?).bind fun t10 =>
     (Xm.l3 k0 q0 q1 k (qc (x2+1))).bind fun r =>
     some ((t7,t10) :: r)
    else none
   else none
  else
   some []
def Xm (k0:Nat) (q0:List qb) (q1:List qb):Option (List (qb × qb)) :=
 Xm.l3 k0 q0 q1 k0 0
def XN.l5 (k0:Nat) (a0:List qb) (a1:List qb):List (qb × qb)→Option (Bool)
 | [] =>
  some true
 | x :: zs =>
  (YV (⟨x.1.Lo,x.1.Hi⟩:qb) (⟨x.2.Lo,x.2.Hi⟩:qb)).bind fun t9 =>
  if (!t9)=true then
   some false
  else
   XN.l5 k0 a0 a1 zs
def XN (k0:Nat) (a0:List qb) (a1:List qb):Option (Bool) :=
 (Xm k0 a0 a1).bind fun t4 =>
 XN.l5 k0 a0 a1 t4
def Qi.l10 (k0:Nat) (a0:List qb) (a1:List qb):Nat→(List qb)→Int→Option (List qb)
 | 0,_,_=>none
 | k+1,x8,x9 =>
  if (decide (x9<(a0.length:Int)))=true then
   if 0≤x9∧x9<(a0.length:Int) then
    (a0[x9.toNat]?).bind fun t15 =>
    if 0≤x9∧x9<(a1.length:Int) then
     (a1[x9.toNat]?).bind fun t18 =>
     (ZP t15 t18).bind fun t20 =>
     if 0≤x9∧x9<(x8.length:Int) then
      (x8[x9.toNat]?).bind fun t22 =>
      Qi.l10 k0 a0 a1 k (x8.set x9.toNat t20) (qc (x9+1))
     else none
    else none
   else none
  else
   some (x8)
def Qi (k0:Nat) (a0:List qb) (a1:List qb):Option (List qb) :=
 if 0≤(a0.length:Int)∧(a0.length:Int)<1000000 then
  (Qi.l10 k0 a0 a1 k0 (List.replicate (a0.length:Int).toNat (⟨0,0⟩:qb)) 0).bind fun (j5:List qb) =>
  some j5
 else none
def qO.l7 (k0:Nat) (q0:List qb) (q1:QE) (q2:Q6) (t2:List qb) (t3:List qb):Nat→(List qb)→Int→Option (List (List qb × List qb))
 | 0,_,_=>none
 | k+1,x5,x6 =>
  if (decide (x6<8))=true then
   (XR k0 x5).bind fun t10 =>
   if (!t10)=true then
    some []
   else
    (Xc k0 x5).bind fun t12 =>
    (XR k0 t12).bind fun t14 =>
    if (!t14)=true then
     some []
    else
     (Yb k0 (⟨q1.N,q1.L,q1.Out⟩:QE) q0 t12 q2).bind fun t16 =>
     (XR k0 t16).bind fun t18 =>
     (some (!t18)).bind fun z19 =>
     if z19=true then
      some []
     else
     if z19=false then
      ((Qi k0 t12 t16).bind fun t21 =>
      qO.l7 k0 q0 q1 q2 t2 t3 k t21 (qc (x6+1))).bind fun r =>
      some ((t12,t16) :: r)
     else
     none
  else
   some []
def qO (k0:Nat) (q0:List qb) (q1:QE) (q2:Q6):Option (List (List qb × List qb)) :=
 (Yb k0 (⟨q1.N,q1.L,q1.Out⟩:QE) q0 q0 q2).bind fun t2 =>
 (Qi k0 q0 t2).bind fun t3 =>
 qO.l7 k0 q0 q1 q2 t2 t3 k0 t3 0
def Qy.l8 (k0:Nat) (a0:QE) (a1:List qb) (a2:Q6) (x7:List qb):Option (List qb × Bool) :=
 if 0<x7.length then
  some (x7,true)
 else none
def Qy.l6 (k0:Nat) (a0:QE) (a1:List qb) (a2:Q6):List (List qb × List qb)→Option (List qb × Bool)
 | [] =>
  some (([]:List qb),false)
 | x :: zs =>
  (XN k0 x.2 x.1).bind fun t14 =>
  if t14=true then
   Qy.l8 k0 a0 a1 a2 x.2
  else
   Qy.l6 k0 a0 a1 a2 zs
def Qy (k0:Nat) (a0:QE) (a1:List qb) (a2:Q6):Option (List qb × Bool) :=
 (qO k0 a1 (⟨a0.N,a0.L,a0.Out⟩:QE) a2).bind fun t5 =>
 Qy.l6 k0 a0 a1 a2 t5
def Yz (a0:Int):Option (qb) :=
 (qI a0 a0).bind fun t3 =>
 some t3
def Yq (a0:qb):Option (qb) :=
 some a0
def QF.l29 (k0:Nat) (a0:List qb) (a1:List qb) (a2:List qb):Nat→Int→Int→Int→Option (Int × Int)
 | 0,_,_,_=>none
 | k+1,x26,x27,x28 =>
  if (decide (x28≤(a2.length:Int)))=true then
   if 0≤x28∧x28<(a1.length:Int) then
    (a1[x28.toNat]?).bind fun t33 =>
    if 0≤qc ((a2.length:Int) - x28)∧qc ((a2.length:Int) - x28)<(a2.length:Int) then
     (a2[(qc ((a2.length:Int) - x28)).toNat]?).bind fun t36 =>
     (Q9 t33 t36).bind fun t38 =>
     (if (decide (x28 > 1))=true then
      (QU (⟨x26,x27⟩:qb) t38).bind fun t46 =>
      some (t46.Lo,t46.Hi)
     else
      some (t38.Lo,t38.Hi)).bind fun (j41:Int × Int) =>
     QF.l29 k0 a0 a1 a2 k j41.1 j41.2 (qc (x28+1))
    else none
   else none
  else
   some (x26,x27)
def QF (k0:Nat) (a0:List qb) (a1:List qb) (a2:List qb):Option (qb) :=
 if ((a2.length:Int) == 0)=true then
  if 0≤(0:Int)∧(0:Int)<(a0.length:Int) then
   (a0[(0:Int).toNat]?).bind fun t6 =>
   if 0≤(0:Int)∧(0:Int)<(a1.length:Int) then
    (a1[(0:Int).toNat]?).bind fun t9 =>
    (QY t6 t9).bind fun t11 =>
    some t11
   else none
  else none
 else
  (QF.l29 k0 a0 a1 a2 k0 0 0 1).bind fun (j15:Int × Int) =>
  if 0≤(a2.length:Int)∧(a2.length:Int)<(a0.length:Int) then
   (a0[(a2.length:Int).toNat]?).bind fun t18 =>
   (Xj t18 (⟨j15.1,j15.2⟩:qb)).bind fun t20 =>
   if 0≤(0:Int)∧(0:Int)<(a1.length:Int) then
    (a1[(0:Int).toNat]?).bind fun t22 =>
    (QY t20 t22).bind fun t24 =>
    some t24
   else none
  else none
def Yv (a0:Int) (a1:Int) (a2:Int):Option (Int × Int × Int) :=
 if ((((decide (a1<(-1073741824))) || (decide (a1 > 1073741824))) || (decide (a2<1))) || (decide (a2 > 1073741824)))=true then
  some (0,0,1)
 else
  (Ya (qc (a0 * a1)) a2).bind fun t5 =>
  some (t5.1,t5.2,0)
def XF (a0:Bool) (a1:Int) (a2:Int):Option (Int) :=
 if a0=true then
  some a1
 else
  some a2
def XY (a0:qb) (a1:Int) (a2:Int):Option (qb) :=
 (qV a0).bind fun t3 =>
 if t3=true then
  some a0
 else
  (XF (decide (a1<0)) a0.Hi a0.Lo).bind fun t6 =>
  (Yv t6 a1 a2).bind fun t7 =>
  (XF (decide (a1<0)) a0.Lo a0.Hi).bind fun t9 =>
  (Yv t9 a1 a2).bind fun t10 =>
  (qI t7.1 t10.2.1).bind fun t12 =>
  some t12
def qS.l12 (k0:Nat) (a1:List qb) (a2:List qb) (a3:Int) (a4:Int) (a5:Int) (t3:qb):Nat→Int→Int→Int→Option (Int × Int)
 | 0,_,_,_=>none
 | k+1,x9,x10,x11 =>
  if (decide (x11≤a4))=true then
   if 0≤x11∧x11<(a1.length:Int) then
    (a1[x11.toNat]?).bind fun t16 =>
    if 0≤qc (a5 - x11)∧qc (a5 - x11)<(a2.length:Int) then
     (a2[(qc (a5 - x11)).toNat]?).bind fun t19 =>
     (Q9 t16 t19).bind fun t21 =>
     (if (decide (x11 > a3))=true then
      (QU (⟨x9,x10⟩:qb) t21).bind fun t29 =>
      some (t29.Lo,t29.Hi)
     else
      some (t21.Lo,t21.Hi)).bind fun (j24:Int × Int) =>
     qS.l12 k0 a1 a2 a3 a4 a5 t3 k j24.1 j24.2 (qc (x11+1))
    else none
   else none
  else
   some (x9,x10)
def qS (k0:Nat) (a1:List qb) (a2:List qb) (a3:Int) (a4:Int) (a5:Int):Option (qb) :=
 (Yq (⟨0,0⟩:qb)).bind fun t3 =>
 (qS.l12 k0 a1 a2 a3 a4 a5 t3 k0 t3.Lo t3.Hi a3).bind fun (j6:Int × Int) =>
 some (⟨j6.1,j6.2⟩:qb)
def YW (k0:Nat) (a0:List qb) (a1:List qb):Option (qb) :=
 if ((a1.length:Int) == 0)=true then
  if 0≤(0:Int)∧(0:Int)<(a0.length:Int) then
   (a0[(0:Int).toNat]?).bind fun t6 =>
   (Xe k0 t6).bind fun t7 =>
   if 0≤(0:Int)∧(0:Int)<(a0.length:Int) then
    (a0[(0:Int).toNat]?).bind fun t10 =>
    if (decide (t10.Lo ≥ 0))=true then
     some (⟨t7.1.Lo,t7.1.Hi⟩:qb)
    else
     (QT).bind fun t13 =>
     some t13
   else none
  else none
 else
  (qS k0 a1 a1 1 (qc ((a1.length:Int) - 1)) (a1.length:Int)).bind fun t16 =>
  if 0≤(a1.length:Int)∧(a1.length:Int)<(a0.length:Int) then
   (a0[(a1.length:Int).toNat]?).bind fun t19 =>
   (Xj t19 t16).bind fun t21 =>
   if 0≤(0:Int)∧(0:Int)<(a1.length:Int) then
    (a1[(0:Int).toNat]?).bind fun t23 =>
    (XY t23 2 1).bind fun t25 =>
    (QY t21 t25).bind fun t26 =>
    some t26
   else none
  else none
def Yp (a0:qb) (a1:Int):Option (qb) :=
 (XY a0 1 a1).bind fun t3 =>
 some t3
def Jh:Option (qb) :=
 (Yz 65536).bind fun t3 =>
 some t3
def Xv (k0:Nat) (a1:qh) (a2:List (List qb)) (a3:List qb) (a4:qb):Option (qb) :=
 if (a1.Op == 4)=true then
  if 0≤a1.A∧a1.A<(a2.length:Int) then
   (a2[a1.A.toNat]?).bind fun t7 =>
   if 0≤(a3.length:Int)∧(a3.length:Int)<(t7.length:Int) then
    (t7[(a3.length:Int).toNat]?).bind fun t10 =>
    (XQ t10).bind fun t11 =>
    some t11
   else none
  else none
 else
  if (a1.Op == 7)=true then
   if 0≤a1.A∧a1.A<(a2.length:Int) then
    (a2[a1.A.toNat]?).bind fun t15 =>
    if 0≤(a3.length:Int)∧(a3.length:Int)<(t15.length:Int) then
     (t15[(a3.length:Int).toNat]?).bind fun t18 =>
     if 0≤a1.B∧a1.B<(a2.length:Int) then
      (a2[a1.B.toNat]?).bind fun t20 =>
      if 0≤(a3.length:Int)∧(a3.length:Int)<(t20.length:Int) then
       (t20[(a3.length:Int).toNat]?).bind fun t22 =>
       (QU t18 t22).bind fun t23 =>
       some t23
      else none
     else none
    else none
   else none
  else
   if (a1.Op == 8)=true then
    if 0≤a1.A∧a1.A<(a2.length:Int) then
     (a2[a1.A.toNat]?).bind fun t27 =>
     if 0≤(a3.length:Int)∧(a3.length:Int)<(t27.length:Int) then
      (t27[(a3.length:Int).toNat]?).bind fun t30 =>
      if 0≤a1.B∧a1.B<(a2.length:Int) then
       (a2[a1.B.toNat]?).bind fun t32 =>
       if 0≤(a3.length:Int)∧(a3.length:Int)<(t32.length:Int) then
        (t32[(a3.length:Int).toNat]?).bind fun t34 =>
        (Xj t30 t34).bind fun t35 =>
        some t35
       else none
      else none
     else none
    else none
   else
    if (a1.Op == 9)=true then
     if 0≤a1.A∧a1.A<(a2.length:Int) then
      (a2[a1.A.toNat]?).bind fun t39 =>
      if 0≤a1.B∧a1.B<(a2.length:Int) then
       (a2[a1.B.toNat]?).bind fun t42 =>
       (qS k0 t39 t42 0 (a3.length:Int) (a3.length:Int)).bind fun t43 =>
       some t43
      else none
     else none
    else
     if (a1.Op == 5)=true then
      if ((a3.length:Int) == 0)=true then
       if 0≤a1.A∧a1.A<(a2.length:Int) then
        (a2[a1.A.toNat]?).bind fun t48 =>
        if 0≤(0:Int)∧(0:Int)<(t48.length:Int) then
         (t48[(0:Int).toNat]?).bind fun t51 =>
         (Xz t51).bind fun t52 =>
         some t52
        else none
       else none
      else
       if 0≤a1.A∧a1.A<(a2.length:Int) then
        (a2[a1.A.toNat]?).bind fun t55 =>
        if 0≤a1.A∧a1.A<(a2.length:Int) then
         (a2[a1.A.toNat]?).bind fun t58 =>
         (qS k0 t55 t58 0 (a3.length:Int) (a3.length:Int)).bind fun t59 =>
         some t59
        else none
       else none
     else
      if (a1.Op == 10)=true then
       if 0≤a1.A∧a1.A<(a2.length:Int) then
        (a2[a1.A.toNat]?).bind fun t64 =>
        if 0≤a1.B∧a1.B<(a2.length:Int) then
         (a2[a1.B.toNat]?).bind fun t67 =>
         (QF k0 t64 t67 a3).bind fun t68 =>
         some t68
        else none
       else none
      else
       if (a1.Op == 6)=true then
        if 0≤a1.A∧a1.A<(a2.length:Int) then
         (a2[a1.A.toNat]?).bind fun t72 =>
         (YW k0 t72 a3).bind fun t74 =>
         some t74
        else none
       else
        (if ((a1.Op == 1) && ((a3.length:Int) == 0))=true then
         some (a1.C.Lo,a1.C.Hi)
        else
         if ((a1.Op == 3) && ((a3.length:Int) == 0))=true then
          some (a4.Lo,a4.Hi)
         else
          if ((a1.Op == 3) && ((a3.length:Int) == 1))=true then
           (Jh).bind fun t87 =>
           some (t87.Lo,t87.Hi)
          else
           some (0,0)).bind fun (j78:Int × Int) =>
        (Yq (⟨j78.1,j78.2⟩:qb)).bind fun t80 =>
        some t80
def qm.l26 (k0:Nat) (a1:QE) (a2:List qb) (a3:qb) (a4:Int) (j6:List (List qb)) (x11:List (List qb)) (x12:List (List qb)) (x13:Int) (j22:List (List qb)):Nat→(List (List qb))→Int→Option (List (List qb) × List (List qb))
 | 0,_,_=>none
 | k+1,x24,x25 =>
  if (decide (x25<(a1.Out.length:Int)))=true then
   if 0≤x25∧x25<(a1.Out.length:Int) then
    (a1.Out[x25.toNat]?).bind fun t30 =>
    if 0≤x25∧x25<(x24.length:Int) then
     (x24[x25.toNat]?).bind fun t33 =>
     if 0≤t30∧t30<(j22.length:Int) then
      (j22[t30.toNat]?).bind fun t36 =>
      if 0≤x13∧x13<(t36.length:Int) then
       (t36[x13.toNat]?).bind fun t39 =>
       (Yp t39 (qc (x13+1))).bind fun t41 =>
       if t33.length<1000000 then
        if 0≤x25∧x25<(x24.length:Int) then
         (x24[x25.toNat]?).bind fun t44 =>
         qm.l26 k0 a1 a2 a3 a4 j6 x11 x12 x13 j22 k (x24.set x25.toNat (t33++[t41])) (qc (x25+1))
        else none
       else none
      else none
     else none
    else none
   else none
  else
   some (x24,j22)
def qm.l50 (k0:Nat) (a1:QE) (a2:List qb) (a3:qb) (a4:Int) (j6:List (List qb)) (x11:List (List qb)) (x12:List (List qb)) (x13:Int):Nat→(List (List qb))→Int→Option (List (List qb))
 | 0,_,_=>none
 | k+1,x48,x49 =>
  if (decide (x49<(a1.L.length:Int)))=true then
   (if 0≤x49∧x49<(a1.L.length:Int) then
    (a1.L[x49.toNat]?).bind fun t57 =>
    if (t57.Op == 2)=true then
     if 0≤x49∧x49<(x48.length:Int) then
      (x48[x49.toNat]?).bind fun t61 =>
      if 0≤t57.A∧t57.A<(x11.length:Int) then
       (x11[t57.A.toNat]?).bind fun t64 =>
       if 0≤x13∧x13<(t64.length:Int) then
        (t64[x13.toNat]?).bind fun t67 =>
        if t61.length<1000000 then
         if 0≤x49∧x49<(x48.length:Int) then
          (x48[x49.toNat]?).bind fun t71 =>
          some ((x48.set x49.toNat (t61++[t67])))
         else none
        else none
       else none
      else none
     else none
    else
     if 0≤x49∧x49<(x48.length:Int) then
      (x48[x49.toNat]?).bind fun t74 =>
      if 0≤x49∧x49<(x48.length:Int) then
       (x48[x49.toNat]?).bind fun t77 =>
       (Xv k0 (⟨t57.Op,t57.A,t57.B,(⟨t57.C.Lo,t57.C.Hi⟩:qb)⟩:qh) x48 t77 a3).bind fun t78 =>
       if t74.length<1000000 then
        if 0≤x49∧x49<(x48.length:Int) then
         (x48[x49.toNat]?).bind fun t81 =>
         some ((x48.set x49.toNat (t74++[t78])))
        else none
       else none
      else none
     else none
   else none).bind fun (j53:List (List qb)) =>
   qm.l50 k0 a1 a2 a3 a4 j6 x11 x12 x13 k j53 (qc (x49+1))
  else
   some (x48)
def qm.l14 (k0:Nat) (a1:QE) (a2:List qb) (a3:qb) (a4:Int) (j6:List (List qb)):Nat→(List (List qb))→(List (List qb))→Int→Option (List (List qb))
 | 0,_,_,_=>none
 | k+1,x11,x12,x13 =>
  if (decide (x13<a4))=true then
   ((qm.l50 k0 a1 a2 a3 a4 j6 x11 x12 x13 k0 x12 0).bind fun (j22:List (List qb)) =>
   qm.l26 k0 a1 a2 a3 a4 j6 x11 x12 x13 j22 k0 x11 0).bind fun (j18:List (List qb) × List (List qb)) =>
   qm.l14 k0 a1 a2 a3 a4 j6 k j18.1 j18.2 (qc (x13+1))
  else
   some (x11)
def qm.l88 (k0:Nat) (a1:QE) (a2:List qb) (a3:qb) (a4:Int):Nat→(List (List qb))→Int→Option (List (List qb))
 | 0,_,_=>none
 | k+1,x86,x87 =>
  if (decide (x87<((List.replicate a1.N.toNat ([]:List qb)).length:Int)))=true then
   if 0≤x87∧x87<(a2.length:Int) then
    (a2[x87.toNat]?).bind fun t93 =>
    if 0≤x87∧x87<(x86.length:Int) then
     (x86[x87.toNat]?).bind fun t95 =>
     qm.l88 k0 a1 a2 a3 a4 k (x86.set x87.toNat ([t93]:List qb)) (qc (x87+1))
    else none
   else none
  else
   some (x86)
def qm (k0:Nat) (a1:QE) (a2:List qb) (a3:qb) (a4:Int):Option (List (List qb)) :=
 if 0≤a1.N∧a1.N<1000000 then
  if 0≤(a1.L.length:Int)∧(a1.L.length:Int)<1000000 then
   (qm.l88 k0 a1 a2 a3 a4 k0 (List.replicate a1.N.toNat ([]:List qb)) 0).bind fun (j6:List (List qb)) =>
   (qm.l14 k0 a1 a2 a3 a4 j6 k0 j6 (List.replicate (a1.L.length:Int).toNat ([]:List qb)) 0).bind fun (j8:List (List qb)) =>
   some j8
  else none
 else none
def Q7 (k0:Nat) (a0:QE) (a1:List qb) (a2:qb) (a3:Int):Option (List (List qb)) :=
 (qm k0 (⟨a0.N,a0.L,a0.Out⟩:QE) a1 a2 a3).bind fun t3 =>
 some t3
def Yo (a0:Int) (a1:List qb) (q0:Int):Option (qb) :=
 if 0≤qc (q0+1)∧qc (q0+1)<(a1.length:Int) then
  (a1[(qc (q0+1)).toNat]?).bind fun t4 =>
  some t4
 else none
def QA.l10 (k0:Nat) (a0:List (List qb)) (a1_0:Int):Nat→(List qb)→Int→Option (List qb)
 | 0,_,_=>none
 | k+1,x8,x9 =>
  if (decide (x9<(a0.length:Int)))=true then
   if 0≤x9∧x9<(a0.length:Int) then
    (a0[x9.toNat]?).bind fun t14 =>
    (Yo x9 t14 a1_0).bind fun t16 =>
    if 0≤x9∧x9<(x8.length:Int) then
     (x8[x9.toNat]?).bind fun t18 =>
     QA.l10 k0 a0 a1_0 k (x8.set x9.toNat t16) (qc (x9+1))
    else none
   else none
  else
   some (x8)
def QA (k0:Nat) (a0:List (List qb)) (a1_0:Int):Option (List qb) :=
 if 0≤(a0.length:Int)∧(a0.length:Int)<1000000 then
  (QA.l10 k0 a0 a1_0 k0 (List.replicate (a0.length:Int).toNat (⟨0,0⟩:qb)) 0).bind fun (j5:List qb) =>
  some j5
 else none
def Yj (k0:Nat) (a0:QE) (a1:List qb) (a2:Q6) (a3:Int):Option (List qb) :=
 (Q7 k0 (⟨a0.N,a0.L,a0.Out⟩:QE) a1 (⟨a2.T,qc (a2.T+a2.H)⟩:qb) (qc (a3+1))).bind fun t3 =>
 (QA k0 t3 a3).bind fun t5 =>
 some t5
def Zt (a0:Bool) (a1:qb) (a2:qb):Option (qb) :=
 if a0=true then
  some a1
 else
  some a2
def YJ (a0:qb) (a1:qb):Option (qb × Bool) :=
 (Zt (decide ((mx a0.Lo a1.Lo)≤(mn a0.Hi a1.Hi))) (⟨mx a0.Lo a1.Lo,mn a0.Hi a1.Hi⟩:qb) (⟨0,0⟩:qb)).bind fun t5 =>
 some (t5,decide ((mx a0.Lo a1.Lo)≤(mn a0.Hi a1.Hi)))
def YX (a0:qb) (q0:qb):Option (qb) :=
 (Q9 a0 q0).bind fun t3 =>
 some t3
def qD.l31 (k0:Nat) (a0:List (List qb)) (a1_0:qb) (x8:List qb) (x9:Int) (t17:List qb) (t20:qb):Nat→Int→Int→Int→Option (Int × Int)
 | 0,_,_,_=>none
 | k+1,x28,x29,x30 =>
  if (decide (x30 ≥ 0))=true then
   (YX (⟨x28,x29⟩:qb) a1_0).bind fun t34 =>
   if 0≤x30∧x30<(t17.length:Int) then
    (t17[x30.toNat]?).bind fun t36 =>
    (QU t34 t36).bind fun t37 =>
    qD.l31 k0 a0 a1_0 x8 x9 t17 t20 k t37.Lo t37.Hi (qc (x30 - 1))
   else none
  else
   some (x28,x29)
def qD.l10 (k0:Nat) (a0:List (List qb)) (a1_0:qb):Nat→(List qb)→Int→Option (List qb)
 | 0,_,_=>none
 | k+1,x8,x9 =>
  if (decide (x9<(a0.length:Int)))=true then
   (if 0≤x9∧x9<(a0.length:Int) then
    (a0[x9.toNat]?).bind fun t17 =>
    if 0≤qc ((t17.length:Int) - 1)∧qc ((t17.length:Int) - 1)<(t17.length:Int) then
     (t17[(qc ((t17.length:Int) - 1)).toNat]?).bind fun t20 =>
     (qD.l31 k0 a0 a1_0 x8 x9 t17 t20 k0 t20.Lo t20.Hi (qc ((t17.length:Int) - 2))).bind fun (j23:Int × Int) =>
     if 0≤x9∧x9<(x8.length:Int) then
      (x8[x9.toNat]?).bind fun t26 =>
      some ((x8.set x9.toNat (⟨j23.1,j23.2⟩:qb)))
     else none
    else none
   else none).bind fun (j13:List qb) =>
   qD.l10 k0 a0 a1_0 k j13 (qc (x9+1))
  else
   some (x8)
def qD (k0:Nat) (a0:List (List qb)) (a1_0:qb):Option (List qb) :=
 if 0≤(a0.length:Int)∧(a0.length:Int)<1000000 then
  (qD.l10 k0 a0 a1_0 k0 (List.replicate (a0.length:Int).toNat (⟨0,0⟩:qb)) 0).bind fun (j5:List qb) =>
  some j5
 else none
def ZF (k0:Nat) (a0:List (List qb)) (a1:qb):Option (List qb) :=
 (qD k0 a0 a1).bind fun t3 =>
 some t3
def X0 (a0:Int) (a1:List qb) (q0:List qb):Option (List qb) :=
 if 0≤a0∧a0<(q0.length:Int) then
  (q0[a0.toNat]?).bind fun t4 =>
  if a1.length<1000000 then
   some (a1++[t4])
  else none
 else none
def Qz.l10 (k0:Nat) (a0:List (List qb)) (a1_0:List qb):Nat→(List (List qb))→Int→Option (List (List qb))
 | 0,_,_=>none
 | k+1,x8,x9 =>
  if (decide (x9<(a0.length:Int)))=true then
   if 0≤x9∧x9<(a0.length:Int) then
    (a0[x9.toNat]?).bind fun t14 =>
    (X0 x9 t14 a1_0).bind fun t16 =>
    if 0≤x9∧x9<(x8.length:Int) then
     (x8[x9.toNat]?).bind fun t18 =>
     Qz.l10 k0 a0 a1_0 k (x8.set x9.toNat t16) (qc (x9+1))
    else none
   else none
  else
   some (x8)
def Qz (k0:Nat) (a0:List (List qb)) (a1_0:List qb):Option (List (List qb)) :=
 if 0≤(a0.length:Int)∧(a0.length:Int)<1000000 then
  (Qz.l10 k0 a0 a1_0 k0 (List.replicate (a0.length:Int).toNat ([]:List qb)) 0).bind fun (j5:List (List qb)) =>
  some j5
 else none
def XX (a0:Int) (a1:qb) (q0:List qb):Option (qb) :=
 if 0≤a0∧a0<(q0.length:Int) then
  (q0[a0.toNat]?).bind fun t4 =>
  (YJ a1 t4).bind fun t6 =>
  if t6.2=true then
   some (⟨t6.1.Lo,t6.1.Hi⟩:qb)
  else
   if 0≤a0∧a0<(q0.length:Int) then
    (q0[a0.toNat]?).bind fun t11 =>
    some t11
   else none
 else none
def QB.l10 (k0:Nat) (a0:List qb) (a1_0:List qb):Nat→(List qb)→Int→Option (List qb)
 | 0,_,_=>none
 | k+1,x8,x9 =>
  if (decide (x9<(a0.length:Int)))=true then
   if 0≤x9∧x9<(a0.length:Int) then
    (a0[x9.toNat]?).bind fun t14 =>
    (XX x9 t14 a1_0).bind fun t16 =>
    if 0≤x9∧x9<(x8.length:Int) then
     (x8[x9.toNat]?).bind fun t18 =>
     QB.l10 k0 a0 a1_0 k (x8.set x9.toNat t16) (qc (x9+1))
    else none
   else none
  else
   some (x8)
def QB (k0:Nat) (a0:List qb) (a1_0:List qb):Option (List qb) :=
 if 0≤(a0.length:Int)∧(a0.length:Int)<1000000 then
  (QB.l10 k0 a0 a1_0 k0 (List.replicate (a0.length:Int).toNat (⟨0,0⟩:qb)) 0).bind fun (j5:List qb) =>
  some j5
 else none
def Yc (k0:Nat) (a0:List qb) (q0:List qb):Option (List qb) :=
 (QB k0 a0 q0).bind fun t3 =>
 some t3
def XU (k0:Nat) (a0:QE) (a1:List qb) (a2:List qb) (a3:JM):Option (List qb) :=
 (Yj k0 (⟨a0.N,a0.L,a0.Out⟩:QE) a2 (⟨a3.T,a3.H⟩:Q6) a3.Order).bind fun t3 =>
 (Yz a3.T).bind fun t5 =>
 (Q7 k0 (⟨a0.N,a0.L,a0.Out⟩:QE) a1 t5 a3.Order).bind fun t6 =>
 (Qz k0 t6 t3).bind fun t7 =>
 (ZF k0 t7 (⟨a3.Part.Lo,a3.Part.Hi⟩:qb)).bind fun t9 =>
 (Yc k0 t9 a2).bind fun t10 =>
 some t10
def Y2 (k0:Nat) (a0:Qc):Option (Qc × Bool) :=
 (Q1 k0 a0.Tube).bind fun t3 =>
 (if (t3 == false)=true then Q1 k0 a0.To else some default).bind fun t4 =>
 if (t3 || t4)=true then
  some ((⟨0,0,([]:List qb),([]:List qb),([]:List qb),([]:List qb)⟩:Qc),false)
 else
  some ((⟨a0.T,a0.H,a0.From,a0.Pre,a0.Tube,a0.To⟩:Qc),true)
def Qb (k0:Nat) (a0:Int) (a1:Int) (q0:QE) (q1:List qb) (q2:List qb) (q3:Q6) (q4:Int):Option (List qb) :=
 (XU k0 (⟨q0.N,q0.L,q0.Out⟩:QE) q1 q2 (⟨q3.T,q3.H,(⟨a0,a1⟩:qb),q4⟩:JM)).bind fun t3 =>
 some t3
def XB (k0:Nat) (a0:QE) (a1:List qb) (a2:Q6) (a3:Int):Option (Qc × Bool) :=
 (Qy k0 (⟨a0.N,a0.L,a0.Out⟩:QE) a1 a2).bind fun t3 =>
 if (!t3.2)=true then
  some ((⟨0,0,([]:List qb),([]:List qb),([]:List qb),([]:List qb)⟩:Qc),false)
 else
  (Qb k0 0 a2.H (⟨a0.N,a0.L,a0.Out⟩:QE) a1 t3.1 a2 a3).bind fun t8 =>
  (Qb k0 a2.H a2.H (⟨a0.N,a0.L,a0.Out⟩:QE) a1 t3.1 a2 a3).bind fun t9 =>
  (Y2 k0 (⟨a2.T,a2.H,a1,t3.1,t8,t9⟩:Qc)).bind fun t10 =>
  some ((⟨t10.1.T,t10.1.H,t10.1.From,t10.1.Pre,t10.1.Tube,t10.1.To⟩:Qc),t10.2)
def Yn (a0:qb) (q0:qH):Option (Bool) :=
 (Yu a0).bind fun t3 =>
 some (decide (t3 > q0.Wide))
def QH.l6 (k0:Nat) (a0:List qb) (a1_0:qH):Nat→Int→Option ((Int) ⊕ (Unit))
 | 0,_=>none
 | k+1,x5 =>
  if (decide (x5<(a0.length:Int)))=true then
   if 0≤x5∧x5<(a0.length:Int) then
    (a0[x5.toNat]?).bind fun t11 =>
    (Yn t11 a1_0).bind fun t12 =>
    if t12=true then
     some (.inl x5)
    else
     QH.l6 k0 a0 a1_0 k (qc (x5+1))
   else none
  else
   some (.inr ())
def QH (k0:Nat) (a0:List qb) (a1_0:qH):Option (Int) :=
 (QH.l6 k0 a0 a1_0 k0 0:Option ((Int) ⊕ (Unit))).bind fun j2=>match j2 with
 | .inl r=>some r
 | .inr j2v =>
  some (-1)
def XG (k0:Nat) (a0:List qb) (a1_0:qH):Option (Bool) :=
 (QH k0 a0 a1_0).bind fun t3 =>
 some (decide (t3 ≥ 0))
def Yx (k0:Nat) (a0:qH) (a1:Qc):Option (Bool) :=
 (XG k0 a1.To a0).bind fun t4 =>
 (if ((!t4) == true)=true then XG k0 a1.Tube a0 else some default).bind fun t5 =>
 some ((!t4) && (!t5))
def ZY (a0:qH) (a1:Int):Option (Int) :=
 some (mn (qc (2 * a1)) a0.Most)
def qZ.l4 (k0:Nat) (q0:Int) (q1:qH):Nat→Int→Int→Option (List (Int))
 | 0,_,_=>none
 | k+1,x2,x3 =>
  (some (x2 == 0)).bind fun z6 =>
  if z6=true then
   ((YP q1 x3).bind fun t8 =>
   qZ.l4 k0 q0 q1 k t8.2 t8.1).bind fun r =>
   some (x3 :: r)
  else
  if z6=false then
   some []
  else
  none
def qZ (k0:Nat) (q0:Int) (q1:qH):Option (List (Int)) :=
 qZ.l4 k0 q0 q1 k0 0 q0
def QK.l6 (k0:Nat) (a0:QE) (a1:List qb) (a2:Z5):List (Int)→Option (Qc × Int × Int)
 | [] =>
  some ((⟨0,0,([]:List qb),([]:List qb),([]:List qb),([]:List qb)⟩:Qc),0,130)
 | x :: zs =>
  (XB k0 (⟨a0.N,a0.L,a0.Out⟩:QE) a1 (⟨a2.T,x⟩:Q6) a2.Ctrl.Order).bind fun t9 =>
  (if ((!t9.2) == false)=true then Yx k0 (⟨a2.Ctrl.Order,a2.Ctrl.First,a2.Ctrl.Least,a2.Ctrl.Most,a2.Ctrl.Wide⟩:qH) (⟨t9.1.T,t9.1.H,t9.1.From,t9.1.Pre,t9.1.Tube,t9.1.To⟩:Qc) else some default).bind fun t11 =>
  if ((!t9.2) || (!t11))=true then
   QK.l6 k0 a0 a1 a2 zs
  else
   (if (x == (mn a2.H (qc (a2.Last - a2.T))))=true then
    some (a2.H)
   else
    some (x)).bind fun (j13:Int) =>
   (ZY (⟨a2.Ctrl.Order,a2.Ctrl.First,a2.Ctrl.Least,a2.Ctrl.Most,a2.Ctrl.Wide⟩:qH) j13).bind fun t15 =>
   some ((⟨t9.1.T,t9.1.H,t9.1.From,t9.1.Pre,t9.1.Tube,t9.1.To⟩:Qc),t15,0)
def QK (k0:Nat) (a0:QE) (a1:List qb) (a2:Z5):Option (Qc × Int × Int) :=
 (qZ k0 (mn a2.H (qc (a2.Last - a2.T))) (⟨a2.Ctrl.Order,a2.Ctrl.First,a2.Ctrl.Least,a2.Ctrl.Most,a2.Ctrl.Wide⟩:qH)).bind fun t5 =>
 QK.l6 k0 a0 a1 a2 t5
def qY.l17 (k0:Nat) (a0:QE) (a1:List qb) (a2:Zu) (t3:Bool) (t4:Bool) (t5:Bool) (t9:Int):Nat→Int→Int→(List qb)→(List Qc)→Option ((List Qc × Int) ⊕ (List Qc))
 | 0,_,_,_,_=>none
 | k+1,x13,x14,x15,x16 =>
  if (decide (x13<a2.Last))=true then
   (QK k0 (⟨a0.N,a0.L,a0.Out⟩:QE) x15 (⟨(⟨a2.Ctrl.Order,a2.Ctrl.First,a2.Ctrl.Least,a2.Ctrl.Most,a2.Ctrl.Wide⟩:qH),x13,a2.Last,x14⟩:Z5)).bind fun t20 =>
   if (!(t20.2.2 == 0))=true then
    some (.inl (([]:List Qc),t20.2.2))
   else
    if ((x16.length:Int) == 256)=true then
     some (.inl (([]:List Qc),140))
    else
     if x16.length<1000000 then
      qY.l17 k0 a0 a1 a2 t3 t4 t5 t9 k (qc (t20.1.T+t20.1.H)) t20.2.1 t20.1.To (x16++[(⟨t20.1.T,t20.1.H,t20.1.From,t20.1.Pre,t20.1.Tube,t20.1.To⟩:Qc)])
     else none
  else
   some (.inr (x16))
def qY (k0:Nat) (a0:QE) (a1:List qb) (a2:Zu):Option (List Qc × Int) :=
 (Zd (⟨a2.Ctrl.Order,a2.Ctrl.First,a2.Ctrl.Least,a2.Ctrl.Most,a2.Ctrl.Wide⟩:qH)).bind fun t3 =>
 (if ((!t3) == false)=true then YM a2.T else some default).bind fun t4 =>
 (if (((!t3) || (!t4)) == false)=true then YM a2.Last else some default).bind fun t5 =>
 if ((((!t3) || (!t4)) || (!t5)) || (decide (a2.T ≥ a2.Last)))=true then
  some (([]:List Qc),1)
 else
  (Y9 (⟨a2.Ctrl.Order,a2.Ctrl.First,a2.Ctrl.Least,a2.Ctrl.Most,a2.Ctrl.Wide⟩:qH) (qc (a2.Last - a2.T))).bind fun t9 =>
  (qY.l17 k0 a0 a1 a2 t3 t4 t5 t9 k0 a2.T t9 a1 ([]:List Qc):Option ((List Qc × Int) ⊕ (List Qc))).bind fun j11=>match j11 with
  | .inl r=>some r
  | .inr j11v =>
   some (j11v,0)
def ZK (a0:Int):Option (Int) :=
 if ((decide (a0 ≥ 1)) && (decide (a0≤3)))=true then
  some 0
 else
  if ((decide (a0 ≥ 4)) && (decide (a0≤6)))=true then
   some 1
  else
   if ((decide (a0 ≥ 7)) && (decide (a0≤10)))=true then
    some 2
   else
    some (-1)
def XM.l8 (k0:Nat) (a0:List qu):Nat→Int→Int→Option ((Int) ⊕ (Unit))
 | 0,_,_=>none
 | k+1,x6,x7 =>
  if (decide (x7<(a0.length:Int)))=true then
   if 0≤x7∧x7<(a0.length:Int) then
    (a0[x7.toNat]?).bind fun t12 =>
    (ZK t12.Op).bind fun t14 =>
    if ((qc (x6+(qc (t14 - 1)))) == 0)=true then
     some (.inl (qc (x7+1)))
    else
     XM.l8 k0 a0 k (qc (x6+(qc (t14 - 1)))) (qc (x7+1))
   else none
  else
   some (.inr ())
def XM (k0:Nat) (a0:List qu):Option (Int) :=
 (XM.l8 k0 a0 k0 1 0:Option ((Int) ⊕ (Unit))).bind fun j3=>match j3 with
 | .inl r=>some r
 | .inr j3v =>
  some (qc ((a0.length:Int)+1))
def XE.l14 (k0:Nat) (a0:List qu) (t9:qu) (t10:Int):Nat→(List (List qu))→Int→Int→Option (List (List qu))
 | 0,_,_,_=>none
 | k+1,x11,x12,x13 =>
  if (decide (x13<t10))=true then
   if 0≤x12∧x12≤(a0.length:Int) then
    (XM k0 (a0.drop x12.toNat)).bind fun t18 =>
    if 0≤x12∧x12≤qc (x12+t18)∧qc (x12+t18)≤(a0.length:Int) then
     if x11.length<1000000 then
      XE.l14 k0 a0 t9 t10 k (x11++[((a0.take (qc (x12+t18)).toNat).drop x12.toNat)]) (qc (x12+t18)) (qc (x13+1))
     else none
    else none
   else none
  else
   some (x11)
def XE (k0:Nat) (a0:List qu):Option (List (List qu)) :=
 (if 0≤(0:Int)∧(0:Int)<(a0.length:Int) then
  (a0[(0:Int).toNat]?).bind fun t9 =>
  (ZK t9.Op).bind fun t10 =>
  XE.l14 k0 a0 t9 t10 k0 ([]:List (List qu)) 1 0
 else none).bind fun (j5:List (List qu)) =>
 some j5
def Xi (a0_0:List qh) (a0_1:List (qh × Int)) (a1:qh):Option (Int × List qh × (List (qh × Int))) :=
 (some ((Z8 a0_1 (⟨a1.Op,a1.A,a1.B,(⟨a1.C.Lo,a1.C.Hi⟩:qb)⟩:qh)).getD 0)).bind fun z3 =>
 if ((Z8 a0_1 (⟨a1.Op,a1.A,a1.B,(⟨a1.C.Lo,a1.C.Hi⟩:qb)⟩:qh)).isSome)=true then
  some (z3,a0_0,a0_1)
 else
  if a0_0.length<1000000 then
   if (Z8 a0_1 (⟨a1.Op,a1.A,a1.B,(⟨a1.C.Lo,a1.C.Hi⟩:qb)⟩:qh)).isSome=false then
    some ((a0_0.length:Int),(a0_0++[(⟨a1.Op,a1.A,a1.B,(⟨a1.C.Lo,a1.C.Hi⟩:qb)⟩:qh)]),(a0_1++[((⟨a1.Op,a1.A,a1.B,(⟨a1.C.Lo,a1.C.Hi⟩:qb)⟩:qh),(a0_0.length:Int))]))
   else none
  else none
def qz.l24 (k0:Nat) (rec:(List qu)→(List qh)→(List (qh × Int))→Option (Int × List qh × (List (qh × Int)))) (a0:List qu) (q1_0_0:List qh) (q1_0_1:List (qh × Int)) (t4:qu) (t7:qu) (j9:Int) (t18:List (List qu)):Nat→(List qh)→Int→Int→(List (qh × Int))→Int→Option (List qh × Int × Int × (List (qh × Int)))
 | 0,_,_,_,_,_=>none
 | k+1,x19,x20,x21,x22,x23 =>
  if (decide (x23<(t18.length:Int)))=true then
   (if 0≤x23∧x23<(t18.length:Int) then
    (t18[x23.toNat]?).bind fun t34 =>
    (rec t34 x19 x22).bind fun t36 =>
    if (x23 == 0)=true then
     some (t36.2.1,t36.1,x21,t36.2.2)
    else
     some (t36.2.1,x20,t36.1,t36.2.2)
   else none).bind fun (j30:List qh × Int × Int × (List (qh × Int))) =>
   qz.l24 k0 rec a0 q1_0_0 q1_0_1 t4 t7 j9 t18 k j30.1 j30.2.1 j30.2.2.1 j30.2.2.2 (qc (x23+1))
  else
   some (x19,x20,x21,x22)
def qz.body (k0:Nat) (rec:(List qu)→(List qh)→(List (qh × Int))→Option (Int × List qh × (List (qh × Int)))) (a0:List qu) (q1_0_0:List qh) (q1_0_1:List (qh × Int)):Option (Int × List qh × (List (qh × Int))) :=
 if 0≤(0:Int)∧(0:Int)<(a0.length:Int) then
  (a0[(0:Int).toNat]?).bind fun t4 =>
  if 0≤(0:Int)∧(0:Int)<(a0.length:Int) then
   (a0[(0:Int).toNat]?).bind fun t7 =>
   (if (t4.Op == 2)=true then
    if 0≤(0:Int)∧(0:Int)<(a0.length:Int) then
     (a0[(0:Int).toNat]?).bind fun t45 =>
     some (t45.N)
    else none
   else
    some (0)).bind fun (j9:Int) =>
   ((XE k0 a0).bind fun t18 =>
   qz.l24 k0 rec a0 q1_0_0 q1_0_1 t4 t7 j9 t18 k0 q1_0_0 j9 0 q1_0_1 0).bind fun (j14:List qh × Int × Int × (List (qh × Int))) =>
   (Xi j14.1 j14.2.2.2 (⟨t4.Op,j14.2.1,j14.2.2.1,(⟨t7.C.Lo,t7.C.Hi⟩:qb)⟩:qh)).bind fun t16 =>
   some (t16.1,t16.2.1,t16.2.2)
  else none
 else none
def qz:Nat→(List qu)→(List qh)→(List (qh × Int))→Option (Int × List qh × (List (qh × Int)))
 | 0,_,_,_=>none
 | k0+1,a0,q1_0_0,q1_0_1=>qz.body k0 (qz k0) a0 q1_0_0 q1_0_1
def Xk.l20 (k0:Nat) (a0:YF):Nat→(List qh)→(List Int)→(List (qh × Int))→Int→Option (List qh × List Int × (List (qh × Int)))
 | 0,_,_,_,_=>none
 | k+1,x16,x17,x18,x19 =>
  if (decide (x19<(a0.F.length:Int)))=true then
   if 0≤x19∧x19<(a0.F.length:Int) then
    (a0.F[x19.toNat]?).bind fun t24 =>
    (qz k0 t24 x16 x18).bind fun t26 =>
    if x17.length<1000000 then
     Xk.l20 k0 a0 k t26.2.1 (x17++[t26.1]) t26.2.2 (qc (x19+1))
    else none
   else none
  else
   some (x16,x17,x18)
def Xk (k0:Nat) (a0:YF):Option (QE) :=
 (Xk.l20 k0 a0 k0 ([]:List qh) ([]:List Int) ([]:List (qh × Int)) 0).bind fun (j9:List qh × List Int × (List (qh × Int))) =>
 if (decide ((j9.1.length:Int) > 400))=true then
  some (⟨0,([]:List qh),([]:List Int)⟩:QE)
 else
  some (⟨(a0.F.length:Int),j9.1,j9.2.1⟩:QE)
def Y6 (a0:qb):Option (YF) :=
 some (⟨([(⟨#[120]⟩:ByteArray)]:List ByteArray),([([(⟨1,0,a0⟩:qu)]:List qu)]:List (List qu))⟩:YF)
def Jx (a0:List Qc):Option (List qb × Int × Bool) :=
 if ((a0.length:Int) == 0)=true then
  some (([]:List qb),0,false)
 else
  if 0≤qc ((a0.length:Int) - 1)∧qc ((a0.length:Int) - 1)<(a0.length:Int) then
   (a0[(qc ((a0.length:Int) - 1)).toNat]?).bind fun t6 =>
   some (t6.To,qc (t6.T+t6.H),true)
  else none
def Jj (a0:Int) (q0:List Qc) (q1:Int):Option (Bool) :=
 if 0≤a0∧a0<(q0.length:Int) then
  (q0[a0.toNat]?).bind fun t4 =>
  some (decide (t4.T > q1))
 else none
def XH.l8 (k0:Nat) (a0:Int) (a1_0:List Qc) (a1_1:Int):Nat→Int→Int→Option (Int)
 | 0,_,_=>none
 | k+1,x6,x7 =>
  if (decide (x6<x7))=true then
   (Jj (qc (Int.fdiv (Ja (qc (x6+x7))) 2)) a1_0 a1_1).bind fun t12 =>
   if (!t12)=true then
    XH.l8 k0 a0 a1_0 a1_1 k (qc ((qc (Int.fdiv (Ja (qc (x6+x7))) 2))+1)) x7
   else
    XH.l8 k0 a0 a1_0 a1_1 k x6 (qc (Int.fdiv (Ja (qc (x6+x7))) 2))
  else
   some (x6)
def XH (k0:Nat) (a0:Int) (a1_0:List Qc) (a1_1:Int):Option (Int) :=
 (XH.l8 k0 a0 a1_0 a1_1 k0 0 a0).bind fun (j4:Int) =>
 some j4
def V3 (k0:Nat) (a0:List Qc) (a1:Int):Option (List qb × Bool) :=
 (Jx a0).bind fun t3 =>
 (some (!t3.2.2)).bind fun z5 =>
 if z5=true then
  some (([]:List qb),false)
 else
 if z5=false then
  if 0≤(0:Int)∧(0:Int)<(a0.length:Int) then
   (a0[(0:Int).toNat]?).bind fun t7 =>
   if ((decide (a1<t7.T)) || (decide (a1 > t3.2.1)))=true then
    some (([]:List qb),false)
   else
    (XH k0 (a0.length:Int) a0 a1).bind fun t11 =>
    if 0≤qc (t11 - 1)∧qc (t11 - 1)<(a0.length:Int) then
     (a0[(qc (t11 - 1)).toNat]?).bind fun t14 =>
     if (t14.T == a1)=true then
      if 0≤qc (t11 - 1)∧qc (t11 - 1)<(a0.length:Int) then
       (a0[(qc (t11 - 1)).toNat]?).bind fun t18 =>
       some (t18.From,true)
      else none
     else
      if (a1 == t3.2.1)=true then
       some (t3.1,true)
      else
       if 0≤qc (t11 - 1)∧qc (t11 - 1)<(a0.length:Int) then
        (a0[(qc (t11 - 1)).toNat]?).bind fun t23 =>
        some (t23.Tube,true)
       else none
    else none
  else none
 else
 none
def Xb (a0:Int):Option (qb) :=
 some (⟨qc (a0 * 65536),qc (a0 * 65536)⟩:qb)
def XV (k0:Nat)  : Option (Bool) :=
 (Xb 2).bind fun t3 =>
 (Y6 t3).bind fun t4 =>
 (Xk k0 t4).bind fun t5 =>
 (Xb 1).bind fun t6 =>
 (Q0 2 0 31).bind fun t7 =>
 (qY k0 t5 ([t6]:List qb) t7).bind fun t8 =>
 (Jx t8.1).bind fun t10 =>
 (V3 k0 t8.1 131072).bind fun t12 =>
 if (((t10.1.length:Int) != 1) || ((t12.1.length:Int) != 1))=true then
  some false
 else
  if ((((t8.2 == 0) && t10.2.2) && (t10.2.1 == 131072)) == true)=true→0≤(0:Int)∧(0:Int)<(t10.1.length:Int) then
   (if ((((t8.2 == 0) && t10.2.2) && (t10.2.1 == 131072)) == true)=true then t10.1[(0:Int).toNat]? else some default).bind fun t17 =>
   (if ((((t8.2 == 0) && t10.2.2) && (t10.2.1 == 131072)) == true)=true then Xb 5 else some default).bind fun t19 =>
   (some ((((t8.2 == 0) && t10.2.2) && (t10.2.1 == 131072)) && ((t17.Lo == t19.Lo) && ((t17.Hi == t19.Hi) && true)))).bind fun z20 =>
   if ((z20 && t12.2) == true)=true→0≤(0:Int)∧(0:Int)<(t12.1.length:Int) then
    (if ((z20 && t12.2) == true)=true then t12.1[(0:Int).toNat]? else some default).bind fun t22 =>
    (if ((z20 && t12.2) == true)=true then Xb 5 else some default).bind fun t24 =>
    some ((z20 && t12.2) && ((t22.Lo == t24.Lo) && ((t22.Hi == t24.Hi) && true)))
   else none
  else none
def YL (a0:qb):Option (qb) :=
 some (⟨mn (Int.tmod a0.Lo 16777216) (Int.tmod a0.Hi 16777216),mx (Int.tmod a0.Lo 16777216) (Int.tmod a0.Hi 16777216)⟩:qb)
def XW (a0:Int):Option (Bool) :=
 some ((decide (a0 > (-2147483648))) && (decide (a0<2147483648)))
def YH:Option (qb) :=
 some (⟨(-2147483648),2147483648⟩:qb)
def Y5 (a0:Int) (a1:Int):Option (qb) :=
 (XW a0).bind fun t3 =>
 (if ((!t3) == false)=true then XW a1 else some default).bind fun t4 =>
 if ((!t3) || (!t4))=true then
  (YH).bind fun t6 =>
  some t6
 else
  some (⟨a0,a1⟩:qb)
def YN (a0:Int):Option (qb) :=
 (Y5 a0 a0).bind fun t3 =>
 some t3
def X5 (a0:qb):Option (List qu) :=
 some ([(⟨1,0,a0⟩:qu)]:List qu)
def XA (a0:Int):Option (Int) :=
 if ((decide (a0<1)) || (decide (a0 > 10)))=true then
  some (-1)
 else
  if (decide (a0≤3))=true then
   some 0
  else
   if (decide (a0≤6))=true then
    some 1
   else
    some 2
def Yd (a0:qb) (a1:Int):Option (qb) :=
 if a1≠0 then
  if a1≠0 then
   some (⟨Int.tmod a0.Lo 1048576,qc ((Int.tmod a0.Lo 1048576)+(Int.tmod (qc ((Int.tmod a0.Hi a1)+a1)) a1))⟩:qb)
  else none
 else none
def Yr (a0:Int) (a1:List qu):Option (List qu) :=
 if a1.length<1000000∧([(⟨a0,0,(⟨0,0⟩:qb)⟩:qu)]:List qu).length<1000000 then
  some (([(⟨a0,0,(⟨0,0⟩:qb)⟩:qu)]:List qu)++a1)
 else none
def Yh (a0:Int) (a1:List qu) (a2:List qu):Option (List qu) :=
 if a1.length<1000000∧([(⟨a0,0,(⟨0,0⟩:qb)⟩:qu)]:List qu).length<1000000 then
  if a2.length<1000000∧(([(⟨a0,0,(⟨0,0⟩:qb)⟩:qu)]:List qu)++a1).length<1000000 then
   some ((([(⟨a0,0,(⟨0,0⟩:qb)⟩:qu)]:List qu)++a1)++a2)
  else none
 else none
def qL.body (k0:Nat) (rec:X1→Int→Option (List qu × X1)) (a0:X1) (a1:Int):Option (List qu × X1) :=
 if ((a0.raw.length:Int) == 0)=true then
  (YN 65536).bind fun t4 =>
  (X5 t4).bind fun t5 =>
  some (t5,(⟨a0.raw,a0.n⟩:X1))
 else
  if 0≤(0:Int)∧(0:Int)<(a0.raw.length:Int) then
   (a0.raw[(0:Int).toNat]?).bind fun t8 =>
   if 0≤(1:Int)∧(1:Int)≤(a0.raw.length:Int) then
    (if (((qc (1+(Int.tmod (QW .i64 t8.Op 255) 10))) == 1) == false)=true then XA (qc (1+(Int.tmod (QW .i64 t8.Op 255) 10))) else some default).bind fun t13 =>
    if (((qc (1+(Int.tmod (QW .i64 t8.Op 255) 10))) == 1) || ((decide (t13 > 0)) && (decide (a1<2))))=true then
     (Yd (⟨t8.C.Lo,t8.C.Hi⟩:qb) (qc (1+(qc ((QW .i64 t8.N 255) * (QW .i64 t8.N 1)))))).bind fun t15 =>
     (X5 t15).bind fun t16 =>
     some (t16,(⟨(a0.raw.drop (1:Int).toNat),a0.n⟩:X1))
    else
     if ((qc (1+(Int.tmod (QW .i64 t8.Op 255) 10))) == 2)=true then
      if a0.n≠0 then
       some (([(⟨2,Int.tmod (QW .i64 t8.N 255) a0.n,(⟨0,0⟩:qb)⟩:qu)]:List qu),(⟨(a0.raw.drop (1:Int).toNat),a0.n⟩:X1))
      else none
     else
      if ((qc (1+(Int.tmod (QW .i64 t8.Op 255) 10))) == 3)=true then
       some (([(⟨3,0,(⟨0,0⟩:qb)⟩:qu)]:List qu),(⟨(a0.raw.drop (1:Int).toNat),a0.n⟩:X1))
      else
       (XA (qc (1+(Int.tmod (QW .i64 t8.Op 255) 10)))).bind fun t23 =>
       if (t23 == 1)=true then
        (rec (⟨(a0.raw.drop (1:Int).toNat),a0.n⟩:X1) (qc (a1 - 1))).bind fun t25 =>
        (Yr (qc (1+(Int.tmod (QW .i64 t8.Op 255) 10))) t25.1).bind fun t26 =>
        some (t26,(⟨t25.2.raw,t25.2.n⟩:X1))
       else
        (rec (⟨(a0.raw.drop (1:Int).toNat),a0.n⟩:X1) (qc (a1 - 1))).bind fun t28 =>
        (rec (⟨t28.2.raw,t28.2.n⟩:X1) (qc (a1 - 1))).bind fun t30 =>
        (Yh (qc (1+(Int.tmod (QW .i64 t8.Op 255) 10))) t28.1 t30.1).bind fun t31 =>
        some (t31,(⟨t30.2.raw,t30.2.n⟩:X1))
   else none
  else none
def qL:Nat→X1→Int→Option (List qu × X1)
 | 0,_,_=>none
 | k0+1,a0,a1=>qL.body k0 (qL k0) a0 a1
def Ye (k0:Nat) (a0:List qu) (a1:Int) (a2:Int):Option (List qu) :=
 if 0≤mn (a0.length:Int) a1∧mn (a0.length:Int) a1≤(a0.length:Int) then
  (qL k0 (⟨(a0.take (mn (a0.length:Int) a1).toNat),a2⟩:X1) 5).bind fun t5 =>
  some t5.1
 else none
def q8.l11 (k0:Nat) (a0:List (List qu)) (a1:Int) (a2:Int):Nat→(List ByteArray)→(List (List qu))→Int→Option (List ByteArray × List (List qu))
 | 0,_,_,_=>none
 | k+1,x8,x9,x10 =>
  if (decide (x10<a2))=true then
   (if (decide (x10<(a0.length:Int)))=true then
    if 0≤x10∧x10<(a0.length:Int) then
     (a0[x10.toNat]?).bind fun t27 =>
     some (t27)
    else none
   else
    some (([]:List qu))).bind fun (j15:List qu) =>
   if 0≤x10∧x10<6 then
    ([(⟨#[120]⟩:ByteArray),(⟨#[121]⟩:ByteArray),(⟨#[118,120]⟩:ByteArray),(⟨#[118,121]⟩:ByteArray),(⟨#[97,49]⟩:ByteArray),(⟨#[122,122]⟩:ByteArray)][x10.toNat]?).bind fun t18 =>
    if x8.length<1000000 then
     (Ye k0 j15 a1 a2).bind fun t21 =>
     if x9.length<1000000 then
      q8.l11 k0 a0 a1 a2 k (x8++[t18]) (x9++[t21]) (qc (x10+1))
     else none
    else none
   else none
  else
   some (x8,x9)
def q8 (k0:Nat) (a0:List (List qu)) (a1:Int) (a2:Int):Option (YF) :=
 (q8.l11 k0 a0 a1 a2 k0 ([]:List ByteArray) ([]:List (List qu)) 0).bind fun (j5:List ByteArray × List (List qu)) =>
 some (⟨j5.1,j5.2⟩:YF)
def Qk.l11 (k0:Nat) (a0:X4):Nat→(List qb)→Int→Option (List qb)
 | 0,_,_=>none
 | k+1,x9,x10 =>
  if (decide (x10<(qc (1+(qc (Int.tmod a0.N 3))))))=true then
   (if (decide (x10<(a0.X.length:Int)))=true then
    if 0≤x10∧x10<(a0.X.length:Int) then
     (a0.X[x10.toNat]?).bind fun t23 =>
     (YL t23).bind fun t24 =>
     some (t24.Lo,t24.Hi)
    else none
   else
    some (0,0)).bind fun (j16:Int × Int) =>
   if x9.length<1000000 then
    Qk.l11 k0 a0 k (x9++[(⟨j16.1,j16.2⟩:qb)]) (qc (x10+1))
   else none
  else
   some (x9)
def Qk (k0:Nat) (a0:X4):Option (YF × List qb) :=
 (Qk.l11 k0 a0 k0 ([]:List qb) 0).bind fun (j5:List qb) =>
 (q8 k0 a0.L 7 (qc (1+(qc (Int.tmod a0.N 3))))).bind fun t7 =>
 some ((⟨t7.Names,t7.F⟩:YF),j5)
def qN.l8 (k0:Nat) (a0:List qb) (a1:List qb):Nat→Int→Option ((Bool) ⊕ (Unit))
 | 0,_=>none
 | k+1,x7 =>
  if (decide (x7<(a0.length:Int)))=true then
   if 0≤x7∧x7<(a0.length:Int) then
    (a0[x7.toNat]?).bind fun t12 =>
    if 0≤x7∧x7<(a1.length:Int) then
     (a1[x7.toNat]?).bind fun t15 =>
     if (!((t12.Lo == t15.Lo) && ((t12.Hi == t15.Hi) && true)))=true then
      some (.inl false)
     else
      qN.l8 k0 a0 a1 k (qc (x7+1))
    else none
   else none
  else
   some (.inr ())
def qN (k0:Nat) (a0:List qb) (a1:List qb):Option (Bool) :=
 if ((a0.length:Int) != (a1.length:Int))=true then
  some false
 else
  (qN.l8 k0 a0 a1 k0 0:Option ((Bool) ⊕ (Unit))).bind fun j4=>match j4 with
  | .inl r=>some r
  | .inr j4v =>
   some true
def qp.l24 (k0:Nat) (a0:X4) (a1:Int) (t3:Bool) (t5:YF × List qb) (j7:List (List qu)) (t9:QE) (t11:Zu) (t13:Zu) (t15:List Qc × Int) (t17:List Qc × Int):Nat→Int→Option ((Bool) ⊕ (Unit))
 | 0,_=>none
 | k+1,x23 =>
  if (decide (x23<(t15.1.length:Int)))=true then
   if 0≤x23∧x23<(t17.1.length:Int) then
    (t17.1[x23.toNat]?).bind fun t28 =>
    if 0≤x23∧x23<(t15.1.length:Int) then
     (t15.1[x23.toNat]?).bind fun t31 =>
     (some ((qc (t28.T - t31.T)) != (qc ((qc a1) * 65536)))).bind fun z33 =>
     if z33=true then
      some (.inl false)
     else
     if z33=false then
      if 0≤x23∧x23<(t17.1.length:Int) then
       (t17.1[x23.toNat]?).bind fun t35 =>
       if 0≤x23∧x23<(t15.1.length:Int) then
        (t15.1[x23.toNat]?).bind fun t37 =>
        (some (t35.H != t37.H)).bind fun z38 =>
        if z38=true then
         some (.inl false)
        else
        if z38=false then
         if 0≤x23∧x23<(t17.1.length:Int) then
          (t17.1[x23.toNat]?).bind fun t40 =>
          if 0≤x23∧x23<(t15.1.length:Int) then
           (t15.1[x23.toNat]?).bind fun t42 =>
           (qN k0 t40.To t42.To).bind fun t43 =>
           (some (!t43)).bind fun z44 =>
           if z44=true then
            some (.inl false)
           else
           if z44=false then
            if 0≤x23∧x23<(t17.1.length:Int) then
             (t17.1[x23.toNat]?).bind fun t46 =>
             if 0≤x23∧x23<(t15.1.length:Int) then
              (t15.1[x23.toNat]?).bind fun t48 =>
              (qN k0 t46.Tube t48.Tube).bind fun t49 =>
              (some (!t49)).bind fun z50 =>
              if z50=true then
               some (.inl false)
              else
              if z50=false then
               if 0≤x23∧x23<(t17.1.length:Int) then
                (t17.1[x23.toNat]?).bind fun t52 =>
                if 0≤x23∧x23<(t15.1.length:Int) then
                 (t15.1[x23.toNat]?).bind fun t54 =>
                 (qN k0 t52.Pre t54.Pre).bind fun t55 =>
                 if (!t55)=true then
                  some (.inl false)
                 else
                  qp.l24 k0 a0 a1 t3 t5 j7 t9 t11 t13 t15 t17 k (qc (x23+1))
                else none
               else none
              else
              none
             else none
            else none
           else
           none
          else none
         else none
        else
        none
       else none
      else none
     else
     none
    else none
   else none
  else
   some (.inr ())
def qp.l80 (k0:Nat) (a0:X4) (a1:Int) (t3:Bool) (t5:YF × List qb) (x70:List (List qu)) (x71:Int):Nat→(List (List qu))→Int→Option (List (List qu))
 | 0,_,_=>none
 | k+1,x78,x79 =>
  if 0≤x71∧x71<(x78.length:Int) then
   (x78[x71.toNat]?).bind fun t83 =>
   if (decide (x79<(t83.length:Int)))=true then
    (if 0≤x71∧x71<(x78.length:Int) then
     (x78[x71.toNat]?).bind fun t89 =>
     if 0≤x79∧x79<(t89.length:Int) then
      (t89[x79.toNat]?).bind fun t91 =>
      if (t91.Op == 3)=true then
       if 0≤x71∧x71<(x78.length:Int) then
        (x78[x71.toNat]?).bind fun t94 =>
        if 0≤x79∧x79<(t94.length:Int) then
         (t94[x79.toNat]?).bind fun t96 =>
         some ((x78.set x71.toNat (t94.set x79.toNat (⟨2,0,(⟨0,0⟩:qb)⟩:qu))))
        else none
       else none
      else
       some (x78)
     else none
    else none).bind fun (j85:List (List qu)) =>
    qp.l80 k0 a0 a1 t3 t5 x70 x71 k j85 (qc (x79+1))
   else
    some (x78)
  else none
def qp.l72 (k0:Nat) (a0:X4) (a1:Int) (t3:Bool) (t5:YF × List qb):Nat→(List (List qu))→Int→Option (List (List qu))
 | 0,_,_=>none
 | k+1,x70,x71 =>
  if (decide (x71<(x70.length:Int)))=true then
   (qp.l80 k0 a0 a1 t3 t5 x70 x71 k0 x70 0).bind fun (j75:List (List qu)) =>
   qp.l72 k0 a0 a1 t3 t5 k j75 (qc (x71+1))
  else
   some (x70)
def qp (k0:Nat) (a0:X4) (a1:Int):Option (Bool) :=
 (XV k0).bind fun t3 =>
 (Qk k0 (⟨a0.L,a0.X,(⟨a0.T.Lo,a0.T.Hi⟩:qb),(⟨a0.G.T,a0.G.H⟩:Q6),a0.N,a0.K,a0.S⟩:X4)).bind fun t5 =>
 (qp.l72 k0 a0 a1 t3 t5 k0 t5.1.F 0).bind fun (j7:List (List qu)) =>
 (Xk k0 (⟨t5.1.Names,j7⟩:YF)).bind fun t9 =>
 (Q0 a0.K 0 (Wq (qc ((t5.2.length:Int) * 7)))).bind fun t11 =>
 (Q0 a0.K a1 (Wq (qc ((t5.2.length:Int) * 7)))).bind fun t13 =>
 (qY k0 (⟨t9.N,t9.L,t9.Out⟩:QE) t5.2 (⟨(⟨t11.Ctrl.Order,t11.Ctrl.First,t11.Ctrl.Least,t11.Ctrl.Most,t11.Ctrl.Wide⟩:qH),t11.T,t11.Last⟩:Zu)).bind fun t15 =>
 (qY k0 (⟨t9.N,t9.L,t9.Out⟩:QE) t5.2 (⟨(⟨t13.Ctrl.Order,t13.Ctrl.First,t13.Ctrl.Least,t13.Ctrl.Most,t13.Ctrl.Wide⟩:qH),t13.T,t13.Last⟩:Zu)).bind fun t17 =>
 if ((t15.2 != t17.2) || ((t15.1.length:Int) != (t17.1.length:Int)))=true then
  some false
 else
  (qp.l24 k0 a0 a1 t3 t5 j7 t9 t11 t13 t15 t17 k0 0:Option ((Bool) ⊕ (Unit))).bind fun j20=>match j20 with
  | .inl r=>some r
  | .inr j20v =>
   some t3
def qp.Pure:Prop :=
 ∀ (c0_0:List (List qu)) (c0_1:List qb) (c0_2:Int) (c0_3:Int) (c0_4:Int) (c0_5:Int) (c0_6:Int) (c0_7:Int) (c0_8:List Int) (c1_0:Int),(∀ x ∈ c0_0,∀ y ∈ x,((-9223372036854775808)≤y.Op∧y.Op≤9223372036854775807)∧((-9223372036854775808)≤y.N∧y.N≤9223372036854775807)∧((-9223372036854775808)≤y.C.Lo∧y.C.Lo≤9223372036854775807)∧((-9223372036854775808)≤y.C.Hi∧y.C.Hi≤9223372036854775807))→(∀ y ∈ c0_1,((-9223372036854775808)≤y.Lo∧y.Lo≤9223372036854775807)∧((-9223372036854775808)≤y.Hi∧y.Hi≤9223372036854775807))→((-9223372036854775808)≤c0_2∧c0_2≤9223372036854775807)→((-9223372036854775808)≤c0_3∧c0_3≤9223372036854775807)→((-9223372036854775808)≤c0_4∧c0_4≤9223372036854775807)→((-9223372036854775808)≤c0_5∧c0_5≤9223372036854775807)→(0≤c0_6∧c0_6≤255)→(0≤c0_7∧c0_7≤255)→(∀ y ∈ c0_8,((-128)≤y∧y≤127))→((-128)≤c1_0∧c1_0≤127) → ∃ k0:Nat,qp k0 (⟨c0_0,c0_1,(⟨c0_2,c0_3⟩:qb),(⟨c0_4,c0_5⟩:Q6),c0_6,c0_7,c0_8⟩:X4) c1_0=some true
end Go.Proofs.YtpmgpcklieincaaGreatDoor
