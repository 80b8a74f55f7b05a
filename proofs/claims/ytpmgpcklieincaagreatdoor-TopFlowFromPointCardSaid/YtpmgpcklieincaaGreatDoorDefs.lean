/- The program's functions as plain Lean functions, printed out of the program by a program of this session. -/
import GoSem.Core.View
import Derived.Test.YtpmgpcklieincaaGreatDoorSxAll0
set_option linter.unusedVariables false
namespace Go.Proofs.YtpmgpcklieincaaGreatDoor
open Go.Sx
abbrev qc (n:Int):Int:=Go.IntKind.wrap .i64 n
abbrev Z9 (n:Int):Int:=Go.IntKind.wrap .u64 n
abbrev qeV (n:Int):Int:=Go.IntKind.wrap .u8 n
abbrev mn (x y:Int):Int:=if y<x then y else x
abbrev mx (x y:Int):Int:=if y>x then y else x
def QQ (k:Go.IntKind)(x y:Int):Int:=k.wrap ((BitVec.ofInt k.bits x) &&& (BitVec.ofInt k.bits y)).toNat
def qaN (s:ByteArray)(i:Int):Option Int:=if h:0<=i∧i<s.size then some ((s[i.toNat]'(by omega)).toNat:Int) else none
structure qb where
 Lo:Int
 Hi:Int
deriving Inhabited,DecidableEq
structure qM where
 Order:Int
 First:Int
 Least:Int
 Most:Int
 Wide:Int
deriving Inhabited,DecidableEq
structure qh where
 Op:Int
 A:Int
 B:Int
 C:qb
deriving Inhabited,DecidableEq
structure QF where
 N:Int
 L:List qh
 Out:List Int
deriving Inhabited,DecidableEq
structure Q2 where
 T:Int
 H:Int
deriving Inhabited,DecidableEq
structure ZV where
 Ctrl:qM
 T:Int
 Last:Int
deriving Inhabited,DecidableEq
structure J5 where
 T:Int
 H:Int
 Part:qb
 Order:Int
deriving Inhabited,DecidableEq
structure qX where
 T:Int
 H:Int
 From:List qb
 Pre:List qb
 Tube:List qb
 To:List qb
deriving Inhabited,DecidableEq
structure Jg where
 Ctrl:qM
 T:Int
 Last:Int
 H:Int
deriving Inhabited,DecidableEq
structure qt where
 Op:Int
 N:Int
 C:qb
deriving Inhabited,DecidableEq
structure Ze where
 Names:List ByteArray
 F:List (List qt)
deriving Inhabited,DecidableEq
structure XX where
 raw:List qt
 n:Int
deriving Inhabited,DecidableEq
structure YR where
 L:List (List qt)
 X:List qb
 T:qb
 G:Q2
 N:Int
 K:Int
 S:List Int
deriving Inhabited,DecidableEq
def Yt (a0:Int):Option qM :=
 some (⟨qc (1+(qc (Int.tmod a0 3))),4096,1024,16384,16777216⟩:qM)
def Xu (a0:Int)(a1:Int)(a2:Int):Option ZV :=
 (Yt a0).bind λt4 =>
 (some (qc ((qc ((qc a1)*65536))+(qc ((qc (1+(qc (Int.tmod a2 64))))*4096))))).bind λz5 =>
 some (⟨t4,qc ((qc a1)*65536),z5⟩:ZV)
def Zi (a0:qM):Option Bool :=
 (some (((decide (1<=a0.Least))&&(decide (a0.Least<=a0.First)))&&(decide (a0.First<=a0.Most)))).bind λz3 =>
 (some (((decide (a0.Order>=1))&&(decide (a0.Order<8)))&&(z3&&(decide (a0.Most<2147483648))))).bind λz5 =>
 some ((z5&&(decide (a0.Wide>=1)))&&(decide (a0.Wide<2147483648)))
def YK (a0:Int):Option Bool :=
 some ((decide ((-2147483648)<a0))&&(decide (a0<2147483648)))
def Zb (a0:qM)(a1:Int):Option Int :=
 some (mn a0.First a1)
def Y2 (a0:qM)(a1:Int):Option (Int×Int) :=
 if (decide ((qc (Int.tdiv a1 2))<a0.Least))=true then
  some (0,130)
 else
  some (qc (Int.tdiv a1 2),0)
def QL:Option qb :=
 some (⟨(-2147483648),2147483648⟩:qb)
def qD (a0:Int)(a1:Int):Option qb :=
 (some (((decide (a0<=(-2147483648)))||(decide (a1>=2147483648)))||(decide (a0>=2147483648)))).bind λz3 =>
 if (z3||(decide (a1<=(-2147483648))))=true then
  (QL).bind λt5 =>
  some t5
 else
  some (⟨a0,a1⟩:qb)
def qG (a0:qb):Option Bool :=
 (QL).bind λt3 =>
 some ((a0.Lo==t3.Lo)&&((a0.Hi==t3.Hi)&&true))
def QP (a0:qb)(a1:qb):Option qb :=
 (qG a0).bind λt3 =>
 (if (t3==false)=true then qG a1 else some default).bind λt4 =>
 if (t3||t4)=true then
  (QL).bind λt6 =>
  some t6
 else
  (qD (qc (a0.Lo+a1.Lo)) (qc (a0.Hi+a1.Hi))).bind λt8 =>
  some t8
def Zl (a0:Int):Option Int :=
 some (mn a0 1)
def Xt (a0:Int)(a1:Int):Option (Int×Int) :=
 if a1≠0 then
  if a1≠0 then
   (if (decide ((Int.tmod a0 a1)<0))=true then
    some (qc ((qc (Int.tdiv a0 a1))-1),qc ((Int.tmod a0 a1)+a1))
   else
    some (qc (Int.tdiv a0 a1),Int.tmod a0 a1)).bind λ(j7:Int×Int) =>
   (Zl j7.2).bind λt9 =>
   some (j7.1,qc (j7.1+t9))
  else none
 else none
def X4 (a0:Int)(a1:Int):Option (Int×Int) :=
 (if (decide (a1<0))=true then
  some (qc (0-a0),qc (0-a1))
 else
  some (a0,a1)).bind λ(j4:Int×Int) =>
 (Xt j4.1 j4.2).bind λt6 =>
 some (t6.1,t6.2)
def Qg (a0:Int)(a1:Int):Option (Int×Int) :=
 (X4 (qc (a0*a1)) 65536).bind λt3 =>
 some (t3.1,t3.2)
def Zt (a0:qb):Option Int :=
 some (mx a0.Hi (qc (0-a0.Lo)))
def XB (a0:qb):Option qb :=
 (qG a0).bind λt3 =>
 if t3=true then
  some a0
 else
  (Zt a0).bind λt6 =>
  (Qg (mx (mx a0.Lo (qc (0-a0.Hi))) 0) (mx (mx a0.Lo (qc (0-a0.Hi))) 0)).bind λt8 =>
  (Qg t6 t6).bind λt10 =>
  (qD t8.1 t10.2).bind λt12 =>
  some t12
def XW (a0:qb):Option qb :=
 some (⟨qc (0-a0.Hi),qc (0-a0.Lo)⟩:qb)
def Xk (a0:qb)(a1:qb):Option qb :=
 (XW a1).bind λt3 =>
 (QP a0 t3).bind λt4 =>
 some t4
def Xs (a0:qb):Option Int :=
 if (decide (a0.Hi<=0))=true then
  some 0
 else
  if (decide (a0.Lo>=0))=true then
   some 2
  else
   some 1
def Xp (a0:qb)(a1:qb):Option (Int×Int) :=
 some (a0.Hi,a1.Hi)
def Xm (a0:qb)(a1:qb):Option (Int×Int) :=
 some (a0.Lo,a1.Lo)
def Xn (a0:qb)(a1:qb):Option (Int×Int) :=
 some (a0.Lo,a1.Hi)
def Xo (a0:qb)(a1:qb):Option (Int×Int) :=
 some (a0.Hi,a1.Lo)
def Q7 (a0:qb)(a1:qb):Option qb :=
 (qG a0).bind λt3 =>
 (if (t3==false)=true then qG a1 else some default).bind λt4 =>
 if (t3||t4)=true then
  (QL).bind λt6 =>
  some t6
 else
  (Xs a0).bind λt8 =>
  (Xs a1).bind λt9 =>
  if ((t8==1)&&(t9==1))=true then
   (Qg a0.Lo a1.Hi).bind λt12 =>
   (Qg a0.Hi a1.Lo).bind λt14 =>
   (Qg a0.Lo a1.Lo).bind λt16 =>
   (Qg a0.Hi a1.Hi).bind λt18 =>
   (qD (mn t12.1 t14.1) (mx t16.2 t18.2)).bind λt20 =>
   some t20
  else
   if t8=0 then
    if t9=0 then
     (Xp a0 a1).bind λt23 =>
     (Qg t23.1 t23.2).bind λt24 =>
     (Xm a0 a1).bind λt26 =>
     (Qg t26.1 t26.2).bind λt27 =>
     (qD t24.1 t27.2).bind λt29 =>
     some t29
    else
    if t9=1 then
     (Xn a0 a1).bind λt32 =>
     (Qg t32.1 t32.2).bind λt33 =>
     (Xm a0 a1).bind λt35 =>
     (Qg t35.1 t35.2).bind λt36 =>
     (qD t33.1 t36.2).bind λt38 =>
     some t38
    else
    if t9=2 then
     (Xn a0 a1).bind λt41 =>
     (Qg t41.1 t41.2).bind λt42 =>
     (Xo a0 a1).bind λt44 =>
     (Qg t44.1 t44.2).bind λt45 =>
     (qD t42.1 t45.2).bind λt47 =>
     some t47
    else
    none
   else
   if t8=1 then
    if t9=0 then
     (Xo a0 a1).bind λt53 =>
     (Qg t53.1 t53.2).bind λt54 =>
     (Xm a0 a1).bind λt56 =>
     (Qg t56.1 t56.2).bind λt57 =>
     (qD t54.1 t57.2).bind λt59 =>
     some t59
    else
    if t9=1 then
     none
    else
    if t9=2 then
     (Xn a0 a1).bind λt63 =>
     (Qg t63.1 t63.2).bind λt64 =>
     (Xp a0 a1).bind λt66 =>
     (Qg t66.1 t66.2).bind λt67 =>
     (qD t64.1 t67.2).bind λt69 =>
     some t69
    else
    none
   else
   if t8=2 then
    if t9=0 then
     (Xo a0 a1).bind λt75 =>
     (Qg t75.1 t75.2).bind λt76 =>
     (Xn a0 a1).bind λt78 =>
     (Qg t78.1 t78.2).bind λt79 =>
     (qD t76.1 t79.2).bind λt81 =>
     some t81
    else
    if t9=1 then
     (Xo a0 a1).bind λt84 =>
     (Qg t84.1 t84.2).bind λt85 =>
     (Xp a0 a1).bind λt87 =>
     (Qg t87.1 t87.2).bind λt88 =>
     (qD t85.1 t88.2).bind λt90 =>
     some t90
    else
    if t9=2 then
     (Xm a0 a1).bind λt93 =>
     (Qg t93.1 t93.2).bind λt94 =>
     (Xp a0 a1).bind λt96 =>
     (Qg t96.1 t96.2).bind λt97 =>
     (qD t94.1 t97.2).bind λt99 =>
     some t99
    else
    none
   else
   none
def Yc (a0:qb)(a1:Int):Option Bool :=
 (qG a0).bind λt3 =>
 some (t3||((decide (a0.Lo<=a1))&&(decide (a1<=a0.Hi))))
def Q1 (a0:Bool)(a1:Int)(a2:Int):Option Int :=
 if a0=true then
  some a1
 else
  some a2
def Q3 (a0:Int)(a1:Int):Option (Int×Int×Int) :=
 if (a1==0)=true then
  some (0,0,3)
 else
  (X4 (qc (a0*65536)) a1).bind λt5 =>
  some (t5.1,t5.2,0)
def QY (a0:qb)(a1:qb):Option qb :=
 (qG a0).bind λt3 =>
 (if (t3==false)=true then qG a1 else some default).bind λt4 =>
 (if ((t3||t4)==false)=true then Yc a1 0 else some default).bind λt5 =>
 if ((t3||t4)||t5)=true then
  (QL).bind λt7 =>
  some t7
 else
  (Xs a0).bind λt9 =>
  if t9=0 then
   (Q1 (decide (a1.Lo>0)) 1 0).bind λt10 =>
   if t10=0 then
    (Xo a0 a1).bind λt12 =>
    (Q3 t12.1 t12.2).bind λt13 =>
    (Xn a0 a1).bind λt15 =>
    (Q3 t15.1 t15.2).bind λt16 =>
    (qD t13.1 t16.2.1).bind λt18 =>
    some t18
   else
   if t10=1 then
    (Xm a0 a1).bind λt12 =>
    (Q3 t12.1 t12.2).bind λt13 =>
    (Xp a0 a1).bind λt15 =>
    (Q3 t15.1 t15.2).bind λt16 =>
    (qD t13.1 t16.2.1).bind λt18 =>
    some t18
   else
   none
  else
  if t9=1 then
   (Q1 (decide (a1.Lo>0)) 1 0).bind λt10 =>
   if t10=0 then
    (Xp a0 a1).bind λt12 =>
    (Q3 t12.1 t12.2).bind λt13 =>
    (Xn a0 a1).bind λt15 =>
    (Q3 t15.1 t15.2).bind λt16 =>
    (qD t13.1 t16.2.1).bind λt18 =>
    some t18
   else
   if t10=1 then
    (Xm a0 a1).bind λt12 =>
    (Q3 t12.1 t12.2).bind λt13 =>
    (Xo a0 a1).bind λt15 =>
    (Q3 t15.1 t15.2).bind λt16 =>
    (qD t13.1 t16.2.1).bind λt18 =>
    some t18
   else
   none
  else
  if t9=2 then
   (Q1 (decide (a1.Lo>0)) 1 0).bind λt10 =>
   if t10=0 then
    (Xp a0 a1).bind λt12 =>
    (Q3 t12.1 t12.2).bind λt13 =>
    (Xm a0 a1).bind λt15 =>
    (Q3 t15.1 t15.2).bind λt16 =>
    (qD t13.1 t16.2.1).bind λt18 =>
    some t18
   else
   if t10=1 then
    (Xn a0 a1).bind λt12 =>
    (Q3 t12.1 t12.2).bind λt13 =>
    (Xo a0 a1).bind λt15 =>
    (Q3 t15.1 t15.2).bind λt16 =>
    (qD t13.1 t16.2.1).bind λt18 =>
    some t18
   else
   none
  else
  none
def Z6 (a0:Int):Option Int :=
 (if (decide (a0>=4294967296))=true then
  some (Int.fdiv a0 4294967296,32)
 else
  some (a0,0)).bind λ(j4:Int×Int) =>
 (if (decide (j4.1>=65536))=true then
  some (Int.fdiv j4.1 65536,qc (j4.2+16))
 else
  some (j4.1,j4.2)).bind λ(j7:Int×Int) =>
 (if (decide (j7.1>=256))=true then
  some (Int.fdiv j7.1 256,qc (j7.2+8))
 else
  some (j7.1,j7.2)).bind λ(j10:Int×Int) =>
 (qaN (⟨#[0,1,2,2,3,3,3,3,4,4,4,4,4,4,4,4,5,5,5,5,5,5,5,5,5,5,5,5,5,5,5,5,6,6,6,6,6,6,6,6,6,6,6,6,6,6,6,6,6,6,6,6,6,6,6,6,6,6,6,6,6,6,6,6,7,7,7,7,7,7,7,7,7,7,7,7,7,7,7,7,7,7,7,7,7,7,7,7,7,7,7,7,7,7,7,7,7,7,7,7,7,7,7,7,7,7,7,7,7,7,7,7,7,7,7,7,7,7,7,7,7,7,7,7,7,7,7,7,8,8,8,8,8,8,8,8,8,8,8,8,8,8,8,8,8,8,8,8,8,8,8,8,8,8,8,8,8,8,8,8,8,8,8,8,8,8,8,8,8,8,8,8,8,8,8,8,8,8,8,8,8,8,8,8,8,8,8,8,8,8,8,8,8,8,8,8,8,8,8,8,8,8,8,8,8,8,8,8,8,8,8,8,8,8,8,8,8,8,8,8,8,8,8,8,8,8,8,8,8,8,8,8,8,8,8,8,8,8,8,8,8,8,8,8,8,8,8,8,8,8,8,8,8,8,8,8]⟩:ByteArray) (qeV j10.1)).bind λt12 =>
 some (qc (j10.2+(qc t12)))
def XZ.l17 (k0:Nat)(a0:Int)(t8:Int):Nat->Int->Option Int
 | 0,_=>none
 | k+1,x16 =>
  if x16≠0 then
   (some (decide ((qc (Int.tdiv (qc (x16+(qc (Int.tdiv (qc (a0*65536)) x16)))) 2))>=x16))).bind λz21 =>
   if z21=true then
    some (x16)
   else
    XZ.l17 k0 a0 t8 k (qc (Int.tdiv (qc (x16+(qc (Int.tdiv (qc (a0*65536)) x16)))) 2))
  else none
def XZ (k0:Nat)(a0:Int):Option (Int×Int×Int) :=
 if (decide (a0<0))=true then
  some (0,0,4)
 else
  if ((qc (a0*65536))==0)=true then
   some (0,0,0)
  else
   (Z6 (Z9 (qc (a0*65536)))).bind λt8 =>
   if 0<=(qc (Int.tdiv (qc (t8+1)) 2)) then
    (XZ.l17 k0 a0 t8 k0 (qc (1*2 ^ (min (qc (Int.tdiv (qc (t8+1)) 2)).toNat 64)))).bind λ(j11:Int) =>
    if (decide ((qc (j11*j11))<(qc (a0*65536))))=true then
     some (j11,qc (j11+1),0)
    else
     some (j11,j11,0)
   else none
def XH (k0:Nat)(a0:qb):Option (qb×Bool) :=
 (qG a0).bind λt3 =>
 if t3=true then
  some (a0,true)
 else
  if (decide (a0.Hi<0))=true then
   some ((⟨0,0⟩:qb),false)
  else
   (XZ k0 (mx a0.Lo 0)).bind λt8 =>
   (XZ k0 a0.Hi).bind λt10 =>
   (qD t8.1 t10.2.1).bind λt12 =>
   some (t12,true)
def Jw (k0:Nat)(a0:qb):Option qb :=
 if (decide (a0.Lo<0))=true then
  (QL).bind λt4 =>
  some t4
 else
  (XH k0 a0).bind λt6 =>
  some (⟨t6.1.Lo,t6.1.Hi⟩:qb)
def Xc.l14 (k0:Nat)(a0:QF)(a1:List qb)(a2:qb)(j5:List qb):Nat->(List qb)->Int->Option (List qb)
 | 0,_,_=>none
 | k+1,x12,x13 =>
  if (decide (x13<(a0.Out.length:Int)))=true then
   if 0<=x13∧x13<(a0.Out.length:Int) then
    (a0.Out[x13.toNat]?).bind λt18 =>
    if 0<=t18∧t18<(j5.length:Int) then
     (j5[t18.toNat]?).bind λt21 =>
     if 0<=x13∧x13<(x12.length:Int) then
      (x12[x13.toNat]?).bind λt23 =>
      Xc.l14 k0 a0 a1 a2 j5 k (x12.set x13.toNat t21) (qc (x13+1))
     else none
    else none
   else none
  else
   some (x12)
def Xc.l29 (k0:Nat)(a0:QF)(a1:List qb)(a2:qb):Nat->(List qb)->Int->Option (List qb)
 | 0,_,_=>none
 | k+1,x27,x28 =>
  if (decide (x28<(a0.L.length:Int)))=true then
   (if 0<=x28∧x28<(a0.L.length:Int) then
    (a0.L[x28.toNat]?).bind λt36 =>
    (some t36.Op).bind λz37 =>
    if z37=0 then
     none
    else
    if z37=1 then
     if 0<=x28∧x28<(x27.length:Int) then
      (x27[x28.toNat]?).bind λt47 =>
      some ((x27.set x28.toNat (⟨t36.C.Lo,t36.C.Hi⟩:qb)))
     else none
    else
    if z37=2 then
     if 0<=t36.A∧t36.A<(a1.length:Int) then
      (a1[t36.A.toNat]?).bind λt53 =>
      if 0<=x28∧x28<(x27.length:Int) then
       (x27[x28.toNat]?).bind λt55 =>
       some ((x27.set x28.toNat t53))
      else none
     else none
    else
    if z37=3 then
     if 0<=x28∧x28<(x27.length:Int) then
      (x27[x28.toNat]?).bind λt62 =>
      some ((x27.set x28.toNat a2))
     else none
    else
    if z37=4 then
     if 0<=t36.A∧t36.A<(x27.length:Int) then
      (x27[t36.A.toNat]?).bind λt70 =>
      (XW t70).bind λt72 =>
      if 0<=x28∧x28<(x27.length:Int) then
       (x27[x28.toNat]?).bind λt74 =>
       some ((x27.set x28.toNat t72))
      else none
     else none
    else
    if z37=5 then
     if 0<=t36.A∧t36.A<(x27.length:Int) then
      (x27[t36.A.toNat]?).bind λt82 =>
      (XB t82).bind λt84 =>
      if 0<=x28∧x28<(x27.length:Int) then
       (x27[x28.toNat]?).bind λt86 =>
       some ((x27.set x28.toNat t84))
      else none
     else none
    else
    if z37=6 then
     if 0<=t36.A∧t36.A<(x27.length:Int) then
      (x27[t36.A.toNat]?).bind λt94 =>
      (Jw k0 t94).bind λt96 =>
      if 0<=x28∧x28<(x27.length:Int) then
       (x27[x28.toNat]?).bind λt98 =>
       some ((x27.set x28.toNat t96))
      else none
     else none
    else
    if z37=7 then
     if 0<=t36.A∧t36.A<(x27.length:Int) then
      (x27[t36.A.toNat]?).bind λt106 =>
      if 0<=t36.B∧t36.B<(x27.length:Int) then
       (x27[t36.B.toNat]?).bind λt109 =>
       (QP t106 t109).bind λt110 =>
       if 0<=x28∧x28<(x27.length:Int) then
        (x27[x28.toNat]?).bind λt112 =>
        some ((x27.set x28.toNat t110))
       else none
      else none
     else none
    else
    if z37=8 then
     if 0<=t36.A∧t36.A<(x27.length:Int) then
      (x27[t36.A.toNat]?).bind λt120 =>
      if 0<=t36.B∧t36.B<(x27.length:Int) then
       (x27[t36.B.toNat]?).bind λt123 =>
       (Xk t120 t123).bind λt124 =>
       if 0<=x28∧x28<(x27.length:Int) then
        (x27[x28.toNat]?).bind λt126 =>
        some ((x27.set x28.toNat t124))
       else none
      else none
     else none
    else
    if z37=9 then
     if 0<=t36.A∧t36.A<(x27.length:Int) then
      (x27[t36.A.toNat]?).bind λt134 =>
      if 0<=t36.B∧t36.B<(x27.length:Int) then
       (x27[t36.B.toNat]?).bind λt137 =>
       (Q7 t134 t137).bind λt138 =>
       if 0<=x28∧x28<(x27.length:Int) then
        (x27[x28.toNat]?).bind λt140 =>
        some ((x27.set x28.toNat t138))
       else none
      else none
     else none
    else
    if z37=10 then
     if 0<=t36.A∧t36.A<(x27.length:Int) then
      (x27[t36.A.toNat]?).bind λt148 =>
      if 0<=t36.B∧t36.B<(x27.length:Int) then
       (x27[t36.B.toNat]?).bind λt151 =>
       (QY t148 t151).bind λt152 =>
       if 0<=x28∧x28<(x27.length:Int) then
        (x27[x28.toNat]?).bind λt154 =>
        some ((x27.set x28.toNat t152))
       else none
      else none
     else none
    else
    none
   else none).bind λ(j32:List qb) =>
   Xc.l29 k0 a0 a1 a2 k j32 (qc (x28+1))
  else
   some (x27)
def Xc (k0:Nat)(a0:QF)(a1:List qb)(a2:qb):Option (List qb) :=
 if 0<=(a0.L.length:Int)∧(a0.L.length:Int)<1000000 then
  (Xc.l29 k0 a0 a1 a2 k0 (List.replicate (a0.L.length:Int).toNat (⟨0,0⟩:qb)) 0).bind λ(j5:List qb) =>
  if 0<=(a0.Out.length:Int)∧(a0.Out.length:Int)<1000000 then
   (Xc.l14 k0 a0 a1 a2 j5 k0 (List.replicate (a0.Out.length:Int).toNat (⟨0,0⟩:qb)) 0).bind λ(j9:List qb) =>
   some j9
  else none
 else none
def XE (a0:qb)(a1:qb)(q0:qb):Option qb :=
 (Q7 q0 a1).bind λt3 =>
 (QP a0 t3).bind λt4 =>
 some t4
def Qh.l10 (k0:Nat)(a0:List qb)(a1:List qb)(a2_0:qb):Nat->(List qb)->Int->Option (List qb)
 | 0,_,_=>none
 | k+1,x8,x9 =>
  if (decide (x9<(a0.length:Int)))=true then
   if 0<=x9∧x9<(a0.length:Int) then
    (a0[x9.toNat]?).bind λt15 =>
    if 0<=x9∧x9<(a1.length:Int) then
     (a1[x9.toNat]?).bind λt18 =>
     (XE t15 t18 a2_0).bind λt20 =>
     if 0<=x9∧x9<(x8.length:Int) then
      (x8[x9.toNat]?).bind λt22 =>
      Qh.l10 k0 a0 a1 a2_0 k (x8.set x9.toNat t20) (qc (x9+1))
     else none
    else none
   else none
  else
   some (x8)
def Qh (k0:Nat)(a0:List qb)(a1:List qb)(a2_0:qb):Option (List qb) :=
 if 0<=(a0.length:Int)∧(a0.length:Int)<1000000 then
  (Qh.l10 k0 a0 a1 a2_0 k0 (List.replicate (a0.length:Int).toNat (⟨0,0⟩:qb)) 0).bind λ(j5:List qb) =>
  some j5
 else none
def YX (k0:Nat)(a0:QF)(a1:List qb)(a2:List qb)(a3:Q2):Option (List qb) :=
 (qD 0 a3.H).bind λt3 =>
 (qD a3.T (qc (a3.T+a3.H))).bind λt5 =>
 (Xc k0 (⟨a0.N,a0.L,a0.Out⟩:QF) a2 t5).bind λt6 =>
 (Qh k0 a1 t6 t3).bind λt8 =>
 some t8
def ZX (a0:qb)(a1:qb):Option qb :=
 some (⟨mn a0.Lo a1.Lo,mx a0.Hi a1.Hi⟩:qb)
def Qy.l6 (k0:Nat)(a0:List qb):Nat->Int->Option ((Int) ⊕ (Unit))
 | 0,_=>none
 | k+1,x5 =>
  if (decide (x5<(a0.length:Int)))=true then
   if 0<=x5∧x5<(a0.length:Int) then
    (a0[x5.toNat]?).bind λt11 =>
    (qG t11).bind λt12 =>
    if t12=true then
     some (.inl x5)
    else
     Qy.l6 k0 a0 k (qc (x5+1))
   else none
  else
   some (.inr ())
def Qy (k0:Nat)(a0:List qb):Option Int :=
 (Qy.l6 k0 a0 k0 0:Option ((Int) ⊕ (Unit))).bind λj2=>match j2 with
 | .inl r=>some r
 | .inr j2v =>
  some (-1)
def Q9 (k0:Nat)(a0:List qb):Option Bool :=
 (Qy k0 a0).bind λt3 =>
 some (decide (t3>=0))
def XL (k0:Nat)(a0:List qb):Option Bool :=
 (Q9 k0 a0).bind λt3 =>
 some (!t3)
def Yw (a0:qb):Option Int :=
 some (qc (a0.Hi-a0.Lo))
def Q5.l10 (k0:Nat)(a0:List qb):Nat->(List qb)->Int->Option (List qb)
 | 0,_,_=>none
 | k+1,x8,x9 =>
  if (decide (x9<(a0.length:Int)))=true then
   if 0<=x9∧x9<(a0.length:Int) then
    (a0[x9.toNat]?).bind λt14 =>
    (Yw t14).bind λt16 =>
    (qD (qc (t14.Lo-(qc ((qc (Int.tdiv t16 16))+1)))) (qc (t14.Hi+(qc ((qc (Int.tdiv t16 16))+1))))).bind λt18 =>
    if 0<=x9∧x9<(x8.length:Int) then
     (x8[x9.toNat]?).bind λt20 =>
     Q5.l10 k0 a0 k (x8.set x9.toNat t18) (qc (x9+1))
    else none
   else none
  else
   some (x8)
def Q5 (k0:Nat)(a0:List qb):Option (List qb) :=
 if 0<=(a0.length:Int)∧(a0.length:Int)<1000000 then
  (Q5.l10 k0 a0 k0 (List.replicate (a0.length:Int).toNat (⟨0,0⟩:qb)) 0).bind λ(j5:List qb) =>
  some j5
 else none
def YQ (a0:qb)(a1:qb):Option Bool :=
 some ((decide (a1.Lo<=a0.Lo))&&(decide (a0.Hi<=a1.Hi)))
def Xf.l3 (k0:Nat)(q0:List qb)(q1:List qb):Nat->Int->Option (List (qb×qb))
 | 0,_=>none
 | k+1,x2 =>
  if (decide (x2<(q0.length:Int)))=true then
   if 0<=x2∧x2<(q0.length:Int) then
    (q0[x2.toNat]?).bind λt7 =>
    if 0<=x2∧x2<(q1.length:Int) then
     (q1[x2.toNat]?).bind λt10 =>
     (Xf.l3 k0 q0 q1 k (qc (x2+1))).bind λr =>
     some ((t7,t10) :: r)
    else none
   else none
  else
   some []
def Xf (k0:Nat)(q0:List qb)(q1:List qb):Option (List (qb×qb)) :=
 Xf.l3 k0 q0 q1 k0 0
def XK.l5 (k0:Nat)(a0:List qb)(a1:List qb):List (qb×qb)->Option Bool
 | [] =>
  some true
 | x :: zs =>
  (YQ (⟨x.1.Lo,x.1.Hi⟩:qb) (⟨x.2.Lo,x.2.Hi⟩:qb)).bind λt9 =>
  if (!t9)=true then
   some false
  else
   XK.l5 k0 a0 a1 zs
def XK (k0:Nat)(a0:List qb)(a1:List qb):Option Bool :=
 (Xf k0 a0 a1).bind λt4 =>
 XK.l5 k0 a0 a1 t4
def qY.l10 (k0:Nat)(a0:List qb)(a1:List qb):Nat->(List qb)->Int->Option (List qb)
 | 0,_,_=>none
 | k+1,x8,x9 =>
  if (decide (x9<(a0.length:Int)))=true then
   if 0<=x9∧x9<(a0.length:Int) then
    (a0[x9.toNat]?).bind λt15 =>
    if 0<=x9∧x9<(a1.length:Int) then
     (a1[x9.toNat]?).bind λt18 =>
     (ZX t15 t18).bind λt20 =>
     if 0<=x9∧x9<(x8.length:Int) then
      (x8[x9.toNat]?).bind λt22 =>
      qY.l10 k0 a0 a1 k (x8.set x9.toNat t20) (qc (x9+1))
     else none
    else none
   else none
  else
   some (x8)
def qY (k0:Nat)(a0:List qb)(a1:List qb):Option (List qb) :=
 if 0<=(a0.length:Int)∧(a0.length:Int)<1000000 then
  (qY.l10 k0 a0 a1 k0 (List.replicate (a0.length:Int).toNat (⟨0,0⟩:qb)) 0).bind λ(j5:List qb) =>
  some j5
 else none
def Qi.l7 (k0:Nat)(q0:List qb)(q1:QF)(q2:Q2)(t2:List qb)(t3:List qb):Nat->(List qb)->Int->Option (List (List qb×List qb))
 | 0,_,_=>none
 | k+1,x5,x6 =>
  if (decide (x6<8))=true then
   (XL k0 x5).bind λt10 =>
   if (!t10)=true then
    some []
   else
    (Q5 k0 x5).bind λt12 =>
    (XL k0 t12).bind λt14 =>
    if (!t14)=true then
     some []
    else
     (YX k0 (⟨q1.N,q1.L,q1.Out⟩:QF) q0 t12 q2).bind λt16 =>
     (XL k0 t16).bind λt18 =>
     (some (!t18)).bind λz19 =>
     if z19=true then
      some []
     else
     if z19=false then
      ((qY k0 t12 t16).bind λt21 =>
      Qi.l7 k0 q0 q1 q2 t2 t3 k t21 (qc (x6+1))).bind λr =>
      some ((t12,t16) :: r)
     else
     none
  else
   some []
def Qi (k0:Nat)(q0:List qb)(q1:QF)(q2:Q2):Option (List (List qb×List qb)) :=
 (YX k0 (⟨q1.N,q1.L,q1.Out⟩:QF) q0 q0 q2).bind λt2 =>
 (qY k0 q0 t2).bind λt3 =>
 Qi.l7 k0 q0 q1 q2 t2 t3 k0 t3 0
def QV.l8 (k0:Nat)(a0:QF)(a1:List qb)(a2:Q2)(x7:List qb):Option (List qb×Bool) :=
 if 0<x7.length then
  some (x7,true)
 else none
def QV.l6 (k0:Nat)(a0:QF)(a1:List qb)(a2:Q2):List (List qb×List qb)->Option (List qb×Bool)
 | [] =>
  some (([]:List qb),false)
 | x :: zs =>
  (XK k0 x.2 x.1).bind λt14 =>
  if t14=true then
   QV.l8 k0 a0 a1 a2 x.2
  else
   QV.l6 k0 a0 a1 a2 zs
def QV (k0:Nat)(a0:QF)(a1:List qb)(a2:Q2):Option (List qb×Bool) :=
 (Qi k0 a1 (⟨a0.N,a0.L,a0.Out⟩:QF) a2).bind λt5 =>
 QV.l6 k0 a0 a1 a2 t5
def X1 (a0:Int):Option qb :=
 (qD a0 a0).bind λt3 =>
 some t3
def Ym (a0:qb):Option qb :=
 some a0
def Qz.l29 (k0:Nat)(a0:List qb)(a1:List qb)(a2:List qb):Nat->Int->Int->Int->Option (Int×Int)
 | 0,_,_,_=>none
 | k+1,x26,x27,x28 =>
  if (decide (x28<=(a2.length:Int)))=true then
   if 0<=x28∧x28<(a1.length:Int) then
    (a1[x28.toNat]?).bind λt33 =>
    if 0<=qc ((a2.length:Int)-x28)∧qc ((a2.length:Int)-x28)<(a2.length:Int) then
     (a2[(qc ((a2.length:Int)-x28)).toNat]?).bind λt36 =>
     (Q7 t33 t36).bind λt38 =>
     (if (decide (x28>1))=true then
      (QP (⟨x26,x27⟩:qb) t38).bind λt46 =>
      some (t46.Lo,t46.Hi)
     else
      some (t38.Lo,t38.Hi)).bind λ(j41:Int×Int) =>
     Qz.l29 k0 a0 a1 a2 k j41.1 j41.2 (qc (x28+1))
    else none
   else none
  else
   some (x26,x27)
def Qz (k0:Nat)(a0:List qb)(a1:List qb)(a2:List qb):Option qb :=
 if ((a2.length:Int)==0)=true then
  if 0<=(0:Int)∧(0:Int)<(a0.length:Int) then
   (a0[(0:Int).toNat]?).bind λt6 =>
   if 0<=(0:Int)∧(0:Int)<(a1.length:Int) then
    (a1[(0:Int).toNat]?).bind λt9 =>
    (QY t6 t9).bind λt11 =>
    some t11
   else none
  else none
 else
  (Qz.l29 k0 a0 a1 a2 k0 0 0 1).bind λ(j15:Int×Int) =>
  if 0<=(a2.length:Int)∧(a2.length:Int)<(a0.length:Int) then
   (a0[(a2.length:Int).toNat]?).bind λt18 =>
   (Xk t18 (⟨j15.1,j15.2⟩:qb)).bind λt20 =>
   if 0<=(0:Int)∧(0:Int)<(a1.length:Int) then
    (a1[(0:Int).toNat]?).bind λt22 =>
    (QY t20 t22).bind λt24 =>
    some t24
   else none
  else none
def Yv (a0:Int)(a1:Int)(a2:Int):Option (Int×Int×Int) :=
 if ((((decide (a1<(-1073741824)))||(decide (a1>1073741824)))||(decide (a2<1)))||(decide (a2>1073741824)))=true then
  some (0,0,1)
 else
  (X4 (qc (a0*a1)) a2).bind λt5 =>
  some (t5.1,t5.2,0)
def Xz (a0:Bool)(a1:Int)(a2:Int):Option Int :=
 if a0=true then
  some a1
 else
  some a2
def XU (a0:qb)(a1:Int)(a2:Int):Option qb :=
 (qG a0).bind λt3 =>
 if t3=true then
  some a0
 else
  (Xz (decide (a1<0)) a0.Hi a0.Lo).bind λt6 =>
  (Yv t6 a1 a2).bind λt7 =>
  (Xz (decide (a1<0)) a0.Lo a0.Hi).bind λt9 =>
  (Yv t9 a1 a2).bind λt10 =>
  (qD t7.1 t10.2.1).bind λt12 =>
  some t12
def qJ.l12 (k0:Nat)(a1:List qb)(a2:List qb)(a3:Int)(a4:Int)(a5:Int)(t3:qb):Nat->Int->Int->Int->Option (Int×Int)
 | 0,_,_,_=>none
 | k+1,x9,x10,x11 =>
  if (decide (x11<=a4))=true then
   if 0<=x11∧x11<(a1.length:Int) then
    (a1[x11.toNat]?).bind λt16 =>
    if 0<=qc (a5-x11)∧qc (a5-x11)<(a2.length:Int) then
     (a2[(qc (a5-x11)).toNat]?).bind λt19 =>
     (Q7 t16 t19).bind λt21 =>
     (if (decide (x11>a3))=true then
      (QP (⟨x9,x10⟩:qb) t21).bind λt29 =>
      some (t29.Lo,t29.Hi)
     else
      some (t21.Lo,t21.Hi)).bind λ(j24:Int×Int) =>
     qJ.l12 k0 a1 a2 a3 a4 a5 t3 k j24.1 j24.2 (qc (x11+1))
    else none
   else none
  else
   some (x9,x10)
def qJ (k0:Nat)(a1:List qb)(a2:List qb)(a3:Int)(a4:Int)(a5:Int):Option qb :=
 (Ym (⟨0,0⟩:qb)).bind λt3 =>
 (qJ.l12 k0 a1 a2 a3 a4 a5 t3 k0 t3.Lo t3.Hi a3).bind λ(j6:Int×Int) =>
 some (⟨j6.1,j6.2⟩:qb)
def Yi (k0:Nat)(a0:List qb)(a1:List qb):Option qb :=
 if ((a1.length:Int)==0)=true then
  if 0<=(0:Int)∧(0:Int)<(a0.length:Int) then
   (a0[(0:Int).toNat]?).bind λt6 =>
   (XH k0 t6).bind λt7 =>
   if 0<=(0:Int)∧(0:Int)<(a0.length:Int) then
    (a0[(0:Int).toNat]?).bind λt10 =>
    if (decide (t10.Lo>=0))=true then
     some (⟨t7.1.Lo,t7.1.Hi⟩:qb)
    else
     (QL).bind λt13 =>
     some t13
   else none
  else none
 else
  (qJ k0 a1 a1 1 (qc ((a1.length:Int)-1)) (a1.length:Int)).bind λt16 =>
  if 0<=(a1.length:Int)∧(a1.length:Int)<(a0.length:Int) then
   (a0[(a1.length:Int).toNat]?).bind λt19 =>
   (Xk t19 t16).bind λt21 =>
   if 0<=(0:Int)∧(0:Int)<(a1.length:Int) then
    (a1[(0:Int).toNat]?).bind λt23 =>
    (XU t23 2 1).bind λt25 =>
    (QY t21 t25).bind λt26 =>
    some t26
   else none
  else none
def Yl (a0:qb)(a1:Int):Option qb :=
 (XU a0 1 a1).bind λt3 =>
 some t3
def JC:Option qb :=
 (X1 65536).bind λt3 =>
 some t3
def X8 (k0:Nat)(a1:qh)(a2:List (List qb))(a3:List qb)(a4:qb):Option qb :=
 if (a1.Op==4)=true then
  if 0<=a1.A∧a1.A<(a2.length:Int) then
   (a2[a1.A.toNat]?).bind λt7 =>
   if 0<=(a3.length:Int)∧(a3.length:Int)<(t7.length:Int) then
    (t7[(a3.length:Int).toNat]?).bind λt10 =>
    (XW t10).bind λt11 =>
    some t11
   else none
  else none
 else
  if (a1.Op==7)=true then
   if 0<=a1.A∧a1.A<(a2.length:Int) then
    (a2[a1.A.toNat]?).bind λt15 =>
    if 0<=(a3.length:Int)∧(a3.length:Int)<(t15.length:Int) then
     (t15[(a3.length:Int).toNat]?).bind λt18 =>
     if 0<=a1.B∧a1.B<(a2.length:Int) then
      (a2[a1.B.toNat]?).bind λt20 =>
      if 0<=(a3.length:Int)∧(a3.length:Int)<(t20.length:Int) then
       (t20[(a3.length:Int).toNat]?).bind λt22 =>
       (QP t18 t22).bind λt23 =>
       some t23
      else none
     else none
    else none
   else none
  else
   if (a1.Op==8)=true then
    if 0<=a1.A∧a1.A<(a2.length:Int) then
     (a2[a1.A.toNat]?).bind λt27 =>
     if 0<=(a3.length:Int)∧(a3.length:Int)<(t27.length:Int) then
      (t27[(a3.length:Int).toNat]?).bind λt30 =>
      if 0<=a1.B∧a1.B<(a2.length:Int) then
       (a2[a1.B.toNat]?).bind λt32 =>
       if 0<=(a3.length:Int)∧(a3.length:Int)<(t32.length:Int) then
        (t32[(a3.length:Int).toNat]?).bind λt34 =>
        (Xk t30 t34).bind λt35 =>
        some t35
       else none
      else none
     else none
    else none
   else
    if (a1.Op==9)=true then
     if 0<=a1.A∧a1.A<(a2.length:Int) then
      (a2[a1.A.toNat]?).bind λt39 =>
      if 0<=a1.B∧a1.B<(a2.length:Int) then
       (a2[a1.B.toNat]?).bind λt42 =>
       (qJ k0 t39 t42 0 (a3.length:Int) (a3.length:Int)).bind λt43 =>
       some t43
      else none
     else none
    else
     if (a1.Op==5)=true then
      if ((a3.length:Int)==0)=true then
       if 0<=a1.A∧a1.A<(a2.length:Int) then
        (a2[a1.A.toNat]?).bind λt48 =>
        if 0<=(0:Int)∧(0:Int)<(t48.length:Int) then
         (t48[(0:Int).toNat]?).bind λt51 =>
         (XB t51).bind λt52 =>
         some t52
        else none
       else none
      else
       if 0<=a1.A∧a1.A<(a2.length:Int) then
        (a2[a1.A.toNat]?).bind λt55 =>
        if 0<=a1.A∧a1.A<(a2.length:Int) then
         (a2[a1.A.toNat]?).bind λt58 =>
         (qJ k0 t55 t58 0 (a3.length:Int) (a3.length:Int)).bind λt59 =>
         some t59
        else none
       else none
     else
      if (a1.Op==10)=true then
       if 0<=a1.A∧a1.A<(a2.length:Int) then
        (a2[a1.A.toNat]?).bind λt64 =>
        if 0<=a1.B∧a1.B<(a2.length:Int) then
         (a2[a1.B.toNat]?).bind λt67 =>
         (Qz k0 t64 t67 a3).bind λt68 =>
         some t68
        else none
       else none
      else
       if (a1.Op==6)=true then
        if 0<=a1.A∧a1.A<(a2.length:Int) then
         (a2[a1.A.toNat]?).bind λt72 =>
         (Yi k0 t72 a3).bind λt74 =>
         some t74
        else none
       else
        (if ((a1.Op==1)&&((a3.length:Int)==0))=true then
         some (a1.C.Lo,a1.C.Hi)
        else
         if ((a1.Op==3)&&((a3.length:Int)==0))=true then
          some (a4.Lo,a4.Hi)
         else
          if ((a1.Op==3)&&((a3.length:Int)==1))=true then
           (JC).bind λt87 =>
           some (t87.Lo,t87.Hi)
          else
           some (0,0)).bind λ(j78:Int×Int) =>
        (Ym (⟨j78.1,j78.2⟩:qb)).bind λt80 =>
        some t80
def qo.l26 (k0:Nat)(a1:QF)(a2:List qb)(a3:qb)(a4:Int)(j6:List (List qb))(x11:List (List qb))(x12:List (List qb))(x13:Int)(j22:List (List qb)):Nat->(List (List qb))->Int->Option (List (List qb)×List (List qb))
 | 0,_,_=>none
 | k+1,x24,x25 =>
  if (decide (x25<(a1.Out.length:Int)))=true then
   if 0<=x25∧x25<(a1.Out.length:Int) then
    (a1.Out[x25.toNat]?).bind λt30 =>
    if 0<=x25∧x25<(x24.length:Int) then
     (x24[x25.toNat]?).bind λt33 =>
     if 0<=t30∧t30<(j22.length:Int) then
      (j22[t30.toNat]?).bind λt36 =>
      if 0<=x13∧x13<(t36.length:Int) then
       (t36[x13.toNat]?).bind λt39 =>
       (Yl t39 (qc (x13+1))).bind λt41 =>
       if t33.length<1000000 then
        if 0<=x25∧x25<(x24.length:Int) then
         (x24[x25.toNat]?).bind λt44 =>
         qo.l26 k0 a1 a2 a3 a4 j6 x11 x12 x13 j22 k (x24.set x25.toNat (t33++[t41])) (qc (x25+1))
        else none
       else none
      else none
     else none
    else none
   else none
  else
   some (x24,j22)
def qo.l50 (k0:Nat)(a1:QF)(a2:List qb)(a3:qb)(a4:Int)(j6:List (List qb))(x11:List (List qb))(x12:List (List qb))(x13:Int):Nat->(List (List qb))->Int->Option (List (List qb))
 | 0,_,_=>none
 | k+1,x48,x49 =>
  if (decide (x49<(a1.L.length:Int)))=true then
   (if 0<=x49∧x49<(a1.L.length:Int) then
    (a1.L[x49.toNat]?).bind λt57 =>
    if (t57.Op==2)=true then
     if 0<=x49∧x49<(x48.length:Int) then
      (x48[x49.toNat]?).bind λt61 =>
      if 0<=t57.A∧t57.A<(x11.length:Int) then
       (x11[t57.A.toNat]?).bind λt64 =>
       if 0<=x13∧x13<(t64.length:Int) then
        (t64[x13.toNat]?).bind λt67 =>
        if t61.length<1000000 then
         if 0<=x49∧x49<(x48.length:Int) then
          (x48[x49.toNat]?).bind λt71 =>
          some ((x48.set x49.toNat (t61++[t67])))
         else none
        else none
       else none
      else none
     else none
    else
     if 0<=x49∧x49<(x48.length:Int) then
      (x48[x49.toNat]?).bind λt74 =>
      if 0<=x49∧x49<(x48.length:Int) then
       (x48[x49.toNat]?).bind λt77 =>
       (X8 k0 (⟨t57.Op,t57.A,t57.B,(⟨t57.C.Lo,t57.C.Hi⟩:qb)⟩:qh) x48 t77 a3).bind λt78 =>
       if t74.length<1000000 then
        if 0<=x49∧x49<(x48.length:Int) then
         (x48[x49.toNat]?).bind λt81 =>
         some ((x48.set x49.toNat (t74++[t78])))
        else none
       else none
      else none
     else none
   else none).bind λ(j53:List (List qb)) =>
   qo.l50 k0 a1 a2 a3 a4 j6 x11 x12 x13 k j53 (qc (x49+1))
  else
   some (x48)
def qo.l14 (k0:Nat)(a1:QF)(a2:List qb)(a3:qb)(a4:Int)(j6:List (List qb)):Nat->(List (List qb))->(List (List qb))->Int->Option (List (List qb))
 | 0,_,_,_=>none
 | k+1,x11,x12,x13 =>
  if (decide (x13<a4))=true then
   ((qo.l50 k0 a1 a2 a3 a4 j6 x11 x12 x13 k0 x12 0).bind λ(j22:List (List qb)) =>
   qo.l26 k0 a1 a2 a3 a4 j6 x11 x12 x13 j22 k0 x11 0).bind λ(j18:List (List qb)×List (List qb)) =>
   qo.l14 k0 a1 a2 a3 a4 j6 k j18.1 j18.2 (qc (x13+1))
  else
   some (x11)
def qo.l88 (k0:Nat)(a1:QF)(a2:List qb)(a3:qb)(a4:Int):Nat->(List (List qb))->Int->Option (List (List qb))
 | 0,_,_=>none
 | k+1,x86,x87 =>
  if (decide (x87<((List.replicate a1.N.toNat ([]:List qb)).length:Int)))=true then
   if 0<=x87∧x87<(a2.length:Int) then
    (a2[x87.toNat]?).bind λt93 =>
    if 0<=x87∧x87<(x86.length:Int) then
     (x86[x87.toNat]?).bind λt95 =>
     qo.l88 k0 a1 a2 a3 a4 k (x86.set x87.toNat ([t93]:List qb)) (qc (x87+1))
    else none
   else none
  else
   some (x86)
def qo (k0:Nat)(a1:QF)(a2:List qb)(a3:qb)(a4:Int):Option (List (List qb)) :=
 if 0<=a1.N∧a1.N<1000000 then
  if 0<=(a1.L.length:Int)∧(a1.L.length:Int)<1000000 then
   (qo.l88 k0 a1 a2 a3 a4 k0 (List.replicate a1.N.toNat ([]:List qb)) 0).bind λ(j6:List (List qb)) =>
   (qo.l14 k0 a1 a2 a3 a4 j6 k0 j6 (List.replicate (a1.L.length:Int).toNat ([]:List qb)) 0).bind λ(j8:List (List qb)) =>
   some j8
  else none
 else none
def XA (k0:Nat)(a0:QF)(a1:List qb)(a2:qb)(a3:Int):Option (List (List qb)) :=
 (qo k0 (⟨a0.N,a0.L,a0.Out⟩:QF) a1 a2 a3).bind λt3 =>
 some t3
def Yk (a0:Int)(a1:List qb)(q0:Int):Option qb :=
 if 0<=qc (q0+1)∧qc (q0+1)<(a1.length:Int) then
  (a1[(qc (q0+1)).toNat]?).bind λt4 =>
  some t4
 else none
def Qq.l10 (k0:Nat)(a0:List (List qb))(a1_0:Int):Nat->(List qb)->Int->Option (List qb)
 | 0,_,_=>none
 | k+1,x8,x9 =>
  if (decide (x9<(a0.length:Int)))=true then
   if 0<=x9∧x9<(a0.length:Int) then
    (a0[x9.toNat]?).bind λt14 =>
    (Yk x9 t14 a1_0).bind λt16 =>
    if 0<=x9∧x9<(x8.length:Int) then
     (x8[x9.toNat]?).bind λt18 =>
     Qq.l10 k0 a0 a1_0 k (x8.set x9.toNat t16) (qc (x9+1))
    else none
   else none
  else
   some (x8)
def Qq (k0:Nat)(a0:List (List qb))(a1_0:Int):Option (List qb) :=
 if 0<=(a0.length:Int)∧(a0.length:Int)<1000000 then
  (Qq.l10 k0 a0 a1_0 k0 (List.replicate (a0.length:Int).toNat (⟨0,0⟩:qb)) 0).bind λ(j5:List qb) =>
  some j5
 else none
def Y5 (k0:Nat)(a0:QF)(a1:List qb)(a2:Q2)(a3:Int):Option (List qb) :=
 (XA k0 (⟨a0.N,a0.L,a0.Out⟩:QF) a1 (⟨a2.T,qc (a2.T+a2.H)⟩:qb) (qc (a3+1))).bind λt3 =>
 (Qq k0 t3 a3).bind λt5 =>
 some t5
def Zw (a0:Bool)(a1:qb)(a2:qb):Option qb :=
 if a0=true then
  some a1
 else
  some a2
def Xw (a0:qb)(a1:qb):Option (qb×Bool) :=
 (Zw (decide ((mx a0.Lo a1.Lo)<=(mn a0.Hi a1.Hi))) (⟨mx a0.Lo a1.Lo,mn a0.Hi a1.Hi⟩:qb) (⟨0,0⟩:qb)).bind λt5 =>
 some (t5,decide ((mx a0.Lo a1.Lo)<=(mn a0.Hi a1.Hi)))
def YP (a0:qb)(q0:qb):Option qb :=
 (Q7 a0 q0).bind λt3 =>
 some t3
def qz.l31 (k0:Nat)(a0:List (List qb))(a1_0:qb)(x8:List qb)(x9:Int)(t17:List qb)(t20:qb):Nat->Int->Int->Int->Option (Int×Int)
 | 0,_,_,_=>none
 | k+1,x28,x29,x30 =>
  if (decide (x30>=0))=true then
   (YP (⟨x28,x29⟩:qb) a1_0).bind λt34 =>
   if 0<=x30∧x30<(t17.length:Int) then
    (t17[x30.toNat]?).bind λt36 =>
    (QP t34 t36).bind λt37 =>
    qz.l31 k0 a0 a1_0 x8 x9 t17 t20 k t37.Lo t37.Hi (qc (x30-1))
   else none
  else
   some (x28,x29)
def qz.l10 (k0:Nat)(a0:List (List qb))(a1_0:qb):Nat->(List qb)->Int->Option (List qb)
 | 0,_,_=>none
 | k+1,x8,x9 =>
  if (decide (x9<(a0.length:Int)))=true then
   (if 0<=x9∧x9<(a0.length:Int) then
    (a0[x9.toNat]?).bind λt17 =>
    if 0<=qc ((t17.length:Int)-1)∧qc ((t17.length:Int)-1)<(t17.length:Int) then
     (t17[(qc ((t17.length:Int)-1)).toNat]?).bind λt20 =>
     (qz.l31 k0 a0 a1_0 x8 x9 t17 t20 k0 t20.Lo t20.Hi (qc ((t17.length:Int)-2))).bind λ(j23:Int×Int) =>
     if 0<=x9∧x9<(x8.length:Int) then
      (x8[x9.toNat]?).bind λt26 =>
      some ((x8.set x9.toNat (⟨j23.1,j23.2⟩:qb)))
     else none
    else none
   else none).bind λ(j13:List qb) =>
   qz.l10 k0 a0 a1_0 k j13 (qc (x9+1))
  else
   some (x8)
def qz (k0:Nat)(a0:List (List qb))(a1_0:qb):Option (List qb) :=
 if 0<=(a0.length:Int)∧(a0.length:Int)<1000000 then
  (qz.l10 k0 a0 a1_0 k0 (List.replicate (a0.length:Int).toNat (⟨0,0⟩:qb)) 0).bind λ(j5:List qb) =>
  some j5
 else none
def ZJ (k0:Nat)(a0:List (List qb))(a1:qb):Option (List qb) :=
 (qz k0 a0 a1).bind λt3 =>
 some t3
def X0 (a0:Int)(a1:List qb)(q0:List qb):Option (List qb) :=
 if 0<=a0∧a0<(q0.length:Int) then
  (q0[a0.toNat]?).bind λt4 =>
  if a1.length<1000000 then
   some (a1++[t4])
  else none
 else none
def Qo.l10 (k0:Nat)(a0:List (List qb))(a1_0:List qb):Nat->(List (List qb))->Int->Option (List (List qb))
 | 0,_,_=>none
 | k+1,x8,x9 =>
  if (decide (x9<(a0.length:Int)))=true then
   if 0<=x9∧x9<(a0.length:Int) then
    (a0[x9.toNat]?).bind λt14 =>
    (X0 x9 t14 a1_0).bind λt16 =>
    if 0<=x9∧x9<(x8.length:Int) then
     (x8[x9.toNat]?).bind λt18 =>
     Qo.l10 k0 a0 a1_0 k (x8.set x9.toNat t16) (qc (x9+1))
    else none
   else none
  else
   some (x8)
def Qo (k0:Nat)(a0:List (List qb))(a1_0:List qb):Option (List (List qb)) :=
 if 0<=(a0.length:Int)∧(a0.length:Int)<1000000 then
  (Qo.l10 k0 a0 a1_0 k0 (List.replicate (a0.length:Int).toNat ([]:List qb)) 0).bind λ(j5:List (List qb)) =>
  some j5
 else none
def XR (a0:Int)(a1:qb)(q0:List qb):Option qb :=
 if 0<=a0∧a0<(q0.length:Int) then
  (q0[a0.toNat]?).bind λt4 =>
  (Xw a1 t4).bind λt6 =>
  if t6.2=true then
   some (⟨t6.1.Lo,t6.1.Hi⟩:qb)
  else
   if 0<=a0∧a0<(q0.length:Int) then
    (q0[a0.toNat]?).bind λt11 =>
    some t11
   else none
 else none
def Qp.l10 (k0:Nat)(a0:List qb)(a1_0:List qb):Nat->(List qb)->Int->Option (List qb)
 | 0,_,_=>none
 | k+1,x8,x9 =>
  if (decide (x9<(a0.length:Int)))=true then
   if 0<=x9∧x9<(a0.length:Int) then
    (a0[x9.toNat]?).bind λt14 =>
    (XR x9 t14 a1_0).bind λt16 =>
    if 0<=x9∧x9<(x8.length:Int) then
     (x8[x9.toNat]?).bind λt18 =>
     Qp.l10 k0 a0 a1_0 k (x8.set x9.toNat t16) (qc (x9+1))
    else none
   else none
  else
   some (x8)
def Qp (k0:Nat)(a0:List qb)(a1_0:List qb):Option (List qb) :=
 if 0<=(a0.length:Int)∧(a0.length:Int)<1000000 then
  (Qp.l10 k0 a0 a1_0 k0 (List.replicate (a0.length:Int).toNat (⟨0,0⟩:qb)) 0).bind λ(j5:List qb) =>
  some j5
 else none
def X7 (k0:Nat)(a0:List qb)(q0:List qb):Option (List qb) :=
 (Qp k0 a0 q0).bind λt3 =>
 some t3
def YH (k0:Nat)(a0:QF)(a1:List qb)(a2:List qb)(a3:J5):Option (List qb) :=
 (Y5 k0 (⟨a0.N,a0.L,a0.Out⟩:QF) a2 (⟨a3.T,a3.H⟩:Q2) a3.Order).bind λt3 =>
 (X1 a3.T).bind λt5 =>
 (XA k0 (⟨a0.N,a0.L,a0.Out⟩:QF) a1 t5 a3.Order).bind λt6 =>
 (Qo k0 t6 t3).bind λt7 =>
 (ZJ k0 t7 (⟨a3.Part.Lo,a3.Part.Hi⟩:qb)).bind λt9 =>
 (X7 k0 t9 a2).bind λt10 =>
 some t10
def ZQ (k0:Nat)(a0:qX):Option (qX×Bool) :=
 (Q9 k0 a0.Tube).bind λt3 =>
 (if (t3==false)=true then Q9 k0 a0.To else some default).bind λt4 =>
 if (t3||t4)=true then
  some ((⟨0,0,([]:List qb),([]:List qb),([]:List qb),([]:List qb)⟩:qX),false)
 else
  some ((⟨a0.T,a0.H,a0.From,a0.Pre,a0.Tube,a0.To⟩:qX),true)
def QZ (k0:Nat)(a0:Int)(a1:Int)(q0:QF)(q1:List qb)(q2:List qb)(q3:Q2)(q4:Int):Option (List qb) :=
 (YH k0 (⟨q0.N,q0.L,q0.Out⟩:QF) q1 q2 (⟨q3.T,q3.H,(⟨a0,a1⟩:qb),q4⟩:J5)).bind λt3 =>
 some t3
def Yy (k0:Nat)(a0:QF)(a1:List qb)(a2:Q2)(a3:Int):Option (qX×Bool) :=
 (QV k0 (⟨a0.N,a0.L,a0.Out⟩:QF) a1 a2).bind λt3 =>
 if (!t3.2)=true then
  some ((⟨0,0,([]:List qb),([]:List qb),([]:List qb),([]:List qb)⟩:qX),false)
 else
  (QZ k0 0 a2.H (⟨a0.N,a0.L,a0.Out⟩:QF) a1 t3.1 a2 a3).bind λt8 =>
  (QZ k0 a2.H a2.H (⟨a0.N,a0.L,a0.Out⟩:QF) a1 t3.1 a2 a3).bind λt9 =>
  (ZQ k0 (⟨a2.T,a2.H,a1,t3.1,t8,t9⟩:qX)).bind λt10 =>
  some ((⟨t10.1.T,t10.1.H,t10.1.From,t10.1.Pre,t10.1.Tube,t10.1.To⟩:qX),t10.2)
def Yn (a0:qb)(q0:qM):Option Bool :=
 (Yw a0).bind λt3 =>
 some (decide (t3>q0.Wide))
def Qw.l6 (k0:Nat)(a0:List qb)(a1_0:qM):Nat->Int->Option ((Int) ⊕ (Unit))
 | 0,_=>none
 | k+1,x5 =>
  if (decide (x5<(a0.length:Int)))=true then
   if 0<=x5∧x5<(a0.length:Int) then
    (a0[x5.toNat]?).bind λt11 =>
    (Yn t11 a1_0).bind λt12 =>
    if t12=true then
     some (.inl x5)
    else
     Qw.l6 k0 a0 a1_0 k (qc (x5+1))
   else none
  else
   some (.inr ())
def Qw (k0:Nat)(a0:List qb)(a1_0:qM):Option Int :=
 (Qw.l6 k0 a0 a1_0 k0 0:Option ((Int) ⊕ (Unit))).bind λj2=>match j2 with
 | .inl r=>some r
 | .inr j2v =>
  some (-1)
def Xx (k0:Nat)(a0:List qb)(a1_0:qM):Option Bool :=
 (Qw k0 a0 a1_0).bind λt3 =>
 some (decide (t3>=0))
def Zm (k0:Nat)(a0:qM)(a1:qX):Option Bool :=
 (Xx k0 a1.To a0).bind λt4 =>
 (if ((!t4)==true)=true then Xx k0 a1.Tube a0 else some default).bind λt5 =>
 some ((!t4)&&(!t5))
def Je (a0:qM)(a1:Int):Option Int :=
 some (mn (qc (2*a1)) a0.Most)
def Qa.l4 (k0:Nat)(q0:Int)(q1:qM):Nat->Int->Int->Option (List (Int))
 | 0,_,_=>none
 | k+1,x2,x3 =>
  (some (x2==0)).bind λz6 =>
  if z6=true then
   ((Y2 q1 x3).bind λt8 =>
   Qa.l4 k0 q0 q1 k t8.2 t8.1).bind λr =>
   some (x3 :: r)
  else
  if z6=false then
   some []
  else
  none
def Qa (k0:Nat)(q0:Int)(q1:qM):Option (List (Int)) :=
 Qa.l4 k0 q0 q1 k0 0 q0
def Q8.l6 (k0:Nat)(a0:QF)(a1:List qb)(a2:Jg):List (Int)->Option (qX×Int×Int)
 | [] =>
  some ((⟨0,0,([]:List qb),([]:List qb),([]:List qb),([]:List qb)⟩:qX),0,130)
 | x :: zs =>
  (Yy k0 (⟨a0.N,a0.L,a0.Out⟩:QF) a1 (⟨a2.T,x⟩:Q2) a2.Ctrl.Order).bind λt9 =>
  (if ((!t9.2)==false)=true then Zm k0 (⟨a2.Ctrl.Order,a2.Ctrl.First,a2.Ctrl.Least,a2.Ctrl.Most,a2.Ctrl.Wide⟩:qM) (⟨t9.1.T,t9.1.H,t9.1.From,t9.1.Pre,t9.1.Tube,t9.1.To⟩:qX) else some default).bind λt11 =>
  if ((!t9.2)||(!t11))=true then
   Q8.l6 k0 a0 a1 a2 zs
  else
   (if (x==(mn a2.H (qc (a2.Last-a2.T))))=true then
    some (a2.H)
   else
    some (x)).bind λ(j13:Int) =>
   (Je (⟨a2.Ctrl.Order,a2.Ctrl.First,a2.Ctrl.Least,a2.Ctrl.Most,a2.Ctrl.Wide⟩:qM) j13).bind λt15 =>
   some ((⟨t9.1.T,t9.1.H,t9.1.From,t9.1.Pre,t9.1.Tube,t9.1.To⟩:qX),t15,0)
def Q8 (k0:Nat)(a0:QF)(a1:List qb)(a2:Jg):Option (qX×Int×Int) :=
 (Qa k0 (mn a2.H (qc (a2.Last-a2.T))) (⟨a2.Ctrl.Order,a2.Ctrl.First,a2.Ctrl.Least,a2.Ctrl.Most,a2.Ctrl.Wide⟩:qM)).bind λt5 =>
 Q8.l6 k0 a0 a1 a2 t5
def QO.l17 (k0:Nat)(a0:QF)(a1:List qb)(a2:ZV)(t3:Bool)(t4:Bool)(t5:Bool)(t9:Int):Nat->Int->Int->(List qb)->(List qX)->Option ((List qX×Int) ⊕ (List qX))
 | 0,_,_,_,_=>none
 | k+1,x13,x14,x15,x16 =>
  if (decide (x13<a2.Last))=true then
   (Q8 k0 (⟨a0.N,a0.L,a0.Out⟩:QF) x15 (⟨(⟨a2.Ctrl.Order,a2.Ctrl.First,a2.Ctrl.Least,a2.Ctrl.Most,a2.Ctrl.Wide⟩:qM),x13,a2.Last,x14⟩:Jg)).bind λt20 =>
   if (!(t20.2.2==0))=true then
    some (.inl (([]:List qX),t20.2.2))
   else
    if ((x16.length:Int)==256)=true then
     some (.inl (([]:List qX),140))
    else
     if x16.length<1000000 then
      QO.l17 k0 a0 a1 a2 t3 t4 t5 t9 k (qc (t20.1.T+t20.1.H)) t20.2.1 t20.1.To (x16++[(⟨t20.1.T,t20.1.H,t20.1.From,t20.1.Pre,t20.1.Tube,t20.1.To⟩:qX)])
     else none
  else
   some (.inr (x16))
def QO (k0:Nat)(a0:QF)(a1:List qb)(a2:ZV):Option (List qX×Int) :=
 (Zi (⟨a2.Ctrl.Order,a2.Ctrl.First,a2.Ctrl.Least,a2.Ctrl.Most,a2.Ctrl.Wide⟩:qM)).bind λt3 =>
 (if ((!t3)==false)=true then YK a2.T else some default).bind λt4 =>
 (if (((!t3)||(!t4))==false)=true then YK a2.Last else some default).bind λt5 =>
 if ((((!t3)||(!t4))||(!t5))||(decide (a2.T>=a2.Last)))=true then
  some (([]:List qX),1)
 else
  (Zb (⟨a2.Ctrl.Order,a2.Ctrl.First,a2.Ctrl.Least,a2.Ctrl.Most,a2.Ctrl.Wide⟩:qM) (qc (a2.Last-a2.T))).bind λt9 =>
  (QO.l17 k0 a0 a1 a2 t3 t4 t5 t9 k0 a2.T t9 a1 ([]:List qX):Option ((List qX×Int) ⊕ (List qX))).bind λj11=>match j11 with
  | .inl r=>some r
  | .inr j11v =>
   some (j11v,0)
def ZN (a0:Int):Option Int :=
 if ((decide (a0>=1))&&(decide (a0<=3)))=true then
  some 0
 else
  if ((decide (a0>=4))&&(decide (a0<=6)))=true then
   some 1
  else
   if ((decide (a0>=7))&&(decide (a0<=10)))=true then
    some 2
   else
    some (-1)
def XI.l8 (k0:Nat)(a0:List qt):Nat->Int->Int->Option ((Int) ⊕ (Unit))
 | 0,_,_=>none
 | k+1,x6,x7 =>
  if (decide (x7<(a0.length:Int)))=true then
   if 0<=x7∧x7<(a0.length:Int) then
    (a0[x7.toNat]?).bind λt12 =>
    (ZN t12.Op).bind λt14 =>
    if ((qc (x6+(qc (t14-1))))==0)=true then
     some (.inl (qc (x7+1)))
    else
     XI.l8 k0 a0 k (qc (x6+(qc (t14-1)))) (qc (x7+1))
   else none
  else
   some (.inr ())
def XI (k0:Nat)(a0:List qt):Option Int :=
 (XI.l8 k0 a0 k0 1 0:Option ((Int) ⊕ (Unit))).bind λj3=>match j3 with
 | .inl r=>some r
 | .inr j3v =>
  some (qc ((a0.length:Int)+1))
def Xy.l14 (k0:Nat)(a0:List qt)(t9:qt)(t10:Int):Nat->(List (List qt))->Int->Int->Option (List (List qt))
 | 0,_,_,_=>none
 | k+1,x11,x12,x13 =>
  if (decide (x13<t10))=true then
   if 0<=x12∧x12<=(a0.length:Int) then
    (XI k0 (a0.drop x12.toNat)).bind λt18 =>
    if 0<=x12∧x12<=qc (x12+t18)∧qc (x12+t18)<=(a0.length:Int) then
     if x11.length<1000000 then
      Xy.l14 k0 a0 t9 t10 k (x11++[((a0.take (qc (x12+t18)).toNat).drop x12.toNat)]) (qc (x12+t18)) (qc (x13+1))
     else none
    else none
   else none
  else
   some (x11)
def Xy (k0:Nat)(a0:List qt):Option (List (List qt)) :=
 (if 0<=(0:Int)∧(0:Int)<(a0.length:Int) then
  (a0[(0:Int).toNat]?).bind λt9 =>
  (ZN t9.Op).bind λt10 =>
  Xy.l14 k0 a0 t9 t10 k0 ([]:List (List qt)) 1 0
 else none).bind λ(j5:List (List qt)) =>
 some j5
def Xb (a0_0:List qh)(a0_1:List (qh×Int))(a1:qh):Option (Int×List qh×(List (qh×Int))) :=
 (some ((Jl a0_1 (⟨a1.Op,a1.A,a1.B,(⟨a1.C.Lo,a1.C.Hi⟩:qb)⟩:qh)).getD 0)).bind λz3 =>
 if ((Jl a0_1 (⟨a1.Op,a1.A,a1.B,(⟨a1.C.Lo,a1.C.Hi⟩:qb)⟩:qh)).isSome)=true then
  some (z3,a0_0,a0_1)
 else
  if a0_0.length<1000000 then
   if (Jl a0_1 (⟨a1.Op,a1.A,a1.B,(⟨a1.C.Lo,a1.C.Hi⟩:qb)⟩:qh)).isSome=false then
    some ((a0_0.length:Int),(a0_0++[(⟨a1.Op,a1.A,a1.B,(⟨a1.C.Lo,a1.C.Hi⟩:qb)⟩:qh)]),(a0_1++[((⟨a1.Op,a1.A,a1.B,(⟨a1.C.Lo,a1.C.Hi⟩:qb)⟩:qh),(a0_0.length:Int))]))
   else none
  else none
def qx.l24 (k0:Nat)(rec:(List qt)->(List qh)->(List (qh×Int))->Option (Int×List qh×(List (qh×Int))))(a0:List qt)(q1_0_0:List qh)(q1_0_1:List (qh×Int))(t4:qt)(t7:qt)(j9:Int)(t18:List (List qt)):Nat->(List qh)->Int->Int->(List (qh×Int))->Int->Option (List qh×Int×Int×(List (qh×Int)))
 | 0,_,_,_,_,_=>none
 | k+1,x19,x20,x21,x22,x23 =>
  if (decide (x23<(t18.length:Int)))=true then
   (if 0<=x23∧x23<(t18.length:Int) then
    (t18[x23.toNat]?).bind λt34 =>
    (rec t34 x19 x22).bind λt36 =>
    if (x23==0)=true then
     some (t36.2.1,t36.1,x21,t36.2.2)
    else
     some (t36.2.1,x20,t36.1,t36.2.2)
   else none).bind λ(j30:List qh×Int×Int×(List (qh×Int))) =>
   qx.l24 k0 rec a0 q1_0_0 q1_0_1 t4 t7 j9 t18 k j30.1 j30.2.1 j30.2.2.1 j30.2.2.2 (qc (x23+1))
  else
   some (x19,x20,x21,x22)
def qx.body (k0:Nat)(rec:(List qt)->(List qh)->(List (qh×Int))->Option (Int×List qh×(List (qh×Int))))(a0:List qt)(q1_0_0:List qh)(q1_0_1:List (qh×Int)):Option (Int×List qh×(List (qh×Int))) :=
 if 0<=(0:Int)∧(0:Int)<(a0.length:Int) then
  (a0[(0:Int).toNat]?).bind λt4 =>
  if 0<=(0:Int)∧(0:Int)<(a0.length:Int) then
   (a0[(0:Int).toNat]?).bind λt7 =>
   (if (t4.Op==2)=true then
    if 0<=(0:Int)∧(0:Int)<(a0.length:Int) then
     (a0[(0:Int).toNat]?).bind λt45 =>
     some (t45.N)
    else none
   else
    some (0)).bind λ(j9:Int) =>
   ((Xy k0 a0).bind λt18 =>
   qx.l24 k0 rec a0 q1_0_0 q1_0_1 t4 t7 j9 t18 k0 q1_0_0 j9 0 q1_0_1 0).bind λ(j14:List qh×Int×Int×(List (qh×Int))) =>
   (Xb j14.1 j14.2.2.2 (⟨t4.Op,j14.2.1,j14.2.2.1,(⟨t7.C.Lo,t7.C.Hi⟩:qb)⟩:qh)).bind λt16 =>
   some (t16.1,t16.2.1,t16.2.2)
  else none
 else none
def qx:Nat->(List qt)->(List qh)->(List (qh×Int))->Option (Int×List qh×(List (qh×Int)))
 | 0,_,_,_=>none
 | k0+1,a0,q1_0_0,q1_0_1=>qx.body k0 (qx k0) a0 q1_0_0 q1_0_1
def Xe.l20 (k0:Nat)(a0:Ze):Nat->(List qh)->(List Int)->(List (qh×Int))->Int->Option (List qh×List Int×(List (qh×Int)))
 | 0,_,_,_,_=>none
 | k+1,x16,x17,x18,x19 =>
  if (decide (x19<(a0.F.length:Int)))=true then
   if 0<=x19∧x19<(a0.F.length:Int) then
    (a0.F[x19.toNat]?).bind λt24 =>
    (qx k0 t24 x16 x18).bind λt26 =>
    if x17.length<1000000 then
     Xe.l20 k0 a0 k t26.2.1 (x17++[t26.1]) t26.2.2 (qc (x19+1))
    else none
   else none
  else
   some (x16,x17,x18)
def Xe (k0:Nat)(a0:Ze):Option QF :=
 (Xe.l20 k0 a0 k0 ([]:List qh) ([]:List Int) ([]:List (qh×Int)) 0).bind λ(j9:List qh×List Int×(List (qh×Int))) =>
 if (decide ((j9.1.length:Int)>400))=true then
  some (⟨0,([]:List qh),([]:List Int)⟩:QF)
 else
  some (⟨(a0.F.length:Int),j9.1,j9.2.1⟩:QF)
def Y4 (a0:qb):Option Ze :=
 some (⟨([(⟨#[120]⟩:ByteArray)]:List ByteArray),([([(⟨1,0,a0⟩:qt)]:List qt)]:List (List qt))⟩:Ze)
def Ji (a0:List qX):Option (List qb×Int×Bool) :=
 if ((a0.length:Int)==0)=true then
  some (([]:List qb),0,false)
 else
  if 0<=qc ((a0.length:Int)-1)∧qc ((a0.length:Int)-1)<(a0.length:Int) then
   (a0[(qc ((a0.length:Int)-1)).toNat]?).bind λt6 =>
   some (t6.To,qc (t6.T+t6.H),true)
  else none
def Zq (a0:Int)(q0:List qX)(q1:Int):Option Bool :=
 if 0<=a0∧a0<(q0.length:Int) then
  (q0[a0.toNat]?).bind λt4 =>
  some (decide (t4.T>q1))
 else none
def QK.l8 (k0:Nat)(a0:Int)(a1_0:List qX)(a1_1:Int):Nat->Int->Int->Option Int
 | 0,_,_=>none
 | k+1,x6,x7 =>
  if (decide (x6<x7))=true then
   (Zq (qc (Int.fdiv (Z9 (qc (x6+x7))) 2)) a1_0 a1_1).bind λt12 =>
   if (!t12)=true then
    QK.l8 k0 a0 a1_0 a1_1 k (qc ((qc (Int.fdiv (Z9 (qc (x6+x7))) 2))+1)) x7
   else
    QK.l8 k0 a0 a1_0 a1_1 k x6 (qc (Int.fdiv (Z9 (qc (x6+x7))) 2))
  else
   some (x6)
def QK (k0:Nat)(a0:Int)(a1_0:List qX)(a1_1:Int):Option Int :=
 (QK.l8 k0 a0 a1_0 a1_1 k0 0 a0).bind λ(j4:Int) =>
 some j4
def Jh (k0:Nat)(a0:List qX)(a1:Int):Option (List qb×Bool) :=
 (Ji a0).bind λt3 =>
 (some (!t3.2.2)).bind λz5 =>
 if z5=true then
  some (([]:List qb),false)
 else
 if z5=false then
  if 0<=(0:Int)∧(0:Int)<(a0.length:Int) then
   (a0[(0:Int).toNat]?).bind λt7 =>
   if ((decide (a1<t7.T))||(decide (a1>t3.2.1)))=true then
    some (([]:List qb),false)
   else
    (QK k0 (a0.length:Int) a0 a1).bind λt11 =>
    if 0<=qc (t11-1)∧qc (t11-1)<(a0.length:Int) then
     (a0[(qc (t11-1)).toNat]?).bind λt14 =>
     if (t14.T==a1)=true then
      if 0<=qc (t11-1)∧qc (t11-1)<(a0.length:Int) then
       (a0[(qc (t11-1)).toNat]?).bind λt18 =>
       some (t18.From,true)
      else none
     else
      if (a1==t3.2.1)=true then
       some (t3.1,true)
      else
       if 0<=qc (t11-1)∧qc (t11-1)<(a0.length:Int) then
        (a0[(qc (t11-1)).toNat]?).bind λt23 =>
        some (t23.Tube,true)
       else none
    else none
  else none
 else
 none
def Q4 (a0:Int):Option qb :=
 some (⟨qc (a0*65536),qc (a0*65536)⟩:qb)
def XS (k0:Nat) : Option Bool :=
 (Q4 2).bind λt3 =>
 (Y4 t3).bind λt4 =>
 (Xe k0 t4).bind λt5 =>
 (Q4 1).bind λt6 =>
 (Xu 2 0 31).bind λt7 =>
 (QO k0 t5 ([t6]:List qb) t7).bind λt8 =>
 (Ji t8.1).bind λt10 =>
 (Jh k0 t8.1 131072).bind λt12 =>
 if (((t10.1.length:Int)!=1)||((t12.1.length:Int)!=1))=true then
  some false
 else
  if ((((t8.2==0)&&t10.2.2)&&(t10.2.1==131072))==true)=true->0<=(0:Int)∧(0:Int)<(t10.1.length:Int) then
   (if ((((t8.2==0)&&t10.2.2)&&(t10.2.1==131072))==true)=true then t10.1[(0:Int).toNat]? else some default).bind λt17 =>
   (if ((((t8.2==0)&&t10.2.2)&&(t10.2.1==131072))==true)=true then Q4 5 else some default).bind λt19 =>
   (some ((((t8.2==0)&&t10.2.2)&&(t10.2.1==131072))&&((t17.Lo==t19.Lo)&&((t17.Hi==t19.Hi)&&true)))).bind λz20 =>
   if ((z20&&t12.2)==true)=true->0<=(0:Int)∧(0:Int)<(t12.1.length:Int) then
    (if ((z20&&t12.2)==true)=true then t12.1[(0:Int).toNat]? else some default).bind λt22 =>
    (if ((z20&&t12.2)==true)=true then Q4 5 else some default).bind λt24 =>
    some ((z20&&t12.2)&&((t22.Lo==t24.Lo)&&((t22.Hi==t24.Hi)&&true)))
   else none
  else none
def YL (a0:qb):Option qb :=
 some (⟨mn (Int.tmod a0.Lo 16777216) (Int.tmod a0.Hi 16777216),mx (Int.tmod a0.Lo 16777216) (Int.tmod a0.Hi 16777216)⟩:qb)
def XQ (a0:Int):Option Bool :=
 some ((decide (a0>(-2147483648)))&&(decide (a0<2147483648)))
def YG:Option qb :=
 some (⟨(-2147483648),2147483648⟩:qb)
def Y6 (a0:Int)(a1:Int):Option qb :=
 (XQ a0).bind λt3 =>
 (if ((!t3)==false)=true then XQ a1 else some default).bind λt4 =>
 if ((!t3)||(!t4))=true then
  (YG).bind λt6 =>
  some t6
 else
  some (⟨a0,a1⟩:qb)
def YM (a0:Int):Option qb :=
 (Y6 a0 a0).bind λt3 =>
 some t3
def XY (a0:qb):Option (List qt) :=
 some ([(⟨1,0,a0⟩:qt)]:List qt)
def Xv (a0:Int):Option Int :=
 if ((decide (a0<1))||(decide (a0>10)))=true then
  some (-1)
 else
  if (decide (a0<=3))=true then
   some 0
  else
   if (decide (a0<=6))=true then
    some 1
   else
    some 2
def Ya (a0:qb)(a1:Int):Option qb :=
 if a1≠0 then
  if a1≠0 then
   some (⟨Int.tmod a0.Lo 1048576,qc ((Int.tmod a0.Lo 1048576)+(Int.tmod (qc ((Int.tmod a0.Hi a1)+a1)) a1))⟩:qb)
  else none
 else none
def Yo (a0:Int)(a1:List qt):Option (List qt) :=
 if a1.length<1000000∧([(⟨a0,0,(⟨0,0⟩:qb)⟩:qt)]:List qt).length<1000000 then
  some (([(⟨a0,0,(⟨0,0⟩:qb)⟩:qt)]:List qt)++a1)
 else none
def Ye (a0:Int)(a1:List qt)(a2:List qt):Option (List qt) :=
 if a1.length<1000000∧([(⟨a0,0,(⟨0,0⟩:qb)⟩:qt)]:List qt).length<1000000 then
  if a2.length<1000000∧(([(⟨a0,0,(⟨0,0⟩:qb)⟩:qt)]:List qt)++a1).length<1000000 then
   some ((([(⟨a0,0,(⟨0,0⟩:qb)⟩:qt)]:List qt)++a1)++a2)
  else none
 else none
def qF.body (k0:Nat)(rec:XX->Int->Option (List qt×XX))(a0:XX)(a1:Int):Option (List qt×XX) :=
 if ((a0.raw.length:Int)==0)=true then
  (YM 65536).bind λt4 =>
  (XY t4).bind λt5 =>
  some (t5,(⟨a0.raw,a0.n⟩:XX))
 else
  if 0<=(0:Int)∧(0:Int)<(a0.raw.length:Int) then
   (a0.raw[(0:Int).toNat]?).bind λt8 =>
   if 0<=(1:Int)∧(1:Int)<=(a0.raw.length:Int) then
    (if (((qc (1+(Int.tmod (QQ .i64 t8.Op 255) 10)))==1)==false)=true then Xv (qc (1+(Int.tmod (QQ .i64 t8.Op 255) 10))) else some default).bind λt13 =>
    if (((qc (1+(Int.tmod (QQ .i64 t8.Op 255) 10)))==1)||((decide (t13>0))&&(decide (a1<2))))=true then
     (Ya (⟨t8.C.Lo,t8.C.Hi⟩:qb) (qc (1+(qc ((QQ .i64 t8.N 255)*(QQ .i64 t8.N 1)))))).bind λt15 =>
     (XY t15).bind λt16 =>
     some (t16,(⟨(a0.raw.drop (1:Int).toNat),a0.n⟩:XX))
    else
     if ((qc (1+(Int.tmod (QQ .i64 t8.Op 255) 10)))==2)=true then
      if a0.n≠0 then
       some (([(⟨2,Int.tmod (QQ .i64 t8.N 255) a0.n,(⟨0,0⟩:qb)⟩:qt)]:List qt),(⟨(a0.raw.drop (1:Int).toNat),a0.n⟩:XX))
      else none
     else
      if ((qc (1+(Int.tmod (QQ .i64 t8.Op 255) 10)))==3)=true then
       some (([(⟨3,0,(⟨0,0⟩:qb)⟩:qt)]:List qt),(⟨(a0.raw.drop (1:Int).toNat),a0.n⟩:XX))
      else
       (Xv (qc (1+(Int.tmod (QQ .i64 t8.Op 255) 10)))).bind λt23 =>
       if (t23==1)=true then
        (rec (⟨(a0.raw.drop (1:Int).toNat),a0.n⟩:XX) (qc (a1-1))).bind λt25 =>
        (Yo (qc (1+(Int.tmod (QQ .i64 t8.Op 255) 10))) t25.1).bind λt26 =>
        some (t26,(⟨t25.2.raw,t25.2.n⟩:XX))
       else
        (rec (⟨(a0.raw.drop (1:Int).toNat),a0.n⟩:XX) (qc (a1-1))).bind λt28 =>
        (rec (⟨t28.2.raw,t28.2.n⟩:XX) (qc (a1-1))).bind λt30 =>
        (Ye (qc (1+(Int.tmod (QQ .i64 t8.Op 255) 10))) t28.1 t30.1).bind λt31 =>
        some (t31,(⟨t30.2.raw,t30.2.n⟩:XX))
   else none
  else none
def qF:Nat->XX->Int->Option (List qt×XX)
 | 0,_,_=>none
 | k0+1,a0,a1=>qF.body k0 (qF k0) a0 a1
def X9 (k0:Nat)(a0:List qt)(a1:Int)(a2:Int):Option (List qt) :=
 if 0<=mn (a0.length:Int) a1∧mn (a0.length:Int) a1<=(a0.length:Int) then
  (qF k0 (⟨(a0.take (mn (a0.length:Int) a1).toNat),a2⟩:XX) 5).bind λt5 =>
  some t5.1
 else none
def qU.l11 (k0:Nat)(a0:List (List qt))(a1:Int)(a2:Int):Nat->(List ByteArray)->(List (List qt))->Int->Option (List ByteArray×List (List qt))
 | 0,_,_,_=>none
 | k+1,x8,x9,x10 =>
  if (decide (x10<a2))=true then
   (if (decide (x10<(a0.length:Int)))=true then
    if 0<=x10∧x10<(a0.length:Int) then
     (a0[x10.toNat]?).bind λt27 =>
     some (t27)
    else none
   else
    some (([]:List qt))).bind λ(j15:List qt) =>
   if 0<=x10∧x10<6 then
    ([(⟨#[120]⟩:ByteArray),(⟨#[121]⟩:ByteArray),(⟨#[118,120]⟩:ByteArray),(⟨#[118,121]⟩:ByteArray),(⟨#[97,49]⟩:ByteArray),(⟨#[122,122]⟩:ByteArray)][x10.toNat]?).bind λt18 =>
    if x8.length<1000000 then
     (X9 k0 j15 a1 a2).bind λt21 =>
     if x9.length<1000000 then
      qU.l11 k0 a0 a1 a2 k (x8++[t18]) (x9++[t21]) (qc (x10+1))
     else none
    else none
   else none
  else
   some (x8,x9)
def qU (k0:Nat)(a0:List (List qt))(a1:Int)(a2:Int):Option Ze :=
 (qU.l11 k0 a0 a1 a2 k0 ([]:List ByteArray) ([]:List (List qt)) 0).bind λ(j5:List ByteArray×List (List qt)) =>
 some (⟨j5.1,j5.2⟩:Ze)
def q8.l11 (k0:Nat)(a0:YR):Nat->(List qb)->Int->Option (List qb)
 | 0,_,_=>none
 | k+1,x9,x10 =>
  if (decide (x10<(qc (1+(qc (Int.tmod a0.N 3))))))=true then
   (if (decide (x10<(a0.X.length:Int)))=true then
    if 0<=x10∧x10<(a0.X.length:Int) then
     (a0.X[x10.toNat]?).bind λt23 =>
     (YL t23).bind λt24 =>
     some (t24.Lo,t24.Hi)
    else none
   else
    some (0,0)).bind λ(j16:Int×Int) =>
   if x9.length<1000000 then
    q8.l11 k0 a0 k (x9++[(⟨j16.1,j16.2⟩:qb)]) (qc (x10+1))
   else none
  else
   some (x9)
def q8 (k0:Nat)(a0:YR):Option (Ze×List qb) :=
 (q8.l11 k0 a0 k0 ([]:List qb) 0).bind λ(j5:List qb) =>
 (qU k0 a0.L 7 (qc (1+(qc (Int.tmod a0.N 3))))).bind λt7 =>
 some ((⟨t7.Names,t7.F⟩:Ze),j5)
def Xr.l6 (k0:Nat)(a0:List qb)(a1:List qb):List (qb×qb)->(List qb)->Option (List qb×Bool)
 | [],x5 =>
  some (x5,true)
 | x :: zs,x5 =>
  (Xw (⟨x.1.Lo,x.1.Hi⟩:qb) (⟨x.2.Lo,x.2.Hi⟩:qb)).bind λt10 =>
  if (!t10.2)=true then
   some ([],false)
  else
   if x5.length<1000000 then
    Xr.l6 k0 a0 a1 zs (x5++[(⟨t10.1.Lo,t10.1.Hi⟩:qb)])
   else none
def Xr (k0:Nat)(a0:List qb)(a1:List qb):Option (List qb×Bool) :=
 if a0.length<=a1.length∧a0.length<1000000 then
  Xr.l6 k0 a0 a1 (a0.zip a1) ([]:List qb)
 else none
def QC.l10 (k0:Nat)(a0:List Int):Nat->(List qb)->Int->Option (List qb)
 | 0,_,_=>none
 | k+1,x8,x9 =>
  if (decide (x9<(a0.length:Int)))=true then
   if 0<=x9∧x9<(a0.length:Int) then
    (a0[x9.toNat]?).bind λt14 =>
    (X1 t14).bind λt16 =>
    if 0<=x9∧x9<(x8.length:Int) then
     (x8[x9.toNat]?).bind λt18 =>
     QC.l10 k0 a0 k (x8.set x9.toNat t16) (qc (x9+1))
    else none
   else none
  else
   some (x8)
def QC (k0:Nat)(a0:List Int):Option (List qb) :=
 if 0<=(a0.length:Int)∧(a0.length:Int)<1000000 then
  (QC.l10 k0 a0 k0 (List.replicate (a0.length:Int).toNat (⟨0,0⟩:qb)) 0).bind λ(j5:List qb) =>
  some j5
 else none
def Jy (k0:Nat)(a0:List Int):Option (List qb) :=
 (QC k0 a0).bind λt3 =>
 some t3
def XG (a0:qb):Option Bool :=
 some ((a0.Lo==(-2147483648))&&(a0.Hi==2147483648))
def q9.l9 (k0:Nat)(a0:List qb)(a1:List Int):Nat->(List Int)->Int->Option (List Int)
 | 0,_,_=>none
 | k+1,x7,x8 =>
  if (decide (x8<(a0.length:Int)))=true then
   ((if (decide (x8<(a1.length:Int)))=true then
    if 0<=x8∧x8<(a1.length:Int) then
     (a1[x8.toNat]?).bind λt36 =>
     some (qc t36)
    else none
   else
    some (0)).bind λ(j16:Int) =>
   if 0<=x8∧x8<(a0.length:Int) then
    (a0[x8.toNat]?).bind λt19 =>
    (XG t19).bind λt20 =>
    if t20=true then
     if x7.length<1000000 then
      some ((x7++[j16]))
     else none
    else
     if 0<=x8∧x8<(a0.length:Int) then
      (a0[x8.toNat]?).bind λt25 =>
      if 0<=x8∧x8<(a0.length:Int) then
       (a0[x8.toNat]?).bind λt28 =>
       if 0<=x8∧x8<(a0.length:Int) then
        (a0[x8.toNat]?).bind λt30 =>
        if x7.length<1000000 then
         some ((x7++[qc (t25.Lo+(qc (Int.tdiv (qc ((qc (t28.Hi-t30.Lo))*j16)) 65535)))]))
        else none
       else none
      else none
     else none
   else none).bind λ(j12:List Int) =>
   q9.l9 k0 a0 a1 k j12 (qc (x8+1))
  else
   some (x7)
def q9 (k0:Nat)(a0:List qb)(a1:List Int):Option (List Int) :=
 (q9.l9 k0 a0 a1 k0 ([]:List Int) 0).bind λ(j4:List Int) =>
 some j4
def QG (k0:Nat)(a0:YR)(a1:List Int)(a2:Int):Option Bool :=
 (XS k0).bind λt3 =>
 (q8 k0 (⟨a0.L,a0.X,(⟨a0.T.Lo,a0.T.Hi⟩:qb),(⟨a0.G.T,a0.G.H⟩:Q2),a0.N,a0.K,a0.S⟩:YR)).bind λt5 =>
 (Xe k0 (⟨t5.1.Names,t5.1.F⟩:Ze)).bind λt7 =>
 (Xu a0.K 0 15).bind λt9 =>
 (QO k0 (⟨t7.N,t7.L,t7.Out⟩:QF) t5.2 (⟨(⟨t9.Ctrl.Order,t9.Ctrl.First,t9.Ctrl.Least,t9.Ctrl.Most,t9.Ctrl.Wide⟩:qM),t9.T,t9.Last⟩:ZV)).bind λt11 =>
 (q9 k0 t5.2 a1).bind λt13 =>
 (Jy k0 t13).bind λt14 =>
 (QO k0 (⟨t7.N,t7.L,t7.Out⟩:QF) t14 (⟨(⟨t9.Ctrl.Order,t9.Ctrl.First,t9.Ctrl.Least,t9.Ctrl.Most,t9.Ctrl.Wide⟩:qM),t9.T,t9.Last⟩:ZV)).bind λt15 =>
 if ((t11.2!=0)||(t15.2!=0))=true then
  some t3
 else
  (Jh k0 t11.1 (qc (t9.T+(qc (Int.tdiv (qc ((qc (t9.Last-t9.T))*(qc a2))) 65535))))).bind λt20 =>
  (Jh k0 t15.1 (qc (t9.T+(qc (Int.tdiv (qc ((qc (t9.Last-t9.T))*(qc a2))) 65535))))).bind λt22 =>
  if (((!t20.2)||(!t22.2))||((t20.1.length:Int)!=(t22.1.length:Int)))=true then
   some false
  else
   (Xr k0 t20.1 t22.1).bind λt26 =>
   if ((t3&&t26.2)==true)=true->0<=(0:Int)∧(0:Int)<(t20.1.length:Int) then
    (if ((t3&&t26.2)==true)=true then t20.1[(0:Int).toNat]? else some default).bind λt29 =>
    (if ((t3&&t26.2)==true)=true then qG t29 else some default).bind λt30 =>
    some ((t3&&t26.2)&&(!t30))
   else none
def QG.Pure:Prop :=
 ∀ (c0_0:List (List qt)) (c0_1:List qb) (c0_2:Int) (c0_3:Int) (c0_4:Int) (c0_5:Int) (c0_6:Int) (c0_7:Int) (c0_8:List Int) (c1_0:List Int) (c2_0:Int),(∀ x ∈ c0_0,∀ y ∈ x,((-9223372036854775808)<=y.Op∧y.Op<=9223372036854775807)∧((-9223372036854775808)<=y.N∧y.N<=9223372036854775807)∧((-9223372036854775808)<=y.C.Lo∧y.C.Lo<=9223372036854775807)∧((-9223372036854775808)<=y.C.Hi∧y.C.Hi<=9223372036854775807))->(∀ y ∈ c0_1,((-9223372036854775808)<=y.Lo∧y.Lo<=9223372036854775807)∧((-9223372036854775808)<=y.Hi∧y.Hi<=9223372036854775807))->((-9223372036854775808)<=c0_2∧c0_2<=9223372036854775807)->((-9223372036854775808)<=c0_3∧c0_3<=9223372036854775807)->((-9223372036854775808)<=c0_4∧c0_4<=9223372036854775807)->((-9223372036854775808)<=c0_5∧c0_5<=9223372036854775807)->(0<=c0_6∧c0_6<=255)->(0<=c0_7∧c0_7<=255)->(∀ y ∈ c0_8,((-128)<=y∧y<=127))->(∀ y ∈ c1_0,(0<=y∧y<=65535))->(0<=c2_0∧c2_0<=65535) -> ∃ k0:Nat,QG k0 (⟨c0_0,c0_1,(⟨c0_2,c0_3⟩:qb),(⟨c0_4,c0_5⟩:Q2),c0_6,c0_7,c0_8⟩:YR) c1_0 c2_0=some true
end Go.Proofs.YtpmgpcklieincaaGreatDoor
