/- The program's functions as plain Lean functions, printed out of the program by a program of this session. -/
import GoSem.Core.View
import Derived.Test.YtpmgpcklieincaaGreatDoorSxAll0
set_option linter.unusedVariables false
namespace Go.Proofs.YtpmgpcklieincaaGreatDoor
open Go.Sx
abbrev qc (n:Int):Int:=Go.IntKind.wrap .i64 n
abbrev Z3 (n:Int):Int:=Go.IntKind.wrap .u64 n
abbrev qej (n:Int):Int:=Go.IntKind.wrap .u8 n
abbrev mn (x y:Int):Int:=if y<x then y else x
abbrev mx (x y:Int):Int:=if y>x then y else x
def QO (k:Go.IntKind)(x y:Int):Int:=k.wrap ((BitVec.ofInt k.bits x) &&& (BitVec.ofInt k.bits y)).toNat
def qa6 (s:ByteArray)(i:Int):Option Int:=if h:0<=i∧i<s.size then some ((s[i.toNat]'(by omega)).toNat:Int) else none
structure qb where
 Lo:Int
 Hi:Int
deriving Inhabited,DecidableEq
structure qJ where
 Order:Int
 First:Int
 Least:Int
 Most:Int
 Wide:Int
deriving Inhabited,DecidableEq
structure qh where
 Op:Int
 A:Int
 B:Int
 C:qb
deriving Inhabited,DecidableEq
structure QE where
 N:Int
 L:List qh
 Out:List Int
deriving Inhabited,DecidableEq
structure Q0 where
 T:Int
 H:Int
deriving Inhabited,DecidableEq
structure ZQ where
 Ctrl:qJ
 T:Int
 Last:Int
deriving Inhabited,DecidableEq
structure JV where
 T:Int
 H:Int
 Part:qb
 Order:Int
deriving Inhabited,DecidableEq
structure qW where
 T:Int
 H:Int
 From:List qb
 Pre:List qb
 Tube:List qb
 To:List qb
deriving Inhabited,DecidableEq
structure Jc where
 Ctrl:qJ
 T:Int
 Last:Int
 H:Int
deriving Inhabited,DecidableEq
structure qt where
 Op:Int
 N:Int
 C:qb
deriving Inhabited,DecidableEq
structure Zc where
 Names:List ByteArray
 F:List (List qt)
deriving Inhabited,DecidableEq
structure XS where
 raw:List qt
 n:Int
deriving Inhabited,DecidableEq
structure YM where
 L:List (List qt)
 X:List qb
 T:qb
 G:Q0
 N:Int
 K:Int
 S:List Int
deriving Inhabited,DecidableEq
def Yn (a0:Int):Option qJ :=
 some (⟨qc (1+(qc (Int.tmod a0 3))),4096,1024,16384,16777216⟩:qJ)
def Q2 (a0:Int)(a1:Int)(a2:Int):Option ZQ :=
 (Yn a0).bind λt4 =>
 (some (qc ((qc ((qc a1)*65536))+(qc ((qc (1+(qc (Int.tmod a2 64))))*4096))))).bind λz5 =>
 some (⟨t4,qc ((qc a1)*65536),z5⟩:ZQ)
def Ze (a0:qJ):Option Bool :=
 (some (((decide (1<=a0.Least))&&(decide (a0.Least<=a0.First)))&&(decide (a0.First<=a0.Most)))).bind λz3 =>
 (some (((decide (a0.Order>=1))&&(decide (a0.Order<8)))&&(z3&&(decide (a0.Most<2147483648))))).bind λz5 =>
 some ((z5&&(decide (a0.Wide>=1)))&&(decide (a0.Wide<2147483648)))
def YG (a0:Int):Option Bool :=
 some ((decide ((-2147483648)<a0))&&(decide (a0<2147483648)))
def Y6 (a0:qJ)(a1:Int):Option Int :=
 some (mn a0.First a1)
def YZ (a0:qJ)(a1:Int):Option (Int×Int) :=
 if (decide ((qc (Int.tdiv a1 2))<a0.Least))=true then
  some (0,130)
 else
  some (qc (Int.tdiv a1 2),0)
def QG:Option qb :=
 some (⟨(-2147483648),2147483648⟩:qb)
def qD (a0:Int)(a1:Int):Option qb :=
 (some (((decide (a0<=(-2147483648)))||(decide (a1>=2147483648)))||(decide (a0>=2147483648)))).bind λz3 =>
 if (z3||(decide (a1<=(-2147483648))))=true then
  (QG).bind λt5 =>
  some t5
 else
  some (⟨a0,a1⟩:qb)
def qN (a0:qb):Option Bool :=
 (QG).bind λt3 =>
 some ((a0.Lo==t3.Lo)&&((a0.Hi==t3.Hi)&&true))
def QM (a0:qb)(a1:qb):Option qb :=
 (qN a0).bind λt3 =>
 (if (t3==false)=true then qN a1 else some default).bind λt4 =>
 if (t3||t4)=true then
  (QG).bind λt6 =>
  some t6
 else
  (qD (qc (a0.Lo+a1.Lo)) (qc (a0.Hi+a1.Hi))).bind λt8 =>
  some t8
def Zh (a0:Int):Option Int :=
 some (mn a0 1)
def Xq (a0:Int)(a1:Int):Option (Int×Int) :=
 if a1≠0 then
  if a1≠0 then
   (if (decide ((Int.tmod a0 a1)<0))=true then
    some (qc ((qc (Int.tdiv a0 a1))-1),qc ((Int.tmod a0 a1)+a1))
   else
    some (qc (Int.tdiv a0 a1),Int.tmod a0 a1)).bind λ(j7:Int×Int) =>
   (Zh j7.2).bind λt9 =>
   some (j7.1,qc (j7.1+t9))
  else none
 else none
def XX (a0:Int)(a1:Int):Option (Int×Int) :=
 (if (decide (a1<0))=true then
  some (qc (0-a0),qc (0-a1))
 else
  some (a0,a1)).bind λ(j4:Int×Int) =>
 (Xq j4.1 j4.2).bind λt6 =>
 some (t6.1,t6.2)
def Qb (a0:Int)(a1:Int):Option (Int×Int) :=
 (XX (qc (a0*a1)) 65536).bind λt3 =>
 some (t3.1,t3.2)
def Zo (a0:qb):Option Int :=
 some (mx a0.Hi (qc (0-a0.Lo)))
def Xz (a0:qb):Option qb :=
 (qN a0).bind λt3 =>
 if t3=true then
  some a0
 else
  (Zo a0).bind λt6 =>
  (Qb (mx (mx a0.Lo (qc (0-a0.Hi))) 0) (mx (mx a0.Lo (qc (0-a0.Hi))) 0)).bind λt8 =>
  (Qb t6 t6).bind λt10 =>
  (qD t8.1 t10.2).bind λt12 =>
  some t12
def XN (a0:qb):Option qb :=
 some (⟨qc (0-a0.Hi),qc (0-a0.Lo)⟩:qb)
def Xh (a0:qb)(a1:qb):Option qb :=
 (XN a1).bind λt3 =>
 (QM a0 t3).bind λt4 =>
 some t4
def Xo (a0:qb):Option Int :=
 if (decide (a0.Hi<=0))=true then
  some 0
 else
  if (decide (a0.Lo>=0))=true then
   some 2
  else
   some 1
def Xi (a0:qb)(a1:qb):Option (Int×Int) :=
 some (a0.Hi,a1.Hi)
def Xj (a0:qb)(a1:qb):Option (Int×Int) :=
 some (a0.Lo,a1.Lo)
def Xk (a0:qb)(a1:qb):Option (Int×Int) :=
 some (a0.Lo,a1.Hi)
def Xl (a0:qb)(a1:qb):Option (Int×Int) :=
 some (a0.Hi,a1.Lo)
def Q5 (a0:qb)(a1:qb):Option qb :=
 (qN a0).bind λt3 =>
 (if (t3==false)=true then qN a1 else some default).bind λt4 =>
 if (t3||t4)=true then
  (QG).bind λt6 =>
  some t6
 else
  (Xo a0).bind λt8 =>
  (Xo a1).bind λt9 =>
  if ((t8==1)&&(t9==1))=true then
   (Qb a0.Lo a1.Hi).bind λt12 =>
   (Qb a0.Hi a1.Lo).bind λt14 =>
   (Qb a0.Lo a1.Lo).bind λt16 =>
   (Qb a0.Hi a1.Hi).bind λt18 =>
   (qD (mn t12.1 t14.1) (mx t16.2 t18.2)).bind λt20 =>
   some t20
  else
   if t8=0 then
    if t9=0 then
     (Xi a0 a1).bind λt23 =>
     (Qb t23.1 t23.2).bind λt24 =>
     (Xj a0 a1).bind λt26 =>
     (Qb t26.1 t26.2).bind λt27 =>
     (qD t24.1 t27.2).bind λt29 =>
     some t29
    else
    if t9=1 then
     (Xk a0 a1).bind λt32 =>
     (Qb t32.1 t32.2).bind λt33 =>
     (Xj a0 a1).bind λt35 =>
     (Qb t35.1 t35.2).bind λt36 =>
     (qD t33.1 t36.2).bind λt38 =>
     some t38
    else
    if t9=2 then
     (Xk a0 a1).bind λt41 =>
     (Qb t41.1 t41.2).bind λt42 =>
     (Xl a0 a1).bind λt44 =>
     (Qb t44.1 t44.2).bind λt45 =>
     (qD t42.1 t45.2).bind λt47 =>
     some t47
    else
    none
   else
   if t8=1 then
    if t9=0 then
     (Xl a0 a1).bind λt53 =>
     (Qb t53.1 t53.2).bind λt54 =>
     (Xj a0 a1).bind λt56 =>
     (Qb t56.1 t56.2).bind λt57 =>
     (qD t54.1 t57.2).bind λt59 =>
     some t59
    else
    if t9=1 then
     none
    else
    if t9=2 then
     (Xk a0 a1).bind λt63 =>
     (Qb t63.1 t63.2).bind λt64 =>
     (Xi a0 a1).bind λt66 =>
     (Qb t66.1 t66.2).bind λt67 =>
     (qD t64.1 t67.2).bind λt69 =>
     some t69
    else
    none
   else
   if t8=2 then
    if t9=0 then
     (Xl a0 a1).bind λt75 =>
     (Qb t75.1 t75.2).bind λt76 =>
     (Xk a0 a1).bind λt78 =>
     (Qb t78.1 t78.2).bind λt79 =>
     (qD t76.1 t79.2).bind λt81 =>
     some t81
    else
    if t9=1 then
     (Xl a0 a1).bind λt84 =>
     (Qb t84.1 t84.2).bind λt85 =>
     (Xi a0 a1).bind λt87 =>
     (Qb t87.1 t87.2).bind λt88 =>
     (qD t85.1 t88.2).bind λt90 =>
     some t90
    else
    if t9=2 then
     (Xj a0 a1).bind λt93 =>
     (Qb t93.1 t93.2).bind λt94 =>
     (Xi a0 a1).bind λt96 =>
     (Qb t96.1 t96.2).bind λt97 =>
     (qD t94.1 t97.2).bind λt99 =>
     some t99
    else
    none
   else
   none
def X6 (a0:qb)(a1:Int):Option Bool :=
 (qN a0).bind λt3 =>
 some (t3||((decide (a0.Lo<=a1))&&(decide (a1<=a0.Hi))))
def QY (a0:Bool)(a1:Int)(a2:Int):Option Int :=
 if a0=true then
  some a1
 else
  some a2
def Q1 (a0:Int)(a1:Int):Option (Int×Int×Int) :=
 if (a1==0)=true then
  some (0,0,3)
 else
  (XX (qc (a0*65536)) a1).bind λt5 =>
  some (t5.1,t5.2,0)
def QW (a0:qb)(a1:qb):Option qb :=
 (qN a0).bind λt3 =>
 (if (t3==false)=true then qN a1 else some default).bind λt4 =>
 (if ((t3||t4)==false)=true then X6 a1 0 else some default).bind λt5 =>
 if ((t3||t4)||t5)=true then
  (QG).bind λt7 =>
  some t7
 else
  (Xo a0).bind λt9 =>
  if t9=0 then
   (QY (decide (a1.Lo>0)) 1 0).bind λt10 =>
   if t10=0 then
    (Xl a0 a1).bind λt12 =>
    (Q1 t12.1 t12.2).bind λt13 =>
    (Xk a0 a1).bind λt15 =>
    (Q1 t15.1 t15.2).bind λt16 =>
    (qD t13.1 t16.2.1).bind λt18 =>
    some t18
   else
   if t10=1 then
    (Xj a0 a1).bind λt12 =>
    (Q1 t12.1 t12.2).bind λt13 =>
    (Xi a0 a1).bind λt15 =>
    (Q1 t15.1 t15.2).bind λt16 =>
    (qD t13.1 t16.2.1).bind λt18 =>
    some t18
   else
   none
  else
  if t9=1 then
   (QY (decide (a1.Lo>0)) 1 0).bind λt10 =>
   if t10=0 then
    (Xi a0 a1).bind λt12 =>
    (Q1 t12.1 t12.2).bind λt13 =>
    (Xk a0 a1).bind λt15 =>
    (Q1 t15.1 t15.2).bind λt16 =>
    (qD t13.1 t16.2.1).bind λt18 =>
    some t18
   else
   if t10=1 then
    (Xj a0 a1).bind λt12 =>
    (Q1 t12.1 t12.2).bind λt13 =>
    (Xl a0 a1).bind λt15 =>
    (Q1 t15.1 t15.2).bind λt16 =>
    (qD t13.1 t16.2.1).bind λt18 =>
    some t18
   else
   none
  else
  if t9=2 then
   (QY (decide (a1.Lo>0)) 1 0).bind λt10 =>
   if t10=0 then
    (Xi a0 a1).bind λt12 =>
    (Q1 t12.1 t12.2).bind λt13 =>
    (Xj a0 a1).bind λt15 =>
    (Q1 t15.1 t15.2).bind λt16 =>
    (qD t13.1 t16.2.1).bind λt18 =>
    some t18
   else
   if t10=1 then
    (Xk a0 a1).bind λt12 =>
    (Q1 t12.1 t12.2).bind λt13 =>
    (Xl a0 a1).bind λt15 =>
    (Q1 t15.1 t15.2).bind λt16 =>
    (qD t13.1 t16.2.1).bind λt18 =>
    some t18
   else
   none
  else
  none
def ZX (a0:Int):Option Int :=
 (if (decide (a0>=4294967296))=true then
  some (Int.fdiv a0 4294967296,32)
 else
  some (a0,0)).bind λ(j4:Int×Int) =>
 (if (decide (j4.1>=65536))=true then
  some (Int.fdiv j4.1 65536,qc (j4.2+16))
 else
  some (j4.1,j4.2)).bind λ(j7:Int×Int) =>
 (if (decide (j7.1>=256))=true then
  some (Int.fdiv j7.1 256,qc (j7.2+8))
 else
  some (j7.1,j7.2)).bind λ(j10:Int×Int) =>
 (qa6 (⟨#[0,1,2,2,3,3,3,3,4,4,4,4,4,4,4,4,5,5,5,5,5,5,5,5,5,5,5,5,5,5,5,5,6,6,6,6,6,6,6,6,6,6,6,6,6,6,6,6,6,6,6,6,6,6,6,6,6,6,6,6,6,6,6,6,7,7,7,7,7,7,7,7,7,7,7,7,7,7,7,7,7,7,7,7,7,7,7,7,7,7,7,7,7,7,7,7,7,7,7,7,7,7,7,7,7,7,7,7,7,7,7,7,7,7,7,7,7,7,7,7,7,7,7,7,7,7,7,7,8,8,8,8,8,8,8,8,8,8,8,8,8,8,8,8,8,8,8,8,8,8,8,8,8,8,8,8,8,8,8,8,8,8,8,8,8,8,8,8,8,8,8,8,8,8,8,8,8,8,8,8,8,8,8,8,8,8,8,8,8,8,8,8,8,8,8,8,8,8,8,8,8,8,8,8,8,8,8,8,8,8,8,8,8,8,8,8,8,8,8,8,8,8,8,8,8,8,8,8,8,8,8,8,8,8,8,8,8,8,8,8,8,8,8,8,8,8,8,8,8,8,8,8,8,8,8,8]⟩:ByteArray) (qej j10.1)).bind λt12 =>
 some (qc (j10.2+(qc t12)))
def XQ.l17 (k0:Nat)(a0:Int)(t8:Int):Nat->Int->Option Int
 | 0,_=>none
 | k+1,x16 =>
  if x16≠0 then
   (some (decide ((qc (Int.tdiv (qc (x16+(qc (Int.tdiv (qc (a0*65536)) x16)))) 2))>=x16))).bind λz21 =>
   if z21=true then
    some (x16)
   else
    XQ.l17 k0 a0 t8 k (qc (Int.tdiv (qc (x16+(qc (Int.tdiv (qc (a0*65536)) x16)))) 2))
  else none
def XQ (k0:Nat)(a0:Int):Option (Int×Int×Int) :=
 if (decide (a0<0))=true then
  some (0,0,4)
 else
  if ((qc (a0*65536))==0)=true then
   some (0,0,0)
  else
   (ZX (Z3 (qc (a0*65536)))).bind λt8 =>
   if 0<=(qc (Int.tdiv (qc (t8+1)) 2)) then
    (XQ.l17 k0 a0 t8 k0 (qc (1*2 ^ (min (qc (Int.tdiv (qc (t8+1)) 2)).toNat 64)))).bind λ(j11:Int) =>
    if (decide ((qc (j11*j11))<(qc (a0*65536))))=true then
     some (j11,qc (j11+1),0)
    else
     some (j11,j11,0)
   else none
def XD (k0:Nat)(a0:qb):Option (qb×Bool) :=
 (qN a0).bind λt3 =>
 if t3=true then
  some (a0,true)
 else
  if (decide (a0.Hi<0))=true then
   some ((⟨0,0⟩:qb),false)
  else
   (XQ k0 (mx a0.Lo 0)).bind λt8 =>
   (XQ k0 a0.Hi).bind λt10 =>
   (qD t8.1 t10.2.1).bind λt12 =>
   some (t12,true)
def Jj (k0:Nat)(a0:qb):Option qb :=
 if (decide (a0.Lo<0))=true then
  (QG).bind λt4 =>
  some t4
 else
  (XD k0 a0).bind λt6 =>
  some (⟨t6.1.Lo,t6.1.Hi⟩:qb)
def Xb.l14 (k0:Nat)(a0:QE)(a1:List qb)(a2:qb)(j5:List qb):Nat->(List qb)->Int->Option (List qb)
 | 0,_,_=>none
 | k+1,x12,x13 =>
  if (decide (x13<(a0.Out.length:Int)))=true then
   if 0<=x13∧x13<(a0.Out.length:Int) then
    (a0.Out[x13.toNat]?).bind λt18 =>
    if 0<=t18∧t18<(j5.length:Int) then
     (j5[t18.toNat]?).bind λt21 =>
     if 0<=x13∧x13<(x12.length:Int) then
      (x12[x13.toNat]?).bind λt23 =>
      Xb.l14 k0 a0 a1 a2 j5 k (x12.set x13.toNat t21) (qc (x13+1))
     else none
    else none
   else none
  else
   some (x12)
def Xb.l29 (k0:Nat)(a0:QE)(a1:List qb)(a2:qb):Nat->(List qb)->Int->Option (List qb)
 | 0,_,_=>none
 | k+1,x27,x28 =>
  if (decide (x28<(a0.L.length:Int)))=true then
   (if 0<=x28∧x28<(a0.L.length:Int) then
    (a0.L[x28.toNat]?).bind λt36 =>
    (some t36.Op).bind λz37 =>
    if z37=0 then
     none
    else
    if z37=1 then
     if 0<=x28∧x28<(x27.length:Int) then
      (x27[x28.toNat]?).bind λt47 =>
      some ((x27.set x28.toNat (⟨t36.C.Lo,t36.C.Hi⟩:qb)))
     else none
    else
    if z37=2 then
     if 0<=t36.A∧t36.A<(a1.length:Int) then
      (a1[t36.A.toNat]?).bind λt53 =>
      if 0<=x28∧x28<(x27.length:Int) then
       (x27[x28.toNat]?).bind λt55 =>
       some ((x27.set x28.toNat t53))
      else none
     else none
    else
    if z37=3 then
     if 0<=x28∧x28<(x27.length:Int) then
      (x27[x28.toNat]?).bind λt62 =>
      some ((x27.set x28.toNat a2))
     else none
    else
    if z37=4 then
     if 0<=t36.A∧t36.A<(x27.length:Int) then
      (x27[t36.A.toNat]?).bind λt70 =>
      (XN t70).bind λt72 =>
      if 0<=x28∧x28<(x27.length:Int) then
       (x27[x28.toNat]?).bind λt74 =>
       some ((x27.set x28.toNat t72))
      else none
     else none
    else
    if z37=5 then
     if 0<=t36.A∧t36.A<(x27.length:Int) then
      (x27[t36.A.toNat]?).bind λt82 =>
      (Xz t82).bind λt84 =>
      if 0<=x28∧x28<(x27.length:Int) then
       (x27[x28.toNat]?).bind λt86 =>
       some ((x27.set x28.toNat t84))
      else none
     else none
    else
    if z37=6 then
     if 0<=t36.A∧t36.A<(x27.length:Int) then
      (x27[t36.A.toNat]?).bind λt94 =>
      (Jj k0 t94).bind λt96 =>
      if 0<=x28∧x28<(x27.length:Int) then
       (x27[x28.toNat]?).bind λt98 =>
       some ((x27.set x28.toNat t96))
      else none
     else none
    else
    if z37=7 then
     if 0<=t36.A∧t36.A<(x27.length:Int) then
      (x27[t36.A.toNat]?).bind λt106 =>
      if 0<=t36.B∧t36.B<(x27.length:Int) then
       (x27[t36.B.toNat]?).bind λt109 =>
       (QM t106 t109).bind λt110 =>
       if 0<=x28∧x28<(x27.length:Int) then
        (x27[x28.toNat]?).bind λt112 =>
        some ((x27.set x28.toNat t110))
       else none
      else none
     else none
    else
    if z37=8 then
     if 0<=t36.A∧t36.A<(x27.length:Int) then
      (x27[t36.A.toNat]?).bind λt120 =>
      if 0<=t36.B∧t36.B<(x27.length:Int) then
       (x27[t36.B.toNat]?).bind λt123 =>
       (Xh t120 t123).bind λt124 =>
       if 0<=x28∧x28<(x27.length:Int) then
        (x27[x28.toNat]?).bind λt126 =>
        some ((x27.set x28.toNat t124))
       else none
      else none
     else none
    else
    if z37=9 then
     if 0<=t36.A∧t36.A<(x27.length:Int) then
      (x27[t36.A.toNat]?).bind λt134 =>
      if 0<=t36.B∧t36.B<(x27.length:Int) then
       (x27[t36.B.toNat]?).bind λt137 =>
       (Q5 t134 t137).bind λt138 =>
       if 0<=x28∧x28<(x27.length:Int) then
        (x27[x28.toNat]?).bind λt140 =>
        some ((x27.set x28.toNat t138))
       else none
      else none
     else none
    else
    if z37=10 then
     if 0<=t36.A∧t36.A<(x27.length:Int) then
      (x27[t36.A.toNat]?).bind λt148 =>
      if 0<=t36.B∧t36.B<(x27.length:Int) then
       (x27[t36.B.toNat]?).bind λt151 =>
       (QW t148 t151).bind λt152 =>
       if 0<=x28∧x28<(x27.length:Int) then
        (x27[x28.toNat]?).bind λt154 =>
        some ((x27.set x28.toNat t152))
       else none
      else none
     else none
    else
    none
   else none).bind λ(j32:List qb) =>
   Xb.l29 k0 a0 a1 a2 k j32 (qc (x28+1))
  else
   some (x27)
def Xb (k0:Nat)(a0:QE)(a1:List qb)(a2:qb):Option (List qb) :=
 if 0<=(a0.L.length:Int)∧(a0.L.length:Int)<1000000 then
  (Xb.l29 k0 a0 a1 a2 k0 (List.replicate (a0.L.length:Int).toNat (⟨0,0⟩:qb)) 0).bind λ(j5:List qb) =>
  if 0<=(a0.Out.length:Int)∧(a0.Out.length:Int)<1000000 then
   (Xb.l14 k0 a0 a1 a2 j5 k0 (List.replicate (a0.Out.length:Int).toNat (⟨0,0⟩:qb)) 0).bind λ(j9:List qb) =>
   some j9
  else none
 else none
def XA (a0:qb)(a1:qb)(q0:qb):Option qb :=
 (Q5 q0 a1).bind λt3 =>
 (QM a0 t3).bind λt4 =>
 some t4
def Qc.l10 (k0:Nat)(a0:List qb)(a1:List qb)(a2_0:qb):Nat->(List qb)->Int->Option (List qb)
 | 0,_,_=>none
 | k+1,x8,x9 =>
  if (decide (x9<(a0.length:Int)))=true then
   if 0<=x9∧x9<(a0.length:Int) then
    (a0[x9.toNat]?).bind λt15 =>
    if 0<=x9∧x9<(a1.length:Int) then
     (a1[x9.toNat]?).bind λt18 =>
     (XA t15 t18 a2_0).bind λt20 =>
     if 0<=x9∧x9<(x8.length:Int) then
      (x8[x9.toNat]?).bind λt22 =>
      Qc.l10 k0 a0 a1 a2_0 k (x8.set x9.toNat t20) (qc (x9+1))
     else none
    else none
   else none
  else
   some (x8)
def Qc (k0:Nat)(a0:List qb)(a1:List qb)(a2_0:qb):Option (List qb) :=
 if 0<=(a0.length:Int)∧(a0.length:Int)<1000000 then
  (Qc.l10 k0 a0 a1 a2_0 k0 (List.replicate (a0.length:Int).toNat (⟨0,0⟩:qb)) 0).bind λ(j5:List qb) =>
  some j5
 else none
def YT (k0:Nat)(a0:QE)(a1:List qb)(a2:List qb)(a3:Q0):Option (List qb) :=
 (qD 0 a3.H).bind λt3 =>
 (qD a3.T (qc (a3.T+a3.H))).bind λt5 =>
 (Xb k0 (⟨a0.N,a0.L,a0.Out⟩:QE) a2 t5).bind λt6 =>
 (Qc k0 a1 t6 t3).bind λt8 =>
 some t8
def ZR (a0:qb)(a1:qb):Option qb :=
 some (⟨mn a0.Lo a1.Lo,mx a0.Hi a1.Hi⟩:qb)
def Qt.l6 (k0:Nat)(a0:List qb):Nat->Int->Option ((Int) ⊕ (Unit))
 | 0,_=>none
 | k+1,x5 =>
  if (decide (x5<(a0.length:Int)))=true then
   if 0<=x5∧x5<(a0.length:Int) then
    (a0[x5.toNat]?).bind λt11 =>
    (qN t11).bind λt12 =>
    if t12=true then
     some (.inl x5)
    else
     Qt.l6 k0 a0 k (qc (x5+1))
   else none
  else
   some (.inr ())
def Qt (k0:Nat)(a0:List qb):Option Int :=
 (Qt.l6 k0 a0 k0 0:Option ((Int) ⊕ (Unit))).bind λj2=>match j2 with
 | .inl r=>some r
 | .inr j2v =>
  some (-1)
def Q9 (k0:Nat)(a0:List qb):Option Bool :=
 (Qt k0 a0).bind λt3 =>
 some (decide (t3>=0))
def XI (k0:Nat)(a0:List qb):Option Bool :=
 (Q9 k0 a0).bind λt3 =>
 some (!t3)
def Ys (a0:qb):Option Int :=
 some (qc (a0.Hi-a0.Lo))
def Q4.l10 (k0:Nat)(a0:List qb):Nat->(List qb)->Int->Option (List qb)
 | 0,_,_=>none
 | k+1,x8,x9 =>
  if (decide (x9<(a0.length:Int)))=true then
   if 0<=x9∧x9<(a0.length:Int) then
    (a0[x9.toNat]?).bind λt14 =>
    (Ys t14).bind λt16 =>
    (qD (qc (t14.Lo-(qc ((qc (Int.tdiv t16 16))+1)))) (qc (t14.Hi+(qc ((qc (Int.tdiv t16 16))+1))))).bind λt18 =>
    if 0<=x9∧x9<(x8.length:Int) then
     (x8[x9.toNat]?).bind λt20 =>
     Q4.l10 k0 a0 k (x8.set x9.toNat t18) (qc (x9+1))
    else none
   else none
  else
   some (x8)
def Q4 (k0:Nat)(a0:List qb):Option (List qb) :=
 if 0<=(a0.length:Int)∧(a0.length:Int)<1000000 then
  (Q4.l10 k0 a0 k0 (List.replicate (a0.length:Int).toNat (⟨0,0⟩:qb)) 0).bind λ(j5:List qb) =>
  some j5
 else none
def YO (a0:qb)(a1:qb):Option Bool :=
 some ((decide (a1.Lo<=a0.Lo))&&(decide (a0.Hi<=a1.Hi)))
def Xe.l3 (k0:Nat)(q0:List qb)(q1:List qb):Nat->Int->Option (List (qb×qb))
 | 0,_=>none
 | k+1,x2 =>
  if (decide (x2<(q0.length:Int)))=true then
   if 0<=x2∧x2<(q0.length:Int) then
    (q0[x2.toNat]?).bind λt7 =>
    if 0<=x2∧x2<(q1.length:Int) then
     (q1[x2.toNat]?).bind λt10 =>
     (Xe.l3 k0 q0 q1 k (qc (x2+1))).bind λr =>
     some ((t7,t10) :: r)
    else none
   else none
  else
   some []
def Xe (k0:Nat)(q0:List qb)(q1:List qb):Option (List (qb×qb)) :=
 Xe.l3 k0 q0 q1 k0 0
def XH.l5 (k0:Nat)(a0:List qb)(a1:List qb):List (qb×qb)->Option Bool
 | [] =>
  some true
 | x :: zs =>
  (YO (⟨x.1.Lo,x.1.Hi⟩:qb) (⟨x.2.Lo,x.2.Hi⟩:qb)).bind λt9 =>
  if (!t9)=true then
   some false
  else
   XH.l5 k0 a0 a1 zs
def XH (k0:Nat)(a0:List qb)(a1:List qb):Option Bool :=
 (Xe k0 a0 a1).bind λt4 =>
 XH.l5 k0 a0 a1 t4
def qX.l10 (k0:Nat)(a0:List qb)(a1:List qb):Nat->(List qb)->Int->Option (List qb)
 | 0,_,_=>none
 | k+1,x8,x9 =>
  if (decide (x9<(a0.length:Int)))=true then
   if 0<=x9∧x9<(a0.length:Int) then
    (a0[x9.toNat]?).bind λt15 =>
    if 0<=x9∧x9<(a1.length:Int) then
     (a1[x9.toNat]?).bind λt18 =>
     (ZR t15 t18).bind λt20 =>
     if 0<=x9∧x9<(x8.length:Int) then
      (x8[x9.toNat]?).bind λt22 =>
      qX.l10 k0 a0 a1 k (x8.set x9.toNat t20) (qc (x9+1))
     else none
    else none
   else none
  else
   some (x8)
def qX (k0:Nat)(a0:List qb)(a1:List qb):Option (List qb) :=
 if 0<=(a0.length:Int)∧(a0.length:Int)<1000000 then
  (qX.l10 k0 a0 a1 k0 (List.replicate (a0.length:Int).toNat (⟨0,0⟩:qb)) 0).bind λ(j5:List qb) =>
  some j5
 else none
def Qd.l7 (k0:Nat)(q0:List qb)(q1:QE)(q2:Q0)(t2:List qb)(t3:List qb):Nat->(List qb)->Int->Option (List (List qb×List qb))
 | 0,_,_=>none
 | k+1,x5,x6 =>
  if (decide (x6<8))=true then
   (XI k0 x5).bind λt10 =>
   if (!t10)=true then
    some []
   else
    (Q4 k0 x5).bind λt12 =>
    (XI k0 t12).bind λt14 =>
    if (!t14)=true then
     some []
    else
     (YT k0 (⟨q1.N,q1.L,q1.Out⟩:QE) q0 t12 q2).bind λt16 =>
     (XI k0 t16).bind λt18 =>
     (some (!t18)).bind λz19 =>
     if z19=true then
      some []
     else
     if z19=false then
      ((qX k0 t12 t16).bind λt21 =>
      Qd.l7 k0 q0 q1 q2 t2 t3 k t21 (qc (x6+1))).bind λr =>
      some ((t12,t16) :: r)
     else
     none
  else
   some []
def Qd (k0:Nat)(q0:List qb)(q1:QE)(q2:Q0):Option (List (List qb×List qb)) :=
 (YT k0 (⟨q1.N,q1.L,q1.Out⟩:QE) q0 q0 q2).bind λt2 =>
 (qX k0 q0 t2).bind λt3 =>
 Qd.l7 k0 q0 q1 q2 t2 t3 k0 t3 0
def QT.l8 (k0:Nat)(a0:QE)(a1:List qb)(a2:Q0)(x7:List qb):Option (List qb×Bool) :=
 if 0<x7.length then
  some (x7,true)
 else none
def QT.l6 (k0:Nat)(a0:QE)(a1:List qb)(a2:Q0):List (List qb×List qb)->Option (List qb×Bool)
 | [] =>
  some (([]:List qb),false)
 | x :: zs =>
  (XH k0 x.2 x.1).bind λt14 =>
  if t14=true then
   QT.l8 k0 a0 a1 a2 x.2
  else
   QT.l6 k0 a0 a1 a2 zs
def QT (k0:Nat)(a0:QE)(a1:List qb)(a2:Q0):Option (List qb×Bool) :=
 (Qd k0 a1 (⟨a0.N,a0.L,a0.Out⟩:QE) a2).bind λt5 =>
 QT.l6 k0 a0 a1 a2 t5
def YE (a0:Int):Option qb :=
 (qD a0 a0).bind λt3 =>
 some t3
def Yh (a0:qb):Option qb :=
 some a0
def Qw.l29 (k0:Nat)(a0:List qb)(a1:List qb)(a2:List qb):Nat->Int->Int->Int->Option (Int×Int)
 | 0,_,_,_=>none
 | k+1,x26,x27,x28 =>
  if (decide (x28<=(a2.length:Int)))=true then
   if 0<=x28∧x28<(a1.length:Int) then
    (a1[x28.toNat]?).bind λt33 =>
    if 0<=qc ((a2.length:Int)-x28)∧qc ((a2.length:Int)-x28)<(a2.length:Int) then
     (a2[(qc ((a2.length:Int)-x28)).toNat]?).bind λt36 =>
     (Q5 t33 t36).bind λt38 =>
     (if (decide (x28>1))=true then
      (QM (⟨x26,x27⟩:qb) t38).bind λt46 =>
      some (t46.Lo,t46.Hi)
     else
      some (t38.Lo,t38.Hi)).bind λ(j41:Int×Int) =>
     Qw.l29 k0 a0 a1 a2 k j41.1 j41.2 (qc (x28+1))
    else none
   else none
  else
   some (x26,x27)
def Qw (k0:Nat)(a0:List qb)(a1:List qb)(a2:List qb):Option qb :=
 if ((a2.length:Int)==0)=true then
  if 0<=(0:Int)∧(0:Int)<(a0.length:Int) then
   (a0[(0:Int).toNat]?).bind λt6 =>
   if 0<=(0:Int)∧(0:Int)<(a1.length:Int) then
    (a1[(0:Int).toNat]?).bind λt9 =>
    (QW t6 t9).bind λt11 =>
    some t11
   else none
  else none
 else
  (Qw.l29 k0 a0 a1 a2 k0 0 0 1).bind λ(j15:Int×Int) =>
  if 0<=(a2.length:Int)∧(a2.length:Int)<(a0.length:Int) then
   (a0[(a2.length:Int).toNat]?).bind λt18 =>
   (Xh t18 (⟨j15.1,j15.2⟩:qb)).bind λt20 =>
   if 0<=(0:Int)∧(0:Int)<(a1.length:Int) then
    (a1[(0:Int).toNat]?).bind λt22 =>
    (QW t20 t22).bind λt24 =>
    some t24
   else none
  else none
def Yq (a0:Int)(a1:Int)(a2:Int):Option (Int×Int×Int) :=
 if ((((decide (a1<(-1073741824)))||(decide (a1>1073741824)))||(decide (a2<1)))||(decide (a2>1073741824)))=true then
  some (0,0,1)
 else
  (XX (qc (a0*a1)) a2).bind λt5 =>
  some (t5.1,t5.2,0)
def Xy (a0:Bool)(a1:Int)(a2:Int):Option Int :=
 if a0=true then
  some a1
 else
  some a2
def XO (a0:qb)(a1:Int)(a2:Int):Option qb :=
 (qN a0).bind λt3 =>
 if t3=true then
  some a0
 else
  (Xy (decide (a1<0)) a0.Hi a0.Lo).bind λt6 =>
  (Yq t6 a1 a2).bind λt7 =>
  (Xy (decide (a1<0)) a0.Lo a0.Hi).bind λt9 =>
  (Yq t9 a1 a2).bind λt10 =>
  (qD t7.1 t10.2.1).bind λt12 =>
  some t12
def qG.l12 (k0:Nat)(a1:List qb)(a2:List qb)(a3:Int)(a4:Int)(a5:Int)(t3:qb):Nat->Int->Int->Int->Option (Int×Int)
 | 0,_,_,_=>none
 | k+1,x9,x10,x11 =>
  if (decide (x11<=a4))=true then
   if 0<=x11∧x11<(a1.length:Int) then
    (a1[x11.toNat]?).bind λt16 =>
    if 0<=qc (a5-x11)∧qc (a5-x11)<(a2.length:Int) then
     (a2[(qc (a5-x11)).toNat]?).bind λt19 =>
     (Q5 t16 t19).bind λt21 =>
     (if (decide (x11>a3))=true then
      (QM (⟨x9,x10⟩:qb) t21).bind λt29 =>
      some (t29.Lo,t29.Hi)
     else
      some (t21.Lo,t21.Hi)).bind λ(j24:Int×Int) =>
     qG.l12 k0 a1 a2 a3 a4 a5 t3 k j24.1 j24.2 (qc (x11+1))
    else none
   else none
  else
   some (x9,x10)
def qG (k0:Nat)(a1:List qb)(a2:List qb)(a3:Int)(a4:Int)(a5:Int):Option qb :=
 (Yh (⟨0,0⟩:qb)).bind λt3 =>
 (qG.l12 k0 a1 a2 a3 a4 a5 t3 k0 t3.Lo t3.Hi a3).bind λ(j6:Int×Int) =>
 some (⟨j6.1,j6.2⟩:qb)
def Yd (k0:Nat)(a0:List qb)(a1:List qb):Option qb :=
 if ((a1.length:Int)==0)=true then
  if 0<=(0:Int)∧(0:Int)<(a0.length:Int) then
   (a0[(0:Int).toNat]?).bind λt6 =>
   (XD k0 t6).bind λt7 =>
   if 0<=(0:Int)∧(0:Int)<(a0.length:Int) then
    (a0[(0:Int).toNat]?).bind λt10 =>
    if (decide (t10.Lo>=0))=true then
     some (⟨t7.1.Lo,t7.1.Hi⟩:qb)
    else
     (QG).bind λt13 =>
     some t13
   else none
  else none
 else
  (qG k0 a1 a1 1 (qc ((a1.length:Int)-1)) (a1.length:Int)).bind λt16 =>
  if 0<=(a1.length:Int)∧(a1.length:Int)<(a0.length:Int) then
   (a0[(a1.length:Int).toNat]?).bind λt19 =>
   (Xh t19 t16).bind λt21 =>
   if 0<=(0:Int)∧(0:Int)<(a1.length:Int) then
    (a1[(0:Int).toNat]?).bind λt23 =>
    (XO t23 2 1).bind λt25 =>
    (QW t21 t25).bind λt26 =>
    some t26
   else none
  else none
def Yg (a0:qb)(a1:Int):Option qb :=
 (XO a0 1 a1).bind λt3 =>
 some t3
def Jt:Option qb :=
 (YE 65536).bind λt3 =>
 some t3
def X5 (k0:Nat)(a1:qh)(a2:List (List qb))(a3:List qb)(a4:qb):Option qb :=
 if (a1.Op==4)=true then
  if 0<=a1.A∧a1.A<(a2.length:Int) then
   (a2[a1.A.toNat]?).bind λt7 =>
   if 0<=(a3.length:Int)∧(a3.length:Int)<(t7.length:Int) then
    (t7[(a3.length:Int).toNat]?).bind λt10 =>
    (XN t10).bind λt11 =>
    some t11
   else none
  else none
 else
  if (a1.Op==7)=true then
   if 0<=a1.A∧a1.A<(a2.length:Int) then
    (a2[a1.A.toNat]?).bind λt15 =>
    if 0<=(a3.length:Int)∧(a3.length:Int)<(t15.length:Int) then
     (t15[(a3.length:Int).toNat]?).bind λt18 =>
     if 0<=a1.B∧a1.B<(a2.length:Int) then
      (a2[a1.B.toNat]?).bind λt20 =>
      if 0<=(a3.length:Int)∧(a3.length:Int)<(t20.length:Int) then
       (t20[(a3.length:Int).toNat]?).bind λt22 =>
       (QM t18 t22).bind λt23 =>
       some t23
      else none
     else none
    else none
   else none
  else
   if (a1.Op==8)=true then
    if 0<=a1.A∧a1.A<(a2.length:Int) then
     (a2[a1.A.toNat]?).bind λt27 =>
     if 0<=(a3.length:Int)∧(a3.length:Int)<(t27.length:Int) then
      (t27[(a3.length:Int).toNat]?).bind λt30 =>
      if 0<=a1.B∧a1.B<(a2.length:Int) then
       (a2[a1.B.toNat]?).bind λt32 =>
       if 0<=(a3.length:Int)∧(a3.length:Int)<(t32.length:Int) then
        (t32[(a3.length:Int).toNat]?).bind λt34 =>
        (Xh t30 t34).bind λt35 =>
        some t35
       else none
      else none
     else none
    else none
   else
    if (a1.Op==9)=true then
     if 0<=a1.A∧a1.A<(a2.length:Int) then
      (a2[a1.A.toNat]?).bind λt39 =>
      if 0<=a1.B∧a1.B<(a2.length:Int) then
       (a2[a1.B.toNat]?).bind λt42 =>
       (qG k0 t39 t42 0 (a3.length:Int) (a3.length:Int)).bind λt43 =>
       some t43
      else none
     else none
    else
     if (a1.Op==5)=true then
      if ((a3.length:Int)==0)=true then
       if 0<=a1.A∧a1.A<(a2.length:Int) then
        (a2[a1.A.toNat]?).bind λt48 =>
        if 0<=(0:Int)∧(0:Int)<(t48.length:Int) then
         (t48[(0:Int).toNat]?).bind λt51 =>
         (Xz t51).bind λt52 =>
         some t52
        else none
       else none
      else
       if 0<=a1.A∧a1.A<(a2.length:Int) then
        (a2[a1.A.toNat]?).bind λt55 =>
        if 0<=a1.A∧a1.A<(a2.length:Int) then
         (a2[a1.A.toNat]?).bind λt58 =>
         (qG k0 t55 t58 0 (a3.length:Int) (a3.length:Int)).bind λt59 =>
         some t59
        else none
       else none
     else
      if (a1.Op==10)=true then
       if 0<=a1.A∧a1.A<(a2.length:Int) then
        (a2[a1.A.toNat]?).bind λt64 =>
        if 0<=a1.B∧a1.B<(a2.length:Int) then
         (a2[a1.B.toNat]?).bind λt67 =>
         (Qw k0 t64 t67 a3).bind λt68 =>
         some t68
        else none
       else none
      else
       if (a1.Op==6)=true then
        if 0<=a1.A∧a1.A<(a2.length:Int) then
         (a2[a1.A.toNat]?).bind λt72 =>
         (Yd k0 t72 a3).bind λt74 =>
         some t74
        else none
       else
        (if ((a1.Op==1)&&((a3.length:Int)==0))=true then
         some (a1.C.Lo,a1.C.Hi)
        else
         if ((a1.Op==3)&&((a3.length:Int)==0))=true then
          some (a4.Lo,a4.Hi)
         else
          if ((a1.Op==3)&&((a3.length:Int)==1))=true then
           (Jt).bind λt87 =>
           some (t87.Lo,t87.Hi)
          else
           some (0,0)).bind λ(j78:Int×Int) =>
        (Yh (⟨j78.1,j78.2⟩:qb)).bind λt80 =>
        some t80
def qo.l26 (k0:Nat)(a1:QE)(a2:List qb)(a3:qb)(a4:Int)(j6:List (List qb))(x11:List (List qb))(x12:List (List qb))(x13:Int)(j22:List (List qb)):Nat->(List (List qb))->Int->Option (List (List qb)×List (List qb))
 | 0,_,_=>none
 | k+1,x24,x25 =>
  if (decide (x25<(a1.Out.length:Int)))=true then
   if 0<=x25∧x25<(a1.Out.length:Int) then
    (a1.Out[x25.toNat]?).bind λt30 =>
    if 0<=x25∧x25<(x24.length:Int) then
     (x24[x25.toNat]?).bind λt33 =>
     if 0<=t30∧t30<(j22.length:Int) then
      (j22[t30.toNat]?).bind λt36 =>
      if 0<=x13∧x13<(t36.length:Int) then
       (t36[x13.toNat]?).bind λt39 =>
       (Yg t39 (qc (x13+1))).bind λt41 =>
       if t33.length<1000000 then
        if 0<=x25∧x25<(x24.length:Int) then
         (x24[x25.toNat]?).bind λt44 =>
         qo.l26 k0 a1 a2 a3 a4 j6 x11 x12 x13 j22 k (x24.set x25.toNat (t33++[t41])) (qc (x25+1))
        else none
       else none
      else none
     else none
    else none
   else none
  else
   some (x24,j22)
def qo.l50 (k0:Nat)(a1:QE)(a2:List qb)(a3:qb)(a4:Int)(j6:List (List qb))(x11:List (List qb))(x12:List (List qb))(x13:Int):Nat->(List (List qb))->Int->Option (List (List qb))
 | 0,_,_=>none
 | k+1,x48,x49 =>
  if (decide (x49<(a1.L.length:Int)))=true then
   (if 0<=x49∧x49<(a1.L.length:Int) then
    (a1.L[x49.toNat]?).bind λt57 =>
    if (t57.Op==2)=true then
     if 0<=x49∧x49<(x48.length:Int) then
      (x48[x49.toNat]?).bind λt61 =>
      if 0<=t57.A∧t57.A<(x11.length:Int) then
       (x11[t57.A.toNat]?).bind λt64 =>
       if 0<=x13∧x13<(t64.length:Int) then
        (t64[x13.toNat]?).bind λt67 =>
        if t61.length<1000000 then
         if 0<=x49∧x49<(x48.length:Int) then
          (x48[x49.toNat]?).bind λt71 =>
          some ((x48.set x49.toNat (t61++[t67])))
         else none
        else none
       else none
      else none
     else none
    else
     if 0<=x49∧x49<(x48.length:Int) then
      (x48[x49.toNat]?).bind λt74 =>
      if 0<=x49∧x49<(x48.length:Int) then
       (x48[x49.toNat]?).bind λt77 =>
       (X5 k0 (⟨t57.Op,t57.A,t57.B,(⟨t57.C.Lo,t57.C.Hi⟩:qb)⟩:qh) x48 t77 a3).bind λt78 =>
       if t74.length<1000000 then
        if 0<=x49∧x49<(x48.length:Int) then
         (x48[x49.toNat]?).bind λt81 =>
         some ((x48.set x49.toNat (t74++[t78])))
        else none
       else none
      else none
     else none
   else none).bind λ(j53:List (List qb)) =>
   qo.l50 k0 a1 a2 a3 a4 j6 x11 x12 x13 k j53 (qc (x49+1))
  else
   some (x48)
def qo.l14 (k0:Nat)(a1:QE)(a2:List qb)(a3:qb)(a4:Int)(j6:List (List qb)):Nat->(List (List qb))->(List (List qb))->Int->Option (List (List qb))
 | 0,_,_,_=>none
 | k+1,x11,x12,x13 =>
  if (decide (x13<a4))=true then
   ((qo.l50 k0 a1 a2 a3 a4 j6 x11 x12 x13 k0 x12 0).bind λ(j22:List (List qb)) =>
   qo.l26 k0 a1 a2 a3 a4 j6 x11 x12 x13 j22 k0 x11 0).bind λ(j18:List (List qb)×List (List qb)) =>
   qo.l14 k0 a1 a2 a3 a4 j6 k j18.1 j18.2 (qc (x13+1))
  else
   some (x11)
def qo.l88 (k0:Nat)(a1:QE)(a2:List qb)(a3:qb)(a4:Int):Nat->(List (List qb))->Int->Option (List (List qb))
 | 0,_,_=>none
 | k+1,x86,x87 =>
  if (decide (x87<((List.replicate a1.N.toNat ([]:List qb)).length:Int)))=true then
   if 0<=x87∧x87<(a2.length:Int) then
    (a2[x87.toNat]?).bind λt93 =>
    if 0<=x87∧x87<(x86.length:Int) then
     (x86[x87.toNat]?).bind λt95 =>
     qo.l88 k0 a1 a2 a3 a4 k (x86.set x87.toNat ([t93]:List qb)) (qc (x87+1))
    else none
   else none
  else
   some (x86)
def qo (k0:Nat)(a1:QE)(a2:List qb)(a3:qb)(a4:Int):Option (List (List qb)) :=
 if 0<=a1.N∧a1.N<1000000 then
  if 0<=(a1.L.length:Int)∧(a1.L.length:Int)<1000000 then
   (qo.l88 k0 a1 a2 a3 a4 k0 (List.replicate a1.N.toNat ([]:List qb)) 0).bind λ(j6:List (List qb)) =>
   (qo.l14 k0 a1 a2 a3 a4 j6 k0 j6 (List.replicate (a1.L.length:Int).toNat ([]:List qb)) 0).bind λ(j8:List (List qb)) =>
   some j8
  else none
 else none
def Xv (k0:Nat)(a0:QE)(a1:List qb)(a2:qb)(a3:Int):Option (List (List qb)) :=
 (qo k0 (⟨a0.N,a0.L,a0.Out⟩:QE) a1 a2 a3).bind λt3 =>
 some t3
def Yf (a0:Int)(a1:List qb)(q0:Int):Option qb :=
 if 0<=qc (q0+1)∧qc (q0+1)<(a1.length:Int) then
  (a1[(qc (q0+1)).toNat]?).bind λt4 =>
  some t4
 else none
def Qn.l10 (k0:Nat)(a0:List (List qb))(a1_0:Int):Nat->(List qb)->Int->Option (List qb)
 | 0,_,_=>none
 | k+1,x8,x9 =>
  if (decide (x9<(a0.length:Int)))=true then
   if 0<=x9∧x9<(a0.length:Int) then
    (a0[x9.toNat]?).bind λt14 =>
    (Yf x9 t14 a1_0).bind λt16 =>
    if 0<=x9∧x9<(x8.length:Int) then
     (x8[x9.toNat]?).bind λt18 =>
     Qn.l10 k0 a0 a1_0 k (x8.set x9.toNat t16) (qc (x9+1))
    else none
   else none
  else
   some (x8)
def Qn (k0:Nat)(a0:List (List qb))(a1_0:Int):Option (List qb) :=
 if 0<=(a0.length:Int)∧(a0.length:Int)<1000000 then
  (Qn.l10 k0 a0 a1_0 k0 (List.replicate (a0.length:Int).toNat (⟨0,0⟩:qb)) 0).bind λ(j5:List qb) =>
  some j5
 else none
def YY (k0:Nat)(a0:QE)(a1:List qb)(a2:Q0)(a3:Int):Option (List qb) :=
 (Xv k0 (⟨a0.N,a0.L,a0.Out⟩:QE) a1 (⟨a2.T,qc (a2.T+a2.H)⟩:qb) (qc (a3+1))).bind λt3 =>
 (Qn k0 t3 a3).bind λt5 =>
 some t5
def Zr (a0:Bool)(a1:qb)(a2:qb):Option qb :=
 if a0=true then
  some a1
 else
  some a2
def Xs (a0:qb)(a1:qb):Option (qb×Bool) :=
 (Zr (decide ((mx a0.Lo a1.Lo)<=(mn a0.Hi a1.Hi))) (⟨mx a0.Lo a1.Lo,mn a0.Hi a1.Hi⟩:qb) (⟨0,0⟩:qb)).bind λt5 =>
 some (t5,decide ((mx a0.Lo a1.Lo)<=(mn a0.Hi a1.Hi)))
def YN (a0:qb)(q0:qb):Option qb :=
 (Q5 a0 q0).bind λt3 =>
 some t3
def qz.l31 (k0:Nat)(a0:List (List qb))(a1_0:qb)(x8:List qb)(x9:Int)(t17:List qb)(t20:qb):Nat->Int->Int->Int->Option (Int×Int)
 | 0,_,_,_=>none
 | k+1,x28,x29,x30 =>
  if (decide (x30>=0))=true then
   (YN (⟨x28,x29⟩:qb) a1_0).bind λt34 =>
   if 0<=x30∧x30<(t17.length:Int) then
    (t17[x30.toNat]?).bind λt36 =>
    (QM t34 t36).bind λt37 =>
    qz.l31 k0 a0 a1_0 x8 x9 t17 t20 k t37.Lo t37.Hi (qc (x30-1))
   else none
  else
   some (x28,x29)
def qz.l10 (k0:Nat)(a0:List (List qb))(a1_0:qb):Nat->(List qb)->Int->Option (List qb)
 | 0,_,_=>none
 | k+1,x8,x9 =>
  if (decide (x9<(a0.length:Int)))=true then
   (if 0<=x9∧x9<(a0.length:Int) then
    (a0[x9.toNat]?).bind λt17 =>
    if 0<=qc ((t17.length:Int)-1)∧qc ((t17.length:Int)-1)<(t17.length:Int) then
     (t17[(qc ((t17.length:Int)-1)).toNat]?).bind λt20 =>
     (qz.l31 k0 a0 a1_0 x8 x9 t17 t20 k0 t20.Lo t20.Hi (qc ((t17.length:Int)-2))).bind λ(j23:Int×Int) =>
     if 0<=x9∧x9<(x8.length:Int) then
      (x8[x9.toNat]?).bind λt26 =>
      some ((x8.set x9.toNat (⟨j23.1,j23.2⟩:qb)))
     else none
    else none
   else none).bind λ(j13:List qb) =>
   qz.l10 k0 a0 a1_0 k j13 (qc (x9+1))
  else
   some (x8)
def qz (k0:Nat)(a0:List (List qb))(a1_0:qb):Option (List qb) :=
 if 0<=(a0.length:Int)∧(a0.length:Int)<1000000 then
  (qz.l10 k0 a0 a1_0 k0 (List.replicate (a0.length:Int).toNat (⟨0,0⟩:qb)) 0).bind λ(j5:List qb) =>
  some j5
 else none
def ZH (k0:Nat)(a0:List (List qb))(a1:qb):Option (List qb) :=
 (qz k0 a0 a1).bind λt3 =>
 some t3
def XU (a0:Int)(a1:List qb)(q0:List qb):Option (List qb) :=
 if 0<=a0∧a0<(q0.length:Int) then
  (q0[a0.toNat]?).bind λt4 =>
  if a1.length<1000000 then
   some (a1++[t4])
  else none
 else none
def Qk.l10 (k0:Nat)(a0:List (List qb))(a1_0:List qb):Nat->(List (List qb))->Int->Option (List (List qb))
 | 0,_,_=>none
 | k+1,x8,x9 =>
  if (decide (x9<(a0.length:Int)))=true then
   if 0<=x9∧x9<(a0.length:Int) then
    (a0[x9.toNat]?).bind λt14 =>
    (XU x9 t14 a1_0).bind λt16 =>
    if 0<=x9∧x9<(x8.length:Int) then
     (x8[x9.toNat]?).bind λt18 =>
     Qk.l10 k0 a0 a1_0 k (x8.set x9.toNat t16) (qc (x9+1))
    else none
   else none
  else
   some (x8)
def Qk (k0:Nat)(a0:List (List qb))(a1_0:List qb):Option (List (List qb)) :=
 if 0<=(a0.length:Int)∧(a0.length:Int)<1000000 then
  (Qk.l10 k0 a0 a1_0 k0 (List.replicate (a0.length:Int).toNat ([]:List qb)) 0).bind λ(j5:List (List qb)) =>
  some j5
 else none
def XK (a0:Int)(a1:qb)(q0:List qb):Option qb :=
 if 0<=a0∧a0<(q0.length:Int) then
  (q0[a0.toNat]?).bind λt4 =>
  (Xs a1 t4).bind λt6 =>
  if t6.2=true then
   some (⟨t6.1.Lo,t6.1.Hi⟩:qb)
  else
   if 0<=a0∧a0<(q0.length:Int) then
    (q0[a0.toNat]?).bind λt11 =>
    some t11
   else none
 else none
def Qm.l10 (k0:Nat)(a0:List qb)(a1_0:List qb):Nat->(List qb)->Int->Option (List qb)
 | 0,_,_=>none
 | k+1,x8,x9 =>
  if (decide (x9<(a0.length:Int)))=true then
   if 0<=x9∧x9<(a0.length:Int) then
    (a0[x9.toNat]?).bind λt14 =>
    (XK x9 t14 a1_0).bind λt16 =>
    if 0<=x9∧x9<(x8.length:Int) then
     (x8[x9.toNat]?).bind λt18 =>
     Qm.l10 k0 a0 a1_0 k (x8.set x9.toNat t16) (qc (x9+1))
    else none
   else none
  else
   some (x8)
def Qm (k0:Nat)(a0:List qb)(a1_0:List qb):Option (List qb) :=
 if 0<=(a0.length:Int)∧(a0.length:Int)<1000000 then
  (Qm.l10 k0 a0 a1_0 k0 (List.replicate (a0.length:Int).toNat (⟨0,0⟩:qb)) 0).bind λ(j5:List qb) =>
  some j5
 else none
def X1 (k0:Nat)(a0:List qb)(q0:List qb):Option (List qb) :=
 (Qm k0 a0 q0).bind λt3 =>
 some t3
def YB (k0:Nat)(a0:QE)(a1:List qb)(a2:List qb)(a3:JV):Option (List qb) :=
 (YY k0 (⟨a0.N,a0.L,a0.Out⟩:QE) a2 (⟨a3.T,a3.H⟩:Q0) a3.Order).bind λt3 =>
 (YE a3.T).bind λt5 =>
 (Xv k0 (⟨a0.N,a0.L,a0.Out⟩:QE) a1 t5 a3.Order).bind λt6 =>
 (Qk k0 t6 t3).bind λt7 =>
 (ZH k0 t7 (⟨a3.Part.Lo,a3.Part.Hi⟩:qb)).bind λt9 =>
 (X1 k0 t9 a2).bind λt10 =>
 some t10
def ZJ (k0:Nat)(a0:qW):Option (qW×Bool) :=
 (Q9 k0 a0.Tube).bind λt3 =>
 (if (t3==false)=true then Q9 k0 a0.To else some default).bind λt4 =>
 if (t3||t4)=true then
  some ((⟨0,0,([]:List qb),([]:List qb),([]:List qb),([]:List qb)⟩:qW),false)
 else
  some ((⟨a0.T,a0.H,a0.From,a0.Pre,a0.Tube,a0.To⟩:qW),true)
def QX (k0:Nat)(a0:Int)(a1:Int)(q0:QE)(q1:List qb)(q2:List qb)(q3:Q0)(q4:Int):Option (List qb) :=
 (YB k0 (⟨q0.N,q0.L,q0.Out⟩:QE) q1 q2 (⟨q3.T,q3.H,(⟨a0,a1⟩:qb),q4⟩:JV)).bind λt3 =>
 some t3
def Yt (k0:Nat)(a0:QE)(a1:List qb)(a2:Q0)(a3:Int):Option (qW×Bool) :=
 (QT k0 (⟨a0.N,a0.L,a0.Out⟩:QE) a1 a2).bind λt3 =>
 if (!t3.2)=true then
  some ((⟨0,0,([]:List qb),([]:List qb),([]:List qb),([]:List qb)⟩:qW),false)
 else
  (QX k0 0 a2.H (⟨a0.N,a0.L,a0.Out⟩:QE) a1 t3.1 a2 a3).bind λt8 =>
  (QX k0 a2.H a2.H (⟨a0.N,a0.L,a0.Out⟩:QE) a1 t3.1 a2 a3).bind λt9 =>
  (ZJ k0 (⟨a2.T,a2.H,a1,t3.1,t8,t9⟩:qW)).bind λt10 =>
  some ((⟨t10.1.T,t10.1.H,t10.1.From,t10.1.Pre,t10.1.Tube,t10.1.To⟩:qW),t10.2)
def Yi (a0:qb)(q0:qJ):Option Bool :=
 (Ys a0).bind λt3 =>
 some (decide (t3>q0.Wide))
def Qv.l6 (k0:Nat)(a0:List qb)(a1_0:qJ):Nat->Int->Option ((Int) ⊕ (Unit))
 | 0,_=>none
 | k+1,x5 =>
  if (decide (x5<(a0.length:Int)))=true then
   if 0<=x5∧x5<(a0.length:Int) then
    (a0[x5.toNat]?).bind λt11 =>
    (Yi t11 a1_0).bind λt12 =>
    if t12=true then
     some (.inl x5)
    else
     Qv.l6 k0 a0 a1_0 k (qc (x5+1))
   else none
  else
   some (.inr ())
def Qv (k0:Nat)(a0:List qb)(a1_0:qJ):Option Int :=
 (Qv.l6 k0 a0 a1_0 k0 0:Option ((Int) ⊕ (Unit))).bind λj2=>match j2 with
 | .inl r=>some r
 | .inr j2v =>
  some (-1)
def Xw (k0:Nat)(a0:List qb)(a1_0:qJ):Option Bool :=
 (Qv k0 a0 a1_0).bind λt3 =>
 some (decide (t3>=0))
def Zi (k0:Nat)(a0:qJ)(a1:qW):Option Bool :=
 (Xw k0 a1.To a0).bind λt4 =>
 (if ((!t4)==true)=true then Xw k0 a1.Tube a0 else some default).bind λt5 =>
 some ((!t4)&&(!t5))
def Z9 (a0:qJ)(a1:Int):Option Int :=
 some (mn (qc (2*a1)) a0.Most)
def q7.l4 (k0:Nat)(q0:Int)(q1:qJ):Nat->Int->Int->Option (List (Int))
 | 0,_,_=>none
 | k+1,x2,x3 =>
  (some (x2==0)).bind λz6 =>
  if z6=true then
   ((YZ q1 x3).bind λt8 =>
   q7.l4 k0 q0 q1 k t8.2 t8.1).bind λr =>
   some (x3 :: r)
  else
  if z6=false then
   some []
  else
  none
def q7 (k0:Nat)(q0:Int)(q1:qJ):Option (List (Int)) :=
 q7.l4 k0 q0 q1 k0 0 q0
def Q7.l6 (k0:Nat)(a0:QE)(a1:List qb)(a2:Jc):List (Int)->Option (qW×Int×Int)
 | [] =>
  some ((⟨0,0,([]:List qb),([]:List qb),([]:List qb),([]:List qb)⟩:qW),0,130)
 | x :: zs =>
  (Yt k0 (⟨a0.N,a0.L,a0.Out⟩:QE) a1 (⟨a2.T,x⟩:Q0) a2.Ctrl.Order).bind λt9 =>
  (if ((!t9.2)==false)=true then Zi k0 (⟨a2.Ctrl.Order,a2.Ctrl.First,a2.Ctrl.Least,a2.Ctrl.Most,a2.Ctrl.Wide⟩:qJ) (⟨t9.1.T,t9.1.H,t9.1.From,t9.1.Pre,t9.1.Tube,t9.1.To⟩:qW) else some default).bind λt11 =>
  if ((!t9.2)||(!t11))=true then
   Q7.l6 k0 a0 a1 a2 zs
  else
   (if (x==(mn a2.H (qc (a2.Last-a2.T))))=true then
    some (a2.H)
   else
    some (x)).bind λ(j13:Int) =>
   (Z9 (⟨a2.Ctrl.Order,a2.Ctrl.First,a2.Ctrl.Least,a2.Ctrl.Most,a2.Ctrl.Wide⟩:qJ) j13).bind λt15 =>
   some ((⟨t9.1.T,t9.1.H,t9.1.From,t9.1.Pre,t9.1.Tube,t9.1.To⟩:qW),t15,0)
def Q7 (k0:Nat)(a0:QE)(a1:List qb)(a2:Jc):Option (qW×Int×Int) :=
 (q7 k0 (mn a2.H (qc (a2.Last-a2.T))) (⟨a2.Ctrl.Order,a2.Ctrl.First,a2.Ctrl.Least,a2.Ctrl.Most,a2.Ctrl.Wide⟩:qJ)).bind λt5 =>
 Q7.l6 k0 a0 a1 a2 t5
def QK.l17 (k0:Nat)(a0:QE)(a1:List qb)(a2:ZQ)(t3:Bool)(t4:Bool)(t5:Bool)(t9:Int):Nat->Int->Int->(List qb)->(List qW)->Option ((List qW×Int) ⊕ (List qW))
 | 0,_,_,_,_=>none
 | k+1,x13,x14,x15,x16 =>
  if (decide (x13<a2.Last))=true then
   (Q7 k0 (⟨a0.N,a0.L,a0.Out⟩:QE) x15 (⟨(⟨a2.Ctrl.Order,a2.Ctrl.First,a2.Ctrl.Least,a2.Ctrl.Most,a2.Ctrl.Wide⟩:qJ),x13,a2.Last,x14⟩:Jc)).bind λt20 =>
   if (!(t20.2.2==0))=true then
    some (.inl (([]:List qW),t20.2.2))
   else
    if ((x16.length:Int)==256)=true then
     some (.inl (([]:List qW),140))
    else
     if x16.length<1000000 then
      QK.l17 k0 a0 a1 a2 t3 t4 t5 t9 k (qc (t20.1.T+t20.1.H)) t20.2.1 t20.1.To (x16++[(⟨t20.1.T,t20.1.H,t20.1.From,t20.1.Pre,t20.1.Tube,t20.1.To⟩:qW)])
     else none
  else
   some (.inr (x16))
def QK (k0:Nat)(a0:QE)(a1:List qb)(a2:ZQ):Option (List qW×Int) :=
 (Ze (⟨a2.Ctrl.Order,a2.Ctrl.First,a2.Ctrl.Least,a2.Ctrl.Most,a2.Ctrl.Wide⟩:qJ)).bind λt3 =>
 (if ((!t3)==false)=true then YG a2.T else some default).bind λt4 =>
 (if (((!t3)||(!t4))==false)=true then YG a2.Last else some default).bind λt5 =>
 if ((((!t3)||(!t4))||(!t5))||(decide (a2.T>=a2.Last)))=true then
  some (([]:List qW),1)
 else
  (Y6 (⟨a2.Ctrl.Order,a2.Ctrl.First,a2.Ctrl.Least,a2.Ctrl.Most,a2.Ctrl.Wide⟩:qJ) (qc (a2.Last-a2.T))).bind λt9 =>
  (QK.l17 k0 a0 a1 a2 t3 t4 t5 t9 k0 a2.T t9 a1 ([]:List qW):Option ((List qW×Int) ⊕ (List qW))).bind λj11=>match j11 with
  | .inl r=>some r
  | .inr j11v =>
   some (j11v,0)
def ZK (a0:Int):Option Int :=
 if ((decide (a0>=1))&&(decide (a0<=3)))=true then
  some 0
 else
  if ((decide (a0>=4))&&(decide (a0<=6)))=true then
   some 1
  else
   if ((decide (a0>=7))&&(decide (a0<=10)))=true then
    some 2
   else
    some (-1)
def XF.l8 (k0:Nat)(a0:List qt):Nat->Int->Int->Option ((Int) ⊕ (Unit))
 | 0,_,_=>none
 | k+1,x6,x7 =>
  if (decide (x7<(a0.length:Int)))=true then
   if 0<=x7∧x7<(a0.length:Int) then
    (a0[x7.toNat]?).bind λt12 =>
    (ZK t12.Op).bind λt14 =>
    if ((qc (x6+(qc (t14-1))))==0)=true then
     some (.inl (qc (x7+1)))
    else
     XF.l8 k0 a0 k (qc (x6+(qc (t14-1)))) (qc (x7+1))
   else none
  else
   some (.inr ())
def XF (k0:Nat)(a0:List qt):Option Int :=
 (XF.l8 k0 a0 k0 1 0:Option ((Int) ⊕ (Unit))).bind λj3=>match j3 with
 | .inl r=>some r
 | .inr j3v =>
  some (qc ((a0.length:Int)+1))
def Xx.l14 (k0:Nat)(a0:List qt)(t9:qt)(t10:Int):Nat->(List (List qt))->Int->Int->Option (List (List qt))
 | 0,_,_,_=>none
 | k+1,x11,x12,x13 =>
  if (decide (x13<t10))=true then
   if 0<=x12∧x12<=(a0.length:Int) then
    (XF k0 (a0.drop x12.toNat)).bind λt18 =>
    if 0<=x12∧x12<=qc (x12+t18)∧qc (x12+t18)<=(a0.length:Int) then
     if x11.length<1000000 then
      Xx.l14 k0 a0 t9 t10 k (x11++[((a0.take (qc (x12+t18)).toNat).drop x12.toNat)]) (qc (x12+t18)) (qc (x13+1))
     else none
    else none
   else none
  else
   some (x11)
def Xx (k0:Nat)(a0:List qt):Option (List (List qt)) :=
 (if 0<=(0:Int)∧(0:Int)<(a0.length:Int) then
  (a0[(0:Int).toNat]?).bind λt9 =>
  (ZK t9.Op).bind λt10 =>
  Xx.l14 k0 a0 t9 t10 k0 ([]:List (List qt)) 1 0
 else none).bind λ(j5:List (List qt)) =>
 some j5
def Xa (a0_0:List qh)(a0_1:List (qh×Int))(a1:qh):Option (Int×List qh×(List (qh×Int))) :=
 (some ((Jg a0_1 (⟨a1.Op,a1.A,a1.B,(⟨a1.C.Lo,a1.C.Hi⟩:qb)⟩:qh)).getD 0)).bind λz3 =>
 if ((Jg a0_1 (⟨a1.Op,a1.A,a1.B,(⟨a1.C.Lo,a1.C.Hi⟩:qb)⟩:qh)).isSome)=true then
  some (z3,a0_0,a0_1)
 else
  if a0_0.length<1000000 then
   if (Jg a0_1 (⟨a1.Op,a1.A,a1.B,(⟨a1.C.Lo,a1.C.Hi⟩:qb)⟩:qh)).isSome=false then
    some ((a0_0.length:Int),(a0_0++[(⟨a1.Op,a1.A,a1.B,(⟨a1.C.Lo,a1.C.Hi⟩:qb)⟩:qh)]),(a0_1++[((⟨a1.Op,a1.A,a1.B,(⟨a1.C.Lo,a1.C.Hi⟩:qb)⟩:qh),(a0_0.length:Int))]))
   else none
  else none
def qw.l24 (k0:Nat)(rec:(List qt)->(List qh)->(List (qh×Int))->Option (Int×List qh×(List (qh×Int))))(a0:List qt)(q1_0_0:List qh)(q1_0_1:List (qh×Int))(t4:qt)(t7:qt)(j9:Int)(t18:List (List qt)):Nat->(List qh)->Int->Int->(List (qh×Int))->Int->Option (List qh×Int×Int×(List (qh×Int)))
 | 0,_,_,_,_,_=>none
 | k+1,x19,x20,x21,x22,x23 =>
  if (decide (x23<(t18.length:Int)))=true then
   (if 0<=x23∧x23<(t18.length:Int) then
    (t18[x23.toNat]?).bind λt34 =>
    (rec t34 x19 x22).bind λt36 =>
    if (x23==0)=true then
     some (t36.2.1,t36.1,x21,t36.2.2)
    else
     some (t36.2.1,x20,t36.1,t36.2.2)
   else none).bind λ(j30:List qh×Int×Int×(List (qh×Int))) =>
   qw.l24 k0 rec a0 q1_0_0 q1_0_1 t4 t7 j9 t18 k j30.1 j30.2.1 j30.2.2.1 j30.2.2.2 (qc (x23+1))
  else
   some (x19,x20,x21,x22)
def qw.body (k0:Nat)(rec:(List qt)->(List qh)->(List (qh×Int))->Option (Int×List qh×(List (qh×Int))))(a0:List qt)(q1_0_0:List qh)(q1_0_1:List (qh×Int)):Option (Int×List qh×(List (qh×Int))) :=
 if 0<=(0:Int)∧(0:Int)<(a0.length:Int) then
  (a0[(0:Int).toNat]?).bind λt4 =>
  if 0<=(0:Int)∧(0:Int)<(a0.length:Int) then
   (a0[(0:Int).toNat]?).bind λt7 =>
   (if (t4.Op==2)=true then
    if 0<=(0:Int)∧(0:Int)<(a0.length:Int) then
     (a0[(0:Int).toNat]?).bind λt45 =>
     some (t45.N)
    else none
   else
    some (0)).bind λ(j9:Int) =>
   ((Xx k0 a0).bind λt18 =>
   qw.l24 k0 rec a0 q1_0_0 q1_0_1 t4 t7 j9 t18 k0 q1_0_0 j9 0 q1_0_1 0).bind λ(j14:List qh×Int×Int×(List (qh×Int))) =>
   (Xa j14.1 j14.2.2.2 (⟨t4.Op,j14.2.1,j14.2.2.1,(⟨t7.C.Lo,t7.C.Hi⟩:qb)⟩:qh)).bind λt16 =>
   some (t16.1,t16.2.1,t16.2.2)
  else none
 else none
def qw:Nat->(List qt)->(List qh)->(List (qh×Int))->Option (Int×List qh×(List (qh×Int)))
 | 0,_,_,_=>none
 | k0+1,a0,q1_0_0,q1_0_1=>qw.body k0 (qw k0) a0 q1_0_0 q1_0_1
def Xc.l20 (k0:Nat)(a0:Zc):Nat->(List qh)->(List Int)->(List (qh×Int))->Int->Option (List qh×List Int×(List (qh×Int)))
 | 0,_,_,_,_=>none
 | k+1,x16,x17,x18,x19 =>
  if (decide (x19<(a0.F.length:Int)))=true then
   if 0<=x19∧x19<(a0.F.length:Int) then
    (a0.F[x19.toNat]?).bind λt24 =>
    (qw k0 t24 x16 x18).bind λt26 =>
    if x17.length<1000000 then
     Xc.l20 k0 a0 k t26.2.1 (x17++[t26.1]) t26.2.2 (qc (x19+1))
    else none
   else none
  else
   some (x16,x17,x18)
def Xc (k0:Nat)(a0:Zc):Option QE :=
 (Xc.l20 k0 a0 k0 ([]:List qh) ([]:List Int) ([]:List (qh×Int)) 0).bind λ(j9:List qh×List Int×(List (qh×Int))) =>
 if (decide ((j9.1.length:Int)>400))=true then
  some (⟨0,([]:List qh),([]:List Int)⟩:QE)
 else
  some (⟨(a0.F.length:Int),j9.1,j9.2.1⟩:QE)
def YW (a0:qb):Option Zc :=
 some (⟨([(⟨#[120]⟩:ByteArray)]:List ByteArray),([([(⟨1,0,a0⟩:qt)]:List qt)]:List (List qt))⟩:Zc)
def Jb (a0:List qW):Option (List qb×Int×Bool) :=
 if ((a0.length:Int)==0)=true then
  some (([]:List qb),0,false)
 else
  if 0<=qc ((a0.length:Int)-1)∧qc ((a0.length:Int)-1)<(a0.length:Int) then
   (a0[(qc ((a0.length:Int)-1)).toNat]?).bind λt6 =>
   some (t6.To,qc (t6.T+t6.H),true)
  else none
def Zm (a0:Int)(q0:List qW)(q1:Int):Option Bool :=
 if 0<=a0∧a0<(q0.length:Int) then
  (q0[a0.toNat]?).bind λt4 =>
  some (decide (t4.T>q1))
 else none
def QJ.l8 (k0:Nat)(a0:Int)(a1_0:List qW)(a1_1:Int):Nat->Int->Int->Option Int
 | 0,_,_=>none
 | k+1,x6,x7 =>
  if (decide (x6<x7))=true then
   (Zm (qc (Int.fdiv (Z3 (qc (x6+x7))) 2)) a1_0 a1_1).bind λt12 =>
   if (!t12)=true then
    QJ.l8 k0 a0 a1_0 a1_1 k (qc ((qc (Int.fdiv (Z3 (qc (x6+x7))) 2))+1)) x7
   else
    QJ.l8 k0 a0 a1_0 a1_1 k x6 (qc (Int.fdiv (Z3 (qc (x6+x7))) 2))
  else
   some (x6)
def QJ (k0:Nat)(a0:Int)(a1_0:List qW)(a1_1:Int):Option Int :=
 (QJ.l8 k0 a0 a1_0 a1_1 k0 0 a0).bind λ(j4:Int) =>
 some j4
def Z5 (k0:Nat)(a0:List qW)(a1:Int):Option (List qb×Bool) :=
 (Jb a0).bind λt3 =>
 (some (!t3.2.2)).bind λz5 =>
 if z5=true then
  some (([]:List qb),false)
 else
 if z5=false then
  if 0<=(0:Int)∧(0:Int)<(a0.length:Int) then
   (a0[(0:Int).toNat]?).bind λt7 =>
   if ((decide (a1<t7.T))||(decide (a1>t3.2.1)))=true then
    some (([]:List qb),false)
   else
    (QJ k0 (a0.length:Int) a0 a1).bind λt11 =>
    if 0<=qc (t11-1)∧qc (t11-1)<(a0.length:Int) then
     (a0[(qc (t11-1)).toNat]?).bind λt14 =>
     if (t14.T==a1)=true then
      if 0<=qc (t11-1)∧qc (t11-1)<(a0.length:Int) then
       (a0[(qc (t11-1)).toNat]?).bind λt18 =>
       some (t18.From,true)
      else none
     else
      if (a1==t3.2.1)=true then
       some (t3.1,true)
      else
       if 0<=qc (t11-1)∧qc (t11-1)<(a0.length:Int) then
        (a0[(qc (t11-1)).toNat]?).bind λt23 =>
        some (t23.Tube,true)
       else none
    else none
  else none
 else
 none
def Q3 (a0:Int):Option qb :=
 some (⟨qc (a0*65536),qc (a0*65536)⟩:qb)
def XM (k0:Nat) : Option Bool :=
 (Q3 2).bind λt3 =>
 (YW t3).bind λt4 =>
 (Xc k0 t4).bind λt5 =>
 (Q3 1).bind λt6 =>
 (Q2 2 0 31).bind λt7 =>
 (QK k0 t5 ([t6]:List qb) t7).bind λt8 =>
 (Jb t8.1).bind λt10 =>
 (Z5 k0 t8.1 131072).bind λt12 =>
 if (((t10.1.length:Int)!=1)||((t12.1.length:Int)!=1))=true then
  some false
 else
  if ((((t8.2==0)&&t10.2.2)&&(t10.2.1==131072))==true)=true->0<=(0:Int)∧(0:Int)<(t10.1.length:Int) then
   (if ((((t8.2==0)&&t10.2.2)&&(t10.2.1==131072))==true)=true then t10.1[(0:Int).toNat]? else some default).bind λt17 =>
   (if ((((t8.2==0)&&t10.2.2)&&(t10.2.1==131072))==true)=true then Q3 5 else some default).bind λt19 =>
   (some ((((t8.2==0)&&t10.2.2)&&(t10.2.1==131072))&&((t17.Lo==t19.Lo)&&((t17.Hi==t19.Hi)&&true)))).bind λz20 =>
   if ((z20&&t12.2)==true)=true->0<=(0:Int)∧(0:Int)<(t12.1.length:Int) then
    (if ((z20&&t12.2)==true)=true then t12.1[(0:Int).toNat]? else some default).bind λt22 =>
    (if ((z20&&t12.2)==true)=true then Q3 5 else some default).bind λt24 =>
    some ((z20&&t12.2)&&((t22.Lo==t24.Lo)&&((t22.Hi==t24.Hi)&&true)))
   else none
  else none
def YD (a0:qb):Option qb :=
 some (⟨mn (Int.tmod a0.Lo 16777216) (Int.tmod a0.Hi 16777216),mx (Int.tmod a0.Lo 16777216) (Int.tmod a0.Hi 16777216)⟩:qb)
def XL (a0:Int):Option Bool :=
 some ((decide (a0>(-2147483648)))&&(decide (a0<2147483648)))
def YA:Option qb :=
 some (⟨(-2147483648),2147483648⟩:qb)
def YX (a0:Int)(a1:Int):Option qb :=
 (XL a0).bind λt3 =>
 (if ((!t3)==false)=true then XL a1 else some default).bind λt4 =>
 if ((!t3)||(!t4))=true then
  (YA).bind λt6 =>
  some t6
 else
  some (⟨a0,a1⟩:qb)
def YF (a0:Int):Option qb :=
 (YX a0 a0).bind λt3 =>
 some t3
def XT (a0:qb):Option (List qt) :=
 some ([(⟨1,0,a0⟩:qt)]:List qt)
def Xr (a0:Int):Option Int :=
 if ((decide (a0<1))||(decide (a0>10)))=true then
  some (-1)
 else
  if (decide (a0<=3))=true then
   some 0
  else
   if (decide (a0<=6))=true then
    some 1
   else
    some 2
def X4 (a0:qb)(a1:Int):Option qb :=
 if a1≠0 then
  if a1≠0 then
   some (⟨Int.tmod a0.Lo 1048576,qc ((Int.tmod a0.Lo 1048576)+(Int.tmod (qc ((Int.tmod a0.Hi a1)+a1)) a1))⟩:qb)
  else none
 else none
def Yj (a0:Int)(a1:List qt):Option (List qt) :=
 if a1.length<1000000∧([(⟨a0,0,(⟨0,0⟩:qb)⟩:qt)]:List qt).length<1000000 then
  some (([(⟨a0,0,(⟨0,0⟩:qb)⟩:qt)]:List qt)++a1)
 else none
def X7 (a0:Int)(a1:List qt)(a2:List qt):Option (List qt) :=
 if a1.length<1000000∧([(⟨a0,0,(⟨0,0⟩:qb)⟩:qt)]:List qt).length<1000000 then
  if a2.length<1000000∧(([(⟨a0,0,(⟨0,0⟩:qb)⟩:qt)]:List qt)++a1).length<1000000 then
   some ((([(⟨a0,0,(⟨0,0⟩:qb)⟩:qt)]:List qt)++a1)++a2)
  else none
 else none
def qF.body (k0:Nat)(rec:XS->Int->Option (List qt×XS))(a0:XS)(a1:Int):Option (List qt×XS) :=
 if ((a0.raw.length:Int)==0)=true then
  (YF 65536).bind λt4 =>
  (XT t4).bind λt5 =>
  some (t5,(⟨a0.raw,a0.n⟩:XS))
 else
  if 0<=(0:Int)∧(0:Int)<(a0.raw.length:Int) then
   (a0.raw[(0:Int).toNat]?).bind λt8 =>
   if 0<=(1:Int)∧(1:Int)<=(a0.raw.length:Int) then
    (if (((qc (1+(Int.tmod (QO .i64 t8.Op 255) 10)))==1)==false)=true then Xr (qc (1+(Int.tmod (QO .i64 t8.Op 255) 10))) else some default).bind λt13 =>
    if (((qc (1+(Int.tmod (QO .i64 t8.Op 255) 10)))==1)||((decide (t13>0))&&(decide (a1<2))))=true then
     (X4 (⟨t8.C.Lo,t8.C.Hi⟩:qb) (qc (1+(qc ((QO .i64 t8.N 255)*(QO .i64 t8.N 1)))))).bind λt15 =>
     (XT t15).bind λt16 =>
     some (t16,(⟨(a0.raw.drop (1:Int).toNat),a0.n⟩:XS))
    else
     if ((qc (1+(Int.tmod (QO .i64 t8.Op 255) 10)))==2)=true then
      if a0.n≠0 then
       some (([(⟨2,Int.tmod (QO .i64 t8.N 255) a0.n,(⟨0,0⟩:qb)⟩:qt)]:List qt),(⟨(a0.raw.drop (1:Int).toNat),a0.n⟩:XS))
      else none
     else
      if ((qc (1+(Int.tmod (QO .i64 t8.Op 255) 10)))==3)=true then
       some (([(⟨3,0,(⟨0,0⟩:qb)⟩:qt)]:List qt),(⟨(a0.raw.drop (1:Int).toNat),a0.n⟩:XS))
      else
       (Xr (qc (1+(Int.tmod (QO .i64 t8.Op 255) 10)))).bind λt23 =>
       if (t23==1)=true then
        (rec (⟨(a0.raw.drop (1:Int).toNat),a0.n⟩:XS) (qc (a1-1))).bind λt25 =>
        (Yj (qc (1+(Int.tmod (QO .i64 t8.Op 255) 10))) t25.1).bind λt26 =>
        some (t26,(⟨t25.2.raw,t25.2.n⟩:XS))
       else
        (rec (⟨(a0.raw.drop (1:Int).toNat),a0.n⟩:XS) (qc (a1-1))).bind λt28 =>
        (rec (⟨t28.2.raw,t28.2.n⟩:XS) (qc (a1-1))).bind λt30 =>
        (X7 (qc (1+(Int.tmod (QO .i64 t8.Op 255) 10))) t28.1 t30.1).bind λt31 =>
        some (t31,(⟨t30.2.raw,t30.2.n⟩:XS))
   else none
  else none
def qF:Nat->XS->Int->Option (List qt×XS)
 | 0,_,_=>none
 | k0+1,a0,a1=>qF.body k0 (qF k0) a0 a1
def X2 (k0:Nat)(a0:List qt)(a1:Int)(a2:Int):Option (List qt) :=
 if 0<=mn (a0.length:Int) a1∧mn (a0.length:Int) a1<=(a0.length:Int) then
  (qF k0 (⟨(a0.take (mn (a0.length:Int) a1).toNat),a2⟩:XS) 5).bind λt5 =>
  some t5.1
 else none
def qS.l11 (k0:Nat)(a0:List (List qt))(a1:Int)(a2:Int):Nat->(List ByteArray)->(List (List qt))->Int->Option (List ByteArray×List (List qt))
 | 0,_,_,_=>none
 | k+1,x8,x9,x10 =>
  if (decide (x10<a2))=true then
   (if (decide (x10<(a0.length:Int)))=true then
    if 0<=x10∧x10<(a0.length:Int) then
     (a0[x10.toNat]?).bind λt27 =>
     some (t27)
    else none
   else
    some (([]:List qt))).bind λ(j15:List qt) =>
   if 0<=x10∧x10<6 then
    ([(⟨#[120]⟩:ByteArray),(⟨#[121]⟩:ByteArray),(⟨#[118,120]⟩:ByteArray),(⟨#[118,121]⟩:ByteArray),(⟨#[97,49]⟩:ByteArray),(⟨#[122,122]⟩:ByteArray)][x10.toNat]?).bind λt18 =>
    if x8.length<1000000 then
     (X2 k0 j15 a1 a2).bind λt21 =>
     if x9.length<1000000 then
      qS.l11 k0 a0 a1 a2 k (x8++[t18]) (x9++[t21]) (qc (x10+1))
     else none
    else none
   else none
  else
   some (x8,x9)
def qS (k0:Nat)(a0:List (List qt))(a1:Int)(a2:Int):Option Zc :=
 (qS.l11 k0 a0 a1 a2 k0 ([]:List ByteArray) ([]:List (List qt)) 0).bind λ(j5:List ByteArray×List (List qt)) =>
 some (⟨j5.1,j5.2⟩:Zc)
def qZ.l11 (k0:Nat)(a0:YM):Nat->(List qb)->Int->Option (List qb)
 | 0,_,_=>none
 | k+1,x9,x10 =>
  if (decide (x10<(qc (1+(qc (Int.tmod a0.N 3))))))=true then
   (if (decide (x10<(a0.X.length:Int)))=true then
    if 0<=x10∧x10<(a0.X.length:Int) then
     (a0.X[x10.toNat]?).bind λt23 =>
     (YD t23).bind λt24 =>
     some (t24.Lo,t24.Hi)
    else none
   else
    some (0,0)).bind λ(j16:Int×Int) =>
   if x9.length<1000000 then
    qZ.l11 k0 a0 k (x9++[(⟨j16.1,j16.2⟩:qb)]) (qc (x10+1))
   else none
  else
   some (x9)
def qZ (k0:Nat)(a0:YM):Option (Zc×List qb) :=
 (qZ.l11 k0 a0 k0 ([]:List qb) 0).bind λ(j5:List qb) =>
 (qS k0 a0.L 7 (qc (1+(qc (Int.tmod a0.N 3))))).bind λt7 =>
 some ((⟨t7.Names,t7.F⟩:Zc),j5)
def Xn.l6 (k0:Nat)(a0:List qb)(a1:List qb):List (qb×qb)->(List qb)->Option (List qb×Bool)
 | [],x5 =>
  some (x5,true)
 | x :: zs,x5 =>
  (Xs (⟨x.1.Lo,x.1.Hi⟩:qb) (⟨x.2.Lo,x.2.Hi⟩:qb)).bind λt10 =>
  if (!t10.2)=true then
   some ([],false)
  else
   if x5.length<1000000 then
    Xn.l6 k0 a0 a1 zs (x5++[(⟨t10.1.Lo,t10.1.Hi⟩:qb)])
   else none
def Xn (k0:Nat)(a0:List qb)(a1:List qb):Option (List qb×Bool) :=
 if a0.length<=a1.length∧a0.length<1000000 then
  Xn.l6 k0 a0 a1 (a0.zip a1) ([]:List qb)
 else none
def QC (k0:Nat)(a0:YM)(a1:Int)(a2:Int)(a3:Int):Option Bool :=
 (XM k0).bind λt3 =>
 (qZ k0 (⟨a0.L,a0.X,(⟨a0.T.Lo,a0.T.Hi⟩:qb),(⟨a0.G.T,a0.G.H⟩:Q0),a0.N,a0.K,a0.S⟩:YM)).bind λt5 =>
 (Xc k0 (⟨t5.1.Names,t5.1.F⟩:Zc)).bind λt7 =>
 (Q2 a0.K 0 15).bind λt9 =>
 (Q2 a1 0 15).bind λt11 =>
 (QK k0 (⟨t7.N,t7.L,t7.Out⟩:QE) t5.2 (⟨(⟨t9.Ctrl.Order,t9.Ctrl.First,t9.Ctrl.Least,t9.Ctrl.Most,t9.Ctrl.Wide⟩:qJ),t9.T,t9.Last⟩:ZQ)).bind λt14 =>
 (QK k0 (⟨t7.N,t7.L,t7.Out⟩:QE) t5.2 (⟨(⟨t11.Ctrl.Order,t11.Ctrl.First,t11.Ctrl.Least,mx t11.Ctrl.First (qc a2),t11.Ctrl.Wide⟩:qJ),t11.T,t11.Last⟩:ZQ)).bind λt16 =>
 if ((t14.2!=0)||(t16.2!=0))=true then
  some t3
 else
  (Z5 k0 t14.1 (qc (t9.T+(qc (Int.tdiv (qc ((qc (t9.Last-t9.T))*(qc a3))) 65535))))).bind λt21 =>
  (Z5 k0 t16.1 (qc (t9.T+(qc (Int.tdiv (qc ((qc (t9.Last-t9.T))*(qc a3))) 65535))))).bind λt23 =>
  if (((!t21.2)||(!t23.2))||((t21.1.length:Int)!=(t23.1.length:Int)))=true then
   some false
  else
   (Xn k0 t21.1 t23.1).bind λt27 =>
   some (t3&&t27.2)
def QC.Pure:Prop :=
 ∀ (c0_0:List (List qt)) (c0_1:List qb) (c0_2:Int) (c0_3:Int) (c0_4:Int) (c0_5:Int) (c0_6:Int) (c0_7:Int) (c0_8:List Int) (c1_0:Int) (c2_0:Int) (c3_0:Int),(∀ x ∈ c0_0,∀ y ∈ x,((-9223372036854775808)<=y.Op∧y.Op<=9223372036854775807)∧((-9223372036854775808)<=y.N∧y.N<=9223372036854775807)∧((-9223372036854775808)<=y.C.Lo∧y.C.Lo<=9223372036854775807)∧((-9223372036854775808)<=y.C.Hi∧y.C.Hi<=9223372036854775807))->(∀ y ∈ c0_1,((-9223372036854775808)<=y.Lo∧y.Lo<=9223372036854775807)∧((-9223372036854775808)<=y.Hi∧y.Hi<=9223372036854775807))->((-9223372036854775808)<=c0_2∧c0_2<=9223372036854775807)->((-9223372036854775808)<=c0_3∧c0_3<=9223372036854775807)->((-9223372036854775808)<=c0_4∧c0_4<=9223372036854775807)->((-9223372036854775808)<=c0_5∧c0_5<=9223372036854775807)->(0<=c0_6∧c0_6<=255)->(0<=c0_7∧c0_7<=255)->(∀ y ∈ c0_8,((-128)<=y∧y<=127))->(0<=c1_0∧c1_0<=255)->(0<=c2_0∧c2_0<=65535)->(0<=c3_0∧c3_0<=65535) -> ∃ k0:Nat,QC k0 (⟨c0_0,c0_1,(⟨c0_2,c0_3⟩:qb),(⟨c0_4,c0_5⟩:Q0),c0_6,c0_7,c0_8⟩:YM) c1_0 c2_0 c3_0=some true
end Go.Proofs.YtpmgpcklieincaaGreatDoor
