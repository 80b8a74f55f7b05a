/- Texts of the plain laws, put together. Own work. -/
import Derived.Test.YtpmgpcklieincaaGreatDoorDefs
import Derived.KernelRfl
import Derived.IntWalk
set_option maxRecDepth 10000
set_option linter.unusedVariables false
set_option linter.unusedSimpArgs false
namespace Go.Proofs.YtpmgpcklieincaaGreatDoor
open Go
theorem Zy {x:Int} (h1:-9223372036854775808≤x) (h2:x≤9223372036854775807):qc x=x:=by
 exact Go.IntWalk.i64_in x ⟨h1,h2⟩
theorem qbV {a b B:Int} (hb:0<b) (h1:-B≤a) (h2:a≤B):-B≤a / b∧a / b≤B:=by
 have hB:0≤B:=by omega
 constructor
 ·rw [Int.le_ediv_iff_mul_le hb]
  have:B * 1≤B * b:=Int.mul_le_mul_of_nonneg_left (by omega) hB
  have e:-B * b = -(B * b):=Int.neg_mul ..
  omega
 ·apply Int.ediv_le_of_le_mul hb
  have:B * 1≤B * b:=Int.mul_le_mul_of_nonneg_left (by omega) hB
  omega
def Zm (a b:Int):Int:=-((-a) / b)
theorem Vv {a b c:Int} (hb:0<b):Zm a b≤c↔a≤c * b:=by
 unfold Zm
 have:-c≤(-a) / b ↔ -c * b ≤ -a:=Int.le_ediv_iff_mul_le hb
 rw [Int.neg_mul] at this
 omega
theorem V0 {a b c:Int} (hb:0<b):c≤a / b↔c * b≤a:=Int.le_ediv_iff_mul_le hb
theorem tdm (a b:Int) (hb:0<b):(Int.tmod a b<0→Int.tdiv a b - 1=a / b∧Int.tmod a b+b=a % b)∧(¬ Int.tmod a b<0→Int.tdiv a b=a / b∧Int.tmod a b=a % b):=by
 have h1:=Int.mul_tdiv_add_tmod a b
 have h2:=Int.tmod_lt_of_pos a hb
 have h3:-b<Int.tmod a b:=by
  have:=Int.tmod_lt_of_pos (-a) hb
  rw [Int.neg_tmod] at this
  omega
 have e:=fun q r=>Int.ediv_emod_unique (a:=a) (b:=b) (r:=r) (q:=q) hb
 constructor
 ·intro h
  have:=(e (Int.tdiv a b - 1) (Int.tmod a b+b)).2 ⟨by rw [Int.mul_sub]; omega,by omega,by omega⟩
  exact ⟨this.1.symm,this.2.symm⟩
 ·intro h
  have:=(e (Int.tdiv a b) (Int.tmod a b)).2 ⟨by omega,by omega,by omega⟩
  exact ⟨this.1.symm,this.2.symm⟩
theorem qfi {a b:Int} (hb:0<b):Zm a b=a / b+mn (a % b) 1:=by
 have h1:=Int.mul_ediv_add_emod a b
 have h2:=Int.emod_nonneg a (by omega:b≠0)
 have h3:=Int.emod_lt_of_pos a hb
 have h5:mn (a % b) 1=0∧a % b=0∨mn (a % b) 1=1∧1≤a % b:=by unfold mn; split <;> omega
 apply Int.le_antisymm
 ·rw [Vv hb,Int.add_mul,Int.mul_comm (a / b) b]
  rcases h5 with ⟨h5,h6⟩ | ⟨h5,h6⟩ <;> rw [h5] <;> omega
 ·rcases h5 with ⟨h5,h6⟩ | ⟨h5,h6⟩ <;> rw [h5]
  ·have:=(Vv (a:=a) (c:=Zm a b) hb).1 (Int.le_refl _)
   have h7:a / b≤Zm a b:=by
    apply Int.ediv_le_of_le_mul hb this
   omega
  ·have h8:¬ Zm a b≤a / b:=by
    rw [Vv hb,Int.mul_comm]
    omega
   omega
theorem VX {a b:Int} (hb:0<b) (ha1:-4611686018427387904≤a) (ha2:a≤4611686018427387904) (hb2:b≤4611686018427387904):Xy a b=some (a / b,Zm a b):=by
 have hq:=qbV hb ha1 ha2
 obtain ⟨t1,t2⟩:=tdm a b hb
 have h2:=Int.emod_nonneg a (by omega:b≠0)
 have h3:=Int.emod_lt_of_pos a hb
 have hc:=qfi (a:=a) hb
 have hm:0≤mn (a % b) 1∧mn (a % b) 1≤1:=by unfold mn; split <;> omega
 unfold Xy Zl
 rw [if_pos (by omega),if_pos (by omega)]
 by_cases h:Int.tmod a b<0
 ·obtain ⟨e1,e2⟩:=t1 h
  have e3:qc (Int.tdiv a b)=Int.tdiv a b:=Zy (by omega) (by omega)
  have e4:qc (Int.tdiv a b - 1)=a / b:=by rw [e1]; exact Zy (by omega) (by omega)
  have e5:qc (Int.tmod a b+b)=a % b:=by rw [e2]; exact Zy (by omega) (by omega)
  simp only [h,decide_true,if_true,Option.bind_some,e3,e4,e5]
  rw [Zy (by omega) (by omega),← hc]
 ·obtain ⟨e1,e2⟩:=t2 h
  have e3:qc (Int.tdiv a b)=a / b:=by rw [e1]; exact Zy (by omega) (by omega)
  have h':¬ a % b<0:=by omega
  simp only [e2,h',decide_false,Bool.false_eq_true,if_false,Option.bind_some,e3]
  rw [Zy (by omega) (by omega),← hc]
theorem VQ {a b:Int} (hb:0<b) (ha1:-4611686018427387904≤a) (ha2:a≤4611686018427387904) (hb2:b≤4611686018427387904):Ya a b=some (a / b,Zm a b):=by
 unfold Ya
 rw [if_neg (by simp; omega)]
 simp only [Option.bind_some,VX hb ha1 ha2 hb2]
theorem qci {a b:Int} (hb:b<0) (ha1:-4611686018427387904≤a) (ha2:a≤4611686018427387904) (hb2:-4611686018427387904≤b):Ya a b=some ((-a) / (-b),Zm (-a) (-b)):=by
 unfold Ya
 rw [if_pos (by simp; omega)]
 have e1:qc (0 - a) = -a:=by rw [Zy (by omega) (by omega)]; omega
 have e2:qc (0 - b) = -b:=by rw [Zy (by omega) (by omega)]; omega
 simp only [Option.bind_some,e1,e2,VX (a:=-a) (b:=-b) (by omega) (by omega) (by omega) (by omega)]
def WB (x:Int):Prop:=-2147483648≤x∧x≤2147483648
theorem qcz {x y A B:Int} (hx:-A≤x∧x≤A) (hy:-B≤y∧y≤B):-(A * B)≤x * y∧x * y≤A * B:=by
 have hA:0≤A:=by omega
 have hB:0≤B:=by omega
 have h1:x.natAbs * y.natAbs≤A.natAbs * B.natAbs:=Nat.mul_le_mul (by omega) (by omega)
 have h2:((x * y).natAbs:Int)≤A * B:=by
  rw [Int.natAbs_mul]
  have:((A.natAbs * B.natAbs:Nat):Int)=A * B:=by
   rw [Int.natCast_mul,Int.natAbs_of_nonneg hA,Int.natAbs_of_nonneg hB]
  omega
 omega
theorem Wh {x y:Int} (hx:WB x) (hy:WB y):Qq x y=some (x * y / 65536,Zm (x * y) 65536):=by
 have:=qcz (A:=2147483648) (B:=2147483648) hx hy
 unfold Qq
 rw [Zy (by omega) (by omega),VQ (by omega) (by omega) (by omega) (by omega)]
 rfl
theorem WX {x y:Int} (hx:WB x) (hy:WB y) (h:0<y):Q5 x y=some (x * 65536 / y,Zm (x * 65536) y,0):=by
 unfold WB at hx hy
 unfold Q5
 rw [if_neg (by simp; omega),Zy (by omega) (by omega),VQ (by omega) (by omega) (by omega) (by omega)]
 rfl
theorem WT {x y:Int} (hx:WB x) (hy:WB y) (h:y<0):Q5 x y=some ((-x) * 65536 / (-y),Zm ((-x) * 65536) (-y),0):=by
 unfold WB at hx hy
 unfold Q5
 rw [if_neg (by simp; omega),Zy (by omega) (by omega),qci (by omega) (by omega) (by omega) (by omega),Int.neg_mul]
 rfl
def ZO:qb:=⟨-2147483648,2147483648⟩
def ZS (a:qb):Prop:=-2147483648<a.Lo∧a.Lo≤a.Hi∧a.Hi<2147483648
def Ok (a:qb):Prop:=a=ZO∨ZS a
def nw (x y:Int):qb:=if x ≤ -2147483648∨y ≥ 2147483648∨x ≥ 2147483648∨y ≤ -2147483648 then ZO else ⟨x,y⟩
theorem ZS.wlo {a:qb} (h:ZS a):WB a.Lo:=by unfold ZS at h; unfold WB; omega
theorem ZS.whi {a:qb} (h:ZS a):WB a.Hi:=by unfold ZS at h; unfold WB; omega
theorem qag {a:qb}:qV a=some (decide (a=ZO)):=by
 simp only [qV,QT,Option.bind_some,Option.some.injEq]
 obtain ⟨l,h⟩:=a
 simp only [ZO,qb.mk.injEq,Bool.decide_and,Bool.and_true]
 rfl
theorem ZS.ne {a:qb} (h:ZS a):decide (a=ZO)=false:=by
 apply decide_eq_false
 rintro rfl
 simp [ZS,ZO] at h
theorem YR {a:qb} (h:ZS a):qV a=some false:=by rw [qag,h.ne]
theorem ZL:qV ZO=some true:=by rw [qag]; simp
theorem Z1 (x y:Int):qI x y=some (nw x y):=by
 unfold qI nw QT
 simp only [Option.bind_some]
 by_cases h:x ≤ -2147483648∨y ≥ 2147483648∨x ≥ 2147483648∨y ≤ -2147483648
 ·rw [if_pos h,if_pos (by simp; omega)]; rfl
 ·rw [if_neg h,if_neg (by simp; omega)]
theorem qfZ {x y:Int} (h:ZS ⟨x,y⟩):nw x y=⟨x,y⟩:=by
 unfold ZS at h
 unfold nw
 simp only at h
 rw [if_neg (by omega)]
theorem Wc {x y:Int} (h:x≤y):Ok (nw x y):=by
 unfold nw
 split
 ·exact .inl rfl
 ·exact .inr (by unfold ZS; simp only; omega)
theorem qc2 {a b:qb} (ha:ZS a) (hb:ZS b):QU a b=some (nw (a.Lo+b.Lo) (a.Hi+b.Hi)):=by
 unfold QU
 rw [YR ha,YR hb]
 unfold ZS at ha hb
 simp only [Option.bind_some,beq_self_eq_true,if_true,Bool.or_self,Bool.false_eq_true,if_false,Z1]
 rw [Zy (by omega) (by omega),Zy (by omega) (by omega)]
theorem qbI (b:qb):QU ZO b=some ZO:=by
 unfold QU
 rw [ZL]
 rfl
theorem qce (a:qb):QU a ZO=some ZO:=by
 unfold QU
 rw [qag,ZL]
 cases decide (a=ZO) <;> rfl
theorem qee {a:qb} (h:WB a.Lo) (h':WB a.Hi):XQ a=some ⟨-a.Hi,-a.Lo⟩:=by
 unfold WB at h h'
 unfold XQ
 rw [Zy (by omega) (by omega),Zy (by omega) (by omega)]
 congr 2 <;> omega
theorem Ok.wlo {a:qb} (h:Ok a):WB a.Lo:=by
 rcases h with rfl | h
 ·simp [ZO,WB]
 ·exact h.wlo
theorem Ok.whi {a:qb} (h:Ok a):WB a.Hi:=by
 rcases h with rfl | h
 ·simp [ZO,WB]
 ·exact h.whi
theorem qcy {a:qb} (h:Ok a):XQ a=some ⟨-a.Hi,-a.Lo⟩:=qee h.wlo h.whi
theorem qc8 {a:qb} (h:ZS a):ZS ⟨-a.Hi,-a.Lo⟩:=by unfold ZS at *; simp only; omega
theorem qeY {a b:qb} (ha:ZS a) (hb:ZS b):Xj a b=some (nw (a.Lo - b.Hi) (a.Hi - b.Lo)):=by
 unfold Xj
 rw [qee hb.wlo hb.whi]
 simp only [Option.bind_some,qc2 ha (qc8 hb)]
 congr 2
theorem bT {α β:Type} {X:Option α} {v:α} {f:α→Option β} {r:Option β} (h:X=some v) (hf:f v=r):X.bind f=r:=by
 subst h
 exact hf
theorem iT {β:Type} {c:Prop} [Decidable c] {X Y:Option β} {r:Option β} (hc:c) (h:X=r):(if c then X else Y)=r:=by
 rw [if_pos hc]
 exact h
theorem iF {β:Type} {c:Prop} [Decidable c] {X Y:Option β} {r:Option β} (hc:¬ c) (h:Y=r):(if c then X else Y)=r:=by
 rw [if_neg hc]
 exact h
theorem qdW {x y:Int} (h:x≤y) (z:Int):(z<0∨x * z≤y * z)∧(0<z∨y * z≤x * z):=by
 constructor
 ·rcases Int.lt_or_le z 0 with hz | hz
  ·exact .inl hz
  ·exact .inr (Int.mul_le_mul_of_nonneg_right h hz)
 ·rcases Int.lt_or_le 0 z with hz | hz
  ·exact .inl hz
  ·exact .inr (Int.mul_le_mul_of_nonpos_right h hz)
theorem Wb {x y:Int} (h:x≤y) (z:Int):(z<0∨z * x≤z * y)∧(0<z∨z * y≤z * x):=by
 have:=qdW h z
 rw [Int.mul_comm z x,Int.mul_comm z y]
 exact this
theorem qbU {x y z:Int} (h:x≤y) (hz:0≤z):x * z≤y * z:=Int.mul_le_mul_of_nonneg_right h hz
theorem qfo {x y z:Int} (h:x≤y) (hz:z≤0):y * z≤x * z:=Int.mul_le_mul_of_nonpos_right h hz
structure qbN (a b:qb) (l h:Int):Prop where
 lo:l≤a.Lo * b.Lo∧l≤a.Lo * b.Hi∧l≤a.Hi * b.Lo∧l≤a.Hi * b.Hi
 hi:a.Lo * b.Lo≤h∧a.Lo * b.Hi≤h∧a.Hi * b.Lo≤h∧a.Hi * b.Hi≤h
 isl:l=a.Lo * b.Lo∨l=a.Lo * b.Hi∨l=a.Hi * b.Lo∨l=a.Hi * b.Hi
 ish:h=a.Lo * b.Lo∨h=a.Lo * b.Hi∨h=a.Hi * b.Lo∨h=a.Hi * b.Hi
theorem qbN.le {a b:qb} {l h:Int} (H:qbN a b l h):l≤h:=by
 have:=H.lo; have:=H.hi; omega
theorem qbN.mem {a b:qb} {l h:Int} (H:qbN a b l h) {p q:Int} (hp:a.Lo≤p∧p≤a.Hi) (hq:b.Lo≤q∧q≤b.Hi):l≤p * q∧p * q≤h:=by
 have h1:=H.lo; have h2:=H.hi
 have e1:=qdW hp.1 q; have e2:=qdW hp.2 q
 have f1:=Wb hq.1 a.Lo; have f2:=Wb hq.2 a.Lo; have f3:=Wb hq.1 a.Hi; have f4:=Wb hq.2 a.Hi
 constructor <;> omega
theorem qbe (a:qb):Xw a=some (if a.Hi≤0 then 0 else if a.Lo ≥ 0 then 2 else 1):=by
 unfold Xw
 by_cases h:a.Hi≤0 <;> by_cases h':a.Lo ≥ 0 <;> simp [h,h']
theorem qfD (x y:Int):mn (x / 65536) (y / 65536)=mn x y / 65536:=by unfold mn; split <;> split <;> omega
theorem qe6 (x y:Int):mx (Zm x 65536) (Zm y 65536)=Zm (mx x y) 65536:=by unfold mx Zm; split <;> split <;> omega
theorem qfj {a b:qb} (ha:ZS a) (hb:ZS b):∃ l h,Q9 a b=some (nw (l / 65536) (Zm h 65536))∧qbN a b l h:=by
 have h1:=ha.2.1
 have h2:=hb.2.1
 have r1:=qdW h1 b.Lo; have r2:=qdW h1 b.Hi
 have r3:=Wb h2 a.Lo; have r4:=Wb h2 a.Hi
 unfold Q9
 rw [YR ha,YR hb]
 simp only [Option.bind_some,beq_self_eq_true,if_true,Bool.or_self,Bool.false_eq_true,if_false,qbe,Xr,Xt,Xu,Xs,Wh ha.wlo hb.wlo,Wh ha.wlo hb.whi,Wh ha.whi hb.wlo,Wh ha.whi hb.whi,Z1,qfD,qe6]
 by_cases s1:a.Hi≤0
 ·by_cases s2:b.Hi≤0
  ·simp only [s1,s2,if_true]
   refine ⟨a.Hi * b.Hi,a.Lo * b.Lo,rfl,⟨?_,?_,?_,?_⟩⟩ <;> omega
  ·by_cases s3:b.Lo ≥ 0
   ·simp only [s1,s2,s3,if_true,if_false]
    refine ⟨a.Lo * b.Hi,a.Hi * b.Lo,rfl,⟨?_,?_,?_,?_⟩⟩ <;> omega
   ·simp only [s1,s2,s3,if_true,if_false]
    refine ⟨a.Lo * b.Hi,a.Lo * b.Lo,rfl,⟨?_,?_,?_,?_⟩⟩ <;> omega
 ·by_cases s4:a.Lo ≥ 0
  ·by_cases s2:b.Hi≤0
   ·simp only [s1,s4,s2,if_true,if_false]
    refine ⟨a.Hi * b.Lo,a.Lo * b.Hi,rfl,⟨?_,?_,?_,?_⟩⟩ <;> omega
   ·by_cases s3:b.Lo ≥ 0
    ·simp only [s1,s4,s2,s3,if_true,if_false]
     refine ⟨a.Lo * b.Lo,a.Hi * b.Hi,rfl,⟨?_,?_,?_,?_⟩⟩ <;> omega
    ·simp only [s1,s4,s2,s3,if_true,if_false]
     refine ⟨a.Hi * b.Lo,a.Hi * b.Hi,rfl,⟨?_,?_,?_,?_⟩⟩ <;> omega
  ·by_cases s2:b.Hi≤0
   ·simp only [s1,s4,s2,if_true,if_false]
    refine ⟨a.Hi * b.Lo,a.Lo * b.Lo,rfl,⟨?_,?_,?_,?_⟩⟩ <;> omega
   ·by_cases s3:b.Lo ≥ 0
    ·simp only [s1,s4,s2,s3,if_true,if_false]
     refine ⟨a.Lo * b.Hi,a.Hi * b.Hi,rfl,⟨?_,?_,?_,?_⟩⟩ <;> omega
    ·simp only [s1,s4,s2,s3,if_true,if_false]
     refine ⟨mn (a.Lo * b.Hi) (a.Hi * b.Lo),mx (a.Lo * b.Lo) (a.Hi * b.Hi),rfl,?_⟩
     unfold mn mx
     split <;> split <;> refine ⟨?_,?_,?_,?_⟩ <;> omega
theorem qeD (b:qb):Q9 ZO b=some ZO:=by
 unfold Q9
 rw [ZL]
 rfl
theorem qes (a:qb):Q9 a ZO=some ZO:=by
 unfold Q9
 rw [qag,ZL]
 cases decide (a=ZO) <;> rfl
structure V2 (a b:qb) (x y u v:Int):Prop where
 ypos:0<y
 vpos:0<v
 x_:x=a.Lo∨x=a.Hi
 y_:y=b.Lo∨y=b.Hi
 u_:u=a.Lo∨u=a.Hi
 v_:v=b.Lo∨v=b.Hi
 lo:x * b.Lo≤a.Lo * y∧x * b.Hi≤a.Lo * y∧x * b.Lo≤a.Hi * y∧x * b.Hi≤a.Hi * y
 hi:a.Lo * v≤u * b.Lo∧a.Lo * v≤u * b.Hi∧a.Hi * v≤u * b.Lo∧a.Hi * v≤u * b.Hi
theorem V2.mem {a b:qb} {x y u v:Int} (H:V2 a b x y u v) {p q:Int} (hp:a.Lo≤p∧p≤a.Hi) (hq:b.Lo≤q∧q≤b.Hi):x * q≤p * y∧p * v≤u * q:=by
 have h1:=H.lo; have h2:=H.hi
 have e1:=Wb hq.1 x; have e2:=Wb hq.2 x; have e3:=Wb hq.1 u; have e4:=Wb hq.2 u
 have f1:=qbU hp.1 (Int.le_of_lt H.ypos); have f2:=qbU hp.2 (Int.le_of_lt H.vpos)
 constructor <;> omega
theorem qaJ {a b c d:Int} (hb:0<b) (hd:0<d) (h:a * d≤c * b):a * 65536 / b≤c * 65536 / d:=by
 rw [V0 hd]
 have h1:=(V0 (a:=a * 65536) (c:=a * 65536 / b) hb).1 (Int.le_refl _)
 have h2:(a * 65536 / b * d) * b≤(c * 65536) * b:=by
  have e1:(a * 65536 / b * d) * b=(a * 65536 / b * b) * d:=by grind
  have e2:(a * 65536 / b * b) * d≤(a * 65536) * d:=qbU h1 (by omega)
  have e3:(a * 65536) * d=(a * d) * 65536:=by grind
  have e4:(c * 65536) * b=(c * b) * 65536:=by grind
  omega
 exact Int.le_of_mul_le_mul_right h2 hb
theorem qat {a b c d:Int} (hb:0<b) (hd:0<d) (h:a * d≤c * b):Zm (a * 65536) b≤Zm (c * 65536) d:=by
 rw [Vv hb]
 have h1:=(Vv (a:=c * 65536) (c:=Zm (c * 65536) d) hd).1 (Int.le_refl _)
 have h2:(a * 65536) * d≤(Zm (c * 65536) d * b) * d:=by
  have e1:(Zm (c * 65536) d * b) * d=(Zm (c * 65536) d * d) * b:=by grind
  have e2:(c * 65536) * b≤(Zm (c * 65536) d * d) * b:=qbU h1 (by omega)
  have e3:(a * 65536) * d=(a * d) * 65536:=by grind
  have e4:(c * 65536) * b=(c * b) * 65536:=by grind
  omega
 exact Int.le_of_mul_le_mul_right h2 hd
theorem qcc (a:qb) (x:Int):Yg a x=some (decide (a=ZO) || (decide (a.Lo≤x) && decide (x≤a.Hi))):=by
 unfold Yg
 rw [qag]
 rfl
theorem J6 {a:qb} (h:ZS a) (x:Int):Yg a x=some (decide (a.Lo≤x∧x≤a.Hi)):=by
 rw [qcc,h.ne,Bool.false_or,Bool.decide_and]
def ngv (a:qb):qb:=⟨-a.Hi,-a.Lo⟩
theorem qdh {a b:qb} (ha:ZS a) (hb:ZS b) (h:0<b.Lo):∃ x y u v,QY a b=some (nw (x * 65536 / y) (Zm (u * 65536) v))∧V2 a b x y u v:=by
 have h1:=ha.2.1
 have h2:=hb.2.1
 have h3:0<b.Hi:=by omega
 have r1:=qbU h1 (Int.le_of_lt h); have r2:=qbU h1 (Int.le_of_lt h3)
 have r3:=Wb h2 a.Lo; have r4:=Wb h2 a.Hi
 have c1:=Int.mul_comm b.Lo a.Lo
 unfold QY
 rw [YR ha,YR hb,J6 hb]
 have h4:decide (b.Lo≤0∧0≤b.Hi)=false:=by apply decide_eq_false; omega
 have h5:decide (b.Lo > 0)=true:=decide_eq_true h
 simp only [Option.bind_some,h4,h5,beq_self_eq_true,if_true,Bool.or_self,Bool.false_eq_true,if_false,qbe,Q4,Xr,Xt,Xu,Xs,WX ha.wlo hb.wlo h,WX ha.wlo hb.whi h3,WX ha.whi hb.wlo h,WX ha.whi hb.whi h3,Z1]
 by_cases s1:a.Hi≤0
 ·simp only [s1,if_true]
  refine ⟨a.Lo,b.Lo,a.Hi,b.Hi,rfl,⟨h,h3,.inl rfl,.inl rfl,.inr rfl,.inr rfl,?_,?_⟩⟩ <;> omega
 ·by_cases s4:a.Lo ≥ 0
  ·simp only [s1,s4,if_true,if_false]
   refine ⟨a.Lo,b.Hi,a.Hi,b.Lo,rfl,⟨h3,h,.inl rfl,.inr rfl,.inr rfl,.inl rfl,?_,?_⟩⟩ <;> omega
  ·simp only [s1,s4,if_true,if_false]
   refine ⟨a.Lo,b.Lo,a.Hi,b.Lo,rfl,⟨h,h,.inl rfl,.inl rfl,.inr rfl,.inl rfl,?_,?_⟩⟩ <;> omega
theorem qdz {a b:qb} (ha:ZS a) (hb:ZS b) (h3:b.Hi<0):∃ x y u v,QY a b=some (nw (x * 65536 / y) (Zm (u * 65536) v))∧V2 (ngv a) (ngv b) x y u v:=by
 have h1:=ha.2.1
 have h2:=hb.2.1
 have h:b.Lo<0:=by omega
 have r1:=qfo h1 (Int.le_of_lt h); have r2:=qfo h1 (Int.le_of_lt h3)
 have r3:=Wb h2 a.Lo; have r4:=Wb h2 a.Hi
 unfold QY
 rw [YR ha,YR hb,J6 hb]
 have h4:decide (b.Lo≤0∧0≤b.Hi)=false:=by apply decide_eq_false; omega
 have h5:decide (b.Lo > 0)=false:=decide_eq_false (by omega)
 simp only [Option.bind_some,h4,h5,beq_self_eq_true,if_true,Bool.or_self,Bool.false_eq_true,if_false,qbe,Q4,Xr,Xt,Xu,Xs,WT ha.wlo hb.wlo h,WT ha.wlo hb.whi h3,WT ha.whi hb.wlo h,WT ha.whi hb.whi h3,Z1]
 by_cases s1:a.Hi≤0
 ·simp only [s1,if_true]
  refine ⟨-a.Hi,-b.Lo,-a.Lo,-b.Hi,rfl,⟨by omega,by omega,.inl rfl,.inr rfl,.inr rfl,.inl rfl,?_,?_⟩⟩ <;> simp only [ngv,Int.neg_mul_neg] <;> omega
 ·by_cases s4:a.Lo ≥ 0
  ·simp only [s1,s4,if_true,if_false]
   refine ⟨-a.Hi,-b.Hi,-a.Lo,-b.Lo,rfl,⟨by omega,by omega,.inl rfl,.inl rfl,.inr rfl,.inr rfl,?_,?_⟩⟩ <;> simp only [ngv,Int.neg_mul_neg] <;> omega
  ·simp only [s1,s4,if_true,if_false]
   refine ⟨-a.Hi,-b.Hi,-a.Lo,-b.Hi,rfl,⟨by omega,by omega,.inl rfl,.inl rfl,.inr rfl,.inl rfl,?_,?_⟩⟩ <;> simp only [ngv,Int.neg_mul_neg] <;> omega
theorem qec {a b:qb} (ha:ZS a) (hb:ZS b) (h:b.Lo≤0∧0≤b.Hi):QY a b=some ZO:=by
 unfold QY
 rw [YR ha,YR hb,J6 hb,decide_eq_true h]
 rfl
theorem qen (b:qb):QY ZO b=some ZO:=by
 unfold QY
 rw [ZL]
 rfl
theorem qeH (a:qb):QY a ZO=some ZO:=by
 unfold QY
 rw [qag,ZL]
 cases decide (a=ZO) <;> rfl
def sqm (a:qb):Int:=mx (mx a.Lo (-a.Hi)) 0
def mag (a:qb):Int:=mx a.Hi (-a.Lo)
theorem qfV {a:qb} (h:Ok a):Zp a=some (mag a):=by
 have:=h.wlo
 unfold WB at this
 unfold Zp mag
 rw [Zy (by omega) (by omega)]
 congr 2
 omega
theorem qf7 {a:qb} (h:ZS a):Xz a=some (nw (sqm a * sqm a / 65536) (Zm (mag a * mag a) 65536)):=by
 unfold Xz
 rw [YR h,qfV (.inr h)]
 have h':=h
 unfold ZS at h'
 have e:qc (0 - a.Hi) = -a.Hi:=by rw [Zy (by omega) (by omega)]; omega
 have e1:WB (sqm a):=by unfold WB sqm mx; split <;> split <;> omega
 have e2:WB (mag a):=by unfold WB mag mx; split <;> omega
 simp only [Option.bind_some,Bool.false_eq_true,if_false,e]
 have e3:mx (mx a.Lo (-a.Hi)) 0=sqm a:=rfl
 simp only [e3,Wh e1 e1,Wh e2 e2,Option.bind_some,Z1]
theorem qfF:Xz ZO=some ZO:=by
 unfold Xz
 rw [ZL]
 rfl
theorem qfW {a:qb} (h:ZS a) {p:Int} (hp:a.Lo≤p∧p≤a.Hi):sqm a * sqm a≤p * p∧p * p≤mag a * mag a:=by
 have h1:0≤sqm a∧sqm a≤p.natAbs:=by unfold sqm mx; split <;> split <;> omega
 have h2:(p.natAbs:Int)≤mag a:=by unfold mag mx; split <;> omega
 have e:p * p=(p.natAbs:Int) * p.natAbs:=Int.natAbs_mul_self.symm
 rw [e]
 exact ⟨Int.mul_le_mul h1.2 h1.2 h1.1 (by omega),Int.mul_le_mul h2 h2 (by omega) (by omega)⟩
instance (a:qb):Decidable (ZS a):=by unfold ZS; infer_instance
instance (a:qb):Decidable (Ok a):=by unfold Ok; infer_instance
theorem qaM (k0:Nat) (a t8 n s:Int) (hn:qc (a * 65536)=n) (hnp:0<n) (h0:0≤s) (hs1:s * s≤n) (hs2:n<(s+1) * (s+1)) (hn2:n≤281474976710656) :
  ∀ (k:Nat) (x:Int),0<x→s≤x→x≤4294967296→x<k→X3.l17 k0 a t8 k x=some s
 | 0,x,h1,_,_,h3=>by omega
 | k+1,x,h1,h2,h4,h3=>by
  unfold X3.l17
  rw [if_pos (by omega),hn]
  have hn0:0≤n:=by have:=Int.mul_nonneg h0 h0; omega
  have d1:Int.tdiv n x=n / x:=Int.tdiv_eq_ediv_of_nonneg hn0
  have d2:=Int.ediv_nonneg hn0 (Int.le_of_lt h1)
  have d3:n / x≤n:=Int.ediv_le_self x hn0
  have e1:qc (Int.tdiv n x)=n / x:=by rw [d1]; exact Zy (by omega) (by omega)
  have e2:qc (x+n / x)=x+n / x:=Zy (by omega) (by omega)
  have d4:Int.tdiv (x+n / x) 2=(x+n / x) / 2:=Int.tdiv_eq_ediv_of_nonneg (by omega)
  have e3:qc (Int.tdiv (x+n / x) 2)=(x+n / x) / 2:=by rw [d4]; exact Zy (by omega) (by omega)
  rw [e1,e2,e3]
  simp only [Option.bind_some]
  have m1:=(V0 (a:=n) (c:=n / x) h1).1 (Int.le_refl _)
  have m2:n<(n / x+1) * x:=by
   have:=Int.lt_ediv_add_one_mul_self n h1
   exact this
  by_cases hge:(x+n / x) / 2 ≥ x
  ·rw [if_pos (by simp; omega)]
   -- x ≤ n / x, hence x * x ≤ n, hence x ≤ s
   have g1:x≤n / x:=by omega
   have g2:x * x≤n:=by
    have:x * x≤n / x * x:=qbU g1 (by omega)
    omega
   have g3:¬ s+1≤x:=fun h=>by
    have:(s+1) * (s+1)≤x * x:=Int.mul_le_mul h h (by omega) (by omega)
    omega
   congr 1
   omega
  ·rw [if_neg (by simp; omega)]
   -- the next one is not below the root: (2 s - x) * x ≤ s * s ≤ n
   have g1:(2 * s - x) * x≤s * s:=by
    have h5:0≤(s - x) * (s - x):=by
     have:=Int.natAbs_mul_self (a:=s - x)
     omega
    have h6:(s - x) * (s - x)=s * s - (2 * s - x) * x:=by grind
    omega
   have g2:2 * s - x≤n / x:=(V0 h1).2 (by omega)
   have g3:0<(x+n / x) / 2:=by
    have:1≤x+n / x - 1∨x=1:=by omega
    rcases this with h5 | h5
    ·omega
    ·subst h5
     rw [Int.ediv_one] at hge g2 ⊢
     omega
   exact qaM k0 a t8 n s hn hnp h0 hs1 hs2 hn2 k _ g3 (by omega) (by omega) (by omega)
def qct:ByteArray:=(⟨#[0,1,2,2,3,3,3,3,4,4,4,4,4,4,4,4,5,5,5,5,5,5,5,5,5,5,5,5,5,5,5,5,6,6,6,6,6,6,6,6,6,6,6,6,6,6,6,6,6,6,6,6,6,6,6,6,6,6,6,6,6,6,6,6,7,7,7,7,7,7,7,7,7,7,7,7,7,7,7,7,7,7,7,7,7,7,7,7,7,7,7,7,7,7,7,7,7,7,7,7,7,7,7,7,7,7,7,7,7,7,7,7,7,7,7,7,7,7,7,7,7,7,7,7,7,7,7,7,8,8,8,8,8,8,8,8,8,8,8,8,8,8,8,8,8,8,8,8,8,8,8,8,8,8,8,8,8,8,8,8,8,8,8,8,8,8,8,8,8,8,8,8,8,8,8,8,8,8,8,8,8,8,8,8,8,8,8,8,8,8,8,8,8,8,8,8,8,8,8,8,8,8,8,8,8,8,8,8,8,8,8,8,8,8,8,8,8,8,8,8,8,8,8,8,8,8,8,8,8,8,8,8,8,8,8,8,8,8,8,8,8,8,8,8,8,8,8,8,8,8,8,8,8,8,8,8]⟩:ByteArray)
theorem qf6 {y:Int} (h0:0≤y) (h1:y<256):∃ v:Nat,qay qct (Wq y)=some (v:Int)∧v≤8∧y<2 ^ v:=by
 have hall:((List.range 256).all fun i=>match qay qct (i:Int) with | some v=>decide (0≤v) && decide (v.toNat≤8) && decide ((i:Int)<2 ^ v.toNat) | none=>false)=true:=by kernel_rfl
 have h:=List.all_eq_true.1 hall y.toNat (List.mem_range.2 (by omega))
 have e:((y.toNat:Nat):Int)=y:=by omega
 have e2:Wq y=y:=Go.IntWalk.u8_in y ⟨h0,by omega⟩
 rw [e2]
 rw [e] at h
 split at h
 ·rename_i v hv
  simp only [Bool.and_eq_true,decide_eq_true_eq] at h
  exact ⟨v.toNat,by rw [hv]; congr 1; omega,h.1.2,h.2⟩
 ·cases h
theorem fd (x c:Int) (h:0<c):Int.fdiv x c=x / c:=Int.fdiv_eq_ediv_of_nonneg _ (Int.le_of_lt h)
theorem qfu {i j:Nat} (h:i≤j):(2:Int) ^ i≤2 ^ j:=by
 have:=Nat.pow_le_pow_right (n:=2) (by omega) h
 exact_mod_cast this
theorem pw (v c:Nat):(2:Int) ^ (v+c)=2 ^ v * 2 ^ c:=Int.pow_add ..
theorem qgg {n:Int} (h0:0≤n) (h1:n<18446744073709551616):∃ m:Nat,ZU n=some (m:Int)∧m≤64∧n<2 ^ m:=by
 have key:∀ (y:Int) (c:Nat),0≤y→y<256→c≤56→(∀ P:Int,y<P→n<P * 2 ^ c) → ∃ m:Nat,((qay qct (Wq y)).bind fun t12=>some (qc ((c:Int)+(qc t12))))=some (m:Int)∧m≤64∧n<2 ^ m:=by
  intro y c g0 g1 g2 g3
  obtain ⟨v,hv,hv8,hlt⟩:=qf6 g0 g1
  rw [hv]
  refine ⟨v+c,?_,by omega,?_⟩
  ·simp only [Option.bind_some]
   rw [Zy (x:=(v:Int)) (by omega) (by omega),Zy (by omega) (by omega)]
   congr 1
   omega
  ·rw [pw]
   exact g3 _ hlt
 unfold ZU
 have f1:=fd n 4294967296 (by omega)
 rw [f1]
 have s16:∀ x:Int,Int.fdiv x 65536=x / 65536:=fun x=>fd x _ (by omega)
 have s8:∀ x:Int,Int.fdiv x 256=x / 256:=fun x=>fd x _ (by omega)
 have w16:qc (0+16)=16:=Zy (by omega) (by omega)
 have w48:qc (32+16)=48:=Zy (by omega) (by omega)
 have w8:qc (0+8)=8:=Zy (by omega) (by omega)
 have w24:qc (16+8)=24:=Zy (by omega) (by omega)
 have w40:qc (32+8)=40:=Zy (by omega) (by omega)
 have w56:qc (48+8)=56:=Zy (by omega) (by omega)
 by_cases c1:n ≥ 4294967296
 ·rw [if_pos (by simpa using c1)]
  simp only [Option.bind_some]
  by_cases c2:n / 4294967296 ≥ 65536
  ·rw [if_pos (by simpa using c2)]
   simp only [Option.bind_some,s16,w48]
   by_cases c3:n / 4294967296 / 65536 ≥ 256
   ·rw [if_pos (by simpa using c3)]
    simp only [Option.bind_some,s8,w56]
    exact key _ 56 (by omega) (by omega) (by omega) (fun P hP=>by simp only [Int.reducePow]; omega)
   ·rw [if_neg (by simpa using c3)]
    exact key _ 48 (by omega) (by omega) (by omega) (fun P hP=>by simp only [Int.reducePow]; omega)
  ·rw [if_neg (by simpa using c2)]
   simp only [Option.bind_some]
   by_cases c3:n / 4294967296 ≥ 256
   ·rw [if_pos (by simpa using c3)]
    simp only [Option.bind_some,s8,w40]
    exact key _ 40 (by omega) (by omega) (by omega) (fun P hP=>by simp only [Int.reducePow]; omega)
   ·rw [if_neg (by simpa using c3)]
    exact key _ 32 (by omega) (by omega) (by omega) (fun P hP=>by simp only [Int.reducePow]; omega)
 ·rw [if_neg (by simpa using c1)]
  simp only [Option.bind_some]
  by_cases c2:n ≥ 65536
  ·rw [if_pos (by simpa using c2)]
   simp only [Option.bind_some,s16,w16]
   by_cases c3:n / 65536 ≥ 256
   ·rw [if_pos (by simpa using c3)]
    simp only [Option.bind_some,s8,w24]
    exact key _ 24 (by omega) (by omega) (by omega) (fun P hP=>by simp only [Int.reducePow]; omega)
   ·rw [if_neg (by simpa using c3)]
    exact key _ 16 (by omega) (by omega) (by omega) (fun P hP=>by simp only [Int.reducePow]; omega)
  ·rw [if_neg (by simpa using c2)]
   simp only [Option.bind_some]
   by_cases c3:n ≥ 256
   ·rw [if_pos (by simpa using c3)]
    simp only [Option.bind_some,s8,w8]
    exact key _ 8 (by omega) (by omega) (by omega) (fun P hP=>by simp only [Int.reducePow]; omega)
   ·rw [if_neg (by simpa using c3)]
    exact key _ 0 (by omega) (by omega) (by omega) (fun P hP=>by simp only [Int.pow_zero]; omega)
theorem qaY:∀ n:Nat,∃ s:Nat,s * s≤n∧n<(s+1) * (s+1)
 | 0=>⟨0,by simp⟩
 | n+1=>by
  obtain ⟨s,h1,h2⟩:=qaY n
  by_cases h:n+1<(s+1) * (s+1)
  ·exact ⟨s,by omega,h⟩
  ·refine ⟨s+1,by omega,?_⟩
   have e:(s+1+1) * (s+1+1)=(s+1) * (s+1)+2 * (s+1)+1:=by grind
   omega
theorem qge {n:Int} (h:0≤n):∃ s:Int,0≤s∧s * s≤n∧n<(s+1) * (s+1):=by
 obtain ⟨s,h1,h2⟩:=qaY n.toNat
 refine ⟨s,by omega,?_,?_⟩
 ·have:((s * s:Nat):Int)≤n:=by omega
  simpa using this
 ·have:n<(((s+1) * (s+1):Nat):Int):=by omega
  simpa using this
theorem qb9 {s t:Int} (hs:0≤s) (ht:0≤t) (h:s * s<t * t):s<t:=by
 rcases Int.lt_or_le s t with h1 | h1
 ·exact h1
 ·have:=Int.mul_le_mul h1 h1 ht hs
  omega
theorem qgs {s t:Int} (hs:0≤s) (h:s≤t):s * s≤t * t:=Int.mul_le_mul h h hs (by omega)
structure JE (n s t:Int):Prop where
 s0:0≤s
 le:s * s≤n
 lt:n<(s+1) * (s+1)
 t_:t=if s * s<n then s+1 else s
theorem JE.up {n s t:Int} (h:JE n s t):n≤t * t:=by
 have h1:=h.le; have h2:=h.lt; have h3:=h.t_
 split at h3 <;> subst h3 <;> omega
theorem JE.st {n s t:Int} (h:JE n s t):s≤t∧t≤s+1:=by
 have h3:=h.t_
 split at h3 <;> omega
theorem JE.low {n s t:Int} (h:JE n s t):t=0∨(t - 1) * (t - 1)<n:=by
 have h1:=h.le; have h3:=h.t_; have h0:=h.s0
 split at h3
 ·right
  have:t - 1=s:=by omega
  rw [this]
  assumption
 ·subst h3
  rcases Int.lt_or_le 0 t with h4 | h4
  ·right
   have e:(t - 1) * (t - 1)=t * t - 2 * t+1:=by grind
   omega
  ·left; omega
theorem JE.bound {n s t:Int} (h:JE n s t) (hn:n≤140737488355328):s≤16777216∧t≤16777216:=by
 have h1:=h.le; have h0:=h.s0; have h4:=h.st
 have a:s<11863284:=qb9 h0 (by omega) (by omega)
 omega
theorem qcE {k0:Nat} (hk:4294967296<k0) {a:Int} (h0:0≤a) (h1:a≤2147483648):∃ s t,X3 k0 a=some (s,t,0)∧JE (a * 65536) s t:=by
 have hn:qc (a * 65536)=a * 65536:=Zy (by omega) (by omega)
 unfold X3
 rw [if_neg (by simp; omega),hn]
 by_cases hz:a * 65536=0
 ·rw [if_pos (by simpa using hz),hz]
  exact ⟨0,0,rfl,⟨by omega,by omega,by omega,by simp⟩⟩
 ·rw [if_neg (by simpa using hz)]
  have hu:Ja (a * 65536)=a * 65536:=Go.IntWalk.u64_in _ ⟨by omega,by omega⟩
  obtain ⟨m,hm,hm64,hlt⟩:=qgg (n:=a * 65536) (by omega) (by omega)
  rw [hu,hm]
  simp only [Option.bind_some]
  have e1:qc ((m:Int)+1)=m+1:=Zy (by omega) (by omega)
  have e2:Int.tdiv ((m:Int)+1) 2=(m+1) / 2:=Int.tdiv_eq_ediv_of_nonneg (by omega)
  have e3:qc (((m:Int)+1) / 2)=(m+1) / 2:=Zy (by omega) (by omega)
  rw [e1,e2,e3,if_pos (by omega)]
  have e4:min (((m:Int)+1) / 2).toNat 64=(m+1) / 2:=by omega
  rw [e4]
  generalize he:(m+1) / 2=e
  have p1:(0:Int)<2 ^ e:=Int.pow_pos (by omega)
  have p2:(2:Int) ^ e≤2 ^ 32:=qfu (by omega)
  have p3:(2:Int) ^ m≤2 ^ (e+e):=qfu (by omega)
  rw [pw] at p3
  have p4:qc (1 * 2 ^ e)=2 ^ e:=by rw [Int.one_mul]; exact Zy (by omega) (by omega)
  rw [p4]
  obtain ⟨s,s0,s1,s2⟩:=qge (n:=a * 65536) (by omega)
  have s3:s<2 ^ e:=qb9 s0 (Int.le_of_lt p1) (by omega)
  rw [qaM k0 a (m:Int) (a * 65536) s hn (by omega) s0 s1 s2 (by omega) k0 (2 ^ e) p1 (by omega) (by omega) (by omega)]
  simp only [Option.bind_some]
  have b1:s<11863284:=qb9 s0 (by omega) (by omega)
  have b2:qc (s * s)=s * s:=Zy (by have:=Int.mul_nonneg s0 s0; omega) (by omega)
  have b3:qc (s+1)=s+1:=Zy (by omega) (by omega)
  rw [b2,b3]
  by_cases hs:s * s<a * 65536
  ·rw [if_pos (by simpa using hs)]
   exact ⟨s,s+1,rfl,⟨s0,s1,s2,by rw [if_pos hs]⟩⟩
  ·rw [if_neg (by simpa using hs)]
   exact ⟨s,s,rfl,⟨s0,s1,s2,by rw [if_neg hs]⟩⟩
theorem qdd (k0:Nat):Xe k0 ZO=some (ZO,true):=by
 unfold Xe
 rw [ZL]
 rfl
theorem qbR (k0:Nat) {a:qb} (ha:ZS a) (h:a.Hi<0):Xe k0 a=some (⟨0,0⟩,false):=by
 unfold Xe
 rw [YR ha]
 simp only [Option.bind_some,Bool.false_eq_true,if_false]
 rw [if_pos (by simpa using h)]
theorem Vz {k0:Nat} (hk:4294967296<k0) {a:qb} (ha:ZS a) (h:0≤a.Hi):∃ s t u v,Xe k0 a=some (⟨s,t⟩,true)∧JE (mx a.Lo 0 * 65536) s u∧JE (a.Hi * 65536) v t∧s≤t∧ZS ⟨s,t⟩:=by
 have ha':=ha
 unfold ZS at ha'
 have hm:0≤mx a.Lo 0∧mx a.Lo 0≤a.Hi:=by unfold mx; split <;> omega
 obtain ⟨s,u,h1,h2⟩:=qcE hk (a:=mx a.Lo 0) (by omega) (by omega)
 obtain ⟨v,t,h3,h4⟩:=qcE hk (a:=a.Hi) (by omega) (by omega)
 have b1:=h2.bound (by omega)
 have b2:=h4.bound (by omega)
 have b0:=h2.s0
 have st:s≤t:=by
  have c1:=h2.le
  have c2:=h4.up
  have c3:=h4.s0
  have c4:=h4.st
  rcases Int.lt_or_le t s with c5 | c5
  ·have:t * t<s * s:=by
    have d1:(t+1) * (t+1)≤s * s:=qgs (by omega) (by omega)
    have d2:(t+1) * (t+1)=t * t+2 * t+1:=by grind
    omega
   omega
  ·exact c5
 have hf:ZS ⟨s,t⟩:=by unfold ZS; simp only; omega
 unfold Xe
 rw [YR ha]
 simp only [Option.bind_some,Bool.false_eq_true,if_false]
 rw [if_neg (by simpa using h),h1,h3]
 simp only [Option.bind_some,Z1,qfZ hf]
 exact ⟨s,t,u,v,rfl,h2,h4,st,hf⟩
theorem fc {l h d:Int} (hd:0<d) (hl:l≤h):l / d≤Zm h d:=by
 have h1:=(Vv (a:=h) (c:=Zm h d) hd).1 (Int.le_refl _)
 have h2:=(V0 (a:=l) (c:=l / d) hd).1 (Int.le_refl _)
 rcases Int.lt_or_le (Zm h d) (l / d) with h3 | h3
 ·have:(Zm h d+1) * d≤l / d * d:=qbU (by omega) (by omega)
  rw [Int.add_mul] at this
  omega
 ·exact h3
theorem Ok.b {a:qb} (h:Ok a):-2147483648≤a.Lo∧a.Lo≤a.Hi∧a.Hi≤2147483648∧(a≠ZO → -2147483648<a.Lo∧a.Hi<2147483648):=by
 rcases h with rfl | h
 ·simp [ZO]
 ·unfold ZS at h
  exact ⟨by omega,by omega,by omega,fun _=>by omega⟩
theorem Ok.ent_of {a:qb} (h:Ok a) (h1:a.Lo ≤ -2147483648∨2147483648≤a.Hi):a=ZO:=by
 rcases h with h | h
 ·exact h
 ·unfold ZS at h; omega
theorem mnl (x y:Int):mn x y≤x∧mn x y≤y∧(mn x y=x∨mn x y=y):=by unfold mn; split <;> omega
theorem mxl (x y:Int):x≤mx x y∧y≤mx x y∧(mx x y=x∨mx x y=y):=by unfold mx; split <;> omega
theorem qdk (a b:qb):YV a b=some (decide (b.Lo≤a.Lo∧a.Hi≤b.Hi)):=by unfold YV; rw [Bool.decide_and]
theorem qe0 {a b:qb} (ha:Ok a) (hb:Ok b):Ok ⟨mn a.Lo b.Lo,mx a.Hi b.Hi⟩:=by
 have h1:=mnl a.Lo b.Lo; have h2:=mxl a.Hi b.Hi; have h3:=ha.b; have h4:=hb.b
 by_cases e:a=ZO
 ·subst e; left; simp only [ZO,qb.mk.injEq] at *; omega
 ·by_cases e':b=ZO
  ·subst e'; left; simp only [ZO,qb.mk.injEq] at *; omega
  ·right; have h5:=h3.2.2.2 e; have h6:=h4.2.2.2 e'; unfold ZS; simp only; omega
theorem qa5 (x:Int):YM x=some (decide (-2147483648<x∧x<2147483648)):=by unfold YM; rw [Bool.decide_and]
theorem ZS.le {a:qb} (h:ZS a):a.Lo≤a.Hi:=h.2.1
theorem VC {a b:qb} (ha:Ok a) (hb:Ok b):∃ r,QU a b=some r∧Ok r:=by
 rcases ha with rfl | ha
 ·exact ⟨ZO,qbI _,.inl rfl⟩
 ·rcases hb with rfl | hb
  ·exact ⟨ZO,qce _,.inl rfl⟩
  ·exact ⟨_,qc2 ha hb,Wc (by have:=ha.le; have:=hb.le; omega)⟩
theorem qeq {b:qb} (hb:Ok b):Xj ZO b=some ZO:=by
 unfold Xj
 exact bT (qcy hb) (bT (qbI _) rfl)
theorem qd6 (a:qb):Xj a ZO=some ZO:=by
 unfold Xj
 exact bT (qcy (.inl rfl)) (bT (v:=ZO) (qce a) rfl)
theorem qbm {a b:qb} (ha:Ok a) (hb:Ok b):∃ r,Xj a b=some r∧Ok r:=by
 rcases ha with rfl | ha
 ·exact ⟨ZO,qeq hb,.inl rfl⟩
 ·rcases hb with rfl | hb
  ·exact ⟨ZO,qd6 _,.inl rfl⟩
  ·exact ⟨_,qeY ha hb,Wc (by have:=ha.le; have:=hb.le; omega)⟩
theorem qaj {a b:qb} (ha:Ok a) (hb:Ok b):∃ r,Q9 a b=some r∧Ok r:=by
 rcases ha with rfl | ha
 ·exact ⟨ZO,qeD _,.inl rfl⟩
 ·rcases hb with rfl | hb
  ·exact ⟨ZO,qes _,.inl rfl⟩
  ·obtain ⟨l,h,hm,H⟩:=qfj ha hb
   exact ⟨_,hm,Wc (fc (by omega) H.le)⟩
theorem V2.fits {a b:qb} {x y u v:Int} (H:V2 a b x y u v) (hb:0<b.Lo):x * 65536 / y≤Zm (u * 65536) v:=by
 have h1:=qaJ H.ypos hb H.lo.1
 have h2:=qat hb H.vpos H.hi.1
 have h3:=fc (l:=a.Lo * 65536) hb (Int.le_refl _)
 omega
theorem qbE {a b:qb} (ha:Ok a) (hb:Ok b):∃ r,QY a b=some r∧Ok r:=by
 rcases ha with rfl | ha
 ·exact ⟨ZO,qen _,.inl rfl⟩
 ·rcases hb with rfl | hb
  ·exact ⟨ZO,qeH _,.inl rfl⟩
  ·rcases Int.lt_or_le 0 b.Lo with h0 | h0
   ·obtain ⟨x,y,u,v,hd,D⟩:=qdh ha hb h0
    exact ⟨_,hd,Wc (D.fits h0)⟩
   ·rcases Int.lt_or_le b.Hi 0 with h1 | h1
    ·obtain ⟨x,y,u,v,hd,D⟩:=qdz ha hb h1
     exact ⟨_,hd,Wc (D.fits (by simp only [ngv]; omega))⟩
    ·exact ⟨ZO,qec ha hb ⟨h0,h1⟩,.inl rfl⟩
theorem qfQ {a:qb} (h:ZS a):sqm a * sqm a≤mag a * mag a:=by
 have h1:=qfW h (p:=a.Lo) ⟨by omega,h.le⟩
 omega
theorem qfr {a:qb} (ha:Ok a):∃ r,Xz a=some r∧Ok r:=by
 rcases ha with rfl | ha
 ·exact ⟨ZO,qfF,.inl rfl⟩
 ·exact ⟨_,qf7 ha,Wc (fc (by omega) (qfQ ha))⟩
def Le (a b:qb):Prop:=b.Lo≤a.Lo∧a.Hi≤b.Hi
theorem Le.ent {a b:qb} (h:Le a b) (hb:Ok b) (e:a=ZO):b=ZO:=by
 subst e
 exact hb.ent_of (.inl h.1)
theorem Le.fin {a b:qb} (h:Le a b) (ha:Ok a) (hb:ZS b):ZS a:=by
 rcases ha with rfl | ha
 ·unfold Le ZO at h; unfold ZS at hb; simp only at h; omega
 ·exact ha
theorem qbN.mono {a b a' b':qb} {l h l' h':Int} (fa:ZS a) (fb:ZS b) (H:qbN a b l h) (H':qbN a' b' l' h') (h1:Le a a') (h2:Le b b'):l'≤l∧h≤h':=by
 unfold Le at h1 h2
 have la:=fa.le; have lb:=fb.le
 have i:=H.isl; have j:=H.ish
 have m1:=H'.mem (p:=a.Lo) (q:=b.Lo) (by omega) (by omega)
 have m2:=H'.mem (p:=a.Lo) (q:=b.Hi) (by omega) (by omega)
 have m3:=H'.mem (p:=a.Hi) (q:=b.Lo) (by omega) (by omega)
 have m4:=H'.mem (p:=a.Hi) (q:=b.Hi) (by omega) (by omega)
 omega
theorem V2.mono {a b a' b':qb} {x y u v x' y' u' v':Int} (la:a.Lo≤a.Hi) (lb:b.Lo≤b.Hi) (H:V2 a b x y u v) (H':V2 a' b' x' y' u' v') (h1:Le a a') (h2:Le b b'):x' * 65536 / y'≤x * 65536 / y∧Zm (u * 65536) v≤Zm (u' * 65536) v':=by
 unfold Le at h1 h2
 have m1:=H'.mem (p:=x) (q:=y) (by have:=H.x_; omega) (by have:=H.y_; omega)
 have m2:=H'.mem (p:=u) (q:=v) (by have:=H.u_; omega) (by have:=H.v_; omega)
 exact ⟨qaJ H'.ypos H.ypos m1.1,qat H.vpos H'.vpos m2.2⟩
theorem JE.mono {n s t n' s' t':Int} (h:JE n s t) (h':JE n' s' t') (hn:n≤n'):s≤s'∧t≤t':=by
 constructor
 ·have:=qb9 h.s0 (by have:=h'.s0; omega) (Int.lt_of_le_of_lt (Int.le_trans h.le hn) h'.lt)
  omega
 ·have h1:=h'.up
  have h2:=h'.s0
  have h3:=h'.st
  rcases h.low with h4 | h4
  ·omega
  ·rcases Int.lt_or_le (t - 1) 0 with h5 | h5
   ·omega
   ·have:=qb9 h5 (by omega:0≤t') (by omega)
    omega
theorem qfa {a:qb} (h:ZS a):ZS (ngv a):=qc8 h
theorem qfO {a:qb} (h:Ok a):Ok (ngv a):=by
 rcases h with rfl | h
 ·exact .inl rfl
 ·exact .inr (qfa h)
theorem qf8 {a:qb} (h:Ok a):XQ a=some (ngv a):=qcy h
def fq (n q:Int):Int:=if 0<q then n / q else (-n) / (-q)
def cq (n q:Int):Int:=if 0<q then Zm n q else Zm (-n) (-q)
structure Cor (a b:qb) (L U:Int):Prop where
 le:L≤U
 lo:L≤fq (a.Lo * 65536) b.Lo∧L≤fq (a.Lo * 65536) b.Hi∧L≤fq (a.Hi * 65536) b.Lo∧L≤fq (a.Hi * 65536) b.Hi
 hi:cq (a.Lo * 65536) b.Lo≤U∧cq (a.Lo * 65536) b.Hi≤U∧cq (a.Hi * 65536) b.Lo≤U∧cq (a.Hi * 65536) b.Hi≤U
 isl:L=fq (a.Lo * 65536) b.Lo∨L=fq (a.Lo * 65536) b.Hi∨L=fq (a.Hi * 65536) b.Lo∨L=fq (a.Hi * 65536) b.Hi
 ish:U=cq (a.Lo * 65536) b.Lo∨U=cq (a.Lo * 65536) b.Hi∨U=cq (a.Hi * 65536) b.Lo∨U=cq (a.Hi * 65536) b.Hi
theorem qbc {n q:Int} (h:0<q):fq n q=n / q:=by unfold fq; rw [if_pos h]
theorem qbz {n q:Int} (h:0<q):cq n q=Zm n q:=by unfold cq; rw [if_pos h]
theorem Vt {p q:Int} (h:q<0):fq (p * 65536) q = -p * 65536 / -q:=by unfold fq; rw [if_neg (by omega),Int.neg_mul]
theorem Vu {p q:Int} (h:q<0):cq (p * 65536) q=Zm (-p * 65536) (-q):=by unfold cq; rw [if_neg (by omega),Int.neg_mul]
theorem Cor.neg {a b:qb} {L U:Int} (C:Cor (ngv a) (ngv b) L U) (hb:b.Hi<0) (lb:b.Lo≤b.Hi):Cor a b L U:=by
 have hb':b.Lo<0:=by omega
 obtain ⟨c0,c1,c2,c3,c4⟩:=C
 simp only [ngv] at c1 c2 c3 c4
 rw [qbc (q:=-b.Lo) (by omega),qbc (q:=-b.Hi) (by omega),qbc (q:=-b.Lo) (by omega),qbc (q:=-b.Hi) (by omega)] at c1 c3
 rw [qbz (q:=-b.Lo) (by omega),qbz (q:=-b.Hi) (by omega),qbz (q:=-b.Lo) (by omega),qbz (q:=-b.Hi) (by omega)] at c2 c4
 refine ⟨c0,?_,?_,?_,?_⟩
 ·rw [Vt hb,Vt hb',Vt hb,Vt hb']; omega
 ·rw [Vu hb,Vu hb',Vu hb,Vu hb']; omega
 ·rw [Vt hb,Vt hb',Vt hb,Vt hb']; omega
 ·rw [Vu hb,Vu hb',Vu hb,Vu hb']; omega
end Go.Proofs.YtpmgpcklieincaaGreatDoor
set_option maxRecDepth 10000
set_option linter.unusedVariables false
set_option linter.unusedSimpArgs false
namespace Go.Proofs.YtpmgpcklieincaaGreatDoor
open Go
inductive Ex where
 | num (c:qb)
 | var (n:Int)
 | time
 | neg (e:Ex)
 | sqr (e:Ex)
 | sqrt (e:Ex)
 | bin (op:Int) (a b:Ex)
abbrev Z0:qb:=⟨0,0⟩
def Ex.code:Ex→List qu
 | .num c=>[⟨1,0,c⟩]
 | .var n=>[⟨2,n,Z0⟩]
 | .time=>[⟨3,0,Z0⟩]
 | .neg e=>⟨4,0,Z0⟩ :: e.code
 | .sqr e=>⟨5,0,Z0⟩ :: e.code
 | .sqrt e=>⟨6,0,Z0⟩ :: e.code
 | .bin op a b=>⟨op,0,Z0⟩ :: (a.code++b.code)
def Ex.ok (n:Int):Ex→Prop
 | .num c=>Ok c
 | .var k=>0≤k∧k<n
 | .time=>True
 | .neg e=>e.ok n
 | .sqr e=>e.ok n
 | .sqrt e=>e.ok n
 | .bin op a b=>(7≤op∧op≤10)∧a.ok n∧b.ok n
def Ex.dep:Ex→Nat
 | .neg e=>e.dep+1
 | .sqr e=>e.dep+1
 | .sqrt e=>e.dep+1
 | .bin _ a b=>max a.dep b.dep+1
 | _=>1
abbrev K32:Nat:=4294967296
def sqv (a:qb):Option qb:=if a.Lo<0 then some ZO else (Xe (K32+1) a).map (·.1)
def Ex.ev (x:List qb) (t:qb):Ex→Option qb
 | .num c=>some c
 | .var n=>x[n.toNat]?
 | .time=>some t
 | .neg e=>(e.ev x t).bind XQ
 | .sqr e=>(e.ev x t).bind Xz
 | .sqrt e=>(e.ev x t).bind sqv
 | .bin op a b=>(a.ev x t).bind fun u=>(b.ev x t).bind fun v=>if op=7 then QU u v else if op=8 then Xj u v else if op=9 then Q9 u v else QY u v
theorem JE.uniq {n s t s' t':Int} (h:JE n s t) (h':JE n s' t'):s=s'∧t=t':=by
 have h1:=JE.mono h h' (Int.le_refl _)
 have h2:=JE.mono h' h (Int.le_refl _)
 omega
theorem qdG {a:qb} (ha:Ok a) (h0:0≤a.Lo) {k:Nat} (hk:K32<k):∃ r,Ok r∧Xe k a=some (r,true)∧Xe (K32+1) a=some (r,true):=by
 rcases ha with rfl | fa
 ·exact absurd h0 (by decide)
 ·have h2:0≤a.Hi:=by have:=fa.le; omega
  obtain ⟨s,t,u,v,e1,r1,r2,h3,h4⟩:=Vz hk fa h2
  obtain ⟨s',t',u',v',e1',r1',r2',h3',h4'⟩:=Vz (k0:=K32+1) (by decide) fa h2
  obtain ⟨rfl,_⟩:=JE.uniq r1 r1'
  obtain ⟨_,rfl⟩:=JE.uniq r2 r2'
  exact ⟨⟨s,t⟩,.inr h4,e1,e1'⟩
structure Env (n:Int) (x:List qb) (t:qb):Prop where
 len:(x.length:Int)=n
 ok:∀ y ∈ x,Ok y
 tok:Ok t
theorem Env.get {n:Int} {x:List qb} {t:qb} (h:Env n x t) {k:Int} (hk:0≤k∧k<n):∃ y,x[k.toNat]? = some y∧Ok y:=by
 have hlt:k.toNat<x.length:=by have:=h.len; omega
 exact ⟨x[k.toNat],List.getElem?_eq_getElem hlt,h.ok _ (List.getElem_mem hlt)⟩
theorem Ex.code_pos:∀ e:Ex,0<e.code.length
 | .num _ | .var _ | .time | .neg _ | .sqr _ | .sqrt _ | .bin _ _ _=>by simp [Ex.code]
end Go.Proofs.YtpmgpcklieincaaGreatDoor
set_option maxRecDepth 10000
set_option linter.unusedVariables false
set_option linter.unusedSimpArgs false
namespace Go.Proofs.YtpmgpcklieincaaGreatDoor
open Go
def mk {α:Type} (n:Nat) (f:Nat→α):List α:=(List.range n).map f
theorem qdK {i:Nat} (h:i<1000000):qc ((i:Int)+1)=((i+1:Nat):Int):=by
 rw [Zy (by omega) (by omega)]; omega
def fr (l:List Int) (i:Nat):Int:=if i<l.length then l.getD i default else 0
theorem qc4 (x:Int) {c:Nat} (hc:c<9223372036854775808) (h0:(BitVec.ofInt 64 (c:Int)).toNat=c):0≤QW .i64 x (c:Int)∧QW .i64 x (c:Int)≤(c:Int):=by
 have h:((BitVec.ofInt 64 x) &&& (BitVec.ofInt 64 (c:Int))).toNat≤c:=by
  rw [BitVec.toNat_and]
  refine Nat.le_trans Nat.and_le_right ?_
  rw [h0]; exact Nat.le_refl _
 show 0≤IntKind.wrap .i64 (((BitVec.ofInt 64 x) &&& (BitVec.ofInt 64 (c:Int))).toNat:Int)∧IntKind.wrap .i64 (((BitVec.ofInt 64 x) &&& (BitVec.ofInt 64 (c:Int))).toNat:Int)≤(c:Int)
 have e:IntKind.wrap .i64 (((BitVec.ofInt 64 x) &&& (BitVec.ofInt 64 (c:Int))).toNat:Int)=(((BitVec.ofInt 64 x) &&& (BitVec.ofInt 64 (c:Int))).toNat:Int):=Zy (by omega) (by omega)
 rw [e]; omega
theorem qc9 (x:Int):0≤QW .i64 x 255∧QW .i64 x 255≤255:=qc4 x (c:=255) (by decide) (by decide)
theorem qgk (x:Int):0≤QW .i64 x 1∧QW .i64 x 1≤1:=qc4 x (c:=1) (by decide) (by decide)
theorem tmb (x:Int) {m:Int} (hm:0<m):-m<Int.tmod x m∧Int.tmod x m<m:=by
 have h1:=Int.tmod_lt_of_pos x hm
 have h2:=Int.tmod_lt_of_pos (-x) hm
 rw [Int.neg_tmod] at h2
 omega
theorem tmp (x:Int) {m:Int} (hx:0≤x) (hm:0<m):0≤Int.tmod x m∧Int.tmod x m<m:=⟨Int.tmod_nonneg m hx,Int.tmod_lt_of_pos x hm⟩
theorem qfm (c:qb) {b:Int} (hb:1≤b∧b≤256):∃ r,Yd c b=some r∧Ok r:=by
 unfold Yd
 rw [if_pos (by omega),if_pos (by omega)]
 have h1:=tmb c.Lo (m:=1048576) (by omega)
 have h2:=tmb c.Hi (m:=b) (by omega)
 have h3:qc (Int.tmod c.Hi b+b)=Int.tmod c.Hi b+b:=Zy (by omega) (by omega)
 have h4:=tmp (Int.tmod c.Hi b+b) (m:=b) (by omega) (by omega)
 rw [h3,Zy (by omega) (by omega)]
 refine ⟨_,rfl,.inr ?_⟩
 unfold ZS
 simp only
 omega
theorem qb1 {o:Int} (h:1≤o∧o≤10):XA o=some (if o≤3 then 0 else if o≤6 then 1 else 2):=by
 unfold XA
 rw [if_neg (by simp; omega)]
 by_cases h1:o≤3
 ·rw [if_pos (by simpa using h1),if_pos h1]
 ·rw [if_neg (by simpa using h1),if_neg h1]
  by_cases h2:o≤6
  ·rw [if_pos (by simpa using h2),if_pos h2]
  ·rw [if_neg (by simpa using h2),if_neg h2]
def sml (a:qb):qb:=⟨mn (Int.tmod a.Lo 16777216) (Int.tmod a.Hi 16777216),mx (Int.tmod a.Lo 16777216) (Int.tmod a.Hi 16777216)⟩
theorem qeR (a:qb):ZS (sml a):=by
 have h1:=tmb a.Lo (m:=16777216) (by omega)
 have h2:=tmb a.Hi (m:=16777216) (by omega)
 unfold sml ZS mn mx
 simp only
 split <;> split <;> omega
theorem Le.trans {a b c:qb} (h:Le a b) (k:Le b c):Le a c:=⟨Int.le_trans k.1 h.1,Int.le_trans h.2 k.2⟩
def up (w a b:qb):Int:=if a.Hi<0∧0≤b.Lo then 2 else if w.Hi<0∨0≤w.Lo then 0 else 1
end Go.Proofs.YtpmgpcklieincaaGreatDoor
set_option maxRecDepth 10000
set_option linter.unusedVariables false
set_option linter.unusedSimpArgs false
namespace Go.Proofs.YtpmgpcklieincaaGreatDoor
open Go
def ar (op:Int):Option Nat:=if 1≤op∧op≤3 then some 0 else if 4≤op∧op≤6 then some 1 else if 7≤op∧op≤10 then some 2 else none
theorem V9 (op:Int):ZK op=some (match ar op with | some a=>(a:Int) | none=>-1):=by
 unfold ZK ar
 by_cases h1:1≤op∧op≤3
 ·rw [if_pos (by simpa using h1),if_pos h1]; rfl
 rw [if_neg (by simpa using h1),if_neg h1]
 by_cases h2:4≤op∧op≤6
 ·rw [if_pos (by simpa using h2),if_pos h2]; rfl
 rw [if_neg (by simpa using h2),if_neg h2]
 by_cases h3:7≤op∧op≤10
 ·rw [if_pos (by simpa using h3),if_pos h3]; rfl
 ·rw [if_neg (by simpa using h3),if_neg h3]
theorem qgq {op:Int} {a:Nat} (h:ar op=some a):a≤2:=by
 unfold ar at h
 split at h
 ·injection h with h; omega
 split at h
 ·injection h with h; omega
 split at h
 ·injection h with h; omega
 ·cases h
def run:Nat→List qu→Option Nat
 | 0,_=>some 0
 | _+1,[]=>none
 | m+1,x :: l=>match ar x.Op with
  | none=>none
  | some a=>(run (m+a) l).map (· + 1)
theorem VY:∀ (e:Ex) (n:Int),e.ok n → ∀ (m:Nat) (post:List qu),run (m+1) (e.code++post)=(run m post).map (e.code.length + ·)
 | .num c,n,_,m,post | .var c,n,_,m,post | .time,n,_,m,post=>by
  show (run (m+0) post).map (· + 1)=_
  rw [Nat.add_zero]; congr 1; funext x; exact Nat.add_comm _ _
 | .neg e,n,h,m,post | .sqr e,n,h,m,post | .sqrt e,n,h,m,post=>by
  show (run (m+1) (e.code++post)).map (· + 1)=_
  rw [VY e n h m post]
  cases run m post with
  | none=>rfl
  | some k=>simp only [Option.map_some,Ex.code,List.length_cons]; congr 1; omega
 | .bin op a b,n,h,m,post=>by
  have ho:ar op=some 2:=by
   have:=h.1
   unfold ar
   rw [if_neg (by omega),if_neg (by omega),if_pos (by omega)]
  show run (m+1) (⟨op,0,Z0⟩ :: (a.code++b.code)++post)=_
  rw [List.cons_append,run,show ar (⟨op,0,Z0⟩:qu).Op=some 2 from ho]
  show (run (m+2) _).map (· + 1)=_
  rw [List.append_assoc,show m+2=(m+1)+1 by omega,VY a n h.2.1 (m+1) (b.code++post),VY b n h.2.2 m post]
  cases run m post with
  | none=>rfl
  | some k=>simp only [Option.map_some,Ex.code,List.length_cons,List.length_append]; congr 1; omega
theorem wk {x:Int} (h1:-1000000000≤x) (h2:x≤1000000000):qc x=x:=Zy (by omega) (by omega)
theorem qak (l:List qu) (hl:l.length<1000) (k0:Nat) (hv:∀ x ∈ l,∃ a,ar x.Op=some a):∀ (r:List qu) (i m k:Nat),l.drop i=r→i+r.length=l.length→r.length<k→m≤2 * i+1→XM.l8 k0 l k ((m+1:Nat):Int) (i:Int)=some (match run (m+1) r with | some n=>.inl ((i+n:Nat):Int) | none=>.inr ())
 | [],i,m,k,hr,hi,hk,hm=>by
  obtain ⟨k,rfl⟩:∃ j,k=j+1:=⟨k - 1,by omega⟩
  simp only [List.length_nil] at hi
  rw [XM.l8,if_neg (by simp; omega),run]
 | x :: r,i,m,k,hr,hi,hk,hm=>by
  obtain ⟨k,rfl⟩:∃ j,k=j+1:=⟨k - 1,by omega⟩
  simp only [List.length_cons] at hi hk
  have hx:l[i]? = some x:=by
   have:=List.getElem?_drop (xs:=l) (i:=i) (j:=0)
   rw [hr] at this; simpa using this.symm
  have hd:l.drop (i+1)=r:=by
   have:(l.drop i).drop 1=r:=by rw [hr]; rfl
   rwa [List.drop_drop] at this
  obtain ⟨a,ha⟩:=hv x (List.mem_of_getElem? hx)
  have ha2:=qgq ha
  rw [XM.l8,if_pos (by simp; omega),if_pos (by omega),Int.toNat_natCast,hx,Option.bind_some,V9,ha,Option.bind_some,run,ha]
  dsimp only
  have e1:qc (((m+1:Nat):Int)+qc ((a:Int) - 1))=((m+a:Nat):Int):=by rw [wk (x:=(a:Int) - 1) (by omega) (by omega),wk (by omega) (by omega)]; omega
  have e2:qc ((i:Int)+1)=((i+1:Nat):Int):=by rw [wk (by omega) (by omega)]; omega
  rw [e1,e2]
  cases hma:m+a with
  | zero=>rw [if_pos (by simp),run]; rfl
  | succ q =>
   rw [if_neg (by simp; omega),qak l hl k0 hv r (i+1) q k hd (by omega) (by omega) (by omega)]
   cases run (q+1) r with
   | none=>rfl
   | some n=>simp only [Option.map_some]; congr 2; omega
theorem qdQ {l:List qu} (hl:l.length<1000) {k:Nat} (hk:1000<k) (hv:∀ x ∈ l,∃ a,ar x.Op=some a):XM k l=some (match run 1 l with | some n=>(n:Int) | none=>(l.length:Int)+1):=by
 unfold XM
 have:=qak l hl k hv l 0 0 k (by simp) (by omega) (by omega) (by omega)
 rw [show ((0+1:Nat):Int)=1 from rfl,show ((0:Nat):Int)=0 from rfl] at this
 rw [this,Option.bind_some]
 cases run 1 l with
 | none=>rw [wk (by omega) (by omega)]
 | some n=>simp
end Go.Proofs.YtpmgpcklieincaaGreatDoor
set_option maxRecDepth 10000
set_option linter.unusedVariables false
set_option linter.unusedSimpArgs false
namespace Go.Proofs.YtpmgpcklieincaaGreatDoor
open Go
def Ex.subs:Ex→List Ex
 | .neg e=>[e]
 | .sqr e=>[e]
 | .sqrt e=>[e]
 | .bin _ a b=>[a,b]
 | _=>[]
def Ex.op:Ex→Int
 | .num _=>1
 | .var _=>2
 | .time=>3
 | .neg _=>4
 | .sqr _=>5
 | .sqrt _=>6
 | .bin op _ _=>op
theorem Ex.head (e:Ex):∃ x r,e.code=x :: r∧x.Op=e.op∧r=(e.subs.map Ex.code).flatten:=by
 cases e <;> exact ⟨_,_,rfl,rfl,by simp [Ex.subs]⟩
theorem Ex.arity {n:Int} {e:Ex} (h:e.ok n):ar e.op=some e.subs.length:=by
 cases e with
 | bin op a b =>
  have:=h.1
  show ar op=some 2
  unfold ar
  rw [if_neg (show ¬ (1≤op∧op≤3) by omega),if_neg (show ¬ (4≤op∧op≤6) by omega),if_pos (show 7≤op∧op≤10 by omega)]
 | _=>rfl
theorem Ex.subs_ok {n:Int} {e:Ex} (h:e.ok n):∀ s ∈ e.subs,s.ok n:=by
 cases e <;> intro s hs <;> simp [Ex.subs] at hs
 ·subst hs; exact h
 ·subst hs; exact h
 ·subst hs; exact h
 ·rcases hs with rfl | rfl
  ·exact h.2.1
  ·exact h.2.2
inductive WL {α β:Type} (R:α→β→Prop):List α→List β→Prop
 | nil:WL R [] []
 | cons {a:α} {b:β} {l:List α} {m:List β} (h:R a b) (t:WL R l m):WL R (a :: l) (b :: m)
end Go.Proofs.YtpmgpcklieincaaGreatDoor
set_option maxRecDepth 10000
set_option linter.unusedVariables false
set_option linter.unusedSimpArgs false
namespace Go.Proofs.YtpmgpcklieincaaGreatDoor
open Go
theorem Wa {n:Int}:∀ (e:Ex),e.ok n → ∀ x ∈ e.code,∃ a,ar x.Op=some a
 | .num _,_,x,hx | .var _,_,x,hx | .time,_,x,hx=>by
  obtain rfl:=List.mem_singleton.1 hx
  exact ⟨0,rfl⟩
 | .neg e,h,x,hx | .sqr e,h,x,hx | .sqrt e,h,x,hx=>by
  rcases List.mem_cons.1 hx with rfl | hx
  ·exact ⟨1,rfl⟩
  ·exact Wa e h x hx
 | .bin op a b,h,x,hx=>by
  rcases List.mem_cons.1 hx with rfl | hx
  ·exact ⟨2,Ex.arity (e:=.bin op a b) h⟩
  ·rcases List.mem_append.1 hx with hx | hx
   ·exact Wa a h.2.1 x hx
   ·exact Wa b h.2.2 x hx
theorem qeb {n:Int} {ss:List Ex} (h:∀ s ∈ ss,s.ok n):∀ x ∈ (ss.map Ex.code).flatten,∃ a,ar x.Op=some a:=fun x hx=>by
 obtain ⟨c,hc,hx⟩:=List.mem_flatten.1 hx
 obtain ⟨s,hs,rfl⟩:=List.mem_map.1 hc
 exact Wa s (h s hs) x hx
theorem qck {n:Int} {e:Ex} (h:e.ok n) {ss:List Ex} (hs:∀ s ∈ ss,s.ok n) (hl:(e.code++(ss.map Ex.code).flatten).length<1000) {k:Nat} (hk:2000<k):XM k (e.code++(ss.map Ex.code).flatten)=some (e.code.length:Int):=by
 rw [qdQ hl (by omega) (fun x hx=>(List.mem_append.1 hx).elim (Wa e h x) (qeb hs x))]
 have:=VY e n h 0 (ss.map Ex.code).flatten
 rw [Nat.zero_add,run] at this
 rw [this]; simp
theorem qac {n:Int} {l:List qu} (hl:l.length<1000) {k0:Nat} (hk0:2000<k0) {q:Nat} (t9:qu) (hq2:q≤2) :
  ∀ (ss:List Ex) (pre:List qu) (acc:List (List qu)) (j k:Nat),(∀ s ∈ ss,s.ok n)→l=pre++(ss.map Ex.code).flatten→j+ss.length=q→ss.length<k→acc.length+ss.length<1000→XE.l14 k0 l t9 (q:Int) k acc (pre.length:Int) (j:Int)=some (acc++ss.map Ex.code)
 | [],pre,acc,j,k,_,_,hj,hk,_=>by
  obtain ⟨k,rfl⟩:∃ m,k=m+1:=⟨k - 1,by omega⟩
  rw [XE.l14,if_neg (by simp only [decide_eq_true_eq]; simp only [List.length_nil] at hj; omega)]
  simp
 | s :: ss,pre,acc,j,k,hok,hpre,hj,hk,hacc=>by
  obtain ⟨k,rfl⟩:∃ m,k=m+1:=⟨k - 1,by omega⟩
  simp only [List.length_cons] at hj hk hacc
  have hpre':l=pre++(s.code++(ss.map Ex.code).flatten):=by rw [hpre]; simp
  have hlen:l.length=pre.length+(s.code++(ss.map Ex.code).flatten).length:=by rw [hpre',List.length_append]
  have hd:l.drop ((pre.length:Int)).toNat=s.code++(ss.map Ex.code).flatten:=by rw [Int.toNat_natCast,hpre',List.drop_left]
  have hle:s.code.length≤(s.code++(ss.map Ex.code).flatten).length:=by rw [List.length_append]; omega
  have hw:qc ((pre.length:Int)+(s.code.length:Int))=((pre.length+s.code.length:Nat):Int):=by rw [wk (by omega) (by omega)]; omega
  have hw2:qc ((j:Int)+1)=((j+1:Nat):Int):=by rw [wk (by omega) (by omega)]; omega
  rw [XE.l14,if_pos (by simp only [decide_eq_true_eq]; omega),if_pos (by omega),hd,qck (hok s (by simp)) (fun z hz=>hok z (by simp [hz])) (by omega) hk0,Option.bind_some,hw,if_pos (by omega),if_pos (by omega),hw2]
  have htk:(l.take (((pre.length+s.code.length:Nat):Int)).toNat).drop ((pre.length:Int)).toNat=s.code:=by
   rw [Int.toNat_natCast,Int.toNat_natCast,hpre',← List.append_assoc,show pre.length+s.code.length=(pre++s.code).length by rw [List.length_append],List.take_left,List.drop_left]
  rw [htk]
  have:=qac hl hk0 t9 hq2 ss (pre++s.code) (acc++[s.code]) (j+1) k (fun z hz=>hok z (by simp [hz])) (by rw [hpre]; simp) (by omega) (by omega) (by simp only [List.length_append,List.length_cons,List.length_nil]; omega)
  rw [List.length_append] at this
  rw [this]; simp
theorem qea {n:Int} {e:Ex} (h:e.ok n) (hl:e.code.length<1000) {k:Nat} (hk:2000<k):XE k e.code=some (e.subs.map Ex.code):=by
 obtain ⟨x,r,hx,ho,hr⟩:=e.head
 have hp:=e.code_pos
 have hq:e.subs.length≤2:=by cases e <;> simp [Ex.subs]
 have:=qac hl hk (n:=n) (q:=e.subs.length) x hq e.subs [x] [] 0 k (Ex.subs_ok h) (by rw [hx,hr]; rfl) (by omega) (by omega) (by simp only [List.length_nil]; omega)
 rw [show (([x]:List qu).length:Int)=1 from rfl,show ((0:Nat):Int)=0 from rfl] at this
 unfold XE
 refine bT ?_ rfl
 rw [if_pos ⟨by omega,by omega⟩]
 refine bT (v:=x) (by rw [hx]; rfl) (bT (V9 x.Op) ?_)
 rw [ho,Ex.arity h]
 exact this
end Go.Proofs.YtpmgpcklieincaaGreatDoor
set_option maxRecDepth 10000
set_option linter.unusedVariables false
set_option linter.unusedSimpArgs false
namespace Go.Proofs.YtpmgpcklieincaaGreatDoor
open Go Go.Sx
def At (ts:List Ex) (a:Int) (e:Ex):Prop:=0≤a∧ts[a.toNat]? = some e
theorem At.mono {ts:List Ex} {a:Int} {e:Ex} (us:List Ex) (h:At ts a e):At (ts++us) a e :=
 ⟨h.1,by
  have hlt:a.toNat<ts.length:=(List.getElem?_eq_some_iff.1 h.2).1
  rw [List.getElem?_append_left hlt]; exact h.2⟩
theorem At.fn {ts:List Ex} {a:Int} {e e':Ex} (h:At ts a e) (h':At ts a e'):e=e':=Option.some.inj (h.2.symm.trans h'.2)
theorem At.lt {ts:List Ex} {a:Int} {e:Ex} (h:At ts a e):a<(ts.length:Int):=by
 have hlt:a.toNat<ts.length:=(List.getElem?_eq_some_iff.1 h.2).1
 have:=h.1; omega
theorem At.mem {ts:List Ex} {a:Int} {e:Ex} (h:At ts a e):e ∈ ts:=List.mem_of_getElem? h.2
theorem At.inj {ts:List Ex} (hn:ts.Nodup) {a b:Int} {e:Ex} (h:At ts a e) (h':At ts b e):a=b:=by
 have h1:=(List.getElem?_eq_some_iff.1 h.2).1
 have:=(List.getElem?_inj h1 hn).1 (h.2.trans h'.2.symm)
 have:=h.1; have:=h'.1; omega
inductive WQ (n:Int) (ts:List Ex):qh→Ex→Prop
 | num (c:qb) (h:Ok c):WQ n ts ⟨1,0,0,c⟩ (.num c)
 | var (k:Int) (h:0≤k∧k<n):WQ n ts ⟨2,k,0,Z0⟩ (.var k)
 | time:WQ n ts ⟨3,0,0,Z0⟩ .time
 | neg (a:Int) (e:Ex) (h:At ts a e):WQ n ts ⟨4,a,0,Z0⟩ (.neg e)
 | sqr (a:Int) (e:Ex) (h:At ts a e):WQ n ts ⟨5,a,0,Z0⟩ (.sqr e)
 | sqrt (a:Int) (e:Ex) (h:At ts a e):WQ n ts ⟨6,a,0,Z0⟩ (.sqrt e)
 | bin (op a b:Int) (u v:Ex) (ho:7≤op∧op≤10) (h:At ts a u) (h':At ts b v):WQ n ts ⟨op,a,b,Z0⟩ (.bin op u v)
theorem WQ.mono {n:Int} {ts:List Ex} {x:qh} {e:Ex} (us:List Ex) (h:WQ n ts x e):WQ n (ts++us) x e:=by
 cases h with
 | num c h=>exact .num c h
 | var k h=>exact .var k h
 | time=>exact .time
 | neg a e h=>exact .neg a e (h.mono us)
 | sqr a e h=>exact .sqr a e (h.mono us)
 | sqrt a e h=>exact .sqrt a e (h.mono us)
 | bin op a b u v ho h h'=>exact .bin op a b u v ho (h.mono us) (h'.mono us)
theorem WQ.inj {n:Int} {ts:List Ex} (hn:ts.Nodup) {x y:qh} {e:Ex} (h:WQ n ts x e) (h':WQ n ts y e):x=y:=by
 cases h with
 | num c h=>cases h'; rfl
 | var k h=>cases h'; rfl
 | time=>cases h'; rfl
 | neg a e h=>cases h' with | neg b _ g=>rw [h.inj hn g]
 | sqr a e h=>cases h' with | sqr b _ g=>rw [h.inj hn g]
 | sqrt a e h=>cases h' with | sqrt b _ g=>rw [h.inj hn g]
 | bin op a b u v ho h1 h2=>cases h' with | bin _ a' b' _ _ _ g1 g2=>rw [h1.inj hn g1,h2.inj hn g2]
theorem WQ.fn {n:Int} {ts:List Ex} {x:qh} {e e':Ex} (h:WQ n ts x e) (h':WQ n ts x e'):e=e':=by
 cases h with
 | num c h=>cases h' with
  | num=>rfl
  | bin _ _ _ _ _ ho=>exact absurd ho.1 (by decide)
 | var k h=>cases h' with
  | var=>rfl
  | bin _ _ _ _ _ ho=>exact absurd ho.1 (by decide)
 | time=>cases h' with
  | time=>rfl
  | bin _ _ _ _ _ ho=>exact absurd ho.1 (by decide)
 | neg a e h=>cases h' with
  | neg _ _ g=>rw [h.fn g]
  | bin _ _ _ _ _ ho=>exact absurd ho.1 (by decide)
 | sqr a e h=>cases h' with
  | sqr _ _ g=>rw [h.fn g]
  | bin _ _ _ _ _ ho=>exact absurd ho.1 (by decide)
 | sqrt a e h=>cases h' with
  | sqrt _ _ g=>rw [h.fn g]
  | bin _ _ _ _ _ ho=>exact absurd ho.1 (by decide)
 | bin op a b u v ho h1 h2=>cases h' with
  | num=>exact absurd ho.1 (by decide)
  | var=>exact absurd ho.1 (by decide)
  | time=>exact absurd ho.1 (by decide)
  | neg=>exact absurd ho.1 (by decide)
  | sqr=>exact absurd ho.1 (by decide)
  | sqrt=>exact absurd ho.1 (by decide)
  | bin _ _ _ _ _ _ g1 g2=>rw [h1.fn g1,h2.fn g2]
inductive Tp (n:Int):List qh→List Ex→Prop
 | nil:Tp n [] []
 | snoc {l:List qh} {ts:List Ex} {x:qh} {e:Ex} (h:Tp n l ts) (i:WQ n ts x e):Tp n (l++[x]) (ts++[e])
theorem Tp.len {n:Int} {l:List qh} {ts:List Ex} (h:Tp n l ts):l.length=ts.length:=by
 induction h with
 | nil=>rfl
 | snoc h i ih=>simp [ih]
theorem WQ.ok {n:Int} {ts:List Ex} {x:qh} {e:Ex} (h:WQ n ts x e) (ht:∀ e ∈ ts,e.ok n):e.ok n:=by
 cases h with
 | num c h=>exact h
 | var k h=>exact h
 | time=>exact True.intro
 | neg a e h=>exact ht e h.mem
 | sqr a e h=>exact ht e h.mem
 | sqrt a e h=>exact ht e h.mem
 | bin op a b u v ho h h'=>exact ⟨ho,ht u h.mem,ht v h'.mem⟩
theorem Tp.ok {n:Int} {l:List qh} {ts:List Ex} (h:Tp n l ts):∀ e ∈ ts,e.ok n:=by
 induction h with
 | nil=>intro e he; cases he
 | snoc h i ih =>
  intro e he
  rcases List.mem_append.1 he with he | he
  ·exact ih e he
  ·obtain rfl:=List.mem_singleton.1 he
   exact i.ok ih
theorem Tp.get {n:Int} {l:List qh} {ts:List Ex} (h:Tp n l ts) {i:Nat} {x:qh} (hx:l[i]? = some x):∃ e,ts[i]? = some e∧WQ n (ts.take i) x e:=by
 induction h with
 | nil=>simp at hx
 | @snoc l ts y e h g ih =>
  have hl:=h.len
  by_cases hi:i<l.length
  ·rw [List.getElem?_append_left hi] at hx
   obtain ⟨e',h1,h2⟩:=ih hx
   exact ⟨e',by rw [List.getElem?_append_left (by omega)]; exact h1,by rw [List.take_append_of_le_length (by omega)]; exact h2⟩
  ·have hi2:i=l.length:=by
    have:=(List.getElem?_eq_some_iff.1 hx).1
    simp only [List.length_append,List.length_cons,List.length_nil] at this; omega
   subst hi2
   rw [List.getElem?_append_right (Nat.le_refl _),Nat.sub_self] at hx
   obtain rfl:=Option.some.inj hx
   rw [hl]
   refine ⟨e,?_,?_⟩
   ·rw [List.getElem?_append_right (Nat.le_refl _),Nat.sub_self]; rfl
   ·rw [List.take_append_of_le_length (Nat.le_refl _),List.take_length]; exact g
theorem Tp.get' {n:Int} {l:List qh} {ts:List Ex} (h:Tp n l ts) {i:Nat} {x:qh} (hx:l[i]? = some x):∃ e,ts[i]? = some e∧WQ n ts x e:=by
 obtain ⟨e,h1,h2⟩:=h.get hx
 refine ⟨e,h1,?_⟩
 have:=h2.mono (ts.drop i)
 rwa [List.take_append_drop] at this
theorem qeh:∀ (ts S:List Ex),ts.Nodup→(∀ e ∈ ts,e ∈ S)→ts.length≤S.length
 | [],S,_,_=>Nat.zero_le _
 | e :: ts,S,hn,hs=>by
  obtain ⟨p,q,rfl⟩:=List.append_of_mem (hs e (by simp))
  have hn':=List.nodup_cons.1 hn
  have:=qeh ts (p++q) hn'.2 (fun x hx=>by
   have:=hs x (by simp [hx])
   simp only [List.mem_append,List.mem_cons] at this ⊢
   rcases this with h | rfl | h
   ·exact .inl h
   ·exact absurd hx hn'.1
   ·exact .inr h)
  simp only [List.length_append,List.length_cons] at this ⊢; omega
theorem qel {T:Type} [DecidableEq T] (x:T):Z8 ([]:List (T × Int)) x=none:=rfl
theorem qaP {T:Type} [DecidableEq T] (x:T) (e:T × Int):∀ (l:List (T × Int)) (i:Nat),(JL x i (l++[e])).map (·.2)=if ((JL x i l).map (·.2)).isSome=true then (JL x i l).map (·.2) else if x=e.1 then some e.2 else none
 | [],i=>by
  simp only [List.nil_append,JL]
  by_cases h:x=e.1
  ·rw [if_pos h,if_pos h]; rfl
  ·rw [if_neg h,if_neg h]; rfl
 | y :: l,i=>by
  simp only [List.cons_append,JL]
  by_cases h:x=y.1
  ·simp only [if_pos h]; rfl
  ·simp only [if_neg h]; exact qaP x e l (i+1)
theorem qd7 {T:Type} [DecidableEq T] (l:List (T × Int)) (e:T × Int) (x:T):Z8 (l++[e]) x=if (Z8 l x).isSome=true then Z8 l x else if x=e.1 then some e.2 else none:=qaP x e l 0
structure Bd (n:Int) (S:List Ex) (l:List qh) (m:List (qh × Int)) (ts:List Ex):Prop where
 tp:Tp n l ts
 nd:ts.Nodup
 sub:∀ e ∈ ts,e ∈ S
 map:∀ (x:qh) (j:Int),Z8 m x=some j↔0≤j∧l[j.toNat]? = some x
theorem Bd.nil (n:Int) (S:List Ex):Bd n S [] [] []:=⟨.nil,List.nodup_nil,fun e he=>(by cases he),fun x j=>(by simp [qel])⟩
theorem Bd.len {n:Int} {S:List Ex} {l:List qh} {m:List (qh × Int)} {ts:List Ex} (h:Bd n S l m ts):l.length≤S.length:=by
 rw [h.tp.len]; exact qeh ts S h.nd h.sub
theorem Bd.emit {n:Int} {S:List Ex} {l:List qh} {m:List (qh × Int)} {ts:List Ex} (h:Bd n S l m ts) (hS:S.length<1000000) {x:qh} {e:Ex} (hx:WQ n ts x e) (he:e ∈ S) :
  ∃ j l' m' us,Xi l m x=some (j,l',m')∧Bd n S l' m' (ts++us)∧At (ts++us) j e:=by
 have hxx:(⟨x.Op,x.A,x.B,(⟨x.C.Lo,x.C.Hi⟩:qb)⟩:qh)=x:=rfl
 cases hg:Z8 m x with
 | some j =>
  obtain ⟨h0,hj⟩:=(h.map x j).1 hg
  obtain ⟨e',h1,h2⟩:=h.tp.get' hj
  obtain rfl:=hx.fn h2
  refine ⟨j,l,m,[],?_,by rw [List.append_nil]; exact h,by rw [List.append_nil]; exact ⟨h0,h1⟩⟩
  unfold Xi
  rw [hxx,hg,Option.bind_some]; rfl
 | none =>
  have hl:l.length<1000000:=Nat.lt_of_le_of_lt h.len hS
  have hnl:∀ i:Nat,l[i]? ≠ some x:=fun i hi=>by
   have:=(h.map x (i:Int)).2 ⟨by omega,by rw [Int.toNat_natCast]; exact hi⟩
   rw [hg] at this; cases this
  have hne:e ∉ ts:=fun hm=>by
   obtain ⟨i,hi⟩:=List.mem_iff_getElem?.1 hm
   have hil:i<l.length:=by rw [h.tp.len]; exact (List.getElem?_eq_some_iff.1 hi).1
   obtain ⟨e',h1,h2⟩:=h.tp.get' (List.getElem?_eq_getElem hil)
   obtain rfl:e'=e:=Option.some.inj (h1.symm.trans hi)
   have:=h2.inj h.nd hx
   exact hnl i (by rw [List.getElem?_eq_getElem hil,this])
  refine ⟨(l.length:Int),l++[x],m++[(x,(l.length:Int))],[e],?_,⟨h.tp.snoc hx,?_,?_,?_⟩,by omega,?_⟩
  ·unfold Xi
   rw [hxx,hg,Option.bind_some,if_neg (by simp),if_pos hl]; rfl
  ·rw [List.nodup_append]
   refine ⟨h.nd,by simp,fun a ha b hb=>?_⟩
   obtain rfl:=List.mem_singleton.1 hb
   exact fun hab=>hne (hab ▸ ha)
  ·intro a ha
   rcases List.mem_append.1 ha with ha | ha
   ·exact h.sub a ha
   ·obtain rfl:=List.mem_singleton.1 ha
    exact he
  ·intro y j
   rw [qd7]
   by_cases hy:(Z8 m y).isSome=true
   ·rw [if_pos hy]
    obtain ⟨i,hi⟩:=Option.isSome_iff_exists.1 hy
    obtain ⟨h0,h1⟩:=(h.map y i).1 hi
    have hlt:=(List.getElem?_eq_some_iff.1 h1).1
    rw [h.map y j]
    constructor
    ·rintro ⟨g0,g1⟩
     exact ⟨g0,by rw [List.getElem?_append_left (List.getElem?_eq_some_iff.1 g1).1]; exact g1⟩
    ·rintro ⟨g0,g1⟩
     refine ⟨g0,?_⟩
     by_cases hj:j.toNat<l.length
     ·rwa [List.getElem?_append_left hj] at g1
     ·exfalso
      have hj2:j.toNat=l.length:=by
       have:=(List.getElem?_eq_some_iff.1 g1).1
       simp only [List.length_append,List.length_cons,List.length_nil] at this; omega
      rw [hj2,List.getElem?_append_right (Nat.le_refl _),Nat.sub_self] at g1
      obtain rfl:=Option.some.inj g1
      exact hnl _ h1
   ·rw [if_neg hy]
    have hyn:Z8 m y=none:=by simpa using hy
    have hny:∀ i:Nat,l[i]? ≠ some y:=fun i hi=>by
     have:=(h.map y (i:Int)).2 ⟨by omega,by rw [Int.toNat_natCast]; exact hi⟩
     rw [hyn] at this; cases this
    by_cases hyx:y=x
    ·subst hyx
     rw [if_pos rfl]
     constructor
     ·intro hj
      obtain rfl:=Option.some.inj hj
      exact ⟨by omega,by rw [Int.toNat_natCast,List.getElem?_append_right (Nat.le_refl _),Nat.sub_self]; rfl⟩
     ·rintro ⟨g0,g1⟩
      by_cases hj:j.toNat<l.length
      ·rw [List.getElem?_append_left hj] at g1
       exact absurd g1 (hny _)
      ·have:=(List.getElem?_eq_some_iff.1 g1).1
       simp only [List.length_append,List.length_cons,List.length_nil] at this
       congr 1; show (l.length:Int)=j; omega
    ·rw [if_neg hyx]
     refine ⟨fun hc=>(by cases hc),?_⟩
     rintro ⟨g0,g1⟩
     exfalso
     by_cases hj:j.toNat<l.length
     ·rw [List.getElem?_append_left hj] at g1
      exact hny _ g1
     ·have hj2:j.toNat=l.length:=by
       have:=(List.getElem?_eq_some_iff.1 g1).1
       simp only [List.length_append,List.length_cons,List.length_nil] at this; omega
      rw [hj2,List.getElem?_append_right (Nat.le_refl _),Nat.sub_self] at g1
      exact hyx (Option.some.inj g1).symm
  ·rw [Int.toNat_natCast,h.tp.len,List.getElem?_append_right (Nat.le_refl _),Nat.sub_self]; rfl
end Go.Proofs.YtpmgpcklieincaaGreatDoor
set_option maxRecDepth 10000
set_option linter.unusedVariables false
set_option linter.unusedSimpArgs false
namespace Go.Proofs.YtpmgpcklieincaaGreatDoor
open Go Go.Sx
def Cl (S:List Ex):Prop:=∀ e ∈ S,∀ s ∈ e.subs,s ∈ S
theorem qdH {k0:Nat} {rec} {a0:List qu} {l0:List qh} {m0:List (qh × Int)} {t4 t7:qu} {j9:Int} {k:Nat} (hk:0<k) (l:List qh) (x20 x21:Int) (m:List (qh × Int)) :
  qz.l24 k0 rec a0 l0 m0 t4 t7 j9 [] k l x20 x21 m 0=some (l,x20,x21,m):=by
 obtain ⟨k,rfl⟩:∃ q,k=q+1:=⟨k - 1,by omega⟩
 rw [qz.l24,if_neg (by decide)]
theorem qeT {k0:Nat} {rec} {a0:List qu} {l0:List qh} {m0:List (qh × Int)} {t4 t7:qu} {j9:Int} {k:Nat} (hk:1<k) (c:List qu) (l:List qh) (x20 x21:Int) (m:List (qh × Int)) {j:Int} {l':List qh} {m':List (qh × Int)} (h:rec c l m=some (j,l',m')) :
  qz.l24 k0 rec a0 l0 m0 t4 t7 j9 [c] k l x20 x21 m 0=some (l',j,x21,m'):=by
 obtain ⟨k,rfl⟩:∃ q,k=q+2:=⟨k - 2,by omega⟩
 rw [qz.l24,if_pos (by rfl),if_pos (by show (0:Int)≤0∧(0:Int)<1; decide)]
 show ((rec c l m).bind _).bind _=_
 rw [h]
 show qz.l24 k0 rec a0 l0 m0 t4 t7 j9 [c] (k+1) l' j x21 m' (qc (0+1))=_
 rw [qz.l24,if_neg (by show ¬ decide (qc (0+1)<(1:Int))=true; decide)]
theorem qfg {k0:Nat} {rec} {a0:List qu} {l0:List qh} {m0:List (qh × Int)} {t4 t7:qu} {j9:Int} {k:Nat} (hk:2<k) (c d:List qu) (l:List qh) (x20 x21:Int) (m:List (qh × Int)) {j i:Int} {l' l'':List qh} {m' m'':List (qh × Int)} (h:rec c l m=some (j,l',m')) (h':rec d l' m'=some (i,l'',m'')) :
  qz.l24 k0 rec a0 l0 m0 t4 t7 j9 [c,d] k l x20 x21 m 0=some (l'',j,i,m''):=by
 obtain ⟨k,rfl⟩:∃ q,k=q+3:=⟨k - 3,by omega⟩
 rw [qz.l24,if_pos (by rfl),if_pos (by show (0:Int)≤0∧(0:Int)<2; decide)]
 show ((rec c l m).bind _).bind _=_
 rw [h]
 show qz.l24 k0 rec a0 l0 m0 t4 t7 j9 [c,d] (k+2) l' j x21 m' (qc (0+1))=_
 rw [qz.l24,if_pos (by rfl),if_pos (by show 0≤qc (0+1)∧qc (0+1)<(2:Int); decide)]
 show ((rec d l' m').bind _).bind _=_
 rw [h']
 show qz.l24 k0 rec a0 l0 m0 t4 t7 j9 [c,d] (k+1) l'' j i m'' (qc (qc (0+1)+1))=_
 rw [qz.l24,if_neg (by show ¬ decide (qc (qc (0+1)+1)<(2:Int))=true; decide)]
theorem qbq {k0:Nat} {rec} {e:Ex} {n:Int} (h:e.ok n) (hl:e.code.length<1000) (hk:2000<k0) {x:qu} {r:List qu} (hx:e.code=x :: r) {l:List qh} {m:List (qh × Int)} {l':List qh} {a b:Int} {m':List (qh × Int)}
  (hL:qz.l24 k0 rec e.code l m x x (if x.Op == 2 then x.N else 0) (e.subs.map Ex.code) k0 l (if x.Op == 2 then x.N else 0) 0 m 0=some (l',a,b,m')) :
  qz.body k0 rec e.code l m=Xi l' m' ⟨x.Op,a,b,x.C⟩:=by
 have hp:0≤(0:Int)∧(0:Int)<(e.code.length:Int):=⟨by omega,by have:=e.code_pos; omega⟩
 have hg:e.code[(0:Int).toNat]? = some x:=by rw [hx]; rfl
 unfold qz.body
 refine iT hp (bT hg (iT hp (bT hg ?_)))
 refine bT (v:=if x.Op == 2 then x.N else 0) ?_ ?_
 ·by_cases h2:(x.Op == 2)=true
  ·rw [if_pos h2,if_pos h2,if_pos hp,hg,Option.bind_some]
  ·rw [if_neg h2,if_neg h2]
 ·refine bT (v:=(l',a,b,m')) (bT (qea h hl hk) hL) ?_
  show (Xi l' m' ⟨x.Op,a,b,x.C⟩).bind _=_
  cases Xi l' m' ⟨x.Op,a,b,x.C⟩ <;> rfl
abbrev qcr (ts:List Ex):List Int→List Ex→Prop:=WL (At ts)
theorem WL.app {α β:Type} {R:α→β→Prop} {l:List α} {m:List β} {a:α} {b:β} (h:WL R l m) (hr:R a b):WL R (l++[a]) (m++[b]):=by
 induction h with
 | nil=>exact .cons hr .nil
 | cons g t ih=>exact .cons g ih
theorem WL.imp {α β:Type} {R Q:α→β→Prop} (hq:∀ a b,R a b→Q a b) {l:List α} {m:List β} (h:WL R l m):WL Q l m:=by
 induction h with
 | nil=>exact .nil
 | cons g t ih=>exact .cons (hq _ _ g) ih
theorem WL.len {α β:Type} {R:α→β→Prop} {l:List α} {m:List β} (h:WL R l m):l.length=m.length:=by
 induction h with
 | nil=>rfl
 | cons g t ih=>simp [ih]
theorem qcr.mono {ts us:List Ex} {o:List Int} {es:List Ex} (h:qcr ts o es):qcr (ts++us) o es:=h.imp fun _ _ g=>g.mono us
end Go.Proofs.YtpmgpcklieincaaGreatDoor
set_option maxRecDepth 10000
set_option linter.unusedVariables false
set_option linter.unusedSimpArgs false
namespace Go.Proofs.YtpmgpcklieincaaGreatDoor
open Go Go.Sx
def Ev {α:Type} (f:Nat→Nat→Option α) (P:α→Prop):Prop:=∃ r,P r ∧ ∃ K,∀ k j,K≤k→K≤j→f k j=some r
section
variable {α β:Type} {P:β→Prop} {Q:α→Prop}
theorem Ev.S {r:β} (h:P r):Ev (fun _ _=>some r) P:=⟨r,h,0,fun _ _ _ _=>rfl⟩
theorem Ev.B {f:Nat→Nat→Option α} {g:Nat→Nat→α→Option β} (hf:Ev f Q) (hg:∀ r,Q r→Ev (fun k j=>g k j r) P):Ev (fun k j=>(f k j).bind (g k j)) P:=by
 obtain ⟨r,h1,K,h2⟩:=hf
 obtain ⟨s,h3,M,h4⟩:=hg r h1
 refine ⟨s,h3,max K M,fun k j hk hj=>?_⟩
 dsimp only
 rw [h2 k j (by omega) (by omega),Option.bind_some]
 exact h4 k j (by omega) (by omega)
theorem Ev.V {v:α} {g:Nat→Nat→α→Option β} (hg:Ev (fun k j=>g k j v) P):Ev (fun k j=>(some v).bind (g k j)) P:=hg
theorem Ev.X {x:Option α} {v:α} {g:Nat→Nat→α→Option β} (hx:x=some v) (hg:Ev (fun k j=>g k j v) P):Ev (fun k j=>x.bind (g k j)) P:=by
 subst hx; exact hg
theorem Ev.O {x:Option α} (hx:∃ r,x=some r∧Q r) {g:Nat→Nat→α→Option β} (hg:∀ r,Q r→Ev (fun k j=>g k j r) P):Ev (fun k j=>x.bind (g k j)) P:=by
 obtain ⟨r,rfl,h⟩:=hx
 exact hg r h
theorem Ev.T {c:Prop} {inst:Decidable c} {f g:Nat→Nat→Option β} (hc:c) (h:Ev f P):Ev (fun k j=>@ite _ c inst (f k j) (g k j)) P:=by
 simp only [if_pos hc]; exact h
theorem Ev.F {c:Prop} {inst:Decidable c} {f g:Nat→Nat→Option β} (hc:¬ c) (h:Ev g P):Ev (fun k j=>@ite _ c inst (f k j) (g k j)) P:=by
 simp only [if_neg hc]; exact h
theorem Ev.C {c:Prop} {inst:Decidable c} {f g:Nat→Nat→Option β} (hf:c→Ev f P) (hg:¬ c→Ev g P):Ev (fun k j=>@ite _ c inst (f k j) (g k j)) P:=by
 by_cases hc:c
 ·exact .T hc (hf hc)
 ·exact .F hc (hg hc)
theorem Ev.D {f:Nat→Nat→Option β} (h:Ev f P):Ev (fun k _=>f k k) P:=by
 obtain ⟨r,h1,K,h2⟩:=h
 exact ⟨r,h1,K,fun k j hk _=>h2 k k hk hk⟩
theorem Ev.N {f g:Nat→Nat→Option β} (hs:∀ k j,f k (j+1)=g k j) (h:Ev g P):Ev f P:=by
 obtain ⟨r,h1,K,h2⟩:=h
 refine ⟨r,h1,K+1,fun k j hk hj=>?_⟩
 obtain ⟨j,rfl⟩:∃ i,j=i+1:=⟨j - 1,by omega⟩
 rw [hs]; exact h2 k j (by omega) (by omega)
theorem Ev.I {R:β→Prop} {f:Nat→Nat→Option β} (h:Ev f P) (hi:∀ r,P r→R r):Ev f R:=by
 obtain ⟨r,h1,h2⟩:=h
 exact ⟨r,hi r h1,h2⟩
theorem Ev.G {f g:Nat→Nat→Option β} (h:Ev g P) (he:∀ k j,f k j=g k j):Ev f P:=by
 obtain ⟨r,h1,K,h2⟩:=h
 exact ⟨r,h1,K,fun k j hk hj=>(he k j).trans (h2 k j hk hj)⟩
theorem Ev.L {f:Nat→Nat→Option β} {r:β} (K:Nat) (h:P r) (he:∀ k j,K≤k→f k j=some r):Ev f P:=⟨r,h,K,fun k j hk _=>he k j hk⟩
end
theorem qaw {α:Type} {l:List α} {i:Int} (h:0≤i∧i<(l.length:Int)):∃ r,l[i.toNat]? = some r∧r ∈ l:=by
 have hlt:i.toNat<l.length:=by omega
 exact ⟨l[i.toNat],List.getElem?_eq_getElem hlt,List.getElem_mem hlt⟩
def Bx (n:Nat) (x:List qb):Prop:=x.length=n ∧ ∀ y ∈ x,Ok y
theorem Bx.at {n:Nat} {x:List qb} (h:Bx n x) {i:Int} (h0:0≤i) (h1:i<(n:Int)):∃ r,x[i.toNat]? = some r∧Ok r:=by
 obtain ⟨r,h2,h3⟩:=qaw (l:=x) (i:=i) (by have:=h.1; omega)
 exact ⟨r,h2,h.2 r h3⟩
theorem Bx.set {n:Nat} {x:List qb} (h:Bx n x) {y:qb} (hy:Ok y) (i:Nat):Bx n (x.set i y) :=
 ⟨by rw [List.length_set]; exact h.1,fun z hz=>by
  rcases List.mem_or_eq_of_mem_set hz with hz | rfl
  ·exact h.2 z hz
  ·exact hy⟩
theorem WD:Ok ⟨0,0⟩:=.inr (by unfold ZS; simp)
theorem Bx.zero (n:Nat):Bx n (List.replicate n (⟨0,0⟩:qb)):=⟨by simp,fun y hy=>by rw [List.eq_of_mem_replicate hy]; exact WD⟩
theorem wi {i n:Nat} (h:i<n) (hn:n<1000000):qc ((i:Int)+1)=((i+1:Nat):Int):=qdK (by omega)
theorem dT {p:Prop} {inst:Decidable p} (h:p):@decide p inst=true:=decide_eq_true h
theorem dF {p:Prop} {inst:Decidable p} (h:¬ p):¬ @decide p inst=true:=by simpa using h
theorem Ev.loop {σ τ:Type} {P:τ→Prop} (L:Nat→Nat→σ→Int→Option τ) (n:Nat) (I:Nat→σ→Prop)
  (hs:∀ i,i<n → ∀ s,I i s→(∀ s',I (i+1) s'→Ev (fun k j=>L k j s' ((i+1:Nat):Int)) P)→Ev (fun k j=>L k j s (i:Int)) P)
  (he:∀ s,I n s→Ev (fun k j=>L k j s (n:Int)) P) {s:σ} (h:I 0 s):Ev (fun k j=>L k j s 0) P:=by
 have key:∀ (r i:Nat),i+r=n → ∀ s,I i s→Ev (fun k j=>L k j s (i:Int)) P:=by
  intro r
  induction r with
  | zero =>
   intro i hi s hI
   obtain rfl:i=n:=by omega
   exact he s hI
  | succ r ih=>intro i hi s hI; exact hs i (by omega) s hI fun s' h'=>ih (i+1) (by omega) s' h'
 exact key n 0 (by omega) s h
theorem Ev.from {σ τ:Type} {P:τ→Prop} (L:Nat→Nat→σ→Int→Option τ) (n:Nat) (I:Nat→σ→Prop)
  (hs:∀ i,i<n → ∀ s,I i s→(∀ s',I (i+1) s'→Ev (fun k j=>L k j s' ((i+1:Nat):Int)) P)→Ev (fun k j=>L k j s (i:Int)) P)
  (he:∀ s,I n s→Ev (fun k j=>L k j s (n:Int)) P) {s:σ} {m:Nat} (hm:m≤n) (h:I m s):Ev (fun k j=>L k j s (m:Int)) P:=by
 have key:∀ (r i:Nat),i+r=n → ∀ s,I i s→Ev (fun k j=>L k j s (i:Int)) P:=by
  intro r
  induction r with
  | zero =>
   intro i hi s hI
   obtain rfl:i=n:=by omega
   exact he s hI
  | succ r ih=>intro i hi s hI; exact hs i (by omega) s hI fun s' h'=>ih (i+1) (by omega) s' h'
 exact key (n - m) m (by omega) s h
def Rw (p q i L:Nat) (rows:List (List qb)):Prop:=rows.length=L ∧ ∀ (m:Nat) (r:List qb),rows[m]? = some r→Bx (if m<i then p else q) r
theorem Rw.lo {p q i L:Nat} {rows:List (List qb)} (h:Rw p q i L rows) {A:Int} (h0:0≤A) (h1:A<(i:Int)) (hi:i≤L):(0≤A∧A<(rows.length:Int)) ∧ ∃ r,rows[A.toNat]? = some r∧Bx p r:=by
 have hl:=h.1
 refine ⟨by omega,rows[A.toNat]'(by omega),List.getElem?_eq_getElem _,?_⟩
 have:=h.2 A.toNat _ (List.getElem?_eq_getElem (by omega))
 rwa [if_pos (by omega)] at this
theorem Rw.own {p q i L:Nat} {rows:List (List qb)} (h:Rw p q i L rows) (hi:i<L):(0≤(i:Int)∧(i:Int)<(rows.length:Int)) ∧ ∃ r,rows[((i:Int)).toNat]? = some r∧Bx q r:=by
 have hl:=h.1
 refine ⟨by omega,rows[i]'(by omega),by rw [Int.toNat_natCast]; exact List.getElem?_eq_getElem _,?_⟩
 have:=h.2 i _ (List.getElem?_eq_getElem (by omega))
 rwa [if_neg (by omega)] at this
theorem Rw.put {p q i L:Nat} {rows:List (List qb)} (h:Rw p q i L rows) {r:List qb} (hr:Bx p r):Rw p q (i+1) L (rows.set i r):=by
 refine ⟨by rw [List.length_set]; exact h.1,fun m s hs=>?_⟩
 rw [List.getElem?_set] at hs
 by_cases hm:i=m
 ·subst hm
  rw [if_pos rfl] at hs
  split at hs
  ·obtain rfl:=Option.some.inj hs
   rw [if_pos (by omega)]; exact hr
  ·cases hs
 ·rw [if_neg hm] at hs
  have:=h.2 m s hs
  by_cases h2:m<i
  ·rw [if_pos h2] at this; rw [if_pos (by omega)]; exact this
  ·rw [if_neg h2] at this; rw [if_neg (by omega)]; exact this
theorem Rw.all {p q L:Nat} {rows:List (List qb)} (h:Rw p q L L rows) (q':Nat):Rw q' p 0 L rows:=by
 refine ⟨h.1,fun m s hs=>?_⟩
 have:=h.2 m s hs
 rw [if_pos (by have:=(List.getElem?_eq_some_iff.1 hs).1; have:=h.1; omega)] at this
 rw [if_neg (by omega)]; exact this
theorem Rw.nil (p L:Nat):Rw p 0 0 L (List.replicate L ([]:List qb)):=by
 refine ⟨by simp,fun m s hs=>?_⟩
 have:=List.eq_of_mem_replicate (List.mem_of_getElem? hs)
 subst this
 exact ⟨by simp,fun y hy=>by cases hy⟩
theorem Bx.app {n:Nat} {x:List qb} (h:Bx n x) {y:qb} (hy:Ok y):Bx (n+1) (x++[y]) :=
 ⟨by rw [List.length_append,h.1]; rfl,fun z hz=>by
  rcases List.mem_append.1 hz with hz | hz
  ·exact h.2 z hz
  ·obtain rfl:=List.mem_singleton.1 hz
   exact hy⟩
end Go.Proofs.YtpmgpcklieincaaGreatDoor
set_option maxRecDepth 10000
set_option linter.unusedVariables false
set_option linter.unusedSimpArgs false
namespace Go.Proofs.YtpmgpcklieincaaGreatDoor
open Go Go.Sx
def Fit (n:Nat) (i:Nat) (x:qh):Prop :=
 (x.Op=1∧Ok x.C)∨(x.Op=2∧0≤x.A∧x.A<(n:Int))∨((4≤x.Op∧x.Op≤6)∧0≤x.A∧x.A<(i:Int))∨((7≤x.Op∧x.Op≤10)∧(0≤x.A∧x.A<(i:Int))∧0≤x.B∧x.B<(i:Int))
structure Wt (c:QE) (n:Nat):Prop where
 pos:1≤n∧n≤3
 N:c.N=(n:Int)
 O:c.Out.length=n
 L:c.L.length≤400
 out:∀ o ∈ c.Out,0≤o∧o<(c.L.length:Int)
 fit:∀ (i:Nat) (x:qh),c.L[i]? = some x→Fit n i x
theorem Wt.not3 {c:QE} {n:Nat} (h:Wt c n) {i:Nat} {x:qh} (hx:c.L[i]? = some x):x.Op≠3:=by
 have:=h.fit i x hx
 unfold Fit at this
 omega
theorem qfx {a:qb} (h:Ok a):∃ r,XQ a=some r∧Ok r:=⟨_,qf8 h,qfO h⟩
theorem qfh {a:qb} (h:Ok a):Ev (fun k _=>Jc k a) Ok:=by
 unfold Jc
 refine Ev.C (fun hc=>Ev.X (v:=ZO) rfl (Ev.S (.inl rfl))) fun hc=>?_
 have h0:0≤a.Lo:=by simpa using hc
 obtain ⟨r,hr,h1,h2⟩:=qdG h h0 (k:=K32+1) (by decide)
 refine Ev.B (Q:=fun q=>Ok q.1) (f:=fun k _=>Xe k a) (Ev.L (r:=(r,true)) (K32+1) hr fun k j hk=>?_) fun q hq=>Ev.S hq
 obtain ⟨r',_,h3,h4⟩:=qdG h h0 (k:=k) (by omega)
 rw [h3,← h4,h2]
theorem qem {c:QE} {n:Nat} (h:Wt c n) {b:List qb} (hb:Bx n b) (t:qb) {s:List qb} (hs:Bx c.L.length s) :
  Ev (fun k j=>QP.l29 k c b t j s 0) (Bx c.L.length):=by
 refine Ev.loop (fun k j s i=>QP.l29 k c b t j s i) c.L.length (fun _ s=>Bx c.L.length s) ?_ ?_ hs
 ·intro i hi s hs next
  refine Ev.N (fun k j=>by rw [QP.l29]) ?_
  refine Ev.T (dT (by omega)) ?_
  refine Ev.B (Q:=Bx c.L.length) ?_ fun s' hs'=>?_
  ·refine Ev.T ⟨by omega,by omega⟩ ?_
   rw [Int.toNat_natCast]
   have hg:c.L[i]? = some c.L[i]:=List.getElem?_eq_getElem hi
   have hf:=h.fit i _ hg
   generalize c.L[i]=x at hg hf
   refine Ev.X hg (Ev.V ?_)
   have own:∃ r,s[i]? = some r∧True:=⟨s[i]'(by rw [hs.1]; exact hi),List.getElem?_eq_getElem _,trivial⟩
   have hsl:0≤(i:Int)∧(i:Int)<(s.length:Int):=by rw [hs.1]; omega
   rcases hf with ⟨ho,hc⟩ | ⟨ho,h1,h2⟩ | ⟨ho,h1,h2⟩ | ⟨ho,⟨h1,h2⟩,h3,h4⟩
   ·rw [ho]
    refine Ev.F (by decide) (Ev.T rfl (Ev.T hsl (Ev.O own fun _ _=>Ev.S (hs.set hc _))))
   ·rw [ho]
    refine Ev.F (by decide) (Ev.F (by decide) (Ev.T rfl (Ev.T ⟨h1,by rw [hb.1]; exact h2⟩ (Ev.O (hb.at h1 h2) fun r hr=>Ev.T hsl (Ev.O own fun _ _=>Ev.S (hs.set hr _))))))
   ·have hA:0≤x.A∧x.A<(s.length:Int):=by rw [hs.1]; omega
    have gA:=hs.at (i:=x.A) h1 (by omega)
    have:x.Op=4∨x.Op=5∨x.Op=6:=by omega
    rcases this with ho | ho | ho <;> rw [ho]
    ·refine Ev.F (by decide) (Ev.F (by decide) (Ev.F (by decide) (Ev.F (by decide) (Ev.T rfl ?_))))
     exact Ev.T hA (Ev.O gA fun r hr=>Ev.O (qfx hr) fun q hq=>Ev.T hsl (Ev.O own fun _ _=>Ev.S (hs.set hq _)))
    ·refine Ev.F (by decide) (Ev.F (by decide) (Ev.F (by decide) (Ev.F (by decide) (Ev.F (by decide) (Ev.T rfl ?_)))))
     exact Ev.T hA (Ev.O gA fun r hr=>Ev.O (qfr hr) fun q hq=>Ev.T hsl (Ev.O own fun _ _=>Ev.S (hs.set hq _)))
    ·refine Ev.F (by decide) (Ev.F (by decide) (Ev.F (by decide) (Ev.F (by decide) (Ev.F (by decide) (Ev.F (by decide) (Ev.T rfl ?_))))))
     exact Ev.T hA (Ev.O gA fun r hr=>Ev.B (qfh hr) fun q hq=>Ev.T hsl (Ev.O own fun _ _=>Ev.S (hs.set hq _)))
   ·have hA:0≤x.A∧x.A<(s.length:Int):=by rw [hs.1]; omega
    have gA:=hs.at (i:=x.A) h1 (by omega)
    have hB:0≤x.B∧x.B<(s.length:Int):=by rw [hs.1]; omega
    have gB:=hs.at (i:=x.B) h3 (by omega)
    have:x.Op=7∨x.Op=8∨x.Op=9∨x.Op=10:=by omega
    rcases this with ho | ho | ho | ho <;> rw [ho]
    ·refine Ev.F (by decide) (Ev.F (by decide) (Ev.F (by decide) (Ev.F (by decide) (Ev.F (by decide) (Ev.F (by decide) (Ev.F (by decide) (Ev.T rfl ?_)))))))
     exact Ev.T hA (Ev.O gA fun r hr=>Ev.T hB (Ev.O gB fun p hp=>Ev.O (VC hr hp) fun q hq=>Ev.T hsl (Ev.O own fun _ _=>Ev.S (hs.set hq _))))
    ·refine Ev.F (by decide) (Ev.F (by decide) (Ev.F (by decide) (Ev.F (by decide) (Ev.F (by decide) (Ev.F (by decide) (Ev.F (by decide) (Ev.F (by decide) (Ev.T rfl ?_))))))))
     exact Ev.T hA (Ev.O gA fun r hr=>Ev.T hB (Ev.O gB fun p hp=>Ev.O (qbm hr hp) fun q hq=>Ev.T hsl (Ev.O own fun _ _=>Ev.S (hs.set hq _))))
    ·refine Ev.F (by decide) (Ev.F (by decide) (Ev.F (by decide) (Ev.F (by decide) (Ev.F (by decide) (Ev.F (by decide) (Ev.F (by decide) (Ev.F (by decide) (Ev.F (by decide) (Ev.T rfl ?_)))))))))
     exact Ev.T hA (Ev.O gA fun r hr=>Ev.T hB (Ev.O gB fun p hp=>Ev.O (qaj hr hp) fun q hq=>Ev.T hsl (Ev.O own fun _ _=>Ev.S (hs.set hq _))))
    ·refine Ev.F (by decide) (Ev.F (by decide) (Ev.F (by decide) (Ev.F (by decide) (Ev.F (by decide) (Ev.F (by decide) (Ev.F (by decide) (Ev.F (by decide) (Ev.F (by decide) (Ev.F (by decide) (Ev.T rfl ?_))))))))))
     exact Ev.T hA (Ev.O gA fun r hr=>Ev.T hB (Ev.O gB fun p hp=>Ev.O (qbE hr hp) fun q hq=>Ev.T hsl (Ev.O own fun _ _=>Ev.S (hs.set hq _))))
  ·rw [wi hi (by have:=h.L; omega)]
   exact next s' hs'
 ·intro s hs
  refine Ev.N (fun k j=>by rw [QP.l29]) ?_
  exact Ev.F (dF (by omega)) (Ev.S hs)
theorem qe3 {c:QE} {n:Nat} (h:Wt c n) {b:List qb} (hb:Bx n b) (t:qb):Ev (fun k _=>QP k c b t) (Bx n):=by
 unfold QP
 refine Ev.T (by have:=h.L; omega) ?_
 refine Ev.B (Q:=Bx c.L.length) (Ev.D (f:=fun k j=>QP.l29 k c b t j _ 0) (qem h hb t (by rw [Int.toNat_natCast]; exact Bx.zero _))) fun s hs=>?_
 refine Ev.T (by have:=h.O; have:=h.pos; omega) ?_
 refine Ev.B (Q:=Bx n) (Ev.D (f:=fun k j=>QP.l14 k c b t s j _ 0) ?_) fun r hr=>Ev.S hr
 refine Ev.loop (fun k j x i=>QP.l14 k c b t s j x i) n (fun _ x=>Bx n x) ?_ ?_ (by rw [Int.toNat_natCast,h.O]; exact Bx.zero _)
 ·intro i hi x hx next
  refine Ev.N (fun k j=>by rw [QP.l14]) ?_
  have hin:0≤(i:Int)∧(i:Int)<(c.Out.length:Int):=by rw [h.O]; omega
  refine Ev.T (dT hin.2) (Ev.T hin (Ev.O (qaw hin) fun o ho=>?_))
  have h1:=h.out o ho
  refine Ev.T (by rw [hs.1]; exact h1) (Ev.O (hs.at h1.1 h1.2) fun r hr=>?_)
  refine Ev.T (by rw [hx.1]; omega) (Ev.O (hx.at (i:=(i:Int)) (by omega) (by omega)) fun _ _=>?_)
  rw [wi hi (by have:=h.pos; omega)]
  exact next _ (hx.set hr _)
 ·intro x hx
  refine Ev.N (fun k j=>by rw [QP.l14]) ?_
  exact Ev.F (dF (by rw [h.O]; omega)) (Ev.S hx)
end Go.Proofs.YtpmgpcklieincaaGreatDoor
set_option maxRecDepth 10000
set_option linter.unusedVariables false
set_option linter.unusedSimpArgs false
namespace Go.Proofs.YtpmgpcklieincaaGreatDoor
open Go Go.Sx
theorem qeu {a b q:qb} (ha:Ok a) (hb:Ok b) (hq:Ok q):∃ r,YI a b q=some r∧Ok r:=by
 obtain ⟨m,h1,h2⟩:=qaj hq hb
 obtain ⟨s,h3,h4⟩:=VC ha h2
 exact ⟨s,by unfold YI; rw [h1,Option.bind_some,h3,Option.bind_some],h4⟩
theorem qf3 {n:Nat} (hn:n≤3) {a b:List qb} {q:qb} (ha:Bx n a) (hb:Bx n b) (hq:Ok q):Ev (fun k _=>Ql k a b q) (Bx n):=by
 unfold Ql
 refine Ev.T (by rw [ha.1]; omega) ?_
 refine Ev.B (Q:=Bx n) (Ev.D (f:=fun k j=>Ql.l10 k a b q j _ 0) ?_) fun r hr=>Ev.S hr
 refine Ev.loop (fun k j x i=>Ql.l10 k a b q j x i) n (fun _ x=>Bx n x) ?_ ?_ (by rw [Int.toNat_natCast,ha.1]; exact Bx.zero _)
 ·intro i hi x hx next
  refine Ev.N (fun k j=>by rw [Ql.l10]) ?_
  refine Ev.T (dT (by rw [ha.1]; omega)) (Ev.T (by rw [ha.1]; omega) (Ev.O (ha.at (i:=(i:Int)) (by omega) (by omega)) fun r hr=>Ev.T (by rw [hb.1]; omega) (Ev.O (hb.at (i:=(i:Int)) (by omega) (by omega)) fun p hp=>?_)))
  refine Ev.O (qeu hr hp hq) fun s hs=>Ev.T (by rw [hx.1]; omega) (Ev.O (hx.at (i:=(i:Int)) (by omega) (by omega)) fun _ _=>?_)
  rw [wi hi (by omega)]
  exact next _ (hx.set hs _)
 ·intro x hx
  refine Ev.N (fun k j=>by rw [Ql.l10]) ?_
  exact Ev.F (dF (by rw [ha.1]; omega)) (Ev.S hx)
theorem qbS {n:Nat} (hn:n≤3) {a b:List qb} (ha:Bx n a) (hb:Bx n b):Ev (fun k _=>Qi k a b) (Bx n):=by
 unfold Qi
 refine Ev.T (by rw [ha.1]; omega) ?_
 refine Ev.B (Q:=Bx n) (Ev.D (f:=fun k j=>Qi.l10 k a b j _ 0) ?_) fun r hr=>Ev.S hr
 refine Ev.loop (fun k j x i=>Qi.l10 k a b j x i) n (fun _ x=>Bx n x) ?_ ?_ (by rw [Int.toNat_natCast,ha.1]; exact Bx.zero _)
 ·intro i hi x hx next
  refine Ev.N (fun k j=>by rw [Qi.l10]) ?_
  refine Ev.T (dT (by rw [ha.1]; omega)) (Ev.T (by rw [ha.1]; omega) (Ev.O (ha.at (i:=(i:Int)) (by omega) (by omega)) fun r hr=>Ev.T (by rw [hb.1]; omega) (Ev.O (hb.at (i:=(i:Int)) (by omega) (by omega)) fun p hp=>?_)))
  refine Ev.X rfl (Ev.T (by rw [hx.1]; omega) (Ev.O (hx.at (i:=(i:Int)) (by omega) (by omega)) fun _ _=>?_))
  rw [wi hi (by omega)]
  exact next _ (hx.set (qe0 hr hp) _)
 ·intro x hx
  refine Ev.N (fun k j=>by rw [Qi.l10]) ?_
  exact Ev.F (dF (by rw [ha.1]; omega)) (Ev.S hx)
theorem qb3 {c:QE} {n:Nat} (h:Wt c n) {a b:List qb} (ha:Bx n a) (hb:Bx n b) (s:Q6) (hH:0≤s.H):Ev (fun k _=>Yb k c a b s) (Bx n):=by
 unfold Yb
 refine Ev.X (Z1 _ _) (Ev.X (Z1 _ _) (Ev.B (qe3 h hb _) fun r hr=>Ev.B (qf3 h.pos.2 ha hr (Wc hH)) fun q hq=>Ev.S hq))
theorem qca {a:qb} (h:Ok a):Yu a=some (a.Hi - a.Lo):=by
 unfold Yu
 have:=h.b
 rw [Zy (by omega) (by omega)]
theorem qd5 {a:qb} (h:Ok a):∃ r,qI (qc (a.Lo - (qc ((qc (Int.tdiv (a.Hi - a.Lo) 16))+1)))) (qc (a.Hi+(qc ((qc (Int.tdiv (a.Hi - a.Lo) 16))+1))))=some r∧Ok r:=by
 have hb:=h.b
 have h1:Int.tdiv (a.Hi - a.Lo) 16=(a.Hi - a.Lo) / 16:=Int.tdiv_eq_ediv_of_nonneg (by omega)
 rw [h1]
 generalize hd:(a.Hi - a.Lo) / 16=d
 have h2:0≤d∧d≤4294967296:=by omega
 rw [Zy (x:=d) (by omega) (by omega),Zy (x:=d+1) (by omega) (by omega),Zy (by omega) (by omega),Zy (by omega) (by omega),Z1]
 exact ⟨_,rfl,Wc (by omega)⟩
theorem qcm {n:Nat} (hn:n≤3) {a:List qb} (ha:Bx n a):Ev (fun k _=>Xc k a) (Bx n):=by
 unfold Xc
 refine Ev.T (by rw [ha.1]; omega) ?_
 refine Ev.B (Q:=Bx n) (Ev.D (f:=fun k j=>Xc.l10 k a j _ 0) ?_) fun r hr=>Ev.S hr
 refine Ev.loop (fun k j x i=>Xc.l10 k a j x i) n (fun _ x=>Bx n x) ?_ ?_ (by rw [Int.toNat_natCast,ha.1]; exact Bx.zero _)
 ·intro i hi x hx next
  refine Ev.N (fun k j=>by rw [Xc.l10]) ?_
  refine Ev.T (dT (by rw [ha.1]; omega)) (Ev.T (by rw [ha.1]; omega) (Ev.O (ha.at (i:=(i:Int)) (by omega) (by omega)) fun r hr=>?_))
  refine Ev.X (qca hr) (Ev.O (qd5 hr) fun s hs=>?_)
  refine Ev.T (by rw [hx.1]; omega) (Ev.O (hx.at (i:=(i:Int)) (by omega) (by omega)) fun _ _=>?_)
  rw [wi hi (by omega)]
  exact next _ (hx.set hs _)
 ·intro x hx
  refine Ev.N (fun k j=>by rw [Xc.l10]) ?_
  exact Ev.F (dF (by rw [ha.1]; omega)) (Ev.S hx)
theorem Wl {n:Nat} (hn:n≤3) {a:List qb} (ha:a.length≤n):Ev (fun k _=>Q1 k a) (fun _=>True):=by
 unfold Q1
 refine Ev.B (Q:=fun _=>True) ?_ fun r _=>Ev.S trivial
 unfold QG
 refine Ev.B (Q:=fun _=>True) (Ev.D (f:=fun k j=>QG.l6 k a j 0) ?_) fun r _=>?_
 ·refine Ev.loop (fun k j (_:Unit) i=>QG.l6 k a j i) a.length (fun _ _=>True) ?_ ?_ (s:=()) trivial
  ·intro i hi x hx next
   refine Ev.N (fun k j=>by rw [QG.l6]) ?_
   refine Ev.T (dT (by omega)) (Ev.T (by omega) (Ev.O (qaw (by omega)) fun r hr=>Ev.X qag (Ev.C (fun _=>Ev.S trivial) fun _=>?_)))
   rw [wi hi (by omega)]
   exact next () trivial
  ·intro x hx
   refine Ev.N (fun k j=>by rw [QG.l6]) ?_
   exact Ev.F (dF (by omega)) (Ev.S trivial)
 ·cases r with
  | inl r=>exact Ev.S trivial
  | inr r=>exact Ev.S trivial
theorem VM {n:Nat} (hn:n≤3) {a:List qb} (ha:Bx n a):Ev (fun k _=>XR k a) (fun _=>True):=by
 unfold XR
 exact Ev.B (Wl hn (by rw [ha.1]; exact Nat.le_refl _)) fun _ _=>Ev.S trivial
theorem qej {n:Nat} (hn:n≤3) {a b:List qb} (ha:Bx n a) (hb:Bx n b):Ev (fun k _=>Xm k a b) (fun _=>True):=by
 unfold Xm
 refine Ev.D (f:=fun k j=>Xm.l3 k a b j 0) ?_
 refine Ev.loop (fun k j (_:Unit) i=>Xm.l3 k a b j i) n (fun _ _=>True) ?_ ?_ (s:=()) trivial
 ·intro i hi x hx next
  refine Ev.N (fun k j=>by rw [Xm.l3]) ?_
  refine Ev.T (dT (by rw [ha.1]; omega)) (Ev.T (by rw [ha.1]; omega) (Ev.O (ha.at (i:=(i:Int)) (by omega) (by omega)) fun r hr=>Ev.T (by rw [hb.1]; omega) (Ev.O (hb.at (i:=(i:Int)) (by omega) (by omega)) fun p hp=>?_)))
  rw [wi hi (by omega)]
  exact Ev.B (next () trivial) fun _ _=>Ev.S trivial
 ·intro x hx
  refine Ev.N (fun k j=>by rw [Xm.l3]) ?_
  exact Ev.F (dF (by rw [ha.1]; omega)) (Ev.S trivial)
theorem qdm (k:Nat) (a b:List qb):∀ (k:Nat) (l:List (qb × qb)),∃ r,XN.l5 k a b l=some r:=by
 intro k l
 induction l with
 | nil=>exact ⟨_,rfl⟩
 | cons x l ih =>
  rw [XN.l5,qdk,Option.bind_some]
  by_cases h:(!decide ((⟨x.2.Lo,x.2.Hi⟩:qb).Lo≤(⟨x.1.Lo,x.1.Hi⟩:qb).Lo∧(⟨x.1.Lo,x.1.Hi⟩:qb).Hi≤(⟨x.2.Lo,x.2.Hi⟩:qb).Hi))=true
  ·rw [if_pos h]; exact ⟨_,rfl⟩
  ·rw [if_neg h]; exact ih
theorem qdI (a b:List qb) (k k':Nat):∀ (l:List (qb × qb)),XN.l5 k a b l=XN.l5 k' a b l:=by
 intro l
 induction l with
 | nil=>rfl
 | cons x l ih=>rw [XN.l5,XN.l5,ih]
theorem qeV {n:Nat} (hn:n≤3) {a b:List qb} (ha:Bx n a) (hb:Bx n b):Ev (fun k _=>XN k a b) (fun _=>True):=by
 unfold XN
 refine Ev.B (qej hn ha hb) fun l _=>?_
 obtain ⟨r,hr⟩:=qdm 0 a b 0 l
 exact Ev.L (r:=r) 0 trivial fun k j _=>by rw [qdI a b k 0,hr]
def qdJ (n:Nat) (l:List (List qb × List qb)):Prop:=∀ x ∈ l,Bx n x.1∧Bx n x.2
theorem qey {c:QE} {n:Nat} (h:Wt c n) {a:List qb} (ha:Bx n a) (s:Q6) (hH:0≤s.H):Ev (fun k _=>qO k a c s) (qdJ n):=by
 unfold qO
 refine Ev.B (qb3 h ha ha s hH) fun t2 h2=>Ev.B (qbS h.pos.2 ha h2) fun t3 h3=>?_
 refine Ev.D (f:=fun k j=>qO.l7 k a c s t2 t3 j t3 0) ?_
 refine Ev.loop (fun k j x i=>qO.l7 k a c s t2 t3 j x i) 8 (fun _ x=>Bx n x) ?_ ?_ h3
 ·intro i hi x hx next
  have nil:qdJ n []:=fun x hx=>by cases hx
  refine Ev.N (fun k j=>by rw [qO.l7]) ?_
  refine Ev.T (dT (by omega)) (Ev.B (VM h.pos.2 hx) fun r _=>Ev.C (fun _=>Ev.S nil) fun _=>?_)
  refine Ev.B (qcm h.pos.2 hx) fun y hy=>Ev.B (VM h.pos.2 hy) fun r _=>Ev.C (fun _=>Ev.S nil) fun _=>?_
  refine Ev.B (qb3 h ha hy s hH) fun z hz=>Ev.B (VM h.pos.2 hz) fun r _=>Ev.V ?_
  cases r with
  | false=>exact Ev.T rfl (Ev.S nil)
  | true =>
   refine Ev.F (by decide) (Ev.T rfl ?_)
   refine Ev.B (Q:=qdJ n) (Ev.B (qbS h.pos.2 hy hz) fun w hw=>?_) fun r hr=>Ev.S fun p hp=>?_
   ·rw [wi hi (by omega)]; exact next w hw
   ·rcases List.mem_cons.1 hp with rfl | hp
    ·exact ⟨hy,hz⟩
    ·exact hr p hp
 ·intro x hx
  refine Ev.N (fun k j=>by rw [qO.l7]) ?_
  exact Ev.F (dF (by decide)) (Ev.S fun p hp=>by cases hp)
theorem qfd {c:QE} {n:Nat} (h:Wt c n) {a:List qb} (ha:Bx n a) (s:Q6) (hH:0≤s.H):Ev (fun k _=>Qy k c a s) (fun r=>r.2=true→Bx n r.1):=by
 unfold Qy
 refine Ev.B (qey h ha s hH) fun l hl=>?_
 induction l with
 | nil=>exact Ev.S fun hc=>by cases hc
 | cons x l ih =>
  simp only [Qy.l6]
  obtain ⟨h1,h2⟩:=hl x (List.mem_cons_self ..)
  refine Ev.B (qeV h.pos.2 h2 h1) fun r _=>Ev.C (fun _=>?_) fun _=>ih fun y hy=>hl y (List.mem_cons_of_mem _ hy)
  unfold Qy.l8
  exact Ev.T (by rw [h2.1]; have:=h.pos; omega) (Ev.S fun _=>h2)
end Go.Proofs.YtpmgpcklieincaaGreatDoor
set_option maxRecDepth 10000
set_option linter.unusedVariables false
set_option linter.unusedSimpArgs false
namespace Go.Proofs.YtpmgpcklieincaaGreatDoor
open Go Go.Sx
theorem qa2 {x p d:Int} (hx:WB x) (hp:1≤p∧p≤2) (hd:1≤d∧d≤10):Yv x p d=some (x * p / d,Zm (x * p) d,0):=by
 unfold WB at hx
 have h1:x * p≤4294967296 ∧ -4294967296≤x * p:=by
  have:p=1∨p=2:=by omega
  rcases this with rfl | rfl <;> omega
 unfold Yv
 rw [if_neg (by simp; omega),Zy (by omega) (by omega),VQ (by omega) (by omega) (by omega) (by omega)]
 rfl
theorem qb5 {a:qb} (ha:Ok a) {p d:Int} (hp:1≤p∧p≤2) (hd:1≤d∧d≤10):∃ r,XY a p d=some r∧Ok r:=by
 unfold XY
 rcases ha with rfl | fa
 ·rw [ZL,Option.bind_some,if_pos rfl]
  exact ⟨_,rfl,.inl rfl⟩
 ·have hf:decide (p<0)=false:=decide_eq_false (by omega)
  rw [YR fa,Option.bind_some,if_neg (by decide),hf]
  have e1:XF false a.Hi a.Lo=some a.Lo:=rfl
  have e2:XF false a.Lo a.Hi=some a.Hi:=rfl
  rw [e1,Option.bind_some,qa2 fa.wlo hp hd,Option.bind_some,e2,Option.bind_some,qa2 fa.whi hp hd,Option.bind_some]
  dsimp only
  rw [Z1,Option.bind_some]
  exact ⟨_,rfl,Wc (fc (by omega) (Int.mul_le_mul_of_nonneg_right fa.le (by omega)))⟩
theorem qa9 {p q:Nat} {a b:List qb} (ha:Bx p a) (hb:Bx q b) {lo n m:Nat} (hn:lo≤n) (hn3:n≤1000) (hm:m≤1000) (hx:∀ i,lo≤i→i<n→i<p∧i≤m∧m - i<q) :
  Ev (fun k _=>qS k a b (lo:Int) ((n:Int) - 1) (m:Int)) Ok:=by
 unfold qS
 refine Ev.X (v:=(⟨0,0⟩:qb)) rfl ?_
 refine Ev.B (Q:=fun r:Int × Int=>Ok ⟨r.1,r.2⟩) (Ev.D (f:=fun k j=>qS.l12 k a b (lo:Int) ((n:Int) - 1) (m:Int) ⟨0,0⟩ j 0 0 (lo:Int)) ?_) fun r hr=>Ev.S hr
 refine Ev.from (fun k j (s:Int × Int) i=>qS.l12 k a b (lo:Int) ((n:Int) - 1) (m:Int) ⟨0,0⟩ j s.1 s.2 i) n (fun i s=>lo≤i∧Ok ⟨s.1,s.2⟩) ?_ ?_ (s:=(0,0)) hn ⟨Nat.le_refl _,WD⟩
 ·intro i hi s hs next
  obtain ⟨h1,h2,h3⟩:=hx i hs.1 hi
  refine Ev.N (fun k j=>by rw [qS.l12]) ?_
  refine Ev.T (dT (by omega)) (Ev.T (by rw [ha.1]; omega) (Ev.O (ha.at (i:=(i:Int)) (by omega) (by omega)) fun u hu=>?_))
  have e:qc ((m:Int) - (i:Int))=((m - i:Nat):Int):=by rw [Zy (by omega) (by omega)]; omega
  rw [e]
  refine Ev.T (by rw [hb.1]; omega) (Ev.O (hb.at (i:=((m - i:Nat):Int)) (by omega) (by omega)) fun v hv=>?_)
  refine Ev.O (qaj hu hv) fun w hw=>?_
  refine Ev.B (Q:=fun r:Int × Int=>Ok ⟨r.1,r.2⟩) (Ev.C (fun _=>Ev.O (VC hs.2 hw) fun z hz=>Ev.S hz) fun _=>Ev.S hw) fun r hr=>?_
  rw [wi hi (by omega)]
  exact next r ⟨by omega,hr⟩
 ·intro s hs
  refine Ev.N (fun k j=>by rw [qS.l12]) ?_
  exact Ev.F (dF (by omega)) (Ev.S hs.2)
theorem qe7 {k:Nat} (hk:k≤10) {a b c:List qb} (ha:Bx (k+1) a) (hb:Bx (k+1) b) (hc:Bx k c):Ev (fun f _=>QF f a b c) Ok:=by
 unfold QF
 have hcl:=hc.1
 have a0:=ha.at (i:=0) (by omega) (by omega)
 have b0:=hb.at (i:=0) (by omega) (by omega)
 refine Ev.C (fun _=>?_) fun h0=>?_
 ·exact Ev.T (by rw [ha.1]; omega) (Ev.O a0 fun u hu=>Ev.T (by rw [hb.1]; omega) (Ev.O b0 fun v hv=>Ev.O (qbE hu hv) fun w hw=>Ev.S hw))
 ·have hk0:k≠0:=fun e=>h0 (by rw [hcl,e]; rfl)
  refine Ev.B (Q:=fun r:Int × Int=>Ok ⟨r.1,r.2⟩) (Ev.D (f:=fun f j=>QF.l29 f a b c j 0 0 1) ?_) fun r hr=>?_
  ·refine Ev.from (fun f j (s:Int × Int) i=>QF.l29 f a b c j s.1 s.2 i) (k+1) (fun i s=>1≤i∧Ok ⟨s.1,s.2⟩) ?_ ?_ (s:=(0,0)) (m:=1) (by omega) ⟨Nat.le_refl _,WD⟩
   ·intro i hi s hs next
    have h1:=hs.1
    refine Ev.N (fun k j=>by rw [QF.l29]) ?_
    refine Ev.T (dT (by omega)) (Ev.T (by rw [hb.1]; omega) (Ev.O (hb.at (i:=(i:Int)) (by omega) (by omega)) fun u hu=>?_))
    have e:qc ((c.length:Int) - (i:Int))=((k - i:Nat):Int):=by rw [Zy (by omega) (by omega)]; omega
    rw [e]
    refine Ev.T (by omega) (Ev.O (hc.at (i:=((k - i:Nat):Int)) (by omega) (by omega)) fun v hv=>Ev.O (qaj hu hv) fun w hw=>?_)
    refine Ev.B (Q:=fun r:Int × Int=>Ok ⟨r.1,r.2⟩) (Ev.C (fun _=>Ev.O (VC hs.2 hw) fun z hz=>Ev.S hz) fun _=>Ev.S hw) fun r hr=>?_
    rw [wi hi (by omega)]
    exact next r ⟨by omega,hr⟩
   ·intro s hs
    refine Ev.N (fun k j=>by rw [QF.l29]) ?_
    exact Ev.F (dF (by omega)) (Ev.S hs.2)
  ·exact Ev.T (by rw [ha.1]; omega) (Ev.O (ha.at (i:=(c.length:Int)) (by omega) (by omega)) fun u hu=>Ev.O (qbm hu hr) fun v hv=>Ev.T (by rw [hb.1]; omega) (Ev.O b0 fun w hw=>Ev.O (qbE hv hw) fun z hz=>Ev.S hz))
theorem qew {a:qb} (h:Ok a):Ev (fun k _=>Xe k a) (fun r=>Ok r.1):=by
 rcases h with rfl | fa
 ·exact Ev.L (r:=(ZO,true)) 0 (.inl rfl) fun k j _=>qdd k
 ·by_cases h:a.Hi<0
  ·exact Ev.L (r:=(⟨0,0⟩,false)) 0 WD fun k j _=>qbR k fa h
  ·obtain ⟨s,t,u,v,e1,r1,r2,h3,h4⟩:=Vz (k0:=K32+1) (by decide) fa (by omega)
   refine Ev.L (r:=(⟨s,t⟩,true)) (K32+1) (.inr h4) fun k j hk=>?_
   obtain ⟨s',t',u',v',e1',r1',r2',h3',h4'⟩:=Vz (k0:=k) (by unfold K32 at hk; omega) fa (by omega)
   obtain ⟨rfl,_⟩:=JE.uniq r1 r1'
   obtain ⟨_,rfl⟩:=JE.uniq r2 r2'
   exact e1'
theorem qdO {k:Nat} (hk:k≤10) {a c:List qb} (ha:Bx (k+1) a) (hc:Bx k c):Ev (fun f _=>YW f a c) Ok:=by
 unfold YW
 have hcl:=hc.1
 have a0:=ha.at (i:=0) (by omega) (by omega)
 refine Ev.C (fun _=>?_) fun h0=>?_
 ·refine Ev.T (by rw [ha.1]; omega) (Ev.O a0 fun u hu=>Ev.B (qew hu) fun r hr=>Ev.T (by rw [ha.1]; omega) (Ev.O a0 fun v hv=>Ev.C (fun _=>Ev.S hr) fun _=>Ev.X (v:=ZO) rfl (Ev.S (.inl rfl))))
 ·have hk0:k≠0:=fun e=>h0 (by rw [hcl,e]; rfl)
  have e1:qc ((c.length:Int) - 1)=(k:Int) - 1:=by rw [hcl,Zy (by omega) (by omega)]
  rw [e1,hcl]
  refine Ev.B (qa9 hc hc (lo:=1) (n:=k) (m:=k) (by omega) (by omega) (by omega) fun i h1 h2=>⟨h2,by omega,by omega⟩) fun w hw=>?_
  exact Ev.T (by rw [ha.1]; omega) (Ev.O (ha.at (i:=(k:Int)) (by omega) (by omega)) fun u hu=>Ev.O (qbm hu hw) fun v hv=>Ev.T (by omega) (Ev.O (hc.at (i:=0) (by omega) (by omega)) fun z hz=>Ev.O (qb5 hz (by omega) (by omega)) fun y hy=>Ev.O (qbE hv hy) fun q hq=>Ev.S hq))
theorem qfc {n k i L:Nat} (hk:k≤10) (hi:i<L) {x:qh} (hx:Fit n i x) (h2:x.Op≠2) {rows:List (List qb)} (hr:Rw (k+1) k i L rows) {own:List qb} (ho:Bx k own) (t:qb):Ev (fun f _=>Xv f x rows own t) Ok:=by
 unfold Xv
 have hol:=ho.1
 rcases hx with ⟨hop,hc⟩ | ⟨hop,h3,h4⟩ | ⟨hop,h3,h4⟩ | ⟨hop,⟨h3,h4⟩,h5,h6⟩
 ·rw [hop]
  refine Ev.F (by decide) (Ev.F (by decide) (Ev.F (by decide) (Ev.F (by decide) (Ev.F (by decide) (Ev.F (by decide) (Ev.F (by decide) ?_))))))
  refine Ev.B (Q:=fun r:Int × Int=>Ok ⟨r.1,r.2⟩) (Ev.C (fun _=>Ev.S hc) fun _=>Ev.F (by simp) (Ev.F (by simp) (Ev.S WD))) fun r hr=>Ev.X rfl (Ev.S hr)
 ·exact absurd hop h2
 ·obtain ⟨hA,gA⟩:=hr.lo h3 h4 (by omega)
  have:x.Op=4∨x.Op=5∨x.Op=6:=by omega
  rcases this with hop | hop | hop <;> rw [hop]
  ·exact Ev.T rfl (Ev.T hA (Ev.O gA fun r hr=>Ev.T (by rw [hr.1]; omega) (Ev.O (hr.at (i:=(own.length:Int)) (by omega) (by omega)) fun u hu=>Ev.O (qfx hu) fun v hv=>Ev.S hv)))
  ·refine Ev.F (by decide) (Ev.F (by decide) (Ev.F (by decide) (Ev.F (by decide) (Ev.T rfl ?_))))
   refine Ev.C (fun _=>Ev.T hA (Ev.O gA fun r hr=>Ev.T (by rw [hr.1]; omega) (Ev.O (hr.at (i:=0) (by omega) (by omega)) fun u hu=>Ev.O (qfr hu) fun v hv=>Ev.S hv))) fun _=>?_
   refine Ev.T hA (Ev.O gA fun r hr=>Ev.T hA (Ev.O gA fun s hs=>?_))
   rw [hol]
   refine Ev.B (Q:=Ok) ?_ fun w hw=>Ev.S hw
   have:=qa9 hr hs (lo:=0) (n:=k+1) (m:=k) (by omega) (by omega) (by omega) fun i _ h2=>⟨h2,by omega,by omega⟩
   rwa [show (((k+1:Nat):Int) - 1)=(k:Int) by omega] at this
  ·refine Ev.F (by decide) (Ev.F (by decide) (Ev.F (by decide) (Ev.F (by decide) (Ev.F (by decide) (Ev.F (by decide) (Ev.T rfl ?_))))))
   exact Ev.T hA (Ev.O gA fun r hr=>Ev.B (qdO hk hr ho) fun w hw=>Ev.S hw)
 ·obtain ⟨hA,gA⟩:=hr.lo h3 h4 (by omega)
  obtain ⟨hB,gB⟩:=hr.lo h5 h6 (by omega)
  have:x.Op=7∨x.Op=8∨x.Op=9∨x.Op=10:=by omega
  rcases this with hop | hop | hop | hop <;> rw [hop]
  ·refine Ev.F (by decide) (Ev.T rfl ?_)
   exact Ev.T hA (Ev.O gA fun r hr=>Ev.T (by rw [hr.1]; omega) (Ev.O (hr.at (i:=(own.length:Int)) (by omega) (by omega)) fun u hu=>Ev.T hB (Ev.O gB fun s hs=>Ev.T (by rw [hs.1]; omega) (Ev.O (hs.at (i:=(own.length:Int)) (by omega) (by omega)) fun v hv=>Ev.O (VC hu hv) fun w hw=>Ev.S hw))))
  ·refine Ev.F (by decide) (Ev.F (by decide) (Ev.T rfl ?_))
   exact Ev.T hA (Ev.O gA fun r hr=>Ev.T (by rw [hr.1]; omega) (Ev.O (hr.at (i:=(own.length:Int)) (by omega) (by omega)) fun u hu=>Ev.T hB (Ev.O gB fun s hs=>Ev.T (by rw [hs.1]; omega) (Ev.O (hs.at (i:=(own.length:Int)) (by omega) (by omega)) fun v hv=>Ev.O (qbm hu hv) fun w hw=>Ev.S hw))))
  ·refine Ev.F (by decide) (Ev.F (by decide) (Ev.F (by decide) (Ev.T rfl ?_)))
   refine Ev.T hA (Ev.O gA fun r hr=>Ev.T hB (Ev.O gB fun s hs=>?_))
   rw [hol]
   refine Ev.B (Q:=Ok) ?_ fun w hw=>Ev.S hw
   have:=qa9 hr hs (lo:=0) (n:=k+1) (m:=k) (by omega) (by omega) (by omega) fun i _ h2=>⟨h2,by omega,by omega⟩
   rwa [show (((k+1:Nat):Int) - 1)=(k:Int) by omega] at this
  ·refine Ev.F (by decide) (Ev.F (by decide) (Ev.F (by decide) (Ev.F (by decide) (Ev.F (by decide) (Ev.T rfl ?_)))))
   exact Ev.T hA (Ev.O gA fun r hr=>Ev.T hB (Ev.O gB fun s hs=>Ev.B (qe7 hk hr hs ho) fun w hw=>Ev.S hw))
theorem Rw.any {p q L:Nat} {rows:List (List qb)} (h:Rw p q 0 L rows) {A:Int} (h0:0≤A) (h1:A<(L:Int)):(0≤A∧A<(rows.length:Int)) ∧ ∃ r,rows[A.toNat]? = some r∧Bx q r:=by
 have hl:=h.1
 refine ⟨by omega,rows[A.toNat]'(by omega),List.getElem?_eq_getElem _,?_⟩
 have:=h.2 A.toNat _ (List.getElem?_eq_getElem (by omega))
 rwa [if_neg (by omega)] at this
theorem qc3 {c:QE} {n:Nat} (h:Wt c n) {b:List qb} (hb:Bx n b) (t:qb) {m:Nat} (hm:m≤8):Ev (fun k _=>Q7 k c b t (m:Int)) (Rw 0 (m+1) 0 n):=by
 have hn:=h.pos
 have hL:=h.L
 unfold Q7
 refine Ev.B (Q:=Rw 0 (m+1) 0 n) ?_ fun r hr=>Ev.S hr
 unfold qm
 have hN:=h.N
 refine Ev.T (by show 0≤c.N∧c.N<1000000; omega) (Ev.T (by show 0≤(c.L.length:Int)∧(c.L.length:Int)<1000000; omega) ?_)
 show Ev (fun k j=>(qm.l88 k c b t (m:Int) k (List.replicate c.N.toNat ([]:List qb)) 0).bind fun j6=>(qm.l14 k c b t (m:Int) j6 k j6 (List.replicate (c.L.length:Int).toNat ([]:List qb)) 0).bind fun j8=>some j8) _
 have hNn:c.N.toNat=n:=by omega
 refine Ev.B (Q:=Rw 0 1 0 n) (Ev.D (f:=fun k j=>qm.l88 k c b t (m:Int) j (List.replicate c.N.toNat ([]:List qb)) 0) ?_) fun j6 hj6=>?_
 ·refine Ev.loop (fun k j s i=>qm.l88 k c b t (m:Int) j s i) n (fun i s=>Rw 1 0 i n s) ?_ ?_ (by rw [hNn]; exact Rw.nil 1 n)
  ·intro i hi s hs next
   obtain ⟨g1,g2⟩:=hs.own hi
   refine Ev.N (fun k j=>by rw [qm.l88]) ?_
   refine Ev.T (dT (by simp only [List.length_replicate]; omega)) (Ev.T (by rw [hb.1]; omega) (Ev.O (hb.at (i:=(i:Int)) (by omega) (by omega)) fun u hu=>Ev.T g1 (Ev.O g2 fun _ _=>?_)))
   rw [wi hi (by omega),Int.toNat_natCast]
   exact next _ (hs.put ⟨rfl,fun y hy=>by obtain rfl:=List.mem_singleton.1 hy; exact hu⟩)
  ·intro s hs
   refine Ev.N (fun k j=>by rw [qm.l88]) ?_
   exact Ev.F (dF (by simp only [List.length_replicate]; omega)) (Ev.S (hs.all 0))
 ·refine Ev.B (Q:=Rw 0 (m+1) 0 n) (Ev.D (f:=fun k j=>qm.l14 k c b t (m:Int) j6 j j6 (List.replicate (c.L.length:Int).toNat ([]:List qb)) 0) ?_) fun r hr=>Ev.S hr
  refine Ev.loop (fun k j (s:List (List qb) × List (List qb)) i=>qm.l14 k c b t (m:Int) j6 j s.1 s.2 i) m (fun i s=>Rw 0 (i+1) 0 n s.1∧Rw 0 i 0 c.L.length s.2) ?_ ?_ (s:=(j6,List.replicate (c.L.length:Int).toNat ([]:List qb))) ⟨hj6,by rw [Int.toNat_natCast]; exact Rw.nil 0 _⟩
  ·intro i hi s hs next
   obtain ⟨o,l⟩:=s
   obtain ⟨hso,hsl⟩:=hs
   dsimp only at hso hsl
   refine Ev.N (fun k j=>by rw [qm.l14]) ?_
   refine Ev.T (dT (by omega)) (Ev.B (Q:=fun r:List (List qb) × List (List qb)=>Rw 0 (i+1+1) 0 n r.1∧Rw 0 (i+1) 0 c.L.length r.2) ?_ fun r hr=>?_)
   ·refine Ev.B (Q:=Rw (i+1+1) (i+1) 0 c.L.length) (Ev.D (f:=fun k j=>qm.l50 k c b t (m:Int) j6 o l (i:Int) j l 0) ?_) fun j22 h22=>?_
    ·refine Ev.loop (fun k j s p=>qm.l50 k c b t (m:Int) j6 o l (i:Int) j s p) c.L.length (fun p s=>Rw (i+1) i p c.L.length s) ?_ ?_ ⟨hsl.1,hsl.2⟩
     ·intro p hp s hs next
      obtain ⟨g1,g2⟩:=hs.own hp
      refine Ev.N (fun k j=>by rw [qm.l50]) ?_
      refine Ev.T (dT (by omega)) (Ev.B (Q:=Rw (i+1) i (p+1) c.L.length) ?_ fun r hr=>?_)
      ·refine Ev.T (by omega) ?_
       have hg:c.L[((p:Int)).toNat]? = some c.L[p]:=by rw [Int.toNat_natCast]; exact List.getElem?_eq_getElem hp
       have hf:=h.fit p c.L[p] (List.getElem?_eq_getElem hp)
       generalize c.L[p]=x at hg hf
       refine Ev.X hg (Ev.C (fun h2=>?_) fun h2=>?_)
       ·have hA:0≤x.A∧x.A<(n:Int):=by
         have:x.Op=2:=by simpa using h2
         unfold Fit at hf; omega
        refine Ev.T g1 (Ev.O g2 fun own hown=>?_)
        obtain ⟨v1,v2⟩:=hso.any hA.1 hA.2
        refine Ev.T v1 (Ev.O v2 fun r hr=>Ev.T (by rw [hr.1]; omega) (Ev.O (hr.at (i:=(i:Int)) (by omega) (by omega)) fun w hw=>?_))
        refine Ev.T (by rw [hown.1]; omega) (Ev.T g1 (Ev.O g2 fun _ _=>Ev.S ?_))
        rw [Int.toNat_natCast]
        exact hs.put (hown.app hw)
       ·refine Ev.T g1 (Ev.O g2 fun own hown=>Ev.T g1 (Ev.O g2 fun own2 hown2=>?_))
        refine Ev.B (qfc (by omega) hp hf (by simpa using h2) hs hown2 t) fun w hw=>?_
        refine Ev.T (by rw [hown.1]; omega) (Ev.T g1 (Ev.O g2 fun _ _=>Ev.S ?_))
        rw [Int.toNat_natCast]
        exact hs.put (hown.app hw)
      ·rw [wi hp (by omega)]; exact next r hr
     ·intro s hs
      refine Ev.N (fun k j=>by rw [qm.l50]) ?_
      exact Ev.F (dF (by omega)) (Ev.S (hs.all _))
    ·refine Ev.D (f:=fun k j=>qm.l26 k c b t (m:Int) j6 o l (i:Int) j22 j o 0) ?_
     refine Ev.loop (fun k j s p=>qm.l26 k c b t (m:Int) j6 o l (i:Int) j22 j s p) n (fun p s=>Rw (i+1+1) (i+1) p n s) ?_ ?_ ⟨hso.1,hso.2⟩
     ·intro p hp s hs next
      obtain ⟨g1,g2⟩:=hs.own hp
      have hin:0≤(p:Int)∧(p:Int)<(c.Out.length:Int):=by rw [h.O]; omega
      refine Ev.N (fun k j=>by rw [qm.l26]) ?_
      refine Ev.T (dT hin.2) (Ev.T hin (Ev.O (qaw hin) fun u hu=>Ev.T g1 (Ev.O g2 fun own hown=>?_)))
      have hu2:=h.out u hu
      obtain ⟨v1,v2⟩:=h22.any hu2.1 hu2.2
      have e:qc ((i:Int)+1)=((i+1:Nat):Int):=wi hi (by omega)
      refine Ev.T v1 (Ev.O v2 fun r hr=>Ev.T (by rw [hr.1]; omega) (Ev.O (hr.at (i:=(i:Int)) (by omega) (by omega)) fun v hv=>?_))
      have hq:∃ z,Yp v (qc ((i:Int)+1))=some z∧Ok z:=by
       rw [e]
       obtain ⟨z,h1,h2⟩:=qb5 hv (p:=1) (d:=((i+1:Nat):Int)) (by omega) (by omega)
       exact ⟨z,by unfold Yp; rw [h1]; rfl,h2⟩
      refine Ev.O hq fun z hz=>Ev.T (by rw [hown.1]; omega) (Ev.T g1 (Ev.O g2 fun _ _=>?_))
      rw [wi hp (by omega),Int.toNat_natCast]
      exact next _ (hs.put (hown.app hz))
     ·intro s hs
      refine Ev.N (fun k j=>by rw [qm.l26]) ?_
      exact Ev.F (dF (by rw [h.O]; omega)) (Ev.S ⟨hs.all _,⟨h22.1,h22.2⟩⟩)
   ·rw [wi hi (by omega)]
    exact next r hr
  ·intro s hs
   refine Ev.N (fun k j=>by rw [qm.l14]) ?_
   exact Ev.F (dF (by omega)) (Ev.S hs.1)
end Go.Proofs.YtpmgpcklieincaaGreatDoor
set_option maxRecDepth 10000
set_option linter.unusedVariables false
set_option linter.unusedSimpArgs false
namespace Go.Proofs.YtpmgpcklieincaaGreatDoor
open Go Go.Sx
theorem qfM {c:QE} {n:Nat} (h:Wt c n) {b:List qb} (hb:Bx n b) (s:Q6) {m:Nat} (hm:m≤7):Ev (fun k _=>Yj k c b s (m:Int)) (Bx n):=by
 have hn:=h.pos
 unfold Yj
 rw [show qc ((m:Int)+1)=((m+1:Nat):Int) from wi (n:=8) (by omega) (by omega)]
 refine Ev.B (qc3 h hb _ (m:=m+1) (by omega)) fun rows hr=>?_
 refine Ev.B (Q:=Bx n) ?_ fun r hr=>Ev.S hr
 unfold QA
 refine Ev.T (by rw [hr.1]; omega) ?_
 refine Ev.B (Q:=Bx n) (Ev.D (f:=fun k j=>QA.l10 k rows (m:Int) j _ 0) ?_) fun r hr=>Ev.S hr
 refine Ev.loop (fun k j x i=>QA.l10 k rows (m:Int) j x i) n (fun _ x=>Bx n x) ?_ ?_ (by rw [Int.toNat_natCast,hr.1]; exact Bx.zero _)
 ·intro i hi x hx next
  obtain ⟨v1,v2⟩:=hr.any (A:=(i:Int)) (by omega) (by omega)
  refine Ev.N (fun k j=>by rw [QA.l10]) ?_
  refine Ev.T (dT v1.2) (Ev.T v1 (Ev.O v2 fun r hr=>?_))
  have hq:∃ z,Yo (i:Int) r (m:Int)=some z∧Ok z:=by
   obtain ⟨z,h1,h2⟩:=hr.at (i:=((m+1:Nat):Int)) (by omega) (by omega)
   refine ⟨z,?_,h2⟩
   unfold Yo
   rw [show qc ((m:Int)+1)=((m+1:Nat):Int) from wi (n:=8) (by omega) (by omega),if_pos (by rw [hr.1]; omega),h1,Option.bind_some]
  refine Ev.O hq fun z hz=>Ev.T (by rw [hx.1]; omega) (Ev.O (hx.at (i:=(i:Int)) (by omega) (by omega)) fun _ _=>?_)
  rw [wi hi (by omega)]
  exact next _ (hx.set hz _)
 ·intro x hx
  refine Ev.N (fun k j=>by rw [QA.l10]) ?_
  exact Ev.F (dF (by rw [hr.1]; omega)) (Ev.S hx)
theorem qeQ {n m:Nat} (hn:n≤3) (hm:m≤8) {rows:List (List qb)} (hr:Rw 0 m 0 n rows) {b:List qb} (hb:Bx n b):Ev (fun k _=>Qz k rows b) (Rw 0 (m+1) 0 n):=by
 unfold Qz
 refine Ev.T (by rw [hr.1]; omega) ?_
 refine Ev.B (Q:=Rw 0 (m+1) 0 n) (Ev.D (f:=fun k j=>Qz.l10 k rows b j _ 0) ?_) fun r hr=>Ev.S hr
 refine Ev.loop (fun k j x i=>Qz.l10 k rows b j x i) n (fun i x=>Rw (m+1) 0 i n x) ?_ ?_ (by rw [Int.toNat_natCast,hr.1]; exact Rw.nil _ _)
 ·intro i hi x hx next
  obtain ⟨v1,v2⟩:=hr.any (A:=(i:Int)) (by omega) (by omega)
  obtain ⟨g1,g2⟩:=hx.own hi
  refine Ev.N (fun k j=>by rw [Qz.l10]) ?_
  refine Ev.T (dT v1.2) (Ev.T v1 (Ev.O v2 fun r hr=>?_))
  have hq:∃ z,X0 (i:Int) r b=some z∧Bx (m+1) z:=by
   obtain ⟨z,h1,h2⟩:=hb.at (i:=(i:Int)) (by omega) (by omega)
   refine ⟨r++[z],?_,hr.app h2⟩
   unfold X0
   rw [if_pos (by rw [hb.1]; omega),h1,Option.bind_some,if_pos (by rw [hr.1]; omega)]
  refine Ev.O hq fun z hz=>Ev.T g1 (Ev.O g2 fun _ _=>?_)
  rw [wi hi (by omega),Int.toNat_natCast]
  exact next _ (hx.put hz)
 ·intro x hx
  refine Ev.N (fun k j=>by rw [Qz.l10]) ?_
  exact Ev.F (dF (by rw [hr.1]; omega)) (Ev.S (hx.all 0))
theorem qdo {n m:Nat} (hn:n≤3) (hm:1≤m∧m≤10) {rows:List (List qb)} (hr:Rw 0 m 0 n rows) {t:qb} (ht:Ok t):Ev (fun k _=>ZF k rows t) (Bx n):=by
 unfold ZF
 refine Ev.B (Q:=Bx n) ?_ fun r hr=>Ev.S hr
 unfold qD
 refine Ev.T (by rw [hr.1]; omega) ?_
 refine Ev.B (Q:=Bx n) (Ev.D (f:=fun k j=>qD.l10 k rows t j _ 0) ?_) fun r hr=>Ev.S hr
 refine Ev.loop (fun k j x i=>qD.l10 k rows t j x i) n (fun _ x=>Bx n x) ?_ ?_ (by rw [Int.toNat_natCast,hr.1]; exact Bx.zero _)
 ·intro i hi x hx next
  obtain ⟨v1,v2⟩:=hr.any (A:=(i:Int)) (by omega) (by omega)
  refine Ev.N (fun k j=>by rw [qD.l10]) ?_
  refine Ev.T (dT v1.2) (Ev.B (Q:=Bx n) (Ev.T v1 (Ev.O v2 fun r hr=>?_)) fun s hs=>?_)
  ·have hrl:=hr.1
   have e1:qc ((r.length:Int) - 1)=(m:Int) - 1:=by rw [hrl,Zy (by omega) (by omega)]
   have e2:qc ((r.length:Int) - 2)=((m - 1:Nat):Int) - 1:=by rw [hrl,Zy (by omega) (by omega)]; omega
   rw [e1,e2]
   refine Ev.T (by omega) (Ev.O (hr.at (i:=(m:Int) - 1) (by omega) (by omega)) fun u hu=>?_)
   refine Ev.B (Q:=fun q:Int × Int=>Ok ⟨q.1,q.2⟩) (Ev.D (f:=fun k j=>qD.l31 k rows t x (i:Int) r u j u.Lo u.Hi (((m - 1:Nat):Int) - 1)) ?_) fun q hq=>Ev.T (by rw [hx.1]; omega) (Ev.O (hx.at (i:=(i:Int)) (by omega) (by omega)) fun _ _=>Ev.S (hx.set hq _))
   have key:∀ (p:Nat),p≤m - 1 → ∀ y z:Int,Ok ⟨y,z⟩→Ev (fun k j=>qD.l31 k rows t x (i:Int) r u j y z ((p:Int) - 1)) (fun q=>Ok ⟨q.1,q.2⟩):=by
    intro p
    induction p with
    | zero =>
     intro _ y z hyz
     refine Ev.N (fun k j=>by rw [qD.l31]) ?_
     exact Ev.F (by decide) (Ev.S hyz)
    | succ p ih =>
     intro hp y z hyz
     have e3:((p+1:Nat):Int) - 1=(p:Int):=by omega
     rw [e3]
     refine Ev.N (fun k j=>by rw [qD.l31]) ?_
     have hq:∃ w,YX (⟨y,z⟩:qb) t=some w∧Ok w:=by
      obtain ⟨w,h1,h2⟩:=qaj hyz ht
      exact ⟨w,by unfold YX; rw [h1]; rfl,h2⟩
     refine Ev.T (dT (by omega)) (Ev.O hq fun w hw=>Ev.T (by omega) (Ev.O (hr.at (i:=(p:Int)) (by omega) (by omega)) fun v hv=>Ev.O (VC hw hv) fun o ho=>?_))
     rw [Zy (by omega) (by omega)]
     exact ih (by omega) _ _ ho
   exact key (m - 1) (Nat.le_refl _) _ _ hu
  ·rw [wi hi (by omega)]
   exact next _ hs
 ·intro x hx
  refine Ev.N (fun k j=>by rw [qD.l10]) ?_
  exact Ev.F (dF (by rw [hr.1]; omega)) (Ev.S hx)
theorem qe1 {a b:qb} (ha:Ok a) (hb:Ok b) (h:mx a.Lo b.Lo≤mn a.Hi b.Hi):Ok ⟨mx a.Lo b.Lo,mn a.Hi b.Hi⟩:=by
 rcases ha with rfl | fa
 ·have h1:=hb.b
  have e1:mx ZO.Lo b.Lo=b.Lo:=by unfold mx ZO; simp only; split <;> omega
  have e2:mn ZO.Hi b.Hi=b.Hi:=by unfold mn ZO; simp only; split <;> omega
  rw [e1,e2]; exact hb
 ·rcases hb with rfl | fb
  ·have h1:=fa
   unfold ZS at h1
   have e1:mx a.Lo ZO.Lo=a.Lo:=by unfold mx ZO; simp only; split <;> omega
   have e2:mn a.Hi ZO.Hi=a.Hi:=by unfold mn ZO; simp only; split <;> omega
   rw [e1,e2]; exact .inr fa
  ·refine .inr ⟨?_,h,?_⟩
   ·have:=(mxl a.Lo b.Lo).1; have:=fa.1; show _<mx a.Lo b.Lo; omega
   ·have:=(mnl a.Hi b.Hi).1; have:=fa.2.2; show mn a.Hi b.Hi<_; omega
theorem qdZ {n:Nat} (hn:n≤3) {a b:List qb} (ha:Bx n a) (hb:Bx n b):Ev (fun k _=>Yc k a b) (Bx n):=by
 unfold Yc
 refine Ev.B (Q:=Bx n) ?_ fun r hr=>Ev.S hr
 unfold QB
 refine Ev.T (by rw [ha.1]; omega) ?_
 refine Ev.B (Q:=Bx n) (Ev.D (f:=fun k j=>QB.l10 k a b j _ 0) ?_) fun r hr=>Ev.S hr
 refine Ev.loop (fun k j x i=>QB.l10 k a b j x i) n (fun _ x=>Bx n x) ?_ ?_ (by rw [Int.toNat_natCast,ha.1]; exact Bx.zero _)
 ·intro i hi x hx next
  refine Ev.N (fun k j=>by rw [QB.l10]) ?_
  refine Ev.T (dT (by rw [ha.1]; omega)) (Ev.T (by rw [ha.1]; omega) (Ev.O (ha.at (i:=(i:Int)) (by omega) (by omega)) fun r hr=>?_))
  have hq:∃ z,XX (i:Int) r b=some z∧Ok z:=by
   obtain ⟨z,h1,h2⟩:=hb.at (i:=(i:Int)) (by omega) (by omega)
   unfold XX
   rw [if_pos (by rw [hb.1]; omega),h1,Option.bind_some]
   unfold YJ
   by_cases h:mx r.Lo z.Lo≤mn r.Hi z.Hi
   ·rw [decide_eq_true h]
    exact ⟨_,rfl,qe1 hr h2 h⟩
   ·rw [decide_eq_false h]
    refine ⟨z,?_,h2⟩
    refine bT (v:=((⟨0,0⟩:qb),false)) rfl (iF (by decide) (iT (by rw [hb.1]; omega) rfl))
  refine Ev.O hq fun z hz=>Ev.T (by rw [hx.1]; omega) (Ev.O (hx.at (i:=(i:Int)) (by omega) (by omega)) fun _ _=>?_)
  rw [wi hi (by omega)]
  exact next _ (hx.set hz _)
 ·intro x hx
  refine Ev.N (fun k j=>by rw [QB.l10]) ?_
  exact Ev.F (dF (by rw [ha.1]; omega)) (Ev.S hx)
theorem qaO {c:QE} {n:Nat} (h:Wt c n) {a b:List qb} (ha:Bx n a) (hb:Bx n b) (T H:Int) {p:qb} (hp:Ok p) {m:Nat} (hm:m≤7):Ev (fun k _=>XU k c a b ⟨T,H,p,(m:Int)⟩) (Bx n):=by
 unfold XU
 refine Ev.B (qfM h hb _ hm) fun u hu=>Ev.O (Q:=fun _=>True) ⟨_,by unfold Yz; rw [Z1]; rfl,trivial⟩ fun v _=>?_
 refine Ev.B (qc3 h ha v (by omega)) fun rows hr=>Ev.B (qeQ h.pos.2 (by omega) hr hu) fun rows' hr'=>?_
 exact Ev.B (qdo h.pos.2 (by omega) hr' hp) fun w hw=>Ev.B (qdZ h.pos.2 hw hb) fun z hz=>Ev.S hz
def Stp (n:Nat) (T H:Int) (r:Qc × Bool):Prop:=r.2=true→r.1.T=T∧r.1.H=H∧Bx n r.1.To∧Bx n r.1.Tube∧Bx n r.1.Pre
theorem qfb {c:QE} {n:Nat} (h:Wt c n) {a:List qb} (ha:Bx n a) {T H:Int} (hH:0≤H∧H≤16384) {m:Nat} (hm:m≤7):Ev (fun k _=>XB k c a ⟨T,H⟩ (m:Int)) (Stp n T H):=by
 unfold XB
 refine Ev.B (qfd h ha ⟨T,H⟩ hH.1) fun r hr=>Ev.C (fun _=>Ev.S fun hc=>by cases hc) fun h2=>?_
 have hb:=hr (by simpa using h2)
 have e1:Ev (fun k _=>Qb k 0 H c a r.1 ⟨T,H⟩ (m:Int)) (Bx n):=by
  unfold Qb
  exact Ev.B (qaO h ha hb T H (p:=⟨0,H⟩) (.inr (by unfold ZS; simp only; omega)) hm) fun u hu=>Ev.S hu
 have e2:Ev (fun k _=>Qb k H H c a r.1 ⟨T,H⟩ (m:Int)) (Bx n):=by
  unfold Qb
  exact Ev.B (qaO h ha hb T H (p:=⟨H,H⟩) (.inr (by unfold ZS; simp only; omega)) hm) fun u hu=>Ev.S hu
 refine Ev.B e1 fun u hu=>Ev.B e2 fun v hv=>?_
 refine Ev.B (Q:=Stp n T H) ?_ fun q hq=>Ev.S hq
 unfold Y2
 refine Ev.B (Wl h.pos.2 (by rw [hu.1]; exact Nat.le_refl _)) fun _ _=>Ev.B (Q:=fun _=>True) (Ev.C (fun _=>Wl h.pos.2 (by rw [hv.1]; exact Nat.le_refl _)) fun _=>Ev.S trivial) fun _ _=>?_
 exact Ev.C (fun _=>Ev.S fun hc=>by cases hc) fun _=>Ev.S fun _=>⟨rfl,rfl,hv,hu,hb⟩
theorem qcR {n:Nat} (hn:n≤3) {a:List qb} (ha:Bx n a) (C:qH):Ev (fun k _=>XG k a C) (fun _=>True):=by
 unfold XG
 refine Ev.B (Q:=fun _=>True) ?_ fun r _=>Ev.S trivial
 unfold QH
 refine Ev.B (Q:=fun _=>True) (Ev.D (f:=fun k j=>QH.l6 k a C j 0) ?_) fun r _=>?_
 ·refine Ev.loop (fun k j (_:Unit) i=>QH.l6 k a C j i) n (fun _ _=>True) ?_ ?_ (s:=()) trivial
  ·intro i hi x hx next
   refine Ev.N (fun k j=>by rw [QH.l6]) ?_
   refine Ev.T (dT (by rw [ha.1]; omega)) (Ev.T (by rw [ha.1]; omega) (Ev.O (ha.at (i:=(i:Int)) (by omega) (by omega)) fun r hr=>?_))
   have hq:∃ z,Yn r C=some z∧True:=⟨_,by unfold Yn; rw [qca hr]; rfl,trivial⟩
   refine Ev.O hq fun z _=>Ev.C (fun _=>Ev.S trivial) fun _=>?_
   rw [wi hi (by omega)]
   exact next () trivial
  ·intro x hx
   refine Ev.N (fun k j=>by rw [QH.l6]) ?_
   exact Ev.F (dF (by rw [ha.1]; omega)) (Ev.S trivial)
 ·cases r with
  | inl r=>exact Ev.S trivial
  | inr r=>exact Ev.S trivial
structure Ct (C:qH) (m:Nat):Prop where
 b:1≤m∧m≤3
 O:C.Order=(m:Int)
 F:C.First=4096
 L:C.Least=1024
 M:C.Most=16384
 W:C.Wide=16777216
theorem qeL {C:qH} {m:Nat} (hC:Ct C m) (q0:Int):∀ (N:Nat) (x:Int),0≤x→x≤(N:Int)→x≤16384→Ev (fun k j=>qZ.l4 k q0 C j 0 x) (fun l=>∀ y ∈ l,0≤y∧y≤x):=by
 intro N
 induction N with
 | zero =>
  intro x h0 h1 h2
  obtain rfl:x=0:=by omega
  refine Ev.N (fun k j=>by rw [qZ.l4]) ?_
  refine Ev.V (Ev.T rfl (Ev.B (Q:=fun l=>l=[]) ?_ fun r hr=>Ev.S (by subst hr; intro y hy; obtain rfl:=List.mem_singleton.1 hy; omega)))
  refine Ev.X (v:=(0,130)) (by unfold YP; rw [hC.L]; rfl) ?_
  refine Ev.N (fun k j=>by rw [qZ.l4]) ?_
  exact Ev.V (Ev.F (by decide) (Ev.T rfl (Ev.S rfl)))
 | succ N ih =>
  intro x h0 h1 h2
  refine Ev.N (fun k j=>by rw [qZ.l4]) ?_
  have e:qc (Int.tdiv x 2)=x / 2:=by rw [Int.tdiv_eq_ediv_of_nonneg h0,Zy (by omega) (by omega)]
  by_cases hs:x / 2<1024
  ·refine Ev.V (Ev.T rfl (Ev.B (Q:=fun l=>l=[]) ?_ fun r hr=>Ev.S (by subst hr; intro y hy; obtain rfl:=List.mem_singleton.1 hy; omega)))
   refine Ev.X (v:=(0,130)) (by unfold YP; rw [e,hC.L,if_pos (decide_eq_true hs)]) ?_
   refine Ev.N (fun k j=>by rw [qZ.l4]) ?_
   exact Ev.V (Ev.F (by decide) (Ev.T rfl (Ev.S rfl)))
  ·refine Ev.V (Ev.T rfl (Ev.B (Q:=fun l=>∀ y ∈ l,0≤y∧y≤x / 2) ?_ fun r hr=>Ev.S ?_))
   ·refine Ev.X (v:=(x / 2,0)) (by unfold YP; rw [e,hC.L,if_neg (dF hs)]) ?_
    exact ih (x / 2) (by omega) (by omega) (by omega)
   ·intro y hy
    rcases List.mem_cons.1 hy with rfl | hy
    ·omega
    ·have:=hr y hy; omega
def Adv (n:Nat) (T Last:Int) (r:Qc × Int × Int):Prop:=r.2.2=0→r.1.T=T∧(0≤r.1.H∧r.1.H≤Last - T)∧Bx n r.1.To∧(0≤r.2.1∧r.2.1≤16384)∧Bx n r.1.Tube∧Bx n r.1.Pre
theorem qf4 {c:QE} {n:Nat} (h:Wt c n) {C:qH} {m:Nat} (hC:Ct C m) {a:List qb} (ha:Bx n a) {T Last H:Int} (hT:-1073741824≤T∧T≤1073741824) (hL:T≤Last∧Last≤1073741824) (hH:0≤H∧H≤16384):Ev (fun k _=>QK k c a ⟨C,T,Last,H⟩) (Adv n T Last):=by
 have hm:=hC.b
 unfold QK
 have e1:qc (Last - T)=Last - T:=Zy (by omega) (by omega)
 have h3:=mnl H (Last - T)
 show Ev (fun k j=>(qZ k (mn H (qc (Last - T))) C).bind fun t5=>QK.l6 k c a ⟨C,T,Last,H⟩ t5) _
 rw [e1]
 refine Ev.B (Q:=fun l=>∀ y ∈ l,0≤y∧y≤mn H (Last - T)) ?_ fun l hl=>?_
 ·unfold qZ
  exact Ev.D (f:=fun k j=>qZ.l4 k (mn H (Last - T)) C j 0 (mn H (Last - T))) (qeL hC _ (mn H (Last - T)).toNat _ (by omega) (by omega) (by omega))
 ·induction l with
  | nil=>exact Ev.S fun hc=>by cases hc
  | cons x l ih =>
   have hx:=hl x (List.mem_cons_self ..)
   simp only [QK.l6]
   rw [hC.O]
   refine Ev.B (qfb h ha (T:=T) (H:=x) (by omega) (by omega)) fun r hr=>?_
   refine Ev.B (Q:=fun _=>True) (Ev.C (fun h2=>?_) fun _=>Ev.S trivial) fun w _=>Ev.C (fun _=>ih fun y hy=>hl y (List.mem_cons_of_mem _ hy)) fun h2=>?_
   ·have hr2:=hr (by simpa using h2)
    unfold Yx
    refine Ev.B (qcR h.pos.2 hr2.2.2.1 _) fun _ _=>Ev.B (Q:=fun _=>True) (Ev.C (fun _=>qcR h.pos.2 hr2.2.2.2.1 _) fun _=>Ev.S trivial) fun _ _=>Ev.S trivial
   ·have hr1:r.2=true:=by
     cases h5:r.2 with
     | true=>rfl
     | false=>exact absurd (by simp [h5]) h2
    have hr2:=hr hr1
    rw [e1]
    refine Ev.B (Q:=fun q:Int=>0≤q∧q≤16384) (Ev.C (fun _=>Ev.S hH) fun _=>Ev.S (by omega)) fun q hq=>?_
    refine Ev.X (v:=mn (qc (2 * q)) C.Most) rfl (Ev.S fun _=>⟨hr2.1,⟨by show 0≤r.1.H; omega,by show r.1.H≤_; omega⟩,hr2.2.2.1,?_,hr2.2.2.2.1,hr2.2.2.2.2⟩)
    have h4:=mnl (qc (2 * q)) C.Most
    rw [Zy (x:=2 * q) (by omega) (by omega)] at *
    rw [hC.M] at *
    show 0≤mn (2 * q) 16384∧mn (2 * q) 16384≤16384
    omega
end Go.Proofs.YtpmgpcklieincaaGreatDoor
set_option maxRecDepth 10000
set_option linter.unusedVariables false
set_option linter.unusedSimpArgs false
namespace Go.Proofs.YtpmgpcklieincaaGreatDoor
open Go Go.Sx
def NoT (c:QE):Prop:=∀ x ∈ c.L,x.Op≠3
theorem Wt.noT {c:QE} {n:Nat} (h:Wt c n):NoT c:=fun x hx=>by
 obtain ⟨i,hi⟩:=List.mem_iff_getElem?.1 hx
 exact h.not3 hi
theorem qfA {c:QE} (h:NoT c) (k:Nat) (b:List qb) (t u:qb):QP k c b t=QP k c b u:=by
 have key:∀ (j:Nat) (x:List qb) (i:Int),QP.l29 k c b t j x i=QP.l29 k c b u j x i:=by
  intro j
  induction j with
  | zero=>intro x i; rfl
  | succ j ih =>
   intro x i
   rw [QP.l29,QP.l29]
   simp only [ih]
   cases hg:c.L[i.toNat]? with
   | none=>rfl
   | some y =>
    have:=h y (List.mem_of_getElem? hg)
    simp only [Option.bind_some,if_neg this]
 have key2:∀ (s:List qb) (j:Nat) (x:List qb) (i:Int),QP.l14 k c b t s j x i=QP.l14 k c b u s j x i:=by
  intro s j
  induction j with
  | zero=>intro x i; rfl
  | succ j ih =>
   intro x i
   rw [QP.l14,QP.l14]
   simp only [ih]
 unfold QP
 simp only [key,key2]
theorem qcW {c:QE} (h:NoT c) (k:Nat) (a b:List qb) (T T' H:Int):Yb k c a b ⟨T,H⟩=Yb k c a b ⟨T',H⟩:=by
 have key:∀ t,Yb k c a b ⟨t,H⟩=(some (nw 0 H)).bind fun t3=>(some (nw t (qc (t+H)))).bind fun t5=>(QP k ⟨c.N,c.L,c.Out⟩ b t5).bind fun t6=>(Ql k a t6 t3).bind fun t8=>some t8:=by
  intro t
  unfold Yb
  dsimp only
  rw [Z1 t,Z1 0]
 rw [key T,key T']
 generalize nw T (qc (T+H))=u
 generalize nw T' (qc (T'+H))=v
 generalize nw 0 H=w
 rw [Option.bind_some,Option.bind_some,Option.bind_some,Option.bind_some,qfA (c:=⟨c.N,c.L,c.Out⟩) h k b u v]
theorem qff {c:QE} (h:NoT c) (k:Nat) (a:List qb) (T T' H:Int):qO k a c ⟨T,H⟩=qO k a c ⟨T',H⟩:=by
 have key:∀ (t2 t3:List qb) (j:Nat) (x:List qb) (i:Int),qO.l7 k a c ⟨T,H⟩ t2 t3 j x i=qO.l7 k a c ⟨T',H⟩ t2 t3 j x i:=by
  intro t2 t3 j
  induction j with
  | zero=>intro x i; rfl
  | succ j ih =>
   intro x i
   rw [qO.l7,qO.l7]
   simp only [ih,qcW (c:=⟨c.N,c.L,c.Out⟩) h k _ _ T T' H]
 unfold qO
 simp only [key,qcW (c:=⟨c.N,c.L,c.Out⟩) h k _ _ T T' H]
theorem qfC {c:QE} (h:NoT c) (k:Nat) (a:List qb) (T T' H:Int):Qy k c a ⟨T,H⟩=Qy k c a ⟨T',H⟩:=by
 have key:∀ l,Qy.l6 k c a ⟨T,H⟩ l=Qy.l6 k c a ⟨T',H⟩ l:=by
  intro l
  induction l with
  | nil=>rfl
  | cons x l ih=>simp only [Qy.l6,ih]; rfl
 unfold Qy
 simp only [key,qff (c:=⟨c.N,c.L,c.Out⟩) h k _ T T' H]
theorem qfB (k:Nat) {x:qh} (h:x.Op≠3) (rows:List (List qb)) (own:List qb) (t u:qb):Xv k x rows own t=Xv k x rows own u:=by
 have hb:(x.Op == 3)=false:=by simpa using h
 unfold Xv
 simp only [hb,Bool.false_and,if_neg (show ¬ false=true by decide)]
theorem qdX {c:QE} (h:NoT c) (k:Nat) (b:List qb) (t u:qb) (m:Int):Q7 k c b t m=Q7 k c b u m:=by
 have k50:∀ (j6 x11 x12:List (List qb)) (x13:Int) (j:Nat) (x:List (List qb)) (i:Int),qm.l50 k ⟨c.N,c.L,c.Out⟩ b t m j6 x11 x12 x13 j x i=qm.l50 k ⟨c.N,c.L,c.Out⟩ b u m j6 x11 x12 x13 j x i:=by
  intro j6 x11 x12 x13 j
  induction j with
  | zero=>intro x i; rfl
  | succ j ih =>
   intro x i
   rw [qm.l50,qm.l50]
   simp only [ih]
   cases hg:c.L[i.toNat]? with
   | none=>rfl
   | some y =>
    have:=h y (List.mem_of_getElem? hg)
    simp only [Option.bind_some,qfB k (x:=⟨y.Op,y.A,y.B,⟨y.C.Lo,y.C.Hi⟩⟩) this _ _ t u]
 have k26:∀ (j6 x11 x12:List (List qb)) (x13:Int) (j22:List (List qb)) (j:Nat) (x:List (List qb)) (i:Int),qm.l26 k ⟨c.N,c.L,c.Out⟩ b t m j6 x11 x12 x13 j22 j x i=qm.l26 k ⟨c.N,c.L,c.Out⟩ b u m j6 x11 x12 x13 j22 j x i:=by
  intro j6 x11 x12 x13 j22 j
  induction j with
  | zero=>intro x i; rfl
  | succ j ih =>
   intro x i
   rw [qm.l26,qm.l26]
   simp only [ih]
 have k14:∀ (j6:List (List qb)) (j:Nat) (x y:List (List qb)) (i:Int),qm.l14 k ⟨c.N,c.L,c.Out⟩ b t m j6 j x y i=qm.l14 k ⟨c.N,c.L,c.Out⟩ b u m j6 j x y i:=by
  intro j6 j
  induction j with
  | zero=>intro x y i; rfl
  | succ j ih =>
   intro x y i
   rw [qm.l14,qm.l14]
   simp only [ih,k50,k26]
 have k88:∀ (j:Nat) (x:List (List qb)) (i:Int),qm.l88 k ⟨c.N,c.L,c.Out⟩ b t m j x i=qm.l88 k ⟨c.N,c.L,c.Out⟩ b u m j x i:=by
  intro j
  induction j with
  | zero=>intro x i; rfl
  | succ j ih =>
   intro x i
   rw [qm.l88,qm.l88]
   simp only [ih]
 unfold Q7 qm
 simp only [k88,k14]
theorem qgl {c:QE} (h:NoT c) (k:Nat) (b:List qb) (T T' H m:Int):Yj k c b ⟨T,H⟩ m=Yj k c b ⟨T',H⟩ m:=by
 unfold Yj
 simp only [qdX (c:=⟨c.N,c.L,c.Out⟩) h k b ⟨T,qc (T+H)⟩ ⟨T',qc (T'+H)⟩]
theorem qeF {c:QE} (h:NoT c) (k:Nat) (a b:List qb) (T T' H:Int) (p:qb) (m:Int):XU k c a b ⟨T,H,p,m⟩=XU k c a b ⟨T',H,p,m⟩:=by
 unfold XU Yz
 simp only [Z1,Option.bind_some,qgl (c:=⟨c.N,c.L,c.Out⟩) h k b T T' H,qdX (c:=⟨c.N,c.L,c.Out⟩) h k a (nw T T) (nw T' T')]
def reT (T:Int) (s:Qc):Qc:=⟨T,s.H,s.From,s.Pre,s.Tube,s.To⟩
theorem qfJ {c:QE} (h:NoT c) (k:Nat) (a:List qb) (T T' H m:Int):XB k c a ⟨T',H⟩ m=(XB k c a ⟨T,H⟩ m).map fun r=>(if r.2=true then reT T' r.1 else r.1,r.2):=by
 unfold XB
 dsimp only
 rw [qfC (c:=⟨c.N,c.L,c.Out⟩) h k a T' T H]
 cases Qy k ⟨c.N,c.L,c.Out⟩ a ⟨T,H⟩ with
 | none=>rfl
 | some e =>
  simp only [Option.bind_some]
  split
  ·rfl
  ·have e1:∀ p,Qb k p H c a e.1 ⟨T',H⟩ m=Qb k p H c a e.1 ⟨T,H⟩ m:=fun p=>by
    unfold Qb
    rw [show (⟨c.N,c.L,c.Out⟩:QE)=c from rfl,qeF h k a e.1 T' T H]
   show ((Qb k 0 H c a e.1 ⟨T',H⟩ m).bind fun t8=>(Qb k H H c a e.1 ⟨T',H⟩ m).bind fun t9=>(Y2 k ⟨T',H,a,e.1,t8,t9⟩).bind _)=Option.map _ ((Qb k 0 H c a e.1 ⟨T,H⟩ m).bind fun t8=>(Qb k H H c a e.1 ⟨T,H⟩ m).bind fun t9=>(Y2 k ⟨T,H,a,e.1,t8,t9⟩).bind _)
   rw [e1 0,e1 H]
   cases Qb k 0 H c a e.1 ⟨T,H⟩ m with
   | none=>rfl
   | some u =>
    simp only [Option.bind_some]
    cases Qb k H H c a e.1 ⟨T,H⟩ m with
    | none=>rfl
    | some v =>
     simp only [Option.bind_some]
     unfold Y2
     dsimp only
     cases Q1 k u with
     | none=>rfl
     | some x =>
      simp only [Option.bind_some]
      generalize (if (x == false)=true then Q1 k v else some default)=y
      cases y with
      | none=>rfl
      | some y =>
       simp only [Option.bind_some]
       by_cases hxy:(x || y)=true
       ·rw [if_pos hxy,if_pos hxy]; rfl
       ·rw [if_neg hxy,if_neg hxy]; rfl
theorem qgo {c:QE} (h:NoT c) (k:Nat) (a:List qb) (C:qH) (T T' L L' H:Int) (hl:L' - T'=L - T):QK k c a ⟨C,T',L',H⟩=(QK k c a ⟨C,T,L,H⟩).map fun r=>(if r.2.2=0 then reT T' r.1 else r.1,r.2):=by
 unfold QK
 dsimp only
 rw [hl]
 cases qZ k (mn H (qc (L - T))) ⟨C.Order,C.First,C.Least,C.Most,C.Wide⟩ with
 | none=>rfl
 | some l =>
  simp only [Option.bind_some]
  induction l with
  | nil=>rfl
  | cons x l ih =>
   simp only [QK.l6]
   rw [show (⟨c.N,c.L,c.Out⟩:QE)=c from rfl,qfJ h k a T T' x C.Order]
   cases XB k c a ⟨T,x⟩ C.Order with
   | none=>rfl
   | some r =>
    simp only [Option.map_some,Option.bind_some]
    obtain ⟨s,b⟩:=r
    cases b with
    | false =>
     simp only [Bool.not_false,Bool.true_or,if_pos]
     exact congrArg _ rfl |>.trans ih
    | true =>
     have e1:∀ q:Qc,Yx k ⟨C.Order,C.First,C.Least,C.Most,C.Wide⟩ ⟨(reT T' s).T,(reT T' s).H,(reT T' s).From,(reT T' s).Pre,(reT T' s).Tube,(reT T' s).To⟩=Yx k ⟨C.Order,C.First,C.Least,C.Most,C.Wide⟩ ⟨s.T,s.H,s.From,s.Pre,s.Tube,s.To⟩:=fun _=>rfl
     simp only [if_true,e1 s]
     generalize (if ((!true) == false)=true then Yx k ⟨C.Order,C.First,C.Least,C.Most,C.Wide⟩ ⟨s.T,s.H,s.From,s.Pre,s.Tube,s.To⟩ else some default)=y
     cases y with
     | none=>rfl
     | some y =>
      simp only [Option.bind_some]
      by_cases hy:(!true || !y)=true
      ·rw [if_pos hy,if_pos hy]; exact ih
      ·rw [if_neg hy,if_neg hy,hl]
       generalize (if (x == mn H (qc (L - T)))=true then some H else some x)=z
       cases z with
       | none=>rfl
       | some z=>rfl
end Go.Proofs.YtpmgpcklieincaaGreatDoor
set_option maxRecDepth 10000
set_option linter.unusedVariables false
set_option linter.unusedSimpArgs false
namespace Go.Proofs.YtpmgpcklieincaaGreatDoor
open Go Go.Sx
def qdc (n:Int) (S:List Ex) (e:Ex) (ts:List Ex) (K:Nat) (f:Nat→Option (Int × List qh × List (qh × Int))):Prop :=
 ∃ j l' m' us,(∀ k,K<k→f k=some (j,l',m'))∧Bd n S l' m' (ts++us)∧At (ts++us) j e
theorem qeo {n:Int} {S:List Ex} (hS:S.length<1000000) (hc:Cl S):∀ (e:Ex),e.ok n→e ∈ S→e.code.length<1000 → ∀ {l:List qh} {m:List (qh × Int)} {ts:List Ex},Bd n S l m ts→qdc n S e ts (2000+e.dep) (fun k=>qz k e.code l m):=by
 have leaf:∀ (e:Ex) (x:qu),e.code=[x]→e.subs=[]→e.ok n→e ∈ S → ∀ {l:List qh} {m:List (qh × Int)} {ts:List Ex},Bd n S l m ts→WQ n ts ⟨x.Op,(if x.Op == 2 then x.N else 0),0,x.C⟩ e→qdc n S e ts 2000 (fun k=>qz.body k (qz k) e.code l m):=by
  intro e x hx hs he hm l m ts hb hi
  obtain ⟨j,l',m',us,h1,h2,h3⟩:=hb.emit hS hi hm
  refine ⟨j,l',m',us,fun k hk=>?_,h2,h3⟩
  show qz.body k (qz k) e.code l m=_
  rw [qbq he (by rw [hx]; show 1<1000; decide) hk hx (by rw [hs]; exact qdH (by omega) l _ 0 m)]
  exact h1
 have un:∀ (e c:Ex) (op:Int),e.code=⟨op,0,Z0⟩ :: c.code→e.subs=[c]→(op == 2)=false→(∀ (ts:List Ex) (a:Int),At ts a c→WQ n ts ⟨op,a,0,Z0⟩ e)→e.ok n→e ∈ S→e.code.length<1000→(∀ {l:List qh} {m:List (qh × Int)} {ts:List Ex},Bd n S l m ts→qdc n S c ts (2000+c.dep) (fun k=>qz k c.code l m)) → ∀ {l:List qh} {m:List (qh × Int)} {ts:List Ex},Bd n S l m ts→qdc n S e ts (2000+c.dep) (fun k=>qz.body k (qz k) e.code l m):=by
  intro e c op hx hs ho hi he hm hl ih l m ts hb
  obtain ⟨a,l1,m1,us,h1,h2,h3⟩:=ih hb
  obtain ⟨j,l',m',vs,h4,h5,h6⟩:=h2.emit hS (hi _ a h3) hm
  refine ⟨j,l',m',us++vs,fun k hk=>?_,by rw [← List.append_assoc]; exact h5,by rw [← List.append_assoc]; exact h6⟩
  show qz.body k (qz k) e.code l m=_
  rw [qbq he hl (by omega) hx (by rw [hs]; exact qeT (by omega) c.code l _ 0 m (h1 k hk))]
  exact h4
 have up:∀ {e:Ex} {ts:List Ex} {l:List qh} {m:List (qh × Int)} {K:Nat},K+1≤2000+e.dep→qdc n S e ts K (fun k=>qz.body k (qz k) e.code l m)→qdc n S e ts (2000+e.dep) (fun k=>qz k e.code l m):=by
  intro e ts l m K hK h
  obtain ⟨j,l',m',us,h1,h2,h3⟩:=h
  refine ⟨j,l',m',us,fun k hk=>?_,h2,h3⟩
  obtain ⟨k,rfl⟩:∃ q,k=q+1:=⟨k - 1,by omega⟩
  exact h1 k (by omega)
 intro e
 induction e with
 | num c=>exact fun he hm hl l m ts hb=>up (by simp only [Ex.dep]; omega) (leaf (.num c) ⟨1,0,c⟩ rfl rfl he hm hb (.num c he))
 | var c=>exact fun he hm hl l m ts hb=>up (by simp only [Ex.dep]; omega) (leaf (.var c) ⟨2,c,Z0⟩ rfl rfl he hm hb (.var c he))
 | time=>exact fun he hm hl l m ts hb=>up (by simp only [Ex.dep]; omega) (leaf .time ⟨3,0,Z0⟩ rfl rfl he hm hb .time)
 | neg c ih =>
  intro he hm hl l m ts hb
  have hl':c.code.length<1000:=by simp only [Ex.code,List.length_cons] at hl; omega
  exact up (by simp only [Ex.dep]; omega) (un (.neg c) c 4 rfl rfl rfl (fun ts a h=>.neg a c h) he hm hl (fun hb=>ih he (hc _ hm c (by simp [Ex.subs])) hl' hb) hb)
 | sqr c ih =>
  intro he hm hl l m ts hb
  have hl':c.code.length<1000:=by simp only [Ex.code,List.length_cons] at hl; omega
  exact up (by simp only [Ex.dep]; omega) (un (.sqr c) c 5 rfl rfl rfl (fun ts a h=>.sqr a c h) he hm hl (fun hb=>ih he (hc _ hm c (by simp [Ex.subs])) hl' hb) hb)
 | sqrt c ih =>
  intro he hm hl l m ts hb
  have hl':c.code.length<1000:=by simp only [Ex.code,List.length_cons] at hl; omega
  exact up (by simp only [Ex.dep]; omega) (un (.sqrt c) c 6 rfl rfl rfl (fun ts a h=>.sqrt a c h) he hm hl (fun hb=>ih he (hc _ hm c (by simp [Ex.subs])) hl' hb) hb)
 | bin op c d ihc ihd =>
  intro he hm hl l m ts hb
  have hlc:c.code.length<1000:=by simp only [Ex.code,List.length_cons,List.length_append] at hl; omega
  have hld:d.code.length<1000:=by simp only [Ex.code,List.length_cons,List.length_append] at hl; omega
  obtain ⟨a,l1,m1,us,h1,h2,h3⟩:=ihc he.2.1 (hc _ hm c (by simp [Ex.subs])) hlc hb
  obtain ⟨b,l2,m2,vs,h4,h5,h6⟩:=ihd he.2.2 (hc _ hm d (by simp [Ex.subs])) hld h2
  obtain ⟨j,l',m',ws,h7,h8,h9⟩:=h5.emit hS (.bin op a b c d he.1 (h3.mono vs) h6) hm
  refine ⟨j,l',m',us++(vs++ws),fun k hk=>?_,by simpa using h8,by simpa using h9⟩
  obtain ⟨k,rfl⟩:∃ q,k=q+1:=⟨k - 1,by omega⟩
  simp only [Ex.dep] at hk
  show qz.body k (qz k) (Ex.bin op c d).code l m=_
  have ho:((⟨op,0,Z0⟩:qu).Op == 2)=false:=by have:=he.1; simp; omega
  rw [qbq (e:=.bin op c d) he hl (by omega) rfl (qfg (by omega) c.code d.code l _ 0 m (h1 k (by omega)) (h4 k (by omega)))]
  exact h7
theorem qbJ {n:Int} {S:List Ex} (hS:S.length<1000000) (hc:Cl S) (s:YF) {es:List Ex} (hF:s.F=es.map Ex.code) (hel:es.length<1000) (hes:∀ e ∈ es,e.ok n∧e ∈ S∧e.code.length<1000∧e.dep≤1000) :
  ∀ (r p:List Ex) (o:List Int) {l:List qh} {m:List (qh × Int)} {ts:List Ex},es=p++r→Bd n S l m ts→qcr ts o p → ∃ l' o' m' ts',(∀ k0 k,4000<k0→r.length<k→Xk.l20 k0 s k l o m (p.length:Int)=some (l',o',m'))∧Bd n S l' m' ts'∧qcr ts' o' es
 | [],p,o,l,m,ts,hp,hb,ho=>by
  rw [List.append_nil] at hp
  subst hp
  refine ⟨l,o,m,ts,fun k0 k hk0 hk=>?_,hb,ho⟩
  obtain ⟨k,rfl⟩:∃ q,k=q+1:=⟨k - 1,by omega⟩
  rw [Xk.l20,if_neg (by rw [hF]; simp)]
 | e :: r,p,o,l,m,ts,hp,hb,ho=>by
  have hpl:p.length+(r.length+1)=es.length:=by rw [hp]; simp
  have hFl:s.F.length=es.length:=by rw [hF]; simp
  have hin:0≤(p.length:Int)∧(p.length:Int)<(s.F.length:Int):=by omega
  have hg:s.F[((p.length:Int)).toNat]? = some e.code:=by rw [hF,Int.toNat_natCast,List.getElem?_map,hp,List.getElem?_append_right (Nat.le_refl _),Nat.sub_self]; rfl
  obtain ⟨h1,h2,h3,h4⟩:=hes e (by rw [hp]; simp)
  obtain ⟨j,l',m',us,g1,g2,g3⟩:=qeo hS hc e h1 h2 h3 hb
  have hol:=ho.len
  obtain ⟨l'',o'',m'',ts'',f1,f2,f3⟩:=qbJ hS hc s hF hel hes r (p++[e]) (o++[j]) (by rw [hp]; simp) g2 ((qcr.mono ho).app g3)
  refine ⟨l'',o'',m'',ts'',fun k0 k hk0 hk=>?_,f2,f3⟩
  obtain ⟨k,rfl⟩:∃ q,k=q+1:=⟨k - 1,by omega⟩
  simp only [List.length_cons] at hk
  rw [Xk.l20,if_pos (by simpa using hin.2),if_pos hin,hg,Option.bind_some,show qz k0 e.code l m=some (j,l',m') from g1 k0 (by omega),Option.bind_some,if_pos (by omega),wk (by omega) (by omega)]
  have:=f1 k0 k hk0 (by omega)
  rw [List.length_append] at this
  exact this
def Ex.ut:Ex→Ex
 | .time=>.var 0
 | .neg e=>.neg e.ut
 | .sqr e=>.sqr e.ut
 | .sqrt e=>.sqrt e.ut
 | .bin op a b=>.bin op a.ut b.ut
 | .num c=>.num c
 | .var n=>.var n
def utn (x:qu):qu:=if x.Op=3 then ⟨2,0,⟨0,0⟩⟩ else x
theorem Ex.ut_code {n:Int}:∀ (e:Ex),e.ok n→e.code.map utn=e.ut.code
 | .num _,_=>rfl
 | .var _,_=>rfl
 | .time,_=>rfl
 | .neg e,h=>by simp only [Ex.code,Ex.ut,List.map_cons,Ex.ut_code e h]; rfl
 | .sqr e,h=>by simp only [Ex.code,Ex.ut,List.map_cons,Ex.ut_code e h]; rfl
 | .sqrt e,h=>by simp only [Ex.code,Ex.ut,List.map_cons,Ex.ut_code e h]; rfl
 | .bin op a b,h=>by
  have:utn ⟨op,0,Z0⟩=⟨op,0,Z0⟩:=by unfold utn; rw [if_neg (by have:=h.1; show op≠3; omega)]
  simp only [Ex.code,Ex.ut,List.map_cons,List.map_append,Ex.ut_code a h.2.1,Ex.ut_code b h.2.2,this]
theorem Ex.ut_ok {n:Int} (hn:0<n):∀ (e:Ex),e.ok n→e.ut.ok n
 | .num _,h=>h
 | .var _,h=>h
 | .time,_=>⟨by omega,hn⟩
 | .neg e,h=>Ex.ut_ok hn e h
 | .sqr e,h=>Ex.ut_ok hn e h
 | .sqrt e,h=>Ex.ut_ok hn e h
 | .bin op a b,h=>⟨h.1,Ex.ut_ok hn a h.2.1,Ex.ut_ok hn b h.2.2⟩
theorem Ex.ut_dep:∀ (e:Ex),e.ut.dep=e.dep
 | .num _=>rfl
 | .var _=>rfl
 | .time=>rfl
 | .neg e=>by simp only [Ex.ut,Ex.dep,Ex.ut_dep e]
 | .sqr e=>by simp only [Ex.ut,Ex.dep,Ex.ut_dep e]
 | .sqrt e=>by simp only [Ex.ut,Ex.dep,Ex.ut_dep e]
 | .bin op a b=>by simp only [Ex.ut,Ex.dep,Ex.ut_dep a,Ex.ut_dep b]
def Ex.all:Ex→List Ex
 | .neg e=>.neg e :: e.all
 | .sqr e=>.sqr e :: e.all
 | .sqrt e=>.sqrt e :: e.all
 | .bin op a b=>.bin op a b :: (a.all++b.all)
 | .num c=>[.num c]
 | .var n=>[.var n]
 | .time=>[.time]
theorem Ex.all_self (e:Ex):e ∈ e.all:=by cases e <;> simp [Ex.all]
theorem Ex.all_len:∀ (e:Ex),e.all.length=e.code.length
 | .num _ | .var _ | .time=>rfl
 | .neg e | .sqr e | .sqrt e=>by simp only [Ex.all,Ex.code,List.length_cons,Ex.all_len e]
 | .bin op a b=>by simp only [Ex.all,Ex.code,List.length_cons,List.length_append,Ex.all_len a,Ex.all_len b]
theorem Ex.all_cl:∀ (e:Ex),Cl e.all
 | .num _=>fun x hx s hs=>by obtain rfl:=List.mem_singleton.1 hx; cases hs
 | .var _=>fun x hx s hs=>by obtain rfl:=List.mem_singleton.1 hx; cases hs
 | .time=>fun x hx s hs=>by obtain rfl:=List.mem_singleton.1 hx; cases hs
 | .neg e=>fun x hx s hs=>by
  rcases List.mem_cons.1 hx with rfl | hx
  ·obtain rfl:=List.mem_singleton.1 hs; exact List.mem_cons_of_mem _ (Ex.all_self _)
  ·exact List.mem_cons_of_mem _ (Ex.all_cl e x hx s hs)
 | .sqr e=>fun x hx s hs=>by
  rcases List.mem_cons.1 hx with rfl | hx
  ·obtain rfl:=List.mem_singleton.1 hs; exact List.mem_cons_of_mem _ (Ex.all_self _)
  ·exact List.mem_cons_of_mem _ (Ex.all_cl e x hx s hs)
 | .sqrt e=>fun x hx s hs=>by
  rcases List.mem_cons.1 hx with rfl | hx
  ·obtain rfl:=List.mem_singleton.1 hs; exact List.mem_cons_of_mem _ (Ex.all_self _)
  ·exact List.mem_cons_of_mem _ (Ex.all_cl e x hx s hs)
 | .bin op a b=>fun x hx s hs=>by
  rcases List.mem_cons.1 hx with rfl | hx
  ·have:s=a∨s=b:=by simpa [Ex.subs] using hs
   rcases this with rfl | rfl
   ·exact List.mem_cons_of_mem _ (List.mem_append_left _ (Ex.all_self _))
   ·exact List.mem_cons_of_mem _ (List.mem_append_right _ (Ex.all_self _))
  ·rcases List.mem_append.1 hx with hx | hx
   ·exact List.mem_cons_of_mem _ (List.mem_append_left _ (Ex.all_cl a x hx s hs))
   ·exact List.mem_cons_of_mem _ (List.mem_append_right _ (Ex.all_cl b x hx s hs))
theorem Ex.all_nt:∀ (e:Ex),Ex.time ∉ e.ut.all
 | .num _ | .var _ | .time=>by simp [Ex.ut,Ex.all]
 | .neg e | .sqr e | .sqrt e=>by have:=Ex.all_nt e; simp [Ex.ut,Ex.all,this]
 | .bin op a b=>by have h1:=Ex.all_nt a; have h2:=Ex.all_nt b; simp [Ex.ut,Ex.all,h1,h2]
theorem Zr:∀ (es:List Ex),(∀ e ∈ es,e.code.length<100)→(es.flatMap Ex.all).length≤100 * es.length
 | [],_=>by simp
 | e :: es,h=>by
  have h1:=Zr es fun x hx=>h x (List.mem_cons_of_mem _ hx)
  have h2:=h e (List.mem_cons_self ..)
  simp only [List.flatMap_cons,List.length_append,List.length_cons,Ex.all_len]
  omega
theorem qeP {n:Nat} (hn:1≤n∧n≤3) (s:YF) {es:List Ex} (hF:s.F=(es.map Ex.ut).map Ex.code) (hl:es.length=n) (hes:∀ e ∈ es,e.ok (n:Int)∧e.code.length<100∧e.dep≤100):Ev (fun k _=>Xk k s) (fun c=>Wt c n):=by
 have hcl:∀ e ∈ es,e.ut.code.length<100:=fun e he=>by
  rw [← Ex.ut_code e (hes e he).1,List.length_map]; exact (hes e he).2.1
 let S:=(es.map Ex.ut).flatMap Ex.all
 have hS:S.length≤300:=by
  have:=Zr (es.map Ex.ut) fun x hx=>by
   obtain ⟨e,he,rfl⟩:=List.mem_map.1 hx
   exact hcl e he
  rw [List.length_map,hl] at this
  show ((es.map Ex.ut).flatMap Ex.all).length≤300
  omega
 have hC:Cl S:=fun x hx t ht=>by
  obtain ⟨e,he,hx⟩:=List.mem_flatMap.1 hx
  exact List.mem_flatMap.2 ⟨e,he,Ex.all_cl e x hx t ht⟩
 have hT:Ex.time ∉ S:=fun hx=>by
  obtain ⟨e,he,hx⟩:=List.mem_flatMap.1 hx
  obtain ⟨e,_,rfl⟩:=List.mem_map.1 he
  exact Ex.all_nt e hx
 have hml:(es.map Ex.ut).length=n:=by rw [List.length_map,hl]
 obtain ⟨l,o,m,ts,h1,h2,h3⟩:=qbJ (n:=(n:Int)) (S:=S) (by omega) hC s hF (by omega) (fun x hx=>by
  obtain ⟨e,he,rfl⟩:=List.mem_map.1 hx
  have h:=hes e he
  exact ⟨Ex.ut_ok (by omega) e h.1,List.mem_flatMap.2 ⟨_,hx,Ex.all_self _⟩,by have:=hcl e he; omega,by rw [Ex.ut_dep]; omega⟩) (es.map Ex.ut) [] [] rfl (Bd.nil _ S) .nil
 have hll:=h2.len
 have hFl:s.F.length=n:=by rw [hF,List.length_map,hml]
 refine Ev.L (r:=⟨(s.F.length:Int),l,o⟩) 5000 ?_ fun k j hk=>?_
 ·refine ⟨hn,by rw [hFl],by show o.length=n; rw [h3.len,hml],by show l.length≤400; omega,?_,?_⟩
  ·show ∀ a ∈ o,0≤a∧a<(l.length:Int)
   have:∀ {o:List Int} {q:List Ex},qcr ts o q → ∀ a ∈ o,0≤a∧a<(l.length:Int):=by
    intro o q h
    induction h with
    | nil=>intro a ha; cases ha
    | cons g t ih =>
     intro a ha
     rcases List.mem_cons.1 ha with rfl | ha
     ·have:=At.lt g; have:=g.1; have:=h2.tp.len; omega
     ·exact ih a ha
   exact this h3
  ·show ∀ (i:Nat) (x:qh),l[i]? = some x→Fit n i x
   intro i x hx
   obtain ⟨e,g1,g2⟩:=h2.tp.get hx
   have hin:e ∈ S:=h2.sub e (List.mem_of_getElem? g1)
   have lt:∀ {a:Int} {u:Ex},At (ts.take i) a u→0≤a∧a<(i:Int):=fun {a u} g=>by
    have:=At.lt g; have:=g.1
    rw [List.length_take] at *
    omega
   unfold Fit
   cases g2 with
   | num c h=>exact .inl ⟨rfl,h⟩
   | var k h=>exact .inr (.inl ⟨rfl,h⟩)
   | time=>exact absurd hin hT
   | neg a e h=>exact .inr (.inr (.inl ⟨⟨by show (4:Int)≤4; decide,by show (4:Int)≤6; decide⟩,lt h⟩))
   | sqr a e h=>exact .inr (.inr (.inl ⟨⟨by show (4:Int)≤5; decide,by show (5:Int)≤6; decide⟩,lt h⟩))
   | sqrt a e h=>exact .inr (.inr (.inl ⟨⟨by show (4:Int)≤6; decide,by show (6:Int)≤6; decide⟩,lt h⟩))
   | bin op a b u v ho h h'=>exact .inr (.inr (.inr ⟨ho,lt h,lt h'⟩))
 ·show Xk k s=_
  have:=h1 k k (by omega) (by omega)
  unfold Xk
  refine bT this ?_
  exact iF (by simp only [decide_eq_true_eq]; show ¬ ((l.length:Int) > 400); omega) rfl
end Go.Proofs.YtpmgpcklieincaaGreatDoor
set_option maxRecDepth 100000
namespace Go.Proofs.YtpmgpcklieincaaGreatDoor
open Go Go.Sx
theorem qde (n:Nat):XV (n+1000)=some true:=by kernel_rfl
end Go.Proofs.YtpmgpcklieincaaGreatDoor
