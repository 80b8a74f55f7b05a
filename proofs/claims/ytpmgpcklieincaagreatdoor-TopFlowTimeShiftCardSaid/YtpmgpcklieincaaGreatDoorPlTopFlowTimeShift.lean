/- The flow in lockstep with the flow shifted; the law. Own work. -/
import Derived.Test.YtpmgpcklieincaaGreatDoorPlAll2
import Derived.Test.YtpmgpcklieincaaGreatDoorPlHA
set_option maxRecDepth 10000
set_option linter.unusedVariables false
set_option linter.unusedSimpArgs false
namespace Go.Proofs.YtpmgpcklieincaaGreatDoor
open Go Go.Sx
def qgm {α:Type} (f g:Nat→Nat→Option α) (R:α→α→Prop):Prop:=∃ r s,R r s ∧ ∃ K,∀ k j,K≤k→K≤j→f k j=some r∧g k j=some s
def shf (d:Int) (s:Qc):Qc:=reT (s.T+d) s
def Sn (n:Nat) (s:Qc):Prop:=Bx n s.To∧Bx n s.Tube∧Bx n s.Pre
def Rl (n:Nat) (d:Int) (r s:(List Qc × Int) ⊕ List Qc):Prop :=
 (∃ e,r = .inl ([],e)∧s = .inl ([],e))∨(∃ l,r = .inr l∧s = .inr (l.map (shf d))∧l.length≤256 ∧ ∀ x ∈ l,Sn n x)
theorem qdw {c:QE} {n:Nat} (h:Wt c n) {C:qH} {m:Nat} (hC:Ct C m) (a:List qb) {Last d:Int} (hd:-16777216≤d∧d≤16777216) (hL:Last≤16777216) (t3 t4 t5:Bool) (t9:Int) :
  ∀ (N:Nat) (T H:Int) (x:List qb) (l:List Qc),l.length+N=257→l.length≤256→(0≤T∧T≤Last)→(0≤H∧H≤16384)→Bx n x→(∀ s ∈ l,Sn n s) →
   qgm (fun k j=>qY.l17 k c a ⟨C,0,Last⟩ t3 t4 t5 t9 j T H x l) (fun k j=>qY.l17 k c a ⟨C,d,d+Last⟩ t3 t4 t5 t9 j (T+d) H x (l.map (shf d))) (Rl n d):=by
 intro N
 induction N with
 | zero=>intro T H x l h1 h2; omega
 | succ N ih =>
  intro T H x l h1 h2 hT hH hx hl
  by_cases hlt:T<Last
  ·obtain ⟨r,hr,K,hK⟩:=qf4 h hC hx (T:=T) (Last:=Last) (H:=H) (by omega) (by omega) hH
   have hK':∀ k,K≤k→QK k ⟨c.N,c.L,c.Out⟩ x ⟨⟨C.Order,C.First,C.Least,C.Most,C.Wide⟩,T,Last,H⟩=some r:=fun k hk=>hK k k hk hk
   have hS:∀ k,K≤k→QK k ⟨c.N,c.L,c.Out⟩ x ⟨⟨C.Order,C.First,C.Least,C.Most,C.Wide⟩,T+d,d+Last,H⟩=some (if r.2.2=0 then reT (T+d) r.1 else r.1,r.2):=fun k hk=>by
    have:=qgo h.noT k x C T (T+d) Last (d+Last) H (by omega)
    rw [show QK k c x ⟨C,T,Last,H⟩=some r from hK' k hk,Option.map_some] at this
    exact this
   by_cases hc:r.2.2=0
   ·rw [if_pos hc] at hS
    obtain ⟨g1,g2,g3,g4,g5,g6⟩:=hr hc
    by_cases h256:l.length=256
    ·refine ⟨.inl ([],140),.inl ([],140),.inl ⟨140,rfl,rfl⟩,K+1,fun k j hk hj=>?_⟩
     obtain ⟨j,rfl⟩:∃ i,j=i+1:=⟨j - 1,by omega⟩
     constructor
     ·dsimp only
      rw [qY.l17]
      exact iT (dT hlt) (bT (hK' k (by omega)) (iF (by simp [hc]) (iT (by simp [h256]) rfl)))
     ·dsimp only
      rw [qY.l17]
      exact iT (dT (show T+d<d+Last by omega)) (bT (hS k (by omega)) (iF (by simp [hc]) (iT (by simp [h256]) rfl)))
    ·have hw:qc (r.1.T+r.1.H)=T+r.1.H:=by rw [g1,Zy (by omega) (by omega)]
     have hw2:qc (T+d+r.1.H)=T+r.1.H+d:=by rw [Zy (by omega) (by omega)]; omega
     have hsh:reT (T+d) r.1=shf d r.1:=by unfold shf; rw [g1]
     obtain ⟨p,q,hR,M,hM⟩:=ih (T+r.1.H) r.2.1 r.1.To (l++[r.1]) (by simp only [List.length_append,List.length_cons,List.length_nil]; omega) (by simp only [List.length_append,List.length_cons,List.length_nil]; omega) (by omega) g4 g3 (fun s hs=>by
      rcases List.mem_append.1 hs with hs | hs
      ·exact hl s hs
      ·obtain rfl:=List.mem_singleton.1 hs
       exact ⟨g3,g5,g6⟩)
     refine ⟨p,q,hR,K+M+1,fun k j hk hj=>?_⟩
     obtain ⟨j,rfl⟩:∃ i,j=i+1:=⟨j - 1,by omega⟩
     obtain ⟨m1,m2⟩:=hM k j (by omega) (by omega)
     constructor
     ·dsimp only
      rw [qY.l17]
      refine iT (dT hlt) (bT (hK' k (by omega)) (iF (by simp [hc]) (iF (by simp; omega) (iT (by omega) ?_))))
      rw [hw]
      exact m1
     ·dsimp only
      rw [qY.l17]
      refine iT (dT (show T+d<d+Last by omega)) (bT (hS k (by omega)) (iF (by simp [hc]) (iF (by simp; omega) (iT (by rw [List.length_map]; omega) ?_))))
      dsimp only at m2 ⊢
      rw [List.map_append] at m2
      rw [show qc ((reT (T+d) r.1).T+(reT (T+d) r.1).H)=T+r.1.H+d from hw2]
      rw [← m2]
      rw [show List.map (shf d) [r.1]=[reT (T+d) r.1] by rw [hsh]; rfl]
      rfl
   ·rw [if_neg hc] at hS
    refine ⟨.inl ([],r.2.2),.inl ([],r.2.2),.inl ⟨_,rfl,rfl⟩,K+1,fun k j hk hj=>?_⟩
    obtain ⟨j,rfl⟩:∃ i,j=i+1:=⟨j - 1,by omega⟩
    constructor
    ·dsimp only
     rw [qY.l17]
     exact iT (dT hlt) (bT (hK' k (by omega)) (iT (by simp [hc]) rfl))
    ·dsimp only
     rw [qY.l17]
     exact iT (dT (show T+d<d+Last by omega)) (bT (hS k (by omega)) (iT (by simp [hc]) rfl))
  ·refine ⟨.inr l,.inr (l.map (shf d)),.inr ⟨l,rfl,rfl,h2,hl⟩,1,fun k j hk hj=>?_⟩
   obtain ⟨j,rfl⟩:∃ i,j=i+1:=⟨j - 1,by omega⟩
   constructor
   ·dsimp only
    rw [qY.l17]
    exact iF (dF hlt) rfl
   ·dsimp only
    rw [qY.l17]
    exact iF (dF (show ¬ T+d<d+Last by omega)) rfl
theorem qfE {C:qH} {m:Nat} (hC:Ct C m):Zd C=some true:=by
 have hb:=hC.b
 unfold Zd
 rw [hC.O,hC.F,hC.L,hC.M,hC.W]
 have:m=1∨m=2∨m=3:=by omega
 rcases this with rfl | rfl | rfl <;> rfl
def Rf (n:Nat) (d:Int) (r s:List Qc × Int):Prop:=s=(r.1.map (shf d),r.2)∧r.1.length≤256 ∧ ∀ x ∈ r.1,Sn n x
theorem WO {c:QE} {C:qH} {m:Nat} (hC:Ct C m) (a:List qb) {T Last:Int} (hT:-16777216≤T∧T≤16777216) (hL:T+4096≤Last∧Last≤33554432) (k:Nat) :
  qY k c a ⟨C,T,Last⟩=(qY.l17 k c a ⟨C,T,Last⟩ true true true 4096 k T 4096 a []).bind fun j11=>match j11 with
   | .inl r=>some r
   | .inr v=>some (v,0):=by
 have e0:qc (Last - T)=Last - T:=Zy (by omega) (by omega)
 have hin:mn C.First (qc (Last - T))=4096:=by rw [hC.F,e0]; unfold mn; rw [if_neg (by omega)]
 have v1:YM T=some true:=by rw [qa5]; congr 1; exact decide_eq_true (by omega)
 have v2:YM Last=some true:=by rw [qa5]; congr 1; exact decide_eq_true (by omega)
 unfold qY
 refine bT (qfE hC) (bT (iT rfl v1) (bT (iT rfl v2) (iF (by simp; omega) (bT (v:=4096) ?_ rfl))))
 unfold Y9
 dsimp only
 rw [hin]
theorem qdp {c:QE} {n:Nat} (h:Wt c n) {C:qH} {m:Nat} (hC:Ct C m) {a:List qb} (ha:Bx n a) {Last d:Int} (hd:-16777216≤d∧d≤16777216) (hL:4096≤Last∧Last≤16777216) :
  qgm (fun k _=>qY k c a ⟨C,0,Last⟩) (fun k _=>qY k c a ⟨C,d,d+Last⟩) (Rf n d):=by
 obtain ⟨r,s,hR,K,hK⟩:=qdw h hC a (Last:=Last) hd (by omega) true true true 4096 257 0 4096 a [] rfl (by decide) (by omega) (by omega) ha (fun s hs=>by cases hs)
 have h1:∀ k,K≤k→qY.l17 k c a ⟨C,0,Last⟩ true true true 4096 k 0 4096 a []=some r:=fun k hk=>(hK k k hk hk).1
 have h2:∀ k,K≤k→qY.l17 k c a ⟨C,d,d+Last⟩ true true true 4096 k d 4096 a []=some s:=fun k hk=>by
  have:=(hK k k hk hk).2
  dsimp only at this
  rw [Int.zero_add] at this
  exact this
 rcases hR with ⟨e,rfl,rfl⟩ | ⟨l,rfl,rfl,h3,h4⟩
 ·refine ⟨([],e),([],e),⟨rfl,by show 0≤256; omega,fun x hx=>by cases hx⟩,K,fun k j hk hj=>⟨?_,?_⟩⟩
  ·dsimp only; rw [WO hC a (by omega) (by omega),h1 k hk]; rfl
  ·dsimp only; rw [WO hC a hd (by omega),h2 k hk]; rfl
 ·refine ⟨(l,0),(l.map (shf d),0),⟨rfl,h3,h4⟩,K,fun k j hk hj=>⟨?_,?_⟩⟩
  ·dsimp only; rw [WO hC a (by omega) (by omega),h1 k hk]; rfl
  ·dsimp only; rw [WO hC a hd (by omega),h2 k hk]; rfl
theorem qbv (x:List qb) (hx:x.length<1000000):Ev (fun k _=>qN k x x) (fun r=>r=true):=by
 unfold qN
 refine Ev.F (by simp) (Ev.B (Q:=fun r=>r = .inr ()) (Ev.D (f:=fun k j=>qN.l8 k x x j 0) ?_) fun r hr=>by subst hr; exact Ev.S rfl)
 refine Ev.loop (fun k j (_:Unit) i=>qN.l8 k x x j i) x.length (fun _ _=>True) ?_ ?_ (s:=()) trivial
 ·intro i hi s _ next
  refine Ev.N (fun k j=>by rw [qN.l8]) ?_
  have hg:x[((i:Int)).toNat]? = some x[i]:=by rw [Int.toNat_natCast]; exact List.getElem?_eq_getElem hi
  refine Ev.T (dT (by omega)) (Ev.T (by omega) (Ev.X hg (Ev.T (by omega) (Ev.X hg (Ev.F (by simp) ?_)))))
  rw [wi hi hx]
  exact next () trivial
 ·intro s _
  refine Ev.N (fun k j=>by rw [qN.l8]) ?_
  exact Ev.F (dF (by omega)) (Ev.S rfl)
theorem qar {K n:Nat} (hn:1≤n∧n≤3) {a1 w:Int} (hw:w=7 * (n:Int)) (ha:-128≤a1∧a1≤127):Q0 (K:Int) a1 w=some ⟨⟨qc (1+qc (Int.tmod (K:Int) 3)),4096,1024,16384,16777216⟩,a1 * 65536,a1 * 65536+(1+7 * (n:Int)) * 4096⟩:=by
 have e1:qc a1=a1:=Zy (by omega) (by omega)
 have e2:qc (a1 * 65536)=a1 * 65536:=Zy (by omega) (by omega)
 have e3:Int.tmod w 64=w:=by rw [Int.tmod_eq_emod_of_nonneg (by omega)]; omega
 have e4:qc w=w:=Zy (by omega) (by omega)
 have e5:qc (1+w)=1+w:=Zy (by omega) (by omega)
 have e6:qc ((1+w) * 4096)=(1+w) * 4096:=Zy (by omega) (by omega)
 have e7:qc (a1 * 65536+(1+w) * 4096)=a1 * 65536+(1+w) * 4096:=Zy (by omega) (by omega)
 unfold Q0 X9
 rw [e1,e2,e3,e4,e5,e6,e7,hw]
 rfl
theorem Vc:qp.Pure:=by
 intro c0_0 c0_1 c0_2 c0_3 c0_4 c0_5 c0_6 c0_7 c0_8 c1_0 _ _ _ _ _ _ hN hK _ hs
 suffices hE:Ev (fun k _=>qp k (⟨c0_0,c0_1,(⟨c0_2,c0_3⟩:qb),(⟨c0_4,c0_5⟩:Q6),c0_6,c0_7,c0_8⟩:X4) c1_0) (fun r=>r=true) by
  obtain ⟨r,rfl,K,h⟩:=hE
  exact ⟨K,h K K (Nat.le_refl _) (Nat.le_refl _)⟩
 generalize hp:(⟨c0_0,c0_1,(⟨c0_2,c0_3⟩:qb),(⟨c0_4,c0_5⟩:Q6),c0_6,c0_7,c0_8⟩:X4)=p
 have hpN:p.N=c0_6:=by rw [← hp]
 have hpK:p.K=c0_7:=by rw [← hp]
 obtain ⟨n,hn,hsys⟩:=qeB p (by omega)
 unfold qp
 refine Ev.B (Q:=fun r=>r=true) (f:=fun k _=>XV k) (Ev.L (r:=true) 1000 rfl fun k j hk=>?_) fun t3 ht3=>?_
 ·obtain ⟨q,rfl⟩:∃ q,k=q+1000:=⟨k - 1000,by omega⟩
  exact qde q
 refine Ev.B (f:=fun k _=>Qk k p) hsys fun t5 h5=>?_
 refine Ev.B (qdj p c1_0 t3 t5 hn.2 h5.1) fun j7 h7=>?_
 obtain ⟨es,hes,hl,hok⟩:=h7
 refine Ev.B (qeP hn (⟨t5.1.Names,j7⟩:YF) hes hl hok) fun t9 h9=>?_
 have hlen:((t5.2.length:Int))=(n:Int):=by rw [h5.2.1]
 have hw:Wq (qc ((t5.2.length:Int) * 7))=7 * (n:Int):=by
  rw [hlen]
  have:n=1∨n=2∨n=3:=by omega
  rcases this with rfl | rfl | rfl <;> rfl
 rw [hw,hpK]
 obtain ⟨K,rfl⟩:∃ K:Nat,c0_7=(K:Int):=⟨c0_7.toNat,by omega⟩
 refine Ev.X (qar (K:=K) hn rfl (by omega)) (Ev.X (qar (K:=K) hn rfl hs) ?_)
 have hm:=tmp (K:Int) (m:=3) (by omega) (by omega)
 have hC:Ct ⟨qc (1+qc (Int.tmod (K:Int) 3)),4096,1024,16384,16777216⟩ ((Int.tmod (K:Int) 3).toNat+1):=by
  refine ⟨by omega,?_,rfl,rfl,rfl,rfl⟩
  show qc (1+qc (Int.tmod (K:Int) 3))=_
  rw [Zy (x:=Int.tmod (K:Int) 3) (by omega) (by omega),Zy (by omega) (by omega)]; omega
 generalize (⟨qc (1+qc (Int.tmod (K:Int) 3)),4096,1024,16384,16777216⟩:qH)=C at hC
 obtain ⟨r,s,⟨hR,hlr,hSn⟩,M,hM⟩:=qdp h9 hC h5.2 (Last:=(1+7 * (n:Int)) * 4096) (d:=c1_0 * 65536) (by omega) (by omega)
 rw [show (0:Int) * 65536=0 by omega,Int.zero_add]
 refine Ev.B (Q:=fun x=>x=r) (f:=fun k _=>qY k t9 t5.2 ⟨C,0,(1+7 * (n:Int)) * 4096⟩) (Ev.L M rfl fun k j hk=>(hM k k hk hk).1) fun x hx=>?_
 subst hx
 refine Ev.B (Q:=fun y=>y=s) (f:=fun k _=>qY k t9 t5.2 ⟨C,c1_0 * 65536,c1_0 * 65536+(1+7 * (n:Int)) * 4096⟩) (Ev.L M rfl fun k j hk=>(hM k k hk hk).2) fun y hy=>?_
 subst hy
 subst hR
 obtain ⟨l,e⟩:=x
 dsimp only at hlr hSn
 refine Ev.F (by simp) ?_
 refine Ev.B (Q:=fun q=>q = .inr ()) (Ev.D (f:=fun k j=>qp.l24 k p c1_0 t3 t5 j7 t9 _ _ (l,e) (l.map (shf (c1_0 * 65536)),e) j 0) ?_) fun q hq=>by subst hq; exact Ev.S ht3
 refine Ev.loop (fun k j (_:Unit) i=>qp.l24 k p c1_0 t3 t5 j7 t9 _ _ (l,e) (l.map (shf (c1_0 * 65536)),e) j i) l.length (fun _ _=>True) ?_ ?_ (s:=()) trivial
 ·intro i hi _ _ next
  have hx:l[((i:Int)).toNat]? = some l[i]:=by rw [Int.toNat_natCast]; exact List.getElem?_eq_getElem hi
  have hS:=hSn l[i] (List.getElem_mem hi)
  generalize l[i]=x at hx hS
  have hy:(l.map (shf (c1_0 * 65536)))[((i:Int)).toNat]? = some (shf (c1_0 * 65536) x):=by rw [List.getElem?_map,hx]; rfl
  have r1:0≤(i:Int)∧(i:Int)<(l.length:Int):=by omega
  have r2:0≤(i:Int)∧(i:Int)<((l.map (shf (c1_0 * 65536))).length:Int):=by rw [List.length_map]; exact r1
  have hT:(qc ((shf (c1_0 * 65536) x).T - x.T) != qc (qc c1_0 * 65536))=false:=by
   rw [Zy (x:=c1_0) (by omega) (by omega),show (shf (c1_0 * 65536) x).T - x.T=c1_0 * 65536 by show x.T+c1_0 * 65536 - x.T=_; omega]
   simp
  have hH:((shf (c1_0 * 65536) x).H != x.H)=false:=by
   show (x.H != x.H)=false
   simp
  have s1:Ev (fun k _=>qN k (shf (c1_0 * 65536) x).To x.To) (fun r=>r=true):=qbv x.To (by rw [hS.1.1]; omega)
  have s2:Ev (fun k _=>qN k (shf (c1_0 * 65536) x).Tube x.Tube) (fun r=>r=true):=qbv x.Tube (by rw [hS.2.1.1]; omega)
  have s3:Ev (fun k _=>qN k (shf (c1_0 * 65536) x).Pre x.Pre) (fun r=>r=true):=qbv x.Pre (by rw [hS.2.2.1]; omega)
  refine Ev.N (fun k j=>by rw [qp.l24]) ?_
  refine Ev.T (dT r1.2) (Ev.T r2 (Ev.X hy (Ev.T r1 (Ev.X hx (Ev.X (congrArg some hT) (Ev.F (by decide) (Ev.T rfl ?_)))))))
  refine Ev.T r2 (Ev.X hy (Ev.T r1 (Ev.X hx (Ev.X (congrArg some hH) (Ev.F (by decide) (Ev.T rfl ?_))))))
  refine Ev.T r2 (Ev.X hy (Ev.T r1 (Ev.X hx (Ev.B s1 fun b hb=>?_))))
  subst hb
  refine Ev.V (Ev.F (by decide) (Ev.T rfl (Ev.T r2 (Ev.X hy (Ev.T r1 (Ev.X hx (Ev.B s2 fun b hb=>?_)))))))
  subst hb
  refine Ev.V (Ev.F (by decide) (Ev.T rfl (Ev.T r2 (Ev.X hy (Ev.T r1 (Ev.X hx (Ev.B s3 fun b hb=>?_)))))))
  subst hb
  refine Ev.F (by decide) ?_
  rw [wi hi (by omega)]
  exact next () trivial
 ·intro _ _
  refine Ev.N (fun k j=>by rw [qp.l24]) ?_
  exact Ev.F (dF (by show ¬ ((l.length:Int)<(l.length:Int)); omega)) (Ev.S rfl)
end Go.Proofs.YtpmgpcklieincaaGreatDoor
