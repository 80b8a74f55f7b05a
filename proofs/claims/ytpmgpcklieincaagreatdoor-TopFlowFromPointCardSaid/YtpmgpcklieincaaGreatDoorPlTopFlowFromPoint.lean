/- A flow from a box and one from a point of it. Own work. -/
import Derived.Test.YtpmgpcklieincaaGreatDoorPlTopFlowsIntersect
set_option maxRecDepth 10000
set_option linter.unusedVariables false
set_option linter.unusedSimpArgs false
namespace Go.Proofs.YtpmgpcklieincaaGreatDoor
open Go Go.Sx
def Pt (l:List Int)(i:Nat)(I:qb):Prop:=∃ p,l[i]?=some p∧I=⟨p,p⟩
theorem qgl {n:Nat}(hn:n<=3){l:List Int}(hl:l.length=n)(hp:∀ p ∈ l,Y0 ⟨p,p⟩):Ev (λk _=>Jy k l) (Bs n (Pt l)):=by
 unfold Jy
 refine Ev.B (Q:=Bs n (Pt l)) ?_ λr hr=>Ev.S hr
 unfold QC
 refine Ev.T (by omega) ?_
 refine Ev.B (Q:=Bs n (Pt l)) (Ev.D (f:=λk j=>QC.l10 k l j _ 0) ?_) λr hr=>Ev.S hr
 refine Ev.loop (λk j x i=>QC.l10 k l j x i) n (λi x=>Bp n i (Pt l) x) ?_ ?_ (by rw [Int.toNat_natCast,hl]; exact Bp.zero _ _)
 ·intro i hi x hx next
  have hg:l[i]?=some l[i]:=List.getElem?_eq_getElem (by omega)
  have hg':l[((i:Int)).toNat]?=some l[i]:=by rw [Int.toNat_natCast]; exact hg
  have hf:=hp l[i] (List.getElem_mem _)
  refine Ev.N (λk j=>by rw [QC.l10]) ?_
  refine Ev.T (dT (by omega)) (Ev.T (by omega) (Ev.X hg' (Ev.X (v:=⟨l[i],l[i]⟩) (by unfold X1; rw [JH,qaZ hf]; rfl) (Ev.T (by rw [hx.1]; omega) (Ev.O (hx.any hi) λ_ _=>?_)))))
  rw [wi hi (by omega),Int.toNat_natCast]
  exact next _ (hx.put hi (.inr hf) ⟨_,hg,rfl⟩)
 ·intro x hx
  refine Ev.N (λk j=>by rw [QC.l10]) ?_
  exact Ev.F (dF (by omega)) (Ev.S hx)
theorem VC:QG.Pure:=by
 intro c0_0 c0_1 c0_2 c0_3 c0_4 c0_5 c0_6 c0_7 c0_8 c1_0 c2_0 _ _ _ _ _ _ hN hK _ hP hq
 suffices hE:Ev (λk _=>QG k (⟨c0_0,c0_1,(⟨c0_2,c0_3⟩:qb),(⟨c0_4,c0_5⟩:Q2),c0_6,c0_7,c0_8⟩:YR) c1_0 c2_0) (λr=>r=true) by
  obtain ⟨r,rfl,K,h⟩:=hE
  exact ⟨K,h K K (Nat.le_refl _) (Nat.le_refl _)⟩
 generalize hp:(⟨c0_0,c0_1,(⟨c0_2,c0_3⟩:qb),(⟨c0_4,c0_5⟩:Q2),c0_6,c0_7,c0_8⟩:YR)=p
 have hpN:p.N=c0_6:=by rw [<- hp]
 have hpK:p.K=c0_7:=by rw [<- hp]
 obtain ⟨n,hn,hsys⟩:=qfg p (by omega)
 unfold QG
 refine Ev.B qeN λt3 ht3=>Ev.B (f:=λk _=>q8 k p) hsys λt5 h5=>?_
 obtain ⟨es,hes,hl,hok⟩:=h5.1
 refine Ev.B (qg0 hn (⟨t5.1.Names,t5.1.F⟩:Ze) hes hl hok) λc hc=>?_
 rw [hpK]
 obtain ⟨m,hm,e1⟩:=qhD hK
 refine Ev.X e1 ?_
 -- the point
 have hb:=h5.2
 generalize t5.2=b at hb
 obtain ⟨l,hle⟩:∃ l:List Int,l=mk n λi=>pt (b.getD i ⟨0,0⟩) (fr c1_0 i):=⟨_,rfl⟩
 have hmk:b=mk n λi=>b.getD i ⟨0,0⟩:=by have:=qiu b ⟨0,0⟩; rwa [hb.1] at this
 have hin:∀ i,i<n->(b.getD i ⟨0,0⟩).Lo<=pt (b.getD i ⟨0,0⟩) (fr c1_0 i)∧pt (b.getD i ⟨0,0⟩) (fr c1_0 i)<=(b.getD i ⟨0,0⟩).Hi:=λi hi=>by
  obtain ⟨_,_,g⟩:=hb.gd hi
  rcases (qim (.inr g) (qhm hP i)).1 with e | e
  ·exact absurd e g.nent
  ·exact e
 have hll:l.length=n:=by rw [hle,qbg]
 have hlg:∀ i,i<n->l[i]?=some (pt (b.getD i ⟨0,0⟩) (fr c1_0 i)):=λi hi=>by rw [hle]; exact qc8 _ hi
 have hlf:∀ p ∈ l,Y0 ⟨p,p⟩:=λp hp=>by
  obtain ⟨i,hi⟩:=List.mem_iff_getElem?.1 hp
  have hin':i<n:=by have:=(List.getElem?_eq_some_iff.1 hi).1; omega
  rw [hlg i hin'] at hi
  obtain rfl:=Option.some.inj hi
  obtain ⟨_,_,g⟩:=hb.gd hin'
  have:=hin i hin'
  unfold Y0 at g ⊢
  dsimp only
  omega
 have hpi:Ev (λk _=>q9 k b c1_0) (λr=>r=l):=Ev.L (n+1) rfl λk j hk=>by
  have:=qde (n:=n) (by omega) (λi=>b.getD i ⟨0,0⟩) (λi hi=>(hb.gd hi).2.1) hP (k:=k) (by omega)
  rw [<- hmk] at this
  rw [this,hle]
 obtain ⟨y,v,R,h0⟩:=qiv hc.bef λi=>rr (pt (b.getD i ⟨0,0⟩) (fr c1_0 i))
 have hx:Bs n (Ny y 0 0) b:=hb.imp λi I hi hI hf=>by
  have e:b.getD i ⟨0,0⟩=I:=by rw [List.getD_eq_getElem?_getD,hI]; rfl
  have:=hin i hi
  rw [e] at this
  exact qa8 h0 (by rw [e]; exact Jp this.1) (by rw [e]; exact Jp this.2)
 have hB:=Bnd.of hb
 have hC:Ct ⟨(m:Int),4096,1024,16384,16777216⟩ m:=⟨hm,rfl,rfl,rfl,by show (4096:Int)<=16384∧(16384:Int)<=65535; decide,rfl⟩
 refine Ev.B (qdy hc R hC (Last:=65536) (by omega) hx hB) λr1 hr1=>Ev.B hpi λl' hl'=>?_
 subst hl'
 refine Ev.B (qgl hn.2 hll hlf) λq hq0=>?_
 have hx2:Bs n (Ny y 0 0) q:=hq0.imp λi I hi hI ⟨p,g1,g2⟩=>by
  rw [hlg i hi] at g1
  obtain rfl:=Option.some.inj g1
  subst g2
  exact qa8 h0 Rat.le_refl Rat.le_refl
 have hB2:Bnd q:=Bnd.of (hq0.imp λi I hi hI ⟨p,g1,g2⟩=>by rw [g2]; exact hlf p (List.mem_of_getElem? g1))
 refine Ev.B (qdy hc R hC (Last:=65536) (by omega) hx2 hB2) λr2 hr2=>?_
 refine Ev.C (λ_=>Ev.S ht3) λhz=>?_
 obtain ⟨z1,z2⟩:r1.2=0∧r2.2=0:=by simpa using hz
 obtain ⟨f1,f2⟩:=hr1 z1
 obtain ⟨f3,f4⟩:=hr2 z2
 obtain ⟨t,ht,et⟩:=qgw hq
 dsimp only
 rw [et]
 refine Ev.B (qho f1 (by omega) f2 ht) λu hu=>Ev.B (qho f3 (by omega) f4 ht) λw hw=>Ev.F (by rw [hu.1,hw.1,hu.2.1.1,hw.2.1.1]; simp) (Ev.B (qfw hu.2.1 hw.2.1 hn.2 λi A B hA hB=>?_) λr hr=>?_)
 ·have gA:=hu.2.1.2 i A hA; have gB:=hw.2.1.2 i B hB
  exact qeP gA.1 gB.1 (gA.2 (hu.2.1.lt hA)) (gB.2 (hw.2.1.lt hB))
 ·rw [ht3,hr]
  obtain ⟨A,a1,a2,_,_⟩:=hu.2.1.el (show 0<n by omega)
  have hne:=hu.2.2 0 A a2
  have a1':(if ((true&&true)==true)=true then u.1[(0:Int).toNat]? else some default)=some A:=a1
  refine Ev.T (λ_=>by rw [hu.2.1.1]; omega) (Ev.X a1' (Ev.X (v:=false) ?_ (Ev.S rfl)))
  show qG A=some false
  rw [qad,decide_eq_false hne]
end Go.Proofs.YtpmgpcklieincaaGreatDoor
