/- The two laws: flows of one solution meet. Own work. -/
import Derived.Test.YtpmgpcklieincaaGreatDoorPlAll3
set_option maxRecDepth 10000
set_option linter.unusedVariables false
set_option linter.unusedSimpArgs false
namespace Go.Proofs.YtpmgpcklieincaaGreatDoor
open Go Go.Sx
section
variable {n:Nat} {y:Nat->Nat->Nat->Rat} {a b:List qb} {S S':Nat->qb->Prop}
theorem qcS {p:Nat->Rat}(h0:∀ N i,y N i 0=p i){i:Nat}{I:qb}(h1:rr I.Lo<=p i)(h2:p i<=rr I.Hi):Ny y 0 0 i I :=
  (NI.point (F:=W (gi 0) (gi 0) 0) h1 h2).congr ⟨0,λN _ m g1 g2=>by
    have : m = 0 := by have e : gi 0 N = 0 := Nat.zero_mul _
                       omega
    subst this
    exact h0 N i⟩
theorem qeA {t i:Nat}{A B:qb}(oA:Ok A)(oB:Ok B)(hA:Ny y t t i A)(hB:Ny y t t i B):mx A.Lo B.Lo<=mn A.Hi B.Hi:=by
  have l1:=mxl A.Lo B.Lo; have l2:=mnl A.Hi B.Hi; have bA:=oA.b; have bB:=oB.b
  have ent:A=Zd∨B=Zd->mx A.Lo B.Lo<=mn A.Hi B.Hi:=by
    rintro (rfl | rfl)
    · have:Zd.Lo<=B.Lo∧B.Hi<=Zd.Hi:=⟨bB.1,bB.2.2.1⟩
      omega
    · have:Zd.Lo<=A.Lo∧A.Hi<=Zd.Hi:=⟨bA.1,bA.2.2.1⟩
      omega
  rcases hA with e | hA
  · exact ent (.inl e)
  rcases hB with e | hB
  · exact ent (.inr e)
  have u0:0<rr 1:=W5 (by decide)
  obtain ⟨N1,h1⟩:=hA (rr 1/4) (by grind)
  obtain ⟨N2,h2⟩:=hB (rr 1/4) (by grind)
  have g1:=h1 (N1+N2) (by omega) (gi t (N1+N2)) (Nat.le_refl _) (Nat.le_refl _)
  have g2:=h2 (N1+N2) (by omega) (gi t (N1+N2)) (Nat.le_refl _) (Nat.le_refl _)
  dsimp only at g1 g2
  have c:∀ p q:Int,rr p<=rr q+rr 1/2->p<=q:=λp q h=>by
    rcases Int.lt_or_le q p with hq | hq
    · have:=Jy (show q+1<=p by omega)
      rw [VL] at this; grind
    · exact hq
  have c1:=c A.Lo B.Hi (by grind)
  have c2:=c B.Lo A.Hi (by grind)
  omega
theorem qfL (ha:Bs n S a)(hb:Bs n S' b)(hn:n<=3)(h:∀ (i:Nat) A B,a[i]?=some A->b[i]?=some B->mx A.Lo B.Lo<=mn A.Hi B.Hi):Ev (λk _=>Xn k a b) (λr=>r.2=true):=by
  have key:∀ (k:Nat) (l:List (qb×qb)) (acc:List qb),acc.length+l.length<1000000->(∀ z ∈ l,mx z.1.Lo z.2.Lo<=mn z.1.Hi z.2.Hi)->Xn.l6 k a b l acc=some (acc++l.map λz=>⟨mx z.1.Lo z.2.Lo,mn z.1.Hi z.2.Hi⟩,true):=by
    intro k l
    induction l with
    | nil=>intro acc _ _; rw [Xn.l6]; simp
    | cons z l ih =>
      intro acc hl hz
      simp only [List.length_cons] at hl
      have hm:=hz z (List.mem_cons_self ..)
      have hi:Xs (⟨z.1.Lo,z.1.Hi⟩:qb) (⟨z.2.Lo,z.2.Hi⟩:qb)=some (⟨mx z.1.Lo z.2.Lo,mn z.1.Hi z.2.Hi⟩,true):=by
        unfold Xs
        rw [decide_eq_true (show mx (⟨z.1.Lo,z.1.Hi⟩:qb).Lo (⟨z.2.Lo,z.2.Hi⟩:qb).Lo<=mn (⟨z.1.Lo,z.1.Hi⟩:qb).Hi (⟨z.2.Lo,z.2.Hi⟩:qb).Hi from hm)]
        rfl
      rw [Xn.l6]
      refine bT hi (iF (by simp) (iT (by omega) ?_))
      rw [ih _ (by simp; omega) λw hw=>hz w (List.mem_cons_of_mem _ hw)]
      simp
  have hz:(a.zip b).length<=3:=by rw [List.length_zip,ha.1]; omega
  refine Ev.L (r:=([]++(a.zip b).map λz=>⟨mx z.1.Lo z.2.Lo,mn z.1.Hi z.2.Hi⟩,true)) 0 rfl λk j _=>?_
  unfold Xn
  refine iT (by rw [ha.1,hb.1]; omega) (key k (a.zip b) [] (by simp only [List.length_nil]; omega) λz hz=>?_)
  obtain ⟨i,hi⟩:=List.mem_iff_getElem?.1 hz
  obtain ⟨h1,h2⟩:=List.getElem?_zip_eq_some.1 hi
  exact h i _ _ h1 h2
end
theorem qfQ {K:Int}(hK:0<=K∧K<=255):∃ m:Nat,(1<=m∧m<=3)∧Q2 K 0 15=some ⟨⟨(m:Int),4096,1024,16384,16777216⟩,0,65536⟩:=by
  have hm:=tmp K (m:=3) (by omega) (by omega)
  refine ⟨(Int.tmod K 3).toNat+1,by omega,?_⟩
  have e:qc (1+qc (Int.tmod K 3))=(((Int.tmod K 3).toNat+1:Nat):Int):=by rw [Zy (x:=Int.tmod K 3) (by omega) (by omega),Zy (by omega) (by omega)]; omega
  rw [<- e]
  rfl
theorem qgR {q:Int}(hq:0<=q∧q<=65535):∃ t:Nat,t<=65536∧qc (0+qc (Int.tdiv (qc (qc (65536-0)*qc q)) 65535))=(t:Int):=by
  have e1:qc (65536-0)=65536:=rfl
  rw [e1,Zy (x:=q) (by omega) (by omega),Zy (x:=65536*q) (by omega) (by omega),Int.tdiv_eq_ediv_of_nonneg (by omega),Zy (x:=65536*q/65535) (by omega) (by omega),Zy (by omega) (by omega)]
  exact ⟨(65536*q/65535).toNat,by omega,by omega⟩
theorem qeI:Ev (λk _=>XM k) (λr=>r=true):=Ev.L (r:=true) 1000 rfl λk j hk=>by
  obtain ⟨q,rfl⟩:∃ q,k=q+1000:=⟨k-1000,by omega⟩
  exact qeu q
theorem Bnd.of {n:Nat}{b:List qb}(h:Bs n (λ_ I=>Y2 I) b):Bnd b:=λi A hA=>((h.2 i A hA).2 (h.lt hA)).nent
theorem Vo:QC.Pure:=by
  intro c0_0 c0_1 c0_2 c0_3 c0_4 c0_5 c0_6 c0_7 c0_8 c1_0 c2_0 c3_0 _ _ _ _ _ _ hN hK _ hO hM hq
  suffices hE:Ev (λk _=>QC k (⟨c0_0,c0_1,(⟨c0_2,c0_3⟩:qb),(⟨c0_4,c0_5⟩:Q0),c0_6,c0_7,c0_8⟩:YM) c1_0 c2_0 c3_0) (λr=>r=true) by
    obtain ⟨r,rfl,K,h⟩:=hE
    exact ⟨K,h K K (Nat.le_refl _) (Nat.le_refl _)⟩
  generalize hp:(⟨c0_0,c0_1,(⟨c0_2,c0_3⟩:qb),(⟨c0_4,c0_5⟩:Q0),c0_6,c0_7,c0_8⟩:YM)=p
  have hpN:p.N=c0_6:=by rw [<- hp]
  have hpK:p.K=c0_7:=by rw [<- hp]
  obtain ⟨n,hn,hsys⟩:=qf1 p (by omega)
  unfold QC
  refine Ev.B qeI λt3 ht3=>Ev.B (f:=λk _=>qZ k p) hsys λt5 h5=>?_
  obtain ⟨es,hes,hl,hok⟩:=h5.1
  refine Ev.B (qgJ hn (⟨t5.1.Names,t5.1.F⟩:Zc) hes hl hok) λc hc=>?_
  rw [hpK]
  obtain ⟨m1,hm1,e1⟩:=qfQ hK
  obtain ⟨m2,hm2,e2⟩:=qfQ hO
  refine Ev.X e1 (Ev.X e2 ?_)
  obtain ⟨y,v,R,h0⟩:=qic hc.bef λi=>rr (t5.2.getD i ⟨0,0⟩).Lo
  have hx:Bs n (Ny y 0 0) t5.2:=h5.2.imp λi I hi hI hf=>qcS h0 (by rw [List.getD_eq_getElem?_getD,hI]; exact Rat.le_refl) (by rw [List.getD_eq_getElem?_getD,hI]; exact Jz hf)
  have hB:=Bnd.of h5.2
  have hmx:=mxl 4096 c2_0
  have hw:qc c2_0=c2_0:=Zy (by omega) (by omega)
  refine Ev.B (qdW hc R (C:=⟨(m1:Int),4096,1024,16384,16777216⟩) (m:=m1) ⟨hm1,rfl,rfl,rfl,by show (4096:Int)<=16384∧(16384:Int)<=65535; decide,rfl⟩ (Last:=65536) (by omega) hx hB) λr1 hr1=>?_
  refine Ev.B (qdW hc R (C:=⟨(m2:Int),4096,1024,mx 4096 (qc c2_0),16777216⟩) (m:=m2) ⟨hm2,rfl,rfl,rfl,by rw [hw]; show 4096<=mx 4096 c2_0∧mx 4096 c2_0<=65535; omega,rfl⟩ (Last:=65536) (by omega) hx hB) λr2 hr2=>?_
  refine Ev.C (λ_=>Ev.S ht3) λhz=>?_
  obtain ⟨z1,z2⟩:r1.2=0∧r2.2=0:=by simpa using hz
  obtain ⟨f1,f2⟩:=hr1 z1
  obtain ⟨f3,f4⟩:=hr2 z2
  obtain ⟨t,ht,et⟩:=qgR hq
  dsimp only
  rw [et]
  refine Ev.B (qg7 f1 (by omega) f2 ht) λu hu=>Ev.B (qg7 f3 (by omega) f4 ht) λw hw=>Ev.F (by rw [hu.1,hw.1,hu.2.1.1,hw.2.1.1]; simp) (Ev.B (qfL hu.2.1 hw.2.1 hn.2 λi A B hA hB=>?_) λr hr=>Ev.S (by rw [ht3,hr]; rfl))
  have gA:=hu.2.1.2 i A hA; have gB:=hw.2.1.2 i B hB
  exact qeA gA.1 gB.1 (gA.2 (hu.2.1.lt hA)) (gB.2 (hw.2.1.lt hB))
end Go.Proofs.YtpmgpcklieincaaGreatDoor
