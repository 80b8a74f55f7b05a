/- The two laws: flows of one solution meet. Own work. -/
import Derived.Test.YtpmgpcklieincaaGreatDoorPlAll3
set_option maxRecDepth 10000
set_option linter.unusedVariables false
set_option linter.unusedSimpArgs false
namespace Go.Proofs.YtpmgpcklieincaaGreatDoor
open Go Go.Sx
section
variable {n:Nat} {y:Nat->Nat->Nat->Rat} {a b:List qb} {S S':Nat->qb->Prop}
theorem qa8 {p:Nat->Rat}(h0:∀ N i,y N i 0=p i){i:Nat}{I:qb}(h1:rr I.Lo<=p i)(h2:p i<=rr I.Hi):Ny y 0 0 i I :=
  (NI.point (F:=W (gi 0) (gi 0) 0) h1 h2).congr ⟨0,λN _ m g1 g2=>by
    have : m = 0 := by have e : gi 0 N = 0 := Nat.zero_mul _
                       omega
    subst this
    exact h0 N i⟩
theorem qeP {t i:Nat}{A B:qb}(oA:Ok A)(oB:Ok B)(hA:Ny y t t i A)(hB:Ny y t t i B):mx A.Lo B.Lo<=mn A.Hi B.Hi:=by
  have l1:=mxl A.Lo B.Lo; have l2:=mnl A.Hi B.Hi; have bA:=oA.b; have bB:=oB.b
  have ent:A=Y8∨B=Y8->mx A.Lo B.Lo<=mn A.Hi B.Hi:=by
    rintro (rfl | rfl)
    · have:Y8.Lo<=B.Lo∧B.Hi<=Y8.Hi:=⟨bB.1,bB.2.2.1⟩
      omega
    · have:Y8.Lo<=A.Lo∧A.Hi<=Y8.Hi:=⟨bA.1,bA.2.2.1⟩
      omega
  rcases hA with e | hA
  · exact ent (.inl e)
  rcases hB with e | hB
  · exact ent (.inr e)
  have u0:0<rr 1:=WW (by decide)
  obtain ⟨N1,h1⟩:=hA (rr 1/4) (by grind)
  obtain ⟨N2,h2⟩:=hB (rr 1/4) (by grind)
  have g1:=h1 (N1+N2) (by omega) (gi t (N1+N2)) (Nat.le_refl _) (Nat.le_refl _)
  have g2:=h2 (N1+N2) (by omega) (gi t (N1+N2)) (Nat.le_refl _) (Nat.le_refl _)
  dsimp only at g1 g2
  have c:∀ p q:Int,rr p<=rr q+rr 1/2->p<=q:=λp q h=>by
    rcases Int.lt_or_le q p with hq | hq
    · have:=Jp (show q+1<=p by omega)
      rw [VH] at this; grind
    · exact hq
  have c1:=c A.Lo B.Hi (by grind)
  have c2:=c B.Lo A.Hi (by grind)
  omega
theorem qfw (ha:Bs n S a)(hb:Bs n S' b)(hn:n<=3)(h:∀ (i:Nat) A B,a[i]?=some A->b[i]?=some B->mx A.Lo B.Lo<=mn A.Hi B.Hi):Ev (λk _=>Xr k a b) (λr=>r.2=true):=by
  have key:∀ (k:Nat) (l:List (qb×qb)) (acc:List qb),acc.length+l.length<1000000->(∀ z ∈ l,mx z.1.Lo z.2.Lo<=mn z.1.Hi z.2.Hi)->Xr.l6 k a b l acc=some (acc++l.map λz=>⟨mx z.1.Lo z.2.Lo,mn z.1.Hi z.2.Hi⟩,true):=by
    intro k l
    induction l with
    | nil=>intro acc _ _; rw [Xr.l6]; simp
    | cons z l ih =>
      intro acc hl hz
      simp only [List.length_cons] at hl
      have hm:=hz z (List.mem_cons_self ..)
      have hi:Xw (⟨z.1.Lo,z.1.Hi⟩:qb) (⟨z.2.Lo,z.2.Hi⟩:qb)=some (⟨mx z.1.Lo z.2.Lo,mn z.1.Hi z.2.Hi⟩,true):=by
        unfold Xw
        rw [decide_eq_true (show mx (⟨z.1.Lo,z.1.Hi⟩:qb).Lo (⟨z.2.Lo,z.2.Hi⟩:qb).Lo<=mn (⟨z.1.Lo,z.1.Hi⟩:qb).Hi (⟨z.2.Lo,z.2.Hi⟩:qb).Hi from hm)]
        rfl
      rw [Xr.l6]
      refine bT hi (iF (by simp) (iT (by omega) ?_))
      rw [ih _ (by simp; omega) λw hw=>hz w (List.mem_cons_of_mem _ hw)]
      simp
  have hz:(a.zip b).length<=3:=by rw [List.length_zip,ha.1]; omega
  refine Ev.L (r:=([]++(a.zip b).map λz=>⟨mx z.1.Lo z.2.Lo,mn z.1.Hi z.2.Hi⟩,true)) 0 rfl λk j _=>?_
  unfold Xr
  refine iT (by rw [ha.1,hb.1]; omega) (key k (a.zip b) [] (by simp only [List.length_nil]; omega) λz hz=>?_)
  obtain ⟨i,hi⟩:=List.mem_iff_getElem?.1 hz
  obtain ⟨h1,h2⟩:=List.getElem?_zip_eq_some.1 hi
  exact h i _ _ h1 h2
end
theorem qhD {K:Int}(hK:0<=K∧K<=255):∃ m:Nat,(1<=m∧m<=3)∧Xu K 0 15=some ⟨⟨(m:Int),4096,1024,16384,16777216⟩,0,65536⟩:=by
  have hm:=tmp K (m:=3) (by omega) (by omega)
  refine ⟨(Int.tmod K 3).toNat+1,by omega,?_⟩
  have e:qc (1+qc (Int.tmod K 3))=(((Int.tmod K 3).toNat+1:Nat):Int):=by rw [Zv (x:=Int.tmod K 3) (by omega) (by omega),Zv (by omega) (by omega)]; omega
  rw [<- e]
  rfl
theorem qgw {q:Int}(hq:0<=q∧q<=65535):∃ t:Nat,t<=65536∧qc (0+qc (Int.tdiv (qc (qc (65536-0)*qc q)) 65535))=(t:Int):=by
  have e1:qc (65536-0)=65536:=rfl
  rw [e1,Zv (x:=q) (by omega) (by omega),Zv (x:=65536*q) (by omega) (by omega),Int.tdiv_eq_ediv_of_nonneg (by omega),Zv (x:=65536*q/65535) (by omega) (by omega),Zv (by omega) (by omega)]
  exact ⟨(65536*q/65535).toNat,by omega,by omega⟩
theorem qeN:Ev (λk _=>XS k) (λr=>r=true):=Ev.L (r:=true) 1000 rfl λk j hk=>by
  obtain ⟨q,rfl⟩:∃ q,k=q+1000:=⟨k-1000,by omega⟩
  exact qeI q
theorem Bnd.of {n:Nat}{b:List qb}(h:Bs n (λ_ I=>Y0 I) b):Bnd b:=λi A hA=>((h.2 i A hA).2 (h.lt hA)).nent
end Go.Proofs.YtpmgpcklieincaaGreatDoor
