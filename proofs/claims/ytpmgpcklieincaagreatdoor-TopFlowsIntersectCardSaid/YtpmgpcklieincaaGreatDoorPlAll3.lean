/- Texts of the plain laws, put together. Own work. -/
import Derived.Test.YtpmgpcklieincaaGreatDoorPlAll2
import Derived.Test.YtpmgpcklieincaaGreatDoorDefs
import Derived.KernelRfl
set_option maxRecDepth 10000
set_option linter.unusedVariables false
set_option linter.unusedSimpArgs false
namespace Go.Proofs.YtpmgpcklieincaaGreatDoor
open Go Go.Sx
structure Ct (C:qJ) (m:Nat):Prop where
 b:1<=m∧m<=3
 O:C.Order=(m:Int)
 F:C.First=4096
 L:C.Least=1024
 M:4096<=C.Most∧C.Most<=65535
 W:C.Wide=16777216
section
variable {n m:Nat} {c:QE} {y v:Nat->Nat->Nat->Rat} {a x:List qb} {S:Nat->qb->Prop} {C:qJ}
theorem qee (hn:n<=3)(ha:Bs n S a)(C:qJ):Ev (λk _=>Xw k a C) (λ_=>True):=by
 unfold Xw
 refine Ev.B (Q:=λ_=>True) ?_ λr _=>Ev.S trivial
 unfold Qv
 refine Ev.B (Q:=λ_=>True) (Ev.D (f:=λk j=>Qv.l6 k a C j 0) ?_) λr _=>?_
 ·refine Ev.loop (λk j (_:Unit) i=>Qv.l6 k a C j i) n (λ_ _=>True) ?_ ?_ (s:=()) trivial
  ·intro i hi x hx next
   obtain ⟨r,r1,_,r2,_⟩:=ha.el hi
   refine Ev.N (λk j=>by rw [Qv.l6]) ?_
   refine Ev.T (dT (by rw [ha.1]; omega)) (Ev.T (by rw [ha.1]; omega) (Ev.X r1 ?_))
   have hq:∃ z,Yi r C=some z∧True:=⟨_,by unfold Yi; rw [qcL r2]; rfl,trivial⟩
   refine Ev.O hq λz _=>Ev.C (λ_=>Ev.S trivial) λ_=>?_
   rw [wi hi (by omega)]
   exact next () trivial
  ·intro x hx
   refine Ev.N (λk j=>by rw [Qv.l6]) ?_
   exact Ev.F (dF (by rw [ha.1]; omega)) (Ev.S trivial)
 ·cases r with
  | inl r=>exact Ev.S trivial
  | inr r=>exact Ev.S trivial
theorem qe3 (hC:Ct C m)(q0:Int):∀ (N:Nat) (x:Int),1<=x->x<=(N:Int)->x<=100000->Ev (λk j=>q7.l4 k q0 C j 0 x) (λl=>∀ y ∈ l,1<=y∧y<=x):=by
 intro N
 induction N with
 | zero=>intro x h0 h1; omega
 | succ N ih =>
  intro x h0 h1 h2
  refine Ev.N (λk j=>by rw [q7.l4]) ?_
  have e:qc (Int.tdiv x 2)=x/2:=by rw [Int.tdiv_eq_ediv_of_nonneg (by omega),Zy (by omega) (by omega)]
  by_cases hs:x/2<1024
  ·refine Ev.V (Ev.T rfl (Ev.B (Q:=λl=>l=[]) ?_ λr hr=>Ev.S (by subst hr; intro y hy; obtain rfl:=List.mem_singleton.1 hy; omega)))
   refine Ev.X (v:=(0,130)) (by unfold YZ; rw [e,hC.L,if_pos (decide_eq_true hs)]) ?_
   refine Ev.N (λk j=>by rw [q7.l4]) ?_
   exact Ev.V (Ev.F (by decide) (Ev.T rfl (Ev.S rfl)))
  ·refine Ev.V (Ev.T rfl (Ev.B (Q:=λl=>∀ y ∈ l,1<=y∧y<=x/2) ?_ λr hr=>Ev.S ?_))
   ·refine Ev.X (v:=(x/2,0)) (by unfold YZ; rw [e,hC.L,if_neg (dF hs)]) ?_
    exact ih (x/2) (by omega) (by omega) (by omega)
   ·intro y hy
    rcases List.mem_cons.1 hy with rfl | hy
    ·omega
    ·have:=hr y hy; omega
theorem qhy (h:Wt c n)(R:Tr c y v)(hC:Ct C m){T Last:Nat}{H:Int}(ha:Bs n (Ny y T T) a)(hB:Bnd a)(hL:T<Last∧Last<=100000)(hH:1<=H∧H<=65535) :
  Ev (λk _=>Q7 k c a ⟨C,(T:Int),(Last:Int),H⟩) (λr=>r.2.2=0->(1<=r.2.1∧r.2.1<=65535) ∧ ∃ K:Nat,1<=K∧T+K<=Last∧Sg y n r.1 T K):=by
 have hm:=hC.b
 unfold Q7
 have e1:qc ((Last:Int)-(T:Int))=(Last:Int)-(T:Int):=Zy (by omega) (by omega)
 have h3:=mnl H ((Last:Int)-(T:Int))
 show Ev (λk j=>(q7 k (mn H (qc ((Last:Int)-(T:Int)))) C).bind λt5=>Q7.l6 k c a ⟨C,(T:Int),(Last:Int),H⟩ t5) _
 rw [e1]
 refine Ev.B (Q:=λl=>∀ y ∈ l,1<=y∧y<=mn H ((Last:Int)-(T:Int))) ?_ λl hl=>?_
 ·unfold q7
  exact Ev.D (f:=λk j=>q7.l4 k (mn H ((Last:Int)-(T:Int))) C j 0 (mn H ((Last:Int)-(T:Int)))) (qe3 hC _ (mn H ((Last:Int)-(T:Int))).toNat _ (by omega) (by omega) (by omega))
 ·induction l with
  | nil=>exact Ev.S λhc=>by cases hc
  | cons x l ih =>
   have hx:=hl x (List.mem_cons_self ..)
   obtain ⟨K,rfl⟩:∃ K:Nat,x=(K:Int):=⟨x.toNat,by omega⟩
   simp only [Q7.l6]
   rw [hC.O]
   refine Ev.B (qgl h R (T:=T) (H:=K) (by omega) (by omega) ha hB (m:=m) (by omega)) λr hr=>?_
   refine Ev.B (Q:=λ_=>True) (Ev.C (λh2=>?_) λ_=>Ev.S trivial) λw _=>Ev.C (λ_=>ih λy hy=>hl y (List.mem_cons_of_mem _ hy)) λh2=>?_
   ·have hr2:=hr (by simpa using h2)
    unfold Zi
    refine Ev.B (qee h.pos.2 hr2.to _) λ_ _=>Ev.B (Q:=λ_=>True) (Ev.C (λ_=>qee h.pos.2 hr2.tu _) λ_=>Ev.S trivial) λ_ _=>Ev.S trivial
   ·have hr1:r.2=true:=by
     cases h5:r.2 with
     | true=>rfl
     | false=>exact absurd (by simp [h5]) h2
    have hr2:=hr hr1
    rw [e1]
    refine Ev.B (Q:=λq:Int=>1<=q∧q<=65535) (Ev.C (λ_=>Ev.S hH) λ_=>Ev.S (by omega)) λq hq=>?_
    refine Ev.X (v:=mn (qc (2*q)) C.Most) rfl (Ev.S λ_=>⟨?_,K,by omega,by omega,hr2⟩)
    have h4:=mnl (qc (2*q)) C.Most
    have h5:=hC.M
    rw [Zy (x:=2*q) (by omega) (by omega)] at *
    show 1<=mn (2*q) C.Most∧mn (2*q) C.Most<=65535
    omega
inductive Ch (y:Nat->Nat->Nat->Rat) (n:Nat):Nat->List qW->Prop
 | nil:Ch y n 0 []
 | app {T H:Nat} {l:List qW} {s:qW}:Ch y n T l->1<=H->Sg y n s T H->Ch y n (T+H) (l++[s])
theorem Ch.zero {E:Nat}{l:List qW}(h:Ch y n E l)(hl:l=[]):E=0:=by
 cases h with
 | nil=>rfl
 | app a b c=>simp at hl
theorem Ch.at {E:Nat}{l:List qW}(h:Ch y n E l):∀ (i:Nat) (s:qW),l[i]?=some s -> ∃ T H,1<=H∧Sg y n s T H∧T+H<=E∧(i=0->T=0)∧((i+1=l.length∧T+H=E) ∨ ∃ s',l[i+1]?=some s'∧s'.T=((T+H:Nat):Int)):=by
 induction h with
 | nil=>intro i s h; cases h
 | @app T H l s0 h hH hs ih =>
  intro i s hi
  rw [List.getElem?_append] at hi
  split at hi
  ·next hl =>
   obtain ⟨T',H',a1,a2,a3,a4,a5⟩:=ih i s hi
   refine ⟨T',H',a1,a2,by omega,a4,.inr ?_⟩
   rcases a5 with ⟨a5,a6⟩ | ⟨s',a5,a6⟩
   ·refine ⟨s0,?_,by rw [hs.tT,<- a6]⟩
    rw [a5,List.getElem?_append_right (Nat.le_refl _),Nat.sub_self]; rfl
   ·exact ⟨s',by rw [List.getElem?_append_left (List.getElem?_eq_some_iff.1 a5).1]; exact a5,a6⟩
  ·next hl =>
   have h0:=(List.getElem?_eq_some_iff.1 hi).1
   simp only [List.length_singleton] at h0
   have hil:i=l.length:=by omega
   subst hil
   rw [Nat.sub_self] at hi
   obtain rfl:=Option.some.inj hi
   exact ⟨T,H,hH,hs,Nat.le_refl _,λe=>h.zero (List.length_eq_zero_iff.1 e),.inl ⟨by simp,rfl⟩⟩
theorem qem (h:Wt c n)(R:Tr c y v)(hC:Ct C m)(a:List qb){Last:Nat}(hL:Last<=100000)(t3 t4 t5:Bool)(t9:Int) :
  ∀ (N T:Nat) (H:Int) (x:List qb) (l:List qW),l.length+N=257->l.length<=256->T<=Last->(1<=H∧H<=65535)->Bs n (Ny y T T) x->Bnd x->Ch y n T l ->
   Ev (λk j=>QK.l17 k c a ⟨C,0,(Last:Int)⟩ t3 t4 t5 t9 j (T:Int) H x l) (λr=>(∃ e,e≠0∧r = .inl ([],e)) ∨ ∃ l',r = .inr l'∧Ch y n Last l'∧l'.length<=256):=by
 intro N
 induction N with
 | zero=>intro T H x l h1 h2; omega
 | succ N ih =>
  intro T H x l h1 h2 hT hH hx hB hl
  refine Ev.N (λk j=>by rw [QK.l17]) ?_
  refine Ev.C (λhc=>?_) λhc=>Ev.S (.inr ⟨l,rfl,?_,h2⟩)
  ·have hlt:T<Last:=by simpa using hc
   refine Ev.B (qhy h R hC hx hB ⟨hlt,hL⟩ hH) λr hr=>Ev.C (λhc=>Ev.S (.inl ⟨r.2.2,by simpa using hc,rfl⟩)) λhc=>?_
   obtain ⟨g1,K,g2,g3,g4⟩:=hr (by simpa using hc)
   refine Ev.C (λ_=>Ev.S (.inl ⟨140,by decide,rfl⟩)) λh256=>Ev.T (by omega) ?_
   have h257:l.length≠256:=λe=>h256 (by simp [e])
   rw [show qc (r.1.T+r.1.H)=((T+K:Nat):Int) by rw [g4.tT,g4.tH,Zy (by omega) (by omega)]; omega]
   exact ih (T+K) r.2.1 r.1.To (l++[r.1]) (by simp only [List.length_append,List.length_cons,List.length_nil]; omega) (by simp only [List.length_append,List.length_cons,List.length_nil]; omega) g3 g1 g4.to g4.bo (.app hl g2 g4)
  ·have:T=Last:=by simp at hc; omega
   rw [<- this]; exact hl
theorem qhf (hC:Ct C m):Ze C=some true:=by
 have hb:=hC.b; have hM:=hC.M
 unfold Ze
 rw [hC.O,hC.F,hC.L,hC.W]
 have:m=1∨m=2∨m=3:=by omega
 rcases this with rfl | rfl | rfl <;> simp <;> omega
theorem qdW (h:Wt c n)(R:Tr c y v)(hC:Ct C m){Last:Nat}(hL:4096<=Last∧Last<=100000)(ha:Bs n (Ny y 0 0) a)(hB:Bnd a):Ev (λk _=>QK k c a ⟨C,0,(Last:Int)⟩) (λr=>r.2=0->Ch y n Last r.1∧r.1.length<=256):=by
 have e0:qc ((Last:Int)-0)=(Last:Int):=by rw [Zy (by omega) (by omega)]; omega
 have hin:mn C.First (qc ((Last:Int)-0))=4096:=by rw [hC.F,e0]; unfold mn; rw [if_neg (by omega)]
 have v1:YG 0=some true:=by rw [qbn]; rfl
 have v2:YG (Last:Int)=some true:=by rw [qbn,decide_eq_true (by omega)]
 unfold QK
 refine Ev.X (qhf hC) (Ev.X (v:=true) (iT rfl v1) (Ev.X (v:=true) (iT rfl v2) (Ev.F (by simp; omega) (Ev.X (v:=4096) ?_ ?_))))
 ·unfold Y6
  dsimp only
  rw [hin]
 ·refine Ev.B (Ev.D (f:=λk j=>QK.l17 k c a ⟨C,0,(Last:Int)⟩ true true true 4096 j 0 4096 a []) (qem h R hC a hL.2 true true true 4096 257 0 4096 a [] rfl (by decide) (by omega) (by omega) ha hB .nil)) λr hr=>?_
  rcases hr with ⟨e,he,rfl⟩ | ⟨l,rfl,h1,h2⟩
  ·exact Ev.S λh=>absurd h he
  ·exact Ev.S λ_=>⟨h1,h2⟩
theorem wu {x:Int}(h1:0<=x)(h2:x<=9223372036854775807):Z3 x=x:=Go.IntWalk.u64_in _ ⟨by omega,by omega⟩
theorem find {l:List qW}{t:Int}{k0:Nat}(hl:l.length<1000000):∀ (k i j:Nat),j-i<k->i<=j->j<=l.length->(i=0 ∨ ∃ s,l[i-1]?=some s∧s.T<=t)->(j=l.length ∨ ∃ s,l[j]?=some s∧t<s.T) ->
  ∃ r:Nat,QJ.l8 k0 (l.length:Int) l t k i j=some (r:Int)∧r<=l.length∧(r=0 ∨ ∃ s,l[r-1]?=some s∧s.T<=t)∧(r=l.length ∨ ∃ s,l[r]?=some s∧t<s.T):=by
 intro k
 induction k with
 | zero=>intro i j h; omega
 | succ k ih =>
  intro i j hk hij hj hi hjj
  unfold QJ.l8
  by_cases hlt:i<j
  ·obtain ⟨c,hc⟩:∃ c,c=(i+j)/2:=⟨_,rfl⟩
   have e1:qc (Int.fdiv (Z3 (qc ((i:Int)+j))) 2)=(c:Int):=by
    rw [Zy (x:=(i:Int)+j) (by omega) (by omega),wu (by omega) (by omega),fd _ _ (by decide)]
    exact qe7 (by omega) (by omega) (by omega)
   obtain ⟨s,hs⟩:∃ s,l[c]?=some s:=⟨_,List.getElem?_eq_getElem (by omega)⟩
   have e2:Zm c l t=some (decide (s.T>t)):=by
    unfold Zm
    exact iT (by omega) (bT hs rfl)
   have e3:qc ((c:Int)+1)=((c+1:Nat):Int):=qe7 (by omega) (by omega) (by omega)
   have goal:∃ r:Nat,(Zm (c:Int) l t).bind (λt12=>if (!t12)=true then QJ.l8 k0 (l.length:Int) l t k (qc ((c:Int)+1)) j else QJ.l8 k0 (l.length:Int) l t k i c)=some (r:Int)∧r<=l.length∧(r=0 ∨ ∃ s,l[r-1]?=some s∧s.T<=t)∧(r=l.length ∨ ∃ s,l[r]?=some s∧t<s.T):=by
    rw [e2,Option.bind_some,e3]
    by_cases hst:s.T>t
    ·obtain ⟨r,h1,h2⟩:=ih i c (by clear hi hjj; omega) (by clear hi hjj; omega) (by clear hi hjj; omega) hi (.inr ⟨s,hs,hst⟩)
     exact ⟨r,iF (by simp; exact hst) h1,h2⟩
    ·obtain ⟨r,h1,h2⟩:=ih (c+1) j (by clear hi hjj; omega) (by clear hi hjj; omega) hj (.inr ⟨s,by simpa using hs,by clear hi hjj; omega⟩) hjj
     exact ⟨r,iT (by simp; omega) h1,h2⟩
   obtain ⟨r,h1,h2⟩:=goal
   refine ⟨r,iT (by simp; omega) ?_,h2⟩
   rw [e1]; exact h1
  ·refine ⟨i,iF (by simp; omega) rfl,by omega,hi,?_⟩
   have:i=j:=by omega
   rw [this]; exact hjj
theorem Ny.sub {s t:Nat}{T E i:Nat}{I:qb}(h:Ny y T E i I)(h1:T<=s)(h2:t<=E):Ny y s t i I :=
 NI.via (F:=W (gi T) (gi E) 0) (G:=W (gi s) (gi t) 0) (f:=λw=>y w.1 i w.2) (λw=>w) (λq hq=>W.sub ⟨0,λN _ m g1 g2=>by have:=qd1 h1 N; have:=qd1 h2 N; omega⟩ hq) h
theorem qg7 {E t:Nat}{l:List qW}(h:Ch y n E l)(hE:1<=E∧E<=100000)(hl:l.length<=256)(ht:t<=E):Ev (λk _=>Z5 k l (t:Int)) (λr=>r.2=true∧Bs n (Ny y t t) r.1∧Bnd r.1):=by
 have hp:0<l.length:=by
  cases h with
  | nil=>omega
  | app a b c=>simp
 obtain ⟨sl,hsl⟩:∃ s,l[l.length-1]?=some s:=⟨_,List.getElem?_eq_getElem (by omega)⟩
 obtain ⟨Tl,Hl,l1,l2,l3,_,l4⟩:=h.at _ _ hsl
 have lE:Tl+Hl=E:=by
  rcases l4 with ⟨_,h⟩ | ⟨s',h,_⟩
  ·exact h
  ·rw [show l.length-1+1=l.length by omega,List.getElem?_eq_none (Nat.le_refl _)] at h; cases h
 have hend:Jb l=some (sl.To,(E:Int),true):=by
  have e1:qc ((l.length:Int)-1)=((l.length-1:Nat):Int):=qe7 (by omega) (by omega) (by omega)
  unfold Jb
  refine iF (by rw [beq_iff_eq]; omega) ?_
  rw [e1]
  refine iT (by omega) (bT hsl ?_)
  rw [l2.tT,l2.tH,qe7 (y:=(E:Int)) (by omega) (by omega) (by omega)]
 obtain ⟨s0,hs0⟩:∃ s,l[0]?=some s:=⟨_,List.getElem?_eq_getElem hp⟩
 obtain ⟨T0,H0,_,o2,_,o3,_⟩:=h.at _ _ hs0
 have et0:s0.T=0:=by rw [o2.tT,o3 rfl]; rfl
 obtain ⟨r,hr2,hr3,hr4,hr1⟩:∃ r:Nat,r<=l.length∧(r=0 ∨ ∃ s,l[r-1]?=some s∧s.T<=(t:Int))∧(r=l.length ∨ ∃ s,l[r]?=some s∧(t:Int)<s.T) ∧ ∀ k,300<=k->QJ k (l.length:Int) l (t:Int)=some (r:Int):=by
  obtain ⟨r,a1,a2,a3,a4⟩:=find (l:=l) (t:=(t:Int)) (k0:=300) (by omega) 300 0 l.length (by omega) (by omega) (Nat.le_refl _) (.inl rfl) (.inl rfl)
  refine ⟨r,a2,a3,a4,λk hk=>?_⟩
  obtain ⟨r',b1,b2,b3,b4⟩:=find (l:=l) (t:=(t:Int)) (k0:=k) (by omega) k 0 l.length (by omega) (by omega) (Nat.le_refl _) (.inl rfl) (.inl rfl)
  unfold QJ
  refine bT b1 ?_
  -- the place is the only one
  have mono:∀ (d i:Nat) (s s':qW),l[i]?=some s->l[i+d]?=some s'->s.T<=s'.T:=by
   intro d
   induction d with
   | zero=>intro i s s' g1 g2; rw [Nat.add_zero,g1] at g2; obtain rfl:=Option.some.inj g2; exact Int.le_refl _
   | succ d ih =>
    intro i s s' g1 g2
    obtain ⟨T,H,c1,c2,_,_,c5⟩:=h.at i s g1
    rcases c5 with ⟨c5,_⟩ | ⟨s2,c5,c6⟩
    ·have:=(List.getElem?_eq_some_iff.1 g2).1; omega
    ·have:=ih (i+1) s2 s' c5 (by rw [show i+1+d=i+(d+1) by omega]; exact g2)
     rw [c2.tT]; omega
  have le:∀ p q:Nat,p<=l.length->(q=l.length ∨ ∃ s,l[q]?=some s∧(t:Int)<s.T)->(p=0 ∨ ∃ s,l[p-1]?=some s∧s.T<=(t:Int))->p<=q:=by
   intro p q hp hq hpp
   rcases hq with hq | ⟨s,q1,q2⟩
   ·omega
   ·rcases hpp with hpp | ⟨s',p1,p2⟩
    ·omega
    ·by_cases hc:p<=q
     ·exact hc
     ·have:=mono (p-1-q) q s s' q1 (by rw [show q+(p-1-q)=p-1 by omega]; exact p1)
      omega
  have:r'=r:=by have:=le r r' a2 b4 a3; have:=le r' r b2 a4 b3; omega
  rw [this]
 have hr0:r≠0:=by
  intro e; subst e
  rcases hr4 with h | ⟨s,h,h'⟩
  ·omega
  ·rw [hs0] at h; cases h; omega
 obtain ⟨s,hs,hst⟩:∃ s:qW,l[r-1]?=some s∧s.T<=(t:Int):=by rcases hr3 with h | h; exact absurd h hr0; exact h
 obtain ⟨T,H,a1,a2,a3,_,a5⟩:=h.at _ _ hs
 have hT:=a2.tT
 have htH:t<=T+H:=by
  rcases a5 with ⟨_,h'⟩ | ⟨s',h1,h2⟩
  ·omega
  ·rw [show r-1+1=r by omega] at h1
   rcases hr4 with h4 | ⟨s'',h4,h4'⟩
   ·rw [h4,List.getElem?_eq_none (Nat.le_refl _)] at h1; cases h1
   ·rw [h1] at h4; cases h4; omega
 have e1:qc ((r:Int)-1)=((r-1:Nat):Int):=qe7 (by omega) (by omega) (by omega)
 have hs':l[(((r-1:Nat):Int)).toNat]?=some s:=by rw [Int.toNat_natCast]; exact hs
 unfold Z5
 refine Ev.X hend (Ev.V (Ev.F (by simp) (Ev.T rfl (Ev.T (by omega) (Ev.X hs0 (Ev.F (by rw [et0]; simp; omega) (Ev.B (Q:=λq=>q=(r:Int)) (f:=λk _=>QJ k (l.length:Int) l (t:Int)) (Ev.L 300 rfl λk j hk=>hr1 k hk) λq hq=>?_)))))))
 subst hq
 rw [e1]
 refine Ev.T (by omega) (Ev.X hs' (Ev.C (λhc=>Ev.T (by omega) (Ev.X hs' (Ev.S ⟨rfl,?_,a2.bf⟩))) λhc=>Ev.C (λhc2=>Ev.S ⟨rfl,?_,l2.bo⟩) λhc2=>Ev.T (by omega) (Ev.X hs' (Ev.S ⟨rfl,?_,a2.bt⟩))))
 ·have:T=t:=by rw [hT] at hc; simp at hc; omega
  subst this; exact a2.fr
 ·have:E=t:=by simp at hc2; omega
  subst this; rw [<- lE]; exact l2.to
 ·exact a2.tu.imp λi I _ _ g=>g.sub (by omega) htH
end
end Go.Proofs.YtpmgpcklieincaaGreatDoor
set_option maxRecDepth 10000
set_option linter.unusedVariables false
set_option linter.unusedSimpArgs false
namespace Go.Proofs.YtpmgpcklieincaaGreatDoor
open Go Go.Sx
def qes (n:Int)(S:List Ex)(e:Ex)(ts:List Ex)(K:Nat)(f:Nat->Option (Int×List qh×List (qh×Int))):Prop :=
 ∃ j l' m' us,(∀ k,K<k->f k=some (j,l',m'))∧Bd n S l' m' (ts++us)∧At (ts++us) j e
theorem qfW {n:Int}{S:List Ex}(hS:S.length<1000000)(hc:Cl S):∀ (e:Ex),e.ok n->e ∈ S->e.code.length<1000 -> ∀ {l:List qh} {m:List (qh×Int)} {ts:List Ex},Bd n S l m ts->qes n S e ts (2000+e.dep) (λk=>qw k e.code l m):=by
 have leaf:∀ (e:Ex) (x:qt),e.code=[x]->e.subs=[]->e.ok n->e ∈ S -> ∀ {l:List qh} {m:List (qh×Int)} {ts:List Ex},Bd n S l m ts->Ins n ts ⟨x.Op,(if x.Op==2 then x.N else 0),0,x.C⟩ e->qes n S e ts 2000 (λk=>qw.body k (qw k) e.code l m):=by
  intro e x hx hs he hm l m ts hb hi
  obtain ⟨j,l',m',us,h1,h2,h3⟩:=hb.emit hS hi hm
  refine ⟨j,l',m',us,λk hk=>?_,h2,h3⟩
  show qw.body k (qw k) e.code l m=_
  rw [qca he (by rw [hx]; show 1<1000; decide) hk hx (by rw [hs]; exact qfm (by omega) l _ 0 m)]
  exact h1
 have un:∀ (e c:Ex) (op:Int),e.code=⟨op,0,Z0⟩ :: c.code->e.subs=[c]->(op==2)=false->(∀ (ts:List Ex) (a:Int),At ts a c->Ins n ts ⟨op,a,0,Z0⟩ e)->e.ok n->e ∈ S->e.code.length<1000->(∀ {l:List qh} {m:List (qh×Int)} {ts:List Ex},Bd n S l m ts->qes n S c ts (2000+c.dep) (λk=>qw k c.code l m)) -> ∀ {l:List qh} {m:List (qh×Int)} {ts:List Ex},Bd n S l m ts->qes n S e ts (2000+c.dep) (λk=>qw.body k (qw k) e.code l m):=by
  intro e c op hx hs ho hi he hm hl ih l m ts hb
  obtain ⟨a,l1,m1,us,h1,h2,h3⟩:=ih hb
  obtain ⟨j,l',m',vs,h4,h5,h6⟩:=h2.emit hS (hi _ a h3) hm
  refine ⟨j,l',m',us++vs,λk hk=>?_,by rw [<- List.append_assoc]; exact h5,by rw [<- List.append_assoc]; exact h6⟩
  show qw.body k (qw k) e.code l m=_
  rw [qca he hl (by omega) hx (by rw [hs]; exact qgf (by omega) c.code l _ 0 m (h1 k hk))]
  exact h4
 have up:∀ {e:Ex} {ts:List Ex} {l:List qh} {m:List (qh×Int)} {K:Nat},K+1<=2000+e.dep->qes n S e ts K (λk=>qw.body k (qw k) e.code l m)->qes n S e ts (2000+e.dep) (λk=>qw k e.code l m):=by
  intro e ts l m K hK h
  obtain ⟨j,l',m',us,h1,h2,h3⟩:=h
  refine ⟨j,l',m',us,λk hk=>?_,h2,h3⟩
  obtain ⟨k,rfl⟩:∃ q,k=q+1:=⟨k-1,by omega⟩
  exact h1 k (by omega)
 intro e
 induction e with
 | num c=>exact λhe hm hl l m ts hb=>up (by simp only [Ex.dep]; omega) (leaf (.num c) ⟨1,0,c⟩ rfl rfl he hm hb (.num c he))
 | var c=>exact λhe hm hl l m ts hb=>up (by simp only [Ex.dep]; omega) (leaf (.var c) ⟨2,c,Z0⟩ rfl rfl he hm hb (.var c he))
 | time=>exact λhe hm hl l m ts hb=>up (by simp only [Ex.dep]; omega) (leaf .time ⟨3,0,Z0⟩ rfl rfl he hm hb .time)
 | neg c ih =>
  intro he hm hl l m ts hb
  have hl':c.code.length<1000:=by simp only [Ex.code,List.length_cons] at hl; omega
  exact up (by simp only [Ex.dep]; omega) (un (.neg c) c 4 rfl rfl rfl (λts a h=>.neg a c h) he hm hl (λhb=>ih he (hc _ hm c (by simp [Ex.subs])) hl' hb) hb)
 | sqr c ih =>
  intro he hm hl l m ts hb
  have hl':c.code.length<1000:=by simp only [Ex.code,List.length_cons] at hl; omega
  exact up (by simp only [Ex.dep]; omega) (un (.sqr c) c 5 rfl rfl rfl (λts a h=>.sqr a c h) he hm hl (λhb=>ih he (hc _ hm c (by simp [Ex.subs])) hl' hb) hb)
 | sqrt c ih =>
  intro he hm hl l m ts hb
  have hl':c.code.length<1000:=by simp only [Ex.code,List.length_cons] at hl; omega
  exact up (by simp only [Ex.dep]; omega) (un (.sqrt c) c 6 rfl rfl rfl (λts a h=>.sqrt a c h) he hm hl (λhb=>ih he (hc _ hm c (by simp [Ex.subs])) hl' hb) hb)
 | bin op c d ihc ihd =>
  intro he hm hl l m ts hb
  have hlc:c.code.length<1000:=by simp only [Ex.code,List.length_cons,List.length_append] at hl; omega
  have hld:d.code.length<1000:=by simp only [Ex.code,List.length_cons,List.length_append] at hl; omega
  obtain ⟨a,l1,m1,us,h1,h2,h3⟩:=ihc he.2.1 (hc _ hm c (by simp [Ex.subs])) hlc hb
  obtain ⟨b,l2,m2,vs,h4,h5,h6⟩:=ihd he.2.2 (hc _ hm d (by simp [Ex.subs])) hld h2
  obtain ⟨j,l',m',ws,h7,h8,h9⟩:=h5.emit hS (.bin op a b c d he.1 (h3.mono vs) h6) hm
  refine ⟨j,l',m',us++(vs++ws),λk hk=>?_,by simpa using h8,by simpa using h9⟩
  obtain ⟨k,rfl⟩:∃ q,k=q+1:=⟨k-1,by omega⟩
  simp only [Ex.dep] at hk
  show qw.body k (qw k) (Ex.bin op c d).code l m=_
  have ho:((⟨op,0,Z0⟩:qt).Op==2)=false:=by have:=he.1; simp; omega
  rw [qca (e:=.bin op c d) he hl (by omega) rfl (qgN (by omega) c.code d.code l _ 0 m (h1 k (by omega)) (h4 k (by omega)))]
  exact h7
theorem qcG {n:Int}{S:List Ex}(hS:S.length<1000000)(hc:Cl S)(s:Zc){es:List Ex}(hF:s.F=es.map Ex.code)(hel:es.length<1000)(hes:∀ e ∈ es,e.ok n∧e ∈ S∧e.code.length<1000∧e.dep<=1000) :
  ∀ (r p:List Ex) (o:List Int) {l:List qh} {m:List (qh×Int)} {ts:List Ex},es=p++r->Bd n S l m ts->qcX ts o p -> ∃ l' o' m' ts',(∀ k0 k,4000<k0->r.length<k->Xc.l20 k0 s k l o m (p.length:Int)=some (l',o',m'))∧Bd n S l' m' ts'∧qcX ts' o' es
 | [],p,o,l,m,ts,hp,hb,ho=>by
  rw [List.append_nil] at hp
  subst hp
  refine ⟨l,o,m,ts,λk0 k hk0 hk=>?_,hb,ho⟩
  obtain ⟨k,rfl⟩:∃ q,k=q+1:=⟨k-1,by omega⟩
  rw [Xc.l20,if_neg (by rw [hF]; simp)]
 | e :: r,p,o,l,m,ts,hp,hb,ho=>by
  have hpl:p.length+(r.length+1)=es.length:=by rw [hp]; simp
  have hFl:s.F.length=es.length:=by rw [hF]; simp
  have hin:0<=(p.length:Int)∧(p.length:Int)<(s.F.length:Int):=by omega
  have hg:s.F[((p.length:Int)).toNat]?=some e.code:=by rw [hF,Int.toNat_natCast,List.getElem?_map,hp,List.getElem?_append_right (Nat.le_refl _),Nat.sub_self]; rfl
  obtain ⟨h1,h2,h3,h4⟩:=hes e (by rw [hp]; simp)
  obtain ⟨j,l',m',us,g1,g2,g3⟩:=qfW hS hc e h1 h2 h3 hb
  have hol:=ho.len
  obtain ⟨l'',o'',m'',ts'',f1,f2,f3⟩:=qcG hS hc s hF hel hes r (p++[e]) (o++[j]) (by rw [hp]; simp) g2 ((qcX.mono ho).app g3)
  refine ⟨l'',o'',m'',ts'',λk0 k hk0 hk=>?_,f2,f3⟩
  obtain ⟨k,rfl⟩:∃ q,k=q+1:=⟨k-1,by omega⟩
  simp only [List.length_cons] at hk
  rw [Xc.l20,if_pos (by simpa using hin.2),if_pos hin,hg,Option.bind_some,show qw k0 e.code l m=some (j,l',m') from g1 k0 (by omega),Option.bind_some,if_pos (by omega),wk (by omega) (by omega)]
  have:=f1 k0 k hk0 (by omega)
  rw [List.length_append] at this
  exact this
def Ex.all:Ex->List Ex
 | .neg e=>.neg e :: e.all
 | .sqr e=>.sqr e :: e.all
 | .sqrt e=>.sqrt e :: e.all
 | .bin op a b=>.bin op a b :: (a.all++b.all)
 | .num c=>[.num c]
 | .var n=>[.var n]
 | .time=>[.time]
theorem Ex.all_self (e:Ex):e ∈ e.all:=by cases e <;> simp [Ex.all]
theorem Ex.all_len:∀ (e:Ex),e.all.length=e.code.length
 | .num _ | .var _ | .time=>rfl
 | .neg e | .sqr e | .sqrt e=>by simp only [Ex.all,Ex.code,List.length_cons,Ex.all_len e]
 | .bin op a b=>by simp only [Ex.all,Ex.code,List.length_cons,List.length_append,Ex.all_len a,Ex.all_len b]
theorem Ex.all_cl:∀ (e:Ex),Cl e.all
 | .num _=>λx hx s hs=>by obtain rfl:=List.mem_singleton.1 hx; cases hs
 | .var _=>λx hx s hs=>by obtain rfl:=List.mem_singleton.1 hx; cases hs
 | .time=>λx hx s hs=>by obtain rfl:=List.mem_singleton.1 hx; cases hs
 | .neg e=>λx hx s hs=>by
  rcases List.mem_cons.1 hx with rfl | hx
  ·obtain rfl:=List.mem_singleton.1 hs; exact List.mem_cons_of_mem _ (Ex.all_self _)
  ·exact List.mem_cons_of_mem _ (Ex.all_cl e x hx s hs)
 | .sqr e=>λx hx s hs=>by
  rcases List.mem_cons.1 hx with rfl | hx
  ·obtain rfl:=List.mem_singleton.1 hs; exact List.mem_cons_of_mem _ (Ex.all_self _)
  ·exact List.mem_cons_of_mem _ (Ex.all_cl e x hx s hs)
 | .sqrt e=>λx hx s hs=>by
  rcases List.mem_cons.1 hx with rfl | hx
  ·obtain rfl:=List.mem_singleton.1 hs; exact List.mem_cons_of_mem _ (Ex.all_self _)
  ·exact List.mem_cons_of_mem _ (Ex.all_cl e x hx s hs)
 | .bin op a b=>λx hx s hs=>by
  rcases List.mem_cons.1 hx with rfl | hx
  ·have:s=a∨s=b:=by simpa [Ex.subs] using hs
   rcases this with rfl | rfl
   ·exact List.mem_cons_of_mem _ (List.mem_append_left _ (Ex.all_self _))
   ·exact List.mem_cons_of_mem _ (List.mem_append_right _ (Ex.all_self _))
  ·rcases List.mem_append.1 hx with hx | hx
   ·exact List.mem_cons_of_mem _ (List.mem_append_left _ (Ex.all_cl a x hx s hs))
   ·exact List.mem_cons_of_mem _ (List.mem_append_right _ (Ex.all_cl b x hx s hs))
theorem ZC:∀ (es:List Ex),(∀ e ∈ es,e.code.length<100)->(es.flatMap Ex.all).length<=100*es.length
 | [],_=>by simp
 | e :: es,h=>by
  have h1:=ZC es λx hx=>h x (List.mem_cons_of_mem _ hx)
  have h2:=h e (List.mem_cons_self ..)
  simp only [List.flatMap_cons,List.length_append,List.length_cons,Ex.all_len]
  omega
theorem qgJ {n:Nat}(hn:1<=n∧n<=3)(s:Zc){es:List Ex}(hF:s.F=es.map Ex.code)(hl:es.length=n)(hes:∀ e ∈ es,e.ok (n:Int)∧e.code.length<100∧e.dep<=100):Ev (λk _=>Xc k s) (λc=>Wt c n):=by
 have hS:(es.flatMap Ex.all).length<=300:=by
  have:=ZC es λx hx=>(hes x hx).2.1
  rw [hl] at this; omega
 have hC:Cl (es.flatMap Ex.all):=λx hx t ht=>by
  obtain ⟨e,he,hx⟩:=List.mem_flatMap.1 hx
  exact List.mem_flatMap.2 ⟨e,he,Ex.all_cl e x hx t ht⟩
 generalize hSd:es.flatMap Ex.all=S at hS hC
 obtain ⟨l,o,m,ts,h1,h2,h3⟩:=qcG (n:=(n:Int)) (S:=S) (by omega) hC s hF (by omega) (λx hx=>by
  have h:=hes x hx
  exact ⟨h.1,by rw [<- hSd]; exact List.mem_flatMap.2 ⟨_,hx,Ex.all_self _⟩,by omega,by omega⟩) es [] [] rfl (Bd.nil _ S) .nil
 have hll:=h2.len
 have hFl:s.F.length=n:=by rw [hF,List.length_map,hl]
 refine Ev.L (r:=⟨(s.F.length:Int),l,o⟩) 5000 ?_ λk j hk=>?_
 ·refine ⟨hn,by rw [hFl],by show o.length=n; rw [h3.len,hl],by show l.length<=400; omega,?_,?_⟩
  ·show ∀ a ∈ o,0<=a∧a<(l.length:Int)
   have:∀ {o:List Int} {q:List Ex},qcX ts o q -> ∀ a ∈ o,0<=a∧a<(l.length:Int):=by
    intro o q h
    induction h with
    | nil=>intro a ha; cases ha
    | cons g t ih =>
     intro a ha
     rcases List.mem_cons.1 ha with rfl | ha
     ·have:=At.lt g; have:=g.1; have:=h2.tp.len; omega
     ·exact ih a ha
   exact this h3
  ·show ∀ (i:Nat) (x:qh),l[i]?=some x->Fit n i x
   intro i x hx
   obtain ⟨e,g1,g2⟩:=h2.tp.get hx
   have lt:∀ {a:Int} {u:Ex},At (ts.take i) a u->0<=a∧a<(i:Int):=fun {a u} g=>by
    have:=At.lt g; have:=g.1
    rw [List.length_take] at *
    omega
   unfold Fit
   cases g2 with
   | num c h=>exact .inl ⟨rfl,h⟩
   | var k h=>exact .inr (.inl ⟨rfl,h⟩)
   | time=>exact .inr (.inr (.inl rfl))
   | neg a e h=>exact .inr (.inr (.inr (.inl ⟨⟨by show (4:Int)<=4; decide,by show (4:Int)<=6; decide⟩,lt h⟩)))
   | sqr a e h=>exact .inr (.inr (.inr (.inl ⟨⟨by show (4:Int)<=5; decide,by show (5:Int)<=6; decide⟩,lt h⟩)))
   | sqrt a e h=>exact .inr (.inr (.inr (.inl ⟨⟨by show (4:Int)<=6; decide,by show (6:Int)<=6; decide⟩,lt h⟩)))
   | bin op a b u v ho h h'=>exact .inr (.inr (.inr (.inr ⟨ho,lt h,lt h'⟩)))
 ·show Xc k s=_
  have:=h1 k k (by omega) (by omega)
  unfold Xc
  refine bT this ?_
  exact iF (by simp only [decide_eq_true_eq]; show ¬ ((l.length:Int)>400); omega) rfl
theorem Ev.K {β:Type}{P:β->Prop}{x:Option β}{v:β}(hx:x=some v)(h:P v):Ev (λ_ _=>x) P:=⟨v,h,0,λ_ _ _ _=>hx⟩
def Bq (n:Int)(d:Nat)(r:List qt×XS):Prop:=∃ (e:Ex) (raw':List qt),r=(e.code,⟨raw',n⟩)∧e.ok n∧e.dep<=d+1∧e.code.length<2 ^ (d+1)
theorem qaZ {n:Int}(hn:1<=n∧n<=6)(d:Nat)(hd:d<10)(ih:∀ d',d=d'+1 -> ∀ raw:List qt,Ev (λ_ j=>qF j ⟨raw,n⟩ ((d'+1:Nat):Int)) (Bq n d'))(raw:List qt) :
  Ev (λ_ j=>qF j ⟨raw,n⟩ ((d+1:Nat):Int)) (Bq n d):=by
 have hpos:2<=2 ^ (d+1):=by
  have:=Nat.pow_le_pow_right (n:=2) (by omega) (show 1<=d+1 by omega)
  omega
 have hb:(2:Nat) ^ (d+1)<=2 ^ 10:=Nat.pow_le_pow_right (by omega) (by omega)
 have leaf:∀ (e:Ex) (r:List qt),e.code.length=1->e.ok n->e.dep=1->Bq n d (e.code,⟨r,n⟩):=λe r h h2 h3=>⟨e,r,rfl,h2,by omega,by omega⟩
 refine Ev.N (λk j=>by rw [qF,qF.body]) ?_
 cases raw with
 | nil=>exact Ev.T rfl (Ev.X (v:=(⟨65536,65536⟩:qb)) rfl (Ev.X (v:=([⟨1,0,⟨65536,65536⟩⟩]:List qt)) rfl (Ev.S (leaf (.num ⟨65536,65536⟩) [] rfl (.inr (by unfold Y2; simp)) rfl))))
 | cons x raw =>
  refine Ev.F (by simp <;> omega) (Ev.T (by simp <;> omega) (Ev.X (v:=x) rfl (Ev.T (by simp <;> omega) ?_)))
  have h1:=qdn x.Op
  have h2:=tmp (QO .i64 x.Op 255) (m:=10) h1.1 (by omega)
  have ho:qc (1+Int.tmod (QO .i64 x.Op 255) 10)=1+Int.tmod (QO .i64 x.Op 255) 10:=Zy (by omega) (by omega)
  rw [ho]
  generalize hO:1+Int.tmod (QO .i64 x.Op 255) 10=o
  have hor:1<=o∧o<=10:=by omega
  have h3:=qdn x.N
  have h4:=qib x.N
  have h5:0<=QO .i64 x.N 255*QO .i64 x.N 1:=Int.mul_nonneg h3.1 h4.1
  have h6:QO .i64 x.N 255*QO .i64 x.N 1<=255*1:=Int.mul_le_mul h3.2 h4.2 h4.1 (by omega)
  have hby:qc (1+qc (QO .i64 x.N 255*QO .i64 x.N 1))=1+QO .i64 x.N 255*QO .i64 x.N 1:=by rw [Zy (x:=QO .i64 x.N 255*QO .i64 x.N 1) (by omega) (by omega),Zy (by omega) (by omega)]
  rw [hby]
  have hnear:=qgh (⟨x.C.Lo,x.C.Hi⟩:qb) (b:=1+QO .i64 x.N 255*QO .i64 x.N 1) (by omega)
  have hdrop:(x :: raw).drop (1:Int).toNat=raw:=rfl
  rw [hdrop]
  clear hO ho hby h1 h2 h5 h6
  refine Ev.B (Q:=λa:Int=>o≠1->a=if o<=3 then 0 else if o<=6 then 1 else 2) (Ev.C (λ_=>Ev.K (qcx hor) λ_=>rfl) λhc=>Ev.S λh=>absurd (by simpa using h) hc) λa ha=>?_
  refine Ev.C (λ_=>Ev.O hnear λc hc=>Ev.X (v:=([⟨1,0,c⟩]:List qt)) rfl (Ev.S (leaf (.num c) raw rfl hc rfl))) λhc=>?_
  have ho1:o≠1:=λh=>hc (by simp [h])
  have ha':=ha ho1
  refine Ev.C (λh2=>Ev.T (by show n≠0; omega) (Ev.S ?_)) λh2=>?_
  ·exact leaf (.var (Int.tmod (QO .i64 x.N 255) n)) raw rfl (tmp (QO .i64 x.N 255) (m:=n) h3.1 (by omega)) rfl
  ·refine Ev.C (λ_=>Ev.S (leaf .time raw rfl trivial rfl)) λh7=>?_
   have ho2:o≠2:=by simpa using h2
   have ho3:o≠3:=by simpa using h7
   have hnot3:¬ o<=3:=by omega
   have hd1:d≠0:=by
    intro h
    apply hc
    rw [if_neg hnot3] at ha'
    have h8:0<a:=by rw [ha']; split <;> omega
    simp [ho1,h,h8]
   obtain ⟨d',rfl⟩:∃ d',d=d'+1:=⟨d-1,by omega⟩
   have hpow:2 ^ (d'+1+1)=2 ^ (d'+1)+2 ^ (d'+1):=by rw [Nat.pow_succ]; omega
   have hdec:qc (((d'+1+1:Nat):Int)-1)=((d'+1:Nat):Int):=by rw [Zy (by omega) (by omega)]; omega
   rw [hdec]
   refine Ev.X (qcx hor) ?_
   rw [if_neg hnot3]
   by_cases o6:o<=6
   ·rw [if_pos o6]
    refine Ev.T rfl (Ev.B (ih d' rfl raw) λr hr=>?_)
    obtain ⟨e1,r1,rfl,hk1,hd2,hl1⟩:=hr
    refine Ev.X (v:=⟨o,0,⟨0,0⟩⟩ :: e1.code) ?_ (Ev.S ?_)
    ·unfold Yj
     rw [if_pos ⟨by show e1.code.length<_; omega,by show 1<1000000; omega⟩]; rfl
    ·have hcase:o=4∨o=5∨o=6:=by omega
     rcases hcase with rfl | rfl | rfl
     ·exact ⟨.neg e1,r1,rfl,hk1,by simp only [Ex.dep]; omega,by simp only [Ex.code,List.length_cons]; omega⟩
     ·exact ⟨.sqr e1,r1,rfl,hk1,by simp only [Ex.dep]; omega,by simp only [Ex.code,List.length_cons]; omega⟩
     ·exact ⟨.sqrt e1,r1,rfl,hk1,by simp only [Ex.dep]; omega,by simp only [Ex.code,List.length_cons]; omega⟩
   ·rw [if_neg o6]
    refine Ev.F (by decide) (Ev.B (ih d' rfl raw) λr hr=>?_)
    obtain ⟨e1,r1,rfl,hk1,hd2,hl1⟩:=hr
    refine Ev.B (ih d' rfl r1) λr hr=>?_
    obtain ⟨e2,r2,rfl,hk2,hd3,hl2⟩:=hr
    refine Ev.X (v:=⟨o,0,⟨0,0⟩⟩ :: (e1.code++e2.code)) ?_ (Ev.S ?_)
    ·unfold X7
     have hbl:([(⟨o,0,(⟨0,0⟩:qb)⟩:qt)]++e1.code).length=e1.code.length+1:=by simp
     rw [if_pos ⟨by show e1.code.length<_; omega,by show 1<1000000; omega⟩,if_pos ⟨by show e2.code.length<_; omega,by show ([(⟨o,0,(⟨0,0⟩:qb)⟩:qt)]++e1.code).length<_; omega⟩]; rfl
    ·exact ⟨.bin o e1 e2,r2,rfl,⟨by omega,hk1,hk2⟩,by simp only [Ex.dep]; omega,by simp only [Ex.code,List.length_cons,List.length_append]; omega⟩
theorem qfN {n:Int}(hn:1<=n∧n<=6)(d:Nat):d<10 -> ∀ raw:List qt,Ev (λ_ j=>qF j ⟨raw,n⟩ ((d+1:Nat):Int)) (Bq n d):=by
 induction d with
 | zero=>exact λh raw=>qaZ hn 0 h (λd' h=>by cases h) raw
 | succ d ih =>
  intro h raw
  refine qaZ hn (d+1) h (λd' h'=>?_) raw
  obtain rfl:d=d':=by omega
  exact ih (by omega)
def Cq (n:Int)(c:List qt):Prop:=∃ e:Ex,c=e.code∧e.ok n∧e.code.length<100∧e.dep<=100
theorem qgB {n:Int}(hn:1<=n∧n<=6)(raw:List qt):Ev (λk _=>X2 k raw 7 n) (Cq n):=by
 unfold X2
 have h:=mnl (raw.length:Int) 7
 refine Ev.T (by omega) (Ev.B (Ev.D (f:=λ_ j=>qF j ⟨_,n⟩ 5) (qfN hn 4 (by omega) _)) λr hr=>Ev.S ?_)
 obtain ⟨e,raw',rfl,h2,h3,h4⟩:=hr
 exact ⟨e,rfl,h2,by omega,by omega⟩
def qdB (n:Int)(i:Nat)(F:List (List qt)):Prop:=∃ es:List Ex,F=es.map Ex.code∧es.length=i ∧ ∀ e ∈ es,e.ok n∧e.code.length<100∧e.dep<=100
theorem qhx {n:Nat}(hn:1<=n∧n<=3)(raw:List (List qt)):Ev (λk _=>qS k raw 7 (n:Int)) (λs=>qdB (n:Int) n s.F):=by
 unfold qS
 refine Ev.B (Q:=λr:List ByteArray×List (List qt)=>qdB (n:Int) n r.2) (Ev.D (f:=λk j=>qS.l11 k raw 7 (n:Int) j [] [] 0) ?_) λr hr=>Ev.S hr
 refine Ev.loop (λk j (s:List ByteArray×List (List qt)) i=>qS.l11 k raw 7 (n:Int) j s.1 s.2 i) n (λi s=>s.1.length=i∧qdB (n:Int) i s.2) ?_ ?_ (s:=([],[])) ⟨rfl,[],rfl,rfl,λe he=>by cases he⟩
 ·intro i hi s hs next
  obtain ⟨nm,F⟩:=s
  obtain ⟨h1,es,h2,h3,h4⟩:=hs
  dsimp only at h1 h2 h3
  subst h2
  refine Ev.N (λk j=>by rw [qS.l11]) ?_
  refine Ev.T (dT (by omega)) (Ev.B (Q:=λ_=>True) (Ev.C (λh5=>?_) λ_=>Ev.S trivial) λc _=>?_)
  ·have h6:(i:Int)<(raw.length:Int):=by simpa using h5
   exact Ev.T (by omega) (Ev.O (qci (by omega)) λr _=>Ev.S trivial)
  ·refine Ev.T (by omega) (Ev.O (qci (by simp only [List.length_cons,List.length_nil]; omega)) λw _=>Ev.T (by show nm.length<1000000; omega) (Ev.B (qgB (by omega) c) λr hr=>Ev.T (by show (es.map Ex.code).length<1000000; rw [List.length_map,h3]; omega) ?_))
   obtain ⟨e,rfl,g1,g2,g3⟩:=hr
   rw [wi hi (by omega)]
   refine next (nm++[w],es.map Ex.code++[e.code]) ⟨by simp [h1],es++[e],by simp,by simp [h3],λx hx=>?_⟩
   rcases List.mem_append.1 hx with hx | hx
   ·exact h4 x hx
   ·obtain rfl:=List.mem_singleton.1 hx
    exact ⟨g1,g2,g3⟩
 ·intro s hs
  refine Ev.N (λk j=>by rw [qS.l11]) ?_
  exact Ev.F (dF (by omega)) (Ev.S hs.2)
theorem qf1 (p:YM)(hN:0<=p.N∧p.N<=255):∃ n:Nat,(1<=n∧n<=3)∧Ev (λk _=>qZ k p) (λr=>qdB (n:Int) n r.1.F∧Bs n (λ_ I=>Y2 I) r.2):=by
 have h1:=tmp p.N (m:=3) hN.1 (by omega)
 have h2:qc (1+qc (Int.tmod p.N 3))=(((Int.tmod p.N 3).toNat+1:Nat):Int):=by rw [Zy (x:=Int.tmod p.N 3) (by omega) (by omega),Zy (by omega) (by omega)]; omega
 have h3:1<=(Int.tmod p.N 3).toNat+1∧(Int.tmod p.N 3).toNat+1<=3:=by omega
 generalize (Int.tmod p.N 3).toNat+1=n at h2 h3
 refine ⟨n,h3,?_⟩
 unfold qZ
 rw [h2]
 refine Ev.B (Q:=Bs n (λ_ I=>Y2 I)) (Ev.D (f:=λk j=>qZ.l11 k p j [] 0) ?_) λb hb=>Ev.B (qhx h3 _) λs hs=>Ev.S ⟨hs,hb⟩
 refine Ev.loop (λk j s i=>qZ.l11 k p j s i) n (λi s=>Bs i (λ_ I=>Y2 I) s) ?_ ?_ Bp.nil
 ·intro i hi s hs next
  refine Ev.N (λk j=>by rw [qZ.l11]) ?_
  rw [h2]
  refine Ev.T (dT (by omega)) (Ev.B (Q:=λr:Int×Int=>Y2 ⟨r.1,r.2⟩) (Ev.C (λh5=>?_) λ_=>Ev.S (by unfold Y2; simp)) λr hr=>?_)
  ·have h6:(i:Int)<(p.X.length:Int):=by simpa using h5
   exact Ev.T (by omega) (Ev.O (qci (by omega)) λx _=>Ev.X (v:=sml x) rfl (Ev.S (qgM x)))
  ·refine Ev.T (by rw [hs.1]; omega) ?_
   rw [wi hi (by omega)]
   exact next _ (hs.app (.inr hr) hr)
 ·intro s hs
  refine Ev.N (λk j=>by rw [qZ.l11]) ?_
  rw [h2]
  exact Ev.F (dF (by omega)) (Ev.S hs)
end Go.Proofs.YtpmgpcklieincaaGreatDoor
set_option maxRecDepth 100000
namespace Go.Proofs.YtpmgpcklieincaaGreatDoor
open Go Go.Sx
theorem qeu (n:Nat):XM (n+1000)=some true:=by kernel_rfl
end Go.Proofs.YtpmgpcklieincaaGreatDoor
