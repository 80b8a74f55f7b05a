/- The framework's texts, put together. Own work. -/
import Derived.Test.YtpmgpcklieincaaGreatDoorSxAll0
import Derived.RangeFuncRecord
import Derived.RangeFuncIn
import Derived.RangeFuncLeaves
import Derived.RangeFuncCalls
import Derived.OrdersIn
import Derived.TacticsIn
import Derived.RangeFuncSeq
import Derived.LoopNIn
import Derived.CallsIn
import Derived.IntWalk
import Derived.WalkKit
import Derived.ProofKit
import Derived.OpenShut
import Derived.ShutString
import Derived.ChangeOld
import Derived.Below
import Derived.SizedLaws
import Derived.LaidMore
import Derived.LaidByTextLater
import Derived.SevenTiedAt
import Derived.Stop.Joined
import Derived.KernelRfl
import Derived.Deep.Slices
set_option linter.unusedVariables false
set_option linter.unusedSimpArgs false
namespace Go.Sx
open Go Go.RowKit
def qbt (ms:List Nat) (o:Oper):Nat:=(Jv o).foldr (fun e m=>(m ||| 2 ^ e) ||| ms.getD e 0) 0
def VL:List Oper→List (List Nat × List Nat)→Nat→List (Nat × List Nat × List Nat)→List Nat→Bool
  | o :: os,(R,W) :: rw,i,pre,ms=>(pre.all fun x=>Nat.testBit (qbt ms o) x.1 || (disj x.2.2 R && disj x.2.2 W && disj x.2.1 W && !(R.contains (TK+x.1)))) && VL os rw (i+1) ((i,R,W) :: pre) (ms++[qbt ms o])
  | _,_,_,_,_=>true
theorem qa0 {ms:List Nat} {k:Nat}:∀ {l:List Nat},Nat.testBit (l.foldr (fun e m=>(m ||| 2 ^ e) ||| ms.getD e 0) 0) k=true → ∃ e ∈ l,k=e∨Nat.testBit (ms.getD e 0) k=true
  | [],h=>by simp at h
  | e :: l,h=>by
    simp only [List.foldr_cons,Nat.testBit_or,Bool.or_eq_true] at h
    rcases h with (h | h) | h
    · obtain ⟨e',he',hk⟩:=qa0 (l:=l) h
      exact ⟨e',List.mem_cons_of_mem _ he',hk⟩
    · rw [Nat.testBit_two_pow] at h
      exact ⟨e,by simp,.inl (of_decide_eq_true h).symm⟩
    · exact ⟨e,by simp,.inr h⟩
def qcH (ops:List Oper) (ms:List Nat):Prop:=ms.length≤ops.length ∧ ∀ (m b:Nat) (o:Oper),ms[m]? = some b→ops[m]? = some o → ∀ k,Nat.testBit b k=true → ∀ D,VW ops D→(∀ e ∈ Jv o,D e=true)→D k=true
theorem qcZ {ops:List Oper} {ms:List Nat} (h:qcH ops ms) {o:Oper} {k:Nat} (hk:Nat.testBit (qbt ms o) k=true) {D:Nat→Bool} (hD:VW ops D) (hp:∀ e ∈ Jv o,D e=true):D k=true:=by
  obtain ⟨e,he,hk⟩:=qa0 hk
  rcases hk with rfl | hk
  · exact hp _ he
  · cases hb:ms[e]? with
    | none=>simp [List.getD,hb] at hk
    | some b =>
      simp only [List.getD,hb,Option.getD_some] at hk
      cases ho:ops[e]? with
      | none =>
        exfalso
        have h1:e<ms.length:=(List.getElem?_eq_some_iff.1 hb).1
        have h2:=h.1
        rw [List.getElem?_eq_none_iff] at ho
        omega
      | some oe=>exact h.2 e b oe hb ho k hk D hD (hD e oe (hp e he) ho)
theorem qau {ops:List Oper} {rwA:List (List Nat × List Nat)}:∀ (os:List Oper) (rw:List (List Nat × List Nat)) (i:Nat) (pre:List (Nat × List Nat × List Nat)) (ms:List Nat),VL os rw i pre ms=true→ms.length=i→qcH ops ms →
    (∀ j,os[j]? = ops[i+j]?)→(∀ j,rw[j]? = rwA[i+j]?)→(∀ m R W,m<i→rwA[m]? = some (R,W)→(m,R,W) ∈ pre) →
    ∀ (j:Nat) (o:Oper) (R W:List Nat),i≤j→ops[j]? = some o→rwA[j]? = some (R,W) → ∀ (m:Nat) (R' W':List Nat),m<j→rwA[m]? = some (R',W') →
    ∀ D,VW ops D→(∀ e ∈ Jv o,D e=true)→D m=true∨(disj W' R=true∧disj W' W=true∧disj R' W=true∧TK+m ∉ R)
  | [],rw,i,pre,ms,_,_,_,hos,_,_,j,o,R,W,hij,ho,_=>by
    have:=hos (j - i)
    rw [show i+(j - i)=j by omega,ho] at this
    simp at this
  | o0 :: os,[],i,pre,ms,_,_,_,_,hrw,_,j,o,R,W,hij,_,hr=>by
    have:=hrw (j - i)
    rw [show i+(j - i)=j by omega,hr] at this
    simp at this
  | o0 :: os,(R0,W0) :: rw,i,pre,ms,h,hl,hM,hos,hrw,hpre,j,o,R,W,hij,ho,hr=>by
    rw [VL,Bool.and_eq_true] at h
    intro m R' W' hmj hm D hD hp
    have h0:ops[i]? = some o0:=by have:=hos 0; simpa using this.symm
    have hr0:rwA[i]? = some (R0,W0):=by have:=hrw 0; simpa using this.symm
    by_cases e:j=i
    · subst e
      obtain rfl:o0=o:=Option.some.inj (h0.symm.trans ho)
      obtain ⟨rfl,rfl⟩:R0=R∧W0=W:=by have:=Option.some.inj (hr0.symm.trans hr); simpa using this
      have h1:=List.all_eq_true.1 h.1 (m,R',W') (hpre m R' W' hmj hm)
      simp only [Bool.or_eq_true,Bool.and_eq_true] at h1
      rcases h1 with h1 | h1
      · exact .inl (qcZ hM h1 hD hp)
      · exact .inr ⟨h1.1.1.1,h1.1.1.2,h1.1.2,by simpa using h1.2⟩
    · refine qau os rw (i+1) ((i,R0,W0) :: pre) (ms++[qbt ms o0]) h.2 (by simp [hl]) ⟨?_,?_⟩ (fun k=>?_) (fun k=>?_) (fun m R W hmi hr=>?_) j o R W (by omega) ho hr m R' W' hmj hm D hD hp
      · have:=(List.getElem?_eq_some_iff.1 h0).1
        simp only [List.length_append,List.length_cons,List.length_nil]
        omega
      · intro m b o' hb ho' k hk D hD hp
        by_cases em:m<ms.length
        · rw [List.getElem?_append_left em] at hb
          exact hM.2 m b o' hb ho' k hk D hD hp
        · have em':m=i:=by
            have:=(List.getElem?_eq_some_iff.1 hb).1
            simp at this
            omega
          subst em'
          rw [List.getElem?_append_right (by omega),hl] at hb
          simp at hb
          subst hb
          obtain rfl:o0=o':=Option.some.inj (h0.symm.trans ho')
          exact qcZ hM hk hD hp
      · have:=hos (k+1)
        rw [List.getElem?_cons_succ] at this
        rw [this,show i+(k+1)=i+1+k by omega]
      · have:=hrw (k+1)
        rw [List.getElem?_cons_succ] at this
        rw [this,show i+(k+1)=i+1+k by omega]
      · by_cases em:m=i
        · subst em
          have:=Option.some.inj (hr0.symm.trans hr)
          rw [← this]; simp
        · exact List.mem_cons_of_mem _ (hpre m R W (by omega) hr)
theorem Vo {ops:List Oper} {rw:List (List Nat × List Nat)} (h:VL ops rw 0 [] []=true) {i j:Nat} {o:Oper} {R W R' W':List Nat} (hij:i<j) (ho:ops[j]? = some o) (hj:rw[j]? = some (R,W)) (hi:rw[i]? = some (R',W'))
    {D:Nat→Bool} (hD:VW ops D) (hp:∀ e ∈ Jv o,D e=true):D i=true∨(disj W' R=true∧disj W' W=true∧disj R' W=true∧TK+i ∉ R) :=
  qau ops rw 0 [] [] h rfl ⟨Nat.zero_le _,fun m b o h=>by simp at h⟩ (fun j=>by simp) (fun j=>by simp) (fun m R W hm=>by omega) j o R W (Nat.zero_le _) ho hj i R' W' hij hi D hD hp
section
variable {P:Program} {ops:Array Oper} {B:Nat} {w0:World} {n:Nat}
theorem Y3.anyorderT {Q:Exit→Act→World→Prop} {S0:St} {Se:Nu→St} {rw:List (List Nat × List Nat)} {a:Act} {w:World} (hc:Y3 P ops B w0 n 0 ops.toList (fun _=>S0) rw Se)
    (hi:VL ops.toList rw 0 [] []=true) (hf:Zo ops.toList 0=true) (hr:QS B w0 n S0 a w)
    (hQ:∀ ν a w,QS B w0 n (Se ν) a w→Q .normal a w) (fuel:Nat) (hfuel:ops.size≤fuel):wpAny P .any ops Q fuel (Array.replicate ops.size false) a w:=by
  obtain ⟨hlen,us,hus,hSe⟩:=Y3.parts _ _ _ _ hc
  have hl:ops.toList.length=ops.size:=Array.length_toList
  have hget:∀ j o,ops[j]? = some o→ops.toList[j]? = some o:=fun j o h=>by rw [Array.getElem?_toList]; exact h
  -- the done set
  let D (L:Array Bool):Nat→Bool:=fun j=>L.getD j false
  have main:∀ (fuel:Nat) (L:Array Bool) (p:Vg) (a:Act) (w:World),L.size=ops.size→(∀ j,D L j=false→p j=none)→(∀ j,D L j=true → ∃ g,p j=some g) →
      (∀ j o,D L j=true→ops[j]? = some o → ∀ e ∈ o.after,Region.binds .any e=true→D L e.on=true) →
      (∀ ν,YC p ν→QS B w0 n (Z2 us (D L) S0 ν ops.size) a w)→((List.range ops.size).filter fun j=>!D L j).length≤fuel→wpAny P .any ops Q fuel L a w:=by
    intro fuel
    have hdone:∀ (L:Array Bool) (p:Vg) (a:Act) (w:World),L.size=ops.size →
      (∀ j o,D L j=true→ops[j]? = some o → ∀ e ∈ o.after,Region.binds .any e=true→D L e.on=true) →
      (∀ ν,YC p ν→QS B w0 n (Z2 us (D L) S0 ν ops.size) a w)→Region.ready .any ops L=[]→Q .normal a w:=by
      intro L p a w hL hdown hrep hno
      have hall:∀ j,j<ops.size→D L j=true:=by
        intro j
        induction j using Nat.strongRecOn with
        | _ j ih =>
          intro hj
          cases hD:D L j with
          | true=>rfl
          | false =>
            have:j ∈ Region.ready .any ops L:=by
              rw [mem_ready]
              refine ⟨?_,ops[j],by simp [hj],fun e he hb=>?_⟩
              · have:L.getD j false=false:=hD
                simp only [Array.getD_eq_getD_getElem?] at this ⊢
                rw [Array.getElem?_eq_getElem (by omega)] at this ⊢
                exact this
              · have h1:=Jq _ _ hf j ops[j] (by simp [hj]) e he hb
                simp only [Nat.zero_add] at h1
                exact ih e.on h1 (by omega)
            rw [hno] at this; cases this
      obtain ⟨ν,hν⟩:=YC.exists p
      refine hQ ν a w ((hrep ν hν).congr fun k=>?_)
      rw [hSe ν,hl]
      exact Zk _ fun j hj _=>(hall j hj).symm
    induction fuel with
    | zero =>
      intro L p a w hL hp hps hdown hrep hcount
      have hno:Region.ready .any ops L=[]:=by
        cases hrd:Region.ready .any ops L with
        | nil=>rfl
        | cons j rest =>
          exfalso
          have hj:j ∈ Region.ready .any ops L:=by rw [hrd]; simp
          obtain ⟨h1,o,ho,_⟩:=mem_ready.1 hj
          have hjs:j<ops.size:=(Array.getElem?_eq_some_iff.1 ho).1
          have:j ∈ (List.range ops.size).filter fun j=>!D L j:=by
            simp only [List.mem_filter,List.mem_range,hjs,true_and,Bool.not_eq_true']
            show L.getD j false=false
            simp only [Array.getD_eq_getD_getElem?] at h1 ⊢
            rw [Array.getElem?_eq_getElem (by omega)] at h1 ⊢
            exact h1
          have:=List.length_pos_of_mem this
          omega
      exact ⟨hno,hdone L p a w hL hdown hrep hno⟩
    | succ fuel ih =>
      intro L p a w hL hp hps hdown hrep hcount
      refine ⟨hdone L p a w hL hdown hrep,fun i hi'=>?_⟩
      obtain ⟨hLi,o,ho,hpre⟩:=mem_ready.1 hi'
      have his:i<ops.size:=(Array.getElem?_eq_some_iff.1 ho).1
      have hDi:D L i=false:=by
        show L.getD i false=false
        simp only [Array.getD_eq_getD_getElem?] at hLi ⊢
        rw [Array.getElem?_eq_getElem (by omega)] at hLi ⊢
        exact hLi
      obtain ⟨R,W,hrw,hW,hT,hok⟩:=hus i o (hget i o ho)
      simp only [Nat.zero_add] at hok hT
      -- what touches what it touches is done if it stands before it, and isn't done if it stands behind it
      have hord:∀ j,j<ops.size→j≠i→(∃ R' W',rw[j]? = some (R',W') ∧ ¬ (disj W' R=true∧disj W' W=true∧disj R' W=true)∧j<i)∨(∃ R' W',rw[j]? = some (R',W') ∧ ¬ (disj W R'=true∧disj W W'=true∧disj R W'=true)∧i<j)→D L j=decide (j<i):=by
        intro j hj hne hcase
        have hDC:VW ops.toList (D L):=fun j' o' hDj' ho' e he=>by
          obtain ⟨e',he',rfl⟩:=List.mem_map.1 he
          rw [List.mem_filter] at he'
          exact hdown j' o' hDj' (by simpa using ho') e' (by simpa using he'.1) he'.2
        rcases hcase with ⟨R',W',hr',hn,hlt⟩ | ⟨R',W',hr',hn,hlt⟩
        · have h3:=Vo hi hlt (hget i o ho) hrw hr' hDC (fun e he=>by
            obtain ⟨e',he',rfl⟩:=List.mem_map.1 he
            rw [List.mem_filter] at he'
            exact hpre e' (by simpa using he'.1) he'.2)
          have:=h3.resolve_right fun q=>hn ⟨q.1,q.2.1,q.2.2.1⟩
          simp only [hlt,decide_true]; exact this
        · obtain ⟨oj,hoj⟩:∃ oj,ops[j]? = some oj:=⟨ops[j],by simp [hj]⟩
          cases hDj:D L j with
          | false => have : ¬ j < i := by omega
                     simp [this]
          | true =>
            have h3:=Vo hi hlt (hget j oj hoj) hr' hrw hDC (hDC j oj hDj (hget j oj hoj))
            have:=h3.resolve_right fun q=>hn ⟨q.1,q.2.1,q.2.2.1⟩
            rw [hDi] at this; cases this
      have hag:∀ ν,YC p ν → ∀ k ∈ R,Z2 us (D L) S0 ν ops.size k=Z2 us (fun _=>true) S0 ν i k:=by
        intro ν _ k hk
        have e1:Z2 us (D L) S0 ν ops.size k=Z2 us (fun j=>decide (j<i)) S0 ν ops.size k:=by
          refine Zk _ fun j hj hkj=>?_
          by_cases hji:j=i
          · subst hji; rw [hDi]; simp
          · obtain ⟨oj,hoj⟩:∃ oj,ops[j]? = some oj:=⟨ops[j],by simp [hj]⟩
            obtain ⟨R',W',hrw',hW',_,_⟩:=hus j oj (hget j oj hoj)
            rw [hW' ν] at hkj
            refine hord j hj hji ?_
            rcases Nat.lt_or_ge j i with hlt | hge
            · exact .inl ⟨R',W',hrw',fun hd=>ZH hd.1 hkj hk,hlt⟩
            · exact .inr ⟨R',W',hrw',fun hd=>ZH hd.2.2 hk hkj,by omega⟩
        rw [e1]
        have key:∀ m,i≤m→Z2 us (fun j=>decide (j<i)) S0 ν m k=Z2 us (fun _=>true) S0 ν i k:=by
          intro m
          induction m with
          | zero => intro hm; have : i = 0 := by omega
                    subst this; rfl
          | succ m ihm =>
            intro hm
            by_cases e:i=m+1
            · subst e
              exact Zk _ fun j hj _=>by simp [hj]
            · rw [Z2,if_neg (by simp; omega)]
              exact ihm (by omega)
        exact key _ (by omega)
      have hJ:∀ j,TK+j ∈ R → ∃ g,p j=some g:=by
        intro j hj
        have hlt:=VK hT hj
        have hDC:VW ops.toList (D L):=fun j' o' hDj' ho' e he=>by
          obtain ⟨e',he',rfl⟩:=List.mem_map.1 he
          rw [List.mem_filter] at he'
          exact hdown j' o' hDj' (by simpa using ho') e' (by simpa using he'.1) he'.2
        obtain ⟨oj,hoj⟩:∃ oj,ops[j]? = some oj:=⟨ops[j]'(by omega),by simp [show j<ops.size by omega]⟩
        obtain ⟨R',W',hrw',_,_,_⟩:=hus j oj (hget j oj hoj)
        have h3:=Vo hi hlt (hget i o ho) hrw hrw' hDC (fun e he=>by
            obtain ⟨e',he',rfl⟩:=List.mem_map.1 he
            rw [List.mem_filter] at he'
            exact hpre e' (by simpa using he'.1) he'.2)
        exact hps j (h3.resolve_right fun q=>q.2.2.2 hj)
      refine wpOp_mono ?_ (hok Q p (fun ν=>Z2 us (D L) S0 ν ops.size) a w hag (hp i hDi) ho hrep hJ)
      rintro a' w' ⟨g,hg⟩
      have hDset:∀ j,D (L.setIfInBounds i true) j=(D L j || decide (j=i)):=by
        intro j
        show (L.setIfInBounds i true).getD j false=_
        by_cases e:j=i
        · subst e
          simp [Array.getD_eq_getD_getElem?,hL,his]
        · rw [getD_set_ne false (fun h=>e h.symm)]
          simp [e,D]
      refine ih (L.setIfInBounds i true) (p.set i g) a' w' (by simp [hL]) ?_ ?_ ?_ ?_ ?_
      · intro j hj
        rw [hDset] at hj
        simp only [Bool.or_eq_false_iff,decide_eq_false_iff_not] at hj
        simp only [Vg.set,hj.2,if_false]
        exact hp j hj.1
      · intro j hj
        rw [hDset] at hj
        by_cases e:j=i
        · exact ⟨g,by simp [Vg.set,e]⟩
        · obtain ⟨g',hg'⟩:=hps j (by simpa [e] using hj)
          exact ⟨g',by simp [Vg.set,e,hg']⟩
      · intro j oj hj hoj e he hb
        rw [hDset] at hj ⊢
        simp only [Bool.or_eq_true,decide_eq_true_eq] at hj ⊢
        rcases hj with hj | hj
        · exact .inl (hdown j oj hj hoj e he hb)
        · subst hj
          rw [ho] at hoj
          injection hoj with hoj
          subst hoj
          exact .inl (hpre e he hb)
      · intro ν hν
        refine (hg ν hν).congr fun k=>?_
        have hfun:D (L.setIfInBounds i true)=fun j=>D L j || decide (j=i):=funext hDset
        rw [hfun]
        refine qbj hDi k _ his ?_
        intro j hij hj hDj hki hkj
        obtain ⟨oj,hoj⟩:∃ oj,ops[j]? = some oj:=⟨ops[j],by simp [hj]⟩
        obtain ⟨R',W',hrw',hW',_,_⟩:=hus j oj (hget j oj hoj)
        rw [hW ν] at hki
        rw [hW' ν] at hkj
        have:=hord j hj (by omega) (.inr ⟨R',W',hrw',fun hd=>ZH hd.2.1 hki hkj,hij⟩)
        rw [hDj] at this
        simp at this
        omega
      · have hsub:((List.range ops.size).filter fun j=>!D (L.setIfInBounds i true) j)=((List.range ops.size).filter fun j=>!D L j).filter fun j=>!decide (j=i):=by
          rw [List.filter_filter]
          refine List.filter_congr fun j _=>?_
          rw [hDset]
          cases D L j <;> simp
        rw [hsub]
        have hmem:i ∈ (List.range ops.size).filter fun j=>!D L j:=by simp [his,hDi]
        have:(((List.range ops.size).filter fun j=>!D L j).filter fun j=>!decide (j=i)).length<((List.range ops.size).filter fun j=>!D L j).length:=by
          refine List.length_filter_lt_length_iff_exists.2 ⟨i,hmem,by simp⟩
        omega
  have hno:∀ j,¬ D (Array.replicate ops.size false) j=true:=fun j hj=>by
    have:(Array.replicate ops.size false).getD j false=true:=hj
    by_cases hjs:j<ops.size <;> simp [Array.getD_eq_getD_getElem?,hjs] at this
  refine main fuel _ (fun _=>none) a w (by simp) (fun _ _=>rfl) (fun j hj=>absurd hj (hno j)) ?_ ?_ ?_
  · intro j o hj
    have:(Array.replicate ops.size false).getD j false=true:=hj
    by_cases hjs:j<ops.size <;> simp [Array.getD_eq_getD_getElem?,hjs] at this
  · intro ν _
    refine hr.congr fun k=>?_
    have key:∀ m,Z2 us (D (Array.replicate ops.size false)) S0 ν m=S0:=by
      intro m
      induction m with
      | zero=>rfl
      | succ m ih =>
        have:D (Array.replicate ops.size false) m=false:=by
          show (Array.replicate ops.size false).getD m false=false
          by_cases hjs:m<ops.size <;> simp [Array.getD_eq_getD_getElem?,hjs]
        rw [Z2,this]; simpa using ih
    rw [key]
  · refine Nat.le_trans (List.length_filter_le _ _) ?_
    simpa using hfuel
end
theorem ZC {P:Program} {N R:K} {xs:List (Nat × K)} {a:Act} {w:World} {B n id:Nat} {w0:World} {ops:Array Oper} {draw:Bool} {S0:St} {Se:Nu→St} {rw:List (List Nat × List Nat)} (hm:P.follows .mixedOrders=true)
    (hr:QS B w0 n S0 a w) (hc:Y3 P ops B w0 n 0 ops.toList (fun _=>S0) rw Se)
    (hi:(draw && (VL ops.toList rw 0 [] [] && Zo ops.toList 0))=true)
    (hQ:∀ ν a w,QS B w0 n (Se ν) a w→N a w):(Code.region id ops draw).wp P (Zv N xs R) a w:=by
  cases draw with
  | false=>cases hi
  | true =>
    simp only [Bool.true_and,Bool.and_eq_true] at hi
    refine wp_region_any hm ?_
    have hr':QS B w0 n S0 a { w with drawn:=w.drawn+1 }:=hr.world ⟨rfl,rfl,rfl,Nat.le_refl _,fun _ _=>rfl⟩
    exact Y3.anyorderT hc hi.1 hi.2 hr' (fun ν a w h=>hQ ν a w h) _ (Nat.le_refl _)
end Go.Sx
set_option linter.unusedVariables false
namespace Go.Sx
open Go Go.RowKit
abbrev vI (n:Int):Value:=.int .i64 n
abbrev vP (b o:Nat):Value:=.pointer (some ⟨b,o,none⟩)
abbrev sI (n:Int):KV:=.slot true (.int .i64 n)
abbrev sB (b:Bool):KV:=.slot true (.bool b)
abbrev sP (b o:Nat):KV:=.slot true (.pointer (some ⟨b,o,none⟩))
abbrev sS (p:Option Addr) (n c:Nat):KV:=.slot true (.slice p n c)
abbrev qB {T:Type} (fr:Nat→Prop) (sz:Nat) (p:Option Addr) (c:Nat) (l:List T) (en:T→List Value):KV:=YZ fr sz p l.length c (l.flatMap en)
theorem QS.toM {B n:Nat} {w0:World} {S:St} {a:Act} {w:World} (h:QS B w0 n S a w) (l:List (Nat × KV)) (hl:l.map (fun p=>S p.1)=l.map (fun p=>p.2):=by kernel_rfl):QS B w0 n (Jl l) a w:=h.toL l hl
def kpS:List Nat→St→St
 | [],_=>fun _=>.none
 | k :: r,S=>fun i=>bif Nat.beq i k then S i else kpS r S i
theorem qd0 (S:St) (k:Nat):∀ l:List Nat,kpS l S k = .none∨kpS l S k=S k
 | []=>.inl rfl
 | j :: r=>by
  show (bif Nat.beq k j then S k else kpS r S k) = .none∨(bif Nat.beq k j then S k else kpS r S k)=S k
  cases Nat.beq k j with
  | true=>exact .inr rfl
  | false=>exact qd0 S k r
theorem QS.kp {B n:Nat} {w0:World} {S:St} {a:Act} {w:World} (h:QS B w0 n S a w) (l:List Nat):QS B w0 n (kpS l S) a w:=h.weak fun k=>qd0 S k l
section
variable {P:Program} {ops:Array Oper} {B:Nat} {w0:World} {n:Nat}
theorem Y3.v {i:Nat} {o:Oper} {rest:List Oper} {S Se:Nu→St} {rw:List (List Nat × List Nat)} (d:Nat) (v:Value) (t:Y3 P ops B w0 n (i+1) rest (fun ν=>Qg (S ν) [(d,.slot true v)]) rw Se)
  (hd:o.dst=some d:=by rfl) (hdn:Nat.blt d n=true:=by rfl) (hsel:YG o=true:=by rfl) (hg:o.guard=none:=by rfl)
  (hk:∀ ν,(o.op.operands.all (Q2 (S ν)))=true:=by intro _; kernel_rfl) (hp:∀ ν,(Xo o (S ν)).all id=true:=by intro _; kernel_rfl)
  (hv:∀ ν w,(execOp (YD (S ν)) o).run P w = .ok (.value v) w:=by intro _ _; kernel_rfl) (hT:qc7 i (Xn ops o)=true:=by kernel_rfl):Y3 P ops B w0 n i (o :: rest) S ((Xn ops o,[d]) :: rw) Se :=
 .cons [d] (qn (fun _=>v) d hd hdn hsel hg hk hp hv) t (fun _=>rfl) hT
end
theorem Ju {P:Program} {N R:K} {xs:List (Nat × K)} {a:Act} {w:World} {B n id:Nat} {w0:World} {ops:Array Oper} {draw:Bool} {S0:St} {Se:Nu→St} {rw:List (List Nat × List Nat)} (hm:P.follows .mixedOrders=true)
  (hr:QS B w0 n S0 a w) (hc:Y3 P ops B w0 n 0 ops.toList (fun _=>S0) rw Se) (hQ:∀ ν a w,QS B w0 n (Se ν) a w→N a w)
  (hi:(!draw || (VF ops.toList rw [] && Zo ops.toList 0))=true:=by kernel_rfl):(Code.region id ops draw).wp P (Zv N xs R) a w:=Vh hm hr hc hi hQ
end Go.Sx
set_option linter.unusedVariables false
set_option linter.unusedSimpArgs false
namespace Go.Sx
open Go Go.RowKit
theorem Zs.len {T:Type} {w:World} {sz n:Nat} {p:Option Addr} {en:T→List Value} {l:List T} (R:Zs w sz p n (l.flatMap en)) (hen:∀ x,(en x).length=sz) (hs:0<sz):n=l.length:=by
 have:=R.1
 rw [Zr hen] at this
 exact (Nat.eq_of_mul_eq_mul_right hs this).symm
theorem JZ {T:Type} {w:World} {base e sz n cap:Nat} {p:Option Addr} {en:T→List Value} {l:List T} (R:w.ownsRow base e sz (.slice p n cap) n (l.flatMap en)) (hen:∀ x,(en x).length=sz) (hs:0<sz):n=l.length:=(qb2 R).len hen hs
theorem Z9 {w:World} {sz n cap:Nat} {p:Option Addr} {xs:List Value} (R:XO w sz p n cap xs) (hs:0<sz:=by decide):(YZ qk sz p n cap xs).holds w:=(qy R (fun _ _=>trivial) hs 0).2.1
theorem dnA {G:Type} {w:World} {E:Part G} {L:List G} (R:RdL E w L):(X7 qk E L).holds w:=Z3 R fun _ _=>trivial
theorem qbb {T X:Type} {P:Program} {w:World} {t:TypeId} {p:Option Addr} {n cap:Nat} {k:IntKind} {i:Int} {sz:Nat} {en:T→List Value} {l:List T} {x:List X} {s:Sem Next} (R:Zs w sz p n (l.flatMap en)) (hen:∀ x,(en x).length=sz) (hl:x.length=l.length) (h:0≤i∧i<(x.length:Int))
  (hs:s=Sem.bind (Instr.indexAt t (.slice p n cap) (.int k i)) fun v=>Sem.pure (Next.value v)) (hu:P.underlying t=some (.slice (P.elem t)):=by kernel_rfl) (he:(P.info? (P.elem t)).map (·.size)=some sz:=by kernel_rfl) (hz:0<sz:=by decide) :
  s.run P w = .ok (.value (.pointer (some ⟨Xf p,Xg p+i.toNat * sz,none⟩))) w:=by
 have hn:=R.len hen hz
 subst hs
 exact qf0 hu he R ⟨h.1,by omega⟩
theorem qdy {T:Type} {w:World} {en:T→List Value} {sz n:Nat} {p:Option Addr} {l:List T} (R:Zs w sz p n (l.flatMap en)) (hen:∀ x,(en x).length=sz) {i:Nat} {x:T} (hx:l[i]? = some x) (f m:Nat) {vs:List Value} (hvs:((en x).drop f).take m=vs) (hz:0<sz:=by decide) :
  ∀ j u,vs[j]? = some u→w.cell? ⟨Xf p,Xg p+i * sz+f+j,none⟩=some u:=by
 have hn:=R.len hen hz
 subst hn
 exact qeI R hen hx f m hvs
theorem qch {T:Type} {P:Program} {w:World} {en:T→List Value} {sz n:Nat} {p:Option Addr} {l:List T} {s:Sem Next} {i:Nat} {x:T} {v:Value} (R:Zs w sz p n (l.flatMap en)) (hen:∀ x,(en x).length=sz) (hx:l[i]? = some x) (f m:Nat) (vs:List Value) (hvs:((en x).drop f).take m=vs)
  (hp:Je P s vs []=some (.value v,Y8 (Xf p) (Xg p+i * sz+f) m)) (hz:0<sz:=by decide):s.run P w = .ok (.value v) w :=
 qgd hp (qdy R hen hx f m hvs hz)
theorem XK {T:Type} {P:Program} {w:World} {e:TypeId} {sz n:Nat} {en:T→List Value} {l:List T} {p:Option Addr} {cap:Nat} {s:Sem Next} {i:Nat} {x y:T} {vs:List Value} (hown:w.ownsRow 0 e sz (.slice p n cap) n (l.flatMap en)) (hen:∀ x,(en x).length=sz)
  (hx:l[i]? = some x) (f:Nat) (h0:0<vs.length) (hf:f+vs.length≤sz) (he:en y=lay (en x) f vs)
  (hp:VT P s []=some (.skip,(Y8 (Xf p) (Xg p+(i * sz+f)) vs.length).zip vs)) (hz:0<sz:=by decide) :
  ∃ w',s.run P w = .ok .skip w'∧w'.ownsRow 0 e sz (.slice p n cap) n ((l.set i y).flatMap en)∧Zg (Q3 p) w w':=by
 have hn:=JZ hown hen hz
 subst hn
 exact qdU hown hen hx f h0 hf he hp
theorem Yy {T:Type} {P:Program} {w:World} {t ty e eb:TypeId} {sz bytes b n:Nat} {zc cs:List Value} {en:T→List Value} {l:List T} {p:Option Addr} {cap:Nat} {s:Sem Next} (hen:∀ x,(en x).length=sz) (I:WN P e sz bytes zc)
  (hown:w.ownsRow 0 e sz (.slice p n cap) n (l.flatMap en)) (hblk:(KV.blk b cs eb).holds w) {news:List T} (hcs:cs=news.flatMap en) (hm:0<news.length∧news.length<1000)
  (hs:s=Sem.bind (Builtin.append_ #[t,t] ty #[.slice p n cap,.slice (some ⟨b,0,none⟩) news.length news.length]) fun v=>Sem.pure (Next.value v)) (hl:l.length<1000000)
  (ht:P.underlying t=some (.slice e):=by kernel_rfl) (h1:cs.all (·.oneCell')=true:=by kernel_rfl) (hsz:0<sz:=by decide) (hby:bytes≤100000:=by decide) (hz:zc.length=sz:=by rfl) :
  ∃ p' cap' w',s.run P w = .ok (.value (.slice p' (l++news).length cap')) w'∧w'.ownsRow 0 e sz (.slice p' (l++news).length cap') (l++news).length ((l++news).flatMap en)∧Zg (Q3 p) w w' ∧ ∀ j,Q3 p' j→w.heap.size≤j∨Q3 p j:=by
 have hn:=JZ hown hen hsz
 subst hn
 exact qbL hen I hown hblk hcs hm hs hl ht h1 hsz hby hz
theorem JN {T:Type} {P:Program} {w:World} {t ty e:TypeId} {sz bytes n n2:Nat} {zc:List Value} {en:T→List Value} {l m:List T} {p p2:Option Addr} {cap cap2:Nat} {s:Sem Next} (hen:∀ x,(en x).length=sz) (hone:∀ x,(en x).all (·.oneCell')=true) (I:WN P e sz bytes zc)
  (hown:w.ownsRow 0 e sz (.slice p n cap) n (l.flatMap en)) (R:Zs w sz p2 n2 (m.flatMap en)) (hm:m.length<1000000∧l.length<1000000)
  (hs:s=Sem.bind (Builtin.append_ #[t,t] ty #[.slice p n cap,.slice p2 n2 cap2]) fun v=>Sem.pure (Next.value v))
  (ht:P.underlying t=some (.slice e):=by kernel_rfl) (hsz:0<sz:=by decide) (hby:bytes≤100000:=by decide) (hz:zc.length=sz:=by rfl) :
  ∃ p' cap' w',s.run P w = .ok (.value (.slice p' (l++m).length cap')) w'∧w'.ownsRow 0 e sz (.slice p' (l++m).length cap') (l++m).length ((l++m).flatMap en)∧Zg (Q3 p) w w' ∧ ∀ j,Q3 p' j→w.heap.size≤j∨Q3 p j:=by
 have hn:=JZ hown hen hsz
 have hn2:=R.len hen hsz
 subst hn hn2
 exact qbl hen hone I hown R hm hs ht hsz hby hz
theorem Yt {P:Program} {w:World} {s:Sem Next} {n m:Nat} (h:n=m) (hr:s.run P w = .ok (.value (.int .i64 (n:Int))) w):s.run P w = .ok (.value (.int .i64 (m:Int))) w:=h ▸ hr
theorem qdL {w:World} {e sz n cap:Nat} {p:Option Addr} {xs:List Value} (h:w.ownsRow 0 e sz (.slice p n cap) n xs):∀ i,Q3 p i→i<w.heap.size:=fun i hi=>(ZZ h i hi).2
theorem J9 {P:Program} {w:World} {e sz m cap n:Nat} {p:Option Addr} {xs ys:List Value} {s:Sem Next} (h:∃ p' cap' w',s.run P w = .ok (.value (.slice p' n cap')) w'∧w'.ownsRow 0 e sz (.slice p' n cap') n ys∧Zg (Q3 p) w w' ∧ ∀ j,Q3 p' j→w.heap.size≤j∨Q3 p j) :
  ∃ (g:Gh) (w':World),s.run P w = .ok (.value (.slice (g.o 0) n (g.n 0))) w'∧Zg (X6 e sz p m cap xs).fp w w'∧(X6 e sz (g.o 0) n (g.n 0) ys).holds w'∧(∀ i,(X6 e sz (g.o 0) n (g.n 0) ys).fp i→i<w'.heap.size) ∧ ∀ i,(X6 e sz (g.o 0) n (g.n 0) ys).fp i→w.heap.size≤i∨(X6 e sz p m cap xs).fp i:=by
 obtain ⟨p',cap',w',h1,h2,h3,h4⟩:=h
 exact ⟨Gh.of (fun _=>cap') fun _=>p',w',h1,h3,fun w2 ha=>ZB h2 ha,qdL h2,h4⟩
theorem ZA {P:Program} {w:World} {e sz n cap:Nat} {p:Option Addr} {xs ys:List Value} {s:Sem Next} (h:∃ w',s.run P w = .ok .skip w'∧w'.ownsRow 0 e sz (.slice p n cap) n ys∧Zg (Q3 p) w w') :
  ∃ (g:Gh) (w':World),s.run P w = .ok .skip w'∧Zg (X6 e sz p n cap xs).fp w w'∧(X6 e sz p n cap ys).holds w'∧(∀ i,(X6 e sz p n cap ys).fp i→i<w'.heap.size) ∧ ∀ i,(X6 e sz p n cap ys).fp i→w.heap.size≤i∨(X6 e sz p n cap xs).fp i:=by
 obtain ⟨w',h1,h2,h3⟩:=h
 exact ⟨default,w',h1,h3,fun w2 ha=>ZB h2 ha,qdL h2,fun i hi=>.inr hi⟩
theorem qcS {P:Program} {w:World} {e sz m cap n:Nat} {p:Option Addr} {xs ys:List Value} {s:Sem Next} {F:KV} {C:Nat→Prop} (h:∃ p' cap' w',s.run P w = .ok (.value (.slice p' n cap')) w'∧w'.ownsRow 0 e sz (.slice p' n cap') n ys∧Zg (Q3 p) w w' ∧ ∀ j,Q3 p' j→w.heap.size≤j∨Q3 p j) (hF:F.holds w ∧ ∀ i,F.fp i→C i∧i<w.heap.size) :
  ∃ (g:Gh) (w':World),s.run P w = .ok (.value (.slice (g.o 0) n (g.n 0))) w'∧Zg (X6 e sz p m cap xs).fp w w'∧(X6 e sz (g.o 0) n (g.n 0) ys).holds w'∧(∀ i,(X6 e sz (g.o 0) n (g.n 0) ys).fp i→i<w'.heap.size)∧(∀ i,(X6 e sz (g.o 0) n (g.n 0) ys).fp i→w.heap.size≤i∨(X6 e sz p m cap xs).fp i)∧F.holds w ∧ ∀ i,F.fp i→C i∧i<w.heap.size:=by
 obtain ⟨g,w',h1,h2,h3,h4,h5⟩:=J9 (m:=m) (cap:=cap) (xs:=xs) h
 exact ⟨g,w',h1,h2,h3,h4,h5,hF⟩
theorem qeJ {G:Type} {w:World} {fr:Nat→Prop} {E:Part G} {L:List G} {y:G} {Ks:List KV} (hD:(X7 fr E L).holds w) (hm:X7 fr E L ∈ Ks) (hy:E.rd w y) (hf:∀ i,E.fp y i→JP Ks i∧fr i):(X7 fr E (L++[y])).holds w ∧ ∀ i,(X7 fr E (L++[y])).fp i→JP Ks i∧i<w.heap.size:=by
 have hr:=qeS (Xl hD) hy
 exact ⟨Z3 hr fun j hj=>(qcP hj).elim (V1 hD j) fun h=>(hf j h).2,fun i hi=>⟨(qcP hi).elim (fun h=>⟨_,hm,fun h=>h,h⟩) fun h=>(hf i h).1,hr.inb i hi⟩⟩
theorem ZN {Ks:List KV} {K:KV} {i:Nat} {fr:Nat→Prop} (hm:K ∈ Ks) (hx:¬ K.excl) (hi:K.fp i) (hf:fr i):JP Ks i∧fr i:=⟨⟨K,hm,hx,hi⟩,hf⟩
section
variable {T:Type} {P:Program} {w:World} {e e2 sz m cap:Nat} {en:T→List Value} {p:Option Addr} {H L:List (Sl T)} {s:Sem Next}
theorem qgc {i j:Nat} {q:Option Addr} {c:Nat} {l:List T} {y:T} (N:(Zn e e2 sz en p m cap L L).holds w) (hx:L[i]? = some ⟨q,c,l⟩)
  (h:w.ownsRow 0 e2 sz (.slice q l.length c) l.length (l.flatMap en) → ∃ w',s.run P w = .ok .skip w'∧w'.ownsRow 0 e2 sz (.slice q l.length c) l.length ((l.set j y).flatMap en)∧Zg (Q3 q) w w') :
  ∃ (g:Gh) (w':World),s.run P w = .ok .skip w'∧Zg (Zn e e2 sz en p m cap L L).fp w w'∧(Zn e e2 sz en p m cap (L.set i ⟨q,c,l.set j y⟩) (L.set i ⟨q,c,l.set j y⟩)).holds w'∧(∀ b,(Zn e e2 sz en p m cap (L.set i ⟨q,c,l.set j y⟩) (L.set i ⟨q,c,l.set j y⟩)).fp b→b<w'.heap.size) ∧ ∀ b,(Zn e e2 sz en p m cap (L.set i ⟨q,c,l.set j y⟩) (L.set i ⟨q,c,l.set j y⟩)).fp b→w.heap.size≤b∨(Zn e e2 sz en p m cap L L).fp b:=by
 have hN:=XS N
 obtain ⟨w',h1,h2,h3⟩:=h (hN.inn i _ hx)
 have hN1:=hN.turn (p':=q) (c':=c) (l':=l.set j y) hx (by simpa using h2) h3 fun b hb=>.inr hb
 have he:(L.set i (⟨q,c,l.set j y⟩:Sl T)).flatMap Qs=L.flatMap Qs:=by
  have hi:=(List.getElem?_eq_some_iff.1 hx)
  obtain ⟨hlt,hget⟩:=hi
  apply List.ext_getElem?
  intro k
  have e1:∀ M:List (Sl T),M.flatMap Qs=M.map fun x=>Value.slice x.p x.l.length x.cap:=fun M=>by
   induction M with
   | nil=>rfl
   | cons x r ih=>rw [List.flatMap_cons,ih]; rfl
  rw [e1,e1,List.getElem?_map,List.getElem?_map,List.getElem?_set]
  by_cases ek:i=k
  ·subst ek
   rw [if_pos rfl,if_pos hlt,hx]
   simp
  ·rw [if_neg ek]
 have hN2:X2 w' e e2 sz en p m cap (L.set i ⟨q,c,l.set j y⟩) (L.set i ⟨q,c,l.set j y⟩):=⟨by rw [he]; exact hN1.hd,hN1.inn,hN1.apart,hN1.off⟩
 exact ⟨default,w',h1,h3.mono fun b hb=>.inr ⟨i,_,hx,hb⟩,hN2.holds,hN2.lt,fun b hb=>qaF (w:=w) hx (fun b hb=>.inr hb) hb⟩
theorem qcu {i:Nat} {q:Option Addr} {c:Nat} {l l':List T} (N:(Zn e e2 sz en p m cap H L).holds w) (hx:L[i]? = some ⟨q,c,l⟩)
  (h:w.ownsRow 0 e2 sz (.slice q l.length c) l.length (l.flatMap en) → ∃ p' cap' w',s.run P w = .ok (.value (.slice p' l'.length cap')) w'∧w'.ownsRow 0 e2 sz (.slice p' l'.length cap') l'.length (l'.flatMap en)∧Zg (Q3 q) w w' ∧ ∀ j,Q3 p' j→w.heap.size≤j∨Q3 q j) :
  ∃ (g:Gh) (w':World),s.run P w = .ok (.value (.slice (g.o 0) l'.length (g.n 0))) w'∧Zg (Zn e e2 sz en p m cap H L).fp w w'∧(Zn e e2 sz en p m cap H (L.set i ⟨g.o 0,g.n 0,l'⟩)).holds w'∧(∀ b,(Zn e e2 sz en p m cap H (L.set i ⟨g.o 0,g.n 0,l'⟩)).fp b→b<w'.heap.size) ∧ ∀ b,(Zn e e2 sz en p m cap H (L.set i ⟨g.o 0,g.n 0,l'⟩)).fp b→w.heap.size≤b∨(Zn e e2 sz en p m cap H L).fp b:=by
 have hN:=XS N
 obtain ⟨p',cap',w',h1,h2,h3,h4⟩:=h (hN.inn i _ hx)
 have hN1:=hN.turn hx h2 h3 h4
 exact ⟨Gh.of (fun _=>cap') fun _=>p',w',h1,h3.mono fun b hb=>.inr ⟨i,_,hx,hb⟩,hN1.holds,hN1.lt,fun b hb=>qaF (w:=w) hx h4 hb⟩
theorem qd4 {H':List (Sl T)} (N:(Zn e e2 sz en p m cap H L).holds w) (h:w.ownsRow 0 e 1 (.slice p m cap) m (H.flatMap Qs) → ∃ w',s.run P w = .ok .skip w'∧w'.ownsRow 0 e 1 (.slice p m cap) m (H'.flatMap Qs)∧Zg (Q3 p) w w') :
  ∃ (g:Gh) (w':World),s.run P w = .ok .skip w'∧Zg (Zn e e2 sz en p m cap H L).fp w w'∧(Zn e e2 sz en p m cap H' L).holds w'∧(∀ b,(Zn e e2 sz en p m cap H' L).fp b→b<w'.heap.size) ∧ ∀ b,(Zn e e2 sz en p m cap H' L).fp b→w.heap.size≤b∨(Zn e e2 sz en p m cap H L).fp b:=by
 have hN:=XS N
 obtain ⟨w',h1,h2,h3⟩:=h hN.hd
 have hN1:=hN.head h2 h3 fun b hb=>.inr hb
 exact ⟨default,w',h1,h3.mono fun b hb=>.inl hb,hN1.holds,hN1.lt,fun b hb=>.inr hb⟩
theorem qcM {i n2:Nat} {q:Option Addr} {c:Nat} {l:List T} (N:(Zn e e2 sz en p m cap L L).holds w) (ho:(X6 e2 sz q n2 c (l.flatMap en)).holds w) (hd:∀ b,(X6 e2 sz q n2 c (l.flatMap en)).fp b → ¬ (Zn e e2 sz en p m cap L L).fp b∧b<w.heap.size) (hen:∀ x,(en x).length=sz) (hz:0<sz)
  (h:n2=l.length→w.ownsRow 0 e 1 (.slice p m cap) m (L.flatMap Qs) → ∃ w',s.run P w = .ok .skip w'∧w'.ownsRow 0 e 1 (.slice p m cap) m ((L.set i ⟨q,c,l⟩).flatMap Qs)∧Zg (Q3 p) w w') :
  ∃ (g:Gh) (w':World),s.run P w = .ok .skip w'∧Zg (Zn e e2 sz en p m cap L L).fp w w'∧(Zn e e2 sz en p m cap (L.set i ⟨q,c,l⟩) (L.set i ⟨q,c,l⟩)).holds w'∧(∀ b,(Zn e e2 sz en p m cap (L.set i ⟨q,c,l⟩) (L.set i ⟨q,c,l⟩)).fp b→b<w'.heap.size) ∧ ∀ b,(Zn e e2 sz en p m cap (L.set i ⟨q,c,l⟩) (L.set i ⟨q,c,l⟩)).fp b→w.heap.size≤b∨(Zn e e2 sz en p m cap L L).fp b∨(X6 e2 sz q n2 c (l.flatMap en)).fp b:=by
 have hN:=XS N
 have hw:=Qe ho
 have hn:=JZ hw hen hz
 subst hn
 obtain ⟨w',h1,h2,h3⟩:=h rfl hN.hd
 have hN1:=hN.head h2 h3 fun b hb=>.inr hb
 have hN2:=hN1.takeSet (Vf hw h3 fun b h1 h2=>(hd b h1).1 (.inl h2)) (fun b hb=>(hd b hb).1) i
 exact ⟨default,w',h1,h3.mono fun b hb=>.inl hb,hN2.holds,hN2.lt,fun b hb=>.inr (qd8 hb)⟩
theorem qeX {n2:Nat} {q:Option Addr} {c:Nat} {l:List T} (N:(Zn e e2 sz en p m cap L L).holds w) (ho:(X6 e2 sz q n2 c (l.flatMap en)).holds w) (hd:∀ b,(X6 e2 sz q n2 c (l.flatMap en)).fp b → ¬ (Zn e e2 sz en p m cap L L).fp b∧b<w.heap.size) (hen:∀ x,(en x).length=sz) (hz:0<sz)
  (h:n2=l.length→w.ownsRow 0 e 1 (.slice p m cap) m (L.flatMap Qs) → ∃ p' cap' w',s.run P w = .ok (.value (.slice p' (L++[(⟨q,c,l⟩:Sl T)]).length cap')) w'∧w'.ownsRow 0 e 1 (.slice p' (L++[(⟨q,c,l⟩:Sl T)]).length cap') (L++[(⟨q,c,l⟩:Sl T)]).length ((L++[(⟨q,c,l⟩:Sl T)]).flatMap Qs)∧Zg (Q3 p) w w' ∧ ∀ j,Q3 p' j→w.heap.size≤j∨Q3 p j) :
  ∃ (g:Gh) (w':World),s.run P w = .ok (.value (.slice (g.o 0) (L++[(⟨q,c,l⟩:Sl T)]).length (g.n 0))) w'∧Zg (Zn e e2 sz en p m cap L L).fp w w'∧(Zn e e2 sz en (g.o 0) (L++[(⟨q,c,l⟩:Sl T)]).length (g.n 0) (L++[⟨q,c,l⟩]) (L++[⟨q,c,l⟩])).holds w'∧(∀ b,(Zn e e2 sz en (g.o 0) (L++[(⟨q,c,l⟩:Sl T)]).length (g.n 0) (L++[⟨q,c,l⟩]) (L++[⟨q,c,l⟩])).fp b→b<w'.heap.size) ∧
   ∀ b,(Zn e e2 sz en (g.o 0) (L++[(⟨q,c,l⟩:Sl T)]).length (g.n 0) (L++[⟨q,c,l⟩]) (L++[⟨q,c,l⟩])).fp b→w.heap.size≤b∨(Zn e e2 sz en p m cap L L).fp b∨(X6 e2 sz q n2 c (l.flatMap en)).fp b:=by
 have hN:=XS N
 have hw:=Qe ho
 have hn:=JZ hw hen hz
 subst hn
 obtain ⟨p',cap',w',h1,h2,h3,h4⟩:=h rfl hN.hd
 have hN1:=hN.head h2 h3 h4
 have hnew:∀ b,Q3 q b → ¬ JY p' L b:=fun b hb hb'=>by
  rcases qaW (w:=w) h4 hb' with h5 | h5
  ·have:=(hd b hb).2; omega
  ·exact (hd b hb).1 h5
 have hN2:=hN1.takeApp (Vf hw h3 fun b h1 h2=>(hd b h1).1 (.inl h2)) hnew
 refine ⟨Gh.of (fun _=>cap') fun _=>p',w',h1,h3.mono fun b hb=>.inl hb,hN2.holds,hN2.lt,fun b hb=>?_⟩
 rcases qbY hb with h5 | h5
 ·exact (qaW (w:=w) h4 h5).imp id .inl
 ·exact .inr (.inr h5)
end
theorem QS.nest0 {T:Type} {B n:Nat} {w0:World} {S:St} {a:Act} {w:World} {e m cap:Nat} {p:Option Addr} {H:List (Sl T)} (h:QS B w0 n S a w) (k e2 sz:Nat) (en:T→List Value) (hk:S k=X6 e 1 p m cap (H.flatMap Qs)) (h0:∀ x ∈ H,x=(⟨none,0,[]⟩:Sl T)):QS B w0 n (YU S k (Zn e e2 sz en p m cap H H)) a w :=
 h.conv k (Zn e e2 sz en p m cap H H) hk trivial (by intro c x h; cases h) (fun w hw=>(qdE (Qe hw) h0).holds) (fun i hi=>qeA h0 hi)
theorem qaf {T:Type} {P:Program} {ops:Array Oper} {B:Nat} {w0:World} {n i:Nat} {o:Oper} {Spre:Nu→St} {R:List Nat} {d k:Nat} {X:Nu→KV} {p:Nu→Option Addr} {cap:Nu→Nat} {e m:Nat} {H:List (Sl T)} (e2 sz:Nat) (en:T→List Value)
  (h:OpOK P ops B w0 n i o Spre R (fun ν=>[(d,X ν),(k,X6 e 1 (p ν) m (cap ν) (H.flatMap Qs))])) (h0:∀ x ∈ H,x=(⟨none,0,[]⟩:Sl T)):OpOK P ops B w0 n i o Spre R (fun ν=>[(d,X ν),(k,Zn e e2 sz en (p ν) m (cap ν) H H)]) :=
 qbp h fun ν S a w hr=>by
  have h1:QS B w0 n (YU (YU S d (X ν)) k (X6 e 1 (p ν) m (cap ν) (H.flatMap Qs))) a w:=hr
  have h2:=h1.nest0 k e2 sz en (qE _ _ _) h0
  refine h2.congr fun j=>?_
  show YU (YU S d (X ν)) k _ j=YU (YU (YU S d (X ν)) k _) k _ j
  by_cases ej:j=k
  ·subst ej; rw [qE,qE]
  ·rw [qJ _ _ ej,qJ _ _ ej,qJ _ _ ej]
end Go.Sx
namespace Go.Sx
open Go Go.RowKit
theorem QS.nestOpen {T:Type} {B n:Nat} {w0:World} {S:St} {a:Act} {w:World} {e m cap:Nat} {p:Option Addr} {H:List (Sl T)} (h:QS B w0 n S a w) (k e2 sz:Nat) (en:T→List Value) (hk:S k=X6 e 1 p m cap (H.flatMap Qs)):QS B w0 n (YU S k (Zn e e2 sz en p m cap H [])) a w :=
 h.conv k (Zn e e2 sz en p m cap H []) hk trivial (by intro c x h; cases h) (fun w hw=>X2.holds ⟨Qe hw,fun i x h=>by simp at h,fun i j x y _ h=>by simp at h,fun i x h=>by simp at h⟩) (fun i hi=>by
  rcases hi with hi | ⟨j,x,h,_⟩
  ·exact hi
  ·simp at h)
theorem QS.nestTake {T:Type} {B n:Nat} {w0:World} {S:St} {a:Act} {w:World} {e e2 sz m cap n2 c:Nat} {en:T→List Value} {p q:Option Addr} {H L:List (Sl T)} {l:List T} (h:QS B w0 n S a w) (k k2:Nat) (hk:S k=Zn e e2 sz en p m cap H L) (hk2:S k2=X6 e2 sz q n2 c (l.flatMap en)) (hne:Nat.beq k k2=false) (hen:∀ x,(en x).length=sz) (hz:0<sz) :
  QS B w0 n (YU (YU S k2 .none) k (Zn e e2 sz en p m cap H (L++[(⟨q,c,l⟩:Sl T)]))) a w:=by
 have hne':k≠k2:=fun e=>by rw [e,show Nat.beq k2 k2=true from Nat.beq_refl k2] at hne; cases hne
 have hN:X2 w e e2 sz en p m cap H L:=XS (by rw [← hk]; exact h.holds k)
 have ho:w.ownsRow 0 e2 sz (.slice q n2 c) n2 (l.flatMap en):=Qe (by rw [← hk2]; exact h.holds k2)
 have hn:=JZ ho hen hz
 subst hn
 have hx:(S k).excl:=by rw [hk]; trivial
 have hx2:(S k2).excl:=by rw [hk2]; trivial
 have hd:∀ b,Q3 q b → ¬ JY p L b:=fun b hb hb'=>h.disj k2 k b (Ne.symm hne') hx2 (by rw [hk2]; exact hb) (by rw [hk]; exact hb')
 have hN2:=hN.takeApp ho hd
 have h0:QS B w0 n (YU (YU S k2 .none) k .none) a w:=h.weak fun j=>by
  by_cases e:j=k
  ·subst e; rw [qE]; exact .inl rfl
  ·rw [qJ _ _ e]
   by_cases e2:j=k2
   ·subst e2; rw [qE]; exact .inl rfl
   ·rw [qJ _ _ e2]; exact .inr rfl
 have hcase:∀ b,JY p (L++[⟨q,c,l⟩]) b→(S k).fp b∨(S k2).fp b:=fun b hb=>(qbY hb).imp (fun h=>by rw [hk]; exact h) fun h=>by rw [hk2]; exact h
 refine (h0.ent k (Zn e e2 sz en p m cap H (L++[(⟨q,c,l⟩:Sl T)])) (by intro c x h; cases h) hN2.holds hN2.lt (fun _ i hi=>(hcase i hi).elim (h.ge k i hx) (h.ge k2 i hx2)) fun k' i hne2 _ hi hi'=>?_).congr fun j=>?_
 ·rw [qJ _ _ hne2] at hi'
  by_cases e2:k'=k2
  ·subst e2; rw [qE] at hi'; exact hi'
  ·rw [qJ _ _ e2] at hi'
   rcases hcase i hi with h3 | h3
   ·exact h.disj k k' i (Ne.symm hne2) hx h3 hi'
   ·exact h.disj k2 k' i (Ne.symm e2) hx2 h3 hi'
 ·by_cases e:j=k
  ·subst e; rw [qE,qE]
  ·rw [qJ _ _ e,qJ _ _ e,qJ _ _ e]
end Go.Sx
namespace Go.Sx
open Go Go.RowKit
theorem QR {P:Program} {B n:Nat} {w0:World} {S:St} {a:Act} {w:World} (hr:QS B w0 n S a w) {fn:Func} (v:Gh→Value) (g:Gh) (Ms Fs:List KV) (Es:Gh→List VU) (fr:Nat→Prop) (ks:List Nat) (segs:List (Nat × Seg)) (v0:Value) (Es0:List VU)
  (hv:v g=v0) (hEs:Es g=Es0) (hfr:fr=JH w0.heap.size Fs) (hcase:(B=w0.heap.size∧Ms=[])∨S KFr=frM Ms w0) (hE:∀ K ∈ Es0,VU.OK K)
  (hs:∀ p ∈ segs,(∃ e,S p.1 = .blk p.2.b p.2.cs e)∧Nat.ble (p.2.off+p.2.m) p.2.cs.length=true)
  (hks:ks.map S=Es0.map (fun K=>K fr):=by kernel_rfl) (hnd:(Jp ks && !(ks.contains KFr))=true:=by rfl)
  (hk:(fn.results.toList).all (fun x=>Zj (S (Wz x)))=true:=by kernel_rfl)
  (hp:Je P (Zi fn (fun t=>ZI S (.tmp t))) (qbn (segs.map (·.2))) []=some (v0,qaE (segs.map (·.2))):=by kernel_rfl) :
  bodyPost P fn (fun e w'=>∃ g:Gh,e = .returned (v g)∧Zg (Y4 Ms) w0 w'∧Ys w0.heap.size (Y4 Ms) (JH w0.heap.size Fs) (Es g) w') .ret a w:=by
 subst hv hEs
 exact qeW hr v g Ms Fs Es fr ks segs hfr hcase hks hnd hE hk hs hp
theorem QS.dup {B n:Nat} {w0:World} {S:St} {a:Act} {w:World} (h:QS B w0 n S a w) (k k2:Nat) {K:KV} (hk:S k=K) (hx:¬ K.excl) (hs:∀ c x,K ≠ .slot c x):QS B w0 n (YU S k2 K) a w :=
 h.addF k2 K [k] [K] (by rw [List.map_singleton,hk]) hx hs (fun hF=>hF.1) fun hF i hi=>⟨K,by simp,hx,hi⟩
theorem qbs {P:Program} {ops:Array Oper} {B:Nat} {w0:World} {n i:Nat} {o:Oper} {Spre:Nu→St} {R:List Nat} {u:Nu→List (Nat × KV)} (us:Nu→List (Nat × KV)) (h:OpOK P ops B w0 n i o Spre R u)
  (hu:∀ ν S a w,QS B w0 n (Qg S (u ν)) a w→QS B w0 n (Qg (Qg S (u ν)) (us ν)) a w):OpOK P ops B w0 n i o Spre R (fun ν=>u ν++us ν) :=
 qbp h fun ν S a w hr=>by rw [JC]; exact hu ν S a w hr
end Go.Sx
namespace Go.Sx
open Go Go.RowKit
end Go.Sx
namespace Go.Sx
open Go Go.RowKit
section
variable {fr:Nat→Prop} {Ks:List KV} {w:World}
theorem q9 {sz n cap:Nat} {p:Option Addr} {xs:List Value} (R:XO w sz p n cap xs) (hf:∀ i,Z4 p n i → ∃ K' ∈ Ks,K'.fp i) (hs:0<sz:=by decide):qbX false fr Ks w (YZ qk sz p n cap xs) :=
 ⟨Z9 R hs,fun i hi=>by obtain ⟨K,h1,h2⟩:=hf i hi; exact ⟨K,h1,h2,fun h=>by cases h⟩⟩
theorem Zx {sz n cap:Nat} {p:Option Addr} {xs:List Value} (R:XO w sz p n cap xs) (hf:∀ i,Z4 p n i→JP Ks i∧fr i) (hs:0<sz:=by decide):qbX true fr Ks w (YZ qk sz p n cap xs) :=
 ⟨Z9 R hs,fun i hi=>by obtain ⟨⟨K,h1,h2,h3⟩,h4⟩:=hf i hi; exact ⟨K,h1,h3,fun _=>⟨h2,h4⟩⟩⟩
theorem J7 {G:Type} {E:Part G} {L:List G} (R:RdL E w L) (hf:∀ i,fpL E L i → ∃ K' ∈ Ks,K'.fp i):qbX false fr Ks w (X7 qk E L) :=
 ⟨dnA R,fun i hi=>by obtain ⟨K,h1,h2⟩:=hf i hi; exact ⟨K,h1,h2,fun h=>by cases h⟩⟩
theorem qbh {G:Type} {E:Part G} {L:List G} (R:RdL E w L) (hf:∀ i,fpL E L i→JP Ks i∧fr i):qbX true fr Ks w (X7 qk E L) :=
 ⟨dnA R,fun i hi=>by obtain ⟨⟨K,h1,h2,h3⟩,h4⟩:=hf i hi; exact ⟨K,h1,h3,fun _=>⟨h2,h4⟩⟩⟩
theorem Z6 {K:KV} (h:K.holds w) (hm:K ∈ Ks):qbX false fr Ks w K:=⟨h,fun i hi=>⟨K,hm,hi,fun h=>by cases h⟩⟩
end
end Go.Sx
namespace Go.Sx
open Go Go.RowKit
theorem Qv {K:VU} {Es:List VU} (h:(K qk).excl) (r:∀ K ∈ Es,(K qk).excl):∀ K' ∈ K :: Es,(K' qk).excl:=fun K' hK=>by
 rcases List.mem_cons.1 hK with rfl | hK
 ·exact h
 ·exact r K' hK
theorem Yf {T:Type} {x:List (List T)} {L:List (Sl T)} (h:x=L.map Sl.l) {i:Nat} {t:List T} (ht:x[i]? = some t):∃ p c,L[i]? = some ⟨p,c,t⟩:=by
 obtain ⟨⟨p,c,l⟩,hy,rfl⟩:=qcO h ht
 exact ⟨p,c,hy⟩
end Go.Sx
namespace Go.Sx
open Go Go.RowKit
structure qfv (p:Option Addr) (n m:Nat):Prop where
 len:n=m
 ptr:n=0 ∨ ∃ b off,p=some ⟨b,off,none⟩
theorem QS.at {B n:Nat} {w0:World} {S:St} {a:Act} {w:World} (h:QS B w0 n S a w) (k:Nat) {K:KV} (hk:S k=K):K.holds w:=hk ▸ h.holds k
theorem Xh {T:Type} {w:World} {sz n:Nat} {p:Option Addr} {en:T→List Value} {l:List T} (R:Zs w sz p n (l.flatMap en)) (hen:∀ x,(en x).length=sz) (hs:0<sz:=by decide):qfv p n l.length :=
 ⟨R.len hen hs,R.2.imp id fun ⟨b,off,h,_⟩=>⟨b,off,h⟩⟩
theorem qM {X:Type} {P:Program} {w:World} {t:TypeId} {p:Option Addr} {n cap m:Nat} {k:IntKind} {i:Int} {sz:Nat} {x:List X} {s:Sem Next} (R:qfv p n m) (hl:x.length=m) (h:0≤i∧i<(x.length:Int))
  (hs:s=Sem.bind (Instr.indexAt t (.slice p n cap) (.int k i)) fun v=>Sem.pure (Next.value v)) (hu:P.underlying t=some (.slice (P.elem t)):=by kernel_rfl) (he:(P.info? (P.elem t)).map (·.size)=some sz:=by kernel_rfl) :
  s.run P w = .ok (.value (.pointer (some ⟨Xf p,Xg p+i.toNat * sz,none⟩))) w:=by
 have hn:=R.len
 subst hs
 rcases R.ptr with h0 | ⟨b,off,rfl⟩
 ·omega
 ·exact JQ hu he ⟨h.1,by omega⟩
end Go.Sx
set_option linter.unusedVariables false
set_option linter.unusedSimpArgs false
namespace Go.Sx
open Go Go.RowKit
section
variable {P:Program} {N R:K} {xs:List (Nat × K)} {a:Act} {w:World} {B n id:Nat} {w0:World} {ops:Array Oper} {draw:Bool} {S0:St} {Se:Nu→St} {rw:List (List Nat × List Nat)}
theorem Qt (hm:P.follows .mixedOrders=true) (hr:QS B w0 n S0 a w) (hc:Y3 P ops B w0 n 0 ops.toList (fun _=>S0) rw Se) (ks:List Nat) (hQ:∀ ν a w,QS B w0 n (kpS ks (Se ν)) a w→N a w)
  (hi:(!draw || (VF ops.toList rw [] && Zo ops.toList 0))=true:=by kernel_rfl):(Code.region id ops draw).wp P (Zv N xs R) a w:=Ju hm hr hc (fun ν a w h=>hQ ν a w (h.kp ks)) hi
theorem qg {y:Code} (hm:P.follows .mixedOrders=true) (hr:QS B w0 n S0 a w) (hc:Y3 P ops B w0 n 0 ops.toList (fun _=>S0) rw Se) (ks:List Nat) (hQ:∀ ν a w,QS B w0 n (kpS ks (Se ν)) a w→y.wp P (Zv N xs R) a w)
  (hi:(!draw || (VF ops.toList rw [] && Zo ops.toList 0))=true:=by kernel_rfl):(Code.seq (Code.region id ops draw) y).wp P (Zv N xs R) a w:=qv (Qt hm hr hc ks hQ hi)
theorem Qx {S:St} {c:Operand} {x y:Code} (hr:QS B w0 n S a w) (t:Bool) (ht:t=true→x.wp P (Zv N xs R) a w) (hf:t=false→y.wp P (Zv N xs R) a w) (hk:Q2 S c=true:=by kernel_rfl) (he:ZI S c = .bool t:=by kernel_rfl):(Code.cond c x y).wp P (Zv N xs R) a w:=qal hr hk he ht hf
end
theorem sj {α:Type} {a b:α} (h:some a=some b):a=b:=Option.some.inj h
theorem ZX (p:Option Addr) (c:Nat):∃ g:Gh,g.o 0=p∧g.n 0=c:=⟨⟨fun _=>c,fun _=>p,fun _=>⟨Unit,()⟩⟩,rfl,rfl⟩
theorem qb6 {G T:Type} {er:G→T} (gd:T→G) (p:Option Addr) (c:Nat) {x:List T} {L:List G} (h:x=L.map er):∃ g:Gh,g.o 0=p∧g.n 0=c∧g.dl er gd 0 x=L:=⟨⟨fun _=>c,fun _=>p,fun _=>⟨_,L⟩⟩,rfl,rfl,qcX rfl h⟩
abbrev Qm {T:Type} (e:TypeId) (sz:Nat) (p:Option Addr) (c:Nat) (l:List T) (en:T→List Value):KV:=X6 e sz p l.length c (l.flatMap en)
abbrev RL (w0:World) (n:Nat) (l:List (Nat × KV)) (a:Act) (w:World):Prop:=QS w0.heap.size w0 n (Jl l) a w
theorem Ym {T:Type} {P:Program} {w:World} (en:T→List Value) {sz n:Nat} {p:Option Addr} {l:List T} {s:Sem Next} {i:Nat} {x:T} {v:Value} (R:Zs w sz p n (l.flatMap en)) (hen:∀ x,(en x).length=sz) (hx:l[i]? = some x) (f m:Nat) (vs:List Value) (hvs:((en x).drop f).take m=vs:=by rfl)
  (hp:Je P s vs []=some (.value v,Y8 (Xf p) (Xg p+i * sz+f) m):=by kernel_rfl) (hz:0<sz:=by decide):s.run P w = .ok (.value v) w:=qch R hen hx f m vs hvs hp hz
theorem Jo {T X:Type} {P:Program} {w:World} (t:TypeId) (k:IntKind) (i:Int) (p:Option Addr) (n cap:Nat) (x:List X) {sz:Nat} (en:T→List Value) {l:List T} {s:Sem Next} (R:Zs w sz p n (l.flatMap en)) (hen:∀ x,(en x).length=sz) (hl:x.length=l.length) (h:0≤i∧i<(x.length:Int))
  (hs:s=Sem.bind (Instr.indexAt t (.slice p n cap) (.int k i)) fun v=>Sem.pure (Next.value v):=by kernel_rfl) (hu:P.underlying t=some (.slice (P.elem t)):=by kernel_rfl) (he:(P.info? (P.elem t)).map (·.size)=some sz:=by kernel_rfl) (hz:0<sz:=by decide) :
  s.run P w = .ok (.value (.pointer (some ⟨Xf p,Xg p+i.toNat * sz,none⟩))) w:=qbb R hen hl h hs hu he hz
theorem VE (w:World) (Fs:List KV):∃ fr:Nat→Prop,fr=JH w.heap.size Fs ∧ ∀ j,w.heap.size≤j→fr j:=⟨_,rfl,fun j h=>.inl h⟩
section
variable {P:Program} {ops:Array Oper} {B:Nat} {w0:World} {n:Nat} {i:Nat} {o:Oper} {Spre:Nu→St}
theorem qgx (ks:List Nat) (Ks:List KV) (v:Value) (d:Nat) (hv:∀ ν w,Xx Ks w→(execOp (YD (Spre ν)) o).run P w = .ok (.value v) w)
  (hK:∀ ν,ks.map (Spre ν)=Ks:=by intro _; kernel_rfl) (hd:o.dst=some d:=by rfl) (hdn:Nat.blt d n=true:=by rfl) (hsel:YG o=true:=by rfl) (hg:o.guard=none:=by rfl)
  (hk:∀ ν,(o.op.operands.all (Q2 (Spre ν)))=true:=by intro _; kernel_rfl) (hp:∀ ν,(Xo o (Spre ν)).all id=true:=by intro _; kernel_rfl) :
  OpOK P ops B w0 n i o Spre (ks++Xn ops o) (fun _=>[(d,.slot true v)]) :=
 qda ks (fun _=>v) (fun _=>true) (o.op.operands.toList.map fun _=>true) d (fun ν w _ h=>hv ν w (Vy ks _ (hK ν) h)) hd hdn hsel (fun ν=>by unfold YK; rw [hg]) hk (fun ν=>by
  have:=hp ν
  simp only [List.all_eq_true] at this
  rw [Xo] at this ⊢
  simp only [List.map_map]
  exact List.map_congr_left fun x hx=>this _ (List.mem_map.2 ⟨x,hx,rfl⟩))
theorem qG (k:Nat) (Kv:KV) (v:Value) (d:Nat) (hv:∀ ν w,Kv.holds w→(execOp (YD (Spre ν)) o).run P w = .ok (.value v) w)
  (hK:∀ ν,Spre ν k=Kv:=by intro _; kernel_rfl) (hd:o.dst=some d:=by rfl) (hdn:Nat.blt d n=true:=by rfl) (hsel:YG o=true:=by rfl) (hg:o.guard=none:=by rfl)
  (hk:∀ ν,(o.op.operands.all (Q2 (Spre ν)))=true:=by intro _; kernel_rfl) (hp:∀ ν,(Xo o (Spre ν)).all id=true:=by intro _; kernel_rfl) :
  OpOK P ops B w0 n i o Spre ([k]++Xn ops o) (fun _=>[(d,.slot true v)]) :=
 qgx [k] [Kv] v d (fun ν w h=>hv ν w h.1) (fun ν=>by rw [List.map_singleton,hK ν]) hd hdn hsel hg hk hp
theorem Qa (k off:Nat) (b:Nat) (cs vs:List Value) (e:TypeId) (cs':List Value) (hc:lay cs off vs=cs':=by kernel_rfl) (hd:o.dst=none:=by rfl) (hg:o.guard=none:=by rfl) (hkn:Nat.ble n k=true:=by rfl) (hsel:YG o=true:=by rfl)
  (hk:∀ ν,(o.op.operands.all (Q2 (Spre ν)))=true:=by intro _; kernel_rfl) (hp:∀ ν,(Xo o (Spre ν)).all id=true:=by intro _; kernel_rfl)
  (hb:∀ ν,Spre ν k = .blk b cs e:=by intro _; kernel_rfl) (hlen:Nat.ble (off+vs.length) cs.length=true:=by kernel_rfl)
  (hv:∀ ν,VT P (execOp (YD (Spre ν)) o) []=some (.skip,(Y8 b off vs.length).zip vs):=by intro _; kernel_rfl) :
  OpOK P ops B w0 n i o Spre (k :: Xn ops o) (fun _=>[(k,.blk b cs' e)]) :=
 QL (qW k off (fun _=>b) (fun _=>cs) (fun _=>vs) e hd hg hkn hsel hk hp hb (fun _=>hlen) hv) (fun _=>by rw [hc])
theorem qf (v:Value) (d k off m:Nat) (b:Nat) (cs:List Value) (e:TypeId) (hd:o.dst=some d:=by rfl) (hdn:Nat.blt d n=true:=by rfl) (hsel:YG o=true:=by rfl) (hg:o.guard=none:=by rfl)
  (hb:∀ ν,Spre ν k = .blk b cs e:=by intro _; kernel_rfl)
  (hk:∀ ν,(o.op.operands.all (Q2 (Spre ν)))=true:=by intro _; kernel_rfl)
  (hp:∀ ν,(Xo o (Spre ν)).all id=true:=by intro _; kernel_rfl)
  (hv:∀ ν,Je P (execOp (YD (Spre ν)) o) ((cs.drop off).take m) []=some (.value v,Y8 b off m):=by intro _; kernel_rfl) :
  OpOK P ops B w0 n i o Spre (k :: Xn ops o) (fun ν=>[(d,.slot true v)]):=VH (fun _=>v) d k off m (fun _=>b) (fun _=>cs) e hd hdn hsel hg hb hk hp hv
end
end Go.Sx
set_option linter.unusedVariables false
set_option linter.unusedSimpArgs false
set_option linter.unusedSectionVars false
namespace Go.Sx
open Go Go.RowKit
def Wf {T:Type} (ek:T→Value) (vk:IntKind):Nat→List (T × Int)→List MapEntry
 | _,[]=>[]
 | i,e :: r=>⟨ek e.1,.int vk e.2,i⟩ :: Wf ek vk (i+1) r
def mpO {T:Type} (ek:T→Value) (vk:IntKind) (l:List (T × Int)):Obj:=.map (Wf ek vk 0 l).toArray l.length
abbrev VJ {T:Type} (b:Nat) (ek:T→Value) (vk:IntKind) (l:List (T × Int)):KV:=JR b (mpO ek vk l)
theorem qcT {T:Type} (ek:T→Value) (vk:IntKind):∀ (l:List (T × Int)) (i:Nat),(Wf ek vk i l).length=l.length
 | [],_=>rfl
 | e :: r,i=>by rw [Wf,List.length_cons,qcT ek vk r,List.length_cons]
theorem WW {T:Type} (ek:T→Value) (vk:IntKind) (x:T) (v:Int):∀ (l:List (T × Int)) (i:Nat),Wf ek vk i (l++[(x,v)])=Wf ek vk i l++[⟨ek x,.int vk v,i+l.length⟩]
 | [],i=>rfl
 | e :: r,i=>by
  show (⟨_,_,_⟩:MapEntry) :: Wf ek vk (i+1) (r++[(x,v)])=_
  rw [WW ek vk x v r (i+1),List.length_cons,show i+1+r.length=i+(r.length+1) by omega]
  rfl
theorem qd3 {T:Type} (ek:T→Value) (vk:IntKind) (x:T) (v:Int) (l:List (T × Int)):Obj.map ((Wf ek vk 0 l).toArray.push ⟨ek x,.int vk v,l.length⟩) (l.length+1)=mpO ek vk (l++[(x,v)]):=by
 unfold mpO
 rw [WW,Nat.zero_add,List.length_append,List.length_singleton,List.push_toArray]
structure qaQ {T:Type} [DecidableEq T] (P:Program) (kt:TypeId) (ek:T→Value):Prop where
 chk:∀ (w:World) (em:Bool) (x:T),(Instr.checkKey em 10000 kt (ek x)).run P w = .ok () w
 find:∀ (w:World) (vk:IntKind) (x:T) (l:List (T × Int)),(Instr.findKey kt (ek x) (Wf ek vk 0 l)).run P w = .ok ((JL x 0 l).map fun q=>(q.1,.int vk q.2)) w
theorem Vk {T:Type} [DecidableEq T] {P:Program} {kt:TypeId} {ek:T→Value} (heq:∀ (w:World) (x y:T),(Op.equal kt (ek x) (ek y)).run P w = .ok (decide (x=y)) w) (w:World) (vk:IntKind) (x:T) :
  ∀ (l:List (T × Int)) (i:Nat),(Instr.findAsking kt (ek x) (Wf ek vk i l) i).run P w = .ok ((JL x i l).map fun q=>(q.1,.int vk q.2)) w
 | [],i=>by simp [Wf,JL,Instr.findAsking]
 | e :: r,i=>by
  rw [Wf,JL,Instr.findAsking]
  by_cases h:x=e.1
  ·rw [if_pos h]; simp [heq,h]
  ·rw [if_neg h]; simp [heq,h,Vk heq w vk x r (i+1)]
theorem qdq {T:Type} [DecidableEq T] {P:Program} {kt:TypeId} {ek:T→Value} (hs:(match P.underlying kt with | some (.struct _)=>true | _=>false)=true) (hc:∀ (w:World) (em:Bool) (x:T),(Instr.checkKey em 10000 kt (ek x)).run P w = .ok () w)
  (he:∀ x y,eqV P 10000 kt (ek x) (ek y)=some (decide (x=y))):qaQ P kt ek where
 chk:=hc
 find w vk x l:=by
  obtain ⟨fs,hu⟩:∃ fs,P.underlying kt=some (.struct fs):=by
   split at hs
   ·exact ⟨_,by assumption⟩
   ·cases hs
  have h1:(Instr.findKey kt (ek x) (Wf ek vk 0 l)).run P w=(Instr.findAsking kt (ek x) (Wf ek vk 0 l)).run P w:=by
   cases l with
   | nil=>simp [Wf,Instr.findKey,run_underlying hu,Instr.findNow,Instr.findAsking]
   | cons e r=>simp [Wf,Instr.findKey,run_underlying hu,Instr.findNow,Instr.sameNow]
  rw [h1]
  exact Vk (fun w x y=>qbB 10000 kt _ _ _ (he x y) w) w vk x l 0
section
variable {T:Type} [DecidableEq T] {P:Program} {w:World} {t kt e b:Nat} {ek:T→Value} {vk:IntKind} {l:List (T × Int)} {x:T}
theorem qa6 (hw:w.heap[b]? = some (mpO ek vk l)):(getObj b:Sem Obj).run P w = .ok (.map (Wf ek vk 0 l).toArray l.length) w:=by
 have:w.heap[b]? = some (.map (Wf ek vk 0 l).toArray l.length):=hw
 simp [getObj,Sem.run,this]
theorem qdu (K:qaQ P kt ek) (hw:w.heap[b]? = some (mpO ek vk l)) (ht:P.underlying t=some (.map kt e)) (hz:(zeroValue e).run P w = .ok (.int vk 0) w) :
  (Instr.lookup t (.map (some b)) (ek x) true).run P w = .ok (.tuple #[.int vk ((Z8 l x).getD 0),.bool (Z8 l x).isSome]) w:=by
 unfold Instr.lookup Z8
 cases h:JL x 0 l with
 | none=>simp [run_underlying ht,qa6 hw,K.chk,K.find,h,hz]
 | some q=>simp [run_underlying ht,qa6 hw,K.chk,K.find,h]
theorem qdN (K:qaQ P kt ek) (hw:w.heap[b]? = some (mpO ek vk l)) (ht:P.underlying t=some (.map kt e)) (hz:(zeroValue e).run P w = .ok (.int vk 0) w) (ha:(Z8 l x).isSome=false) :
  (Instr.mapEntry t (.map (some b)) (ek x)).run P w = .ok (.tuple #[.int vk 0,goInt (l.length:Int)]) (w.putObj b (mpO ek vk (l++[(x,0)]))):=by
 have hn:JL x 0 l=none:=by
  unfold Z8 at ha
  cases h:JL x 0 l with
  | none=>rfl
  | some q=>rw [h] at ha; cases ha
 have hset:∀ o',(setObj b o':Sem Unit).run P w = .ok () (w.putObj b o'):=fun o'=>by
  have:w.heap[b]? = some (.map (Wf ek vk 0 l).toArray l.length):=hw
  simp [setObj,Sem.run,this,World.putObj]
 unfold Instr.mapEntry
 simp [run_underlying ht,qa6 hw,K.chk,K.find,hn,hz,hset,← qd3]
theorem qbo (l:List (T × Int)) (v:Int):((Wf ek vk 0 (l++[(x,v)])).toArray.findIdx? fun e=>(e.born:Int) == (l.length:Int))=some l.length:=by
 have key:∀ (l:List (T × Int)) (i:Nat),(Wf ek vk i (l++[(x,v)])).findIdx? (fun e=>(e.born:Int) == ((i+l.length:Nat):Int))=some l.length:=by
  intro l
  induction l with
  | nil=>intro i; simp [Wf]
  | cons e r ih =>
   intro i
   show ((⟨_,_,_⟩:MapEntry) :: Wf ek vk (i+1) (r++[(x,v)])).findIdx? _=_
   rw [List.findIdx?_cons]
   have h:((i:Int) == ((i+(e :: r).length:Nat):Int))=false:=by
    rw [beq_eq_false_iff_ne]; simp; omega
   simp only [h,Bool.false_eq_true,if_false]
   have:=ih (i+1)
   rw [show i+1+r.length=i+(e :: r).length by simp; omega] at this
   rw [this]; rfl
 have:=key l 0
 rw [Nat.zero_add] at this
 simpa using this
theorem qb4 (l:List (T × Int)) (v v':Int):(Wf ek vk 0 (l++[(x,v)])).toArray.modify l.length (fun e=>{ e with val:=.int vk v' })=(Wf ek vk 0 (l++[(x,v')])).toArray:=by
 rw [WW,WW]
 apply Array.ext'
 have hl:=qcT ek vk l 0
 apply List.ext_getElem?
 intro i
 simp only [Array.toList_modify,List.getElem?_modify]
 by_cases h:i<(Wf ek vk 0 l).length
 ·rw [List.getElem?_append_left h,List.getElem?_append_left h]; have:l.length≠i:=by omega
  simp [this]
 ·by_cases h2:i=(Wf ek vk 0 l).length
  ·subst h2; simp [hl]
  ·rw [List.getElem?_eq_none (by simp; omega),List.getElem?_eq_none (by simp; omega)]; simp
theorem qeG {st v:Int} (hw:w.heap[b]? = some (mpO ek vk (l++[(x,0)]))) (hs:st=(l.length:Int)) :
  (Instr.entryStore t (.map (some b)) (.int .i64 st) (.int vk v)).run P w = .ok () (w.putObj b (mpO ek vk (l++[(x,v)]))):=by
 subst hs
 have hset:∀ o',(setObj b o':Sem Unit).run P w = .ok () (w.putObj b o'):=fun o'=>by
  have:w.heap[b]? = some (.map (Wf ek vk 0 (l++[(x,0)])).toArray (l++[(x,0)]).length):=hw
  simp [setObj,Sem.run,this,World.putObj]
 unfold Instr.entryStore
 have h1:=qbo (ek:=ek) (vk:=vk) (x:=x) l 0
 have h2:=qb4 (ek:=ek) (vk:=vk) (x:=x) l 0 v
 have hi:(asInt (.int .i64 (l.length:Int)):Sem Int).run P w = .ok (l.length:Int) w:=by simp [asInt,asIntOf]
 simp only [Sem.run_bind,qa6 hw,Result.andThen_ok,hi,h1,h2,hset]
 simp [mpO]
end
theorem qft {P:Program} {w:World} {b:Nat} {o o':Obj} {s:Sem Next} {r:Next} (hK:(JR b o).holds w) (h:s.run P w = .ok r (w.putObj b o')) :
  ∃ (g:Gh) (w':World),s.run P w = .ok r w'∧Zg (JR b o).fp w w'∧(JR b o').holds w'∧(∀ i,(JR b o').fp i→i<w'.heap.size) ∧ ∀ i,(JR b o').fp i→w.heap.size≤i∨(JR b o).fp i:=by
 have hh:w.heap[b]? = some o:=J1 hK
 have hl:b<w.heap.size:=(Array.getElem?_eq_some_iff.1 hh).1
 have hsz:(w.putObj b o').heap.size=w.heap.size:=by simp [World.putObj]
 have hoth:∀ i,i≠b→(w.putObj b o').heap[i]? = w.heap[i]?:=fun i hi=>World.putObj_heap_other (fun e=>hi (by rw [e]))
 refine ⟨default,w.putObj b o',h,?_,?_,?_,fun i hi=>.inr hi⟩
 ·exact ⟨rfl,rfl,rfl,by rw [hsz]; exact Nat.le_refl _,fun i _ hi=>hoth i hi⟩
 ·intro w2 ha
  exact (ha b rfl).trans (World.putObj_heap_same hl)
 ·intro i hi
  have e:i=b:=hi
  subst e; rw [hsz]; exact hl
section
variable {T:Type} [DecidableEq T] {P:Program} {w:World} {t kt e b:Nat} {ek:T→Value} {vk:IntKind} {l:List (T × Int)} {x:T} {s:Sem Next}
theorem qfk (K:qaQ P kt ek) (hw:w.heap[b]? = some (mpO ek vk l)) (hs:s=Sem.bind (Instr.lookup t (.map (some b)) (ek x) true) (fun v=>Sem.pure (Next.value v)):=by kernel_rfl) (ht:P.underlying t=some (.map kt e):=by kernel_rfl) (hz:(zeroValue e).run P w = .ok (.int vk 0) w:=by kernel_rfl) :
  s.run P w = .ok (.value (.tuple #[.int vk ((Z8 l x).getD 0),.bool (Z8 l x).isSome])) w:=by
 subst hs; exact Jk (qdu K hw ht hz) rfl
theorem qfH (K:qaQ P kt ek) (hw:w.heap[b]? = some (mpO ek vk l)) (ha:(Z8 l x).isSome=false) (hs:s=Sem.bind (Instr.mapEntry t (.map (some b)) (ek x)) (fun v=>Sem.pure (Next.value v)):=by kernel_rfl) (ht:P.underlying t=some (.map kt e):=by kernel_rfl) (hz:(zeroValue e).run P w = .ok (.int vk 0) w:=by kernel_rfl) :
  s.run P w = .ok (.value (.tuple #[.int vk 0,.int .i64 (l.length:Int)])) (w.putObj b (mpO ek vk (l++[(x,0)]))):=by
 subst hs
 show (Instr.mapEntry t (.map (some b)) (ek x) >>= fun v=>Sem.pure (Next.value v)).run P w=_
 rw [Sem.run_bind,qdN K hw ht hz ha]; rfl
theorem qfN {v:Int} (hw:w.heap[b]? = some (mpO ek vk (l++[(x,0)]))) (hs:s=Sem.bind (Instr.entryStore t (.map (some b)) (.int .i64 (l.length:Int)) (.int vk v)) (fun _=>Sem.pure Next.skip):=by kernel_rfl) :
  s.run P w = .ok .skip (w.putObj b (mpO ek vk (l++[(x,v)]))):=by
 subst hs
 show (Instr.entryStore t (.map (some b)) (.int .i64 (l.length:Int)) (.int vk v) >>= fun _=>Sem.pure Next.skip).run P w=_
 rw [Sem.run_bind,qeG hw rfl]; rfl
end
theorem qeZ {xs:List ByteArray} {j:Nat} {v:ByteArray} (h:xs[j]? = some v):(xs.map Value.string)[0+j * 1]? = some (.string v):=by
 rw [Nat.zero_add,Nat.mul_one,List.getElem?_map,h]; rfl
end Go.Sx
set_option linter.unusedVariables false
set_option linter.unusedSimpArgs false
namespace Go.Sx
open Go Go.RowKit
abbrev WF (ro:Option Nat):Fence:={ Fence.wide with round:=ro }
def Act.wd (a:Act) (ds:List Deferred):Act:={ a with defers:=a.defers++ds }
theorem WY (a:Act) (ds:List Deferred):(Act.wd a ds).eval=a.eval:=funext fun x=>by cases x <;> rfl
theorem Wu (a:Act) (ds:List Deferred) (d:Option Tmp) (v:Value):(Act.wd a ds).put d v=Act.wd (a.put d v) ds:=by cases d <;> rfl
theorem Wx (a:Act):Act.wd a []=a:=by simp [Act.wd]
def Vb (o:Oper):Bool:=match o.op with | .defer _=>false | _=>true
theorem qcn {o:Oper} (h:Vb o=true) (c:_):o.op ≠ .defer c:=by
 intro e; unfold Vb at h; rw [e] at h; cases h
theorem qcs {ro:Option Nat} {n:Nat} {P:Program} {f:FuncId} {args:Array Value} {w:World} {R:Ending→World→Prop} (h:Calls P f args w R):CallsIn (WF ro) n P f args w R :=
 (callsIn_wide (n:=n)).2 h
theorem qdg {ro:Option Nat} {n:Nat} {P:Program} {row:String} {args:Array Value} {w:World} {R:Value→World→Prop} (h:Rows P row args w R):RowsIn (WF ro) n P row args w R :=
 fun c cs _=>let ⟨v,w',r,s⟩:=h c cs; ⟨v,w',r,(StepsIn.of_steps s).mono fun m _=>fenced_wide P m⟩
section
variable {P:Program} {ops:Array Oper} {ro:Option Nat} {m:Nat} {ds:List Deferred} {Q:Exit→Act→World→Prop} {QN:Act→World→Prop}
abbrev qcd (QN:Act→World→Prop):Exit→Act→World→Prop:=fun e a w=>e = .normal∧QN a w
theorem qdV {i:Nat} {K:Act→World→Prop} {a:Act} {w:World} (hd:∀ o,ops[i]? = some o→Vb o=true) (h:wpOp P ops (qcd QN) i K a w) :
  wpOpIn (WF ro) m P ops Q i (fun a' w'=>∃ a0,a'=Act.wd a0 ds∧K a0 w') (Act.wd a ds) w:=by
 unfold wpOp at h
 unfold wpOpIn
 split
 ·rename_i ho
  rw [ho] at h
  exact ⟨a,rfl,h⟩
 ·rename_i o ho
  rw [ho] at h
  dsimp only at h
  have hy:yielded ops (Act.wd a ds).tmps=yielded ops a.tmps:=rfl
  rw [hy]
  split
  ·rename_i hw
   rw [if_pos hw] at h
   rcases h with h | ⟨_,a1,w1,e,_⟩
   ·refine ⟨fun _ _=>trivial,?_⟩
    have hs:o.semAt (WF ro).round (Act.wd a ds).eval=execOp a.eval o:=by
     rw [WY]
     cases hr:(WF ro).round with
     | none=>rfl
     | some l=>exact Oper.semAt_some l _ o (qcn (hd o ho))
    rw [hs]
    unfold Oper.wp at h
    generalize (execOp a.eval o).run P w=r at *
    cases r with
    | ok x w' =>
     cases x with
     | value v=>exact ⟨_,Wu _ _ _ _,h⟩
     | skip=>exact ⟨_,Wu _ _ _ _,h⟩
     | defer d =>
      refine ⟨_,?_,h⟩
      rw [← Wu]; rfl
     | enter f args =>
      refine ⟨fun e=>(by cases e),qcs (Calls.mono h fun e w'' he=>?_)⟩
      cases e with
      | returned v=>exact ⟨_,Wu _ _ _ _,he⟩
      | panicked c=>cases he.1
      | outgrown=>obtain ⟨_,_,e,_⟩:=he; cases e
     | row r args=>exact ⟨fun e=>(by cases e),qdg (Rows.mono h fun v w'' he=>⟨_,Wu _ _ _ _,he⟩)⟩
     | _=>exact False.elim h
    | halt x w' =>
     cases x with
     | panic v=>cases h.1
     | _=>exact False.elim h
   ·cases e
  ·rename_i hw
   rw [if_neg hw] at h
   exact ⟨fun _ _=>trivial,_,Wu _ _ _ _,h⟩
theorem qex (hd:∀ (j:Nat) o,ops[j]? = some o→Vb o=true) (hq:∀ a w,QN a w→Q .normal (Act.wd a ds) w):∀ (l:List Nat) (a:Act) (w:World),wpOps P ops (qcd QN) l a w→wpOpsIn (WF ro) m P ops Q l (Act.wd a ds) w
 | [],a,w,h=>hq a w h.2
 | i :: l,a,w,h=>by
  rw [wpOpsIn_cons]
  rw [wpOps_cons] at h
  refine wpOpIn_mono ?_ (qdV (hd i) h)
  rintro a' w' ⟨a0,rfl,hk⟩
  exact qex hd hq l a0 w' hk
theorem qcl (hd:∀ (j:Nat) o,ops[j]? = some o→Vb o=true) (hq:∀ a w,QN a w→Q .normal (Act.wd a ds) w):∀ (f:Nat) (L:Array Bool) (a:Act) (w:World),wpAny P .any ops (qcd QN) f L a w→wpAnyIn (WF ro) m P .any ops Q f L (Act.wd a ds) w
 | 0,L,a,w,h=>⟨h.1,hq a w h.2.2⟩
 | f+1,L,a,w,h=>⟨fun e=>hq a w (h.1 e).2,fun i hi=>by
  refine wpOpIn_mono ?_ (qdV (hd i) (h.2 i hi))
  rintro a' w' ⟨a0,rfl,hk⟩
  exact qcl hd hq f _ a0 w' hk⟩
end
def VN (ro:Option Nat) (ds:List Deferred) (P:Program) (c:Code) (Q:Exit→Act→World→Prop) (a:Act) (w:World):Prop :=
 c.wpIn (WF ro) 0 P (fun e a' w'=>∃ a0,a'=Act.wd a0 ds∧Q e a0 w') (Act.wd a ds) w
section
variable {P:Program} {ro:Option Nat} {ds:List Deferred} {N:K} {xs:List (Nat × K)} {R:K} {a:Act} {w:World}
theorem YQ {ops:Array Oper} {B n id:Nat} {w0:World} {draw:Bool} {S0:St} {Se:Nu→St} {rw:List (List Nat × List Nat)} (hm:P.follows .mixedOrders=true)
  (hr:QS B w0 n S0 a w) (hc:Y3 P ops B w0 n 0 ops.toList (fun _=>S0) rw Se)
  (hi:(!draw || (VF ops.toList rw [] && Zo ops.toList 0))=true) (hd:ops.toList.all Vb=true)
  (hQ:∀ ν a w,QS B w0 n (Se ν) a w→N a w):VN ro ds P (Code.region id ops draw) (Zv N xs R) a w:=by
 have hd':∀ (j:Nat) o,ops[j]? = some o→Vb o=true:=fun j o ho=>List.all_eq_true.1 hd o (by
  rw [Array.mem_toList_iff]; exact Array.mem_of_getElem? ho)
 cases draw with
 | false =>
  refine wpIn_region (qex (QN:=N) hd' (fun a w h=>⟨a,rfl,h⟩) _ a w ?_)
  have:=Y3.inorder (Q:=qcd N) ops.toList 0 (fun _=>S0) rw (fun _=>none) a w hc (fun j=>by simp) (fun _ _=>rfl) (fun j hj=>absurd hj (Nat.not_lt_zero _)) (fun _ _=>hr)
   (fun p a w h=>by obtain ⟨ν,hν⟩:=YC.exists p; exact ⟨rfl,hQ ν a w (h ν hν)⟩)
  rw [List.range_eq_range',← Array.length_toList]
  exact this
 | true =>
  simp only [Bool.not_true,Bool.false_or,Bool.and_eq_true] at hi
  refine wpIn_region_any hm (qcl (QN:=N) hd' (fun a w h=>⟨a,rfl,h⟩) _ _ a _ ?_)
  have hr':QS B w0 n S0 a { w with drawn:=w.drawn+1 }:=hr.world ⟨rfl,rfl,rfl,Nat.le_refl _,fun _ _=>rfl⟩
  exact Y3.anyorder hc hi.1 hi.2 hr' (fun ν a w h=>⟨rfl,hQ ν a w h⟩) _ (Nat.le_refl _)
theorem qdS {c:Code} {Q Q':Exit→Act→World→Prop} (h:VN ro ds P c Q a w) (hq:∀ e a w,Q e a w→Q' e a w):VN ro ds P c Q' a w :=
 wpIn_mono h fun e a' w' ⟨a0,e1,h1⟩=>⟨a0,e1,hq _ _ _ h1⟩
theorem YA {x y:Code} (h:VN ro ds P x (Zv (VN ro ds P y (Zv N xs R)) xs R) a w):VN ro ds P (Code.seq x y) (Zv N xs R) a w:=by
 refine wpIn_seq (wpIn_mono h fun e _ _ hh=>?_)
 cases e with
 | normal=>obtain ⟨a0,rfl,h1⟩:=hh; exact h1
 | _=>exact hh
theorem JB (h:N a w):VN ro ds P Code.skip (Zv N xs R) a w:=wpIn_skip ⟨a,rfl,h⟩
theorem Vn (h:R a w):VN ro ds P Code.ret (Zv N xs R) a w:=wpIn_ret ⟨a,rfl,h⟩
theorem Wr {i:Nat} {k:K} (hk:WH xs i=some k) (h:k a w):VN ro ds P (Code.exit i) (Zv N xs R) a w:=wpIn_exit ⟨a,rfl,by simp only [Zv,hk]; exact h⟩
theorem Jr {i:Nat} {c:Code} (h:VN ro ds P c (Zv N ((i,N) :: xs) R) a w):VN ro ds P (Code.block i c) (Zv N xs R) a w:=by
 refine wpIn_block (wpIn_mono h fun e a' w' hh=>?_)
 obtain ⟨a0,rfl,q⟩:=hh
 cases e with
 | exit j =>
  simp only [Zv,WH] at q
  simp only [Exit.inBlock]
  by_cases hj:j=i
  ·subst hj
   rw [show Nat.beq j j=true from Nat.beq_refl j] at q
   simp only [if_true]; exact ⟨a0,rfl,q⟩
  ·have:Nat.beq i j=false:=by
    cases hb:Nat.beq i j with
    | false=>rfl
    | true=>exact absurd (Nat.eq_of_beq_eq_true hb).symm hj
   rw [this] at q
   rw [if_neg hj]; exact ⟨a0,rfl,q⟩
 | _=>exact ⟨a0,rfl,q⟩
theorem Ve {B n:Nat} {w0:World} {S:St} {c:Operand} {x y:Code} {t:Bool} (hr:QS B w0 n S a w) (hk:Q2 S c=true) (he:ZI S c = .bool t)
  (ht:t=true→VN ro ds P x (Zv N xs R) a w) (hf:t=false→VN ro ds P y (Zv N xs R) a w):VN ro ds P (Code.cond c x y) (Zv N xs R) a w :=
 wpIn_cond_split (by rw [WY]; exact (Jy hr hk).trans he) ht hf
theorem qfU {c:Code} (J:K) (hJ:∀ a w,J a w→N a w) (h:VN ro ds P c (Zv J xs R) a w):VN ro ds P c (Zv N xs R) a w :=
 qdS h fun e a w q=>by cases e <;> first | exact hJ a w q | exact q
theorem qgb {c:Code} {Q Q':Exit→Act→World→Prop} (h:VN none ds P c Q a w) (hq:∀ e a0 w',Q e a0 w'→Q' e (Act.wd a0 ds) w'):c.wp P Q' (Act.wd a ds) w :=
 (wpIn_wide (n:=0)).1 (wpIn_mono h fun e a' w' ⟨a0,e1,h1⟩=>by subst e1; exact hq _ _ _ h1)
end
end Go.Sx
namespace Go.Sx
open Go Go.RowKit
theorem rpc {Rp:St→Act→World→Prop} {S S':St} {a:Act} {w:World} (h:Rp S a w) (e:∀ k,S' k=S k):Rp S' a w:=by
  have:S'=S:=funext e
  subst this; exact h
def qcL (ro:Option Nat) (P:Program) (ops:Array Oper) (Rp:St→Act→World→Prop) (i:Nat) (o:Oper) (Spre:Nu→St) (R:List Nat) (u:Nu→List (Nat × KV)):Prop :=
  ∀ (Q:Exit→Act→World→Prop) (p:Vg) (S:Nu→St) (a:Act) (w:World),
    (∀ ν,YC p ν → ∀ k ∈ R,S ν k=Spre ν k)→p i=none→ops[i]? = some o→(∀ ν,YC p ν→Rp (S ν) a w) →
    wpOpIn (WF ro) 0 P ops Q i (fun a' w'=>∃ g,∀ ν,YC (p.set i g) ν→Rp (Qg (S ν) (u ν)) a' w') a w
def qep:List Oper→List (List Nat)→List (List Nat)
  | [],as_=>as_
  | o :: r,as_=>qep r (as_++[(Jv o).flatMap fun e=>e :: as_.getD e []])
def qeK (ops:List Oper) (as_:List (List Nat)):Prop:=∀ (m:Nat) (l:List Nat) (o:Oper),as_[m]? = some l→ops[m]? = some o → ∀ k ∈ l,∀ D,VW ops D→(∀ e ∈ Jv o,D e=true)→D k=true
theorem qcY {ops:List Oper}:∀ (r:List Oper) (as_:List (List Nat)),(∀ j,r[j]? = ops[as_.length+j]?)→qeK ops as_→qeK ops (qep r as_)
  | [],_,_,h=>h
  | o :: r,as_,hr,h=>by
    refine qcY r _ (fun j=>by have:=hr (j+1); simpa [Nat.add_assoc,Nat.add_comm 1 j] using this) ?_
    intro m l o' hl ho' k hk D hD hp
    by_cases hm:m<as_.length
    · rw [List.getElem?_append_left hm] at hl
      exact h m l o' hl ho' k hk D hD hp
    · rw [List.getElem?_append_right (by omega)] at hl
      have hm':m=as_.length:=by
        have:=(List.getElem?_eq_some_iff.1 hl).1
        simp at this; omega
      subst hm'
      simp only [Nat.sub_self,List.getElem?_cons_zero,Option.some.injEq] at hl
      subst hl
      have e0:o'=o:=by
        have:=hr 0
        simp only [List.getElem?_cons_zero,Nat.add_zero] at this
        rw [← this] at ho'; injection ho' with e; exact e.symm
      subst e0
      obtain ⟨e,he,hk⟩:=List.mem_flatMap.1 hk
      have hDe:=hp e he
      rcases List.mem_cons.1 hk with rfl | hk
      · exact hDe
      · cases hae:as_[e]? with
        | none=>simp [List.getD,hae] at hk
        | some l' =>
          simp only [List.getD,hae,Option.getD_some] at hk
          have hel:e<as_.length:=(List.getElem?_eq_some_iff.1 hae).1
          cases hoe:ops[e]? with
          | none =>
            exfalso
            have h1:as_.length<ops.length:=(List.getElem?_eq_some_iff.1 ho').1
            rw [List.getElem?_eq_none_iff] at hoe
            omega
          | some oe=>exact h e l' oe hae hoe k hk D hD (hD e oe hDe hoe)
def qcA (ops:List Oper) (rw:List (List Nat × List Nat)):Bool :=
  let as_:=qep ops []
  (List.range ops.length).all fun j=>(List.range j).all fun i=>(as_.getD j []).contains i || (let x:=rw.getD i ([],[]); let y:=rw.getD j ([],[]); disj x.2 y.1 && disj x.2 y.2 && disj x.1 y.2)
theorem WI {ops:List Oper} {rw:List (List Nat × List Nat)} (h:qcA ops rw=true) {i j:Nat} {o:Oper} {R W R' W':List Nat} (hij:i<j) (ho:ops[j]? = some o) (hj:rw[j]? = some (R,W)) (hi:rw[i]? = some (R',W'))
    {D:Nat→Bool} (hD:VW ops D) (hp:∀ e ∈ Jv o,D e=true):D i=true∨(disj W' R=true∧disj W' W=true∧disj R' W=true):=by
  have hjl:j<ops.length:=(List.getElem?_eq_some_iff.1 ho).1
  have h1:=List.all_eq_true.1 (List.all_eq_true.1 h j (List.mem_range.2 hjl)) i (List.mem_range.2 hij)
  simp only [Bool.or_eq_true,Bool.and_eq_true] at h1
  rcases h1 with h1 | h1
  · left
    have hA:qeK ops (qep ops []):=qcY ops [] (fun j=>by simp) (fun m l o hl=>by simp at hl)
    cases hl:(qep ops [])[j]? with
    | none=>simp [List.getD,hl] at h1
    | some l =>
      simp only [List.getD,hl,Option.getD_some] at h1
      exact hA j l o hl ho i (by simpa using h1) D hD hp
  · right
    simp only [List.getD,hj,hi,Option.getD_some] at h1
    exact ⟨h1.1.1,h1.1.2,h1.2⟩
section
variable {ro:Option Nat} {P:Program} {ops:Array Oper} {Rp:St→Act→World→Prop}
inductive ZT (ro:Option Nat) (P:Program) (ops:Array Oper) (Rp:St→Act→World→Prop):Nat→List Oper→(Nu→St)→List (List Nat × List Nat)→(Nu→St)→Prop
  | nil {i:Nat} {S:Nu→St}:ZT ro P ops Rp i [] S [] S
  | cons {i:Nat} {o:Oper} {rest:List Oper} {S Se:Nu→St} {R:List Nat} {rw:List (List Nat × List Nat)} {u:Nu→List (Nat × KV)} (W:List Nat) (h:qcL ro P ops Rp i o S R u)
      (t:ZT ro P ops Rp (i+1) rest (fun ν=>Qg (S ν) (u ν)) rw Se) (hW:∀ ν,(u ν).map Prod.fst=W:=by intro _; kernel_rfl):ZT ro P ops Rp i (o :: rest) S ((R,W) :: rw) Se
set_option linter.unusedVariables false in
theorem ZT.inorder {Q:Exit→Act→World→Prop} {Se:Nu→St}:∀ (l:List Oper) (i:Nat) (S:Nu→St) (rw:List (List Nat × List Nat)) (p:Vg) (a:Act) (w:World),
    ZT ro P ops Rp i l S rw Se→(∀ j,l[j]? = ops[i+j]?)→p.free i→(∀ ν,YC p ν→Rp (S ν) a w) →
    (∀ p a w,(∀ ν,YC p ν→Rp (Se ν) a w)→Q .normal a w)→wpOpsIn (WF ro) 0 P ops Q (List.range' i l.length) a w
  | [],i,S,rw,p,a,w,hc,hl,hp,hr,hQ=>by
    cases hc
    exact hQ p a w hr
  | o :: rest,i,S,rw,p,a,w,hc,hl,hp,hr,hQ=>by
    cases hc with
    | cons W h t hW =>
      simp only [List.length_cons,List.range'_succ]
      rw [wpOpsIn_cons]
      refine wpOpIn_mono ?_ (h Q p S a w (fun ν _ k _=>rfl) (hp i (Nat.le_refl _)) (by simpa using (hl 0).symm) hr)
      rintro a' w' ⟨g,hg⟩
      exact ZT.inorder rest (i+1) _ _ (p.set i g) a' w' t (fun j=>by have:=hl (j+1); simpa [Nat.add_assoc,Nat.add_comm 1 j] using this)
        (fun j hj=>by have:=hp j (by omega); simp only [Vg.set,this]; rw [if_neg (by omega)]) hg hQ
theorem ZT.parts {Se:Nu→St}:∀ (l:List Oper) (i:Nat) (S:Nu→St) (rw:List (List Nat × List Nat)),ZT ro P ops Rp i l S rw Se→rw.length=l.length ∧
    ∃ us:Nat→Nu→List (Nat × KV),(∀ j o,l[j]? = some o → ∃ R W,rw[j]? = some (R,W)∧(∀ ν,(us j ν).map Prod.fst=W)∧qcL ro P ops Rp (i+j) o (fun ν=>Z2 us (fun _=>true) (S ν) ν j) R (us j)) ∧
      ∀ ν,Se ν=Z2 us (fun _=>true) (S ν) ν l.length
  | [],i,S,rw,h=>by
    cases h
    exact ⟨rfl,fun _ _=>[],fun j o h=>by simp at h,fun ν=>rfl⟩
  | o0 :: l,i,S,rw,h=>by
    cases h with
    | @cons _ _ _ _ _ R rw' u W h t hW =>
      obtain ⟨h1,us,h2,h3⟩:=ZT.parts l (i+1) _ rw' t
      have hshift:∀ (ν:Nu) (m:Nat),Z2 (fun j ν=>match j with | 0=>u ν | j+1=>us j ν) (fun _=>true) (S ν) ν (m+1)=Z2 us (fun _=>true) (Qg (S ν) (u ν)) ν m:=by
        intro ν m
        induction m with
        | zero=>simp [Z2]
        | succ m ih =>
          rw [Z2,ih]
          simp [Z2]
      refine ⟨by simp [h1],fun j ν=>match j with | 0=>u ν | j+1=>us j ν,fun j o ho=>?_,fun ν=>?_⟩
      · cases j with
        | zero =>
          simp only [List.getElem?_cons_zero,Option.some.injEq] at ho
          subst ho
          exact ⟨R,W,rfl,hW,h⟩
        | succ j =>
          obtain ⟨R',W',hr,hW',ho'⟩:=h2 j o (by simpa using ho)
          refine ⟨R',W',by simpa using hr,hW',?_⟩
          simp only [hshift]
          rw [show i+(j+1)=i+1+j by omega]
          exact ho'
      · rw [h3 ν,← hshift]; rfl
theorem ZT.anyorder {Q:Exit→Act→World→Prop} {S0:St} {Se:Nu→St} {rw:List (List Nat × List Nat)} {a:Act} {w:World} (hc:ZT ro P ops Rp 0 ops.toList (fun _=>S0) rw Se)
    (hi:qcA ops.toList rw=true) (hf:Zo ops.toList 0=true) (hr:Rp S0 a w)
    (hQ:∀ ν a w,Rp (Se ν) a w→Q .normal a w) (fuel:Nat) (hfuel:ops.size≤fuel):wpAnyIn (WF ro) 0 P .any ops Q fuel (Array.replicate ops.size false) a w:=by
  obtain ⟨hlen,us,hus,hSe⟩:=ZT.parts _ _ _ _ hc
  have hl:ops.toList.length=ops.size:=Array.length_toList
  have hget:∀ j o,ops[j]? = some o→ops.toList[j]? = some o:=fun j o h=>by rw [Array.getElem?_toList]; exact h
  -- the done set
  let D (L:Array Bool):Nat→Bool:=fun j=>L.getD j false
  have main:∀ (fuel:Nat) (L:Array Bool) (p:Vg) (a:Act) (w:World),L.size=ops.size→(∀ j,D L j=false→p j=none) →
      (∀ j o,D L j=true→ops[j]? = some o → ∀ e ∈ o.after,Region.binds .any e=true→D L e.on=true) →
      (∀ ν,YC p ν→Rp (Z2 us (D L) S0 ν ops.size) a w)→((List.range ops.size).filter fun j=>!D L j).length≤fuel→wpAnyIn (WF ro) 0 P .any ops Q fuel L a w:=by
    intro fuel
    have hdone:∀ (L:Array Bool) (p:Vg) (a:Act) (w:World),L.size=ops.size →
      (∀ j o,D L j=true→ops[j]? = some o → ∀ e ∈ o.after,Region.binds .any e=true→D L e.on=true) →
      (∀ ν,YC p ν→Rp (Z2 us (D L) S0 ν ops.size) a w)→Region.ready .any ops L=[]→Q .normal a w:=by
      intro L p a w hL hdown hrep hno
      have hall:∀ j,j<ops.size→D L j=true:=by
        intro j
        induction j using Nat.strongRecOn with
        | _ j ih =>
          intro hj
          cases hD:D L j with
          | true=>rfl
          | false =>
            have:j ∈ Region.ready .any ops L:=by
              rw [mem_ready]
              refine ⟨?_,ops[j],by simp [hj],fun e he hb=>?_⟩
              · have:L.getD j false=false:=hD
                simp only [Array.getD_eq_getD_getElem?] at this ⊢
                rw [Array.getElem?_eq_getElem (by omega)] at this ⊢
                exact this
              · have h1:=Jq _ _ hf j ops[j] (by simp [hj]) e he hb
                simp only [Nat.zero_add] at h1
                exact ih e.on h1 (by omega)
            rw [hno] at this; cases this
      obtain ⟨ν,hν⟩:=YC.exists p
      refine hQ ν a w (rpc (hrep ν hν) fun k=>?_)
      rw [hSe ν,hl]
      exact Zk _ fun j hj _=>(hall j hj).symm
    induction fuel with
    | zero =>
      intro L p a w hL hp hdown hrep hcount
      have hno:Region.ready .any ops L=[]:=by
        cases hrd:Region.ready .any ops L with
        | nil=>rfl
        | cons j rest =>
          exfalso
          have hj:j ∈ Region.ready .any ops L:=by rw [hrd]; simp
          obtain ⟨h1,o,ho,_⟩:=mem_ready.1 hj
          have hjs:j<ops.size:=(Array.getElem?_eq_some_iff.1 ho).1
          have:j ∈ (List.range ops.size).filter fun j=>!D L j:=by
            simp only [List.mem_filter,List.mem_range,hjs,true_and,Bool.not_eq_true']
            show L.getD j false=false
            simp only [Array.getD_eq_getD_getElem?] at h1 ⊢
            rw [Array.getElem?_eq_getElem (by omega)] at h1 ⊢
            exact h1
          have:=List.length_pos_of_mem this
          omega
      exact ⟨hno,hdone L p a w hL hdown hrep hno⟩
    | succ fuel ih =>
      intro L p a w hL hp hdown hrep hcount
      refine ⟨hdone L p a w hL hdown hrep,fun i hi'=>?_⟩
      obtain ⟨hLi,o,ho,hpre⟩:=mem_ready.1 hi'
      have his:i<ops.size:=(Array.getElem?_eq_some_iff.1 ho).1
      have hDi:D L i=false:=by
        show L.getD i false=false
        simp only [Array.getD_eq_getD_getElem?] at hLi ⊢
        rw [Array.getElem?_eq_getElem (by omega)] at hLi ⊢
        exact hLi
      obtain ⟨R,W,hrw,hW,hok⟩:=hus i o (hget i o ho)
      simp only [Nat.zero_add] at hok
      -- what touches what it touches is done if it stands before it, and isn't done if it stands behind it
      have hord:∀ j,j<ops.size→j≠i→(∃ R' W',rw[j]? = some (R',W') ∧ ¬ (disj W' R=true∧disj W' W=true∧disj R' W=true)∧j<i)∨(∃ R' W',rw[j]? = some (R',W') ∧ ¬ (disj W R'=true∧disj W W'=true∧disj R W'=true)∧i<j)→D L j=decide (j<i):=by
        intro j hj hne hcase
        have hDC:VW ops.toList (D L):=fun j' o' hDj' ho' e he=>by
          obtain ⟨e',he',rfl⟩:=List.mem_map.1 he
          rw [List.mem_filter] at he'
          exact hdown j' o' hDj' (by simpa using ho') e' (by simpa using he'.1) he'.2
        rcases hcase with ⟨R',W',hr',hn,hlt⟩ | ⟨R',W',hr',hn,hlt⟩
        · have h3:=WI hi hlt (hget i o ho) hrw hr' hDC (fun e he=>by
            obtain ⟨e',he',rfl⟩:=List.mem_map.1 he
            rw [List.mem_filter] at he'
            exact hpre e' (by simpa using he'.1) he'.2)
          have:=h3.resolve_right hn
          simp only [hlt,decide_true]; exact this
        · obtain ⟨oj,hoj⟩:∃ oj,ops[j]? = some oj:=⟨ops[j],by simp [hj]⟩
          cases hDj:D L j with
          | false => have : ¬ j < i := by omega
                     simp [this]
          | true =>
            have h3:=WI hi hlt (hget j oj hoj) hr' hrw hDC (hDC j oj hDj (hget j oj hoj))
            have:=h3.resolve_right hn
            rw [hDi] at this; cases this
      have hag:∀ ν,YC p ν → ∀ k ∈ R,Z2 us (D L) S0 ν ops.size k=Z2 us (fun _=>true) S0 ν i k:=by
        intro ν _ k hk
        have e1:Z2 us (D L) S0 ν ops.size k=Z2 us (fun j=>decide (j<i)) S0 ν ops.size k:=by
          refine Zk _ fun j hj hkj=>?_
          by_cases hji:j=i
          · subst hji; rw [hDi]; simp
          · obtain ⟨oj,hoj⟩:∃ oj,ops[j]? = some oj:=⟨ops[j],by simp [hj]⟩
            obtain ⟨R',W',hrw',hW',_⟩:=hus j oj (hget j oj hoj)
            rw [hW' ν] at hkj
            refine hord j hj hji ?_
            rcases Nat.lt_or_ge j i with hlt | hge
            · exact .inl ⟨R',W',hrw',fun hd=>ZH hd.1 hkj hk,hlt⟩
            · exact .inr ⟨R',W',hrw',fun hd=>ZH hd.2.2 hk hkj,by omega⟩
        rw [e1]
        have key:∀ m,i≤m→Z2 us (fun j=>decide (j<i)) S0 ν m k=Z2 us (fun _=>true) S0 ν i k:=by
          intro m
          induction m with
          | zero => intro hm; have : i = 0 := by omega
                    subst this; rfl
          | succ m ihm =>
            intro hm
            by_cases e:i=m+1
            · subst e
              exact Zk _ fun j hj _=>by simp [hj]
            · rw [Z2,if_neg (by simp; omega)]
              exact ihm (by omega)
        exact key _ (by omega)
      refine wpOpIn_mono ?_ (hok Q p (fun ν=>Z2 us (D L) S0 ν ops.size) a w hag (hp i hDi) ho hrep)
      rintro a' w' ⟨g,hg⟩
      have hDset:∀ j,D (L.setIfInBounds i true) j=(D L j || decide (j=i)):=by
        intro j
        show (L.setIfInBounds i true).getD j false=_
        by_cases e:j=i
        · subst e
          simp [Array.getD_eq_getD_getElem?,hL,his]
        · rw [getD_set_ne false (fun h=>e h.symm)]
          simp [e,D]
      refine ih (L.setIfInBounds i true) (p.set i g) a' w' (by simp [hL]) ?_ ?_ ?_ ?_
      · intro j hj
        rw [hDset] at hj
        simp only [Bool.or_eq_false_iff,decide_eq_false_iff_not] at hj
        simp only [Vg.set,hj.2,if_false]
        exact hp j hj.1
      · intro j oj hj hoj e he hb
        rw [hDset] at hj ⊢
        simp only [Bool.or_eq_true,decide_eq_true_eq] at hj ⊢
        rcases hj with hj | hj
        · exact .inl (hdown j oj hj hoj e he hb)
        · subst hj
          rw [ho] at hoj
          injection hoj with hoj
          subst hoj
          exact .inl (hpre e he hb)
      · intro ν hν
        refine rpc (hg ν hν) fun k=>?_
        have hfun:D (L.setIfInBounds i true)=fun j=>D L j || decide (j=i):=funext hDset
        rw [hfun]
        refine qbj hDi k _ his ?_
        intro j hij hj hDj hki hkj
        obtain ⟨oj,hoj⟩:∃ oj,ops[j]? = some oj:=⟨ops[j],by simp [hj]⟩
        obtain ⟨R',W',hrw',hW',_⟩:=hus j oj (hget j oj hoj)
        rw [hW ν] at hki
        rw [hW' ν] at hkj
        have:=hord j hj (by omega) (.inr ⟨R',W',hrw',fun hd=>ZH hd.2.1 hki hkj,hij⟩)
        rw [hDj] at this
        simp at this
        omega
      · have hsub:((List.range ops.size).filter fun j=>!D (L.setIfInBounds i true) j)=((List.range ops.size).filter fun j=>!D L j).filter fun j=>!decide (j=i):=by
          rw [List.filter_filter]
          refine List.filter_congr fun j _=>?_
          rw [hDset]
          cases D L j <;> simp
        rw [hsub]
        have hmem:i ∈ (List.range ops.size).filter fun j=>!D L j:=by simp [his,hDi]
        have:(((List.range ops.size).filter fun j=>!D L j).filter fun j=>!decide (j=i)).length<((List.range ops.size).filter fun j=>!D L j).length:=by
          refine List.length_filter_lt_length_iff_exists.2 ⟨i,hmem,by simp⟩
        omega
  refine main fuel _ (fun _=>none) a w (by simp) (fun _ _=>rfl) ?_ ?_ ?_
  · intro j o hj
    have:(Array.replicate ops.size false).getD j false=true:=hj
    by_cases hjs:j<ops.size <;> simp [Array.getD_eq_getD_getElem?,hjs] at this
  · intro ν _
    refine rpc hr fun k=>?_
    have key:∀ m,Z2 us (D (Array.replicate ops.size false)) S0 ν m=S0:=by
      intro m
      induction m with
      | zero=>rfl
      | succ m ih =>
        have:D (Array.replicate ops.size false) m=false:=by
          show (Array.replicate ops.size false).getD m false=false
          by_cases hjs:m<ops.size <;> simp [Array.getD_eq_getD_getElem?,hjs]
        rw [Z2,this]; simpa using ih
    rw [key]
  · refine Nat.le_trans (List.length_filter_le _ _) ?_
    simpa using hfuel
theorem qei {draw:Bool} {id:Nat} {Q:Exit→Act→World→Prop} {S0:St} {Se:Nu→St} {rw:List (List Nat × List Nat)} {a:Act} {w:World} (hm:P.follows .mixedOrders=true)
    (hr:Rp S0 a w) (hc:ZT ro P ops Rp 0 ops.toList (fun _=>S0) rw Se)
    (hi:(!draw || (qcA ops.toList rw && Zo ops.toList 0))=true) (hdr:∀ S a w,Rp S a w→Rp S a { w with drawn:=w.drawn+1 })
    (hQ:∀ ν a w,Rp (Se ν) a w→Q .normal a w):(Code.region id ops draw).wpIn (WF ro) 0 P Q a w:=by
  cases draw with
  | false =>
    refine wpIn_region ?_
    have:=ZT.inorder (Q:=Q) ops.toList 0 (fun _=>S0) rw (fun _=>none) a w hc (fun j=>by simp) (fun _ _=>rfl) (fun _ _=>hr)
      (fun p a w h=>by obtain ⟨ν,hν⟩:=YC.exists p; exact hQ ν a w (h ν hν))
    rw [List.range_eq_range',← Array.length_toList]
    exact this
  | true =>
    simp only [Bool.not_true,Bool.false_or,Bool.and_eq_true] at hi
    refine wpIn_region_any hm ?_
    have hr':Rp S0 a { w with drawn:=w.drawn+1 }:=hdr _ _ _ hr
    exact ZT.anyorder hc hi.1 hi.2 hr' hQ _ (Nat.le_refl _)
end
end Go.Sx
set_option linter.unusedVariables false
set_option linter.unusedSimpArgs false
namespace Go.Sx
open Go Go.RowKit
def XT (S:St):St:=fun k=>match S k with | .slot c v=>.slot c v | _=>.none
theorem V5 {S:St} {k:Nat} {c:Bool} {v:Value} (h:XT S k = .slot c v):S k = .slot c v:=by
 unfold XT at h
 split at h
 ·rename_i e; rw [e]; exact h
 ·cases h
theorem ZD {S:St} {k i:Nat}:¬ (XT S k).fp i:=by
 unfold XT
 split <;> exact fun h=>h
theorem VG {S:St} {k:Nat} {w:World}:(XT S k).holds w:=by
 unfold XT
 split <;> trivial
theorem QS.restart {B B':Nat} {w0 w1 w:World} {n:Nat} {S:St} {a:Act} (h:QS B w0 n S a w) (w':World) (hb:Below B' w1 w') (hB:B'≤w'.heap.size):QS B' w1 n (XT S) a w' where
 defers:=h.defers
 size:=h.size
 slots t c v hs:=h.slots t c v (V5 hs)
 below:=hb
 base:=hB
 holds k:=VG
 inb k i hi:=(ZD hi).elim
 ge k i _ hi:=(ZD hi).elim
 disj k k' i _ _ hi:=(ZD hi).elim
theorem qbA {S:St} (k:Nat):¬ (XT S k).excl:=by
 unfold XT
 split <;> exact fun h=>h
theorem QS.again {B B':Nat} {w0 w1 w:World} {n:Nat} {S:St} {a:Act} (h:QS B w0 n S a w) (w':World) (hb:Below B' w1 w') (hB:B'≤w'.heap.size) (fs:List (Nat × KV))
  (hfs:∀ x ∈ fs,(∃ fp F,x.2 = .fact fp F)∧x.2.holds w' ∧ ∀ i,x.2.fp i→i<w'.heap.size):QS B' w1 n (Qg (XT S) fs) a w' :=
 QS.facts fs _ (h.restart w' hb hB) qbA hfs
section
variable {P:Program} {ro:Option Nat} {ds:List Deferred} {N:K} {xs:List (Nat × K)} {R:K} {a:Act} {w:World}
theorem qbi {c:Code} (J:Nat→K) (m:Nat) (h0:J m a w) (hs:∀ m a w,J m a w→VN ro ds P c (Zv (fun a w=>∃ m',m'<m∧J m' a w) xs R) a w):VN ro ds P (Code.loop c) (Zv N xs R) a w:=by
 have key:∀ (M m:Nat) (a:Act) (w:World),m<M→J m a w→Code.roundsIn (WF ro) 0 P c (fun e a' w'=>∃ a0,a'=Act.wd a0 ds∧Zv N xs R e a0 w') M (Act.wd a ds) w:=by
  intro M
  induction M with
  | zero=>intro m a w h; exact absurd h (Nat.not_lt_zero _)
  | succ M ih =>
   intro m a w hm hJ
   refine wpIn_mono (hs m a w hJ) fun e _ w' hh=>?_
   obtain ⟨a0,rfl,q⟩:=hh
   cases e with
   | normal=>obtain ⟨m',hm',hj⟩:=q; exact ih m' a0 w' (by omega) hj
   | _=>exact ⟨a0,rfl,q⟩
 exact wpIn_loop_rounds (m+1) (key _ m a w (Nat.lt_succ_self m) h0)
theorem qfS {c:Code} {Q:Exit→Act→World→Prop} (h:VN ro [] P c Q a w):c.wpIn (WF ro) 0 P Q a w:=by
 have:=wpIn_mono h (Q':=Q) fun e a' w' ⟨a0,e1,h1⟩=>by rw [e1,Wx]; exact h1
 rwa [Wx] at this
theorem qfR {c:Code} {Q:Exit→Act→World→Prop} (h:c.wpIn (WF ro) 0 P Q a w):VN ro [] P c Q a w:=by
 unfold VN
 rw [Wx]
 exact wpIn_mono h fun e a' w' q=>⟨a',(Wx a').symm,q⟩
end
abbrev jK (N:Nat) (w0:World) (J:World→Prop):KV:=.fact (· < N) (fun w=>Below 0 w0 w→J w)
theorem qgn {w w0:World} {J:World→Prop} (hJ:∀ W',Below w.heap.size w W'→J W') (hb:Below 0 w0 w):(jK w.heap.size w0 J).holds w :=
 fun w' ha hb'=>hJ w' ⟨hb'.os.trans hb.os.symm,hb'.tape.trans hb.tape.symm,hb'.output.trans hb.output.symm,by
  rcases Nat.eq_zero_or_pos w.heap.size with h0 | h0
  ·omega
  ·have h1:=ha (w.heap.size - 1) (show w.heap.size - 1<w.heap.size by omega)
   rw [Array.getElem?_eq_getElem (show w.heap.size - 1<w.heap.size by omega)] at h1
   have:=(Array.getElem?_eq_some_iff.1 h1).1
   omega,fun k hk=>ha k hk⟩
end Go.Sx
namespace Go.Sx
open Go Go.RowKit
theorem qbC {P:Program} {f:FuncId} {fn:Func} {c:Code} {args:List Value} {w:World} {R:Ending→World→Prop} (n:Nat) (hf:P.funcs[f]? = some fn) (hb:fn.body=some c) (hn:fn.ntmps=n) (hl:Nat.ble args.length n=true)
  (h:∀ a,QS w.heap.size w n (Jl (VI 0 args)) a w→VN none [] P c (Zv (bodyPost P fn R .ret) [] (bodyPost P fn R .ret)) a w):CallsIn (WF none) 0 P f args.toArray w R:=by
 refine callsIn_of_wp hf hb trivial ?_ rfl
 have hl':args.length≤n:=by simpa using hl
 subst hn
 refine qfS (qdS (h _ (Wk args _ w hl')) fun e a w q=>?_)
 cases e with
 | normal=>exact q
 | ret=>exact q
 | exit i=>exact q.elim
 | _=>exact q.elim
end Go.Sx
set_option linter.unusedVariables false
set_option linter.unusedSimpArgs false
namespace Go.Sx
open Go Go.RowKit
abbrev JV (D:Nat):Deferred:={ target:=.collected D,args:=#[] }
theorem W6 (l:List (Nat × KV)) (k:Nat):Jl l k=(Jm l k).getD .none:=by unfold Jl; rw [Xa]
theorem QS.mix {B:Nat} {w0:World} {n:Nat} {S:St} {a a3:Act} {w w3:World} (h:QS B w0 n S a w) (L:List (Nat × KV)) (hL:(L.all fun x=>!Zj x.2)=true) (h3:QS B w0 n (Jl L) a3 w3):QS B w0 n (Qg (XT S) L) a w3:=by
 have key:∀ k,(∃ v,Jm L k=some v∧Qg (XT S) L k=v∧Jl L k=v)∨(Jm L k=none∧Qg (XT S) L k=XT S k):=by
  intro k
  rw [Xa,W6]
  cases hl:Jm L k with
  | none=>exact .inr ⟨rfl,rfl⟩
  | some v=>exact .inl ⟨v,rfl,rfl,rfl⟩
 exact {
  defers:=h.defers
  size:=h.size
  slots:=fun t c v hs=>by
   rcases key t with ⟨x,h1,h2,_⟩ | ⟨_,h2⟩
   ·exfalso
    have:=List.all_eq_true.1 hL _ (Jf h1)
    rw [h2] at hs
    rw [hs] at this
    cases this
   ·rw [h2] at hs
    exact h.slots t c v (V5 hs)
  below:=h3.below
  base:=h3.base
  holds:=fun k=>by
   rcases key k with ⟨x,_,h2,h4⟩ | ⟨_,h2⟩
   ·rw [h2,← h4]; exact h3.holds k
   ·rw [h2]; exact VG
  inb:=fun k i hi=>by
   rcases key k with ⟨x,_,h2,h4⟩ | ⟨_,h2⟩
   ·rw [h2,← h4] at hi; exact h3.inb k i hi
   ·rw [h2] at hi; exact (ZD hi).elim
  ge:=fun k i hx hi=>by
   rcases key k with ⟨x,_,h2,h4⟩ | ⟨_,h2⟩
   ·rw [h2,← h4] at hi hx; exact h3.ge k i hx hi
   ·rw [h2] at hi; exact (ZD hi).elim
  disj:=fun k k' i hne hx hi hi'=>by
   rcases key k with ⟨x,_,h2,h4⟩ | ⟨_,h2⟩
   ·rcases key k' with ⟨x',_,h2',h4'⟩ | ⟨_,h2'⟩
    ·rw [h2,← h4] at hi hx
     rw [h2',← h4'] at hi'
     exact h3.disj k k' i hne hx hi hi'
    ·rw [h2'] at hi'; exact ZD hi'
   ·rw [h2] at hi; exact ZD hi }
end Go.Sx
set_option linter.unusedVariables false
set_option linter.unusedSimpArgs false
namespace Go.Sx
open Go Go.RowKit
def RM (P:Program) (fn:Func) (R:Ending→World→Prop) (a:Act) (w:World):Prop:=LeavesInM Fence.wide 0 P fn a.tmps R a.defers .returning w
theorem Wn {P:Program} {f:FuncId} {fn:Func} {c:Code} (hf:P.funcs[f]? = some fn) (hname:(fn.name == "runtime.NumGoroutine")=false) (hb:fn.body=some c) (args:Array Value) (w:World):(callFunc f args).run P w = .ok (.enter f args) w:=by
 have h1:fn.name ≠ "runtime.NumGoroutine" := by simpa using hname
 simp [callFunc,hf,h1,hb,mark]
theorem qax {P:Program} {f:FuncId} {fn:Func} {c:Code} {args:List Value} {w:World} {R:Ending→World→Prop} (n:Nat) (fs:List (Nat × KV)) (hfs:∀ x ∈ fs,(∃ fp F,x.2 = .fact fp F)∧x.2.holds w ∧ ∀ i,x.2.fp i→i<w.heap.size)
  (hf:P.funcs[f]? = some fn) (hb:fn.body=some c) (hn:fn.ntmps=n) (hl:Nat.ble args.length n=true)
  (h:∀ a,QS w.heap.size w n (Qg (Jl (VI 0 args)) fs) a w→c.wp P (Zv (RM P fn R) [] (RM P fn R)) a w):Calls P f args.toArray w R:=by
 have hl':args.length≤n:=by simpa using hl
 subst hn
 refine callsIn_wide.1 (callsIn_of_wp_marks (n:=0) hf hb trivial (wpIn_wide.2 ?_) rfl)
 refine wp_mono (h _ (QS.facts fs _ (Wk args _ w hl') (fun k hx=>?_) hfs)) fun e a w q=>?_
 ·unfold Jl at hx
  rw [Xa,Zw] at hx
  simp only [Nat.zero_le,if_true,Nat.sub_zero] at hx
  cases hv:args[k]? <;> rw [hv] at hx <;> exact hx
 ·cases e with
  | normal=>exact q
  | ret=>exact q
  | exit i=>exact q.elim
  | _=>exact q.elim
theorem Wo {P:Program} {B n:Nat} {w0:World} {S:St} {a:Act} {w:World} {fn:Func} {R:Ending→World→Prop} {D:Nat} (kD:Nat) (hr:QS B w0 n S a w) (hk:S kD=JR D (.deferred (some [])))
  (h:∀ w',QS B w0 n (YU S kD .none) a w'→bodyPost P fn R .ret a w'):RM P fn R (Act.wd a [JV D]) w:=by
 have hD:w.heap[D]? = some (.deferred (some [])):=J1 (by rw [← hk]; exact hr.holds kD)
 have h1:=hr.putOb kD D _ (.deferred none) hk
 have h2:QS B w0 n (YU S kD .none) a (w.putObj D (.deferred none)):=h1.weak fun k=>by
  by_cases e:k=kD
  ·subst e; left; rw [qE]
  ·right; rw [qJ _ _ e,qJ _ _ e]
 obtain ⟨_,v,hv,hR⟩:=h _ h2
 unfold RM
 have hd:(Act.wd a [JV D]).defers=[JV D]:=by simp [Act.wd,hr.defers]
 rw [hd]
 exact ⟨by simp,.inl ⟨D,_,rfl,run_takeDeferred hD,v,hv,hR⟩⟩
theorem WR {P:Program} {c:Code} {D:Nat} {M:K} {a:Act} {w:World} (h:VN none [JV D] P c (Zv (fun a w=>M (Act.wd a [JV D]) w) [] (fun a w=>M (Act.wd a [JV D]) w)) a w):c.wp P (Zv M [] M) (Act.wd a [JV D]) w :=
 qgb h fun e a0 w' q=>by
  cases e with
  | normal=>exact q
  | ret=>exact q
  | exit i=>exact q.elim
  | _=>exact q.elim
section
variable {P:Program} {ro:Option Nat} {ds:List Deferred} {N:K} {xs:List (Nat × K)} {R:K} {a:Act} {w:World}
theorem JI {B n:Nat} {w0:World} {S:St} {c:Operand} {x y:Code} (hr:QS B w0 n S a w) (hk:Q2 S c=true) (he:ZI S c = .bool true) (ht:VN ro ds P x (Zv N xs R) a w):VN ro ds P (Code.cond c x y) (Zv N xs R) a w :=
 wpIn_cond_true (by rw [WY]; exact (Jy hr hk).trans he) ht
theorem Jt {B n:Nat} {w0:World} {S:St} {c:Operand} {x y:Code} (hr:QS B w0 n S a w) (hk:Q2 S c=true) (he:ZI S c = .bool false) (hf:VN ro ds P y (Zv N xs R) a w):VN ro ds P (Code.cond c x y) (Zv N xs R) a w :=
 wpIn_cond_false (by rw [WY]; exact (Jy hr hk).trans he) hf
end
section
variable {P:Program} {ops:Array Oper} {B:Nat} {w0:World} {n i:Nat} {o:Oper} {Spre:Nu→St}
theorem qaS (f:FuncId) (args:Nu→Array Value) (v:Nat→Nat→Value) (cs1 cs2:List Value) (e1 e2:TypeId) (d k1 k2:Nat)
  (hC:∀ ν w,Calls P f (args ν) w fun en w'=>∃ b1 b2,en = .returned (v b1 b2)∧Below w.heap.size w w'∧w.heap.size≤b1∧w.heap.size≤b2∧b1≠b2∧w'.heap[b1]? = some (.cells cs1.toArray e1 (0,0))∧w'.heap[b2]? = some (.cells cs2.toArray e2 (0,0)))
  (hd:o.dst=some d:=by rfl) (hdn:Nat.blt d n=true:=by rfl) (hkn1:Nat.ble n k1=true:=by rfl) (hkn2:Nat.blt k1 k2=true:=by rfl) (hsel:YG o=true:=by rfl) (hg:o.guard=none:=by rfl)
  (hk:∀ ν,(o.op.operands.all (Q2 (Spre ν)))=true:=by intro _; kernel_rfl) (hp:∀ ν,(Xo o (Spre ν)).all id=true:=by intro _; kernel_rfl)
  (hv:∀ ν w,(execOp (YD (Spre ν)) o).run P w = .ok (.enter f (args ν)) w:=by intro _ _; kernel_rfl) :
  OpOK P ops B w0 n i o Spre (Xn ops o) (fun ν=>[(d,.slot true (v ((ν i).n 0) ((ν i).n 1))),(k1,.blk ((ν i).n 0) cs1 e1),(k2,.blk ((ν i).n 1) cs2 e2)]):=by
 have hdn':d<n:=by simpa using hdn
 have hkn2':k1<k2:=by simpa using hkn2
 refine Y1 (c:=fun _=>true) (fun _ h=>h) (QC hsel) (fun ν=>by unfold YK; rw [hg]) hk ?_ ?_
 ·intro ν S a w hcf; cases hcf
 ·intro Q p S a w hpi hct hag hrep hev0
  have hev:∀ ν,YC p ν→execOp a.eval o=execOp (YD (Spre ν)) o:=fun ν hν=>(hev0 ν hν).trans (Yi (QC hsel) (by simpa using hp ν))
  unfold Oper.wp
  obtain ⟨ν0,h0⟩:=YC.exists p
  rw [hev ν0 h0,hv ν0 w]
  simp only [Oper.upon]
  refine (hC ν0 w).mono ?_
  rintro en w' ⟨b1,b2,rfl,hb,hb1,hb2,hne,h1,h2⟩
  refine ⟨Gh.of (fun j=>if j=0 then b1 else b2) fun _=>none,fun ν hν=>?_⟩
  have hν':=hν.of_set hpi
  have ea:(ν i).n 0=b1:=by rw [hν.at_set]; rfl
  have eb:(ν i).n 1=b2:=by rw [hν.at_set]; rfl
  rw [ea,eb,hd]
  have hr:=hrep ν hν'
  have r3:=(hr.world hb).put hdn' true (v b1 b2)
  have hold:∀ k' j,(YU (S ν) d (.slot true (v b1 b2)) k').fp j→j<w.heap.size:=fun k' j hj=>by
   by_cases ed:k'=d
   ·subst ed; rw [qE] at hj; exact hj.elim
   ·rw [qJ _ _ ed] at hj
    exact hr.inb k' j hj
  have r4:=r3.ent k1 (.blk b1 cs1 e1) (by intro c x h; cases h) h1 (fun j hj=>by have e:j=b1:=hj; subst e; exact (Array.getElem?_eq_some_iff.1 h1).1) (fun _ j hj=>by have e:j=b1:=hj; subst e; exact Nat.le_trans hr.base hb1)
   (fun k' j _ _ hj hj'=>by
    have e:j=b1:=hj
    have h3:=hold k' j hj'
    omega)
  refine r4.ent k2 (.blk b2 cs2 e2) (by intro c x h; cases h) h2 (fun j hj=>by have e:j=b2:=hj; subst e; exact (Array.getElem?_eq_some_iff.1 h2).1) (fun _ j hj=>by have e:j=b2:=hj; subst e; exact Nat.le_trans hr.base hb2) ?_
  intro k' j hne' _ hj hj'
  have e:j=b2:=hj
  by_cases ek:k'=k1
  ·subst ek
   rw [qE] at hj'
   have e':j=b1:=hj'
   omega
  ·rw [qJ _ _ ek] at hj'
   have:=hold k' j hj'
   omega
end
end Go.Sx
set_option linter.unusedVariables false
set_option linter.unusedSimpArgs false
namespace Go.Sx
open Go Go.RowKit
def hd1 {T:Type} (L:List (Sl T)):Sl T:=L.headD ⟨none,0,[]⟩
section
variable {P:Program} {ops:Array Oper} {B:Nat} {w0:World} {n i:Nat} {o:Oper} {Spre:Nu→St}
theorem qdv (f:FuncId) (args:Nu→Array Value) (v:Nat→Value) (cs1:List Value) (e1:TypeId) (d k1:Nat)
  (hC:∀ ν w,Calls P f (args ν) w fun en w'=>∃ b1,en = .returned (v b1)∧Below w.heap.size w w'∧w.heap.size≤b1∧w'.heap[b1]? = some (.cells cs1.toArray e1 (0,0)))
  (hd:o.dst=some d:=by rfl) (hdn:Nat.blt d n=true:=by rfl) (hkn1:Nat.ble n k1=true:=by rfl) (hsel:YG o=true:=by rfl) (hg:o.guard=none:=by rfl)
  (hk:∀ ν,(o.op.operands.all (Q2 (Spre ν)))=true:=by intro _; kernel_rfl) (hp:∀ ν,(Xo o (Spre ν)).all id=true:=by intro _; kernel_rfl)
  (hv:∀ ν w,(execOp (YD (Spre ν)) o).run P w = .ok (.enter f (args ν)) w:=by intro _ _; kernel_rfl) :
  OpOK P ops B w0 n i o Spre (Xn ops o) (fun ν=>[(d,.slot true (v ((ν i).n 0))),(k1,.blk ((ν i).n 0) cs1 e1)]):=by
 have hdn':d<n:=by simpa using hdn
 refine Y1 (c:=fun _=>true) (fun _ h=>h) (QC hsel) (fun ν=>by unfold YK; rw [hg]) hk ?_ ?_
 ·intro ν S a w hcf; cases hcf
 ·intro Q p S a w hpi hct hag hrep hev0
  have hev:∀ ν,YC p ν→execOp a.eval o=execOp (YD (Spre ν)) o:=fun ν hν=>(hev0 ν hν).trans (Yi (QC hsel) (by simpa using hp ν))
  unfold Oper.wp
  obtain ⟨ν0,h0⟩:=YC.exists p
  rw [hev ν0 h0,hv ν0 w]
  simp only [Oper.upon]
  refine (hC ν0 w).mono ?_
  rintro en w' ⟨b1,rfl,hb,hb1,h1⟩
  refine ⟨Gh.of (fun j=>b1) fun _=>none,fun ν hν=>?_⟩
  have hν':=hν.of_set hpi
  have ea:(ν i).n 0=b1:=by rw [hν.at_set]
  rw [ea,hd]
  have hr:=hrep ν hν'
  have r3:=(hr.world hb).put hdn' true (v b1)
  have hold:∀ k' j,(YU (S ν) d (.slot true (v b1)) k').fp j→j<w.heap.size:=fun k' j hj=>by
   by_cases ed:k'=d
   ·subst ed; rw [qE] at hj; exact hj.elim
   ·rw [qJ _ _ ed] at hj
    exact hr.inb k' j hj
  exact r3.ent k1 (.blk b1 cs1 e1) (by intro c x h; cases h) h1 (fun j hj=>by have e:j=b1:=hj; subst e; exact (Array.getElem?_eq_some_iff.1 h1).1) (fun _ j hj=>by have e:j=b1:=hj; subst e; exact Nat.le_trans hr.base hb1)
   (fun k' j _ _ hj hj'=>by
    have e:j=b1:=hj
    have h3:=hold k' j hj'
    omega)
theorem qdt (f:FuncId) (args:Nu→Array Value) (v:Nat→Nat→Nat→Value) (cs1 cs2 cs3:List Value) (e1 e2 e3:TypeId) (d k1 k2 k3:Nat)
  (hC:∀ ν w,Calls P f (args ν) w fun en w'=>∃ b1 b2 b3,en = .returned (v b1 b2 b3)∧Below w.heap.size w w'∧w.heap.size≤b1∧w.heap.size≤b2∧w.heap.size≤b3∧b1≠b2∧b1≠b3∧b2≠b3∧w'.heap[b1]? = some (.cells cs1.toArray e1 (0,0))∧w'.heap[b2]? = some (.cells cs2.toArray e2 (0,0))∧w'.heap[b3]? = some (.cells cs3.toArray e3 (0,0)))
  (hd:o.dst=some d:=by rfl) (hdn:Nat.blt d n=true:=by rfl) (hkn1:Nat.ble n k1=true:=by rfl) (hkn2:Nat.blt k1 k2=true:=by rfl) (hkn3:Nat.blt k2 k3=true:=by rfl) (hsel:YG o=true:=by rfl) (hg:o.guard=none:=by rfl)
  (hk:∀ ν,(o.op.operands.all (Q2 (Spre ν)))=true:=by intro _; kernel_rfl) (hp:∀ ν,(Xo o (Spre ν)).all id=true:=by intro _; kernel_rfl)
  (hv:∀ ν w,(execOp (YD (Spre ν)) o).run P w = .ok (.enter f (args ν)) w:=by intro _ _; kernel_rfl) :
  OpOK P ops B w0 n i o Spre (Xn ops o) (fun ν=>[(d,.slot true (v ((ν i).n 0) ((ν i).n 1) ((ν i).n 2))),(k1,.blk ((ν i).n 0) cs1 e1),(k2,.blk ((ν i).n 1) cs2 e2),(k3,.blk ((ν i).n 2) cs3 e3)]):=by
 have hdn':d<n:=by simpa using hdn
 have hkn2':k1<k2:=by simpa using hkn2
 have hkn3':k2<k3:=by simpa using hkn3
 refine Y1 (c:=fun _=>true) (fun _ h=>h) (QC hsel) (fun ν=>by unfold YK; rw [hg]) hk ?_ ?_
 ·intro ν S a w hcf; cases hcf
 ·intro Q p S a w hpi hct hag hrep hev0
  have hev:∀ ν,YC p ν→execOp a.eval o=execOp (YD (Spre ν)) o:=fun ν hν=>(hev0 ν hν).trans (Yi (QC hsel) (by simpa using hp ν))
  unfold Oper.wp
  obtain ⟨ν0,h0⟩:=YC.exists p
  rw [hev ν0 h0,hv ν0 w]
  simp only [Oper.upon]
  refine (hC ν0 w).mono ?_
  rintro en w' ⟨b1,b2,b3,rfl,hb,hb1,hb2,hb3,n12,n13,n23,h1,h2,h3⟩
  refine ⟨Gh.of (fun j=>if j=0 then b1 else if j=1 then b2 else b3) fun _=>none,fun ν hν=>?_⟩
  have hν':=hν.of_set hpi
  have ea:(ν i).n 0=b1:=by rw [hν.at_set]; rfl
  have eb:(ν i).n 1=b2:=by rw [hν.at_set]; rfl
  have ec:(ν i).n 2=b3:=by rw [hν.at_set]; rfl
  rw [ea,eb,ec,hd]
  have hr:=hrep ν hν'
  have r3:=(hr.world hb).put hdn' true (v b1 b2 b3)
  have hold:∀ k' j,(YU (S ν) d (.slot true (v b1 b2 b3)) k').fp j→j<w.heap.size:=fun k' j hj=>by
   by_cases ed:k'=d
   ·subst ed; rw [qE] at hj; exact hj.elim
   ·rw [qJ _ _ ed] at hj
    exact hr.inb k' j hj
  have r4:=r3.ent k1 (.blk b1 cs1 e1) (by intro c x h; cases h) h1 (fun j hj=>by have e:j=b1:=hj; subst e; exact (Array.getElem?_eq_some_iff.1 h1).1) (fun _ j hj=>by have e:j=b1:=hj; subst e; exact Nat.le_trans hr.base hb1)
   (fun k' j _ _ hj hj'=>by
    have e:j=b1:=hj
    have h3:=hold k' j hj'
    omega)
  have r5:=r4.ent k2 (.blk b2 cs2 e2) (by intro c x h; cases h) h2 (fun j hj=>by have e:j=b2:=hj; subst e; exact (Array.getElem?_eq_some_iff.1 h2).1) (fun _ j hj=>by have e:j=b2:=hj; subst e; exact Nat.le_trans hr.base hb2)
   (fun k' j hne' _ hj hj'=>by
    have e:j=b2:=hj
    by_cases ek:k'=k1
    ·subst ek
     rw [qE] at hj'
     have e':j=b1:=hj'
     omega
    ·rw [qJ _ _ ek] at hj'
     have:=hold k' j hj'
     omega)
  refine r5.ent k3 (.blk b3 cs3 e3) (by intro c x h; cases h) h3 (fun j hj=>by have e:j=b3:=hj; subst e; exact (Array.getElem?_eq_some_iff.1 h3).1) (fun _ j hj=>by have e:j=b3:=hj; subst e; exact Nat.le_trans hr.base hb3) ?_
  intro k' j hne' _ hj hj'
  have e:j=b3:=hj
  by_cases ek:k'=k2
  ·subst ek
   rw [qE] at hj'
   have e':j=b2:=hj'
   omega
  ·rw [qJ _ _ ek] at hj'
   by_cases ek:k'=k1
   ·subst ek
    rw [qE] at hj'
    have e':j=b1:=hj'
    omega
   ·rw [qJ _ _ ek] at hj'
    have:=hold k' j hj'
    omega
end
end Go.Sx
set_option linter.unusedVariables false
set_option linter.unusedSimpArgs false
namespace Go.Sx
open Go Go.RowKit
def qcV (base:Nat) (fs:List (Nat × KV)) (W:World):Prop:=∀ x ∈ fs,(∃ fp F,x.2 = .fact fp F)∧x.2.holds W ∧ ∀ i,x.2.fp i→base≤i∧i<W.heap.size
theorem QS.factsAt {B n:Nat} {w0:World} {a:Act} {w:World} {base:Nat}:∀ (fs:List (Nat × KV)) (S:St),QS B w0 n S a w→(∀ k i,(S k).excl→(S k).fp i→i<base)→qcV base fs w→QS B w0 n (Qg S fs) a w
 | [],S,h,_,_=>h
 | (k,v) :: fs,S,h,hx,hf=>by
  obtain ⟨⟨fp,F,hv⟩,hh,hlt⟩:=hf (k,v) (by simp)
  have hv':v = .fact fp F:=hv
  have hne:¬ v.excl:=by rw [hv']; exact fun h=>h
  have h1:QS B w0 n (YU S k v) a w:=h.ent k v (by intro c x h; rw [hv'] at h; cases h) hh (fun i hi=>(hlt i hi).2) (fun h=>(hne h).elim) (fun k' i _ ho hi hi'=>by
   rcases ho with ho | ho
   ·exact hne ho
   ·have:=hx k' i ho hi'
    have:=(hlt i hi).1
    omega)
  refine QS.factsAt fs (YU S k v) h1 (fun k' i he hi=>?_) (fun x hx'=>hf x (by simp [hx']))
  by_cases e:k'=k
  ·subst e; rw [qE] at he; exact (hne he).elim
  ·rw [qJ _ _ e] at he hi; exact hx k' i he hi
def qcB {γ:Type} (n:Nat) (ps:Array Tmp) (enc:γ→Array Value) (sl:γ→List (Nat × KV)):Prop :=
 (∀ g,(enc g).size=ps.size) ∧ ∀ (B:Nat) (w0:World) (S:St) (a:Act) (w:World) (g:γ),QS B w0 n S a w→QS B w0 n (Qg S (sl g)) { tmps:=(ps.zip (enc g)).foldl (fun tmps (x:Tmp × Value)=>tmps.setIfInBounds x.1 x.2) a.tmps,defers:=[] } w
theorem qgr {γ:Type} {n:Nat} (p1:Tmp) (e1:γ→Value) (h1:Nat.blt p1 n=true):qcB n #[p1] (fun g=>#[e1 g]) (fun g=>[(p1,.slot true (e1 g))]) :=
 ⟨fun _=>rfl,fun B w0 S a w g h=>by
  have h1':p1<n:=by simpa using h1
  have:=h.put h1' true (e1 g)
  have e:({ tmps:=(#[p1].zip #[e1 g]).foldl (fun tmps (x:Tmp × Value)=>tmps.setIfInBounds x.1 x.2) a.tmps,defers:=[] }:Act)=a.put (some p1) (e1 g):=by simp [Act.put,h.defers]
  rw [e]; exact this⟩
theorem qfw {γ:Type} {n:Nat} (p1 p2:Tmp) (e1 e2:γ→Value) (h1:Nat.blt p1 n=true) (h2:Nat.blt p2 n=true):qcB n #[p1,p2] (fun g=>#[e1 g,e2 g]) (fun g=>[(p1,.slot true (e1 g)),(p2,.slot true (e2 g))]) :=
 ⟨fun _=>rfl,fun B w0 S a w g h=>by
  have h1':p1<n:=by simpa using h1
  have h2':p2<n:=by simpa using h2
  have:=(h.put h1' true (e1 g)).put h2' true (e2 g)
  have e:({ tmps:=(#[p1,p2].zip #[e1 g,e2 g]).foldl (fun tmps (x:Tmp × Value)=>tmps.setIfInBounds x.1 x.2) a.tmps,defers:=[] }:Act)=(a.put (some p1) (e1 g)).put (some p2) (e2 g):=by simp [Act.put,h.defers]
  rw [e]; exact this⟩
theorem qbQ {P:Program} {c:Code} {N R:K} {xs:List (Nat × K)} {a:Act} {w:World} (h:c.wp P (Zv N [(0,fun _ _=>False)] R) a w):c.wp P (Zv N xs R) a w :=
 wp_mono h fun e a w q=>by
  cases e with
  | normal=>exact q
  | ret=>exact q
  | exit i =>
   exfalso
   cases i with
   | zero=>exact q
   | succ i=>exact q
  | _=>exact q.elim
theorem qfz {P:Program} {ro:Option Nat} {ds:List Deferred} {N:K} {xs:List (Nat × K)} {R:K} {a:Act} {w:World} {ops:Array Oper} {B n id:Nat} {w0:World} {draw:Bool} {S0:St} {Se:Nu→St} {rw:List (List Nat × List Nat)} (hm:P.follows .mixedOrders=true)
  (hr:QS B w0 n S0 a w) (hc:Y3 P ops B w0 n 0 ops.toList (fun _=>S0) rw Se)
  (hi:(draw && (VL ops.toList rw 0 [] [] && Zo ops.toList 0))=true) (hd:ops.toList.all Vb=true)
  (hQ:∀ ν a w,QS B w0 n (Se ν) a w→N a w):VN ro ds P (Code.region id ops draw) (Zv N xs R) a w:=by
 have hd':∀ (j:Nat) o,ops[j]? = some o→Vb o=true:=fun j o ho=>List.all_eq_true.1 hd o (by
  rw [Array.mem_toList_iff]; exact Array.mem_of_getElem? ho)
 cases draw with
 | false=>cases hi
 | true =>
  simp only [Bool.true_and,Bool.and_eq_true] at hi
  refine wpIn_region_any hm (qcl (QN:=N) hd' (fun a w h=>⟨a,rfl,h⟩) _ _ a _ ?_)
  have hr':QS B w0 n S0 a { w with drawn:=w.drawn+1 }:=hr.world ⟨rfl,rfl,rfl,Nat.le_refl _,fun _ _=>rfl⟩
  exact Y3.anyorderT hc hi.1 hi.2 hr' (fun ν a w h=>⟨rfl,hQ ν a w h⟩) _ (Nat.le_refl _)
end Go.Sx
set_option linter.unusedVariables false
set_option linter.unusedSimpArgs false
namespace Go.Sx
open Go Go.RowKit
abbrev okL (kl kD kF:Nat) (x:Nat × KV):Bool:=!Zj x.2 && (!Nat.beq x.1 kl && !Nat.beq x.1 kD && !Nat.beq x.1 kF)
theorem W8:∀ (ks:List Nat) (S:St) (k:Nat),Qg S (ks.map fun k=>(k,KV.none)) k=if k ∈ ks then .none else S k
 | [],S,k=>by simp [Qg]
 | j :: ks,S,k=>by
  show Qg (YU S j .none) _ k=_
  rw [W8 ks]
  by_cases e:k ∈ ks
  ·simp [e]
  ·by_cases e':k=j
   ·subst e'; simp [qE]
   ·simp [e,e',qJ]
def qco (v:KV):Bool:=match v with | .blk ..=>true | .own ..=>true | _=>false
theorem qb8 {v:KV} (h:qco v=true):v.excl:=by unfold qco at h; split at h <;> first | trivial | cases h
theorem W4:∀ (fs:List (Nat × KV)) {w:World},Xx (fs.map Prod.snd) w → ∀ x ∈ fs,x.2.holds w
 | [],_,_,x,hx=>by cases hx
 | y :: fs,w,h,x,hx=>by
  rcases List.mem_cons.1 hx with e | e
  ·subst e; exact h.1
  ·exact W4 fs h.2 x e
end Go.Sx
set_option linter.unusedVariables false
set_option linter.unusedSimpArgs false
namespace Go.Sx
open Go Go.RowKit
structure qcC (O:Nat→Prop) (base:Nat) (W W':World):Prop where
 os:W'.os=W.os
 tape:W'.tape=W.tape
 output:W'.output=W.output
 size:base≤W'.heap.size
 block:∀ k,k<base → ¬ O k→W'.heap[k]? = W.heap[k]?
def qaN (O:Nat→Prop) (base:Nat) (W W':World):Prop:=∀ k,(base≤k∨O k)→k<W.heap.size→W'.heap[k]? = W.heap[k]?
abbrev keO (O:Nat→Prop) (base:Nat) (W:World):KV:=.fact (fun i=>(base≤i∨O i)∧i<W.heap.size) (fun W'=>qaN O base W W')
theorem QS.sameO {O:Nat→Prop} {B base n:Nat} {w0:World} {S:St} {a:Act} {w w':World} (h:QS B w0 n S a w) (hs:qcC O base w w') (hB:B≤base) (hOB:∀ k,O k→B≤k) (hw:w0.heap.size≤base) (hf:∀ k i,(S k).fp i→i<base ∧ ¬ O i):QS B w0 n S a w' where
 defers:=h.defers
 size:=h.size
 slots:=h.slots
 below:=⟨hs.os.trans h.below.os,hs.tape.trans h.below.tape,hs.output.trans h.below.output,Nat.le_trans hw hs.size,fun k hk=>(hs.block k (Nat.lt_of_lt_of_le hk hB) (fun ho=>by have:=hOB k ho; omega)).trans (h.below.block k hk)⟩
 base:=Nat.le_trans hB hs.size
 holds k:=KV.holds_agree (h.holds k) fun i hi=>hs.block i (hf k i hi).1 (hf k i hi).2
 inb k i hi:=Nat.lt_of_lt_of_le (hf k i hi).1 hs.size
 ge:=h.ge
 disj:=h.disj
def qcD {α γ:Type} (P:Program) (gf:Nat) (lb:Array Value) (enc:α→γ→Array Value) (fs:α→γ→List (Nat × KV)) (xs:List α) (O:Nat→Prop) (Fx Ox:World→Prop) (lo:Nat):Prop :=
 ∀ (l:Nat) (J:List α→World→Prop) (JX:World→Prop) (base:Nat),(∀ r W W',J r W→qcC O base W W'→J r W')→(∀ W W',JX W→Below W.heap.size W W'→JX W')→(∀ r W,J r W→Fx W) →
  ∀ wc:World,(∀ r W,J r W→Below 0 wc W)→(∀ W,JX W→Below 0 wc W)→(∀ k,O k→k+1<base)→lo≤base →
  (∀ x z rest W,J (x :: rest) W→base≤W.heap.size→qcV base (fs x z) W→YieldAt (WF none) 0 P l (enc x z) W fun e W'=>((e = .returned (.bool true)∧J rest W')∨(e = .returned (.bool false)∧JX W'))∧W.heap.size≤W'.heap.size∧qaN O base W W') →
  ∀ W,J xs W→Ox W→W.heap.size=base→CallsIn (WF none) 0 P gf (#[.func (.yield l) #[] #[]]++lb) W fun e W'=>(∃ v,e = .returned v)∧(J [] W'∨JX W')
def qgh {α γ:Type} (n:Nat) (ps:Array Tmp) (enc:α→γ→Array Value) (sl:α→γ→List (Nat × KV)):Prop:=∀ x,qcB n ps (enc x) (sl x)
theorem qai {α γ:Type} {P:Program} {B n:Nat} {w0:World} {S:St} {a:Act} {w:World} {N:K} {xs:List (Nat × K)} {R:K} {g:Operand} {ps:Array Tmp} {assign body:Code} {gf:Nat} {lb:Array Value}
  (enc:α→γ→Array Value) (fs:α→γ→List (Nat × KV)) (sl:α→γ→List (Nat × KV)) (xs0:List α) (O:Nat→Prop) (kO:List Nat) (Fx Ox:World→Prop) (kl kD kF:Nat) (ie:Nat) (KX:K) (Inv:List α→List (Nat × KV)→Prop) (InvX InvE:List (Nat × KV)→Prop) (L0:List (Nat × KV))
  (hr:QS B w0 n S a w) (hk:Q2 S g=true) (hg:ZI S g = .func (.func gf) #[] lb) (eg:∀ args w,(callFunc gf args).run P w = .ok (.enter gf args) w)
  (hit:qcD P gf lb enc fs xs0 O Fx Ox w0.heap.size) (hps:qgh n ps enc sl) (hx:WH xs ie=some KX) (hO:∀ i,O i → ∃ k ∈ kO,(S k).excl∧(S k).fp i) (hOx:∀ W,QS B w0 n S a W→Ox W)
  (h0:Inv xs0 L0) (hn0:L0.all (okL kl kD kF)=true) (hs0:L0.map (fun x=>S x.1)=L0.map (·.2))
  (hkl:S kl = .none) (hkD:S kD = .none) (hkF:S kF = .none) (hne:(!Nat.beq kD kl && !Nat.beq kF kl && !Nat.beq kF kD)=true)
  (hfix:∀ r L,Inv r L → ∀ x ∈ L,x.1 ∉ kO ∧ ∀ i,x.2.fp i→(S x.1).fp i)
  (hF:∀ r L a W,Inv r L→QS B w0 n (Qg (XT S) L) a W→Fx W)
  (hround:∀ (l D base:Nat) (oR oD:Obj) (W:World) (x:α) (z:γ) (rest:List α) (L:List (Nat × KV)) (a1:Act) (w1:World),w.heap.size≤base→Inv (x :: rest) L →
   QS B w0 n (Qg (Qg (XT S) L) ([(kl,JR l oR),(kD,JR D oD),(kF,keO O base W)]++(fs x z++sl x z))) a1 w1 →
   VN (some l) [] P assign (Zv (fun a2 w2=>∃ S2,QS B w0 n S2 a2 w2∧S2 kl=JR l oR ∧ ∀ oB w3,QS B w0 n (YU S2 kl (JR l oB)) a2 w3 →
    VN (some l) [] P body (Zv (fun a3 w4=>∃ L',Inv rest L'∧L'.all (okL kl kD kF)=true∧QS B w0 n (Jl (L'++[(kl,JR l oB),(kD,JR D oD),(kF,keO O base W)])) a3 w4) [(ie,fun a3 w4=>∃ L',InvE L'∧L'.all (okL kl kD kF)=true∧QS B w0 n (Jl (L'++[(kl,JR l oB),(kD,JR D oD),(kF,keO O base W)])) a3 w4)]
     (fun a3 w4=>∃ L',InvX L'∧L'.all (okL kl kD kF)=true∧QS B w0 n (Jl (L'++[(kl,JR l oB),(kD,JR D oD),(kF,keO O base W)])) a3 w4)) a2 w3) [] (fun _ _=>False)) a1 w1)
  (hdone:∀ (D:Nat) (L:List (Nat × KV)) (W:World),Inv [] L→QS B w0 n (Qg (Qg (XT S) L) [(kD,JR D (.deferred (some [])))]) a W→N (Act.wd a [JV D]) W)
  (hstop:∀ (D:Nat) (L:List (Nat × KV)) (W:World),InvX L→QS B w0 n (Qg (Qg (XT S) L) [(kD,JR D (.deferred (some [])))]) a W→R (Act.wd a [JV D]) W)
  (hexit:∀ (D:Nat) (L:List (Nat × KV)) (W:World),InvE L→QS B w0 n (Qg (Qg (XT S) L) [(kD,JR D (.deferred (some [])))]) a W→KX (Act.wd a [JV D]) W) :
  (Code.rangeFunc g ps assign body).wp P (Zv N xs R) a w:=by
 simp only [Bool.and_eq_true,Bool.not_eq_true'] at hne
 have nD:kD≠kl:=fun e=>by rw [e,Nat.beq_refl] at hne; cases hne.1.1
 have nF:kF≠kl:=fun e=>by rw [e,Nat.beq_refl] at hne; cases hne.1.2
 have nG:kF≠kD:=fun e=>by rw [e,Nat.beq_refl] at hne; cases hne.2
 have hge:a.eval g = .func (.func gf) #[] lb:=(Jy hr hk).trans hg
 refine (wpIn_wide (n:=0)).1 (wpIn_rangeFunc fun fn hfn=>?_)
 obtain ⟨rec,hrec⟩:∃ rec:LoopState→Option Code→Loop,rec=fun st pe=>{ state:=st,pending:=pe,fn,tmps:=a.tmps,params:=ps,assign,body,defers:=w.heap.size }:=⟨_,rfl⟩
 obtain ⟨D,hD⟩:∃ D,D=w.heap.size:=⟨_,rfl⟩
 obtain ⟨l,hl⟩:∃ l,l=w.heap.size+1:=⟨_,rfl⟩
 obtain ⟨base,hbs⟩:∃ base,base=w.heap.size+2:=⟨_,rfl⟩
 let st:List (Nat × KV)→Loop→St:=fun L r=>Qg (Qg (XT S) L) [(kl,JR l (.loop r)),(kD,JR D (.deferred (some [])))]
 let J:List α→World→Prop:=fun r W=>∃ L,Inv r L∧L.all (okL kl kD kF)=true∧QS B w0 n (st L (rec .ready none)) a W
 let JX:World→Prop:=fun W=>(∃ L,InvX L∧L.all (okL kl kD kF)=true∧QS B w0 n (st L (rec .done (some .ret))) a W)∨(∃ L,InvE L∧L.all (okL kl kD kF)=true∧QS B w0 n (st L (rec .done (some (.exit ie)))) a W)
 have hOs:∀ i,O i→i<w.heap.size∧B≤i:=fun i hi=>by
  obtain ⟨k,_,h1,h2⟩:=hO i hi
  exact ⟨hr.inb k i h2,hr.ge k i h1 h2⟩
 have hst_kl:∀ L r,st L r kl=JR l (.loop r):=fun L r=>by
  show YU (YU _ kl _) kD _ kl=_
  rw [qJ _ _ (Ne.symm nD),qE]
 have hLk:∀ L,L.all (okL kl kD kF)=true → ∀ k,(k=kl∨k=kD∨k=kF)→Qg (XT S) L k = .none:=fun L hL k hk'=>by
  have hnone:S k = .none:=by
   rcases hk' with rfl | rfl | rfl
   ·exact hkl
   ·exact hkD
   ·exact hkF
  rw [Xa]
  cases hlk:Jm L k with
  | some v =>
   exfalso
   have h1:=List.all_eq_true.1 hL _ (Jf hlk)
   simp only [okL,Bool.and_eq_true,Bool.not_eq_true'] at h1
   rcases hk' with rfl | rfl | rfl
   ·have:=h1.2.1.1; rw [Nat.beq_refl] at this; cases this
   ·have:=h1.2.1.2; rw [Nat.beq_refl] at this; cases this
   ·have:=h1.2.2; rw [Nat.beq_refl] at this; cases this
  | none =>
   show XT S k = .none
   unfold XT; rw [hnone]
 have hst_kF:∀ L r,L.all (okL kl kD kF)=true→st L r kF = .none:=fun L r hL=>by
  show YU (YU _ kl _) kD _ kF=_
  rw [qJ _ _ nG,qJ _ _ nF]
  exact hLk L hL kF (.inr (.inr rfl))
 have hturn:∀ L r r' W,QS B w0 n (st L r) a W→QS B w0 n (st L r') a (W.putObj l (.loop r')):=fun L r r' W h=>by
  refine (h.putOb kl l (.loop r) (.loop r') (hst_kl L r)).congr fun k=>?_
  show YU (YU _ kl _) kD _ k=YU (YU (YU _ kl _) kD _) kl _ k
  by_cases e:k=kl
  ·subst e; rw [qJ _ _ (Ne.symm nD),qE,qE]
  ·rw [qJ _ _ e]
   by_cases e':k=kD
   ·subst e'; rw [qE,qE]
   ·rw [qJ _ _ e',qJ _ _ e',qJ _ _ e,qJ _ _ e]
 -- where the state's blocks lie
 have hfp:∀ L r,(∀ x ∈ L,x.1 ∉ kO ∧ ∀ i,x.2.fp i→(S x.1).fp i) → ∀ k i,(st L r k).fp i→i<base ∧ ¬ O i:=fun L r hL k i hi=>by
  have hi':(YU (YU (Qg (XT S) L) kl (JR l (.loop r))) kD (JR D (.deferred (some []))) k).fp i:=hi
  by_cases e:k=kD
  ·subst e; rw [qE] at hi'; have:i=D:=hi'; exact ⟨by omega,fun h=>by have:=hOs i h; omega⟩
  ·rw [qJ _ _ e] at hi'
   by_cases e':k=kl
   ·subst e'; rw [qE] at hi'; have:i=l:=hi'; exact ⟨by omega,fun h=>by have:=hOs i h; omega⟩
   ·rw [qJ _ _ e',Xa] at hi'
    cases hlk:Jm L k with
    | some v =>
     rw [hlk] at hi'
     obtain ⟨hk1,hk2⟩:=hL _ (Jf hlk)
     have h3:=hr.inb k i (hk2 i hi')
     refine ⟨by omega,fun h=>?_⟩
     obtain ⟨k',h4,h5,h6⟩:=hO i h
     exact hr.disj k' k i (fun e=>hk1 (e ▸ h4)) h5 h6 (hk2 i hi')
    | none=>rw [hlk] at hi'; exact (ZD hi').elim
 have hbw:w0.heap.size≤base∧B≤base:=by have:=hr.below.size; have:=hr.base; omega
 have hW1:QS B w0 n (st L0 (rec .ready none)) a ((w.alloc (.deferred (some []))).alloc (.loop (rec .ready none))):=by
  have h1:=hr.newOb kD (.deferred (some []))
  have h2:=h1.newOb kl (.loop (rec .ready none))
  rw [World.size_alloc] at h2
  have h2':QS B w0 n (YU (YU S kD (JR D (.deferred (some [])))) kl (JR l (.loop (rec .ready none)))) a ((w.alloc (.deferred (some []))).alloc (.loop (rec .ready none))):=by rw [hD,hl]; exact h2
  refine h2'.weak fun k=>?_
  show YU (YU _ kl _) kD _ k=_∨YU (YU _ kl _) kD _ k=YU (YU _ kD _) kl _ k
  by_cases e:k=kD
  ·subst e; right; rw [qE,qJ _ _ nD,qE]
  ·rw [qJ _ _ e]
   by_cases e':k=kl
   ·subst e'; right; rw [qE,qE]
   ·rw [qJ _ _ e',qJ _ _ e',qJ _ _ e,Xa]
    cases hlk:Jm L0 k with
    | some v =>
     right
     have hm:=Jf hlk
     obtain ⟨i,hi,hix⟩:=List.getElem_of_mem hm
     have h3:=congrArg (fun t=>t[i]?) hs0
     simp only [List.getElem?_map,List.getElem?_eq_getElem hi,hix,Option.map_some] at h3
     injection h3 with h3
     exact h3.symm
    | none =>
     show XT S k=_∨XT S k=_
     unfold XT
     split
     ·rename_i h; exact .inr h.symm
     ·exact .inl rfl
 have hWS0:QS B w0 n S a ((w.alloc (.deferred (some []))).alloc (.loop (rec .ready none))):=hr.world (((Below.refl _ w).alloc (Nat.le_refl _) _).alloc (by simp) _)
 obtain ⟨W1,hWe⟩:∃ W1,(w.alloc (.deferred (some []))).alloc (.loop (rec .ready none))=W1:=⟨_,rfl⟩
 have hsz:W1.heap.size=base:=by rw [← hWe,hbs]; simp
 refine ⟨l,[JV D],W1,{ target:=.fn (.func gf) lb,args:=#[.func (.yield l) #[] #[]] },W1,gf,#[.func (.yield l) #[] #[]]++lb,W1,?_,?_,?_,?_,fun e=>(by cases e),?_⟩
 ·rw [← hWe,hrec,hl,hD]; exact run_enterLoop_outer _ _ _ _ _
 ·simp only [resolve,hge]
  simp [go_sem]
 ·intro f' hf'; trivial
 ·simp [invoke,go_sem,eg]
 rw [hWe] at hW1 hWS0
 have hWS:=hWS0
 have hdrop:∀ L r W,L.all (okL kl kD kF)=true→QS B w0 n (st L r) a W→QS B w0 n (Qg (XT S) L) a W:=fun L r W hL h=>h.weak fun k=>by
  by_cases e:k=kl
  ·subst e; left; exact hLk L hL k (.inl rfl)
  ·by_cases e':k=kD
   ·subst e'; left; exact hLk L hL k (.inr (.inl rfl))
   ·right
    show _=YU (YU _ kl _) kD _ k
    rw [qJ _ _ e',qJ _ _ e]
 refine (hit l J JX base ?_ ?_ ?_ w0 ?_ ?_ (fun k hk=>by have:=hOs k hk; omega) hbw.1 ?_ W1 ⟨L0,h0,hn0,hW1⟩ (hOx W1 hWS) hsz).mono ?_
 ·rintro r W W' ⟨L,h1,h2,h3⟩ hs; exact ⟨L,h1,h2,h3.sameO hs hbw.2 (fun k hk=>(hOs k hk).2) hbw.1 (hfp L _ (hfix r L h1))⟩
 ·rintro W W' (⟨L,h1,h2,h3⟩ | ⟨L,h1,h2,h3⟩) hb
  ·exact .inl ⟨L,h1,h2,h3.world hb⟩
  ·exact .inr ⟨L,h1,h2,h3.world hb⟩
 ·rintro r W ⟨L,h1,h2,h3⟩; exact hF r L a W h1 (hdrop L _ W h2 h3)
 ·rintro r W ⟨L,h1,h2,h3⟩; exact h3.below.mono (Nat.zero_le _)
 ·rintro W (⟨L,h1,h2,h3⟩ | ⟨L,h1,h2,h3⟩) <;> exact h3.below.mono (Nat.zero_le _)
 ·rintro x z rest W ⟨L,hI,hLo,hRep⟩ hbW hfa
  have hlr:W.heap[l]? = some (.loop (rec .ready none)):=J1 (by rw [← hst_kl L]; exact hRep.holds kl)
  have hy:=run_yield (P:=P) (args:=enc x z) hlr (by rw [hrec]; exact (hps x).1 z)
  rw [hrec] at hy
  refine ⟨fn,_,assign,body,hy,roundIn_of_wpIn (F:=WF none) (n:=0) hfn ?_⟩
  have h1:QS B w0 n (YU (st L (rec .ready none)) kF (keO O base W)) a W:=hRep.ent kF (keO O base W) (by intro c x h; cases h) (fun w' ha i h1 h2=>ha i ⟨h1,h2⟩) (fun i hi=>hi.2) (fun h=>h.elim) fun k' i _ hx hi hi'=>by
   rcases hx with hx | hx
   ·exact hx.elim
   ·have h3:=hfp L _ (hfix _ L hI) k' i hi'
    rcases hi.1 with h4 | h4
    ·omega
    ·exact h3.2 h4
  have h1':=QS.factsAt (fs x z) _ h1 (fun k i he hi=>by
   by_cases e:k=kF
   ·subst e; rw [qE] at he; exact he.elim
   ·rw [qJ _ _ e] at hi; exact (hfp L _ (hfix _ L hI) k i hi).1) hfa
  have h2:=(hps x).2 B w0 _ a W z h1'
  have happ:∀ (A C:List (Nat × KV)) (T:St),Qg T (A++C)=Qg (Qg T A) C:=by
   intro A
   induction A with
   | nil=>intro C T; rfl
   | cons x A ih=>intro C T; obtain ⟨j,v⟩:=x; exact ih C _
  have hgo:=hround l D base (.loop (rec .ready none)) (.deferred (some [])) W x z rest L _ W (by omega) hI (by rw [happ,happ]; exact h2)
  have fin:∀ (jump:Option Code) (a3:Act) (W3:World) (L':List (Nat × KV)),L'.all (okL kl kD kF)=true→QS B w0 n (Jl (L'++[(kl,JR l (.loop { rec .ready none with state:=.busy })),(kD,JR D (.deferred (some []))),(kF,keO O base W)])) a3 W3 →
    (Instr.endRound l jump).run P W3 = .ok (.bool jump.isNone) (W3.putObj l (.loop (rec (if jump.isNone then .ready else .done) jump)))∧QS B w0 n (st L' (rec (if jump.isNone then .ready else .done) jump)) a (W3.putObj l (.loop (rec (if jump.isNone then .ready else .done) jump)))∧W.heap.size≤(W3.putObj l (.loop (rec (if jump.isNone then .ready else .done) jump))).heap.size∧qaN O base W (W3.putObj l (.loop (rec (if jump.isNone then .ready else .done) jump))):=by
   intro jump a3 W3 L' hns hR3
   have hmix:=hr.mix _ (by rw [List.all_append,Bool.and_eq_true]; exact ⟨List.all_eq_true.2 fun x hx=>by have:=List.all_eq_true.1 hns x hx; simp only [okL,Bool.and_eq_true] at this; exact this.1,rfl⟩) hR3
   have hst':∀ k,YU (st L' { rec .ready none with state:=.busy }) kF (keO O base W) k=Qg (XT S) (L'++[(kl,JR l (.loop { rec .ready none with state:=.busy })),(kD,JR D (.deferred (some []))),(kF,keO O base W)]) k:=by
    intro k; rw [happ]; rfl
   have h5:=hmix.congr hst'
   have hke:qaN O base W W3:=by
    have:=h5.holds kF
    rw [qE] at this
    exact this W3 (agree.refl _ _)
   have hsz3:W.heap.size≤W3.heap.size:=by
    rcases Nat.lt_or_ge base W.heap.size with h | h
    ·have h6:=hke (W.heap.size - 1) (.inl (by omega)) (by omega)
     rw [Array.getElem?_eq_getElem (show W.heap.size - 1<W.heap.size by omega)] at h6
     have:=(Array.getElem?_eq_some_iff.1 h6).1
     omega
    ·have hl3:l<W3.heap.size:=h5.inb kl l (by rw [qJ _ _ (Ne.symm nF),hst_kl L']; rfl)
     omega
   have h5':QS B w0 n (st L' { rec .ready none with state:=.busy }) a W3:=h5.weak fun k=>by
    by_cases e:k=kF
    ·subst e; left; exact hst_kF L' _ hns
    ·right; rw [qJ _ _ e]
   have hl3:W3.heap[l]? = some (.loop { rec .ready none with state:=.busy }):=J1 (by rw [← hst_kl L']; exact h5'.holds kl)
   have he:=run_endRound (P:=P) jump hl3
   rw [hrec] at he
   refine ⟨by rw [hrec]; exact he,hturn L' _ _ W3 h5',?_,fun k hk1 hk2=>?_⟩
   ·rw [World.putObj_size]; exact hsz3
   ·have hne:k≠l:=by
     rcases hk1 with h | h
     ·omega
     ·have:=hOs k h
      omega
    rw [World.putObj_heap_other hne]; exact hke k hk1 hk2
  refine wpIn_mono (qfS hgo) ?_
  intro e a2 w2 hq
  cases e with
  | normal =>
   obtain ⟨S2,hR2,hS2,hbody⟩:=hq
   have hl2:w2.heap[l]? = some (.loop (rec .ready none)):=J1 (by rw [← hS2]; exact hR2.holds kl)
   refine ⟨_,run_beginRound hl2 (by rw [hrec]),?_⟩
   refine wpIn_mono (qfS (hbody _ _ (hR2.putOb kl l _ _ hS2))) ?_
   intro e a3 W3 hq3
   cases e with
   | normal =>
    obtain ⟨L',hI',hns,hR3⟩:=hq3
    obtain ⟨h6,h7,h8⟩:=fin none a3 W3 L' hns hR3
    exact ⟨_,_,h6,.inl ⟨rfl,L',hI',hns,h7⟩,h8⟩
   | ret =>
    obtain ⟨L',hI',hns,hR3⟩:=hq3
    obtain ⟨h6,h7,h8⟩:=fin (some .ret) a3 W3 L' hns hR3
    exact ⟨_,_,h6,.inr ⟨rfl,.inl ⟨L',hI',hns,h7⟩⟩,h8⟩
   | exit i =>
    simp only [Zv,WH] at hq3
    cases hb:Nat.beq ie i with
    | false=>rw [hb] at hq3; simp at hq3
    | true =>
     rw [hb] at hq3
     obtain rfl:=Nat.eq_of_beq_eq_true hb
     obtain ⟨L',hI',hns,hR3⟩:=hq3
     obtain ⟨h6,h7,h8⟩:=fin (some (.exit ie)) a3 W3 L' hns hR3
     exact ⟨_,_,h6,.inr ⟨rfl,.inr ⟨L',hI',hns,h7⟩⟩,h8⟩
   | goto t=>exact hq3.elim
   | panic c=>exact hq3.elim
   | outgrown=>exact hq3.elim
  | exit i=>exact hq.elim
  | ret=>exact hq.elim
  | goto t=>exact hq.elim
  | panic c=>exact hq.elim
  | outgrown=>exact hq.elim
 ·have hdef:({ a with defers:=[JV D]++a.defers }:Act)=Act.wd a [JV D]:=by simp [Act.wd,hr.defers]
  have hfor:∀ L r W,L.all (okL kl kD kF)=true→QS B w0 n (st L r) a W→QS B w0 n (Qg (Qg (XT S) L) [(kD,JR D (.deferred (some [])))]) a W:=by
   intro L r W h2 h
   refine h.weak fun k=>?_
   show YU _ kD _ k=_∨YU _ kD _ k=YU (YU _ kl _) kD _ k
   by_cases e':k=kD
   ·subst e'; right; rw [qE,qE]
   ·rw [qJ _ _ e',qJ _ _ e']
    by_cases e:k=kl
    ·subst e; left; exact hLk L h2 k (.inl rfl)
    ·right; rw [qJ _ _ e]
  rintro e W2 ⟨⟨v,rfl⟩,(⟨L,hI,hLo,hR2⟩ | ⟨L,hI,hLo,hR2⟩ | ⟨L,hI,hLo,hR2⟩)⟩
  ·have hl2:W2.heap[l]? = some (.loop (rec .ready none)):=J1 (by rw [← hst_kl L]; exact hR2.holds kl)
   refine ⟨none,_,by have:=run_endLoop (P:=P) hl2 (by rw [hrec]; simp); rw [hrec] at this; exact this,?_⟩
   have h3:=hdone D L _ hI (hfor L _ _ hLo (hturn L _ { rec .ready none with state:=.exhausted } W2 hR2))
   rw [hdef]
   rw [hrec] at h3
   exact h3
  ·have hl2:W2.heap[l]? = some (.loop (rec .done (some .ret))):=J1 (by rw [← hst_kl L]; exact hR2.holds kl)
   refine ⟨some .ret,_,by have:=run_endLoop (P:=P) hl2 (by rw [hrec]; simp); rw [hrec] at this; exact this,?_⟩
   have h3:=hstop D L _ hI (hfor L _ _ hLo (hturn L _ { rec .done (some .ret) with state:=.exhausted } W2 hR2))
   rw [hdef]
   rw [hrec] at h3
   exact wpIn_ret h3
  ·have hl2:W2.heap[l]? = some (.loop (rec .done (some (.exit ie)))):=J1 (by rw [← hst_kl L]; exact hR2.holds kl)
   refine ⟨some (.exit ie),_,by have:=run_endLoop (P:=P) hl2 (by rw [hrec]; simp); rw [hrec] at this; exact this,?_⟩
   have h3:=hexit D L _ hI (hfor L _ _ hLo (hturn L _ { rec .done (some (.exit ie)) with state:=.exhausted } W2 hR2))
   rw [hdef]
   rw [hrec] at h3
   refine wpIn_exit ?_
   simp only [Zv,hx]
   exact h3
abbrev jO (O:Nat→Prop) (base:Nat) (w0:World) (J:World→Prop):KV:=.fact (fun i=>i<base ∧ ¬ O i) (fun w=>Below 0 w0 w→J w)
theorem W5 {O:Nat→Prop} {base:Nat} {w w0:World} {J:World→Prop} (h0:0<base) (hO:∀ k,O k→k+1<base) (hw:base≤w.heap.size) (hJ:∀ W',qcC O base w W'→J W') (hb:Below 0 w0 w):(jO O base w0 J).holds w :=
 fun w' ha hb'=>hJ w' ⟨hb'.os.trans hb.os.symm,hb'.tape.trans hb.tape.symm,hb'.output.trans hb.output.symm,by
  have h1:=ha (base - 1) ⟨by omega,fun h=>by have:=hO _ h; omega⟩
  rw [Array.getElem?_eq_getElem (show base - 1<w.heap.size by omega)] at h1
  have:=(Array.getElem?_eq_some_iff.1 h1).1
  omega,fun k hk hn=>ha k ⟨hk,hn⟩⟩
theorem WS {O:Nat→Prop} {n base:Nat} {w0:World} {S:St} {a:Act} {w:World} {J:World→Prop} (h0:0<base) (hO:∀ k,O k→k+1<base) (kJ:Nat) (h:QS 0 w0 n S a w) (hS:S kJ=jO O base w0 J):base≤w.heap.size:=by
 have:=h.inb kJ (base - 1) (by rw [hS]; exact ⟨by omega,fun h=>by have:=hO _ h; omega⟩)
 omega
def qdf (O:Nat→Prop) (kJ:Nat) (ks ko:List Nat) (base:Nat) (w0:World) (n:Nat) (S:St) (a:Act) (w:World):Prop :=
 QS 0 w0 n S a w ∧ ∀ k,k≠kJ→(S k = .none∨Zj (S k)=true)∨k ∈ ks∨(k ∈ ko∧((S k).excl ∨ ∀ i,(S k).fp i→base≤i∨O i))
theorem qa3 {O:Nat→Prop} {kJ:Nat} {ks ko:List Nat} {base:Nat}:∀ (u:List (Nat × KV)) (S:St),(u.all fun x=>Zj x.2)=true→(∀ k,k≠kJ→(S k = .none∨Zj (S k)=true)∨k ∈ ks∨(k ∈ ko∧((S k).excl ∨ ∀ i,(S k).fp i→base≤i∨O i))) →
  ∀ k,k≠kJ→(Qg S u k = .none∨Zj (Qg S u k)=true)∨k ∈ ks∨(k ∈ ko∧((Qg S u k).excl ∨ ∀ i,(Qg S u k).fp i→base≤i∨O i))
 | [],_,_,h=>h
 | (j,v) :: u,S,hu,h=>by
  simp only [List.all_cons,Bool.and_eq_true] at hu
  refine qa3 u _ hu.2 fun k hk=>?_
  by_cases e:k=j
  ·subst e; rw [qE]; exact .inl (.inr hu.1)
  ·rw [qJ _ _ e]; exact h k hk
theorem okg {O:Nat→Prop} {kJ:Nat} {ks ko:List Nat} {base:Nat} {ro:Option Nat} {P:Program} {ops:Array Oper} {w0:World} {n i:Nat} {o:Oper} {Spre:Nu→St} {R:List Nat} {u:Nu→List (Nat × KV)} (h:OpOK P ops 0 w0 n i o Spre R u) (hd:Vb o=true:=by rfl) (hR:(R.all fun k=>Nat.blt k TK)=true:=by rfl)
  (hu:∀ ν,((u ν).all fun x=>Zj x.2)=true:=by intro _; kernel_rfl):qcL ro P ops (qdf O kJ ks ko base w0 n) i o Spre R u:=by
 intro Q p S a w h1 h2 h3 h4
 have:=qdV (ro:=ro) (m:=0) (ds:=[]) (Q:=Q) (QN:=fun _ _=>True) (fun o' ho'=>by rw [h3] at ho'; injection ho' with e; subst e; exact hd) (h (qcd fun _ _=>True) p S a w h1 h2 h3 (fun ν hν=>(h4 ν hν).1) (fun j hj=>by have:=List.all_eq_true.1 hR _ hj; rw [Nat.blt_eq] at this; omega))
 rw [Wx] at this
 refine wpOpIn_mono ?_ this
 rintro a' w' ⟨a0,rfl,g,hk⟩
 rw [Wx]
 exact ⟨g,fun ν hν=>⟨hk ν hν,qa3 (u ν) _ (hu ν) (h4 ν (hν.of_set h2)).2⟩⟩
theorem qa1 (f:Nat→KV):∀ (ks:List Nat) (S:St) (k:Nat),Qg S (ks.map fun k=>(k,f k)) k=if k ∈ ks then f k else S k
 | [],S,k=>by simp [Qg]
 | j :: ks,S,k=>by
  show Qg (YU S j (f j)) _ k=_
  rw [qa1 f ks]
  by_cases e:k ∈ ks
  ·simp [e]
  ·by_cases e':k=j
   ·subst e'; simp [qE]
   ·simp [e,e',qJ]
theorem Vi:∀ (A C:List (Nat × KV)) (T:St),Qg T (A++C)=Qg (Qg T A) C
 | [],C,T=>rfl
 | (j,v) :: A,C,T=>Vi A C _
theorem Wm {O:Nat→Prop} {P:Program} {ops:Array Oper} {ro:Option Nat} {n i:Nat} {o:Oper} {Spre:Nu→St} {w0:World} {base:Nat} (kJ:Nat) (ks ko:List Nat) (l:Nat) (args:Nu→Array Value) (J0 Jn JX:World→Prop) (d:Nat) (h0:0<base) (hO:∀ k,O k→k+1<base)
  (hG:∀ ν,Spre ν kJ=jO O base w0 J0)
  (hY:∀ ν W,J0 W→base≤W.heap.size→(∀ k ∈ ko,(Spre ν k).holds W ∧ ∀ i,(Spre ν k).fp i→i<W.heap.size)→YieldAt (WF none) 0 P l (args ν) W fun e W'=>((e = .returned (.bool true)∧Jn W')∨(e = .returned (.bool false)∧JX W'))∧W.heap.size≤W'.heap.size∧qaN O base W W')
  (hJn:∀ W W',Jn W→qcC O base W W'→Jn W') (hJX:∀ W W',JX W→Below W.heap.size W W'→JX W') (hn0:∀ W,Jn W→Below 0 w0 W) (hX0:∀ W,JX W→Below 0 w0 W)
  (hkJ:(ks++ko).contains kJ=false) (hds:(ks++ko).contains d=false) (hko:(ko.all fun k=>!ks.contains k)=true)
  (hd:o.dst=some d:=by rfl) (hdn:Nat.blt d n=true:=by rfl) (hkn:Nat.ble n kJ=true:=by rfl) (hsel:YG o=true:=by rfl) (hnd:Vb o=true:=by rfl) (hw:∀ ν,YK ops o (Spre ν)=some true:=by intro _; kernel_rfl)
  (hk:∀ ν,(o.op.operands.all (Q2 (Spre ν)))=true:=by intro _; kernel_rfl)
  (hp:∀ ν,(Xo o (Spre ν)).all id=true:=by intro _; kernel_rfl)
  (hv:∀ ν w,(execOp (YD (Spre ν)) o).run P w=(Instr.yield l (args ν)).run P w:=by intro _ _; kernel_rfl) :
  qcL ro P ops (qdf O kJ ks ko base w0 n) i o Spre (kJ :: (ko++Xn ops o)) (fun ν=>([(d,.slot true (.bool (decide ((ν i).n 0=1)))),(kJ,bif decide ((ν i).n 0=1) then jO O base w0 Jn else jK ((ν i).n 1) w0 JX)]++ks.map fun k=>(k,.none))++ko.map fun k=>(k,bif decide ((ν i).n 0=1) then Spre ν k else .none)):=by
 have hdn':d<n:=by simpa using hdn
 have hkn':n≤kJ:=by simpa using hkn
 have hkJ1:kJ ∉ ks∧kJ ∉ ko:=by simpa using hkJ
 have hds1:d ∉ ks∧d ∉ ko:=by simpa using hds
 have hko1:∀ k,k ∈ ko→k ∉ ks:=fun k hk=>by
  have:=List.all_eq_true.1 hko k hk
  simpa using this
 intro Q p S a w hag hpi hoi hrep
 obtain ⟨ν0,h0'⟩:=YC.exists p
 have hRk:∀ ν,YC p ν → ∀ k ∈ Xn ops o,S ν k=Spre ν k:=fun ν hν k hk'=>hag ν hν k (List.mem_cons_of_mem _ (List.mem_append_right _ hk'))
 have hRo:∀ ν,YC p ν → ∀ k ∈ ko,S ν k=Spre ν k:=fun ν hν k hk'=>hag ν hν k (List.mem_cons_of_mem _ (List.mem_append_left _ hk'))
 have hev:execOp a.eval o=execOp (YD (Spre ν0)) o:=by
  have h1:execOp a.eval o=execOp (ZI (Spre ν0)) o:=by
   refine execOp_congr o (QC hsel) fun x hx=>?_
   have h1:Q2 (S ν0) x=true:=by
    rw [J8 (ops:=ops) (hRk ν0 h0') x hx]
    exact Array.all_eq_true_iff_forall_mem.1 (hk ν0) x hx
   rw [Jy (hrep ν0 h0').1 h1]
   exact VO (ops:=ops) (hRk ν0 h0') x hx
  exact h1.trans (Yi (QC hsel) (by simpa using hp ν0))
 unfold wpOpIn
 simp only [hoi]
 have hwant:Region.wanted o (yielded ops a.tmps)=true:=WZ (hrep ν0 h0').1 ((JJ fun k hk'=>hRk ν0 h0' k hk').trans (hw ν0))
 rw [if_pos hwant]
 refine ⟨fun _ _=>trivial,?_⟩
 have hSJ:∀ ν,YC p ν→S ν kJ=jO O base w0 J0:=fun ν hν=>(hag ν hν kJ (List.mem_cons_self ..)).trans (hG ν)
 have hj:J0 w:=by
  have:=(hrep ν0 h0').1.holds kJ
  rw [hSJ ν0 h0'] at this
  exact this w (agree.refl _ _) (hrep ν0 h0').1.below
 have hbw:base≤w.heap.size:=WS h0 hO kJ (hrep ν0 h0').1 (hSJ ν0 h0')
 obtain ⟨fn,tmps,assign,body,hy,hR⟩:=hY ν0 w hj hbw (fun k hk'=>by
  rw [← hRo ν0 h0' k hk']
  exact ⟨(hrep ν0 h0').1.holds k,(hrep ν0 h0').1.inb k⟩)
 have hs:o.semAt (WF ro).round a.eval=execOp a.eval o:=Oper.semAt_eq _ _ _ (fun c e=>by unfold Vb at hnd; rw [e] at hnd; cases hnd)
 rw [hs,hev,hv ν0 w,hy]
 refine ⟨fun e=>(by cases e),(show RoundIn (WF ro) 0 P l fn tmps assign body w _ from hR).mono ?_⟩
 have fin:∀ (b:Bool) (W':World) (g:Gh),g=Gh.of (fun j=>if j=0 then (if b then 1 else 0) else W'.heap.size) (fun _=>none)→Below 0 w0 W'→(if b then Jn W' else JX W')→w.heap.size≤W'.heap.size→qaN O base w W' →
   ∃ g,∀ ν,YC (p.set i g) ν→qdf O kJ ks ko base w0 n (Qg (S ν) (([(d,.slot true (.bool (decide ((ν i).n 0=1)))),(kJ,bif decide ((ν i).n 0=1) then jO O base w0 Jn else jK ((ν i).n 1) w0 JX)]++ks.map fun k=>(k,.none))++ko.map fun k=>(k,bif decide ((ν i).n 0=1) then Spre ν k else .none))) (a.put o.dst (.bool b)) W':=by
  intro b W' g hgg hB hJJ hsz hkeep
  refine ⟨g,fun ν hν=>?_⟩
  have hν':=hν.of_set hpi
  have eg:ν i=g:=hν.at_set
  have e0:decide ((ν i).n 0=1)=b:=by rw [eg,hgg]; cases b <;> rfl
  have e1:(ν i).n 1=W'.heap.size:=by rw [eg,hgg]; rfl
  rw [e0,e1,hd]
  obtain ⟨hr,hcl⟩:=hrep ν hν'
  have hsJ:=hSJ ν hν'
  have hge:∀ k,k≠kJ→k ∉ ks → ∀ i,(S ν k).fp i→base≤i∨O i:=fun k h1 h2 i hi=>by
   rcases hcl k h1 with (h | h) | h | ⟨_,h | h⟩
   ·rw [h] at hi; exact hi.elim
   ·unfold Zj at h
    split at h
    ·rename_i h3; rw [h3] at hi; exact hi.elim
    ·cases h
   ·exact absurd h h2
   ·have h3:=hr.disj k kJ i h1 h hi
    rw [hsJ] at h3
    by_cases hi1:base≤i
    ·exact .inl hi1
    ·exact .inr (Classical.byContradiction fun hn=>h3 ⟨by omega,hn⟩)
   ·exact h i hi
  -- what is kept
  have hkp:∀ k,(if k=kJ∨k ∈ ks∨(k ∈ ko∧b=false) then KV.none else S ν k) = .none∨(if k=kJ∨k ∈ ks∨(k ∈ ko∧b=false) then KV.none else S ν k)=S ν k:=fun k=>by
   by_cases e:k=kJ∨k ∈ ks∨(k ∈ ko∧b=false)
   ·left; simp [e]
   ·right; simp [e]
  have r0:QS 0 w0 n (fun k=>if k=kJ∨k ∈ ks∨(k ∈ ko∧b=false) then .none else S ν k) a w:=hr.weak hkp
  have hfp1:∀ k i,((fun k=>if k=kJ∨k ∈ ks∨(k ∈ ko∧b=false) then KV.none else S ν k) k).fp i→base≤i∨O i:=fun k i hi=>by
   by_cases e:k=kJ∨k ∈ ks∨(k ∈ ko∧b=false)
   ·simp only [e,if_true] at hi; exact hi.elim
   ·simp only [e,if_false] at hi
    exact hge k (fun h=>e (.inl h)) (fun h=>e (.inr (.inl h))) i hi
  have r1:QS 0 w0 n (fun k=>if k=kJ∨k ∈ ks∨(k ∈ ko∧b=false) then .none else S ν k) a W' :=
   ⟨r0.defers,r0.size,r0.slots,hB,Nat.zero_le _,fun k=>KV.holds_agree (r0.holds k) fun i hi=>hkeep i (hfp1 k i hi) (r0.inb k i hi),fun k i hi=>Nat.lt_of_lt_of_le (r0.inb k i hi) hsz,fun k i h1 h2=>Nat.zero_le _,r0.disj⟩
  have r2:=r1.put hdn' true (.bool b)
  have hv':(bif b then jO O base w0 Jn else jK W'.heap.size w0 JX).holds W':=by
   cases b with
   | true=>exact W5 h0 hO (Nat.le_trans hbw hsz) (fun W2 h2=>hJn W' W2 hJJ h2) hB
   | false=>exact qgn (fun W2 h2=>hJX W' W2 hJJ h2) hB
  have hex:¬ (bif b then jO O base w0 Jn else jK W'.heap.size w0 JX).excl:=by cases b <;> exact fun h=>h
  have r3:=r2.ent kJ (bif b then jO O base w0 Jn else jK W'.heap.size w0 JX) (by intro c x; cases b <;> exact fun h=>by cases h) hv' (fun j hj=>by
    cases b with
    | true=>have:j<base:=hj.1; omega
    | false=>exact hj) (fun h=>(hex h).elim)
   (fun k' j hne ho hj hj'=>by
    rcases ho with ho | ho
    ·exact (hex ho).elim
    ·by_cases e:k'=d
     ·subst e; rw [qE] at ho; exact ho
     ·rw [qJ _ _ e] at ho hj'
      by_cases e':k'=kJ∨k' ∈ ks∨(k' ∈ ko∧b=false)
      ·simp only [e',if_true] at ho; exact ho
      ·simp only [e',if_false] at hj' ho
       have h5:=hge k' (fun h=>e' (.inl h)) (fun h=>e' (.inr (.inl h))) j hj'
       cases b with
       | true =>
        have h6:j<base ∧ ¬ O j:=hj
        rcases h5 with h5 | h5
        ·omega
        ·exact h6.2 h5
       | false =>
        rcases hcl k' (fun h=>e' (.inl h)) with (h | h) | h | ⟨h,_⟩
        ·rw [h] at ho; exact ho
        ·unfold Zj at h
         split at h
         ·rename_i h3; rw [h3] at ho; exact ho
         ·cases h
        ·exact e' (.inr (.inl h))
        ·exact e' (.inr (.inr ⟨h,rfl⟩)))
  have hst:∀ k,Qg (S ν) (([(d,.slot true (.bool b)),(kJ,bif b then jO O base w0 Jn else jK W'.heap.size w0 JX)]++ks.map fun k=>(k,.none))++ko.map fun k=>(k,bif b then Spre ν k else .none)) k=YU (YU (fun k=>if k=kJ∨k ∈ ks∨(k ∈ ko∧b=false) then KV.none else S ν k) d (.slot true (.bool b))) kJ (bif b then jO O base w0 Jn else jK W'.heap.size w0 JX) k:=by
   intro k
   rw [Vi,qa1,Vi,W8]
   show (if k ∈ ko then _ else if k ∈ ks then _ else YU (YU (S ν) d (.slot true (.bool b))) kJ _ k)=_
   by_cases e:k=kJ
   ·subst e; rw [if_neg hkJ1.2,if_neg hkJ1.1,qE,qE]
   ·rw [qJ _ _ e,qJ _ _ e]
    by_cases e':k=d
    ·subst e'; rw [if_neg hds1.2,if_neg hds1.1,qE,qE]
    ·rw [qJ _ _ e',qJ _ _ e']
     by_cases e2:k ∈ ko
     ·have e3:=hko1 k e2
      cases b with
      | true=>simp only [e2,e3,e,if_true,false_or,and_false,if_false,cond_true,or_self,Bool.true_eq_false]; exact (hRo ν hν' k e2).symm
      | false=>simp [e2]
     ·by_cases e3:k ∈ ks
      ·simp [e2,e3]
      ·simp [e2,e3,e]
  refine ⟨r3.congr hst,fun k hk'=>?_⟩
  rw [hst k,qJ _ _ hk']
  by_cases e':k=d
  ·subst e'; rw [qE]; exact .inl (.inr rfl)
  ·rw [qJ _ _ e']
   by_cases e2:k=kJ∨k ∈ ks∨(k ∈ ko∧b=false)
   ·simp only [e2,if_true]; exact .inl (.inl trivial)
   ·simp only [e2,if_false]; exact hcl k hk'
 rintro e W' ⟨⟨rfl,hjn⟩ | ⟨rfl,hjx⟩,h2,h3⟩
 ·exact fin true W' _ rfl (hn0 W' hjn) hjn h2 h3
 ·exact fin false W' _ rfl (hX0 W' hjx) hjx h2 h3
theorem W7 {O:Nat→Prop} {kJ:Nat} {ks ko:List Nat} {base:Nat} (l:List (Nat × KV)) (h:(l.all fun x=>Nat.beq x.1 kJ || Zj x.2 || ks.contains x.1 || (ko.contains x.1 && qco x.2))=true) :
  ∀ k,k≠kJ→(Jl l k = .none∨Zj (Jl l k)=true)∨k ∈ ks∨(k ∈ ko∧((Jl l k).excl ∨ ∀ i,(Jl l k).fp i→base≤i∨O i)):=by
 intro k hk
 rw [W6]
 cases hl:Jm l k with
 | none=>exact .inl (.inl rfl)
 | some v =>
  have h1:=List.all_eq_true.1 h _ (Jf hl)
  simp only [Bool.or_eq_true,Bool.and_eq_true] at h1
  rcases h1 with ((h1 | h1) | h1) | h1
  ·exact absurd (Nat.eq_of_beq_eq_true h1) hk
  ·exact .inl (.inr h1)
  ·exact .inr (.inl (by simpa using h1))
  ·exact .inr (.inr ⟨by simpa using h1.1,.inl (qb8 h1.2)⟩)
theorem QS.readdO {O:Nat→Prop} {n base:Nat} {w0:World} {a:Act} {w:World} {J:World→Prop} (kJ:Nat):∀ (fs:List (Nat × KV)) (S:St),QS 0 w0 n S a w→(∀ x ∈ fs,(∃ fp F,x.2 = .fact fp F) ∧ ∀ i,x.2.fp i→i<base ∧ ¬ O i)→(∀ W,J W → ∀ x ∈ fs,x.2.holds W)→S kJ=jO O base w0 J→base≤w.heap.size→(fs.all fun x=>!Nat.beq x.1 kJ)=true→QS 0 w0 n (Qg S fs) a w
 | [],S,h,_,_,_,_,_=>h
 | (k,v) :: fs,S,h,hf,hJ,hS,hb,hk=>by
  obtain ⟨⟨fp,F,hv⟩,hlt⟩:=hf (k,v) (by simp)
  have hv':v = .fact fp F:=hv
  have hj:J w:=by
   have:=h.holds kJ
   rw [hS] at this
   exact this w (agree.refl _ _) h.below
  simp only [List.all_cons,Bool.and_eq_true,Bool.not_eq_true'] at hk
  have hne:k≠kJ:=fun e=>by rw [e,Nat.beq_refl] at hk; cases hk.1
  have hex:¬ v.excl:=by rw [hv']; exact fun h=>h
  have h1:QS 0 w0 n (YU S k v) a w:=h.ent k v (by intro c x h; rw [hv'] at h; cases h) (hJ w hj (k,v) (by simp)) (fun i hi=>by have:=(hlt i hi).1; omega) (fun h=>(hex h).elim) (fun k' i hne' ho hi hi'=>by
   rcases ho with ho | ho
   ·exact hex ho
   ·by_cases e:k'=kJ
    ·subst e; rw [hS] at ho; exact ho
    ·have:=h.disj k' kJ i e ho hi'
     rw [hS] at this
     exact this (hlt i hi))
  exact QS.readdO kJ fs _ h1 (fun x hx=>hf x (by simp [hx])) (fun W hW x hx=>hJ W hW x (by simp [hx])) (by rw [qJ _ _ (Ne.symm hne)]; exact hS) hb hk.2
theorem QS.geO {O:Nat→Prop} {n base:Nat} {w0:World} {S:St} {a:Act} {w:World} {J:World→Prop} (h:QS 0 w0 n S a w) (kJ k:Nat) (hS:S kJ=jO O base w0 J) (hne:Nat.beq k kJ=false) (hx:(S k).excl):∀ i,(S k).fp i→base≤i∨O i:=fun i hi=>by
 have h3:=h.disj k kJ i (fun e=>by rw [e,Nat.beq_refl] at hne; cases hne) hx hi
 rw [hS] at h3
 by_cases h1:base≤i
 ·exact .inl h1
 ·exact .inr (Classical.byContradiction fun hn=>h3 ⟨by omega,hn⟩)
theorem qeg {b:Nat} (l:List (Nat × KV)) (h:∀ x ∈ l,¬ x.2.fp b):∀ k,¬ (Jl l k).fp b:=fun k=>by
 rw [W6]
 cases hl:Jm l k with
 | none=>exact fun h=>h
 | some v=>exact h _ (Jf hl)
theorem QS.lent {n b e:Nat} {cs:List Value} {w0:World} {S:St} {a:Act} {w:World} (h:QS 0 w0 n S a w) (k:Nat) (hb:w.heap[b]? = some (.cells cs.toArray e (0,0))) (hf:∀ k,¬ (S k).fp b):QS 0 w0 n (YU S k (.blk b cs e)) a w :=
 h.ent k _ (by intro c x h; cases h) hb (fun i hi=>by have e:i=b:=hi; subst e; exact (Array.getElem?_eq_some_iff.1 hb).1) (fun _ _ _=>Nat.zero_le _) (fun k' i _ _ hi hi'=>by have e:i=b:=hi; subst e; exact hf k' hi')
theorem qaI {fr:Nat→Prop} {base:Nat} {w:World} {sz n cap:Nat} {p:Option Addr} {xs:List Value} (k:Nat) (hs:0<sz) (hfr:∀ j,base≤j→fr j) (g:∀ i,Z4 p n i→base≤i) (h1:XO w sz p n cap xs) :
  (∃ fp F,(k,YZ fr sz p n cap xs).2 = .fact fp F)∧(YZ fr sz p n cap xs).holds w ∧ ∀ i,(YZ fr sz p n cap xs).fp i→base≤i∧i<w.heap.size:=by
 have h:=qy h1 (fun j hj=>hfr j (g j hj)) hs k
 exact ⟨h.1,h.2.1,fun i hi=>⟨g i hi,h.2.2 i hi⟩⟩
theorem QS.geRow {n base e sz m cap:Nat} {p:Option Addr} {xs:List Value} {w0:World} {S:St} {a:Act} {w:World} {J:World→Prop} (h:QS 0 w0 n S a w) (kJ k:Nat) (hS:S kJ=jO (fun _=>False) base w0 J) (hk:S k=X6 e sz p m cap xs) (hne:Nat.beq k kJ=false):∀ i,Z4 p m i→base≤i:=fun i hi =>
 (h.geO kJ k hS hne (by rw [hk]; trivial) i (by rw [hk]; exact YT hi)).resolve_right id
theorem QS.nestPop {T:Type} {B n:Nat} {w0:World} {S:St} {a:Act} {w:World} {e e2 sz m cap c i:Nat} {en:T→List Value} {p q:Option Addr} {l:List T} {H:List (Sl T)} (h:QS B w0 n S a w) (k k2:Nat) (hk:S k=Zn e e2 sz en p m cap H (H.drop i)) (hy:H[i]? = some ⟨q,c,l⟩) (hne:Nat.beq k k2=false) :
  QS B w0 n (YU (YU S k (Zn e e2 sz en p m cap H (H.drop (i+1)))) k2 (X6 e2 sz q l.length c (l.flatMap en))) a w:=by
 have hne':k≠k2:=fun e=>by rw [e,Nat.beq_refl] at hne; cases hne
 have hN:X2 w e e2 sz en p m cap H (H.drop i):=XS (by rw [← hk]; exact h.holds k)
 have hx:(S k).excl:=by rw [hk]; trivial
 have hd0:(H.drop i)[0]? = some ⟨q,c,l⟩:=by rw [List.getElem?_drop]; simpa using hy
 have hdj:∀ j x,(H.drop (i+1))[j]? = some x→(H.drop i)[j+1]? = some x:=fun j x hj=>by
  rw [List.getElem?_drop] at hj ⊢
  rw [show i+(j+1)=i+1+j by omega]; exact hj
 have f1:∀ b,JY p (H.drop (i+1)) b→(S k).fp b:=fun b hb=>by
  rw [hk]
  rcases hb with hb | ⟨j,x,hj,hb⟩
  ·exact .inl hb
  ·exact .inr ⟨j+1,x,hdj j x hj,hb⟩
 have f2:∀ b,Q3 q b→(S k).fp b:=fun b hb=>by rw [hk]; exact .inr ⟨0,_,hd0,hb⟩
 have h0:QS B w0 n (YU S k .none) a w:=h.weak fun j=>by
  by_cases e:j=k
  ·subst e; rw [qE]; exact .inl rfl
  ·rw [qJ _ _ e]; exact .inr rfl
 have hN':X2 w e e2 sz en p m cap H (H.drop (i+1)) :=
  ⟨hN.hd,fun j x hj=>hN.inn (j+1) x (hdj j x hj),fun j j' x y hjj hj hj'=>hN.apart (j+1) (j'+1) x y (by omega) (hdj j x hj) (hdj j' y hj'),fun j x hj=>hN.off (j+1) x (hdj j x hj)⟩
 have h1:QS B w0 n (YU (YU S k .none) k (Zn e e2 sz en p m cap H (H.drop (i+1)))) a w:=by
  refine h0.ent k _ (by intro c x h; cases h) hN'.holds (fun b hb=>h.inb k b (f1 b hb)) (fun _ b hb=>h.ge k b hx (f1 b hb)) fun k' b hn _ hb hb'=>?_
  rw [qJ _ _ hn] at hb'
  exact h.disj k k' b (Ne.symm hn) hx (f1 b hb) hb'
 have h2:QS B w0 n (YU (YU (YU S k .none) k (Zn e e2 sz en p m cap H (H.drop (i+1)))) k2 (X6 e2 sz q l.length c (l.flatMap en))) a w:=by
  refine h1.ent k2 _ (by intro c x h; cases h) (fun w' ha=>ZB (hN.inn 0 _ hd0) ha) (fun b hb=>h.inb k b (f2 b hb)) (fun _ b hb=>h.ge k b hx (f2 b hb)) fun k' b hn _ hb hb'=>?_
  by_cases e:k'=k
  ·subst e
   rw [qE] at hb'
   rcases hb' with hb' | ⟨j,x,hj,hb'⟩
   ·exact hN.off 0 _ hd0 b hb hb'
   ·exact hN.apart 0 (j+1) _ x (by omega) hd0 (hdj j x hj) b hb hb'
  ·rw [qJ _ _ e,qJ _ _ e] at hb'
   exact h.disj k k' b (Ne.symm e) hx (f2 b hb) hb'
 refine h2.congr fun j=>?_
 by_cases e:j=k2
 ·subst e; rw [qE,qE]
 ·rw [qJ _ _ e,qJ _ _ e]
  by_cases e':j=k
  ·subst e'; rw [qE,qE]
  ·rw [qJ _ _ e',qJ _ _ e',qJ _ _ e']
theorem qdK {α:Type} {x:Int} {l:List α} (h:0≤x∧x<(l.length:Int)) (hl:(l.length:Int)<1000000):(Go.IntKind.wrap .i64 (x+1)).toNat=x.toNat+1:=by
 rw [Go.IntWalk.i64_in (x+1) ⟨by omega,by omega⟩]
 omega
end Go.Sx
namespace Go.Sx
open Go
def Wv:List (Option IntKind)→List Value→Prop
 | [],[]=>True
 | some k :: ks,v :: vs=>(∃ n,v = .int k n∧k.has n)∧Wv ks vs
 | none :: ks,v :: vs=>(∃ b,v = .bool b)∧Wv ks vs
 | _,_=>False
theorem qah {vs:List Value} (h:Wv [] vs):vs=[]:=by
 cases vs with
 | nil=>rfl
 | cons v vs=>exact h.elim
theorem JG {k:IntKind} {ks:List (Option IntKind)} {vs:List Value} (h:Wv (some k :: ks) vs):∃ n vs',vs = .int k n :: vs'∧k.has n∧Wv ks vs':=by
 cases vs with
 | nil=>exact h.elim
 | cons v vs =>
  obtain ⟨⟨n,rfl,hn⟩,hr⟩:=h
  exact ⟨n,vs,rfl,hn,hr⟩
def qdl (c:TypeId→Nat) (f:TypeId→DataW (List UInt8)→Option (List Value)):Nat→List (TypeId × Nat × DataW (List UInt8))→Option (List Value × Nat)
 | off,[]=>some ([],off)
 | off,(t,o,x) :: r=>if o=off then (f t x).bind fun vs=>(qdl c f (off+c t) r).map fun y=>(vs++y.1,y.2) else none
theorem Wy {c:TypeId→Nat} {f:TypeId→DataW (List UInt8)→Option (List Value)} {cs:List Value}:∀ (ps:List (TypeId × Nat × DataW (List UInt8))) (off:Nat) (vs:List Value) (last:Nat),qdl c f off ps=some (vs,last)→cs.length=last →
  (∀ p ∈ ps,∀ us,f p.1 p.2.2=some us→(cs.drop p.2.1).take (c p.1)=us)→cs.drop off=vs
 | [],off,vs,last,h,hl,_=>by
  simp only [qdl,Option.some.injEq,Prod.mk.injEq] at h
  obtain ⟨rfl,rfl⟩:=h
  simp [hl]
 | (t,o,x) :: r,off,vs,last,h,hl,hp=>by
  unfold qdl at h
  split at h
  ·rename_i ho
   subst ho
   obtain ⟨us,hus,h⟩:=Option.bind_eq_some_iff.1 h
   obtain ⟨y,hy,h⟩:=Option.map_eq_some_iff.1 h
   obtain ⟨y1,y2⟩:=y
   simp only [Prod.mk.injEq] at h
   obtain ⟨rfl,rfl⟩:=h
   have h1:=hp _ (List.mem_cons_self ..) us hus
   have h2:=Wy r (o+c t) y1 y2 hy hl fun p hq=>hp p (List.mem_cons_of_mem _ hq)
   rw [← List.take_append_drop (c t) (cs.drop o),h1,List.drop_drop,h2]
  ·cases h
def qd9 (P:Program):Nat→TypeId→DataW (List UInt8)→Option (List Value)
 | 0,_,_=>none
 | d+1,t,x =>
  match P.underlying t,x with
  | some (.array n e),.agg ds=>if ds.length=n then (qdl P.cellsOf (qd9 P d) 0 (ds.mapIdx fun i y=>(e,i * P.cellsOf e,y))).bind fun y=>if y.2=P.cellsOf t then some y.1 else none else none
  | some (.struct fs),.agg ds=>(qdl P.cellsOf (qd9 P d) 0 (List.zipWith (fun f y=>(f.type,f.offset,y)) fs.toList ds)).bind fun y=>if y.2=P.cellsOf t then some y.1 else none
  | some (.func ..),.nil=>some [.nilFunc]
  | some (.func ..),.held (b :: r) =>
   match (List.range P.funcs.size).filter fun f=>(P.funcs[f]?).any (·.name.toUTF8.data.toList == b :: r) with
   | [f0]=>some [.func (.func f0) #[] #[]]
   | _=>none
  | _,_=>none
theorem JO {P:Program} {w:World} {base:Nat} {sp:Nat→Bool}:∀ (d:Nat) (t:TypeId) (x:DataW (List UInt8)) (vs:List Value),qd9 P d t x=some vs → ∀ (fuel:Nat) (cs:List Value) (q:List MemPlace),
  DataW.trod (funcToken P) P w base sp true fuel t cs=some (x,q)→cs=vs
 | 0,_,_,_,h=>by cases h
 | d+1,t,x,vs,h=>by
  intro fuel cs q ht
  unfold qd9 at h
  split at h
  ·rename_i n e ds hu
   split at h
   ·rename_i hn
    obtain ⟨⟨y1,y2⟩,hy,h⟩:=Option.bind_eq_some_iff.1 h
    split at h
    ·rename_i hc
     obtain rfl:=Option.some.inj h
     obtain ⟨xs,m,rfl,hx,hl,hxs,hel⟩:=DataW.trod_array hu ht
     simp only [Prod.mk.injEq,DataW.agg.injEq] at hx
     obtain ⟨rfl,_⟩:=hx
     have:=Wy (cs:=cs) _ 0 y1 y2 hy (hl.trans hc.symm) (fun p hp us hus=>by
      obtain ⟨i,hi⟩:=List.mem_iff_getElem?.1 hp
      rw [List.getElem?_mapIdx] at hi
      obtain ⟨z,hz,rfl⟩:=Option.map_eq_some_iff.1 hi
      rw [List.getElem?_map] at hz
      obtain ⟨u,hu',rfl⟩:=Option.map_eq_some_iff.1 hz
      have hi':i<n:=by rw [← hxs]; exact (List.getElem?_eq_some_iff.1 hu').1
      exact JO d e u.1 us hus m _ u.2 ((hel i hi').trans hu'))
     simpa using this
    ·cases h
   ·cases h
  ·rename_i fs ds hu
   obtain ⟨⟨y1,y2⟩,hy,h⟩:=Option.bind_eq_some_iff.1 h
   split at h
   ·rename_i hc
    obtain rfl:=Option.some.inj h
    obtain ⟨xs,m,rfl,hx,hl,hxs,hel⟩:=DataW.trod_struct hu ht
    simp only [Prod.mk.injEq,DataW.agg.injEq] at hx
    obtain ⟨rfl,_⟩:=hx
    have:=Wy (cs:=cs) _ 0 y1 y2 hy (hl.trans hc.symm) (fun p hp us hus=>by
     obtain ⟨i,hi⟩:=List.mem_iff_getElem?.1 hp
     rw [List.getElem?_zipWith] at hi
     cases hf:fs.toList[i]? with
     | none=>simp [hf] at hi
     | some f =>
      cases hz:(xs.map (·.1))[i]? with
      | none=>simp [hf,hz] at hi
      | some z =>
       simp only [hf,hz,Option.some.injEq] at hi
       subst hi
       rw [List.getElem?_map] at hz
       obtain ⟨u,hu',rfl⟩:=Option.map_eq_some_iff.1 hz
       exact JO d f.type u.1 us hus m _ u.2 ((hel i f (by simpa using hf)).trans hu'))
    simpa using this
   ·cases h
  ·rename_i a b c hu
   obtain rfl:=Option.some.inj h
   cases fuel with
   | zero=>simp [DataW.trod] at ht
   | succ n =>
    unfold DataW.trod at ht
    rw [hu] at ht
    split at ht <;> simp_all
  ·rename_i a b c x1 x2 hu
   split at h
   ·rename_i f0 hf
    obtain rfl:=Option.some.inj h
    have:∃ v,cs=[v]:=by
     cases fuel with
     | zero=>simp [DataW.trod] at ht
     | succ n =>
      unfold DataW.trod at ht
      rw [hu] at ht
      split at ht <;> simp_all
    obtain ⟨v,rfl⟩:=this
    rw [func_of_trod hu hf ht]
   ·cases h
  ·cases h
theorem VR {P:Program} {laid:List (String × DataW Unit)} {w:World} (h:laidMetH P laid w) {n:String} {d:DataW Unit} (hx:(n,DataW.iface "func table" d) ∈ laid) (g:Nat) (t:TypeId) (fuel:Nat) (vs:List Value)
  (hg:P.globalNamed n=some g) (ht:(P.globals[g]?).map (·.type)=some t) (hv:qd9 P fuel t d.funcsOut=some vs):∃ e fz,w.heap[g]? = some (.cells vs.toArray e fz):=by
 obtain ⟨g',t',cs,fuel',p,hg',ht',hc,hd⟩:=h.funcs hx
 obtain rfl:=Option.some.inj (hg.symm.trans hg')
 obtain rfl:=Option.some.inj (ht.symm.trans ht')
 have hcs:=JO fuel t _ vs hv fuel' _ p hd
 unfold World.var? at hc
 rw [hg] at hc
 simp only [Option.bind_some] at hc
 split at hc
 ·rename_i c e fz he
  obtain rfl:=Option.some.inj hc
  refine ⟨e,fz,?_⟩
  rw [← hcs]
  simpa using he
 ·cases hc
end Go.Sx
set_option linter.unusedVariables false
set_option linter.unusedSimpArgs false
namespace Go.Sx
open Go Go.RowKit
inductive Lf where
 | cell (k:Option IntKind)
 | row (ks:List (Option IntKind))
 | rows (ks:List (Option IntKind))
def Lf.ok (w:World):Lf→Value→Prop
 | .cell (some k),v=>∃ n,v = .int k n∧k.has n
 | .cell none,v=>∃ b,v = .bool b
 | .row ks,v=>∃ p cap,∃ vs:List (List Value),v = .slice p vs.length cap∧XO w ks.length p vs.length cap vs.flatten ∧ ∀ x ∈ vs,Wv ks x
 | .rows ks,v=>∃ p cap,∃ us:List Value,v = .slice p us.length cap∧XO w 1 p us.length cap us ∧ ∀ u ∈ us,∃ p cap,∃ vs:List (List Value),u = .slice p vs.length cap∧XO w ks.length p vs.length cap vs.flatten ∧ ∀ x ∈ vs,Wv ks x
def Oks (w:World):List Lf→List Value→Prop
 | [],[]=>True
 | l :: ls,v :: vs=>l.ok w v∧Oks w ls vs
 | _,_=>False
theorem qaq {w:World}:∀ {a b:List Lf} {x y:List Value},Oks w a x→Oks w b y→Oks w (a++b) (x++y)
 | [],_,[],_,_,h=>h
 | [],_,_ :: _,_,h,_=>h.elim
 | _ :: _,_,[],_,h,_=>h.elim
 | _ :: _,_,_ :: _,_,⟨h,h'⟩,k=>⟨h,qaq h' k⟩
theorem qe2 {w:World} {vs:List Value} (h:Oks w [] vs):vs=[]:=by
 cases vs with
 | nil=>rfl
 | cons v vs=>exact h.elim
theorem Vw {w:World} {k:IntKind} {ls:List Lf} {vs:List Value} (h:Oks w (.cell (some k) :: ls) vs):∃ n vs',vs = .int k n :: vs'∧k.has n∧Oks w ls vs':=by
 cases vs with
 | nil=>exact h.elim
 | cons v vs=>obtain ⟨⟨n,rfl,hn⟩,hr⟩:=h; exact ⟨n,vs,rfl,hn,hr⟩
theorem qcU {T:Type} {w:World} {ks:List (Option IntKind)} {ls:List Lf} {vs:List Value} (en:T→List Value) (Pr:T→Prop) (he:∀ x,Wv ks x → ∃ y:T,x=en y∧Pr y) (h:Oks w (.row ks :: ls) vs) :
  ∃ p cap,∃ l:List T,∃ vs',vs = .slice p l.length cap :: vs'∧XO w ks.length p l.length cap (l.flatMap en)∧(∀ y ∈ l,Pr y)∧Oks w ls vs':=by
 cases vs with
 | nil=>exact h.elim
 | cons v vs =>
  obtain ⟨⟨p,cap,us,rfl,hR,hu⟩,hr⟩:=h
  have:∃ l:List T,l.length=us.length∧us.flatten=l.flatMap en ∧ ∀ y ∈ l,Pr y:=by
   clear hR
   induction us with
   | nil=>exact ⟨[],rfl,rfl,by simp⟩
   | cons x us ih =>
    obtain ⟨l,h1,h2,h3⟩:=ih (fun y hy=>hu y (List.mem_cons_of_mem _ hy))
    obtain ⟨y,rfl,hy⟩:=he x (hu x (List.mem_cons_self ..))
    exact ⟨y :: l,by simp [h1],by simp [h2],fun z hz=>by
     rcases List.mem_cons.1 hz with rfl | hz
     ·exact hy
     ·exact h3 z hz⟩
  obtain ⟨l,h1,h2,h3⟩:=this
  refine ⟨p,cap,l,vs,by rw [h1],?_,h3,hr⟩
  rw [h1,← h2]; exact hR
def qaV (c:TypeId→Nat) (f:TypeId→Option (List Lf)):Nat→List (TypeId × Nat)→Option (List Lf × Nat)
 | off,[]=>some ([],off)
 | off,(t,o) :: r=>if o=off then (f t).bind fun ls=>(qaV c f (off+c t) r).map fun y=>(ls++y.1,y.2) else none
theorem qam {w:World} {c:TypeId→Nat} {f:TypeId→Option (List Lf)} {cs:List Value}:∀ (ps:List (TypeId × Nat)) (off:Nat) (ls:List Lf) (last:Nat),qaV c f off ps=some (ls,last)→cs.length=last →
  (∀ p ∈ ps,∀ l,f p.1=some l→Oks w l ((cs.drop p.2).take (c p.1)))→Oks w ls (cs.drop off)
 | [],off,ls,last,h,hl,_=>by
  unfold qaV at h
  injection h with h
  injection h with h1 h2
  subst h1 h2
  rw [List.drop_eq_nil_of_le (by omega)]
  trivial
 | (t,o) :: r,off,ls,last,h,hl,hp=>by
  unfold qaV at h
  split at h
  ·rename_i ho
   subst ho
   obtain ⟨us,hus,h⟩:=Option.bind_eq_some_iff.1 h
   obtain ⟨⟨y1,y2⟩,hy,h⟩:=Option.map_eq_some_iff.1 h
   simp only [Prod.mk.injEq] at h
   obtain ⟨rfl,rfl⟩:=h
   have h1:=hp _ (List.mem_cons_self ..) us hus
   have h2:=qam r (o+c t) y1 y2 hy hl fun p hq=>hp p (List.mem_cons_of_mem _ hq)
   rw [← List.take_append_drop (c t) (cs.drop o),List.drop_drop]
   exact qaq h1 h2
  ·cases h
def VA:List Lf→Option (List (Option IntKind))
 | []=>some []
 | .cell k :: r=>(VA r).map (k :: ·)
 | .row _ :: _=>none
 | .rows _ :: _=>none
theorem JF {w:World}:∀ {ls:List Lf} {vs:List Value},Oks w ls vs→vs.length=ls.length
 | [],[],_=>rfl
 | [],_ :: _,h=>h.elim
 | _ :: _,[],h=>h.elim
 | _ :: _,_ :: _,h=>by simp [JF h.2]
theorem Vm {w:World}:∀ {ls:List Lf} {ks:List (Option IntKind)} {vs:List Value},VA ls=some ks→Oks w ls vs→Wv ks vs
 | [],_,[],h,_=>by obtain rfl:=Option.some.inj h; trivial
 | [],_,_ :: _,_,h=>h.elim
 | .cell k :: r,_,[],_,h=>by cases k <;> exact h.elim
 | .cell (some k) :: r,ks,v :: vs,h,ho=>by
  obtain ⟨ks',h1,rfl⟩:=Option.map_eq_some_iff.1 h
  exact ⟨ho.1,Vm h1 ho.2⟩
 | .cell none :: r,ks,v :: vs,h,ho=>by
  obtain ⟨ks',h1,rfl⟩:=Option.map_eq_some_iff.1 h
  exact ⟨ho.1,Vm h1 ho.2⟩
 | .row _ :: _,_,_,h,_=>by cases h
 | .rows _ :: _,_,_,h,_=>by cases h
def qek (ls:List Lf):Option (List Lf) :=
 match VA ls with
 | some ks=>some [.row ks]
 | none=>match ls with
  | [.row ks]=>some [.rows ks]
  | _=>none
theorem qbK {w:World} {ls r:List Lf} (h:qek ls=some r) {p:Option Addr} {cap:Nat} {vs:List (List Value)} (hR:XO w ls.length p vs.length cap vs.flatten) (hv:∀ x ∈ vs,Oks w ls x):Oks w r [.slice p vs.length cap]:=by
 unfold qek at h
 split at h
 ·rename_i ks hk
  obtain rfl:=Option.some.inj h
  have hl:∀ (ls:List Lf) (ks:List (Option IntKind)),VA ls=some ks→ks.length=ls.length:=by
   intro ls
   induction ls with
   | nil=>intro ks h; obtain rfl:=Option.some.inj h; rfl
   | cons a ls ih =>
    intro ks h
    cases a with
    | cell k=>obtain ⟨ks',h1,rfl⟩:=Option.map_eq_some_iff.1 h; simp [ih ks' h1]
    | row k=>cases h
    | rows k=>cases h
  refine ⟨⟨p,cap,vs,rfl,?_,fun x hx=>Vm hk (hv x hx)⟩,trivial⟩
  rw [hl _ ks hk]; exact hR
 ·split at h
  case h_2=>cases h
  rename_i ks hk
  obtain rfl:=Option.some.inj h
  have h1:∀ x ∈ vs,∃ u,x=[u]∧(Lf.row ks).ok w u:=fun x hx=>by
   have:=hv x hx
   match x,this with
   | [],h=>exact h.elim
   | [u],h=>exact ⟨u,rfl,h.1⟩
   | _ :: _ :: _,h=>exact h.2.elim
  have h2:∃ us:List Value,us.length=vs.length∧vs.flatten=us ∧ ∀ u ∈ us,(Lf.row ks).ok w u:=by
   clear hR hv
   induction vs with
   | nil=>exact ⟨[],rfl,rfl,by simp⟩
   | cons x vs ih =>
    obtain ⟨us,a,b,c⟩:=ih fun y hy=>h1 y (List.mem_cons_of_mem _ hy)
    obtain ⟨u,rfl,hu⟩:=h1 x (List.mem_cons_self ..)
    refine ⟨u :: us,by simp [a],by simp [b],fun z hz=>?_⟩
    rcases List.mem_cons.1 hz with rfl | hz
    ·exact hu
    ·exact c z hz
  obtain ⟨us,a,b,c⟩:=h2
  refine ⟨⟨p,cap,us,by rw [a],?_,c⟩,trivial⟩
  rw [a,← b]; exact hR
def Vq (P:Program):Nat→TypeId→Option (List Lf)
 | 0,_=>none
 | d+1,t =>
  match P.underlying t with
  | some .bool=>some [.cell none]
  | some (.int k)=>some [.cell (some k)]
  | some (.struct fs)=>(qaV P.cellsOf (Vq P d) 0 (fs.toList.map fun f=>(f.type,f.offset))).bind fun y=>if y.2=P.cellsOf t then some y.1 else none
  | some (.array n e)=>(qaV P.cellsOf (Vq P d) 0 ((List.range n).map fun i=>(e,i * P.cellsOf e))).bind fun y=>if y.2=P.cellsOf t then some y.1 else none
  | some (.slice e)=>(Vq P d e).bind fun ls=>if 0<ls.length∧ls.length=P.cellsOf e then qek ls else none
  | _=>none
theorem qap {w:World} {b z:Nat}:∀ (vs:List (List Value)) (off:Nat),(∀ (i:Nat) (x:List Value),vs[i]? = some x→x.length=z ∧ ∀ (k:Nat) (u:Value),x[k]? = some u→w.cell? ⟨b,off+i * z+k,none⟩=some u) →
  ∀ (j:Nat) (u:Value),vs.flatten[j]? = some u→w.cell? ⟨b,off+j,none⟩=some u
 | [],_,_,j,u,h=>by simp at h
 | x :: vs,off,H,j,u,h=>by
  have h0:=H 0 x rfl
  rw [List.flatten_cons] at h
  by_cases hj:j<x.length
  ·rw [List.getElem?_append_left hj] at h
   have:=h0.2 j u h
   simpa using this
  ·rw [List.getElem?_append_right (by omega)] at h
   have:=qap vs (off+z) (fun i y hy=>⟨(H (i+1) y hy).1,fun k u hu=>by
    have:=(H (i+1) y hy).2 k u hu
    rwa [show off+(i+1) * z+k=off+z+i * z+k by rw [Nat.add_mul]; omega] at this⟩) _ u h
   rw [show off+z+(j - x.length)=off+j by rw [h0.1]; rw [h0.1] at hj; omega] at this
   exact this
theorem WJ {z:Nat}:∀ (vs:List (List Value)),(∀ x ∈ vs,x.length=z)→vs.flatten.length=vs.length * z
 | [],_=>by simp
 | x :: vs,h=>by
  rw [List.flatten_cons,List.length_append,h x (List.mem_cons_self ..),WJ vs (fun y hy=>h y (List.mem_cons_of_mem _ hy)),List.length_cons,Nat.add_mul]
  omega
theorem VB {H:Type} {enc:TypeId × Value→H} {P:Program} {w:World} {base:Nat} {sp:Nat→Bool} {held:Bool}:∀ (d:Nat) (t:TypeId) (ls:List Lf),Vq P d t=some ls →
  ∀ (fuel:Nat) (cs:List Value) (x:DataW H × List MemPlace),DataW.trod enc P w base sp held fuel t cs=some x→Oks w ls cs
 | 0,_,_,h=>by cases h
 | d+1,t,ls,h=>by
  intro fuel cs x ht
  unfold Vq at h
  split at h
  ·rename_i hu
   obtain rfl:=Option.some.inj h
   cases fuel with
   | zero=>simp [DataW.trod] at ht
   | succ n =>
    unfold DataW.trod at ht
    rw [hu] at ht
    split at ht <;> simp_all [Oks,Lf.ok]
  ·rename_i k hu
   obtain rfl:=Option.some.inj h
   cases fuel with
   | zero=>simp [DataW.trod] at ht
   | succ n =>
    unfold DataW.trod at ht
    rw [hu] at ht
    split at ht <;> simp_all [Oks,Lf.ok]
    obtain ⟨⟨_,hw⟩,_⟩:=ht
    simpa [Lit.wf,IntKind.has] using hw
  ·rename_i fs hu
   obtain ⟨⟨y1,y2⟩,hy,h⟩:=Option.bind_eq_some_iff.1 h
   split at h
   ·rename_i hc
    obtain rfl:=Option.some.inj h
    obtain ⟨xs,m,_,_,hl,hxs,hel⟩:=DataW.trod_struct hu ht
    have:=qam (w:=w) (cs:=cs) _ 0 y1 y2 hy (hl.trans hc.symm) (fun p hp us hus=>by
     obtain ⟨f,hf,rfl⟩:=List.mem_map.1 hp
     obtain ⟨i,hi⟩:=List.mem_iff_getElem?.1 hf
     have hi':fs[i]? = some f:=by simpa using hi
     have hx:=hel i f hi'
     have hi2:i<xs.length:=by rw [hxs]; exact (Array.getElem?_eq_some_iff.1 hi').1
     rw [List.getElem?_eq_getElem hi2] at hx
     exact VB d f.type us hus m _ _ hx)
    simpa using this
   ·cases h
  ·rename_i n e hu
   obtain ⟨⟨y1,y2⟩,hy,h⟩:=Option.bind_eq_some_iff.1 h
   split at h
   ·rename_i hc
    obtain rfl:=Option.some.inj h
    obtain ⟨xs,m,_,_,hl,hxs,hel⟩:=DataW.trod_array hu ht
    have:=qam (w:=w) (cs:=cs) _ 0 y1 y2 hy (hl.trans hc.symm) (fun p hp us hus=>by
     obtain ⟨i,hi,rfl⟩:=List.mem_map.1 hp
     have hi':i<n:=List.mem_range.1 hi
     have hx:=hel i hi'
     rw [List.getElem?_eq_getElem (show i<xs.length by omega)] at hx
     exact VB d e us hus m _ _ hx)
    simpa using this
   ·cases h
  ·rename_i e hu
   obtain ⟨ls',hls,h⟩:=Option.bind_eq_some_iff.1 h
   split at h
   ·rename_i hz
    rcases Deep.open_slice hu ht with ⟨rfl,_⟩ | ⟨a,len,cap,m,n,D,Pl,rfl,hb,hl,hm,hmm,_,hx⟩
    ·exact qbK h (vs:=[]) ⟨Nat.le_refl _,by simp,.inl rfl⟩ (by simp)
    ·have hlm:len≤m:=by rw [hmm]; split <;> omega
     obtain ⟨V,hV⟩:=Deep.choose_lt (α:=List Value) (p:=fun i v=>w.cells? base (a.add (i * P.cellsOf e)) (P.cellsOf e)=some v∧DataW.trod enc P w base sp held n e v=some (D i,Pl i)) hx
     have hfit:∀ i,i<len→Oks w ls' (V i):=fun i hi=>VB d e ls' hls n _ _ (hV i (by omega)).2
     have hvl:((List.range len).map V).length=len:=by simp
     have hel:∀ (i:Nat) (x:List Value),((List.range len).map V)[i]? = some x→i<len∧x=V i:=fun i x hx=>by
      have hi:=(List.getElem?_eq_some_iff.1 hx).1
      rw [List.length_map,List.length_range] at hi
      refine ⟨hi,?_⟩
      simp [hi] at hx
      exact hx.symm
     have:=qbK (w:=w) h (p:=some a) (cap:=cap) (vs:=(List.range len).map V) ⟨by rw [hvl]; exact hl,?_,?_⟩ ?_
     ·rwa [hvl] at this
     ·exact WJ _ fun x hx=>by obtain ⟨i,hi,rfl⟩:=List.mem_map.1 hx; exact JF (hfit i (List.mem_range.1 hi))
     ·rcases Nat.eq_zero_or_pos len with h0 | h0
      ·left; rw [hvl,h0]
      ·right
       have hcell:∀ i,i<len → ∀ (k:Nat) (u:Value),(V i)[k]? = some u→w.cell? ((a.add (i * ls'.length)).add k)=some u:=fun i hi k u hu=>by
        have h1:=(hV i (by omega)).1
        unfold World.cells? at h1
        rw [if_pos (by unfold Addr.add; split <;> exact hb)] at h1
        have hk:k<P.cellsOf e:=by
         have:=(List.getElem?_eq_some_iff.1 hu).1
         rw [JF (hfit i hi)] at this; omega
        have:=mapM_some_get h1 k k (by simp [hk])
        rw [hz.2]
        exact this.trans hu
       have hsp:a.spot=none:=by
        have hv0:=JF (hfit 0 h0)
        have:=hcell 0 h0 0 _ (List.getElem?_eq_getElem (by omega))
        have e0:(a.add (0 * ls'.length)).add 0=a:=by simp [Addr.add]
        rw [e0] at this
        unfold World.cell? at this
        split at this
        ·split at this
         ·cases this
         ·rename_i hs; simpa using hs
        ·cases this
       obtain ⟨b,off,spot⟩:=a
       subst hsp
       refine ⟨b,off,rfl,qap (z:=ls'.length) _ off fun i x hx=>?_⟩
       obtain ⟨hi,rfl⟩:=hel i x hx
       refine ⟨JF (hfit i hi),fun k u hu=>?_⟩
       have:=hcell i hi k u hu
       rw [Deep.add_add] at this
       have e1:(⟨b,off,none⟩:Addr).add (i * ls'.length+k)=⟨b,off+i * ls'.length+k,none⟩:=by
        unfold Addr.add
        split
        ·rename_i h00; simp [h00,Nat.add_assoc]
        ·simp [Nat.add_assoc]
       rwa [e1] at this
     ·intro x hx
      obtain ⟨i,hi,rfl⟩:=List.mem_map.1 hx
      exact hfit i (List.mem_range.1 hi)
   ·cases h
  ·cases h
end Go.Sx
namespace Go.Sx
open Go
theorem qfP {P:Program} {w:World} {r:Reach} {base:Nat} {t:TypeId} {v:Value} (hagg:(match P.underlying t with | some (.struct _)=>true | some (.array _ _)=>true | _=>false)=true) (h:Value.okWide P w r base t v):∃ vs,v = .agg (List.toArray vs):=by
 have h':∃ cs,v = .agg cs∧cs.size=P.cellsOf t∧Row.okWide P w r base t cs:=by
  unfold Value.okWide at h
  split at h
  ·exact h
  ·exact h
  ·rename_i h1 h2
   exfalso
   split at hagg
   ·rename_i fs hf; exact h1 fs hf
   ·rename_i n e hf; exact h2 n e hf
   ·cases hagg
 obtain ⟨cs,rfl,_⟩:=h'
 exact ⟨cs.toList,by simp⟩
end Go.Sx
set_option linter.unusedVariables false
set_option linter.unusedSimpArgs false
namespace Go.Sx
open Go Go.RowKit
theorem qdP {T:Type} {w:World} {ks:List (Option IntKind)} {ls:List Lf} {vs:List Value} (E:Enc T) (hz:E.sz=ks.length) (hrd:∀ y,E.rd w y) (Pr:T→Prop) (he:∀ x,Wv ks x → ∃ y:T,x=E.en y∧Pr y) (h:Oks w (.rows ks :: ls) vs) :
  ∃ p cap,∃ L:List (Sl T),∃ vs',vs = .slice p L.length cap :: vs'∧XO w 1 p L.length cap (L.flatMap Qs)∧RdL E.row.toPart w L∧(∀ x ∈ L.map Sl.l,∀ y ∈ x,Pr y)∧Oks w ls vs':=by
 cases vs with
 | nil=>exact h.elim
 | cons v vs =>
  obtain ⟨⟨p,cap,us,rfl,hR,hu⟩,hr⟩:=h
  have:∃ L:List (Sl T),L.length=us.length∧us=L.flatMap Qs∧RdL E.row.toPart w L ∧ ∀ x ∈ L.map Sl.l,∀ y ∈ x,Pr y:=by
   clear hR
   induction us with
   | nil=>exact ⟨[],rfl,rfl,(fun y hy=>by cases hy),(fun x hx=>by cases hx)⟩
   | cons u us ih =>
    obtain ⟨L,h1,h2,h3,h4⟩:=ih fun y hy=>hu y (List.mem_cons_of_mem _ hy)
    obtain ⟨q,c,xs,rfl,hR,hx⟩:=hu u (List.mem_cons_self ..)
    have:∃ l:List T,l.length=xs.length∧xs.flatten=l.flatMap E.en ∧ ∀ y ∈ l,Pr y:=by
     clear hR hu
     induction xs with
     | nil=>exact ⟨[],rfl,rfl,by simp⟩
     | cons x xs ih =>
      obtain ⟨l,a,b,d⟩:=ih fun y hy=>hx y (List.mem_cons_of_mem _ hy)
      obtain ⟨y,rfl,hy⟩:=he x (hx x (List.mem_cons_self ..))
      exact ⟨y :: l,by simp [a],by simp [b],fun z hz=>by
       rcases List.mem_cons.1 hz with rfl | hz
       ·exact hy
       ·exact d z hz⟩
    obtain ⟨l,a,b,d⟩:=this
    rw [← a,← hz,b] at hR
    refine ⟨⟨q,c,l⟩ :: L,by simp [h1],by rw [List.flatMap_cons,← h2]; show _=Qs _++us; rw [Qs,a]; rfl,fun y hy=>?_,fun x hx=>?_⟩
    ·rcases List.mem_cons.1 hy with rfl | hy
     ·exact ⟨hR,fun z _=>hrd z⟩
     ·exact h3 y hy
    ·rw [List.map_cons] at hx
     rcases List.mem_cons.1 hx with rfl | hx
     ·exact d
     ·exact h4 x hx
  obtain ⟨L,h1,h2,h3,h4⟩:=this
  refine ⟨p,cap,L,vs,by rw [h1],?_,h3,h4,hr⟩
  rw [h1,← h2]; exact hR
end Go.Sx
