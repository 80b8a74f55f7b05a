/- The system of the law: how it is made, its times taken out. Own work. -/
import Derived.Test.YtpmgpcklieincaaGreatDoorPlAll2
set_option maxRecDepth 10000
set_option linter.unusedVariables false
set_option linter.unusedSimpArgs false
namespace Go.Proofs.YtpmgpcklieincaaGreatDoor
open Go Go.Sx
theorem Ev.K {β:Type} {P:β→Prop} {x:Option β} {v:β} (hx:x=some v) (h:P v):Ev (fun _ _=>x) P:=⟨v,h,0,fun _ _ _ _=>hx⟩
def Bq (n:Int) (d:Nat) (r:List qu × X1):Prop:=∃ (e:Ex) (raw':List qu),r=(e.code,⟨raw',n⟩)∧e.ok n∧e.dep≤d+1∧e.code.length<2 ^ (d+1)
theorem qad {n:Int} (hn:1≤n∧n≤6) (d:Nat) (hd:d<10) (ih:∀ d',d=d'+1 → ∀ raw:List qu,Ev (fun _ j=>qL j ⟨raw,n⟩ ((d'+1:Nat):Int)) (Bq n d')) (raw:List qu) :
  Ev (fun _ j=>qL j ⟨raw,n⟩ ((d+1:Nat):Int)) (Bq n d):=by
 have hpos:2≤2 ^ (d+1):=by
  have:=Nat.pow_le_pow_right (n:=2) (by omega) (show 1≤d+1 by omega)
  omega
 have hb:(2:Nat) ^ (d+1)≤2 ^ 10:=Nat.pow_le_pow_right (by omega) (by omega)
 have leaf:∀ (e:Ex) (r:List qu),e.code.length=1→e.ok n→e.dep=1→Bq n d (e.code,⟨r,n⟩):=fun e r h h2 h3=>⟨e,r,rfl,h2,by omega,by omega⟩
 refine Ev.N (fun k j=>by rw [qL,qL.body]) ?_
 cases raw with
 | nil=>exact Ev.T rfl (Ev.X (v:=(⟨65536,65536⟩:qb)) rfl (Ev.X (v:=([⟨1,0,⟨65536,65536⟩⟩]:List qu)) rfl (Ev.S (leaf (.num ⟨65536,65536⟩) [] rfl (.inr (by unfold ZS; simp)) rfl))))
 | cons x raw =>
  refine Ev.F (by simp <;> omega) (Ev.T (by simp <;> omega) (Ev.X (v:=x) rfl (Ev.T (by simp <;> omega) ?_)))
  have h1:=qc9 x.Op
  have h2:=tmp (QW .i64 x.Op 255) (m:=10) h1.1 (by omega)
  have ho:qc (1+Int.tmod (QW .i64 x.Op 255) 10)=1+Int.tmod (QW .i64 x.Op 255) 10:=Zy (by omega) (by omega)
  rw [ho]
  generalize hO:1+Int.tmod (QW .i64 x.Op 255) 10=o
  have hor:1≤o∧o≤10:=by omega
  have h3:=qc9 x.N
  have h4:=qgk x.N
  have h5:0≤QW .i64 x.N 255 * QW .i64 x.N 1:=Int.mul_nonneg h3.1 h4.1
  have h6:QW .i64 x.N 255 * QW .i64 x.N 1≤255 * 1:=Int.mul_le_mul h3.2 h4.2 h4.1 (by omega)
  have hby:qc (1+qc (QW .i64 x.N 255 * QW .i64 x.N 1))=1+QW .i64 x.N 255 * QW .i64 x.N 1:=by rw [Zy (x:=QW .i64 x.N 255 * QW .i64 x.N 1) (by omega) (by omega),Zy (by omega) (by omega)]
  rw [hby]
  have hnear:=qfm (⟨x.C.Lo,x.C.Hi⟩:qb) (b:=1+QW .i64 x.N 255 * QW .i64 x.N 1) (by omega)
  have hdrop:(x :: raw).drop (1:Int).toNat=raw:=rfl
  rw [hdrop]
  clear hO ho hby h1 h2 h5 h6
  refine Ev.B (Q:=fun a:Int=>o≠1→a=if o≤3 then 0 else if o≤6 then 1 else 2) (Ev.C (fun _=>Ev.K (qb1 hor) fun _=>rfl) fun hc=>Ev.S fun h=>absurd (by simpa using h) hc) fun a ha=>?_
  refine Ev.C (fun _=>Ev.O hnear fun c hc=>Ev.X (v:=([⟨1,0,c⟩]:List qu)) rfl (Ev.S (leaf (.num c) raw rfl hc rfl))) fun hc=>?_
  have ho1:o≠1:=fun h=>hc (by simp [h])
  have ha':=ha ho1
  refine Ev.C (fun h2=>Ev.T (by show n≠0; omega) (Ev.S ?_)) fun h2=>?_
  ·exact leaf (.var (Int.tmod (QW .i64 x.N 255) n)) raw rfl (tmp (QW .i64 x.N 255) (m:=n) h3.1 (by omega)) rfl
  ·refine Ev.C (fun _=>Ev.S (leaf .time raw rfl trivial rfl)) fun h7=>?_
   have ho2:o≠2:=by simpa using h2
   have ho3:o≠3:=by simpa using h7
   have hnot3:¬ o≤3:=by omega
   have hd1:d≠0:=by
    intro h
    apply hc
    rw [if_neg hnot3] at ha'
    have h8:0<a:=by rw [ha']; split <;> omega
    simp [ho1,h,h8]
   obtain ⟨d',rfl⟩:∃ d',d=d'+1:=⟨d - 1,by omega⟩
   have hpow:2 ^ (d'+1+1)=2 ^ (d'+1)+2 ^ (d'+1):=by rw [Nat.pow_succ]; omega
   have hdec:qc (((d'+1+1:Nat):Int) - 1)=((d'+1:Nat):Int):=by rw [Zy (by omega) (by omega)]; omega
   rw [hdec]
   refine Ev.X (qb1 hor) ?_
   rw [if_neg hnot3]
   by_cases o6:o≤6
   ·rw [if_pos o6]
    refine Ev.T rfl (Ev.B (ih d' rfl raw) fun r hr=>?_)
    obtain ⟨e1,r1,rfl,hk1,hd2,hl1⟩:=hr
    refine Ev.X (v:=⟨o,0,⟨0,0⟩⟩ :: e1.code) ?_ (Ev.S ?_)
    ·unfold Yr
     rw [if_pos ⟨by show e1.code.length<_; omega,by show 1<1000000; omega⟩]; rfl
    ·have hcase:o=4∨o=5∨o=6:=by omega
     rcases hcase with rfl | rfl | rfl
     ·exact ⟨.neg e1,r1,rfl,hk1,by simp only [Ex.dep]; omega,by simp only [Ex.code,List.length_cons]; omega⟩
     ·exact ⟨.sqr e1,r1,rfl,hk1,by simp only [Ex.dep]; omega,by simp only [Ex.code,List.length_cons]; omega⟩
     ·exact ⟨.sqrt e1,r1,rfl,hk1,by simp only [Ex.dep]; omega,by simp only [Ex.code,List.length_cons]; omega⟩
   ·rw [if_neg o6]
    refine Ev.F (by decide) (Ev.B (ih d' rfl raw) fun r hr=>?_)
    obtain ⟨e1,r1,rfl,hk1,hd2,hl1⟩:=hr
    refine Ev.B (ih d' rfl r1) fun r hr=>?_
    obtain ⟨e2,r2,rfl,hk2,hd3,hl2⟩:=hr
    refine Ev.X (v:=⟨o,0,⟨0,0⟩⟩ :: (e1.code++e2.code)) ?_ (Ev.S ?_)
    ·unfold Yh
     have hbl:([(⟨o,0,(⟨0,0⟩:qb)⟩:qu)]++e1.code).length=e1.code.length+1:=by simp
     rw [if_pos ⟨by show e1.code.length<_; omega,by show 1<1000000; omega⟩,if_pos ⟨by show e2.code.length<_; omega,by show ([(⟨o,0,(⟨0,0⟩:qb)⟩:qu)]++e1.code).length<_; omega⟩]; rfl
    ·exact ⟨.bin o e1 e2,r2,rfl,⟨by omega,hk1,hk2⟩,by simp only [Ex.dep]; omega,by simp only [Ex.code,List.length_cons,List.length_append]; omega⟩
theorem qdR {n:Int} (hn:1≤n∧n≤6) (d:Nat):d<10 → ∀ raw:List qu,Ev (fun _ j=>qL j ⟨raw,n⟩ ((d+1:Nat):Int)) (Bq n d):=by
 induction d with
 | zero=>exact fun h raw=>qad hn 0 h (fun d' h=>by cases h) raw
 | succ d ih =>
  intro h raw
  refine qad hn (d+1) h (fun d' h'=>?_) raw
  obtain rfl:d=d':=by omega
  exact ih (by omega)
def Cq (n:Int) (c:List qu):Prop:=∃ e:Ex,c=e.code∧e.ok n∧e.code.length<100∧e.dep≤100
theorem qfl {n:Int} (hn:1≤n∧n≤6) (raw:List qu):Ev (fun k _=>Ye k raw 7 n) (Cq n):=by
 unfold Ye
 have h:=mnl (raw.length:Int) 7
 refine Ev.T (by omega) (Ev.B (Ev.D (f:=fun _ j=>qL j ⟨_,n⟩ 5) (qdR hn 4 (by omega) _)) fun r hr=>Ev.S ?_)
 obtain ⟨e,raw',rfl,h2,h3,h4⟩:=hr
 exact ⟨e,rfl,h2,by omega,by omega⟩
def qbH (n:Int) (i:Nat) (F:List (List qu)):Prop:=∃ es:List Ex,F=es.map Ex.code∧es.length=i ∧ ∀ e ∈ es,e.ok n∧e.code.length<100∧e.dep≤100
theorem qfK {n:Nat} (hn:1≤n∧n≤3) (raw:List (List qu)):Ev (fun k _=>q8 k raw 7 (n:Int)) (fun s=>qbH (n:Int) n s.F):=by
 unfold q8
 refine Ev.B (Q:=fun r:List ByteArray × List (List qu)=>qbH (n:Int) n r.2) (Ev.D (f:=fun k j=>q8.l11 k raw 7 (n:Int) j [] [] 0) ?_) fun r hr=>Ev.S hr
 refine Ev.loop (fun k j (s:List ByteArray × List (List qu)) i=>q8.l11 k raw 7 (n:Int) j s.1 s.2 i) n (fun i s=>s.1.length=i∧qbH (n:Int) i s.2) ?_ ?_ (s:=([],[])) ⟨rfl,[],rfl,rfl,fun e he=>by cases he⟩
 ·intro i hi s hs next
  obtain ⟨nm,F⟩:=s
  obtain ⟨h1,es,h2,h3,h4⟩:=hs
  dsimp only at h1 h2 h3
  subst h2
  refine Ev.N (fun k j=>by rw [q8.l11]) ?_
  refine Ev.T (dT (by omega)) (Ev.B (Q:=fun _=>True) (Ev.C (fun h5=>?_) fun _=>Ev.S trivial) fun c _=>?_)
  ·have h6:(i:Int)<(raw.length:Int):=by simpa using h5
   exact Ev.T (by omega) (Ev.O (qaw (by omega)) fun r _=>Ev.S trivial)
  ·refine Ev.T (by omega) (Ev.O (qaw (by simp only [List.length_cons,List.length_nil]; omega)) fun w _=>Ev.T (by show nm.length<1000000; omega) (Ev.B (qfl (by omega) c) fun r hr=>Ev.T (by show (es.map Ex.code).length<1000000; rw [List.length_map,h3]; omega) ?_))
   obtain ⟨e,rfl,g1,g2,g3⟩:=hr
   rw [wi hi (by omega)]
   refine next (nm++[w],es.map Ex.code++[e.code]) ⟨by simp [h1],es++[e],by simp,by simp [h3],fun x hx=>?_⟩
   rcases List.mem_append.1 hx with hx | hx
   ·exact h4 x hx
   ·obtain rfl:=List.mem_singleton.1 hx
    exact ⟨g1,g2,g3⟩
 ·intro s hs
  refine Ev.N (fun k j=>by rw [q8.l11]) ?_
  exact Ev.F (dF (by omega)) (Ev.S hs.2)
theorem qeB (p:X4) (hN:0≤p.N∧p.N≤255):∃ n:Nat,(1≤n∧n≤3)∧Ev (fun k _=>Qk k p) (fun r=>qbH (n:Int) n r.1.F∧Bx n r.2):=by
 have h1:=tmp p.N (m:=3) hN.1 (by omega)
 have h2:qc (1+qc (Int.tmod p.N 3))=(((Int.tmod p.N 3).toNat+1:Nat):Int):=by rw [Zy (x:=Int.tmod p.N 3) (by omega) (by omega),Zy (by omega) (by omega)]; omega
 have h3:1≤(Int.tmod p.N 3).toNat+1∧(Int.tmod p.N 3).toNat+1≤3:=by omega
 generalize (Int.tmod p.N 3).toNat+1=n at h2 h3
 refine ⟨n,h3,?_⟩
 unfold Qk
 rw [h2]
 refine Ev.B (Q:=Bx n) (Ev.D (f:=fun k j=>Qk.l11 k p j [] 0) ?_) fun b hb=>Ev.B (qfK h3 _) fun s hs=>Ev.S ⟨hs,hb⟩
 refine Ev.loop (fun k j s i=>Qk.l11 k p j s i) n (fun i s=>Bx i s) ?_ ?_ ⟨rfl,fun y hy=>by cases hy⟩
 ·intro i hi s hs next
  refine Ev.N (fun k j=>by rw [Qk.l11]) ?_
  rw [h2]
  refine Ev.T (dT (by omega)) (Ev.B (Q:=fun r:Int × Int=>Ok ⟨r.1,r.2⟩) (Ev.C (fun h5=>?_) fun _=>Ev.S WD) fun r hr=>?_)
  ·have h6:(i:Int)<(p.X.length:Int):=by simpa using h5
   exact Ev.T (by omega) (Ev.O (qaw (by omega)) fun x _=>Ev.X (v:=sml x) rfl (Ev.S (.inr (qeR x))))
  ·refine Ev.T (by rw [hs.1]; omega) ?_
   rw [wi hi (by omega)]
   exact next _ (hs.app hr)
 ·intro s hs
  refine Ev.N (fun k j=>by rw [Qk.l11]) ?_
  rw [h2]
  exact Ev.F (dF (by omega)) (Ev.S hs)
def Up {α:Type} (f:α→α) (i:Nat) (l s:List α):Prop:=∀ q:Nat,s[q]? = (l[q]?).map (if q<i then f else id)
section
variable {α:Type} {f:α→α} {i:Nat} {l s:List α}
theorem Up.zero:Up f 0 l l:=fun q=>by rw [if_neg (by omega)]; simp
theorem Up.len (h:Up f i l s):s.length=l.length:=by
 have key:∀ q,q<s.length↔q<l.length:=fun q=>by
  have:=h q
  constructor
  ·intro hq
   rw [List.getElem?_eq_getElem hq] at this
   cases hl:l[q]? with
   | none=>rw [hl] at this; cases this
   | some x=>exact (List.getElem?_eq_some_iff.1 hl).1
  ·intro hq
   rw [List.getElem?_eq_getElem hq] at this
   exact (List.getElem?_eq_some_iff.1 this).1
 have h1:=key s.length
 have h2:=key l.length
 omega
theorem Up.done (h:Up f l.length l s):s=l.map f:=by
 apply List.ext_getElem?
 intro q
 rw [h q,List.getElem?_map]
 by_cases hq:q<l.length
 ·rw [if_pos hq]
 ·rw [List.getElem?_eq_none (by omega)]; rfl
theorem Up.at (h:Up f i l s):s[i]? = l[i]?:=by rw [h i,if_neg (by omega)]; simp
theorem Up.step (h:Up f i l s) {x:α} (hx:l[i]? = some x):Up f (i+1) l (s.set i (f x)):=fun q=>by
 rw [List.getElem?_set]
 by_cases hq:i=q
 ·subst hq
  have:i<s.length:=by rw [h.len]; exact (List.getElem?_eq_some_iff.1 hx).1
  rw [if_pos rfl,if_pos this,hx,if_pos (by omega)]; rfl
 ·rw [if_neg hq,h q]
  by_cases h2:q<i
  ·rw [if_pos h2,if_pos (by omega)]
  ·rw [if_neg h2,if_neg (by omega)]
theorem Up.keep (h:Up f i l s) {x:α} (hx:l[i]? = some x) (hf:f x=x):Up f (i+1) l s:=fun q=>by
 rw [h q]
 by_cases hq:q=i
 ·subst hq
  rw [if_neg (by omega),if_pos (by omega),hx]; simp [hf]
 ·by_cases h2:q<i
  ·rw [if_pos h2,if_pos (by omega)]
  ·rw [if_neg h2,if_neg (by omega)]
end
theorem qev {α:Type} (l:List α) (i:Nat) (x y:α):(l.set i x).set i y=l.set i y:=by simp
theorem qfL (p:X4) (sh:Int) (t3:Bool) (t5:YF × List qb) (F:List (List qu)) {i:Nat} {row:List qu} (hrow:F[i]? = some row) (hl:row.length<1000000) :
  Ev (fun k _=>qp.l80 k p sh t3 t5 F (i:Int) k F 0) (fun s=>s=F.set i (row.map utn)):=by
 refine Ev.D (f:=fun k j=>qp.l80 k p sh t3 t5 F (i:Int) j F 0) ?_
 have hi:i<F.length:=(List.getElem?_eq_some_iff.1 hrow).1
 have h0:F=F.set i row:=by
  apply List.ext_getElem?
  intro q
  rw [List.getElem?_set]
  by_cases hq:i=q
  ·subst hq; rw [if_pos rfl,if_pos hi,hrow]
  ·rw [if_neg hq]
 refine Ev.loop (fun k j s q=>qp.l80 k p sh t3 t5 F (i:Int) j s q) row.length (fun q s=>∃ r,s=F.set i r∧Up utn q row r) ?_ ?_ ⟨row,h0,Up.zero⟩
 ·intro q hq s hs next
  obtain ⟨r,rfl,hr⟩:=hs
  have hrl:=hr.len
  have hx:row[q]? = some row[q]:=List.getElem?_eq_getElem hq
  generalize row[q]=x at hx
  have hg:(F.set i r)[((i:Int)).toNat]? = some r:=by rw [Int.toNat_natCast,List.getElem?_set,if_pos rfl,if_pos hi]
  have hin:0≤(i:Int)∧(i:Int)<((F.set i r).length:Int):=by rw [List.length_set]; omega
  have hgx:r[((q:Int)).toNat]? = some x:=by rw [Int.toNat_natCast,hr.at,hx]
  refine Ev.N (fun k j=>by rw [qp.l80]) ?_
  refine Ev.T hin (Ev.X hg (Ev.T (dT (by omega)) (Ev.B (Q:=fun s=>∃ r,s=F.set i r∧Up utn (q+1) row r) ?_ fun s hs=>?_)))
  ·refine Ev.T hin (Ev.X hg (Ev.T (by omega) (Ev.X hgx (Ev.C (fun h3=>?_) fun h3=>?_))))
   ·refine Ev.T hin (Ev.X hg (Ev.T (by omega) (Ev.X hgx (Ev.S ?_))))
    rw [Int.toNat_natCast,Int.toNat_natCast,qev]
    have:utn x=⟨2,0,⟨0,0⟩⟩:=by unfold utn; rw [if_pos (by simpa using h3)]
    exact ⟨_,rfl,by rw [← this]; exact hr.step hx⟩
   ·exact Ev.S ⟨r,rfl,hr.keep hx (by unfold utn; rw [if_neg (by simpa using h3)])⟩
  ·rw [wi hq hl]
   exact next s hs
 ·intro s hs
  obtain ⟨r,rfl,hr⟩:=hs
  have hrl:=hr.len
  have hg:(F.set i r)[((i:Int)).toNat]? = some r:=by rw [Int.toNat_natCast,List.getElem?_set,if_pos rfl,if_pos hi]
  have hin:0≤(i:Int)∧(i:Int)<((F.set i r).length:Int):=by rw [List.length_set]; omega
  refine Ev.N (fun k j=>by rw [qp.l80]) ?_
  exact Ev.T hin (Ev.X hg (Ev.F (dF (by omega)) (Ev.S (by rw [hr.done]))))
theorem qdj (p:X4) (sh:Int) (t3:Bool) (t5:YF × List qb) {n:Nat} (hn:n≤3) {F:List (List qu)} (hF:qbH (n:Int) n F) :
  Ev (fun k _=>qp.l72 k p sh t3 t5 k F 0) (fun G=>∃ es:List Ex,G=(es.map Ex.ut).map Ex.code∧es.length=n ∧ ∀ e ∈ es,e.ok (n:Int)∧e.code.length<100∧e.dep≤100):=by
 obtain ⟨es,rfl,hl,hes⟩:=hF
 have hfin:(es.map Ex.code).map (List.map utn)=(es.map Ex.ut).map Ex.code:=by
  rw [List.map_map,List.map_map]
  exact List.map_congr_left fun e he=>Ex.ut_code e (hes e he).1
 refine Ev.I (P:=fun G=>G=(es.map Ex.code).map (List.map utn)) ?_ fun G hG=>⟨es,by rw [hG,hfin],hl,hes⟩
 refine Ev.D (f:=fun k j=>qp.l72 k p sh t3 t5 j (es.map Ex.code) 0) ?_
 have hlen:(es.map Ex.code).length=n:=by rw [List.length_map,hl]
 refine Ev.loop (fun k j s q=>qp.l72 k p sh t3 t5 j s q) n (fun q s=>Up (List.map utn) q (es.map Ex.code) s) ?_ ?_ Up.zero
 ·intro i hi s hs next
  have hsl:=hs.len
  have hx:(es.map Ex.code)[i]? = some ((es.map Ex.code)[i]'(by omega)):=List.getElem?_eq_getElem _
  have hxl:((es.map Ex.code)[i]'(by omega)).length<1000000:=by
   obtain ⟨e,he,h⟩:=List.mem_map.1 (List.getElem_mem (l:=es.map Ex.code) (n:=i) (by omega))
   have:=(hes e he).2.1
   rw [← h]; omega
  generalize (es.map Ex.code)[i]'(by omega)=row at hx hxl
  refine Ev.N (fun k j=>by rw [qp.l72]) ?_
  refine Ev.T (dT (by omega)) (Ev.B (qfL p sh t3 t5 s (hs.at.trans hx) hxl) fun r hr=>?_)
  subst hr
  rw [wi hi (by omega)]
  exact next _ (hs.step hx)
 ·intro s hs
  have hsl:=hs.len
  refine Ev.N (fun k j=>by rw [qp.l72]) ?_
  refine Ev.F (dF (by omega)) (Ev.S ?_)
  rw [← hlen] at hs
  exact hs.done
end Go.Proofs.YtpmgpcklieincaaGreatDoor
