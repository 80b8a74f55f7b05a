/- Each function of the program answers as the plain Lean function of its name (part 0). Printed by a program of this session. -/
import Derived.Test.YtpmgpcklieincaaGreatDoorEn
set_option linter.unusedVariables false
set_option linter.unusedSimpArgs false
set_option maxRecDepth 100000
set_option maxHeartbeats 4000000
namespace Go.Proofs.YtpmgpcklieincaaGreatDoor
open Go Go.RowKit Go.Sx Go.Proofs
theorem series_intervals.calls (w:World):Calls Tryz.prog 120 #[] w λe w'=>e = .returned (.agg F9.toArray)∧Below w.heap.size w w':=by
  refine Qs (args:=[]) 2 Tryz.func120 rfl λa H=>?_
  refine qs ?_
  refine VQ qd H (.cons [0,2] (qn (λb=>.pointer (some ⟨b,0,none⟩)) (λν=>[.nilFunc,.nilFunc,.nilFunc,.nilFunc,.nilFunc,.nilFunc,.nilFunc,.nilFunc,.nilFunc]) 215 0 2)<|.nil) (by kernel_rfl) λν1 a w' H=>?_
  replace H:=H.toL [(0,.slot true (.pointer (some ⟨(ν1 0).n 0,0,none⟩))),(2,.blk ((ν1 0).n 0) [.nilFunc,.nilFunc,.nilFunc,.nilFunc,.nilFunc,.nilFunc,.nilFunc,.nilFunc,.nilFunc] 215)] (by kernel_rfl)
  refine qs ?_
  refine VQ qd H (.cons [1] (qr (λν=>.agg F9.toArray) 1)<|.cons [2] (qK 2 0 (λν=>(ν1 0).n 0) (λν=>[.nilFunc,.nilFunc,.nilFunc,.nilFunc,.nilFunc,.nilFunc,.nilFunc,.nilFunc,.nilFunc]) (λν=>F9) 215)<|.nil) (by kernel_rfl) λν2 a w' H=>?_
  replace H:=H.toL [(0,.slot true (.pointer (some ⟨(ν1 0).n 0,0,none⟩))),(2,.blk ((ν1 0).n 0) F9 215)] (by kernel_rfl)
  refine qB ?_
  exact qY H _ 2 ((ν1 0).n 0) F9 215 0 9
theorem step_restrictTo.calls (a0:List qb)(p_a0:Option Addr)(n_p_a0 c_a0:Nat)(w:World):Calls Tryz.prog 101 #[.slice p_a0 n_p_a0 c_a0] w λe w'=>∃ b1,e = .returned (.func (.func 122) #[] #[.pointer (some ⟨b1,0,none⟩)])∧Below w.heap.size w w'∧w.heap.size<=b1∧w'.heap[b1]?=some (.cells [.slice p_a0 n_p_a0 c_a0].toArray 48 (0,0)):=by
  refine Qs (args:=[.slice p_a0 n_p_a0 c_a0]) 4 Tryz.func101 rfl λa H=>?_
  refine qs ?_
  refine VQ qd H (.cons [1,4] (qn (λb=>.pointer (some ⟨b,0,none⟩)) (λ_=>[.slice p_a0 n_p_a0 c_a0]) 48 1 4)<|.cons [2] (qr (λ_=>.nilFunc) 2)<|.nil) (by kernel_rfl) λν1 a w1 H=>?_
  obtain ⟨b1,hb1⟩:∃ b,(ν1 0).n 0=b:=⟨_,rfl⟩
  replace H:=H.toL [(1,.slot true (.pointer (some ⟨(ν1 0).n 0,0,none⟩))),(4,.blk ((ν1 0).n 0) [.slice p_a0 n_p_a0 c_a0] 48)] (by kernel_rfl)
  rw [hb1] at H
  refine qs ?_
  refine VQ qd H (.cons [3] (qr (λ_=>.func (.func 122) #[] #[.pointer (some ⟨b1,0,none⟩)]) 3)<|.cons [2] (qr (λ_=>.func (.func 122) #[] #[.pointer (some ⟨b1,0,none⟩)]) 2)<|.nil) (by kernel_rfl) λν2 a w2 H=>?_
  replace H:=H.toL [(2,.slot true (.func (.func 122) #[] #[.pointer (some ⟨b1,0,none⟩)])),(4,.blk b1 [.slice p_a0 n_p_a0 c_a0] 48)] (by kernel_rfl)
  refine qB ?_
  exact ⟨H.defers,_,XE H (.func (.func 122) #[] #[.pointer (some ⟨b1,0,none⟩)]) [] (by kernel_rfl) (by simp) (by kernel_rfl),b1,rfl,H.below,H.ge 4 b1 trivial rfl,H.holds 4⟩
theorem control_candidates.calls (a0:qJ)(a1:Int)(w:World):Calls Tryz.prog 55 #[.agg #[.int .i64 a0.Order,.int .i64 a0.First,.int .i64 a0.Least,.int .i64 a0.Most,.int .i64 a0.Wide],.int .i64 a1] w λe w'=>∃ b1 b2,e = .returned (.func (.func 76) #[] #[.pointer (some ⟨b2,0,none⟩),.pointer (some ⟨b1,0,none⟩)])∧Below w.heap.size w w'∧w.heap.size<=b1∧w.heap.size<=b2∧b1≠b2∧w'.heap[b1]?=some (.cells [.int .i64 a0.Order,.int .i64 a0.First,.int .i64 a0.Least,.int .i64 a0.Most,.int .i64 a0.Wide].toArray 27 (0,0))∧w'.heap[b2]?=some (.cells [.int .i64 a1].toArray 2 (0,0)):=by
  refine Qs (args:=[.agg #[.int .i64 a0.Order,.int .i64 a0.First,.int .i64 a0.Least,.int .i64 a0.Most,.int .i64 a0.Wide],.int .i64 a1]) 6 Tryz.func55 rfl λa H=>?_
  refine qs ?_
  refine VQ qd H (.cons [2,6] (qn (λb=>.pointer (some ⟨b,0,none⟩)) (λ_=>[.int .i64 a0.Order,.int .i64 a0.First,.int .i64 a0.Least,.int .i64 a0.Most,.int .i64 a0.Wide]) 27 2 6)<|.cons [3,7] (qn (λb=>.pointer (some ⟨b,0,none⟩)) (λ_=>[.int .i64 a1]) 2 3 7)<|.cons [4] (qr (λ_=>.nilFunc) 4)<|.nil) (by kernel_rfl) λν1 a w1 H=>?_
  obtain ⟨b1,hb1⟩:∃ b,(ν1 0).n 0=b:=⟨_,rfl⟩
  obtain ⟨b2,hb2⟩:∃ b,(ν1 1).n 0=b:=⟨_,rfl⟩
  replace H:=H.toL [(2,.slot true (.pointer (some ⟨(ν1 0).n 0,0,none⟩))),(3,.slot true (.pointer (some ⟨(ν1 1).n 0,0,none⟩))),(6,.blk ((ν1 0).n 0) [.int .i64 a0.Order,.int .i64 a0.First,.int .i64 a0.Least,.int .i64 a0.Most,.int .i64 a0.Wide] 27),(7,.blk ((ν1 1).n 0) [.int .i64 a1] 2)] (by kernel_rfl)
  rw [hb1,hb2] at H
  refine qs ?_
  refine VQ qd H (.cons [5] (qr (λ_=>.func (.func 76) #[] #[.pointer (some ⟨b2,0,none⟩),.pointer (some ⟨b1,0,none⟩)]) 5)<|.cons [4] (qr (λ_=>.func (.func 76) #[] #[.pointer (some ⟨b2,0,none⟩),.pointer (some ⟨b1,0,none⟩)]) 4)<|.nil) (by kernel_rfl) λν2 a w2 H=>?_
  replace H:=H.toL [(4,.slot true (.func (.func 76) #[] #[.pointer (some ⟨b2,0,none⟩),.pointer (some ⟨b1,0,none⟩)])),(6,.blk b1 [.int .i64 a0.Order,.int .i64 a0.First,.int .i64 a0.Least,.int .i64 a0.Most,.int .i64 a0.Wide] 27),(7,.blk b2 [.int .i64 a1] 2)] (by kernel_rfl)
  refine qB ?_
  exact ⟨H.defers,_,XE H (.func (.func 76) #[] #[.pointer (some ⟨b2,0,none⟩),.pointer (some ⟨b1,0,none⟩)]) [] (by kernel_rfl) (by simp) (by kernel_rfl),b1,b2,rfl,H.below,H.ge 6 b1 trivial rfl,H.ge 7 b2 trivial rfl,λe=>H.disj 6 7 b1 (by decide) trivial rfl e,H.holds 6,H.holds 7⟩
theorem picard_candidates.calls (a0:QE)(p_a0_L:Option Addr)(n_p_a0_L c_a0_L:Nat)(p_a0_Out:Option Addr)(n_p_a0_Out c_a0_Out:Nat)(a1:List qb)(p_a1:Option Addr)(n_p_a1 c_a1:Nat)(a2:Q0)(w:World):Calls Tryz.prog 95 #[.agg #[.int .i64 a0.N,.slice p_a0_L n_p_a0_L c_a0_L,.slice p_a0_Out n_p_a0_Out c_a0_Out],.slice p_a1 n_p_a1 c_a1,.agg #[.int .i64 a2.T,.int .i64 a2.H]] w λe w'=>∃ b1 b2 b3,e = .returned (.func (.func 111) #[] #[.pointer (some ⟨b2,0,none⟩),.pointer (some ⟨b1,0,none⟩),.pointer (some ⟨b3,0,none⟩)])∧Below w.heap.size w w'∧w.heap.size<=b1∧w.heap.size<=b2∧w.heap.size<=b3∧b1≠b2∧b1≠b3∧b2≠b3∧w'.heap[b1]?=some (.cells [.int .i64 a0.N,.slice p_a0_L n_p_a0_L c_a0_L,.slice p_a0_Out n_p_a0_Out c_a0_Out].toArray 38 (0,0))∧w'.heap[b2]?=some (.cells [.slice p_a1 n_p_a1 c_a1].toArray 48 (0,0))∧w'.heap[b3]?=some (.cells [.int .i64 a2.T,.int .i64 a2.H].toArray 53 (0,0)):=by
  refine Qs (args:=[.agg #[.int .i64 a0.N,.slice p_a0_L n_p_a0_L c_a0_L,.slice p_a0_Out n_p_a0_Out c_a0_Out],.slice p_a1 n_p_a1 c_a1,.agg #[.int .i64 a2.T,.int .i64 a2.H]]) 8 Tryz.func95 rfl λa H=>?_
  refine qs ?_
  refine VQ qd H (.cons [3,8] (qn (λb=>.pointer (some ⟨b,0,none⟩)) (λ_=>[.int .i64 a0.N,.slice p_a0_L n_p_a0_L c_a0_L,.slice p_a0_Out n_p_a0_Out c_a0_Out]) 38 3 8)<|.cons [4,9] (qn (λb=>.pointer (some ⟨b,0,none⟩)) (λ_=>[.slice p_a1 n_p_a1 c_a1]) 48 4 9)<|.cons [5,10] (qn (λb=>.pointer (some ⟨b,0,none⟩)) (λ_=>[.int .i64 a2.T,.int .i64 a2.H]) 53 5 10)<|.cons [6] (qr (λ_=>.nilFunc) 6)<|.nil) (by kernel_rfl) λν1 a w1 H=>?_
  obtain ⟨b1,hb1⟩:∃ b,(ν1 0).n 0=b:=⟨_,rfl⟩
  obtain ⟨b2,hb2⟩:∃ b,(ν1 1).n 0=b:=⟨_,rfl⟩
  obtain ⟨b3,hb3⟩:∃ b,(ν1 2).n 0=b:=⟨_,rfl⟩
  replace H:=H.toL [(3,.slot true (.pointer (some ⟨(ν1 0).n 0,0,none⟩))),(4,.slot true (.pointer (some ⟨(ν1 1).n 0,0,none⟩))),(5,.slot true (.pointer (some ⟨(ν1 2).n 0,0,none⟩))),(8,.blk ((ν1 0).n 0) [.int .i64 a0.N,.slice p_a0_L n_p_a0_L c_a0_L,.slice p_a0_Out n_p_a0_Out c_a0_Out] 38),(9,.blk ((ν1 1).n 0) [.slice p_a1 n_p_a1 c_a1] 48),(10,.blk ((ν1 2).n 0) [.int .i64 a2.T,.int .i64 a2.H] 53)] (by kernel_rfl)
  rw [hb1,hb2,hb3] at H
  refine qs ?_
  refine VQ qd H (.cons [7] (qr (λ_=>.func (.func 111) #[] #[.pointer (some ⟨b2,0,none⟩),.pointer (some ⟨b1,0,none⟩),.pointer (some ⟨b3,0,none⟩)]) 7)<|.cons [6] (qr (λ_=>.func (.func 111) #[] #[.pointer (some ⟨b2,0,none⟩),.pointer (some ⟨b1,0,none⟩),.pointer (some ⟨b3,0,none⟩)]) 6)<|.nil) (by kernel_rfl) λν2 a w2 H=>?_
  replace H:=H.toL [(6,.slot true (.func (.func 111) #[] #[.pointer (some ⟨b2,0,none⟩),.pointer (some ⟨b1,0,none⟩),.pointer (some ⟨b3,0,none⟩)])),(8,.blk b1 [.int .i64 a0.N,.slice p_a0_L n_p_a0_L c_a0_L,.slice p_a0_Out n_p_a0_Out c_a0_Out] 38),(9,.blk b2 [.slice p_a1 n_p_a1 c_a1] 48),(10,.blk b3 [.int .i64 a2.T,.int .i64 a2.H] 53)] (by kernel_rfl)
  refine qB ?_
  exact ⟨H.defers,_,XE H (.func (.func 111) #[] #[.pointer (some ⟨b2,0,none⟩),.pointer (some ⟨b1,0,none⟩),.pointer (some ⟨b3,0,none⟩)]) [] (by kernel_rfl) (by simp) (by kernel_rfl),b1,b2,b3,rfl,H.below,H.ge 8 b1 trivial rfl,H.ge 9 b2 trivial rfl,H.ge 10 b3 trivial rfl,λe=>H.disj 8 9 b1 (by decide) trivial rfl e,λe=>H.disj 8 10 b1 (by decide) trivial rfl e,λe=>H.disj 9 10 b2 (by decide) trivial rfl e,H.holds 8,H.holds 9,H.holds 10⟩
theorem box_pairs.calls (a0:List qb)(p_a0:Option Addr)(n_p_a0 c_a0:Nat)(a1:List qb)(p_a1:Option Addr)(n_p_a1 c_a1:Nat)(w:World):Calls Tryz.prog 43 #[.slice p_a0 n_p_a0 c_a0,.slice p_a1 n_p_a1 c_a1] w λe w'=>∃ b1 b2,e = .returned (.func (.func 66) #[] #[.pointer (some ⟨b1,0,none⟩),.pointer (some ⟨b2,0,none⟩)])∧Below w.heap.size w w'∧w.heap.size<=b1∧w.heap.size<=b2∧b1≠b2∧w'.heap[b1]?=some (.cells [.slice p_a0 n_p_a0 c_a0].toArray 48 (0,0))∧w'.heap[b2]?=some (.cells [.slice p_a1 n_p_a1 c_a1].toArray 48 (0,0)):=by
  refine Qs (args:=[.slice p_a0 n_p_a0 c_a0,.slice p_a1 n_p_a1 c_a1]) 6 Tryz.func43 rfl λa H=>?_
  refine qs ?_
  refine VQ qd H (.cons [2,6] (qn (λb=>.pointer (some ⟨b,0,none⟩)) (λ_=>[.slice p_a0 n_p_a0 c_a0]) 48 2 6)<|.cons [3,7] (qn (λb=>.pointer (some ⟨b,0,none⟩)) (λ_=>[.slice p_a1 n_p_a1 c_a1]) 48 3 7)<|.cons [4] (qr (λ_=>.nilFunc) 4)<|.nil) (by kernel_rfl) λν1 a w1 H=>?_
  obtain ⟨b1,hb1⟩:∃ b,(ν1 0).n 0=b:=⟨_,rfl⟩
  obtain ⟨b2,hb2⟩:∃ b,(ν1 1).n 0=b:=⟨_,rfl⟩
  replace H:=H.toL [(2,.slot true (.pointer (some ⟨(ν1 0).n 0,0,none⟩))),(3,.slot true (.pointer (some ⟨(ν1 1).n 0,0,none⟩))),(6,.blk ((ν1 0).n 0) [.slice p_a0 n_p_a0 c_a0] 48),(7,.blk ((ν1 1).n 0) [.slice p_a1 n_p_a1 c_a1] 48)] (by kernel_rfl)
  rw [hb1,hb2] at H
  refine qs ?_
  refine VQ qd H (.cons [5] (qr (λ_=>.func (.func 66) #[] #[.pointer (some ⟨b1,0,none⟩),.pointer (some ⟨b2,0,none⟩)]) 5)<|.cons [4] (qr (λ_=>.func (.func 66) #[] #[.pointer (some ⟨b1,0,none⟩),.pointer (some ⟨b2,0,none⟩)]) 4)<|.nil) (by kernel_rfl) λν2 a w2 H=>?_
  replace H:=H.toL [(4,.slot true (.func (.func 66) #[] #[.pointer (some ⟨b1,0,none⟩),.pointer (some ⟨b2,0,none⟩)])),(6,.blk b1 [.slice p_a0 n_p_a0 c_a0] 48),(7,.blk b2 [.slice p_a1 n_p_a1 c_a1] 48)] (by kernel_rfl)
  refine qB ?_
  exact ⟨H.defers,_,XE H (.func (.func 66) #[] #[.pointer (some ⟨b1,0,none⟩),.pointer (some ⟨b2,0,none⟩)]) [] (by kernel_rfl) (by simp) (by kernel_rfl),b1,b2,rfl,H.below,H.ge 6 b1 trivial rfl,H.ge 7 b2 trivial rfl,λe=>H.disj 6 7 b1 (by decide) trivial rfl e,H.holds 6,H.holds 7⟩
abbrev enI (x:qb):Value:=.agg #[.int .i64 x.Lo,.int .i64 x.Hi]
def qfz (wc:World)(J:World->Prop)(bb b:Nat)(pb:Option Addr)(cb:Nat)(bv:List qb)(x:qb)(w:World):Prop :=
  (Below 0 wc w->J w)∧w.heap[bb]?=some (.cells [.slice pb bv.length cb].toArray 48 (0,0))∧YP w 2 pb bv.length (bv.flatMap qa)∧w.heap[b]?=some (.cells [.int .i64 x.Lo,.int .i64 x.Hi].toArray 46 (0,0))
abbrev Vn (n:Nat)(wc:World)(J:World->Prop)(bb b:Nat)(pb:Option Addr)(cb:Nat)(bv:List qb)(x:qb):KV:=.fact (· < n) (qfz wc J bb b pb cb bv x)
theorem Vk {n:Nat}{wc:World}{J:World->Prop}{bb b:Nat}{pb:Option Addr}{cb:Nat}{bv:List qb}{x:qb}{w:World}(h:(Vn n wc J bb b pb cb bv x).holds w):qfz wc J bb b pb cb bv x w:=h w (agree.refl _ _)
theorem box_pairs_1.iter (av bv:List qb)(hlen:av.length<=bv.length)(hbd:av.length<1000000)(ba bb:Nat)(pa pb:Option Addr)(ca cb l:Nat)(J:List (qb×qb)->World->Prop)(JX:World->Prop)
    (hJ:∀ r W W',J r W->Below W.heap.size W W'->J r W') (hJX:∀ W W',JX W->Below W.heap.size W W'->JX W')
    (hF:∀ r W,J r W->W.heap[ba]?=some (.cells [.slice pa av.length ca].toArray 48 (0,0))∧W.heap[bb]?=some (.cells [.slice pb bv.length cb].toArray 48 (0,0))∧YP W 2 pa av.length (av.flatMap qa)∧YP W 2 pb bv.length (bv.flatMap qa))
    (wc:World) (hJc:∀ r W,J r W->Below 0 wc W) (hXc:∀ W,JX W->Below 0 wc W)
    (hY:∀ x rest W,J (x :: rest) W->YieldAt (WF none) 0 Tryz.prog l #[enI x.1,enI x.2] W λe W'=>(e = .returned (.bool true)∧J rest W')∨(e = .returned (.bool false)∧JX W'))
    (W:World) (h0:J (av.zip bv) W) :
    CallsIn (WF none) 0 Tryz.prog 66 #[.func (.yield l) #[] #[],.pointer (some ⟨ba,0,none⟩),.pointer (some ⟨bb,0,none⟩)] W λe W'=>(∃ v,e = .returned v)∧(J [] W'∨JX W'):=by
  refine qak (args:=[.func (.yield l) #[] #[],.pointer (some ⟨ba,0,none⟩),.pointer (some ⟨bb,0,none⟩)]) 22 Tryz.func66 rfl λa H=>?_
  have hf0:=hF _ _ h0
  replace H:=H.again W (Below.refl _ _) (Nat.le_refl _) [(22,Xf ba [.slice pa av.length ca] 48)] (by
    intro x hx
    simp only [List.mem_cons,List.not_mem_nil,or_false] at hx
    subst hx
    exact QH hf0.1 22)
  refine XJ ?_
  refine X0 qd H (.cons [6] (QV (λ_=>.slice pa av.length ca) 6 22 (Xf ba [.slice pa av.length ca] 48) ba 0 1 [.slice pa av.length ca] (λw h=>Za h))<|.cons [7] (qr (λ_=>.int .i64 (av.length:Int)) 7)<|.cons [8] (qr (λ_=>.int .i64 0) 8)<|.nil) (by kernel_rfl) (by kernel_rfl) λν1 a w H=>?_
  have hj:=hJ _ _ _ h0 H.below
  replace H:=(H.restart w (hJc _ _ hj) (Nat.zero_le _)).toL [(0,.slot true (.func (.yield l) #[] #[])),(2,.slot true (.pointer (some ⟨bb,0,none⟩))),(6,.slot true (.slice pa av.length ca)),(7,.slot true (.int .i64 (av.length:Int))),(8,.slot true (.int .i64 ((0:Nat):Int)))] (by kernel_rfl)
  refine ZT ?_
  refine qan (λm a w=>∃ i:Nat,m=av.length-i∧i<=av.length∧J ((av.zip bv).drop i) w∧QB 0 wc 22 (Jf [(0,.slot true (.func (.yield l) #[] #[])),(2,.slot true (.pointer (some ⟨bb,0,none⟩))),(6,.slot true (.slice pa av.length ca)),(7,.slot true (.int .i64 (av.length:Int))),(8,.slot true (.int .i64 (i:Int)))]) a w) av.length ⟨0,by omega,by omega,hj,H⟩ ?_
  clear H hj hf0
  rintro m a w ⟨i,rfl,hi,hj,H⟩
  obtain ⟨hA,hB,hRA,hRB⟩:=hF _ _ hj
  replace H:=H.again w (Below.refl w.heap.size w) (Nat.le_refl _) [(24,rdK 2 pa av.length (av.flatMap qa))] (by
    intro x hx
    simp only [List.mem_cons,List.not_mem_nil,or_false] at hx
    subst hx
    exact qgx hRA (by decide) 24)
  refine XJ ?_
  refine X0 qd H (.cons [9] (qr (λ_=>.bool (decide ((i:Int)<(av.length:Int)))) 9)<|.nil) (by kernel_rfl) (by kernel_rfl) λν2 a w1 H=>?_
  replace H:=H.toL [(0,.slot true (.func (.yield l) #[] #[])),(2,.slot true (.pointer (some ⟨bb,0,none⟩))),(6,.slot true (.slice pa av.length ca)),(7,.slot true (.int .i64 (av.length:Int))),(8,.slot true (.int .i64 (i:Int))),(9,.slot true (.bool (decide ((i:Int)<(av.length:Int))))),(24,rdK 2 pa av.length (av.flatMap qa))] (by kernel_rfl)
  refine XJ ?_
  refine JO H (by kernel_rfl) (t:=decide ((i:Int)<(av.length:Int))) (by kernel_rfl) (λc=>?_) (λc=>?_)
  rotate_left
  · have hlt:¬ ((i:Int)<(av.length:Int)):=of_decide_eq_false c
    refine We rfl ?_
    refine ⟨H.defers,_,XE H (.tuple #[]) [] (by kernel_rfl) (by simp) (by kernel_rfl),⟨_,rfl⟩,.inl ?_⟩
    have:=hJ _ _ _ hj H.below
    rw [List.drop_eq_nil_of_le (by rw [List.length_zip]; omega)] at this
    exact this
  have hlt:(i:Int)<(av.length:Int):=of_decide_eq_true c
  have hlt':i<av.length:=by omega
  obtain ⟨x,hx⟩:∃ x,av[((i:Int)).toNat]?=some x:=⟨av[i],by simp [hlt']⟩
  obtain ⟨y,hy⟩:∃ y,bv[((i:Int)).toNat]?=some y:=⟨bv[i],by simp [show i<bv.length by omega]⟩
  have hdrop:(av.zip bv).drop i=(x,y) :: (av.zip bv).drop (i+1):=by
    have hz:i<(av.zip bv).length:=by rw [List.length_zip]; omega
    rw [List.drop_eq_getElem_cons hz]
    congr 1
    have e1:av[i]?=some x:=by simpa using hx
    have e2:bv[i]?=some y:=by simpa using hy
    rw [List.getElem_zip]
    rw [List.getElem?_eq_getElem hlt'] at e1
    rw [List.getElem?_eq_getElem (show i<bv.length by omega)] at e2
    injection e1 with e1
    injection e2 with e2
    rw [e1,e2]
  refine Z7 ?_
  refine XJ ?_
  refine ZT ?_
  refine XJ ?_
  refine X0 qd H (.cons [10] (qr (λ_=>.int .i64 (i:Int)) 10)<|.cons [11] (Zb [24] (λ_=>[rdK 2 pa av.length (av.flatMap qa)]) (λ_=>.pointer (some ⟨XR pa,XV pa+(i:Int).toNat*2,none⟩)) (λ_=>true) [true,true] 11 (λ_ w hg hF=>Zt (by kernel_rfl) (qc5 (t:=48) (p:=pa) (n:=av.length) (cap:=ca) (k:=.i64) (i:=(i:Int)) (sz:=2) (by kernel_rfl) (by kernel_rfl) (qg1 hF.1) ⟨by omega,hlt⟩)))<|.cons [12] (Zb [24] (λ_=>[rdK 2 pa av.length (av.flatMap qa)]) (λ_=>.agg #[.int .i64 x.Lo,.int .i64 x.Hi]) (λ_=>true) [true] 12 (λ_ w hg hF=>qfi (vs:=[.int .i64 x.Lo,.int .i64 x.Hi]) (b:=XR pa) (off:=XV pa+(i:Int).toNat*2+0) (m:=2) (by kernel_rfl) (qaW (qg1 hF.1) qe hx 0 2 rfl)))<|.cons [5,26] (qn (λb=>.pointer (some ⟨b,0,none⟩)) (λ_=>[.int .i64 0,.int .i64 0]) 46 5 26)<|.cons [4] (qr (λ_=>.int .i64 (i:Int)) 4)<|.cons [26] (QF (u':=λν=>[(26,.blk ((ν 3).n 0) [.int .i64 x.Lo,.int .i64 x.Hi] 46)]) (qK 26 0 (λν=>(ν 3).n 0) (λ_=>[.int .i64 0,.int .i64 0]) (λ_=>[.int .i64 x.Lo,.int .i64 x.Hi]) 46) (λ_=>by kernel_rfl))<|.nil) (by kernel_rfl) (by kernel_rfl) λν3 a w2 H=>?_
  replace H:=H.toL [(0,.slot true (.func (.yield l) #[] #[])),(2,.slot true (.pointer (some ⟨bb,0,none⟩))),(4,.slot true (.int .i64 (i:Int))),(5,.slot true (.pointer (some ⟨(ν3 3).n 0,0,none⟩))),(6,.slot true (.slice pa av.length ca)),(7,.slot true (.int .i64 (av.length:Int))),(8,.slot true (.int .i64 (i:Int))),(26,.blk ((ν3 3).n 0) [.int .i64 x.Lo,.int .i64 x.Hi] 46)] (by kernel_rfl)
  obtain ⟨b,hb⟩:∃ b,(ν3 3).n 0=b:=⟨_,rfl⟩
  rw [hb] at H
  have hx2:(KV.blk b [.int .i64 x.Lo,.int .i64 x.Hi] 46).holds w2:=H.holds 26
  have hj2:=hJ _ _ _ hj H.below
  obtain ⟨_,hB2,_,hRB2⟩:=hF _ _ hj2
  have hlb:∀ {b:Nat} {o:Obj},w2.heap[b]?=some o->b<w2.heap.size:=λh=>(Array.getElem?_eq_some_iff.1 h).1
  have hgk:(Vn w2.heap.size wc (J ((av.zip bv).drop i)) bb b pb cb bv x).holds w2:=by
    intro w' ha
    refine ⟨λhb'=>?_,(ha bb (hlb hB2)).trans hB2,hRB2.agree λk hk=>ha k (hRB2.inb (by decide) k hk),(ha b (hlb hx2)).trans hx2⟩
    exact qdx (w0:=wc) (λW' h=>hJ _ _ _ hj2 h) (hJc _ _ hj2) w' ha hb'
  replace H:=(H.again w2 (hJc _ _ hj2) (Nat.zero_le _) [(30,Vn w2.heap.size wc (J ((av.zip bv).drop i)) bb b pb cb bv x)] (by
    intro z hz
    simp only [List.mem_cons,List.not_mem_nil,or_false] at hz
    subst hz
    exact ⟨⟨_,_,rfl⟩,hgk,λk hk=>hk⟩)).toL [(0,.slot true (.func (.yield l) #[] #[])),(2,.slot true (.pointer (some ⟨bb,0,none⟩))),(4,.slot true (.int .i64 (i:Int))),(5,.slot true (.pointer (some ⟨b,0,none⟩))),(6,.slot true (.slice pa av.length ca)),(7,.slot true (.int .i64 (av.length:Int))),(8,.slot true (.int .i64 (i:Int))),(30,Vn w2.heap.size wc (J ((av.zip bv).drop i)) bb b pb cb bv x)] (by kernel_rfl)
  refine XJ ?_
  refine qgG (qd7 (Rp:=qef 30 0 wc 22) qd ⟨H,qfw _ (by kernel_rfl)⟩ (.cons [13] (oki (qr (λ_=>.func (.yield l) #[] #[]) 13))<|.cons [14] (oki (QV (λ_=>.agg #[.int .i64 x.Lo,.int .i64 x.Hi]) 14 30 (Vn w2.heap.size wc (J ((av.zip bv).drop i)) bb b pb cb bv x) b 0 2 [.int .i64 x.Lo,.int .i64 x.Hi] (λw h=>⟨_,_,(Vk h).2.2.2⟩)))<|.cons [15] (oki (QV (λ_=>.slice pb bv.length cb) 15 30 (Vn w2.heap.size wc (J ((av.zip bv).drop i)) bb b pb cb bv x) bb 0 1 [.slice pb bv.length cb] (λw h=>⟨_,_,(Vk h).2.1⟩)))<|.cons [16] (oki (qr (λ_=>.int .i64 (i:Int)) 16))<|.cons [17] (oki (Zb [30] (λ_=>[Vn w2.heap.size wc (J ((av.zip bv).drop i)) bb b pb cb bv x]) (λ_=>.pointer (some ⟨XR pb,XV pb+(i:Int).toNat*2,none⟩)) (λ_=>true) [true,true] 17 (λ_ w hg hF=>Zt (by kernel_rfl) (qc5 (t:=48) (p:=pb) (n:=bv.length) (cap:=cb) (k:=.i64) (i:=(i:Int)) (sz:=2) (by kernel_rfl) (by kernel_rfl) (Vk hF.1).2.2.1 ⟨by omega,by omega⟩))))<|.cons [18] (oki (Zb [30] (λ_=>[Vn w2.heap.size wc (J ((av.zip bv).drop i)) bb b pb cb bv x]) (λ_=>.agg #[.int .i64 y.Lo,.int .i64 y.Hi]) (λ_=>true) [true] 18 (λ_ w hg hF=>qfi (vs:=[.int .i64 y.Lo,.int .i64 y.Hi]) (b:=XR pb) (off:=XV pb+(i:Int).toNat*2+0) (m:=2) (by kernel_rfl) (qaW (Vk hF.1).2.2.1 qe hy 0 2 rfl))))<|.cons [19,30] (qf9 (w0:=wc) 30 (Vn w2.heap.size wc (J ((av.zip bv).drop i)) bb b pb cb bv x) l (λ_=>#[enI x,enI y]) (J ((av.zip bv).drop i)) (J ((av.zip bv).drop (i+1))) JX 19
      (by intro _; kernel_rfl) (λw h hb'=>(Vk h).1 hb') (λ_ W1 h1=>hY (x,y) _ W1 (by rw [<- hdrop]; exact h1)) (λW1 W2 h1 h2=>hJ _ _ _ h1 h2) hJX (λW1 h1=>hJc _ _ h1) hXc)<|.cons [20] (oki (qr (λν=>.bool (!(decide ((ν 6).n 0=1)))) 20))<|.nil) (by kernel_rfl) qeG λν4 a w3 H=>?_)
  have hk30:=H.1.holds 30
  replace hk30:(bif decide ((ν4 6).n 0=1) then jK ((ν4 6).n 1) wc (J ((av.zip bv).drop (i+1))) else jK ((ν4 6).n 1) wc JX).holds w3:=hk30
  have hbel:=H.1.below
  replace H:=H.1.toL [(0,.slot true (.func (.yield l) #[] #[])),(2,.slot true (.pointer (some ⟨bb,0,none⟩))),(6,.slot true (.slice pa av.length ca)),(7,.slot true (.int .i64 (av.length:Int))),(8,.slot true (.int .i64 (i:Int))),(20,.slot true (.bool (!(decide ((ν4 6).n 0=1)))))] (by kernel_rfl)
  refine JO H (by kernel_rfl) (t:=!(decide ((ν4 6).n 0=1))) (by kernel_rfl) (λc=>?_) (λc=>?_)
  · refine J1 ?_
    have hn:decide ((ν4 6).n 0=1)=false:=by simpa using c
    rw [hn] at hk30
    exact ⟨H.defers,_,XE H (.tuple #[]) [] (by kernel_rfl) (by simp) (by kernel_rfl),⟨_,rfl⟩,.inr (hk30 w3 (agree.refl _ _) hbel)⟩
  · refine Z7 ?_
    have hn:decide ((ν4 6).n 0=1)=true:=by simpa using c
    rw [hn] at hk30
    have hj3:J ((av.zip bv).drop (i+1)) w3:=hk30 w3 (agree.refl _ _) hbel
    replace H:=H.restart w3 (Below.refl w3.heap.size w3) (Nat.le_refl _)
    have hw:IntKind.wrap .i64 ((i:Int)+1)=((i+1:Nat):Int):=by
      have:(i:Int)<1000000:=by omega
      simp [IntKind.wrap,IntKind.bits,IntKind.signed]
      omega
    refine X0 qd H (.cons [21] (qr (λ_=>.int .i64 (IntKind.wrap .i64 ((i:Int)+1))) 21)<|.cons [8] (qr (λ_=>.int .i64 (IntKind.wrap .i64 ((i:Int)+1))) 8)<|.nil) (by kernel_rfl) (by kernel_rfl) λν5 a w4 H=>?_
    have hj4:=hJ _ _ _ hj3 H.below
    replace H:=(H.restart w4 (hJc _ _ hj4) (Nat.zero_le _)).toL [(0,.slot true (.func (.yield l) #[] #[])),(2,.slot true (.pointer (some ⟨bb,0,none⟩))),(6,.slot true (.slice pa av.length ca)),(7,.slot true (.int .i64 (av.length:Int))),(8,.slot true (.int .i64 (IntKind.wrap .i64 ((i:Int)+1))))] (by kernel_rfl)
    rw [hw] at H
    exact ⟨av.length-(i+1),by omega,i+1,rfl,by omega,hj4,H⟩
def qdJ (ba bb:Nat)(pa pb:Option Addr)(ca cb:Nat)(av bv:List qb)(W:World):Prop :=
  W.heap[ba]?=some (.cells [.slice pa av.length ca].toArray 48 (0,0))∧W.heap[bb]?=some (.cells [.slice pb bv.length cb].toArray 48 (0,0))∧YP W 2 pa av.length (av.flatMap qa)∧YP W 2 pb bv.length (bv.flatMap qa)
theorem box_pairs_1.ok (av bv:List qb)(hlen:av.length<=bv.length)(hbd:av.length<1000000)(ba bb:Nat)(pa pb:Option Addr)(ca cb:Nat) :
    qeT Tryz.prog 66 #[.pointer (some ⟨ba,0,none⟩),.pointer (some ⟨bb,0,none⟩)] (λx:qb×qb=>#[enI x.1,enI x.2]) (av.zip bv) (qdJ ba bb pa pb ca cb av bv) :=
  λl J JX hJ hJX hF wc hJc hXc hY W h0=>box_pairs_1.iter av bv hlen hbd ba bb pa pb ca cb l J JX hJ hJX hF wc hJc hXc hY W h0
theorem Yn.calls (a0:Int)(r:qJ)(w:World)(G:Yn a0=some r) :
  Calls Tryz.prog 29 #[.int .u8 a0] w λe w'=>e = .returned (.agg #[vI r.Order,vI r.First,vI r.Least,vI r.Most,vI r.Wide])∧Below w.heap.size w w':=by
 refine Qs (args:=[.int .u8 a0]) 8 Tryz.func29 rfl λa H=>?_
 unfold Yn at G
 refine qg qd H (.cons [2,8] (qn (λb=>vP b 0) (λu1=>[vI 0,vI 0,vI 0,vI 0,vI 0]) 27 2 8)<|.nil) [0,2,8] λu1 a w' H=>?_
 refine qg qd H (.v 3 (.int .u8 a0)<|.v 4 (.int .u8 (Int.tmod a0 3))<|.v 5 (vI (qc (Int.tmod a0 3)))<|.v 6 (vI (qc (1+(qc (Int.tmod a0 3)))))<|.v 7 (.agg #[vI (qc (1+(qc (Int.tmod a0 3)))),vI 4096,vI 1024,vI 16384,vI 16777216])<|.cons [8] (qQ 8 0 (nn u1 0) [vI 0,vI 0,vI 0,vI 0,vI 0] [vI (qc (1+(qc (Int.tmod a0 3)))),vI 4096,vI 1024,vI 16384,vI 16777216] 27 [vI (qc (1+(qc (Int.tmod a0 3)))),vI 4096,vI 1024,vI 16384,vI 16777216])<|.nil) [2,8] λu2 a w' H=>?_
 refine qB ?_
 obtain rfl:=sj G
 exact qY H _ 8 (nn u1 0) [vI (qc (1+(qc (Int.tmod a0 3)))),vI 4096,vI 1024,vI 16384,vI 16777216] 27 0 5
theorem Q2.calls (a0:Int)(a1:Int)(a2:Int)(r:ZQ)(w:World)(G:Q2 a0 a1 a2=some r) :
  Calls Tryz.prog 10 #[.int .u8 a0,.int .i8 a1,.int .u8 a2] w λe w'=>e = .returned (.agg #[vI r.Ctrl.Order,vI r.Ctrl.First,vI r.Ctrl.Least,vI r.Ctrl.Most,vI r.Ctrl.Wide,vI r.T,vI r.Last])∧Below w.heap.size w w':=by
 refine Qs (args:=[.int .u8 a0,.int .i8 a1,.int .u8 a2]) 22 Tryz.func10 rfl λa H=>?_
 unfold Q2 at G
 refine qg qd H (.cons [6,22] (qn (λb=>vP b 0) (λu1=>[vI 0,vI 0,vI 0,vI 0,vI 0,vI 0,vI 0]) 29 6 22)<|.nil) [0,1,2,6,22] λu1 a w' H=>?_
 refine qg qd H (.v 8 (.int .i8 a1)<|.v 9 (vI (qc a1))<|.v 10 (vI (qc ((qc a1)*65536)))<|.v 7 (vI (qc ((qc a1)*65536)))<|.nil) [0,2,6,7,22] λu2 a w' H=>?_
 obtain ⟨t4,ht4,G⟩:=qO G
 obtain ⟨z5,hz5,G⟩:=qO G
 replace hz5:=Option.some.inj hz5
 refine qg qd H (.v 11 (.int .u8 a0)<|.cons [12] (qm 29 _ _ 12 [] (λu3 w _=>Yn.calls a0 t4 w ht4))<|.v 13 (vI (qc ((qc a1)*65536)))<|.v 14 (vI (qc ((qc a1)*65536)))<|.v 15 (.int .u8 a2)<|.v 16 (.int .u8 (Int.tmod a2 64))<|.v 17 (vI (qc (Int.tmod a2 64)))<|.v 18 (vI (qc (1+(qc (Int.tmod a2 64)))))<|.v 19 (vI (qc ((qc (1+(qc (Int.tmod a2 64))))*4096)))<|.cons [20] (QF (u':=λu3=>[(20,sI z5)]) (qr (λu3=>vI (qc ((qc ((qc a1)*65536))+(qc ((qc (1+(qc (Int.tmod a2 64))))*4096))))) 20) (λ_=>by rw [<- hz5]))<|.v 21 (.agg #[vI t4.Order,vI t4.First,vI t4.Least,vI t4.Most,vI t4.Wide,vI (qc ((qc a1)*65536)),vI z5])<|.cons [22] (qQ 22 0 (nn u1 0) [vI 0,vI 0,vI 0,vI 0,vI 0,vI 0,vI 0] [vI t4.Order,vI t4.First,vI t4.Least,vI t4.Most,vI t4.Wide,vI (qc ((qc a1)*65536)),vI z5] 29 [vI t4.Order,vI t4.First,vI t4.Least,vI t4.Most,vI t4.Wide,vI (qc ((qc a1)*65536)),vI z5])<|.nil) [6,22] λu3 a w' H=>?_
 refine qB ?_
 obtain rfl:=sj G
 exact qY H _ 22 (nn u1 0) [vI t4.Order,vI t4.First,vI t4.Least,vI t4.Most,vI t4.Wide,vI (qc ((qc a1)*65536)),vI z5] 29 0 7
theorem Ze.calls (a0:qJ)(r:Bool)(w:World)(G:Ze a0=some r) :
  Calls Tryz.prog 30 #[.agg #[vI a0.Order,vI a0.First,vI a0.Least,vI a0.Most,vI a0.Wide]] w λe w'=>e = .returned (.bool r)∧Below w.heap.size w w':=by
 refine Qs (args:=[.agg #[vI a0.Order,vI a0.First,vI a0.Least,vI a0.Most,vI a0.Wide]]) 47 Tryz.func30 rfl λa H=>?_
 unfold Ze at G
 refine qg qd H (.cons [1,47] (qn (λb=>vP b 0) (λu1=>[vI a0.Order,vI a0.First,vI a0.Least,vI a0.Most,vI a0.Wide]) 27 1 47)<|.v 2 (.bool false)<|.nil) [1,47] λu1 a w' H=>?_
 obtain ⟨z3,hz3,G⟩:=qO G
 replace hz3:=Option.some.inj hz3
 refine qg qd H (.v 4 (vP (nn u1 0) 2)<|.cons [5] (qf (vI a0.Least) 5 47 2 1 (nn u1 0) [vI a0.Order,vI a0.First,vI a0.Least,vI a0.Most,vI a0.Wide] 27)<|.v 6 (.bool (decide (1<=a0.Least)))<|.v 7 (.bool (decide (1<=a0.Least)))<|.cons [8] (qE (λu2=>vP (nn u1 0) 2) (λu2=>((decide (1<=a0.Least))==true)) [true] 8)<|.cons [9] (YL (λu2=>vI a0.Least) (λu2=>((decide (1<=a0.Least))==true)) [false] 9 47 2 1 (λu2=>(nn u1 0)) (λu2=>[vI a0.Order,vI a0.First,vI a0.Least,vI a0.Most,vI a0.Wide]) 27)<|.cons [10] (qE (λu2=>vP (nn u1 0) 1) (λu2=>((decide (1<=a0.Least))==true)) [true] 10)<|.cons [11] (YL (λu2=>vI a0.First) (λu2=>((decide (1<=a0.Least))==true)) [false] 11 47 1 1 (λu2=>(nn u1 0)) (λu2=>[vI a0.Order,vI a0.First,vI a0.Least,vI a0.Most,vI a0.Wide]) 27)<|.cons [12] (qE (λu2=>.bool (decide (a0.Least<=a0.First))) (λu2=>((decide (1<=a0.Least))==true)) [false,false] 12)<|.cons [13] (YH 7 12 (λu2=>true) (λu2=>true) (λu2=>decide (1<=a0.Least)) (λu2=>decide (a0.Least<=a0.First)) 13)<|.v 14 (.bool ((decide (1<=a0.Least))&&(decide (a0.Least<=a0.First))))<|.cons [15] (qE (λu2=>vP (nn u1 0) 1) (λu2=>(((decide (1<=a0.Least))&&(decide (a0.Least<=a0.First)))==true)) [true] 15)<|.cons [16] (YL (λu2=>vI a0.First) (λu2=>(((decide (1<=a0.Least))&&(decide (a0.Least<=a0.First)))==true)) [false] 16 47 1 1 (λu2=>(nn u1 0)) (λu2=>[vI a0.Order,vI a0.First,vI a0.Least,vI a0.Most,vI a0.Wide]) 27)<|.cons [17] (qE (λu2=>vP (nn u1 0) 3) (λu2=>(((decide (1<=a0.Least))&&(decide (a0.Least<=a0.First)))==true)) [true] 17)<|.cons [18] (YL (λu2=>vI a0.Most) (λu2=>(((decide (1<=a0.Least))&&(decide (a0.Least<=a0.First)))==true)) [false] 18 47 3 1 (λu2=>(nn u1 0)) (λu2=>[vI a0.Order,vI a0.First,vI a0.Least,vI a0.Most,vI a0.Wide]) 27)<|.cons [19] (qE (λu2=>.bool (decide (a0.First<=a0.Most))) (λu2=>(((decide (1<=a0.Least))&&(decide (a0.Least<=a0.First)))==true)) [false,false] 19)<|.cons [20] (YH 14 19 (λu2=>true) (λu2=>true) (λu2=>((decide (1<=a0.Least))&&(decide (a0.Least<=a0.First)))) (λu2=>decide (a0.First<=a0.Most)) 20)<|.cons [21] (QF (u':=λu2=>[(21,sB z3)]) (qr (λu2=>.bool (((decide (1<=a0.Least))&&(decide (a0.Least<=a0.First)))&&(decide (a0.First<=a0.Most)))) 21) (λ_=>by rw [<- hz3]))<|.cons [22] (qE (λu2=>vP (nn u1 0) 3) (λu2=>(z3==true)) [true] 22)<|.cons [23] (YL (λu2=>vI a0.Most) (λu2=>(z3==true)) [false] 23 47 3 1 (λu2=>(nn u1 0)) (λu2=>[vI a0.Order,vI a0.First,vI a0.Least,vI a0.Most,vI a0.Wide]) 27)<|.cons [24] (qE (λu2=>.bool (decide (a0.Most<2147483648))) (λu2=>(z3==true)) [false,true] 24)<|.cons [25] (YH 21 24 (λu2=>true) (λu2=>true) (λu2=>z3) (λu2=>decide (a0.Most<2147483648)) 25)<|.v 3 (.bool (z3&&(decide (a0.Most<2147483648))))<|.nil) [1,3,47] λu2 a w' H=>?_
 obtain ⟨z5,hz5,G⟩:=qO G
 replace hz5:=Option.some.inj hz5
 refine qg qd H (.v 26 (vP (nn u1 0) 0)<|.cons [27] (qf (vI a0.Order) 27 47 0 1 (nn u1 0) [vI a0.Order,vI a0.First,vI a0.Least,vI a0.Most,vI a0.Wide] 27)<|.v 28 (.bool (decide (a0.Order>=1)))<|.v 29 (.bool (decide (a0.Order>=1)))<|.cons [30] (qE (λu4=>vP (nn u1 0) 0) (λu4=>((decide (a0.Order>=1))==true)) [true] 30)<|.cons [31] (YL (λu4=>vI a0.Order) (λu4=>((decide (a0.Order>=1))==true)) [false] 31 47 0 1 (λu4=>(nn u1 0)) (λu4=>[vI a0.Order,vI a0.First,vI a0.Least,vI a0.Most,vI a0.Wide]) 27)<|.cons [32] (qE (λu4=>.bool (decide (a0.Order<8))) (λu4=>((decide (a0.Order>=1))==true)) [false,true] 32)<|.cons [33] (YH 29 32 (λu4=>true) (λu4=>true) (λu4=>decide (a0.Order>=1)) (λu4=>decide (a0.Order<8)) 33)<|.v 34 (.bool ((decide (a0.Order>=1))&&(decide (a0.Order<8))))<|.cons [35] (qE (λu4=>.bool (z3&&(decide (a0.Most<2147483648)))) (λu4=>(((decide (a0.Order>=1))&&(decide (a0.Order<8)))==true)) [true] 35)<|.cons [36] (YH 34 35 (λu4=>true) (λu4=>true) (λu4=>((decide (a0.Order>=1))&&(decide (a0.Order<8)))) (λu4=>(z3&&(decide (a0.Most<2147483648)))) 36)<|.cons [37] (QF (u':=λu4=>[(37,sB z5)]) (qr (λu4=>.bool (((decide (a0.Order>=1))&&(decide (a0.Order<8)))&&(z3&&(decide (a0.Most<2147483648))))) 37) (λ_=>by rw [<- hz5]))<|.cons [38] (qE (λu4=>vP (nn u1 0) 4) (λu4=>(z5==true)) [true] 38)<|.cons [39] (YL (λu4=>vI a0.Wide) (λu4=>(z5==true)) [false] 39 47 4 1 (λu4=>(nn u1 0)) (λu4=>[vI a0.Order,vI a0.First,vI a0.Least,vI a0.Most,vI a0.Wide]) 27)<|.cons [40] (qE (λu4=>.bool (decide (a0.Wide>=1))) (λu4=>(z5==true)) [false,true] 40)<|.cons [41] (YH 37 40 (λu4=>true) (λu4=>true) (λu4=>z5) (λu4=>decide (a0.Wide>=1)) 41)<|.v 42 (.bool (z5&&(decide (a0.Wide>=1))))<|.cons [43] (qE (λu4=>vP (nn u1 0) 4) (λu4=>((z5&&(decide (a0.Wide>=1)))==true)) [true] 43)<|.cons [44] (YL (λu4=>vI a0.Wide) (λu4=>((z5&&(decide (a0.Wide>=1)))==true)) [false] 44 47 4 1 (λu4=>(nn u1 0)) (λu4=>[vI a0.Order,vI a0.First,vI a0.Least,vI a0.Most,vI a0.Wide]) 27)<|.cons [45] (qE (λu4=>.bool (decide (a0.Wide<2147483648))) (λu4=>((z5&&(decide (a0.Wide>=1)))==true)) [false,true] 45)<|.cons [46] (YH 42 45 (λu4=>true) (λu4=>true) (λu4=>(z5&&(decide (a0.Wide>=1)))) (λu4=>decide (a0.Wide<2147483648)) 46)<|.v 2 (.bool ((z5&&(decide (a0.Wide>=1)))&&(decide (a0.Wide<2147483648))))<|.nil) [2] λu4 a w' H=>?_
 refine qB ?_
 obtain rfl:=sj G
 exact Qr H _
theorem YG.calls (a0:Int)(r:Bool)(w:World)(G:YG a0=some r) :
  Calls Tryz.prog 31 #[vI a0] w λe w'=>e = .returned (.bool r)∧Below w.heap.size w w':=by
 refine Qs (args:=[vI a0]) 9 Tryz.func31 rfl λa H=>?_
 unfold YG at G
 refine qg qd H (.v 2 (.bool false)<|.nil) [0] λu1 a w' H=>?_
 refine qg qd H (.v 3 (vI a0)<|.v 4 (.bool (decide ((-2147483648)<a0)))<|.v 5 (.bool (decide ((-2147483648)<a0)))<|.cons [6] (qE (λu2=>vI a0) (λu2=>((decide ((-2147483648)<a0))==true)) [true] 6)<|.cons [7] (qE (λu2=>.bool (decide (a0<2147483648))) (λu2=>((decide ((-2147483648)<a0))==true)) [false,true] 7)<|.cons [8] (YH 5 7 (λu2=>true) (λu2=>true) (λu2=>decide ((-2147483648)<a0)) (λu2=>decide (a0<2147483648)) 8)<|.v 2 (.bool ((decide ((-2147483648)<a0))&&(decide (a0<2147483648))))<|.nil) [2] λu2 a w' H=>?_
 refine qB ?_
 obtain rfl:=sj G
 exact Qr H _
theorem Y6.calls (a0:qJ)(a1:Int)(r:Int)(w:World)(G:Y6 a0 a1=some r) :
  Calls Tryz.prog 32 #[.agg #[vI a0.Order,vI a0.First,vI a0.Least,vI a0.Most,vI a0.Wide],vI a1] w λe w'=>e = .returned (vI r)∧Below w.heap.size w w':=by
 refine Qs (args:=[.agg #[vI a0.Order,vI a0.First,vI a0.Least,vI a0.Most,vI a0.Wide],vI a1]) 9 Tryz.func32 rfl λa H=>?_
 unfold Y6 at G
 refine qg qd H (.cons [2,9] (qn (λb=>vP b 0) (λu1=>[vI a0.Order,vI a0.First,vI a0.Least,vI a0.Most,vI a0.Wide]) 27 2 9)<|.v 4 (vI 0)<|.nil) [1,2,9] λu1 a w' H=>?_
 refine qg qd H (.v 5 (vP (nn u1 0) 1)<|.cons [6] (qf (vI a0.First) 6 9 1 1 (nn u1 0) [vI a0.Order,vI a0.First,vI a0.Least,vI a0.Most,vI a0.Wide] 27)<|.v 7 (vI a1)<|.v 8 (vI (mn a0.First a1))<|.v 4 (vI (mn a0.First a1))<|.nil) [4] λu2 a w' H=>?_
 refine qB ?_
 obtain rfl:=sj G
 exact Qr H _
theorem YZ.calls (a0:qJ)(a1:Int)(r:Int×Int)(w:World)(G:YZ a0 a1=some r) :
  Calls Tryz.prog 77 #[.agg #[vI a0.Order,vI a0.First,vI a0.Least,vI a0.Most,vI a0.Wide],vI a1] w λe w'=>e = .returned (.tuple #[vI r.1,vI r.2])∧Below w.heap.size w w':=by
 refine Qs (args:=[.agg #[vI a0.Order,vI a0.First,vI a0.Least,vI a0.Most,vI a0.Wide],vI a1]) 13 Tryz.func77 rfl λa H=>?_
 unfold YZ at G
 refine qg qd H (.cons [2,13] (qn (λb=>vP b 0) (λu1=>[vI a0.Order,vI a0.First,vI a0.Least,vI a0.Most,vI a0.Wide]) 27 2 13)<|.v 4 (vI 0)<|.v 5 (vI 0)<|.nil) [1,2,13] λu1 a w' H=>?_
 refine qs ?_
 refine qg qd H (.v 6 (vI a1)<|.v 7 (vI (qc (Int.tdiv a1 2)))<|.v 8 (vP (nn u1 0) 2)<|.cons [9] (qf (vI a0.Least) 9 13 2 1 (nn u1 0) [vI a0.Order,vI a0.First,vI a0.Least,vI a0.Most,vI a0.Wide] 27)<|.v 10 (.bool (decide ((qc (Int.tdiv a1 2))<a0.Least)))<|.nil) [1,10] λu2 a w' H=>?_
 refine Qu H (decide ((qc (Int.tdiv a1 2))<a0.Least)) (λc5=>?_) λc5=>?_
 ·rw [if_pos c5] at G
  refine qg qd H (.v 4 (vI 0)<|.v 5 (vI 130)<|.nil) [4,5] λu3 a w' H=>?_
  refine qB ?_
  obtain rfl:=sj G
  exact Qr H _
 ·rw [if_neg (nt c5)] at G
  refine q8 ?_
  refine qg qd H (.v 11 (vI a1)<|.v 12 (vI (qc (Int.tdiv a1 2)))<|.v 4 (vI (qc (Int.tdiv a1 2)))<|.v 5 (vI 0)<|.nil) [4,5] λu4 a w' H=>?_
  refine qB ?_
  obtain rfl:=sj G
  exact Qr H _
theorem QG.calls (r:qb)(w:World)(G:QG=some r) :
  Calls Tryz.prog 48 #[] w λe w'=>e = .returned (.agg #[vI r.Lo,vI r.Hi])∧Below w.heap.size w w':=by
 refine Qs (args:=[]) 2 Tryz.func48 rfl λa H=>?_
 unfold QG at G
 refine qg qd H (.cons [0,2] (qn (λb=>vP b 0) (λu1=>[vI 0,vI 0]) 46 0 2)<|.nil) [0,2] λu1 a w' H=>?_
 refine qg qd H (.v 1 (.agg #[vI (-2147483648),vI 2147483648])<|.cons [2] (qQ 2 0 (nn u1 0) [vI 0,vI 0] [vI (-2147483648),vI 2147483648] 46 [vI (-2147483648),vI 2147483648])<|.nil) [0,2] λu2 a w' H=>?_
 refine qB ?_
 obtain rfl:=sj G
 exact qY H _ 2 (nn u1 0) [vI (-2147483648),vI 2147483648] 46 0 2
theorem qD.calls (a0:Int)(a1:Int)(r:qb)(w:World)(G:qD a0 a1=some r) :
  Calls Tryz.prog 68 #[vI a0,vI a1] w λe w'=>e = .returned (.agg #[vI r.Lo,vI r.Hi])∧Below w.heap.size w w':=by
 refine Qs (args:=[vI a0,vI a1]) 23 Tryz.func68 rfl λa H=>?_
 unfold qD at G
 refine qg qd H (.cons [4,23] (qn (λb=>vP b 0) (λu1=>[vI 0,vI 0]) 46 4 23)<|.nil) [0,1,4,23] λu1 a w' H=>?_
 refine qs ?_
 obtain ⟨z3,hz3,G⟩:=qO G
 replace hz3:=Option.some.inj hz3
 refine qg qd H (.v 5 (vI a0)<|.v 6 (.bool (decide (a0<=(-2147483648))))<|.v 7 (.bool (decide (a0<=(-2147483648))))<|.cons [8] (qE (λu2=>vI a1) (λu2=>((decide (a0<=(-2147483648)))==false)) [true] 8)<|.cons [9] (qE (λu2=>.bool (decide (a1>=2147483648))) (λu2=>((decide (a0<=(-2147483648)))==false)) [false,true] 9)<|.cons [10] (Zx 7 9 (λu2=>true) (λu2=>true) (λu2=>decide (a0<=(-2147483648))) (λu2=>decide (a1>=2147483648)) 10)<|.v 11 (.bool ((decide (a0<=(-2147483648)))||(decide (a1>=2147483648))))<|.cons [12] (qE (λu2=>vI a0) (λu2=>(((decide (a0<=(-2147483648)))||(decide (a1>=2147483648)))==false)) [true] 12)<|.cons [13] (qE (λu2=>.bool (decide (a0>=2147483648))) (λu2=>(((decide (a0<=(-2147483648)))||(decide (a1>=2147483648)))==false)) [false,true] 13)<|.cons [14] (Zx 11 13 (λu2=>true) (λu2=>true) (λu2=>((decide (a0<=(-2147483648)))||(decide (a1>=2147483648)))) (λu2=>decide (a0>=2147483648)) 14)<|.cons [15] (QF (u':=λu2=>[(15,sB z3)]) (qr (λu2=>.bool (((decide (a0<=(-2147483648)))||(decide (a1>=2147483648)))||(decide (a0>=2147483648)))) 15) (λ_=>by rw [<- hz3]))<|.cons [16] (qE (λu2=>vI a1) (λu2=>(z3==false)) [true] 16)<|.cons [17] (qE (λu2=>.bool (decide (a1<=(-2147483648)))) (λu2=>(z3==false)) [false,true] 17)<|.cons [18] (Zx 15 17 (λu2=>true) (λu2=>true) (λu2=>z3) (λu2=>decide (a1<=(-2147483648))) 18)<|.nil) [0,1,4,18,23] λu2 a w' H=>?_
 refine Qu H (z3||(decide (a1<=(-2147483648)))) (λc7=>?_) λc7=>?_
 ·rw [if_pos c7] at G
  obtain ⟨t5,ht5,G⟩:=qO G
  refine qg qd H (.cons [19] (qm 48 _ _ 19 [] (λu4 w _=>QG.calls t5 w ht5))<|.cons [23] (qQ 23 0 (nn u1 0) [vI 0,vI 0] [vI t5.Lo,vI t5.Hi] 46 [vI t5.Lo,vI t5.Hi])<|.nil) [4,23] λu4 a w' H=>?_
  refine qB ?_
  obtain rfl:=sj G
  exact qY H _ 23 (nn u1 0) [vI t5.Lo,vI t5.Hi] 46 0 2
 ·rw [if_neg (nt c7)] at G
  refine q8 ?_
  refine qg qd H (.v 20 (vI a0)<|.v 21 (vI a1)<|.v 22 (.agg #[vI a0,vI a1])<|.cons [23] (qQ 23 0 (nn u1 0) [vI 0,vI 0] [vI a0,vI a1] 46 [vI a0,vI a1])<|.nil) [4,23] λu6 a w' H=>?_
  refine qB ?_
  obtain rfl:=sj G
  exact qY H _ 23 (nn u1 0) [vI a0,vI a1] 46 0 2
theorem qN.calls (a0:qb)(r:Bool)(w:World)(G:qN a0=some r) :
  Calls Tryz.prog 21 #[.agg #[vI a0.Lo,vI a0.Hi]] w λe w'=>e = .returned (.bool r)∧Below w.heap.size w w':=by
 refine Qs (args:=[.agg #[vI a0.Lo,vI a0.Hi]]) 6 Tryz.func21 rfl λa H=>?_
 unfold qN at G
 refine qg qd H (.cons [1,6] (qn (λb=>vP b 0) (λu1=>[vI a0.Lo,vI a0.Hi]) 46 1 6)<|.v 2 (.bool false)<|.nil) [1,6] λu1 a w' H=>?_
 obtain ⟨t3,ht3,G⟩:=qO G
 refine qg qd H (.cons [3] (qf (.agg #[vI a0.Lo,vI a0.Hi]) 3 6 0 2 (nn u1 0) [vI a0.Lo,vI a0.Hi] 46)<|.cons [4] (qm 48 _ _ 4 [] (λu2 w _=>QG.calls t3 w ht3))<|.cons [5] (qr (λu2=>.bool ((a0.Lo==t3.Lo)&&((a0.Hi==t3.Hi)&&true))) 5 (hv:=λ_ _=>Zt (by kernel_rfl) (VP (t:=46) (x:=(.tmp 3)) (y:=(.tmp 4)) (xs:=#[vI a0.Lo,vI a0.Hi]) (ys:=#[vI t3.Lo,vI t3.Hi]) (b:=((a0.Lo==t3.Lo)&&((a0.Hi==t3.Hi)&&true))) (by kernel_rfl) (by kernel_rfl))))<|.v 2 (.bool ((a0.Lo==t3.Lo)&&((a0.Hi==t3.Hi)&&true)))<|.nil) [2] λu2 a w' H=>?_
 refine qB ?_
 obtain rfl:=sj G
 exact Qr H _
theorem QM.calls (a0:qb)(a1:qb)(r:qb)(w:World)(G:QM a0 a1=some r) :
  Calls Tryz.prog 90 #[.agg #[vI a0.Lo,vI a0.Hi],.agg #[vI a1.Lo,vI a1.Hi]] w λe w'=>e = .returned (.agg #[vI r.Lo,vI r.Hi])∧Below w.heap.size w w':=by
 refine Qs (args:=[.agg #[vI a0.Lo,vI a0.Hi],.agg #[vI a1.Lo,vI a1.Hi]]) 23 Tryz.func90 rfl λa H=>?_
 unfold QM at G
 refine qg qd H (.cons [2,23] (qn (λb=>vP b 0) (λu1=>[vI a0.Lo,vI a0.Hi]) 46 2 23)<|.cons [3,24] (qn (λb=>vP b 0) (λu1=>[vI a1.Lo,vI a1.Hi]) 46 3 24)<|.cons [4,25] (qn (λb=>vP b 0) (λu1=>[vI 0,vI 0]) 46 4 25)<|.nil) [2,3,4,23,24,25] λu1 a w' H=>?_
 refine qs ?_
 obtain ⟨t3,ht3,G⟩:=qO G
 obtain ⟨t4,ht4,G⟩:=qO G
 refine qg qd H (.cons [5] (qf (.agg #[vI a0.Lo,vI a0.Hi]) 5 23 0 2 (nn u1 0) [vI a0.Lo,vI a0.Hi] 46)<|.cons [6] (qm 21 _ _ 6 [] (λu2 w _=>qN.calls a0 t3 w ht3))<|.v 7 (.bool t3)<|.cons [8] (YL (λu2=>.agg #[vI a1.Lo,vI a1.Hi]) (λu2=>(t3==false)) [true] 8 24 0 2 (λu2=>(nn u1 1)) (λu2=>[vI a1.Lo,vI a1.Hi]) 46)<|.cons [9] (ZU 21 (λu2=>#[.agg #[vI a1.Lo,vI a1.Hi]]) (.bool t4) (λu2=>(t3==false)) [true,false] 9 [] (λu2 w hg _=>qN.calls a1 t4 w (ifp ht4 hg)))<|.cons [10] (Zx 7 9 (λu2=>true) (λu2=>true) (λu2=>t3) (λu2=>t4) 10)<|.nil) [2,3,4,10,23,24,25] λu2 a w' H=>?_
 refine Qu H (t3||t4) (λc9=>?_) λc9=>?_
 ·rw [if_pos c9] at G
  obtain ⟨t6,ht6,G⟩:=qO G
  refine qg qd H (.cons [11] (qm 48 _ _ 11 [] (λu5 w _=>QG.calls t6 w ht6))<|.cons [25] (qQ 25 0 (nn u1 2) [vI 0,vI 0] [vI t6.Lo,vI t6.Hi] 46 [vI t6.Lo,vI t6.Hi])<|.nil) [4,25] λu5 a w' H=>?_
  refine qB ?_
  obtain rfl:=sj G
  exact qY H _ 25 (nn u1 2) [vI t6.Lo,vI t6.Hi] 46 0 2
 ·rw [if_neg (nt c9)] at G
  refine q8 ?_
  obtain ⟨t8,ht8,G⟩:=qO G
  refine qg qd H (.v 12 (vP (nn u1 0) 0)<|.cons [13] (qf (vI a0.Lo) 13 23 0 1 (nn u1 0) [vI a0.Lo,vI a0.Hi] 46)<|.v 14 (vP (nn u1 1) 0)<|.cons [15] (qf (vI a1.Lo) 15 24 0 1 (nn u1 1) [vI a1.Lo,vI a1.Hi] 46)<|.v 16 (vI (qc (a0.Lo+a1.Lo)))<|.v 17 (vP (nn u1 0) 1)<|.cons [18] (qf (vI a0.Hi) 18 23 1 1 (nn u1 0) [vI a0.Lo,vI a0.Hi] 46)<|.v 19 (vP (nn u1 1) 1)<|.cons [20] (qf (vI a1.Hi) 20 24 1 1 (nn u1 1) [vI a1.Lo,vI a1.Hi] 46)<|.v 21 (vI (qc (a0.Hi+a1.Hi)))<|.cons [22] (qm 68 _ _ 22 [] (λu7 w _=>qD.calls (qc (a0.Lo+a1.Lo)) (qc (a0.Hi+a1.Hi)) t8 w ht8))<|.cons [25] (qQ 25 0 (nn u1 2) [vI 0,vI 0] [vI t8.Lo,vI t8.Hi] 46 [vI t8.Lo,vI t8.Hi])<|.nil) [4,25] λu7 a w' H=>?_
  refine qB ?_
  obtain rfl:=sj G
  exact qY H _ 25 (nn u1 2) [vI t8.Lo,vI t8.Hi] 46 0 2
theorem Zh.calls (a0:Int)(r:Int)(w:World)(G:Zh a0=some r) :
  Calls Tryz.prog 94 #[vI a0] w λe w'=>e = .returned (vI r)∧Below w.heap.size w w':=by
 refine Qs (args:=[vI a0]) 5 Tryz.func94 rfl λa H=>?_
 unfold Zh at G
 refine qg qd H (.v 2 (vI 0)<|.nil) [0] λu1 a w' H=>?_
 refine qg qd H (.v 3 (vI a0)<|.v 4 (vI (mn a0 1))<|.v 2 (vI (mn a0 1))<|.nil) [2] λu2 a w' H=>?_
 refine qB ?_
 obtain rfl:=sj G
 exact Qr H _
theorem Xq.calls (a0:Int)(a1:Int)(r:Int×Int)(w:World)(G:Xq a0 a1=some r) :
  Calls Tryz.prog 93 #[vI a0,vI a1,.func (.func 94) #[] #[]] w λe w'=>e = .returned (.tuple #[vI r.1,vI r.2])∧Below w.heap.size w w':=by
 refine Qs (args:=[vI a0,vI a1,.func (.func 94) #[] #[]]) 29 Tryz.func93 rfl λa H=>?_
 unfold Xq at G
 refine qg qd H (.v 6 (vI 0)<|.v 7 (vI 0)<|.nil) [0,1,2] λu1 a w' H=>?_
 refine qs ?_
 replace G:=gd G; obtain ⟨n3,G⟩:=G
 replace G:=gd G; obtain ⟨n4,G⟩:=G
 refine Qq qd H (.v 10 (vI a0)<|.v 11 (vI a1)<|.cons [12] (qr (λu2=>vI (qc (Int.tdiv a0 a1))) 12 (hv:=λ_ _=>Zt (by kernel_rfl) (qdV (k:=.i64) (x:=a0) (y:=a1) n3)))<|.v 13 (vI a0)<|.v 14 (vI a1)<|.cons [15] (qr (λu2=>vI (Int.tmod a0 a1)) 15 (hv:=λ_ _=>Zt (by kernel_rfl) (qax (k:=.i64) (x:=a0) (y:=a1) n4)))<|.v 8 (vI (qc (Int.tdiv a0 a1)))<|.v 9 (vI (Int.tmod a0 a1))<|.nil) [1,2,8,9] λu2 a w' H=>?_
 refine qs ?_
 obtain ⟨j7,hj7,G⟩:=qO G
 refine Xu (λa w'=>RL w 29 [(2,.slot true (.func (.func 94) #[] #[])),(8,sI j7.1),(9,sI j7.2)] a w') ?_ ?_
 ·clear H; intro a w' H
  obtain ⟨t9,ht9,G⟩:=qO G
  refine qg qd H (.v 23 (vI j7.1)<|.v 24 (vI j7.1)<|.v 25 (.func (.func 94) #[] #[])<|.v 26 (vI j7.2)<|.cons [27] (qm 94 _ _ 27 [] (λu8 w _=>Zh.calls j7.2 t9 w ht9))<|.v 28 (vI (qc (j7.1+t9)))<|.v 6 (vI j7.1)<|.v 7 (vI (qc (j7.1+t9)))<|.nil) [6,7] λu8 a w' H=>?_
  refine qB ?_
  obtain rfl:=sj G
  exact Qr H _
 ·clear G; replace G:=hj7; clear hj7
  refine qg qd H (.v 16 (vI (Int.tmod a0 a1))<|.v 17 (.bool (decide ((Int.tmod a0 a1)<0)))<|.nil) [1,2,8,9,17] λu10 a w' H=>?_
  refine Qu H (decide ((Int.tmod a0 a1)<0)) (λc12=>?_) λc12=>?_
  ·rw [if_pos c12] at G
   refine Qq qd H (.v 18 (vI (qc (Int.tdiv a0 a1)))<|.v 19 (vI (qc ((qc (Int.tdiv a0 a1))-1)))<|.v 20 (vI (Int.tmod a0 a1))<|.v 21 (vI a1)<|.v 22 (vI (qc ((Int.tmod a0 a1)+a1)))<|.v 8 (vI (qc ((qc (Int.tdiv a0 a1))-1)))<|.v 9 (vI (qc ((Int.tmod a0 a1)+a1)))<|.nil) [2,8,9] λu11 a w' H=>?_
   obtain rfl:=sj G
   exact H.toM _
  ·rw [if_neg (nt c12)] at G
   refine q8 ?_
   obtain rfl:=sj G
   exact H.toM _
theorem XX.calls (a0:Int)(a1:Int)(r:Int×Int)(w:World)(G:XX a0 a1=some r) :
  Calls Tryz.prog 75 #[vI a0,vI a1] w λe w'=>e = .returned (.tuple #[vI r.1,vI r.2])∧Below w.heap.size w w':=by
 refine Qs (args:=[vI a0,vI a1]) 17 Tryz.func75 rfl λa H=>?_
 unfold XX at G
 refine qg qd H (.v 4 (vI 0)<|.v 5 (vI 0)<|.nil) [0,1] λu1 a w' H=>?_
 refine qs ?_
 obtain ⟨j4,hj4,G⟩:=qO G
 refine Xu (λa w'=>RL w 17 [(0,sI j4.1),(1,sI j4.2)] a w') ?_ ?_
 ·clear H; intro a w' H
  obtain ⟨t6,ht6,G⟩:=qO G
  refine qg qd H (.v 12 (vI j4.1)<|.v 13 (vI j4.2)<|.cons [14] (qm 93 _ _ 14 [] (λu5 w _=>Xq.calls j4.1 j4.2 t6 w ht6))<|.v 15 (vI t6.1)<|.v 16 (vI t6.2)<|.v 4 (vI t6.1)<|.v 5 (vI t6.2)<|.nil) [4,5] λu5 a w' H=>?_
  refine qB ?_
  obtain rfl:=sj G
  exact Qr H _
 ·clear G; replace G:=hj4; clear hj4
  refine qg qd H (.v 6 (vI a1)<|.v 7 (.bool (decide (a1<0)))<|.nil) [0,1,7] λu7 a w' H=>?_
  refine Qu H (decide (a1<0)) (λc9=>?_) λc9=>?_
  ·rw [if_pos c9] at G
   refine Qq qd H (.v 8 (vI a0)<|.v 9 (vI (qc (0-a0)))<|.v 10 (vI a1)<|.v 11 (vI (qc (0-a1)))<|.v 0 (vI (qc (0-a0)))<|.v 1 (vI (qc (0-a1)))<|.nil) [0,1] λu8 a w' H=>?_
   obtain rfl:=sj G
   exact H.toM _
  ·rw [if_neg (nt c9)] at G
   refine q8 ?_
   obtain rfl:=sj G
   exact H.toM _
theorem Qb.calls (a0:Int)(a1:Int)(r:Int×Int)(w:World)(G:Qb a0 a1=some r) :
  Calls Tryz.prog 54 #[vI a0,vI a1] w λe w'=>e = .returned (.tuple #[vI r.1,vI r.2])∧Below w.heap.size w w':=by
 refine Qs (args:=[vI a0,vI a1]) 12 Tryz.func54 rfl λa H=>?_
 unfold Qb at G
 refine qg qd H (.v 4 (vI 0)<|.v 5 (vI 0)<|.nil) [0,1] λu1 a w' H=>?_
 obtain ⟨t3,ht3,G⟩:=qO G
 refine qg qd H (.v 6 (vI a0)<|.v 7 (vI a1)<|.v 8 (vI (qc (a0*a1)))<|.cons [9] (qm 75 _ _ 9 [] (λu2 w _=>XX.calls (qc (a0*a1)) 65536 t3 w ht3))<|.v 10 (vI t3.1)<|.v 11 (vI t3.2)<|.v 4 (vI t3.1)<|.v 5 (vI t3.2)<|.nil) [4,5] λu2 a w' H=>?_
 refine qB ?_
 obtain rfl:=sj G
 exact Qr H _
theorem Zo.calls (a0:qb)(r:Int)(w:World)(G:Zo a0=some r) :
  Calls Tryz.prog 109 #[.agg #[vI a0.Lo,vI a0.Hi]] w λe w'=>e = .returned (vI r)∧Below w.heap.size w w':=by
 refine Qs (args:=[.agg #[vI a0.Lo,vI a0.Hi]]) 9 Tryz.func109 rfl λa H=>?_
 unfold Zo at G
 refine qg qd H (.cons [1,9] (qn (λb=>vP b 0) (λu1=>[vI a0.Lo,vI a0.Hi]) 46 1 9)<|.v 2 (vI 0)<|.nil) [1,9] λu1 a w' H=>?_
 refine qg qd H (.v 3 (vP (nn u1 0) 1)<|.cons [4] (qf (vI a0.Hi) 4 9 1 1 (nn u1 0) [vI a0.Lo,vI a0.Hi] 46)<|.v 5 (vP (nn u1 0) 0)<|.cons [6] (qf (vI a0.Lo) 6 9 0 1 (nn u1 0) [vI a0.Lo,vI a0.Hi] 46)<|.v 7 (vI (qc (0-a0.Lo)))<|.v 8 (vI (mx a0.Hi (qc (0-a0.Lo))))<|.v 2 (vI (mx a0.Hi (qc (0-a0.Lo))))<|.nil) [2] λu2 a w' H=>?_
 refine qB ?_
 obtain rfl:=sj G
 exact Qr H _
theorem Xz.calls (a0:qb)(r:qb)(w:World)(G:Xz a0=some r) :
  Calls Tryz.prog 91 #[.agg #[vI a0.Lo,vI a0.Hi]] w λe w'=>e = .returned (.agg #[vI r.Lo,vI r.Hi])∧Below w.heap.size w w':=by
 refine Qs (args:=[.agg #[vI a0.Lo,vI a0.Hi]]) 35 Tryz.func91 rfl λa H=>?_
 unfold Xz at G
 refine qg qd H (.cons [1,35] (qn (λb=>vP b 0) (λu1=>[vI a0.Lo,vI a0.Hi]) 46 1 35)<|.cons [2,36] (qn (λb=>vP b 0) (λu1=>[vI 0,vI 0]) 46 2 36)<|.nil) [1,2,35,36] λu1 a w' H=>?_
 refine qs ?_
 obtain ⟨t3,ht3,G⟩:=qO G
 refine qg qd H (.cons [9] (qf (.agg #[vI a0.Lo,vI a0.Hi]) 9 35 0 2 (nn u1 0) [vI a0.Lo,vI a0.Hi] 46)<|.cons [10] (qm 21 _ _ 10 [] (λu2 w _=>qN.calls a0 t3 w ht3))<|.nil) [1,2,10,35,36] λu2 a w' H=>?_
 refine Qu H t3 (λc13=>?_) λc13=>?_
 ·rw [if_pos c13] at G
  refine qg qd H (.cons [11] (qf (.agg #[vI a0.Lo,vI a0.Hi]) 11 35 0 2 (nn u1 0) [vI a0.Lo,vI a0.Hi] 46)<|.cons [36] (qQ 36 0 (nn u1 1) [vI 0,vI 0] [vI a0.Lo,vI a0.Hi] 46 [vI a0.Lo,vI a0.Hi])<|.nil) [2,36] λu4 a w' H=>?_
  refine qB ?_
  obtain rfl:=sj G
  exact qY H _ 36 (nn u1 1) [vI a0.Lo,vI a0.Hi] 46 0 2
 ·rw [if_neg (nt c13)] at G
  refine q8 ?_
  obtain ⟨t6,ht6,G⟩:=qO G
  refine qg qd H (.v 12 (vP (nn u1 0) 0)<|.cons [13] (qf (vI a0.Lo) 13 35 0 1 (nn u1 0) [vI a0.Lo,vI a0.Hi] 46)<|.v 14 (vP (nn u1 0) 1)<|.cons [15] (qf (vI a0.Hi) 15 35 1 1 (nn u1 0) [vI a0.Lo,vI a0.Hi] 46)<|.v 16 (vI (qc (0-a0.Hi)))<|.v 17 (vI (mx (mx a0.Lo (qc (0-a0.Hi))) 0))<|.cons [18] (qf (.agg #[vI a0.Lo,vI a0.Hi]) 18 35 0 2 (nn u1 0) [vI a0.Lo,vI a0.Hi] 46)<|.cons [19] (qm 109 _ _ 19 [] (λu5 w _=>Zo.calls a0 t6 w ht6))<|.v 3 (vI (mx (mx a0.Lo (qc (0-a0.Hi))) 0))<|.v 4 (vI t6)<|.nil) [2,3,4,36] λu5 a w' H=>?_
  obtain ⟨t8,ht8,G⟩:=qO G
  refine qg qd H (.v 21 (vI (mx (mx a0.Lo (qc (0-a0.Hi))) 0))<|.v 22 (vI (mx (mx a0.Lo (qc (0-a0.Hi))) 0))<|.cons [23] (qm 54 _ _ 23 [] (λu7 w _=>Qb.calls (mx (mx a0.Lo (qc (0-a0.Hi))) 0) (mx (mx a0.Lo (qc (0-a0.Hi))) 0) t8 w ht8))<|.v 20 (.tuple #[vI t8.1,vI t8.2])<|.v 24 (vI t8.1)<|.v 25 (vI t8.2)<|.v 5 (vI t8.1)<|.v 6 (vI t8.2)<|.nil) [2,4,5,36] λu7 a w' H=>?_
  obtain ⟨t10,ht10,G⟩:=qO G
  refine qg qd H (.v 27 (vI t6)<|.v 28 (vI t6)<|.cons [29] (qm 54 _ _ 29 [] (λu9 w _=>Qb.calls t6 t6 t10 w ht10))<|.v 26 (.tuple #[vI t10.1,vI t10.2])<|.v 30 (vI t10.1)<|.v 31 (vI t10.2)<|.v 7 (vI t10.1)<|.v 8 (vI t10.2)<|.nil) [2,5,8,36] λu9 a w' H=>?_
  obtain ⟨t12,ht12,G⟩:=qO G
  refine qg qd H (.v 32 (vI t8.1)<|.v 33 (vI t10.2)<|.cons [34] (qm 68 _ _ 34 [] (λu11 w _=>qD.calls t8.1 t10.2 t12 w ht12))<|.cons [36] (qQ 36 0 (nn u1 1) [vI 0,vI 0] [vI t12.Lo,vI t12.Hi] 46 [vI t12.Lo,vI t12.Hi])<|.nil) [2,36] λu11 a w' H=>?_
  refine qB ?_
  obtain rfl:=sj G
  exact qY H _ 36 (nn u1 1) [vI t12.Lo,vI t12.Hi] 46 0 2
theorem XN.calls (a0:qb)(r:qb)(w:World)(G:XN a0=some r) :
  Calls Tryz.prog 110 #[.agg #[vI a0.Lo,vI a0.Hi]] w λe w'=>e = .returned (.agg #[vI r.Lo,vI r.Hi])∧Below w.heap.size w w':=by
 refine Qs (args:=[.agg #[vI a0.Lo,vI a0.Hi]]) 10 Tryz.func110 rfl λa H=>?_
 unfold XN at G
 refine qg qd H (.cons [1,10] (qn (λb=>vP b 0) (λu1=>[vI a0.Lo,vI a0.Hi]) 46 1 10)<|.cons [2,11] (qn (λb=>vP b 0) (λu1=>[vI 0,vI 0]) 46 2 11)<|.nil) [1,2,10,11] λu1 a w' H=>?_
 refine qg qd H (.v 3 (vP (nn u1 0) 1)<|.cons [4] (qf (vI a0.Hi) 4 10 1 1 (nn u1 0) [vI a0.Lo,vI a0.Hi] 46)<|.v 5 (vI (qc (0-a0.Hi)))<|.v 6 (vP (nn u1 0) 0)<|.cons [7] (qf (vI a0.Lo) 7 10 0 1 (nn u1 0) [vI a0.Lo,vI a0.Hi] 46)<|.v 8 (vI (qc (0-a0.Lo)))<|.v 9 (.agg #[vI (qc (0-a0.Hi)),vI (qc (0-a0.Lo))])<|.cons [11] (qQ 11 0 (nn u1 1) [vI 0,vI 0] [vI (qc (0-a0.Hi)),vI (qc (0-a0.Lo))] 46 [vI (qc (0-a0.Hi)),vI (qc (0-a0.Lo))])<|.nil) [2,11] λu2 a w' H=>?_
 refine qB ?_
 obtain rfl:=sj G
 exact qY H _ 11 (nn u1 1) [vI (qc (0-a0.Hi)),vI (qc (0-a0.Lo))] 46 0 2
theorem Xh.calls (a0:qb)(a1:qb)(r:qb)(w:World)(G:Xh a0 a1=some r) :
  Calls Tryz.prog 92 #[.agg #[vI a0.Lo,vI a0.Hi],.agg #[vI a1.Lo,vI a1.Hi]] w λe w'=>e = .returned (.agg #[vI r.Lo,vI r.Hi])∧Below w.heap.size w w':=by
 refine Qs (args:=[.agg #[vI a0.Lo,vI a0.Hi],.agg #[vI a1.Lo,vI a1.Hi]]) 9 Tryz.func92 rfl λa H=>?_
 unfold Xh at G
 refine qg qd H (.cons [2,9] (qn (λb=>vP b 0) (λu1=>[vI a0.Lo,vI a0.Hi]) 46 2 9)<|.cons [3,10] (qn (λb=>vP b 0) (λu1=>[vI a1.Lo,vI a1.Hi]) 46 3 10)<|.cons [4,11] (qn (λb=>vP b 0) (λu1=>[vI 0,vI 0]) 46 4 11)<|.nil) [2,3,4,9,10,11] λu1 a w' H=>?_
 obtain ⟨t3,ht3,G⟩:=qO G
 obtain ⟨t4,ht4,G⟩:=qO G
 refine qg qd H (.cons [5] (qf (.agg #[vI a0.Lo,vI a0.Hi]) 5 9 0 2 (nn u1 0) [vI a0.Lo,vI a0.Hi] 46)<|.cons [6] (qf (.agg #[vI a1.Lo,vI a1.Hi]) 6 10 0 2 (nn u1 1) [vI a1.Lo,vI a1.Hi] 46)<|.cons [7] (qm 110 _ _ 7 [] (λu2 w _=>XN.calls a1 t3 w ht3))<|.cons [8] (qm 90 _ _ 8 [] (λu2 w _=>QM.calls a0 t3 t4 w ht4))<|.cons [11] (qQ 11 0 (nn u1 2) [vI 0,vI 0] [vI t4.Lo,vI t4.Hi] 46 [vI t4.Lo,vI t4.Hi])<|.nil) [4,11] λu2 a w' H=>?_
 refine qB ?_
 obtain rfl:=sj G
 exact qY H _ 11 (nn u1 2) [vI t4.Lo,vI t4.Hi] 46 0 2
theorem Xo.calls (a0:qb)(r:Int)(w:World)(G:Xo a0=some r) :
  Calls Tryz.prog 136 #[.agg #[vI a0.Lo,vI a0.Hi]] w λe w'=>e = .returned (vI r)∧Below w.heap.size w w':=by
 refine Qs (args:=[.agg #[vI a0.Lo,vI a0.Hi]]) 11 Tryz.func136 rfl λa H=>?_
 unfold Xo at G
 refine qg qd H (.cons [1,11] (qn (λb=>vP b 0) (λu1=>[vI a0.Lo,vI a0.Hi]) 46 1 11)<|.v 2 (vI 0)<|.nil) [1,11] λu1 a w' H=>?_
 refine qs ?_
 refine qV ?_
 refine qg qd H (.v 4 (vP (nn u1 0) 1)<|.cons [5] (qf (vI a0.Hi) 5 11 1 1 (nn u1 0) [vI a0.Lo,vI a0.Hi] 46)<|.v 6 (.bool (decide (a0.Hi<=0)))<|.v 3 (.bool (decide (a0.Hi<=0)))<|.nil) [1,3,11] λu2 a w' H=>?_
 refine Qu H (decide (a0.Hi<=0)) (λc8=>?_) λc8=>?_
 ·rw [if_pos c8] at G
  refine qg qd H (.v 2 (vI 0)<|.nil) [2] λu3 a w' H=>?_
  refine qB ?_
  obtain rfl:=sj G
  exact Qr H _
 ·rw [if_neg (nt c8)] at G
  refine qg qd H (.v 8 (vP (nn u1 0) 0)<|.cons [9] (qf (vI a0.Lo) 9 11 0 1 (nn u1 0) [vI a0.Lo,vI a0.Hi] 46)<|.v 10 (.bool (decide (a0.Lo>=0)))<|.v 7 (.bool (decide (a0.Lo>=0)))<|.nil) [7] λu4 a w' H=>?_
  refine Qu H (decide (a0.Lo>=0)) (λc7=>?_) λc7=>?_
  ·rw [if_pos c7] at G
   refine qg qd H (.v 2 (vI 2)<|.nil) [2] λu5 a w' H=>?_
   refine qB ?_
   obtain rfl:=sj G
   exact Qr H _
  ·rw [if_neg (nt c7)] at G
   refine q8 ?_
   refine qg qd H (.v 2 (vI 1)<|.nil) [2] λu6 a w' H=>?_
   refine qB ?_
   obtain rfl:=sj G
   exact Qr H _
theorem Xi.calls (a0:qb)(a1:qb)(r:Int×Int)(w:World)(G:Xi a0 a1=some r) :
  Calls Tryz.prog 178 #[.agg #[vI a0.Lo,vI a0.Hi],.agg #[vI a1.Lo,vI a1.Hi]] w λe w'=>e = .returned (.tuple #[vI r.1,vI r.2])∧Below w.heap.size w w':=by
 refine Qs (args:=[.agg #[vI a0.Lo,vI a0.Hi],.agg #[vI a1.Lo,vI a1.Hi]]) 10 Tryz.func178 rfl λa H=>?_
 unfold Xi at G
 refine qg qd H (.cons [2,10] (qn (λb=>vP b 0) (λu1=>[vI a0.Lo,vI a0.Hi]) 46 2 10)<|.cons [3,11] (qn (λb=>vP b 0) (λu1=>[vI a1.Lo,vI a1.Hi]) 46 3 11)<|.v 4 (vI 0)<|.v 5 (vI 0)<|.nil) [2,3,10,11] λu1 a w' H=>?_
 refine qg qd H (.v 6 (vP (nn u1 0) 1)<|.cons [7] (qf (vI a0.Hi) 7 10 1 1 (nn u1 0) [vI a0.Lo,vI a0.Hi] 46)<|.v 8 (vP (nn u1 1) 1)<|.cons [9] (qf (vI a1.Hi) 9 11 1 1 (nn u1 1) [vI a1.Lo,vI a1.Hi] 46)<|.v 4 (vI a0.Hi)<|.v 5 (vI a1.Hi)<|.nil) [4,5] λu2 a w' H=>?_
 refine qB ?_
 obtain rfl:=sj G
 exact Qr H _
theorem Xj.calls (a0:qb)(a1:qb)(r:Int×Int)(w:World)(G:Xj a0 a1=some r) :
  Calls Tryz.prog 179 #[.agg #[vI a0.Lo,vI a0.Hi],.agg #[vI a1.Lo,vI a1.Hi]] w λe w'=>e = .returned (.tuple #[vI r.1,vI r.2])∧Below w.heap.size w w':=by
 refine Qs (args:=[.agg #[vI a0.Lo,vI a0.Hi],.agg #[vI a1.Lo,vI a1.Hi]]) 10 Tryz.func179 rfl λa H=>?_
 unfold Xj at G
 refine qg qd H (.cons [2,10] (qn (λb=>vP b 0) (λu1=>[vI a0.Lo,vI a0.Hi]) 46 2 10)<|.cons [3,11] (qn (λb=>vP b 0) (λu1=>[vI a1.Lo,vI a1.Hi]) 46 3 11)<|.v 4 (vI 0)<|.v 5 (vI 0)<|.nil) [2,3,10,11] λu1 a w' H=>?_
 refine qg qd H (.v 6 (vP (nn u1 0) 0)<|.cons [7] (qf (vI a0.Lo) 7 10 0 1 (nn u1 0) [vI a0.Lo,vI a0.Hi] 46)<|.v 8 (vP (nn u1 1) 0)<|.cons [9] (qf (vI a1.Lo) 9 11 0 1 (nn u1 1) [vI a1.Lo,vI a1.Hi] 46)<|.v 4 (vI a0.Lo)<|.v 5 (vI a1.Lo)<|.nil) [4,5] λu2 a w' H=>?_
 refine qB ?_
 obtain rfl:=sj G
 exact Qr H _
theorem Xk.calls (a0:qb)(a1:qb)(r:Int×Int)(w:World)(G:Xk a0 a1=some r) :
  Calls Tryz.prog 180 #[.agg #[vI a0.Lo,vI a0.Hi],.agg #[vI a1.Lo,vI a1.Hi]] w λe w'=>e = .returned (.tuple #[vI r.1,vI r.2])∧Below w.heap.size w w':=by
 refine Qs (args:=[.agg #[vI a0.Lo,vI a0.Hi],.agg #[vI a1.Lo,vI a1.Hi]]) 10 Tryz.func180 rfl λa H=>?_
 unfold Xk at G
 refine qg qd H (.cons [2,10] (qn (λb=>vP b 0) (λu1=>[vI a0.Lo,vI a0.Hi]) 46 2 10)<|.cons [3,11] (qn (λb=>vP b 0) (λu1=>[vI a1.Lo,vI a1.Hi]) 46 3 11)<|.v 4 (vI 0)<|.v 5 (vI 0)<|.nil) [2,3,10,11] λu1 a w' H=>?_
 refine qg qd H (.v 6 (vP (nn u1 0) 0)<|.cons [7] (qf (vI a0.Lo) 7 10 0 1 (nn u1 0) [vI a0.Lo,vI a0.Hi] 46)<|.v 8 (vP (nn u1 1) 1)<|.cons [9] (qf (vI a1.Hi) 9 11 1 1 (nn u1 1) [vI a1.Lo,vI a1.Hi] 46)<|.v 4 (vI a0.Lo)<|.v 5 (vI a1.Hi)<|.nil) [4,5] λu2 a w' H=>?_
 refine qB ?_
 obtain rfl:=sj G
 exact Qr H _
theorem Xl.calls (a0:qb)(a1:qb)(r:Int×Int)(w:World)(G:Xl a0 a1=some r) :
  Calls Tryz.prog 181 #[.agg #[vI a0.Lo,vI a0.Hi],.agg #[vI a1.Lo,vI a1.Hi]] w λe w'=>e = .returned (.tuple #[vI r.1,vI r.2])∧Below w.heap.size w w':=by
 refine Qs (args:=[.agg #[vI a0.Lo,vI a0.Hi],.agg #[vI a1.Lo,vI a1.Hi]]) 10 Tryz.func181 rfl λa H=>?_
 unfold Xl at G
 refine qg qd H (.cons [2,10] (qn (λb=>vP b 0) (λu1=>[vI a0.Lo,vI a0.Hi]) 46 2 10)<|.cons [3,11] (qn (λb=>vP b 0) (λu1=>[vI a1.Lo,vI a1.Hi]) 46 3 11)<|.v 4 (vI 0)<|.v 5 (vI 0)<|.nil) [2,3,10,11] λu1 a w' H=>?_
 refine qg qd H (.v 6 (vP (nn u1 0) 1)<|.cons [7] (qf (vI a0.Hi) 7 10 1 1 (nn u1 0) [vI a0.Lo,vI a0.Hi] 46)<|.v 8 (vP (nn u1 1) 0)<|.cons [9] (qf (vI a1.Lo) 9 11 0 1 (nn u1 1) [vI a1.Lo,vI a1.Hi] 46)<|.v 4 (vI a0.Hi)<|.v 5 (vI a1.Lo)<|.nil) [4,5] λu2 a w' H=>?_
 refine qB ?_
 obtain rfl:=sj G
 exact Qr H _
theorem Q5.calls (a0:qb)(a1:qb)(r:qb)(w:World)(hg:WM w)(G:Q5 a0 a1=some r) :
  Calls Tryz.prog 127 #[.agg #[vI a0.Lo,vI a0.Hi],.agg #[vI a1.Lo,vI a1.Hi]] w λe w'=>e = .returned (.agg #[vI r.Lo,vI r.Hi])∧Below w.heap.size w w':=by
 refine qaD (args:=[.agg #[vI a0.Lo,vI a0.Hi],.agg #[vI a1.Lo,vI a1.Hi]]) 106 999999 WQ WM (Vp hg) (Yc hg) Tryz.func127 rfl λa H=>?_
 unfold Q5 at G
 refine qg qd H (.cons [2,106] (qn (λb=>vP b 0) (λu1=>[vI a0.Lo,vI a0.Hi]) 46 2 106)<|.cons [3,107] (qn (λb=>vP b 0) (λu1=>[vI a1.Lo,vI a1.Hi]) 46 3 107)<|.cons [4,108] (qn (λb=>vP b 0) (λu1=>[vI 0,vI 0]) 46 4 108)<|.nil) [2,3,4,106,107,108,999999] λu1 a w' H=>?_
 refine qs ?_
 replace G:=qO G; obtain ⟨t3,ht3,G⟩:=G
 replace G:=qO G; obtain ⟨t4,ht4,G⟩:=G
 refine qg qd H (.cons [20] (qf (.agg #[vI a0.Lo,vI a0.Hi]) 20 106 0 2 (nn u1 0) [vI a0.Lo,vI a0.Hi] 46)<|.cons [21] (qm 21 _ _ 21 [] (λu2 w _=>qN.calls a0 t3 w ht3))<|.v 22 (.bool t3)<|.cons [23] (YL (λu2=>.agg #[vI a1.Lo,vI a1.Hi]) (λu2=>(t3==false)) [true] 23 107 0 2 (λu2=>(nn u1 1)) (λu2=>[vI a1.Lo,vI a1.Hi]) 46)<|.cons [24] (ZU 21 (λu2=>#[.agg #[vI a1.Lo,vI a1.Hi]]) (.bool t4) (λu2=>(t3==false)) [true,false] 24 [] (λu2 w hg _=>qN.calls a1 t4 w (ifp ht4 hg)))<|.cons [25] (Zx 22 24 (λu2=>true) (λu2=>true) (λu2=>t3) (λu2=>t4) 25)<|.nil) [2,3,4,25,106,107,108,999999] λu2 a w' H=>?_
 refine Qu H (t3||t4) (λc107=>?_) λc107=>?_
 ·rw [if_pos c107] at G
  replace G:=qO G; obtain ⟨t6,ht6,G⟩:=G
  refine qg qd H (.cons [26] (qm 48 _ _ 26 [] (λu5 w _=>QG.calls t6 w ht6))<|.cons [108] (qQ 108 0 (nn u1 2) [vI 0,vI 0] [vI t6.Lo,vI t6.Hi] 46 [vI t6.Lo,vI t6.Hi])<|.nil) [4,108,999999] λu5 a w' H=>?_
  refine qB ?_
  obtain rfl:=sj G
  exact qY H _ 108 (nn u1 2) [vI t6.Lo,vI t6.Hi] 46 0 2
 ·rw [if_neg (nt c107)] at G
  refine q8 ?_
  replace G:=qO G; obtain ⟨t8,ht8,G⟩:=G
  replace G:=qO G; obtain ⟨t9,ht9,G⟩:=G
  refine qg qd H (.cons [27] (qf (.agg #[vI a0.Lo,vI a0.Hi]) 27 106 0 2 (nn u1 0) [vI a0.Lo,vI a0.Hi] 46)<|.cons [28] (qm 136 _ _ 28 [] (λu7 w _=>Xo.calls a0 t8 w ht8))<|.cons [29] (qf (.agg #[vI a1.Lo,vI a1.Hi]) 29 107 0 2 (nn u1 1) [vI a1.Lo,vI a1.Hi] 46)<|.cons [30] (qm 136 _ _ 30 [] (λu7 w _=>Xo.calls a1 t9 w ht9))<|.v 5 (vI t8)<|.v 6 (vI t9)<|.nil) [2,3,4,5,6,106,107,108,999999] λu7 a w' H=>?_
  refine qs ?_
  refine qg qd H (.v 31 (vI t8)<|.v 32 (.bool (t8==1))<|.v 33 (.bool (t8==1))<|.cons [34] (qE (λu10=>vI t9) (λu10=>((t8==1)==true)) [true] 34)<|.cons [35] (qE (λu10=>.bool (t9==1)) (λu10=>((t8==1)==true)) [false,true] 35)<|.cons [36] (YH 33 35 (λu10=>true) (λu10=>true) (λu10=>(t8==1)) (λu10=>(t9==1)) 36)<|.nil) [2,3,4,5,6,36,106,107,108,999999] λu10 a w' H=>?_
  refine Qu H ((t8==1)&&(t9==1)) (λc106=>?_) λc106=>?_
  ·rw [if_pos c106] at G
   replace G:=qO G; obtain ⟨t12,ht12,G⟩:=G
   refine qg qd H (.v 38 (vP (nn u1 0) 0)<|.cons [39] (qf (vI a0.Lo) 39 106 0 1 (nn u1 0) [vI a0.Lo,vI a0.Hi] 46)<|.v 40 (vP (nn u1 1) 1)<|.cons [41] (qf (vI a1.Hi) 41 107 1 1 (nn u1 1) [vI a1.Lo,vI a1.Hi] 46)<|.cons [42] (qm 54 _ _ 42 [] (λu11 w _=>Qb.calls a0.Lo a1.Hi t12 w ht12))<|.v 37 (.tuple #[vI t12.1,vI t12.2])<|.v 43 (vI t12.1)<|.v 44 (vI t12.2)<|.v 7 (vI t12.1)<|.v 8 (vI t12.2)<|.nil) [2,3,4,7,106,107,108,999999] λu11 a w' H=>?_
   replace G:=qO G; obtain ⟨t14,ht14,G⟩:=G
   refine qg qd H (.v 46 (vP (nn u1 0) 1)<|.cons [47] (qf (vI a0.Hi) 47 106 1 1 (nn u1 0) [vI a0.Lo,vI a0.Hi] 46)<|.v 48 (vP (nn u1 1) 0)<|.cons [49] (qf (vI a1.Lo) 49 107 0 1 (nn u1 1) [vI a1.Lo,vI a1.Hi] 46)<|.cons [50] (qm 54 _ _ 50 [] (λu13 w _=>Qb.calls a0.Hi a1.Lo t14 w ht14))<|.v 45 (.tuple #[vI t14.1,vI t14.2])<|.v 51 (vI t14.1)<|.v 52 (vI t14.2)<|.v 9 (vI t14.1)<|.v 10 (vI t14.2)<|.nil) [2,3,4,7,9,106,107,108,999999] λu13 a w' H=>?_
   replace G:=qO G; obtain ⟨t16,ht16,G⟩:=G
   refine qg qd H (.v 54 (vP (nn u1 0) 0)<|.cons [55] (qf (vI a0.Lo) 55 106 0 1 (nn u1 0) [vI a0.Lo,vI a0.Hi] 46)<|.v 56 (vP (nn u1 1) 0)<|.cons [57] (qf (vI a1.Lo) 57 107 0 1 (nn u1 1) [vI a1.Lo,vI a1.Hi] 46)<|.cons [58] (qm 54 _ _ 58 [] (λu15 w _=>Qb.calls a0.Lo a1.Lo t16 w ht16))<|.v 53 (.tuple #[vI t16.1,vI t16.2])<|.v 59 (vI t16.1)<|.v 60 (vI t16.2)<|.v 11 (vI t16.1)<|.v 12 (vI t16.2)<|.nil) [2,3,4,7,9,12,106,107,108,999999] λu15 a w' H=>?_
   replace G:=qO G; obtain ⟨t18,ht18,G⟩:=G
   refine qg qd H (.v 62 (vP (nn u1 0) 1)<|.cons [63] (qf (vI a0.Hi) 63 106 1 1 (nn u1 0) [vI a0.Lo,vI a0.Hi] 46)<|.v 64 (vP (nn u1 1) 1)<|.cons [65] (qf (vI a1.Hi) 65 107 1 1 (nn u1 1) [vI a1.Lo,vI a1.Hi] 46)<|.cons [66] (qm 54 _ _ 66 [] (λu17 w _=>Qb.calls a0.Hi a1.Hi t18 w ht18))<|.v 61 (.tuple #[vI t18.1,vI t18.2])<|.v 67 (vI t18.1)<|.v 68 (vI t18.2)<|.v 13 (vI t18.1)<|.v 14 (vI t18.2)<|.nil) [4,7,9,12,14,108,999999] λu17 a w' H=>?_
   replace G:=qO G; obtain ⟨t20,ht20,G⟩:=G
   refine qg qd H (.v 69 (vI t12.1)<|.v 70 (vI t14.1)<|.v 71 (vI (mn t12.1 t14.1))<|.v 72 (vI t16.2)<|.v 73 (vI t18.2)<|.v 74 (vI (mx t16.2 t18.2))<|.cons [75] (qm 68 _ _ 75 [] (λu19 w _=>qD.calls (mn t12.1 t14.1) (mx t16.2 t18.2) t20 w ht20))<|.cons [108] (qQ 108 0 (nn u1 2) [vI 0,vI 0] [vI t20.Lo,vI t20.Hi] 46 [vI t20.Lo,vI t20.Hi])<|.nil) [4,108,999999] λu19 a w' H=>?_
   refine qB ?_
   obtain rfl:=sj G
   exact qY H _ 108 (nn u1 2) [vI t20.Lo,vI t20.Hi] 46 0 2
  ·rw [if_neg (nt c106)] at G
   refine q8 ?_
   refine qs ?_
   by_cases c103:t8=0
   ·rw [if_pos c103] at G; subst c103
    by_cases c48:t9=0
    ·rw [if_pos c48] at G; subst c48
     refine Qq qd H (.v 76 (vI 0)<|.v 77 (vI 0)<|.v 78 (vP 0 0)<|.v 79 (vP 0 0)<|.cons [80] (QV (λu21=>.agg #[.func (.func 178) #[] #[],.func (.func 179) #[] #[]]) 80 999999 gk 0 0 2 VK (λw h=>(Qy h).tab0))<|.cons [15,109] (qn (λb=>vP b 0) (λu21=>[.nilFunc,.nilFunc]) 226 15 109)<|.cons [109] (QF (u':=λu21=>[(109,.blk (nn u21 5) [.func (.func 178) #[] #[],.func (.func 179) #[] #[]] 226)]) (qK 109 0 (λu21=>(nn u21 5)) (λu21=>[.nilFunc,.nilFunc]) (λu21=>[.func (.func 178) #[] #[],.func (.func 179) #[] #[]]) 226) (λ_=>by kernel_rfl))<|.nil) [2,3,4,15,106,107,108,109,999999] λu21 a w' H=>?_
     replace G:=qO G; obtain ⟨t23,ht23,G⟩:=G
     replace G:=qO G; obtain ⟨t24,ht24,G⟩:=G
     refine qg qd H (.v 82 (vP (nn u21 5) 0)<|.cons [83] (qf (.func (.func 178) #[] #[]) 83 109 0 1 (nn u21 5) [.func (.func 178) #[] #[],.func (.func 179) #[] #[]] 226)<|.cons [84] (qf (.agg #[vI a0.Lo,vI a0.Hi]) 84 106 0 2 (nn u1 0) [vI a0.Lo,vI a0.Hi] 46)<|.cons [85] (qf (.agg #[vI a1.Lo,vI a1.Hi]) 85 107 0 2 (nn u1 1) [vI a1.Lo,vI a1.Hi] 46)<|.cons [86] (qm 178 _ _ 86 [] (λu22 w _=>Xi.calls a0 a1 t23 w ht23))<|.v 87 (vI t23.1)<|.v 88 (vI t23.2)<|.cons [89] (qm 54 _ _ 89 [] (λu22 w _=>Qb.calls t23.1 t23.2 t24 w ht24))<|.v 81 (.tuple #[vI t24.1,vI t24.2])<|.v 90 (vI t24.1)<|.v 91 (vI t24.2)<|.v 16 (vI t24.1)<|.v 17 (vI t24.2)<|.nil) [2,3,4,15,16,106,107,108,109,999999] λu22 a w' H=>?_
     replace G:=qO G; obtain ⟨t26,ht26,G⟩:=G
     replace G:=qO G; obtain ⟨t27,ht27,G⟩:=G
     refine qg qd H (.v 93 (vP (nn u21 5) 1)<|.cons [94] (qf (.func (.func 179) #[] #[]) 94 109 1 1 (nn u21 5) [.func (.func 178) #[] #[],.func (.func 179) #[] #[]] 226)<|.cons [95] (qf (.agg #[vI a0.Lo,vI a0.Hi]) 95 106 0 2 (nn u1 0) [vI a0.Lo,vI a0.Hi] 46)<|.cons [96] (qf (.agg #[vI a1.Lo,vI a1.Hi]) 96 107 0 2 (nn u1 1) [vI a1.Lo,vI a1.Hi] 46)<|.cons [97] (qm 179 _ _ 97 [] (λu25 w _=>Xj.calls a0 a1 t26 w ht26))<|.v 98 (vI t26.1)<|.v 99 (vI t26.2)<|.cons [100] (qm 54 _ _ 100 [] (λu25 w _=>Qb.calls t26.1 t26.2 t27 w ht27))<|.v 92 (.tuple #[vI t27.1,vI t27.2])<|.v 101 (vI t27.1)<|.v 102 (vI t27.2)<|.v 18 (vI t27.1)<|.v 19 (vI t27.2)<|.nil) [4,16,19,108,999999] λu25 a w' H=>?_
     replace G:=qO G; obtain ⟨t29,ht29,G⟩:=G
     refine qg qd H (.v 103 (vI t24.1)<|.v 104 (vI t27.2)<|.cons [105] (qm 68 _ _ 105 [] (λu28 w _=>qD.calls t24.1 t27.2 t29 w ht29))<|.cons [108] (qQ 108 0 (nn u1 2) [vI 0,vI 0] [vI t29.Lo,vI t29.Hi] 46 [vI t29.Lo,vI t29.Hi])<|.nil) [4,108,999999] λu28 a w' H=>?_
     refine qB ?_
     obtain rfl:=sj G
     exact qY H _ 108 (nn u1 2) [vI t29.Lo,vI t29.Hi] 46 0 2
    rw [if_neg c48] at G
    by_cases c49:t9=1
    ·rw [if_pos c49] at G; subst c49
     refine Qq qd H (.v 76 (vI 0)<|.v 77 (vI 1)<|.v 78 (vP 0 0)<|.v 79 (vP 0 2)<|.cons [80] (QV (λu30=>.agg #[.func (.func 180) #[] #[],.func (.func 179) #[] #[]]) 80 999999 gk 0 2 2 VK (λw h=>(Qy h).tab0))<|.cons [15,110] (qn (λb=>vP b 0) (λu30=>[.nilFunc,.nilFunc]) 226 15 110)<|.cons [110] (QF (u':=λu30=>[(110,.blk (nn u30 5) [.func (.func 180) #[] #[],.func (.func 179) #[] #[]] 226)]) (qK 110 0 (λu30=>(nn u30 5)) (λu30=>[.nilFunc,.nilFunc]) (λu30=>[.func (.func 180) #[] #[],.func (.func 179) #[] #[]]) 226) (λ_=>by kernel_rfl))<|.nil) [2,3,4,15,106,107,108,110,999999] λu30 a w' H=>?_
     replace G:=qO G; obtain ⟨t32,ht32,G⟩:=G
     replace G:=qO G; obtain ⟨t33,ht33,G⟩:=G
     refine qg qd H (.v 82 (vP (nn u30 5) 0)<|.cons [83] (qf (.func (.func 180) #[] #[]) 83 110 0 1 (nn u30 5) [.func (.func 180) #[] #[],.func (.func 179) #[] #[]] 226)<|.cons [84] (qf (.agg #[vI a0.Lo,vI a0.Hi]) 84 106 0 2 (nn u1 0) [vI a0.Lo,vI a0.Hi] 46)<|.cons [85] (qf (.agg #[vI a1.Lo,vI a1.Hi]) 85 107 0 2 (nn u1 1) [vI a1.Lo,vI a1.Hi] 46)<|.cons [86] (qm 180 _ _ 86 [] (λu31 w _=>Xk.calls a0 a1 t32 w ht32))<|.v 87 (vI t32.1)<|.v 88 (vI t32.2)<|.cons [89] (qm 54 _ _ 89 [] (λu31 w _=>Qb.calls t32.1 t32.2 t33 w ht33))<|.v 81 (.tuple #[vI t33.1,vI t33.2])<|.v 90 (vI t33.1)<|.v 91 (vI t33.2)<|.v 16 (vI t33.1)<|.v 17 (vI t33.2)<|.nil) [2,3,4,15,16,106,107,108,110,999999] λu31 a w' H=>?_
     replace G:=qO G; obtain ⟨t35,ht35,G⟩:=G
     replace G:=qO G; obtain ⟨t36,ht36,G⟩:=G
     refine qg qd H (.v 93 (vP (nn u30 5) 1)<|.cons [94] (qf (.func (.func 179) #[] #[]) 94 110 1 1 (nn u30 5) [.func (.func 180) #[] #[],.func (.func 179) #[] #[]] 226)<|.cons [95] (qf (.agg #[vI a0.Lo,vI a0.Hi]) 95 106 0 2 (nn u1 0) [vI a0.Lo,vI a0.Hi] 46)<|.cons [96] (qf (.agg #[vI a1.Lo,vI a1.Hi]) 96 107 0 2 (nn u1 1) [vI a1.Lo,vI a1.Hi] 46)<|.cons [97] (qm 179 _ _ 97 [] (λu34 w _=>Xj.calls a0 a1 t35 w ht35))<|.v 98 (vI t35.1)<|.v 99 (vI t35.2)<|.cons [100] (qm 54 _ _ 100 [] (λu34 w _=>Qb.calls t35.1 t35.2 t36 w ht36))<|.v 92 (.tuple #[vI t36.1,vI t36.2])<|.v 101 (vI t36.1)<|.v 102 (vI t36.2)<|.v 18 (vI t36.1)<|.v 19 (vI t36.2)<|.nil) [4,16,19,108,999999] λu34 a w' H=>?_
     replace G:=qO G; obtain ⟨t38,ht38,G⟩:=G
     refine qg qd H (.v 103 (vI t33.1)<|.v 104 (vI t36.2)<|.cons [105] (qm 68 _ _ 105 [] (λu37 w _=>qD.calls t33.1 t36.2 t38 w ht38))<|.cons [108] (qQ 108 0 (nn u1 2) [vI 0,vI 0] [vI t38.Lo,vI t38.Hi] 46 [vI t38.Lo,vI t38.Hi])<|.nil) [4,108,999999] λu37 a w' H=>?_
     refine qB ?_
     obtain rfl:=sj G
     exact qY H _ 108 (nn u1 2) [vI t38.Lo,vI t38.Hi] 46 0 2
    rw [if_neg c49] at G
    by_cases c50:t9=2
    ·rw [if_pos c50] at G; subst c50
     refine Qq qd H (.v 76 (vI 0)<|.v 77 (vI 2)<|.v 78 (vP 0 0)<|.v 79 (vP 0 4)<|.cons [80] (QV (λu39=>.agg #[.func (.func 180) #[] #[],.func (.func 181) #[] #[]]) 80 999999 gk 0 4 2 VK (λw h=>(Qy h).tab0))<|.cons [15,111] (qn (λb=>vP b 0) (λu39=>[.nilFunc,.nilFunc]) 226 15 111)<|.cons [111] (QF (u':=λu39=>[(111,.blk (nn u39 5) [.func (.func 180) #[] #[],.func (.func 181) #[] #[]] 226)]) (qK 111 0 (λu39=>(nn u39 5)) (λu39=>[.nilFunc,.nilFunc]) (λu39=>[.func (.func 180) #[] #[],.func (.func 181) #[] #[]]) 226) (λ_=>by kernel_rfl))<|.nil) [2,3,4,15,106,107,108,111,999999] λu39 a w' H=>?_
     replace G:=qO G; obtain ⟨t41,ht41,G⟩:=G
     replace G:=qO G; obtain ⟨t42,ht42,G⟩:=G
     refine qg qd H (.v 82 (vP (nn u39 5) 0)<|.cons [83] (qf (.func (.func 180) #[] #[]) 83 111 0 1 (nn u39 5) [.func (.func 180) #[] #[],.func (.func 181) #[] #[]] 226)<|.cons [84] (qf (.agg #[vI a0.Lo,vI a0.Hi]) 84 106 0 2 (nn u1 0) [vI a0.Lo,vI a0.Hi] 46)<|.cons [85] (qf (.agg #[vI a1.Lo,vI a1.Hi]) 85 107 0 2 (nn u1 1) [vI a1.Lo,vI a1.Hi] 46)<|.cons [86] (qm 180 _ _ 86 [] (λu40 w _=>Xk.calls a0 a1 t41 w ht41))<|.v 87 (vI t41.1)<|.v 88 (vI t41.2)<|.cons [89] (qm 54 _ _ 89 [] (λu40 w _=>Qb.calls t41.1 t41.2 t42 w ht42))<|.v 81 (.tuple #[vI t42.1,vI t42.2])<|.v 90 (vI t42.1)<|.v 91 (vI t42.2)<|.v 16 (vI t42.1)<|.v 17 (vI t42.2)<|.nil) [2,3,4,15,16,106,107,108,111,999999] λu40 a w' H=>?_
     replace G:=qO G; obtain ⟨t44,ht44,G⟩:=G
     replace G:=qO G; obtain ⟨t45,ht45,G⟩:=G
     refine qg qd H (.v 93 (vP (nn u39 5) 1)<|.cons [94] (qf (.func (.func 181) #[] #[]) 94 111 1 1 (nn u39 5) [.func (.func 180) #[] #[],.func (.func 181) #[] #[]] 226)<|.cons [95] (qf (.agg #[vI a0.Lo,vI a0.Hi]) 95 106 0 2 (nn u1 0) [vI a0.Lo,vI a0.Hi] 46)<|.cons [96] (qf (.agg #[vI a1.Lo,vI a1.Hi]) 96 107 0 2 (nn u1 1) [vI a1.Lo,vI a1.Hi] 46)<|.cons [97] (qm 181 _ _ 97 [] (λu43 w _=>Xl.calls a0 a1 t44 w ht44))<|.v 98 (vI t44.1)<|.v 99 (vI t44.2)<|.cons [100] (qm 54 _ _ 100 [] (λu43 w _=>Qb.calls t44.1 t44.2 t45 w ht45))<|.v 92 (.tuple #[vI t45.1,vI t45.2])<|.v 101 (vI t45.1)<|.v 102 (vI t45.2)<|.v 18 (vI t45.1)<|.v 19 (vI t45.2)<|.nil) [4,16,19,108,999999] λu43 a w' H=>?_
     replace G:=qO G; obtain ⟨t47,ht47,G⟩:=G
     refine qg qd H (.v 103 (vI t42.1)<|.v 104 (vI t45.2)<|.cons [105] (qm 68 _ _ 105 [] (λu46 w _=>qD.calls t42.1 t45.2 t47 w ht47))<|.cons [108] (qQ 108 0 (nn u1 2) [vI 0,vI 0] [vI t47.Lo,vI t47.Hi] 46 [vI t47.Lo,vI t47.Hi])<|.nil) [4,108,999999] λu46 a w' H=>?_
     refine qB ?_
     obtain rfl:=sj G
     exact qY H _ 108 (nn u1 2) [vI t47.Lo,vI t47.Hi] 46 0 2
    rw [if_neg c50] at G
    cases G
   rw [if_neg c103] at G
   by_cases c104:t8=1
   ·rw [if_pos c104] at G; subst c104
    by_cases c70:t9=0
    ·rw [if_pos c70] at G; subst c70
     refine Qq qd H (.v 76 (vI 1)<|.v 77 (vI 0)<|.v 78 (vP 0 6)<|.v 79 (vP 0 6)<|.cons [80] (QV (λu51=>.agg #[.func (.func 181) #[] #[],.func (.func 179) #[] #[]]) 80 999999 gk 0 6 2 VK (λw h=>(Qy h).tab0))<|.cons [15,112] (qn (λb=>vP b 0) (λu51=>[.nilFunc,.nilFunc]) 226 15 112)<|.cons [112] (QF (u':=λu51=>[(112,.blk (nn u51 5) [.func (.func 181) #[] #[],.func (.func 179) #[] #[]] 226)]) (qK 112 0 (λu51=>(nn u51 5)) (λu51=>[.nilFunc,.nilFunc]) (λu51=>[.func (.func 181) #[] #[],.func (.func 179) #[] #[]]) 226) (λ_=>by kernel_rfl))<|.nil) [2,3,4,15,106,107,108,112,999999] λu51 a w' H=>?_
     replace G:=qO G; obtain ⟨t53,ht53,G⟩:=G
     replace G:=qO G; obtain ⟨t54,ht54,G⟩:=G
     refine qg qd H (.v 82 (vP (nn u51 5) 0)<|.cons [83] (qf (.func (.func 181) #[] #[]) 83 112 0 1 (nn u51 5) [.func (.func 181) #[] #[],.func (.func 179) #[] #[]] 226)<|.cons [84] (qf (.agg #[vI a0.Lo,vI a0.Hi]) 84 106 0 2 (nn u1 0) [vI a0.Lo,vI a0.Hi] 46)<|.cons [85] (qf (.agg #[vI a1.Lo,vI a1.Hi]) 85 107 0 2 (nn u1 1) [vI a1.Lo,vI a1.Hi] 46)<|.cons [86] (qm 181 _ _ 86 [] (λu52 w _=>Xl.calls a0 a1 t53 w ht53))<|.v 87 (vI t53.1)<|.v 88 (vI t53.2)<|.cons [89] (qm 54 _ _ 89 [] (λu52 w _=>Qb.calls t53.1 t53.2 t54 w ht54))<|.v 81 (.tuple #[vI t54.1,vI t54.2])<|.v 90 (vI t54.1)<|.v 91 (vI t54.2)<|.v 16 (vI t54.1)<|.v 17 (vI t54.2)<|.nil) [2,3,4,15,16,106,107,108,112,999999] λu52 a w' H=>?_
     replace G:=qO G; obtain ⟨t56,ht56,G⟩:=G
     replace G:=qO G; obtain ⟨t57,ht57,G⟩:=G
     refine qg qd H (.v 93 (vP (nn u51 5) 1)<|.cons [94] (qf (.func (.func 179) #[] #[]) 94 112 1 1 (nn u51 5) [.func (.func 181) #[] #[],.func (.func 179) #[] #[]] 226)<|.cons [95] (qf (.agg #[vI a0.Lo,vI a0.Hi]) 95 106 0 2 (nn u1 0) [vI a0.Lo,vI a0.Hi] 46)<|.cons [96] (qf (.agg #[vI a1.Lo,vI a1.Hi]) 96 107 0 2 (nn u1 1) [vI a1.Lo,vI a1.Hi] 46)<|.cons [97] (qm 179 _ _ 97 [] (λu55 w _=>Xj.calls a0 a1 t56 w ht56))<|.v 98 (vI t56.1)<|.v 99 (vI t56.2)<|.cons [100] (qm 54 _ _ 100 [] (λu55 w _=>Qb.calls t56.1 t56.2 t57 w ht57))<|.v 92 (.tuple #[vI t57.1,vI t57.2])<|.v 101 (vI t57.1)<|.v 102 (vI t57.2)<|.v 18 (vI t57.1)<|.v 19 (vI t57.2)<|.nil) [4,16,19,108,999999] λu55 a w' H=>?_
     replace G:=qO G; obtain ⟨t59,ht59,G⟩:=G
     refine qg qd H (.v 103 (vI t54.1)<|.v 104 (vI t57.2)<|.cons [105] (qm 68 _ _ 105 [] (λu58 w _=>qD.calls t54.1 t57.2 t59 w ht59))<|.cons [108] (qQ 108 0 (nn u1 2) [vI 0,vI 0] [vI t59.Lo,vI t59.Hi] 46 [vI t59.Lo,vI t59.Hi])<|.nil) [4,108,999999] λu58 a w' H=>?_
     refine qB ?_
     obtain rfl:=sj G
     exact qY H _ 108 (nn u1 2) [vI t59.Lo,vI t59.Hi] 46 0 2
    rw [if_neg c70] at G
    by_cases c71:t9=1
    ·rw [if_pos c71] at G; subst c71
     refine Qq qd H (.v 76 (vI 1)<|.v 77 (vI 1)<|.v 78 (vP 0 6)<|.v 79 (vP 0 8)<|.cons [80] (QV (λu60=>.agg #[.nilFunc,.nilFunc]) 80 999999 gk 0 8 2 VK (λw h=>(Qy h).tab0))<|.cons [15,113] (qn (λb=>vP b 0) (λu60=>[.nilFunc,.nilFunc]) 226 15 113)<|.cons [113] (QF (u':=λu60=>[(113,.blk (nn u60 5) [.nilFunc,.nilFunc] 226)]) (qK 113 0 (λu60=>(nn u60 5)) (λu60=>[.nilFunc,.nilFunc]) (λu60=>[.nilFunc,.nilFunc]) 226) (λ_=>by kernel_rfl))<|.nil) [2,3,4,15,106,107,108,113,999999] λu60 a w' H=>?_
     refine qs ?_
     cases G
    rw [if_neg c71] at G
    by_cases c72:t9=2
    ·rw [if_pos c72] at G; subst c72
     refine Qq qd H (.v 76 (vI 1)<|.v 77 (vI 2)<|.v 78 (vP 0 6)<|.v 79 (vP 0 10)<|.cons [80] (QV (λu61=>.agg #[.func (.func 180) #[] #[],.func (.func 178) #[] #[]]) 80 999999 gk 0 10 2 VK (λw h=>(Qy h).tab0))<|.cons [15,114] (qn (λb=>vP b 0) (λu61=>[.nilFunc,.nilFunc]) 226 15 114)<|.cons [114] (QF (u':=λu61=>[(114,.blk (nn u61 5) [.func (.func 180) #[] #[],.func (.func 178) #[] #[]] 226)]) (qK 114 0 (λu61=>(nn u61 5)) (λu61=>[.nilFunc,.nilFunc]) (λu61=>[.func (.func 180) #[] #[],.func (.func 178) #[] #[]]) 226) (λ_=>by kernel_rfl))<|.nil) [2,3,4,15,106,107,108,114,999999] λu61 a w' H=>?_
     replace G:=qO G; obtain ⟨t63,ht63,G⟩:=G
     replace G:=qO G; obtain ⟨t64,ht64,G⟩:=G
     refine qg qd H (.v 82 (vP (nn u61 5) 0)<|.cons [83] (qf (.func (.func 180) #[] #[]) 83 114 0 1 (nn u61 5) [.func (.func 180) #[] #[],.func (.func 178) #[] #[]] 226)<|.cons [84] (qf (.agg #[vI a0.Lo,vI a0.Hi]) 84 106 0 2 (nn u1 0) [vI a0.Lo,vI a0.Hi] 46)<|.cons [85] (qf (.agg #[vI a1.Lo,vI a1.Hi]) 85 107 0 2 (nn u1 1) [vI a1.Lo,vI a1.Hi] 46)<|.cons [86] (qm 180 _ _ 86 [] (λu62 w _=>Xk.calls a0 a1 t63 w ht63))<|.v 87 (vI t63.1)<|.v 88 (vI t63.2)<|.cons [89] (qm 54 _ _ 89 [] (λu62 w _=>Qb.calls t63.1 t63.2 t64 w ht64))<|.v 81 (.tuple #[vI t64.1,vI t64.2])<|.v 90 (vI t64.1)<|.v 91 (vI t64.2)<|.v 16 (vI t64.1)<|.v 17 (vI t64.2)<|.nil) [2,3,4,15,16,106,107,108,114,999999] λu62 a w' H=>?_
     replace G:=qO G; obtain ⟨t66,ht66,G⟩:=G
     replace G:=qO G; obtain ⟨t67,ht67,G⟩:=G
     refine qg qd H (.v 93 (vP (nn u61 5) 1)<|.cons [94] (qf (.func (.func 178) #[] #[]) 94 114 1 1 (nn u61 5) [.func (.func 180) #[] #[],.func (.func 178) #[] #[]] 226)<|.cons [95] (qf (.agg #[vI a0.Lo,vI a0.Hi]) 95 106 0 2 (nn u1 0) [vI a0.Lo,vI a0.Hi] 46)<|.cons [96] (qf (.agg #[vI a1.Lo,vI a1.Hi]) 96 107 0 2 (nn u1 1) [vI a1.Lo,vI a1.Hi] 46)<|.cons [97] (qm 178 _ _ 97 [] (λu65 w _=>Xi.calls a0 a1 t66 w ht66))<|.v 98 (vI t66.1)<|.v 99 (vI t66.2)<|.cons [100] (qm 54 _ _ 100 [] (λu65 w _=>Qb.calls t66.1 t66.2 t67 w ht67))<|.v 92 (.tuple #[vI t67.1,vI t67.2])<|.v 101 (vI t67.1)<|.v 102 (vI t67.2)<|.v 18 (vI t67.1)<|.v 19 (vI t67.2)<|.nil) [4,16,19,108,999999] λu65 a w' H=>?_
     replace G:=qO G; obtain ⟨t69,ht69,G⟩:=G
     refine qg qd H (.v 103 (vI t64.1)<|.v 104 (vI t67.2)<|.cons [105] (qm 68 _ _ 105 [] (λu68 w _=>qD.calls t64.1 t67.2 t69 w ht69))<|.cons [108] (qQ 108 0 (nn u1 2) [vI 0,vI 0] [vI t69.Lo,vI t69.Hi] 46 [vI t69.Lo,vI t69.Hi])<|.nil) [4,108,999999] λu68 a w' H=>?_
     refine qB ?_
     obtain rfl:=sj G
     exact qY H _ 108 (nn u1 2) [vI t69.Lo,vI t69.Hi] 46 0 2
    rw [if_neg c72] at G
    cases G
   rw [if_neg c104] at G
   by_cases c105:t8=2
   ·rw [if_pos c105] at G; subst c105
    by_cases c100:t9=0
    ·rw [if_pos c100] at G; subst c100
     refine Qq qd H (.v 76 (vI 2)<|.v 77 (vI 0)<|.v 78 (vP 0 12)<|.v 79 (vP 0 12)<|.cons [80] (QV (λu73=>.agg #[.func (.func 181) #[] #[],.func (.func 180) #[] #[]]) 80 999999 gk 0 12 2 VK (λw h=>(Qy h).tab0))<|.cons [15,115] (qn (λb=>vP b 0) (λu73=>[.nilFunc,.nilFunc]) 226 15 115)<|.cons [115] (QF (u':=λu73=>[(115,.blk (nn u73 5) [.func (.func 181) #[] #[],.func (.func 180) #[] #[]] 226)]) (qK 115 0 (λu73=>(nn u73 5)) (λu73=>[.nilFunc,.nilFunc]) (λu73=>[.func (.func 181) #[] #[],.func (.func 180) #[] #[]]) 226) (λ_=>by kernel_rfl))<|.nil) [2,3,4,15,106,107,108,115,999999] λu73 a w' H=>?_
     replace G:=qO G; obtain ⟨t75,ht75,G⟩:=G
     replace G:=qO G; obtain ⟨t76,ht76,G⟩:=G
     refine qg qd H (.v 82 (vP (nn u73 5) 0)<|.cons [83] (qf (.func (.func 181) #[] #[]) 83 115 0 1 (nn u73 5) [.func (.func 181) #[] #[],.func (.func 180) #[] #[]] 226)<|.cons [84] (qf (.agg #[vI a0.Lo,vI a0.Hi]) 84 106 0 2 (nn u1 0) [vI a0.Lo,vI a0.Hi] 46)<|.cons [85] (qf (.agg #[vI a1.Lo,vI a1.Hi]) 85 107 0 2 (nn u1 1) [vI a1.Lo,vI a1.Hi] 46)<|.cons [86] (qm 181 _ _ 86 [] (λu74 w _=>Xl.calls a0 a1 t75 w ht75))<|.v 87 (vI t75.1)<|.v 88 (vI t75.2)<|.cons [89] (qm 54 _ _ 89 [] (λu74 w _=>Qb.calls t75.1 t75.2 t76 w ht76))<|.v 81 (.tuple #[vI t76.1,vI t76.2])<|.v 90 (vI t76.1)<|.v 91 (vI t76.2)<|.v 16 (vI t76.1)<|.v 17 (vI t76.2)<|.nil) [2,3,4,15,16,106,107,108,115,999999] λu74 a w' H=>?_
     replace G:=qO G; obtain ⟨t78,ht78,G⟩:=G
     replace G:=qO G; obtain ⟨t79,ht79,G⟩:=G
     refine qg qd H (.v 93 (vP (nn u73 5) 1)<|.cons [94] (qf (.func (.func 180) #[] #[]) 94 115 1 1 (nn u73 5) [.func (.func 181) #[] #[],.func (.func 180) #[] #[]] 226)<|.cons [95] (qf (.agg #[vI a0.Lo,vI a0.Hi]) 95 106 0 2 (nn u1 0) [vI a0.Lo,vI a0.Hi] 46)<|.cons [96] (qf (.agg #[vI a1.Lo,vI a1.Hi]) 96 107 0 2 (nn u1 1) [vI a1.Lo,vI a1.Hi] 46)<|.cons [97] (qm 180 _ _ 97 [] (λu77 w _=>Xk.calls a0 a1 t78 w ht78))<|.v 98 (vI t78.1)<|.v 99 (vI t78.2)<|.cons [100] (qm 54 _ _ 100 [] (λu77 w _=>Qb.calls t78.1 t78.2 t79 w ht79))<|.v 92 (.tuple #[vI t79.1,vI t79.2])<|.v 101 (vI t79.1)<|.v 102 (vI t79.2)<|.v 18 (vI t79.1)<|.v 19 (vI t79.2)<|.nil) [4,16,19,108,999999] λu77 a w' H=>?_
     replace G:=qO G; obtain ⟨t81,ht81,G⟩:=G
     refine qg qd H (.v 103 (vI t76.1)<|.v 104 (vI t79.2)<|.cons [105] (qm 68 _ _ 105 [] (λu80 w _=>qD.calls t76.1 t79.2 t81 w ht81))<|.cons [108] (qQ 108 0 (nn u1 2) [vI 0,vI 0] [vI t81.Lo,vI t81.Hi] 46 [vI t81.Lo,vI t81.Hi])<|.nil) [4,108,999999] λu80 a w' H=>?_
     refine qB ?_
     obtain rfl:=sj G
     exact qY H _ 108 (nn u1 2) [vI t81.Lo,vI t81.Hi] 46 0 2
    rw [if_neg c100] at G
    by_cases c101:t9=1
    ·rw [if_pos c101] at G; subst c101
     refine Qq qd H (.v 76 (vI 2)<|.v 77 (vI 1)<|.v 78 (vP 0 12)<|.v 79 (vP 0 14)<|.cons [80] (QV (λu82=>.agg #[.func (.func 181) #[] #[],.func (.func 178) #[] #[]]) 80 999999 gk 0 14 2 VK (λw h=>(Qy h).tab0))<|.cons [15,116] (qn (λb=>vP b 0) (λu82=>[.nilFunc,.nilFunc]) 226 15 116)<|.cons [116] (QF (u':=λu82=>[(116,.blk (nn u82 5) [.func (.func 181) #[] #[],.func (.func 178) #[] #[]] 226)]) (qK 116 0 (λu82=>(nn u82 5)) (λu82=>[.nilFunc,.nilFunc]) (λu82=>[.func (.func 181) #[] #[],.func (.func 178) #[] #[]]) 226) (λ_=>by kernel_rfl))<|.nil) [2,3,4,15,106,107,108,116,999999] λu82 a w' H=>?_
     replace G:=qO G; obtain ⟨t84,ht84,G⟩:=G
     replace G:=qO G; obtain ⟨t85,ht85,G⟩:=G
     refine qg qd H (.v 82 (vP (nn u82 5) 0)<|.cons [83] (qf (.func (.func 181) #[] #[]) 83 116 0 1 (nn u82 5) [.func (.func 181) #[] #[],.func (.func 178) #[] #[]] 226)<|.cons [84] (qf (.agg #[vI a0.Lo,vI a0.Hi]) 84 106 0 2 (nn u1 0) [vI a0.Lo,vI a0.Hi] 46)<|.cons [85] (qf (.agg #[vI a1.Lo,vI a1.Hi]) 85 107 0 2 (nn u1 1) [vI a1.Lo,vI a1.Hi] 46)<|.cons [86] (qm 181 _ _ 86 [] (λu83 w _=>Xl.calls a0 a1 t84 w ht84))<|.v 87 (vI t84.1)<|.v 88 (vI t84.2)<|.cons [89] (qm 54 _ _ 89 [] (λu83 w _=>Qb.calls t84.1 t84.2 t85 w ht85))<|.v 81 (.tuple #[vI t85.1,vI t85.2])<|.v 90 (vI t85.1)<|.v 91 (vI t85.2)<|.v 16 (vI t85.1)<|.v 17 (vI t85.2)<|.nil) [2,3,4,15,16,106,107,108,116,999999] λu83 a w' H=>?_
     replace G:=qO G; obtain ⟨t87,ht87,G⟩:=G
     replace G:=qO G; obtain ⟨t88,ht88,G⟩:=G
     refine qg qd H (.v 93 (vP (nn u82 5) 1)<|.cons [94] (qf (.func (.func 178) #[] #[]) 94 116 1 1 (nn u82 5) [.func (.func 181) #[] #[],.func (.func 178) #[] #[]] 226)<|.cons [95] (qf (.agg #[vI a0.Lo,vI a0.Hi]) 95 106 0 2 (nn u1 0) [vI a0.Lo,vI a0.Hi] 46)<|.cons [96] (qf (.agg #[vI a1.Lo,vI a1.Hi]) 96 107 0 2 (nn u1 1) [vI a1.Lo,vI a1.Hi] 46)<|.cons [97] (qm 178 _ _ 97 [] (λu86 w _=>Xi.calls a0 a1 t87 w ht87))<|.v 98 (vI t87.1)<|.v 99 (vI t87.2)<|.cons [100] (qm 54 _ _ 100 [] (λu86 w _=>Qb.calls t87.1 t87.2 t88 w ht88))<|.v 92 (.tuple #[vI t88.1,vI t88.2])<|.v 101 (vI t88.1)<|.v 102 (vI t88.2)<|.v 18 (vI t88.1)<|.v 19 (vI t88.2)<|.nil) [4,16,19,108,999999] λu86 a w' H=>?_
     replace G:=qO G; obtain ⟨t90,ht90,G⟩:=G
     refine qg qd H (.v 103 (vI t85.1)<|.v 104 (vI t88.2)<|.cons [105] (qm 68 _ _ 105 [] (λu89 w _=>qD.calls t85.1 t88.2 t90 w ht90))<|.cons [108] (qQ 108 0 (nn u1 2) [vI 0,vI 0] [vI t90.Lo,vI t90.Hi] 46 [vI t90.Lo,vI t90.Hi])<|.nil) [4,108,999999] λu89 a w' H=>?_
     refine qB ?_
     obtain rfl:=sj G
     exact qY H _ 108 (nn u1 2) [vI t90.Lo,vI t90.Hi] 46 0 2
    rw [if_neg c101] at G
    by_cases c102:t9=2
    ·rw [if_pos c102] at G; subst c102
     refine Qq qd H (.v 76 (vI 2)<|.v 77 (vI 2)<|.v 78 (vP 0 12)<|.v 79 (vP 0 16)<|.cons [80] (QV (λu91=>.agg #[.func (.func 179) #[] #[],.func (.func 178) #[] #[]]) 80 999999 gk 0 16 2 VK (λw h=>(Qy h).tab0))<|.cons [15,117] (qn (λb=>vP b 0) (λu91=>[.nilFunc,.nilFunc]) 226 15 117)<|.cons [117] (QF (u':=λu91=>[(117,.blk (nn u91 5) [.func (.func 179) #[] #[],.func (.func 178) #[] #[]] 226)]) (qK 117 0 (λu91=>(nn u91 5)) (λu91=>[.nilFunc,.nilFunc]) (λu91=>[.func (.func 179) #[] #[],.func (.func 178) #[] #[]]) 226) (λ_=>by kernel_rfl))<|.nil) [2,3,4,15,106,107,108,117,999999] λu91 a w' H=>?_
     replace G:=qO G; obtain ⟨t93,ht93,G⟩:=G
     replace G:=qO G; obtain ⟨t94,ht94,G⟩:=G
     refine qg qd H (.v 82 (vP (nn u91 5) 0)<|.cons [83] (qf (.func (.func 179) #[] #[]) 83 117 0 1 (nn u91 5) [.func (.func 179) #[] #[],.func (.func 178) #[] #[]] 226)<|.cons [84] (qf (.agg #[vI a0.Lo,vI a0.Hi]) 84 106 0 2 (nn u1 0) [vI a0.Lo,vI a0.Hi] 46)<|.cons [85] (qf (.agg #[vI a1.Lo,vI a1.Hi]) 85 107 0 2 (nn u1 1) [vI a1.Lo,vI a1.Hi] 46)<|.cons [86] (qm 179 _ _ 86 [] (λu92 w _=>Xj.calls a0 a1 t93 w ht93))<|.v 87 (vI t93.1)<|.v 88 (vI t93.2)<|.cons [89] (qm 54 _ _ 89 [] (λu92 w _=>Qb.calls t93.1 t93.2 t94 w ht94))<|.v 81 (.tuple #[vI t94.1,vI t94.2])<|.v 90 (vI t94.1)<|.v 91 (vI t94.2)<|.v 16 (vI t94.1)<|.v 17 (vI t94.2)<|.nil) [2,3,4,15,16,106,107,108,117,999999] λu92 a w' H=>?_
     replace G:=qO G; obtain ⟨t96,ht96,G⟩:=G
     replace G:=qO G; obtain ⟨t97,ht97,G⟩:=G
     refine qg qd H (.v 93 (vP (nn u91 5) 1)<|.cons [94] (qf (.func (.func 178) #[] #[]) 94 117 1 1 (nn u91 5) [.func (.func 179) #[] #[],.func (.func 178) #[] #[]] 226)<|.cons [95] (qf (.agg #[vI a0.Lo,vI a0.Hi]) 95 106 0 2 (nn u1 0) [vI a0.Lo,vI a0.Hi] 46)<|.cons [96] (qf (.agg #[vI a1.Lo,vI a1.Hi]) 96 107 0 2 (nn u1 1) [vI a1.Lo,vI a1.Hi] 46)<|.cons [97] (qm 178 _ _ 97 [] (λu95 w _=>Xi.calls a0 a1 t96 w ht96))<|.v 98 (vI t96.1)<|.v 99 (vI t96.2)<|.cons [100] (qm 54 _ _ 100 [] (λu95 w _=>Qb.calls t96.1 t96.2 t97 w ht97))<|.v 92 (.tuple #[vI t97.1,vI t97.2])<|.v 101 (vI t97.1)<|.v 102 (vI t97.2)<|.v 18 (vI t97.1)<|.v 19 (vI t97.2)<|.nil) [4,16,19,108,999999] λu95 a w' H=>?_
     replace G:=qO G; obtain ⟨t99,ht99,G⟩:=G
     refine qg qd H (.v 103 (vI t94.1)<|.v 104 (vI t97.2)<|.cons [105] (qm 68 _ _ 105 [] (λu98 w _=>qD.calls t94.1 t97.2 t99 w ht99))<|.cons [108] (qQ 108 0 (nn u1 2) [vI 0,vI 0] [vI t99.Lo,vI t99.Hi] 46 [vI t99.Lo,vI t99.Hi])<|.nil) [4,108,999999] λu98 a w' H=>?_
     refine qB ?_
     obtain rfl:=sj G
     exact qY H _ 108 (nn u1 2) [vI t99.Lo,vI t99.Hi] 46 0 2
    rw [if_neg c102] at G
    cases G
   rw [if_neg c105] at G
   cases G
theorem X6.calls (a0:qb)(a1:Int)(r:Bool)(w:World)(G:X6 a0 a1=some r) :
  Calls Tryz.prog 143 #[.agg #[vI a0.Lo,vI a0.Hi],vI a1] w λe w'=>e = .returned (.bool r)∧Below w.heap.size w w':=by
 refine Qs (args:=[.agg #[vI a0.Lo,vI a0.Hi],vI a1]) 19 Tryz.func143 rfl λa H=>?_
 unfold X6 at G
 refine qg qd H (.cons [2,19] (qn (λb=>vP b 0) (λu1=>[vI a0.Lo,vI a0.Hi]) 46 2 19)<|.v 4 (.bool false)<|.nil) [1,2,19] λu1 a w' H=>?_
 obtain ⟨t3,ht3,G⟩:=qO G
 refine qg qd H (.cons [5] (qf (.agg #[vI a0.Lo,vI a0.Hi]) 5 19 0 2 (nn u1 0) [vI a0.Lo,vI a0.Hi] 46)<|.cons [6] (qm 21 _ _ 6 [] (λu2 w _=>qN.calls a0 t3 w ht3))<|.v 7 (.bool t3)<|.cons [8] (qE (λu2=>vP (nn u1 0) 0) (λu2=>(t3==false)) [true] 8)<|.cons [9] (YL (λu2=>vI a0.Lo) (λu2=>(t3==false)) [false] 9 19 0 1 (λu2=>(nn u1 0)) (λu2=>[vI a0.Lo,vI a0.Hi]) 46)<|.cons [10] (qE (λu2=>vI a1) (λu2=>(t3==false)) [true] 10)<|.cons [11] (qE (λu2=>.bool (decide (a0.Lo<=a1))) (λu2=>(t3==false)) [false,false] 11)<|.cons [12] (qE (λu2=>.bool (decide (a0.Lo<=a1))) (λu2=>(t3==false)) [false] 12)<|.cons [13] (qE (λu2=>vI a1) (λu2=>((t3==false)&&((decide (a0.Lo<=a1))==true))) [true] 13)<|.cons [14] (qE (λu2=>vP (nn u1 0) 1) (λu2=>((t3==false)&&((decide (a0.Lo<=a1))==true))) [true] 14)<|.cons [15] (YL (λu2=>vI a0.Hi) (λu2=>((t3==false)&&((decide (a0.Lo<=a1))==true))) [false] 15 19 1 1 (λu2=>(nn u1 0)) (λu2=>[vI a0.Lo,vI a0.Hi]) 46)<|.cons [16] (qE (λu2=>.bool (decide (a1<=a0.Hi))) (λu2=>((t3==false)&&((decide (a0.Lo<=a1))==true))) [false,false] 16)<|.cons [17] (YH 12 16 (λu2=>(t3==false)) (λu2=>(t3==false)) (λu2=>decide (a0.Lo<=a1)) (λu2=>decide (a1<=a0.Hi)) 17)<|.cons [18] (Zx 7 17 (λu2=>true) (λu2=>true) (λu2=>t3) (λu2=>((decide (a0.Lo<=a1))&&(decide (a1<=a0.Hi)))) 18)<|.v 4 (.bool (t3||((decide (a0.Lo<=a1))&&(decide (a1<=a0.Hi)))))<|.nil) [4] λu2 a w' H=>?_
 refine qB ?_
 obtain rfl:=sj G
 exact Qr H _
theorem QY.calls (a0:Bool)(a1:Int)(a2:Int)(r:Int)(w:World)(G:QY a0 a1 a2=some r) :
  Calls Tryz.prog 144 #[.bool a0,vI a1,vI a2] w λe w'=>e = .returned (vI r)∧Below w.heap.size w w':=by
 refine Qs (args:=[.bool a0,vI a1,vI a2]) 10 Tryz.func144 rfl λa H=>?_
 unfold QY at G
 refine qg qd H (.v 6 (vI 0)<|.nil) [0,1,2] λu1 a w' H=>?_
 refine qs ?_
 refine qg qd H (.v 7 (.bool a0)<|.nil) [1,2,7] λu2 a w' H=>?_
 refine Qu H a0 (λc5=>?_) λc5=>?_
 ·rw [if_pos c5] at G
  refine qg qd H (.v 8 (vI a1)<|.v 6 (vI a1)<|.nil) [6] λu3 a w' H=>?_
  refine qB ?_
  obtain rfl:=sj G
  exact Qr H _
 ·rw [if_neg (nt c5)] at G
  refine q8 ?_
  refine qg qd H (.v 9 (vI a2)<|.v 6 (vI a2)<|.nil) [6] λu4 a w' H=>?_
  refine qB ?_
  obtain rfl:=sj G
  exact Qr H _
theorem Q1.calls (a0:Int)(a1:Int)(r:Int×Int×Int)(w:World)(G:Q1 a0 a1=some r) :
  Calls Tryz.prog 145 #[vI a0,vI a1] w λe w'=>e = .returned (.tuple #[vI r.1,vI r.2.1,vI r.2.2])∧Below w.heap.size w w':=by
 refine Qs (args:=[vI a0,vI a1]) 20 Tryz.func145 rfl λa H=>?_
 unfold Q1 at G
 refine qg qd H (.v 4 (vI 0)<|.v 5 (vI 0)<|.v 6 (vI 0)<|.nil) [0,1] λu1 a w' H=>?_
 refine qs ?_
 refine qg qd H (.v 9 (vI a1)<|.v 10 (.bool (a1==0))<|.nil) [0,1,10] λu2 a w' H=>?_
 refine Qu H (a1==0) (λc7=>?_) λc7=>?_
 ·rw [if_pos c7] at G
  refine qg qd H (.v 4 (vI 0)<|.v 5 (vI 0)<|.v 6 (vI 3)<|.nil) [4,5,6] λu3 a w' H=>?_
  refine qB ?_
  obtain rfl:=sj G
  exact Qr H _
 ·rw [if_neg (nt c7)] at G
  refine q8 ?_
  obtain ⟨t5,ht5,G⟩:=qO G
  refine qg qd H (.v 12 (vI a0)<|.v 13 (vI (qc (a0*65536)))<|.v 14 (vI a1)<|.cons [15] (qm 75 _ _ 15 [] (λu4 w _=>XX.calls (qc (a0*65536)) a1 t5 w ht5))<|.v 11 (.tuple #[vI t5.1,vI t5.2])<|.v 16 (vI t5.1)<|.v 17 (vI t5.2)<|.v 7 (vI t5.1)<|.v 8 (vI t5.2)<|.nil) [7,8] λu4 a w' H=>?_
  refine qg qd H (.v 18 (vI t5.1)<|.v 19 (vI t5.2)<|.v 4 (vI t5.1)<|.v 5 (vI t5.2)<|.v 6 (vI 0)<|.nil) [4,5,6] λu6 a w' H=>?_
  refine qB ?_
  obtain rfl:=sj G
  exact Qr H _
theorem QW.calls (a0:qb)(a1:qb)(r:qb)(w:World)(hg:WM w)(G:QW a0 a1=some r) :
  Calls Tryz.prog 137 #[.agg #[vI a0.Lo,vI a0.Hi],.agg #[vI a1.Lo,vI a1.Hi]] w λe w'=>e = .returned (.agg #[vI r.Lo,vI r.Hi])∧Below w.heap.size w w':=by
 refine qaD (args:=[.agg #[vI a0.Lo,vI a0.Hi],.agg #[vI a1.Lo,vI a1.Hi]]) 59 999999 WQ WM (Vp hg) (Yc hg) Tryz.func137 rfl λa H=>?_
 unfold QW at G
 refine qg qd H (.cons [2,59] (qn (λb=>vP b 0) (λu1=>[vI a0.Lo,vI a0.Hi]) 46 2 59)<|.cons [3,60] (qn (λb=>vP b 0) (λu1=>[vI a1.Lo,vI a1.Hi]) 46 3 60)<|.cons [4,61] (qn (λb=>vP b 0) (λu1=>[vI 0,vI 0]) 46 4 61)<|.nil) [2,3,4,59,60,61,999999] λu1 a w' H=>?_
 refine qs ?_
 replace G:=qO G; obtain ⟨t3,ht3,G⟩:=G
 replace G:=qO G; obtain ⟨t4,ht4,G⟩:=G
 replace G:=qO G; obtain ⟨t5,ht5,G⟩:=G
 refine qg qd H (.cons [12] (qf (.agg #[vI a0.Lo,vI a0.Hi]) 12 59 0 2 (nn u1 0) [vI a0.Lo,vI a0.Hi] 46)<|.cons [13] (qm 21 _ _ 13 [] (λu2 w _=>qN.calls a0 t3 w ht3))<|.v 14 (.bool t3)<|.cons [15] (YL (λu2=>.agg #[vI a1.Lo,vI a1.Hi]) (λu2=>(t3==false)) [true] 15 60 0 2 (λu2=>(nn u1 1)) (λu2=>[vI a1.Lo,vI a1.Hi]) 46)<|.cons [16] (ZU 21 (λu2=>#[.agg #[vI a1.Lo,vI a1.Hi]]) (.bool t4) (λu2=>(t3==false)) [true,false] 16 [] (λu2 w hg _=>qN.calls a1 t4 w (ifp ht4 hg)))<|.cons [17] (Zx 14 16 (λu2=>true) (λu2=>true) (λu2=>t3) (λu2=>t4) 17)<|.v 18 (.bool (t3||t4))<|.cons [19] (YL (λu2=>.agg #[vI a1.Lo,vI a1.Hi]) (λu2=>((t3||t4)==false)) [true] 19 60 0 2 (λu2=>(nn u1 1)) (λu2=>[vI a1.Lo,vI a1.Hi]) 46)<|.cons [20] (ZU 143 (λu2=>#[.agg #[vI a1.Lo,vI a1.Hi],vI 0]) (.bool t5) (λu2=>((t3||t4)==false)) [true,false,true] 20 [] (λu2 w hg _=>X6.calls a1 0 t5 w (ifp ht5 hg)))<|.cons [21] (Zx 18 20 (λu2=>true) (λu2=>true) (λu2=>(t3||t4)) (λu2=>t5) 21)<|.nil) [2,3,4,21,59,60,61,999999] λu2 a w' H=>?_
 refine Qu H ((t3||t4)||t5) (λc24=>?_) λc24=>?_
 ·rw [if_pos c24] at G
  replace G:=qO G; obtain ⟨t7,ht7,G⟩:=G
  refine qg qd H (.cons [22] (qm 48 _ _ 22 [] (λu6 w _=>QG.calls t7 w ht7))<|.cons [61] (qQ 61 0 (nn u1 2) [vI 0,vI 0] [vI t7.Lo,vI t7.Hi] 46 [vI t7.Lo,vI t7.Hi])<|.nil) [4,61,999999] λu6 a w' H=>?_
  refine qB ?_
  obtain rfl:=sj G
  exact qY H _ 61 (nn u1 2) [vI t7.Lo,vI t7.Hi] 46 0 2
 ·rw [if_neg (nt c24)] at G
  refine q8 ?_
  refine qs ?_
  replace G:=qO G; obtain ⟨t9,ht9,G⟩:=G
  by_cases c21:t9=0
  ·rw [if_pos c21] at G; subst c21
   replace G:=qO G; obtain ⟨t10,ht10,G⟩:=G
   by_cases c19:t10=0
   ·rw [if_pos c19] at G; subst c19
    refine Qq qd H (.cons [23] (qf (.agg #[vI a0.Lo,vI a0.Hi]) 23 59 0 2 (nn u1 0) [vI a0.Lo,vI a0.Hi] 46)<|.cons [24] (qm 136 _ _ 24 [] (λu8 w _=>Xo.calls a0 0 w ht9))<|.v 25 (vP (nn u1 1) 0)<|.cons [26] (qf (vI a1.Lo) 26 60 0 1 (nn u1 1) [vI a1.Lo,vI a1.Hi] 46)<|.v 27 (.bool (decide (a1.Lo>0)))<|.cons [28] (qm 144 _ _ 28 [] (λu8 w _=>QY.calls (decide (a1.Lo>0)) 1 0 0 w ht10))<|.v 29 (vP 2 0)<|.v 30 (vP 2 0)<|.cons [31] (QV (λu8=>.agg #[.func (.func 181) #[] #[],.func (.func 180) #[] #[]]) 31 999999 gk 2 0 2 qaf (λw h=>(Qy h).tab2))<|.cons [5,62] (qn (λb=>vP b 0) (λu8=>[.nilFunc,.nilFunc]) 226 5 62)<|.cons [62] (QF (u':=λu8=>[(62,.blk (nn u8 9) [.func (.func 181) #[] #[],.func (.func 180) #[] #[]] 226)]) (qK 62 0 (λu8=>(nn u8 9)) (λu8=>[.nilFunc,.nilFunc]) (λu8=>[.func (.func 181) #[] #[],.func (.func 180) #[] #[]]) 226) (λ_=>by kernel_rfl))<|.nil) [2,3,4,5,59,60,61,62,999999] λu8 a w' H=>?_
    replace G:=qO G; obtain ⟨t12,ht12,G⟩:=G
    replace G:=qO G; obtain ⟨t13,ht13,G⟩:=G
    refine qg qd H (.v 33 (vP (nn u8 9) 0)<|.cons [34] (qf (.func (.func 181) #[] #[]) 34 62 0 1 (nn u8 9) [.func (.func 181) #[] #[],.func (.func 180) #[] #[]] 226)<|.cons [35] (qf (.agg #[vI a0.Lo,vI a0.Hi]) 35 59 0 2 (nn u1 0) [vI a0.Lo,vI a0.Hi] 46)<|.cons [36] (qf (.agg #[vI a1.Lo,vI a1.Hi]) 36 60 0 2 (nn u1 1) [vI a1.Lo,vI a1.Hi] 46)<|.cons [37] (qm 181 _ _ 37 [] (λu11 w _=>Xl.calls a0 a1 t12 w ht12))<|.v 38 (vI t12.1)<|.v 39 (vI t12.2)<|.cons [40] (qm 145 _ _ 40 [] (λu11 w _=>Q1.calls t12.1 t12.2 t13 w ht13))<|.v 32 (.tuple #[vI t13.1,vI t13.2.1,vI t13.2.2])<|.v 41 (vI t13.1)<|.v 42 (vI t13.2.1)<|.v 43 (vI t13.2.2)<|.v 6 (vI t13.1)<|.v 7 (vI t13.2.1)<|.v 8 (vI t13.2.2)<|.nil) [2,3,4,5,6,59,60,61,62,999999] λu11 a w' H=>?_
    replace G:=qO G; obtain ⟨t15,ht15,G⟩:=G
    replace G:=qO G; obtain ⟨t16,ht16,G⟩:=G
    refine qg qd H (.v 45 (vP (nn u8 9) 1)<|.cons [46] (qf (.func (.func 180) #[] #[]) 46 62 1 1 (nn u8 9) [.func (.func 181) #[] #[],.func (.func 180) #[] #[]] 226)<|.cons [47] (qf (.agg #[vI a0.Lo,vI a0.Hi]) 47 59 0 2 (nn u1 0) [vI a0.Lo,vI a0.Hi] 46)<|.cons [48] (qf (.agg #[vI a1.Lo,vI a1.Hi]) 48 60 0 2 (nn u1 1) [vI a1.Lo,vI a1.Hi] 46)<|.cons [49] (qm 180 _ _ 49 [] (λu14 w _=>Xk.calls a0 a1 t15 w ht15))<|.v 50 (vI t15.1)<|.v 51 (vI t15.2)<|.cons [52] (qm 145 _ _ 52 [] (λu14 w _=>Q1.calls t15.1 t15.2 t16 w ht16))<|.v 44 (.tuple #[vI t16.1,vI t16.2.1,vI t16.2.2])<|.v 53 (vI t16.1)<|.v 54 (vI t16.2.1)<|.v 55 (vI t16.2.2)<|.v 9 (vI t16.1)<|.v 10 (vI t16.2.1)<|.v 11 (vI t16.2.2)<|.nil) [4,6,10,61,999999] λu14 a w' H=>?_
    replace G:=qO G; obtain ⟨t18,ht18,G⟩:=G
    refine qg qd H (.v 56 (vI t13.1)<|.v 57 (vI t16.2.1)<|.cons [58] (qm 68 _ _ 58 [] (λu17 w _=>qD.calls t13.1 t16.2.1 t18 w ht18))<|.cons [61] (qQ 61 0 (nn u1 2) [vI 0,vI 0] [vI t18.Lo,vI t18.Hi] 46 [vI t18.Lo,vI t18.Hi])<|.nil) [4,61,999999] λu17 a w' H=>?_
    refine qB ?_
    obtain rfl:=sj G
    exact qY H _ 61 (nn u1 2) [vI t18.Lo,vI t18.Hi] 46 0 2
   rw [if_neg c19] at G
   by_cases c20:t10=1
   ·rw [if_pos c20] at G; subst c20
    refine Qq qd H (.cons [23] (qf (.agg #[vI a0.Lo,vI a0.Hi]) 23 59 0 2 (nn u1 0) [vI a0.Lo,vI a0.Hi] 46)<|.cons [24] (qm 136 _ _ 24 [] (λu8 w _=>Xo.calls a0 0 w ht9))<|.v 25 (vP (nn u1 1) 0)<|.cons [26] (qf (vI a1.Lo) 26 60 0 1 (nn u1 1) [vI a1.Lo,vI a1.Hi] 46)<|.v 27 (.bool (decide (a1.Lo>0)))<|.cons [28] (qm 144 _ _ 28 [] (λu8 w _=>QY.calls (decide (a1.Lo>0)) 1 0 1 w ht10))<|.v 29 (vP 2 0)<|.v 30 (vP 2 2)<|.cons [31] (QV (λu8=>.agg #[.func (.func 179) #[] #[],.func (.func 178) #[] #[]]) 31 999999 gk 2 2 2 qaf (λw h=>(Qy h).tab2))<|.cons [5,62] (qn (λb=>vP b 0) (λu8=>[.nilFunc,.nilFunc]) 226 5 62)<|.cons [62] (QF (u':=λu8=>[(62,.blk (nn u8 9) [.func (.func 179) #[] #[],.func (.func 178) #[] #[]] 226)]) (qK 62 0 (λu8=>(nn u8 9)) (λu8=>[.nilFunc,.nilFunc]) (λu8=>[.func (.func 179) #[] #[],.func (.func 178) #[] #[]]) 226) (λ_=>by kernel_rfl))<|.nil) [2,3,4,5,59,60,61,62,999999] λu8 a w' H=>?_
    replace G:=qO G; obtain ⟨t12,ht12,G⟩:=G
    replace G:=qO G; obtain ⟨t13,ht13,G⟩:=G
    refine qg qd H (.v 33 (vP (nn u8 9) 0)<|.cons [34] (qf (.func (.func 179) #[] #[]) 34 62 0 1 (nn u8 9) [.func (.func 179) #[] #[],.func (.func 178) #[] #[]] 226)<|.cons [35] (qf (.agg #[vI a0.Lo,vI a0.Hi]) 35 59 0 2 (nn u1 0) [vI a0.Lo,vI a0.Hi] 46)<|.cons [36] (qf (.agg #[vI a1.Lo,vI a1.Hi]) 36 60 0 2 (nn u1 1) [vI a1.Lo,vI a1.Hi] 46)<|.cons [37] (qm 179 _ _ 37 [] (λu11 w _=>Xj.calls a0 a1 t12 w ht12))<|.v 38 (vI t12.1)<|.v 39 (vI t12.2)<|.cons [40] (qm 145 _ _ 40 [] (λu11 w _=>Q1.calls t12.1 t12.2 t13 w ht13))<|.v 32 (.tuple #[vI t13.1,vI t13.2.1,vI t13.2.2])<|.v 41 (vI t13.1)<|.v 42 (vI t13.2.1)<|.v 43 (vI t13.2.2)<|.v 6 (vI t13.1)<|.v 7 (vI t13.2.1)<|.v 8 (vI t13.2.2)<|.nil) [2,3,4,5,6,59,60,61,62,999999] λu11 a w' H=>?_
    replace G:=qO G; obtain ⟨t15,ht15,G⟩:=G
    replace G:=qO G; obtain ⟨t16,ht16,G⟩:=G
    refine qg qd H (.v 45 (vP (nn u8 9) 1)<|.cons [46] (qf (.func (.func 178) #[] #[]) 46 62 1 1 (nn u8 9) [.func (.func 179) #[] #[],.func (.func 178) #[] #[]] 226)<|.cons [47] (qf (.agg #[vI a0.Lo,vI a0.Hi]) 47 59 0 2 (nn u1 0) [vI a0.Lo,vI a0.Hi] 46)<|.cons [48] (qf (.agg #[vI a1.Lo,vI a1.Hi]) 48 60 0 2 (nn u1 1) [vI a1.Lo,vI a1.Hi] 46)<|.cons [49] (qm 178 _ _ 49 [] (λu14 w _=>Xi.calls a0 a1 t15 w ht15))<|.v 50 (vI t15.1)<|.v 51 (vI t15.2)<|.cons [52] (qm 145 _ _ 52 [] (λu14 w _=>Q1.calls t15.1 t15.2 t16 w ht16))<|.v 44 (.tuple #[vI t16.1,vI t16.2.1,vI t16.2.2])<|.v 53 (vI t16.1)<|.v 54 (vI t16.2.1)<|.v 55 (vI t16.2.2)<|.v 9 (vI t16.1)<|.v 10 (vI t16.2.1)<|.v 11 (vI t16.2.2)<|.nil) [4,6,10,61,999999] λu14 a w' H=>?_
    replace G:=qO G; obtain ⟨t18,ht18,G⟩:=G
    refine qg qd H (.v 56 (vI t13.1)<|.v 57 (vI t16.2.1)<|.cons [58] (qm 68 _ _ 58 [] (λu17 w _=>qD.calls t13.1 t16.2.1 t18 w ht18))<|.cons [61] (qQ 61 0 (nn u1 2) [vI 0,vI 0] [vI t18.Lo,vI t18.Hi] 46 [vI t18.Lo,vI t18.Hi])<|.nil) [4,61,999999] λu17 a w' H=>?_
    refine qB ?_
    obtain rfl:=sj G
    exact qY H _ 61 (nn u1 2) [vI t18.Lo,vI t18.Hi] 46 0 2
   rw [if_neg c20] at G
   cases G
  rw [if_neg c21] at G
  by_cases c22:t9=1
  ·rw [if_pos c22] at G; subst c22
   replace G:=qO G; obtain ⟨t10,ht10,G⟩:=G
   by_cases c19:t10=0
   ·rw [if_pos c19] at G; subst c19
    refine Qq qd H (.cons [23] (qf (.agg #[vI a0.Lo,vI a0.Hi]) 23 59 0 2 (nn u1 0) [vI a0.Lo,vI a0.Hi] 46)<|.cons [24] (qm 136 _ _ 24 [] (λu8 w _=>Xo.calls a0 1 w ht9))<|.v 25 (vP (nn u1 1) 0)<|.cons [26] (qf (vI a1.Lo) 26 60 0 1 (nn u1 1) [vI a1.Lo,vI a1.Hi] 46)<|.v 27 (.bool (decide (a1.Lo>0)))<|.cons [28] (qm 144 _ _ 28 [] (λu8 w _=>QY.calls (decide (a1.Lo>0)) 1 0 0 w ht10))<|.v 29 (vP 2 4)<|.v 30 (vP 2 4)<|.cons [31] (QV (λu8=>.agg #[.func (.func 178) #[] #[],.func (.func 180) #[] #[]]) 31 999999 gk 2 4 2 qaf (λw h=>(Qy h).tab2))<|.cons [5,62] (qn (λb=>vP b 0) (λu8=>[.nilFunc,.nilFunc]) 226 5 62)<|.cons [62] (QF (u':=λu8=>[(62,.blk (nn u8 9) [.func (.func 178) #[] #[],.func (.func 180) #[] #[]] 226)]) (qK 62 0 (λu8=>(nn u8 9)) (λu8=>[.nilFunc,.nilFunc]) (λu8=>[.func (.func 178) #[] #[],.func (.func 180) #[] #[]]) 226) (λ_=>by kernel_rfl))<|.nil) [2,3,4,5,59,60,61,62,999999] λu8 a w' H=>?_
    replace G:=qO G; obtain ⟨t12,ht12,G⟩:=G
    replace G:=qO G; obtain ⟨t13,ht13,G⟩:=G
    refine qg qd H (.v 33 (vP (nn u8 9) 0)<|.cons [34] (qf (.func (.func 178) #[] #[]) 34 62 0 1 (nn u8 9) [.func (.func 178) #[] #[],.func (.func 180) #[] #[]] 226)<|.cons [35] (qf (.agg #[vI a0.Lo,vI a0.Hi]) 35 59 0 2 (nn u1 0) [vI a0.Lo,vI a0.Hi] 46)<|.cons [36] (qf (.agg #[vI a1.Lo,vI a1.Hi]) 36 60 0 2 (nn u1 1) [vI a1.Lo,vI a1.Hi] 46)<|.cons [37] (qm 178 _ _ 37 [] (λu11 w _=>Xi.calls a0 a1 t12 w ht12))<|.v 38 (vI t12.1)<|.v 39 (vI t12.2)<|.cons [40] (qm 145 _ _ 40 [] (λu11 w _=>Q1.calls t12.1 t12.2 t13 w ht13))<|.v 32 (.tuple #[vI t13.1,vI t13.2.1,vI t13.2.2])<|.v 41 (vI t13.1)<|.v 42 (vI t13.2.1)<|.v 43 (vI t13.2.2)<|.v 6 (vI t13.1)<|.v 7 (vI t13.2.1)<|.v 8 (vI t13.2.2)<|.nil) [2,3,4,5,6,59,60,61,62,999999] λu11 a w' H=>?_
    replace G:=qO G; obtain ⟨t15,ht15,G⟩:=G
    replace G:=qO G; obtain ⟨t16,ht16,G⟩:=G
    refine qg qd H (.v 45 (vP (nn u8 9) 1)<|.cons [46] (qf (.func (.func 180) #[] #[]) 46 62 1 1 (nn u8 9) [.func (.func 178) #[] #[],.func (.func 180) #[] #[]] 226)<|.cons [47] (qf (.agg #[vI a0.Lo,vI a0.Hi]) 47 59 0 2 (nn u1 0) [vI a0.Lo,vI a0.Hi] 46)<|.cons [48] (qf (.agg #[vI a1.Lo,vI a1.Hi]) 48 60 0 2 (nn u1 1) [vI a1.Lo,vI a1.Hi] 46)<|.cons [49] (qm 180 _ _ 49 [] (λu14 w _=>Xk.calls a0 a1 t15 w ht15))<|.v 50 (vI t15.1)<|.v 51 (vI t15.2)<|.cons [52] (qm 145 _ _ 52 [] (λu14 w _=>Q1.calls t15.1 t15.2 t16 w ht16))<|.v 44 (.tuple #[vI t16.1,vI t16.2.1,vI t16.2.2])<|.v 53 (vI t16.1)<|.v 54 (vI t16.2.1)<|.v 55 (vI t16.2.2)<|.v 9 (vI t16.1)<|.v 10 (vI t16.2.1)<|.v 11 (vI t16.2.2)<|.nil) [4,6,10,61,999999] λu14 a w' H=>?_
    replace G:=qO G; obtain ⟨t18,ht18,G⟩:=G
    refine qg qd H (.v 56 (vI t13.1)<|.v 57 (vI t16.2.1)<|.cons [58] (qm 68 _ _ 58 [] (λu17 w _=>qD.calls t13.1 t16.2.1 t18 w ht18))<|.cons [61] (qQ 61 0 (nn u1 2) [vI 0,vI 0] [vI t18.Lo,vI t18.Hi] 46 [vI t18.Lo,vI t18.Hi])<|.nil) [4,61,999999] λu17 a w' H=>?_
    refine qB ?_
    obtain rfl:=sj G
    exact qY H _ 61 (nn u1 2) [vI t18.Lo,vI t18.Hi] 46 0 2
   rw [if_neg c19] at G
   by_cases c20:t10=1
   ·rw [if_pos c20] at G; subst c20
    refine Qq qd H (.cons [23] (qf (.agg #[vI a0.Lo,vI a0.Hi]) 23 59 0 2 (nn u1 0) [vI a0.Lo,vI a0.Hi] 46)<|.cons [24] (qm 136 _ _ 24 [] (λu8 w _=>Xo.calls a0 1 w ht9))<|.v 25 (vP (nn u1 1) 0)<|.cons [26] (qf (vI a1.Lo) 26 60 0 1 (nn u1 1) [vI a1.Lo,vI a1.Hi] 46)<|.v 27 (.bool (decide (a1.Lo>0)))<|.cons [28] (qm 144 _ _ 28 [] (λu8 w _=>QY.calls (decide (a1.Lo>0)) 1 0 1 w ht10))<|.v 29 (vP 2 4)<|.v 30 (vP 2 6)<|.cons [31] (QV (λu8=>.agg #[.func (.func 179) #[] #[],.func (.func 181) #[] #[]]) 31 999999 gk 2 6 2 qaf (λw h=>(Qy h).tab2))<|.cons [5,62] (qn (λb=>vP b 0) (λu8=>[.nilFunc,.nilFunc]) 226 5 62)<|.cons [62] (QF (u':=λu8=>[(62,.blk (nn u8 9) [.func (.func 179) #[] #[],.func (.func 181) #[] #[]] 226)]) (qK 62 0 (λu8=>(nn u8 9)) (λu8=>[.nilFunc,.nilFunc]) (λu8=>[.func (.func 179) #[] #[],.func (.func 181) #[] #[]]) 226) (λ_=>by kernel_rfl))<|.nil) [2,3,4,5,59,60,61,62,999999] λu8 a w' H=>?_
    replace G:=qO G; obtain ⟨t12,ht12,G⟩:=G
    replace G:=qO G; obtain ⟨t13,ht13,G⟩:=G
    refine qg qd H (.v 33 (vP (nn u8 9) 0)<|.cons [34] (qf (.func (.func 179) #[] #[]) 34 62 0 1 (nn u8 9) [.func (.func 179) #[] #[],.func (.func 181) #[] #[]] 226)<|.cons [35] (qf (.agg #[vI a0.Lo,vI a0.Hi]) 35 59 0 2 (nn u1 0) [vI a0.Lo,vI a0.Hi] 46)<|.cons [36] (qf (.agg #[vI a1.Lo,vI a1.Hi]) 36 60 0 2 (nn u1 1) [vI a1.Lo,vI a1.Hi] 46)<|.cons [37] (qm 179 _ _ 37 [] (λu11 w _=>Xj.calls a0 a1 t12 w ht12))<|.v 38 (vI t12.1)<|.v 39 (vI t12.2)<|.cons [40] (qm 145 _ _ 40 [] (λu11 w _=>Q1.calls t12.1 t12.2 t13 w ht13))<|.v 32 (.tuple #[vI t13.1,vI t13.2.1,vI t13.2.2])<|.v 41 (vI t13.1)<|.v 42 (vI t13.2.1)<|.v 43 (vI t13.2.2)<|.v 6 (vI t13.1)<|.v 7 (vI t13.2.1)<|.v 8 (vI t13.2.2)<|.nil) [2,3,4,5,6,59,60,61,62,999999] λu11 a w' H=>?_
    replace G:=qO G; obtain ⟨t15,ht15,G⟩:=G
    replace G:=qO G; obtain ⟨t16,ht16,G⟩:=G
    refine qg qd H (.v 45 (vP (nn u8 9) 1)<|.cons [46] (qf (.func (.func 181) #[] #[]) 46 62 1 1 (nn u8 9) [.func (.func 179) #[] #[],.func (.func 181) #[] #[]] 226)<|.cons [47] (qf (.agg #[vI a0.Lo,vI a0.Hi]) 47 59 0 2 (nn u1 0) [vI a0.Lo,vI a0.Hi] 46)<|.cons [48] (qf (.agg #[vI a1.Lo,vI a1.Hi]) 48 60 0 2 (nn u1 1) [vI a1.Lo,vI a1.Hi] 46)<|.cons [49] (qm 181 _ _ 49 [] (λu14 w _=>Xl.calls a0 a1 t15 w ht15))<|.v 50 (vI t15.1)<|.v 51 (vI t15.2)<|.cons [52] (qm 145 _ _ 52 [] (λu14 w _=>Q1.calls t15.1 t15.2 t16 w ht16))<|.v 44 (.tuple #[vI t16.1,vI t16.2.1,vI t16.2.2])<|.v 53 (vI t16.1)<|.v 54 (vI t16.2.1)<|.v 55 (vI t16.2.2)<|.v 9 (vI t16.1)<|.v 10 (vI t16.2.1)<|.v 11 (vI t16.2.2)<|.nil) [4,6,10,61,999999] λu14 a w' H=>?_
    replace G:=qO G; obtain ⟨t18,ht18,G⟩:=G
    refine qg qd H (.v 56 (vI t13.1)<|.v 57 (vI t16.2.1)<|.cons [58] (qm 68 _ _ 58 [] (λu17 w _=>qD.calls t13.1 t16.2.1 t18 w ht18))<|.cons [61] (qQ 61 0 (nn u1 2) [vI 0,vI 0] [vI t18.Lo,vI t18.Hi] 46 [vI t18.Lo,vI t18.Hi])<|.nil) [4,61,999999] λu17 a w' H=>?_
    refine qB ?_
    obtain rfl:=sj G
    exact qY H _ 61 (nn u1 2) [vI t18.Lo,vI t18.Hi] 46 0 2
   rw [if_neg c20] at G
   cases G
  rw [if_neg c22] at G
  by_cases c23:t9=2
  ·rw [if_pos c23] at G; subst c23
   replace G:=qO G; obtain ⟨t10,ht10,G⟩:=G
   by_cases c19:t10=0
   ·rw [if_pos c19] at G; subst c19
    refine Qq qd H (.cons [23] (qf (.agg #[vI a0.Lo,vI a0.Hi]) 23 59 0 2 (nn u1 0) [vI a0.Lo,vI a0.Hi] 46)<|.cons [24] (qm 136 _ _ 24 [] (λu8 w _=>Xo.calls a0 2 w ht9))<|.v 25 (vP (nn u1 1) 0)<|.cons [26] (qf (vI a1.Lo) 26 60 0 1 (nn u1 1) [vI a1.Lo,vI a1.Hi] 46)<|.v 27 (.bool (decide (a1.Lo>0)))<|.cons [28] (qm 144 _ _ 28 [] (λu8 w _=>QY.calls (decide (a1.Lo>0)) 1 0 0 w ht10))<|.v 29 (vP 2 8)<|.v 30 (vP 2 8)<|.cons [31] (QV (λu8=>.agg #[.func (.func 178) #[] #[],.func (.func 179) #[] #[]]) 31 999999 gk 2 8 2 qaf (λw h=>(Qy h).tab2))<|.cons [5,62] (qn (λb=>vP b 0) (λu8=>[.nilFunc,.nilFunc]) 226 5 62)<|.cons [62] (QF (u':=λu8=>[(62,.blk (nn u8 9) [.func (.func 178) #[] #[],.func (.func 179) #[] #[]] 226)]) (qK 62 0 (λu8=>(nn u8 9)) (λu8=>[.nilFunc,.nilFunc]) (λu8=>[.func (.func 178) #[] #[],.func (.func 179) #[] #[]]) 226) (λ_=>by kernel_rfl))<|.nil) [2,3,4,5,59,60,61,62,999999] λu8 a w' H=>?_
    replace G:=qO G; obtain ⟨t12,ht12,G⟩:=G
    replace G:=qO G; obtain ⟨t13,ht13,G⟩:=G
    refine qg qd H (.v 33 (vP (nn u8 9) 0)<|.cons [34] (qf (.func (.func 178) #[] #[]) 34 62 0 1 (nn u8 9) [.func (.func 178) #[] #[],.func (.func 179) #[] #[]] 226)<|.cons [35] (qf (.agg #[vI a0.Lo,vI a0.Hi]) 35 59 0 2 (nn u1 0) [vI a0.Lo,vI a0.Hi] 46)<|.cons [36] (qf (.agg #[vI a1.Lo,vI a1.Hi]) 36 60 0 2 (nn u1 1) [vI a1.Lo,vI a1.Hi] 46)<|.cons [37] (qm 178 _ _ 37 [] (λu11 w _=>Xi.calls a0 a1 t12 w ht12))<|.v 38 (vI t12.1)<|.v 39 (vI t12.2)<|.cons [40] (qm 145 _ _ 40 [] (λu11 w _=>Q1.calls t12.1 t12.2 t13 w ht13))<|.v 32 (.tuple #[vI t13.1,vI t13.2.1,vI t13.2.2])<|.v 41 (vI t13.1)<|.v 42 (vI t13.2.1)<|.v 43 (vI t13.2.2)<|.v 6 (vI t13.1)<|.v 7 (vI t13.2.1)<|.v 8 (vI t13.2.2)<|.nil) [2,3,4,5,6,59,60,61,62,999999] λu11 a w' H=>?_
    replace G:=qO G; obtain ⟨t15,ht15,G⟩:=G
    replace G:=qO G; obtain ⟨t16,ht16,G⟩:=G
    refine qg qd H (.v 45 (vP (nn u8 9) 1)<|.cons [46] (qf (.func (.func 179) #[] #[]) 46 62 1 1 (nn u8 9) [.func (.func 178) #[] #[],.func (.func 179) #[] #[]] 226)<|.cons [47] (qf (.agg #[vI a0.Lo,vI a0.Hi]) 47 59 0 2 (nn u1 0) [vI a0.Lo,vI a0.Hi] 46)<|.cons [48] (qf (.agg #[vI a1.Lo,vI a1.Hi]) 48 60 0 2 (nn u1 1) [vI a1.Lo,vI a1.Hi] 46)<|.cons [49] (qm 179 _ _ 49 [] (λu14 w _=>Xj.calls a0 a1 t15 w ht15))<|.v 50 (vI t15.1)<|.v 51 (vI t15.2)<|.cons [52] (qm 145 _ _ 52 [] (λu14 w _=>Q1.calls t15.1 t15.2 t16 w ht16))<|.v 44 (.tuple #[vI t16.1,vI t16.2.1,vI t16.2.2])<|.v 53 (vI t16.1)<|.v 54 (vI t16.2.1)<|.v 55 (vI t16.2.2)<|.v 9 (vI t16.1)<|.v 10 (vI t16.2.1)<|.v 11 (vI t16.2.2)<|.nil) [4,6,10,61,999999] λu14 a w' H=>?_
    replace G:=qO G; obtain ⟨t18,ht18,G⟩:=G
    refine qg qd H (.v 56 (vI t13.1)<|.v 57 (vI t16.2.1)<|.cons [58] (qm 68 _ _ 58 [] (λu17 w _=>qD.calls t13.1 t16.2.1 t18 w ht18))<|.cons [61] (qQ 61 0 (nn u1 2) [vI 0,vI 0] [vI t18.Lo,vI t18.Hi] 46 [vI t18.Lo,vI t18.Hi])<|.nil) [4,61,999999] λu17 a w' H=>?_
    refine qB ?_
    obtain rfl:=sj G
    exact qY H _ 61 (nn u1 2) [vI t18.Lo,vI t18.Hi] 46 0 2
   rw [if_neg c19] at G
   by_cases c20:t10=1
   ·rw [if_pos c20] at G; subst c20
    refine Qq qd H (.cons [23] (qf (.agg #[vI a0.Lo,vI a0.Hi]) 23 59 0 2 (nn u1 0) [vI a0.Lo,vI a0.Hi] 46)<|.cons [24] (qm 136 _ _ 24 [] (λu8 w _=>Xo.calls a0 2 w ht9))<|.v 25 (vP (nn u1 1) 0)<|.cons [26] (qf (vI a1.Lo) 26 60 0 1 (nn u1 1) [vI a1.Lo,vI a1.Hi] 46)<|.v 27 (.bool (decide (a1.Lo>0)))<|.cons [28] (qm 144 _ _ 28 [] (λu8 w _=>QY.calls (decide (a1.Lo>0)) 1 0 1 w ht10))<|.v 29 (vP 2 8)<|.v 30 (vP 2 10)<|.cons [31] (QV (λu8=>.agg #[.func (.func 180) #[] #[],.func (.func 181) #[] #[]]) 31 999999 gk 2 10 2 qaf (λw h=>(Qy h).tab2))<|.cons [5,62] (qn (λb=>vP b 0) (λu8=>[.nilFunc,.nilFunc]) 226 5 62)<|.cons [62] (QF (u':=λu8=>[(62,.blk (nn u8 9) [.func (.func 180) #[] #[],.func (.func 181) #[] #[]] 226)]) (qK 62 0 (λu8=>(nn u8 9)) (λu8=>[.nilFunc,.nilFunc]) (λu8=>[.func (.func 180) #[] #[],.func (.func 181) #[] #[]]) 226) (λ_=>by kernel_rfl))<|.nil) [2,3,4,5,59,60,61,62,999999] λu8 a w' H=>?_
    replace G:=qO G; obtain ⟨t12,ht12,G⟩:=G
    replace G:=qO G; obtain ⟨t13,ht13,G⟩:=G
    refine qg qd H (.v 33 (vP (nn u8 9) 0)<|.cons [34] (qf (.func (.func 180) #[] #[]) 34 62 0 1 (nn u8 9) [.func (.func 180) #[] #[],.func (.func 181) #[] #[]] 226)<|.cons [35] (qf (.agg #[vI a0.Lo,vI a0.Hi]) 35 59 0 2 (nn u1 0) [vI a0.Lo,vI a0.Hi] 46)<|.cons [36] (qf (.agg #[vI a1.Lo,vI a1.Hi]) 36 60 0 2 (nn u1 1) [vI a1.Lo,vI a1.Hi] 46)<|.cons [37] (qm 180 _ _ 37 [] (λu11 w _=>Xk.calls a0 a1 t12 w ht12))<|.v 38 (vI t12.1)<|.v 39 (vI t12.2)<|.cons [40] (qm 145 _ _ 40 [] (λu11 w _=>Q1.calls t12.1 t12.2 t13 w ht13))<|.v 32 (.tuple #[vI t13.1,vI t13.2.1,vI t13.2.2])<|.v 41 (vI t13.1)<|.v 42 (vI t13.2.1)<|.v 43 (vI t13.2.2)<|.v 6 (vI t13.1)<|.v 7 (vI t13.2.1)<|.v 8 (vI t13.2.2)<|.nil) [2,3,4,5,6,59,60,61,62,999999] λu11 a w' H=>?_
    replace G:=qO G; obtain ⟨t15,ht15,G⟩:=G
    replace G:=qO G; obtain ⟨t16,ht16,G⟩:=G
    refine qg qd H (.v 45 (vP (nn u8 9) 1)<|.cons [46] (qf (.func (.func 181) #[] #[]) 46 62 1 1 (nn u8 9) [.func (.func 180) #[] #[],.func (.func 181) #[] #[]] 226)<|.cons [47] (qf (.agg #[vI a0.Lo,vI a0.Hi]) 47 59 0 2 (nn u1 0) [vI a0.Lo,vI a0.Hi] 46)<|.cons [48] (qf (.agg #[vI a1.Lo,vI a1.Hi]) 48 60 0 2 (nn u1 1) [vI a1.Lo,vI a1.Hi] 46)<|.cons [49] (qm 181 _ _ 49 [] (λu14 w _=>Xl.calls a0 a1 t15 w ht15))<|.v 50 (vI t15.1)<|.v 51 (vI t15.2)<|.cons [52] (qm 145 _ _ 52 [] (λu14 w _=>Q1.calls t15.1 t15.2 t16 w ht16))<|.v 44 (.tuple #[vI t16.1,vI t16.2.1,vI t16.2.2])<|.v 53 (vI t16.1)<|.v 54 (vI t16.2.1)<|.v 55 (vI t16.2.2)<|.v 9 (vI t16.1)<|.v 10 (vI t16.2.1)<|.v 11 (vI t16.2.2)<|.nil) [4,6,10,61,999999] λu14 a w' H=>?_
    replace G:=qO G; obtain ⟨t18,ht18,G⟩:=G
    refine qg qd H (.v 56 (vI t13.1)<|.v 57 (vI t16.2.1)<|.cons [58] (qm 68 _ _ 58 [] (λu17 w _=>qD.calls t13.1 t16.2.1 t18 w ht18))<|.cons [61] (qQ 61 0 (nn u1 2) [vI 0,vI 0] [vI t18.Lo,vI t18.Hi] 46 [vI t18.Lo,vI t18.Hi])<|.nil) [4,61,999999] λu17 a w' H=>?_
    refine qB ?_
    obtain rfl:=sj G
    exact qY H _ 61 (nn u1 2) [vI t18.Lo,vI t18.Hi] 46 0 2
   rw [if_neg c20] at G
   cases G
  rw [if_neg c23] at G
  cases G
theorem ZX.calls (a0:Int)(r:Int)(w:World)(G:ZX a0=some r) :
  Calls Tryz.prog 147 #[.int .u64 a0] w λe w'=>e = .returned (vI r)∧Below w.heap.size w w':=by
 refine Qs (args:=[.int .u64 a0]) 25 Tryz.func147 rfl λa H=>?_
 unfold ZX at G
 refine qg qd H (.v 2 (vI 0)<|.nil) [0,2] λu1 a w' H=>?_
 refine qs ?_
 obtain ⟨j4,hj4,G⟩:=qO G
 refine Xu (λa w'=>RL w 25 [(0,.slot true (.int .u64 j4.1)),(2,sI j4.2)] a w') ?_ ?_
 ·clear H; intro a w' H
  refine qs ?_
  obtain ⟨j7,hj7,G⟩:=qO G
  refine Xu (λa w'=>RL w 25 [(0,.slot true (.int .u64 j7.1)),(2,sI j7.2)] a w') ?_ ?_
  ·clear H; intro a w' H
   refine qs ?_
   obtain ⟨j10,hj10,G⟩:=qO G
   refine Xu (λa w'=>RL w 25 [(0,.slot true (.int .u64 j10.1)),(2,sI j10.2)] a w') ?_ ?_
   ·clear H; intro a w' H
    obtain ⟨t12,ht12,G⟩:=qO G
    refine qg qd H (.v 19 (vI j10.2)<|.v 20 (.int .u64 j10.1)<|.v 21 (.int .u8 (qej j10.1))<|.cons [22] (qr (λu11=>.int .u8 t12) 22 (hv:=λ_ _=>Zt (by kernel_rfl) (qbd (t:=9) (s:=(⟨#[0,1,2,2,3,3,3,3,4,4,4,4,4,4,4,4,5,5,5,5,5,5,5,5,5,5,5,5,5,5,5,5,6,6,6,6,6,6,6,6,6,6,6,6,6,6,6,6,6,6,6,6,6,6,6,6,6,6,6,6,6,6,6,6,7,7,7,7,7,7,7,7,7,7,7,7,7,7,7,7,7,7,7,7,7,7,7,7,7,7,7,7,7,7,7,7,7,7,7,7,7,7,7,7,7,7,7,7,7,7,7,7,7,7,7,7,7,7,7,7,7,7,7,7,7,7,7,7,8,8,8,8,8,8,8,8,8,8,8,8,8,8,8,8,8,8,8,8,8,8,8,8,8,8,8,8,8,8,8,8,8,8,8,8,8,8,8,8,8,8,8,8,8,8,8,8,8,8,8,8,8,8,8,8,8,8,8,8,8,8,8,8,8,8,8,8,8,8,8,8,8,8,8,8,8,8,8,8,8,8,8,8,8,8,8,8,8,8,8,8,8,8,8,8,8,8,8,8,8,8,8,8,8,8,8,8,8,8,8,8,8,8,8,8,8,8,8,8,8,8,8,8,8,8,8,8]⟩:ByteArray)) (k:=.u8) (i:=qej j10.1) (by kernel_rfl) ht12)))<|.v 23 (vI (qc t12))<|.v 24 (vI (qc (j10.2+(qc t12))))<|.v 2 (vI (qc (j10.2+(qc t12))))<|.nil) [2] λu11 a w' H=>?_
    refine qB ?_
    obtain rfl:=sj G
    exact Qr H _
   ·clear G; replace G:=hj10; clear hj10
    refine qg qd H (.v 13 (.int .u64 j7.1)<|.v 14 (.bool (decide (j7.1>=256)))<|.nil) [0,2,14] λu13 a w' H=>?_
    refine Qu H (decide (j7.1>=256)) (λc16=>?_) λc16=>?_
    ·rw [if_pos c16] at G
     refine qg qd H (.v 15 (.int .u64 j7.1)<|.v 16 (.int .u64 (Int.fdiv j7.1 256))<|.v 0 (.int .u64 (Int.fdiv j7.1 256))<|.nil) [0,2] λu14 a w' H=>?_
     refine Qq qd H (.v 17 (vI j7.2)<|.v 18 (vI (qc (j7.2+8)))<|.v 2 (vI (qc (j7.2+8)))<|.nil) [0,2] λu15 a w' H=>?_
     obtain rfl:=sj G
     exact H.toM _
    ·rw [if_neg (nt c16)] at G
     refine q8 ?_
     obtain rfl:=sj G
     exact H.toM _
  ·clear G; replace G:=hj7; clear hj7
   refine qg qd H (.v 7 (.int .u64 j4.1)<|.v 8 (.bool (decide (j4.1>=65536)))<|.nil) [0,2,8] λu17 a w' H=>?_
   refine Qu H (decide (j4.1>=65536)) (λc20=>?_) λc20=>?_
   ·rw [if_pos c20] at G
    refine qg qd H (.v 9 (.int .u64 j4.1)<|.v 10 (.int .u64 (Int.fdiv j4.1 65536))<|.v 0 (.int .u64 (Int.fdiv j4.1 65536))<|.nil) [0,2] λu18 a w' H=>?_
    refine Qq qd H (.v 11 (vI j4.2)<|.v 12 (vI (qc (j4.2+16)))<|.v 2 (vI (qc (j4.2+16)))<|.nil) [0,2] λu19 a w' H=>?_
    obtain rfl:=sj G
    exact H.toM _
   ·rw [if_neg (nt c20)] at G
    refine q8 ?_
    obtain rfl:=sj G
    exact H.toM _
 ·clear G; replace G:=hj4; clear hj4
  refine qg qd H (.v 3 (.int .u64 a0)<|.v 4 (.bool (decide (a0>=4294967296)))<|.nil) [0,2,4] λu21 a w' H=>?_
  refine Qu H (decide (a0>=4294967296)) (λc24=>?_) λc24=>?_
  ·rw [if_pos c24] at G
   refine qg qd H (.v 5 (.int .u64 a0)<|.v 6 (.int .u64 (Int.fdiv a0 4294967296))<|.v 0 (.int .u64 (Int.fdiv a0 4294967296))<|.nil) [0] λu22 a w' H=>?_
   refine Qq qd H (.v 2 (vI 32)<|.nil) [0,2] λu23 a w' H=>?_
   obtain rfl:=sj G
   exact H.toM _
  ·rw [if_neg (nt c24)] at G
   refine q8 ?_
   obtain rfl:=sj G
   exact H.toM _
theorem XQ.calls (k0:Nat)(a0:Int)(r:Int×Int×Int)(w:World)(G:XQ k0 a0=some r) :
  Calls Tryz.prog 146 #[vI a0] w λe w'=>e = .returned (.tuple #[vI r.1,vI r.2.1,vI r.2.2])∧Below w.heap.size w w':=by
 refine Qs (args:=[vI a0]) 40 Tryz.func146 rfl λa H=>?_
 unfold XQ at G
 refine qg qd H (.v 2 (vI 0)<|.v 3 (vI 0)<|.v 4 (vI 0)<|.nil) [0] λu1 a w' H=>?_
 refine qdz ?_
 refine qs ?_
 refine qg qd H (.v 8 (vI a0)<|.v 9 (.bool (decide (a0<0)))<|.nil) [0,9] λu2 a w' H=>?_
 refine Qu H (decide (a0<0)) (λc25=>?_) λc25=>?_
 ·rw [if_pos c25] at G
  refine qg qd H (.v 2 (vI 0)<|.v 3 (vI 0)<|.v 4 (vI 4)<|.nil) [2,3,4] λu3 a w' H=>?_
  refine qB ?_
  obtain rfl:=sj G
  exact Qr H _
 ·rw [if_neg (nt c25)] at G
  refine q8 ?_
  refine qg qd H (.v 10 (vI a0)<|.v 11 (vI (qc (a0*65536)))<|.v 5 (vI (qc (a0*65536)))<|.nil) [5] λu4 a w' H=>?_
  refine qs ?_
  refine qg qd H (.v 12 (vI (qc (a0*65536)))<|.v 13 (.bool ((qc (a0*65536))==0))<|.nil) [5,13] λu5 a w' H=>?_
  refine Qu H ((qc (a0*65536))==0) (λc24=>?_) λc24=>?_
  ·rw [if_pos c24] at G
   refine qg qd H (.v 2 (vI 0)<|.v 3 (vI 0)<|.v 4 (vI 0)<|.nil) [2,3,4] λu6 a w' H=>?_
   refine qB ?_
   obtain rfl:=sj G
   exact Qr H _
  ·rw [if_neg (nt c24)] at G
   refine q8 ?_
   refine qs ?_
   obtain ⟨t8,ht8,G⟩:=qO G
   replace G:=gd G; obtain ⟨n9,G⟩:=G
   refine Qq qd H (.v 14 (vI (qc (a0*65536)))<|.v 15 (.int .u64 (Z3 (qc (a0*65536))))<|.cons [16] (qm 147 _ _ 16 [] (λu7 w _=>ZX.calls (Z3 (qc (a0*65536))) t8 w ht8))<|.v 17 (vI (qc (t8+1)))<|.v 18 (vI (qc (Int.tdiv (qc (t8+1)) 2)))<|.cons [19] (qr (λu7=>vI (qc (1*2 ^ (min (qc (Int.tdiv (qc (t8+1)) 2)).toNat 64)))) 19 (hv:=λ_ _=>Zt (by kernel_rfl) (qgO (k:=.i64) (yk:=.i64) (x:=1) (y:=qc (Int.tdiv (qc (t8+1)) 2)) n9)))<|.v 6 (vI (qc (1*2 ^ (min (qc (Int.tdiv (qc (t8+1)) 2)).toNat 64))))<|.nil) [5,6] λu7 a w' H=>?_
   refine qs ?_
   refine qdC ?_
   refine qs ?_
   obtain ⟨j11,hj11,G⟩:=qO G
   refine Xu (λa w'=>RL w 40 [(5,(sI (qc (a0*65536)))),(6,sI j11)] a w') ?_ ?_
   ·clear H; intro a w' H
    refine qs ?_
    refine qg qd H (.v 30 (vI j11)<|.v 31 (vI j11)<|.v 32 (vI (qc (j11*j11)))<|.v 33 (vI (qc (a0*65536)))<|.v 34 (.bool (decide ((qc (j11*j11))<(qc (a0*65536)))))<|.nil) [6,34] λu12 a w' H=>?_
    refine Qu H (decide ((qc (j11*j11))<(qc (a0*65536)))) (λc15=>?_) λc15=>?_
    ·rw [if_pos c15] at G
     refine qg qd H (.v 35 (vI j11)<|.v 36 (vI j11)<|.v 37 (vI (qc (j11+1)))<|.v 2 (vI j11)<|.v 3 (vI (qc (j11+1)))<|.v 4 (vI 0)<|.nil) [2,3,4] λu13 a w' H=>?_
     refine qB ?_
     obtain rfl:=sj G
     exact Qr H _
    ·rw [if_neg (nt c15)] at G
     refine q8 ?_
     refine qg qd H (.v 38 (vI j11)<|.v 39 (vI j11)<|.v 2 (vI j11)<|.v 3 (vI j11)<|.v 4 (vI 0)<|.nil) [2,3,4] λu14 a w' H=>?_
     refine qB ?_
     obtain rfl:=sj G
     exact Qr H _
   ·clear G; replace G:=hj11; clear hj11
    refine qV ?_
    refine XY (λm a w'=>∃ x16:Int,XQ.l17 k0 a0 t8 m x16=some j11∧RL w 40 [(5,(sI (qc (a0*65536)))),(6,sI x16)] a w') k0 ⟨_,G,H.toM _⟩ ?_
    clear G H
    rintro (_ | k) a w' ⟨x16,G,H⟩
    ·exact absurd G (by unfold XQ.l17; exact λh=>by cases h)
    ·unfold XQ.l17 at G
     refine qV ?_
     refine qs ?_
     replace G:=gd G; obtain ⟨n19,G⟩:=G
     refine Qq qd H (.v 20 (vI x16)<|.v 21 (vI (qc (a0*65536)))<|.v 22 (vI x16)<|.cons [23] (qr (λu18=>vI (qc (Int.tdiv (qc (a0*65536)) x16))) 23 (hv:=λ_ _=>Zt (by kernel_rfl) (qdV (k:=.i64) (x:=qc (a0*65536)) (y:=x16) n19)))<|.v 24 (vI (qc (x16+(qc (Int.tdiv (qc (a0*65536)) x16)))))<|.v 25 (vI (qc (Int.tdiv (qc (x16+(qc (Int.tdiv (qc (a0*65536)) x16)))) 2)))<|.v 7 (vI (qc (Int.tdiv (qc (x16+(qc (Int.tdiv (qc (a0*65536)) x16)))) 2)))<|.nil) [5,6,7] λu18 a w' H=>?_
     refine qs ?_
     obtain ⟨z21,hz21,G⟩:=qO G
     replace hz21:=Option.some.inj hz21
     refine qg qd H (.v 26 (vI (qc (Int.tdiv (qc (x16+(qc (Int.tdiv (qc (a0*65536)) x16)))) 2)))<|.v 27 (vI x16)<|.cons [28] (QF (u':=λu20=>[(28,sB z21)]) (qr (λu20=>.bool (decide ((qc (Int.tdiv (qc (x16+(qc (Int.tdiv (qc (a0*65536)) x16)))) 2))>=x16))) 28) (λ_=>by rw [<- hz21]))<|.nil) [5,6,7,28] λu20 a w' H=>?_
     refine Qu H z21 (λc23=>?_) λc23=>?_
     ·rw [if_pos c23] at G
      refine Yx rfl ?_
      obtain rfl:=sj G
      exact H.toM _
     ·rw [if_neg (nt c23)] at G
      refine q8 ?_
      refine Qq qd H (.v 29 (vI (qc (Int.tdiv (qc (x16+(qc (Int.tdiv (qc (a0*65536)) x16)))) 2)))<|.v 6 (vI (qc (Int.tdiv (qc (x16+(qc (Int.tdiv (qc (a0*65536)) x16)))) 2)))<|.nil) [5,6] λu22 a w' H=>?_
      exact ⟨k,Nat.lt_succ_self k,_,G,H.toM _⟩
theorem XD.calls (k0:Nat)(a0:qb)(r:qb×Bool)(w:World)(G:XD k0 a0=some r) :
  Calls Tryz.prog 138 #[.agg #[vI a0.Lo,vI a0.Hi]] w λe w'=>e = .returned (.tuple #[.agg #[vI r.1.Lo,vI r.1.Hi],.bool r.2])∧Below w.heap.size w w':=by
 refine Qs (args:=[.agg #[vI a0.Lo,vI a0.Hi]]) 37 Tryz.func138 rfl λa H=>?_
 unfold XD at G
 refine qg qd H (.cons [1,37] (qn (λb=>vP b 0) (λu1=>[vI a0.Lo,vI a0.Hi]) 46 1 37)<|.cons [2,38] (qn (λb=>vP b 0) (λu1=>[vI 0,vI 0]) 46 2 38)<|.v 3 (.bool false)<|.nil) [1,2,37,38] λu1 a w' H=>?_
 refine qs ?_
 refine qV ?_
 obtain ⟨t3,ht3,G⟩:=qO G
 refine qg qd H (.cons [11] (qf (.agg #[vI a0.Lo,vI a0.Hi]) 11 37 0 2 (nn u1 0) [vI a0.Lo,vI a0.Hi] 46)<|.cons [12] (qm 21 _ _ 12 [] (λu2 w _=>qN.calls a0 t3 w ht3))<|.v 10 (.bool t3)<|.nil) [1,2,10,37,38] λu2 a w' H=>?_
 refine Qu H t3 (λc14=>?_) λc14=>?_
 ·rw [if_pos c14] at G
  refine qg qd H (.cons [13] (qf (.agg #[vI a0.Lo,vI a0.Hi]) 13 37 0 2 (nn u1 0) [vI a0.Lo,vI a0.Hi] 46)<|.cons [38] (qQ 38 0 (nn u1 1) [vI 0,vI 0] [vI a0.Lo,vI a0.Hi] 46 [vI a0.Lo,vI a0.Hi])<|.v 3 (.bool true)<|.nil) [2,3,38] λu4 a w' H=>?_
  refine qB ?_
  obtain rfl:=sj G
  exact qY H _ 38 (nn u1 1) [vI a0.Lo,vI a0.Hi] 46 0 2
 ·rw [if_neg (nt c14)] at G
  refine qg qd H (.v 15 (vP (nn u1 0) 1)<|.cons [16] (qf (vI a0.Hi) 16 37 1 1 (nn u1 0) [vI a0.Lo,vI a0.Hi] 46)<|.v 17 (.bool (decide (a0.Hi<0)))<|.v 14 (.bool (decide (a0.Hi<0)))<|.nil) [1,2,14,37,38] λu5 a w' H=>?_
  refine Qu H (decide (a0.Hi<0)) (λc13=>?_) λc13=>?_
  ·rw [if_pos c13] at G
   refine qg qd H (.v 18 (.agg #[vI 0,vI 0])<|.cons [38] (qQ 38 0 (nn u1 1) [vI 0,vI 0] [vI 0,vI 0] 46 [vI 0,vI 0])<|.v 3 (.bool false)<|.nil) [2,3,38] λu6 a w' H=>?_
   refine qB ?_
   obtain rfl:=sj G
   exact qY H _ 38 (nn u1 1) [vI 0,vI 0] 46 0 2
  ·rw [if_neg (nt c13)] at G
   refine q8 ?_
   obtain ⟨t8,ht8,G⟩:=qO G
   refine qg qd H (.v 20 (vP (nn u1 0) 0)<|.cons [21] (qf (vI a0.Lo) 21 37 0 1 (nn u1 0) [vI a0.Lo,vI a0.Hi] 46)<|.v 22 (vI (mx a0.Lo 0))<|.cons [23] (qm 146 _ _ 23 [] (λu7 w _=>XQ.calls k0 (mx a0.Lo 0) t8 w ht8))<|.v 19 (.tuple #[vI t8.1,vI t8.2.1,vI t8.2.2])<|.v 24 (vI t8.1)<|.v 25 (vI t8.2.1)<|.v 26 (vI t8.2.2)<|.v 4 (vI t8.1)<|.v 5 (vI t8.2.1)<|.v 6 (vI t8.2.2)<|.nil) [1,2,4,37,38] λu7 a w' H=>?_
   obtain ⟨t10,ht10,G⟩:=qO G
   refine qg qd H (.v 28 (vP (nn u1 0) 1)<|.cons [29] (qf (vI a0.Hi) 29 37 1 1 (nn u1 0) [vI a0.Lo,vI a0.Hi] 46)<|.cons [30] (qm 146 _ _ 30 [] (λu9 w _=>XQ.calls k0 a0.Hi t10 w ht10))<|.v 27 (.tuple #[vI t10.1,vI t10.2.1,vI t10.2.2])<|.v 31 (vI t10.1)<|.v 32 (vI t10.2.1)<|.v 33 (vI t10.2.2)<|.v 7 (vI t10.1)<|.v 8 (vI t10.2.1)<|.v 9 (vI t10.2.2)<|.nil) [2,4,8,38] λu9 a w' H=>?_
   obtain ⟨t12,ht12,G⟩:=qO G
   refine qg qd H (.v 34 (vI t8.1)<|.v 35 (vI t10.2.1)<|.cons [36] (qm 68 _ _ 36 [] (λu11 w _=>qD.calls t8.1 t10.2.1 t12 w ht12))<|.cons [38] (qQ 38 0 (nn u1 1) [vI 0,vI 0] [vI t12.Lo,vI t12.Hi] 46 [vI t12.Lo,vI t12.Hi])<|.v 3 (.bool true)<|.nil) [2,3,38] λu11 a w' H=>?_
   refine qB ?_
   obtain rfl:=sj G
   exact qY H _ 38 (nn u1 1) [vI t12.Lo,vI t12.Hi] 46 0 2
theorem Jj.calls (k0:Nat)(a0:qb)(r:qb)(w:World)(G:Jj k0 a0=some r) :
  Calls Tryz.prog 182 #[.agg #[vI a0.Lo,vI a0.Hi]] w λe w'=>e = .returned (.agg #[vI r.Lo,vI r.Hi])∧Below w.heap.size w w':=by
 refine Qs (args:=[.agg #[vI a0.Lo,vI a0.Hi]]) 15 Tryz.func182 rfl λa H=>?_
 unfold Jj at G
 refine qg qd H (.cons [1,15] (qn (λb=>vP b 0) (λu1=>[vI a0.Lo,vI a0.Hi]) 46 1 15)<|.cons [2,16] (qn (λb=>vP b 0) (λu1=>[vI 0,vI 0]) 46 2 16)<|.nil) [1,2,15,16] λu1 a w' H=>?_
 refine qs ?_
 refine qg qd H (.v 5 (vP (nn u1 0) 0)<|.cons [6] (qf (vI a0.Lo) 6 15 0 1 (nn u1 0) [vI a0.Lo,vI a0.Hi] 46)<|.v 7 (.bool (decide (a0.Lo<0)))<|.nil) [1,2,7,15,16] λu2 a w' H=>?_
 refine Qu H (decide (a0.Lo<0)) (λc8=>?_) λc8=>?_
 ·rw [if_pos c8] at G
  obtain ⟨t4,ht4,G⟩:=qO G
  refine qg qd H (.cons [8] (qm 48 _ _ 8 [] (λu3 w _=>QG.calls t4 w ht4))<|.cons [16] (qQ 16 0 (nn u1 1) [vI 0,vI 0] [vI t4.Lo,vI t4.Hi] 46 [vI t4.Lo,vI t4.Hi])<|.nil) [2,16] λu3 a w' H=>?_
  refine qB ?_
  obtain rfl:=sj G
  exact qY H _ 16 (nn u1 1) [vI t4.Lo,vI t4.Hi] 46 0 2
 ·rw [if_neg (nt c8)] at G
  refine q8 ?_
  obtain ⟨t6,ht6,G⟩:=qO G
  refine qg qd H (.cons [10] (qf (.agg #[vI a0.Lo,vI a0.Hi]) 10 15 0 2 (nn u1 0) [vI a0.Lo,vI a0.Hi] 46)<|.cons [11] (qm 138 _ _ 11 [] (λu5 w _=>XD.calls k0 a0 t6 w ht6))<|.v 9 (.tuple #[.agg #[vI t6.1.Lo,vI t6.1.Hi],.bool t6.2])<|.v 12 (.agg #[vI t6.1.Lo,vI t6.1.Hi])<|.v 13 (.bool t6.2)<|.cons [3,17] (qn (λb=>vP b 0) (λu5=>[vI 0,vI 0]) 46 3 17)<|.cons [17] (QF (u':=λu5=>[(17,.blk (nn u5 5) [vI t6.1.Lo,vI t6.1.Hi] 46)]) (qK 17 0 (λu5=>(nn u5 5)) (λu5=>[vI 0,vI 0]) (λu5=>[vI t6.1.Lo,vI t6.1.Hi]) 46) (λ_=>by kernel_rfl))<|.v 4 (.bool t6.2)<|.nil) [2,3,16,17] λu5 a w' H=>?_
  refine qg qd H (.cons [14] (qf (.agg #[vI t6.1.Lo,vI t6.1.Hi]) 14 17 0 2 (nn u5 5) [vI t6.1.Lo,vI t6.1.Hi] 46)<|.cons [16] (qQ 16 0 (nn u1 1) [vI 0,vI 0] [vI t6.1.Lo,vI t6.1.Hi] 46 [vI t6.1.Lo,vI t6.1.Hi])<|.nil) [2,16] λu7 a w' H=>?_
  refine qB ?_
  obtain rfl:=sj G
  exact qY H _ 16 (nn u1 1) [vI t6.1.Lo,vI t6.1.Hi] 46 0 2
end Go.Proofs.YtpmgpcklieincaaGreatDoor
