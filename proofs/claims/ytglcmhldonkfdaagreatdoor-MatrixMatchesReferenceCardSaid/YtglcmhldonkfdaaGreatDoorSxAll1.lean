/- The framework's texts, put together. Own work. -/
import Derived.Test.YtglcmhldonkfdaaGreatDoorSxAll0
import Derived.WalkKit
import Derived.ProofKit
import Derived.OpenShut
import Derived.ShutString
import Derived.ChangeOld
import Derived.Below
import Derived.SizedLaws
import Derived.LaidMore
import Derived.LaidByTextLater
import Derived.SevenTiedAt
import Derived.Stop.Joined
import Derived.KernelRfl
import Derived.Deep.Slices
set_option linter.unusedVariables false
set_option linter.unusedSimpArgs false
namespace Go.Sx
open Go Go.RowKit
def qbd (ms : List Nat) (o : Oper) : Nat := (Vs o).foldr (fun e m => (m ||| 2 ^ e) ||| ms.getD e 0) 0
def Wf : List Oper → List (List Nat × List Nat) → Nat → List (Nat × List Nat × List Nat) → List Nat → Bool
  | o :: os, (R, W) :: rw, i, pre, ms => (pre.all fun x => Nat.testBit (qbd ms o) x.1 || (disj x.2.2 R && disj x.2.2 W && disj x.2.1 W && !(R.contains (TK + x.1)))) && Wf os rw (i + 1) ((i, R, W) :: pre) (ms ++ [qbd ms o])
  | _, _, _, _, _ => true
theorem qaA {ms : List Nat} {k : Nat} : ∀ {l : List Nat}, Nat.testBit (l.foldr (fun e m => (m ||| 2 ^ e) ||| ms.getD e 0) 0) k = true → ∃ e ∈ l, k = e ∨ Nat.testBit (ms.getD e 0) k = true
  | [], h => by simp at h
  | e :: l, h => by
    simp only [List.foldr_cons, Nat.testBit_or, Bool.or_eq_true] at h
    rcases h with (h | h) | h
    · obtain ⟨e', he', hk⟩ := qaA (l := l) h
      exact ⟨e', List.mem_cons_of_mem _ he', hk⟩
    · rw [Nat.testBit_two_pow] at h
      exact ⟨e, by simp, .inl (of_decide_eq_true h).symm⟩
    · exact ⟨e, by simp, .inr h⟩
def qcB (ops : List Oper) (ms : List Nat) : Prop := ms.length ≤ ops.length ∧ ∀ (m b : Nat) (o : Oper), ms[m]? = some b → ops[m]? = some o → ∀ k, Nat.testBit b k = true → ∀ D, qaQ ops D → (∀ e ∈ Vs o, D e = true) → D k = true
theorem qcN {ops : List Oper} {ms : List Nat} (h : qcB ops ms) {o : Oper} {k : Nat} (hk : Nat.testBit (qbd ms o) k = true) {D : Nat → Bool} (hD : qaQ ops D) (hp : ∀ e ∈ Vs o, D e = true) : D k = true := by
  obtain ⟨e, he, hk⟩ := qaA hk
  rcases hk with rfl | hk
  · exact hp _ he
  · cases hb : ms[e]? with
    | none => simp [List.getD, hb] at hk
    | some b =>
      simp only [List.getD, hb, Option.getD_some] at hk
      cases ho : ops[e]? with
      | none =>
        exfalso
        have h1 : e < ms.length := (List.getElem?_eq_some_iff.1 hb).1
        have h2 := h.1
        rw [List.getElem?_eq_none_iff] at ho
        omega
      | some oe => exact h.2 e b oe hb ho k hk D hD (hD e oe (hp e he) ho)
theorem W9 {ops : List Oper} {rwA : List (List Nat × List Nat)} : ∀ (os : List Oper) (rw : List (List Nat × List Nat)) (i : Nat) (pre : List (Nat × List Nat × List Nat)) (ms : List Nat), Wf os rw i pre ms = true → ms.length = i → qcB ops ms →
    (∀ j, os[j]? = ops[i + j]?) → (∀ j, rw[j]? = rwA[i + j]?) → (∀ m R W, m < i → rwA[m]? = some (R, W) → (m, R, W) ∈ pre) →
    ∀ (j : Nat) (o : Oper) (R W : List Nat), i ≤ j → ops[j]? = some o → rwA[j]? = some (R, W) → ∀ (m : Nat) (R' W' : List Nat), m < j → rwA[m]? = some (R', W') →
    ∀ D, qaQ ops D → (∀ e ∈ Vs o, D e = true) → D m = true ∨ (disj W' R = true ∧ disj W' W = true ∧ disj R' W = true ∧ TK + m ∉ R)
  | [], rw, i, pre, ms, _, _, _, hos, _, _, j, o, R, W, hij, ho, _ => by
    have := hos (j - i)
    rw [show i + (j - i) = j by omega, ho] at this
    simp at this
  | o0 :: os, [], i, pre, ms, _, _, _, _, hrw, _, j, o, R, W, hij, _, hr => by
    have := hrw (j - i)
    rw [show i + (j - i) = j by omega, hr] at this
    simp at this
  | o0 :: os, (R0, W0) :: rw, i, pre, ms, h, hl, hM, hos, hrw, hpre, j, o, R, W, hij, ho, hr => by
    rw [Wf, Bool.and_eq_true] at h
    intro m R' W' hmj hm D hD hp
    have h0 : ops[i]? = some o0 := by have := hos 0; simpa using this.symm
    have hr0 : rwA[i]? = some (R0, W0) := by have := hrw 0; simpa using this.symm
    by_cases e : j = i
    · subst e
      obtain rfl : o0 = o := Option.some.inj (h0.symm.trans ho)
      obtain ⟨rfl, rfl⟩ : R0 = R ∧ W0 = W := by have := Option.some.inj (hr0.symm.trans hr); simpa using this
      have h1 := List.all_eq_true.1 h.1 (m, R', W') (hpre m R' W' hmj hm)
      simp only [Bool.or_eq_true, Bool.and_eq_true] at h1
      rcases h1 with h1 | h1
      · exact .inl (qcN hM h1 hD hp)
      · exact .inr ⟨h1.1.1.1, h1.1.1.2, h1.1.2, by simpa using h1.2⟩
    · refine W9 os rw (i + 1) ((i, R0, W0) :: pre) (ms ++ [qbd ms o0]) h.2 (by simp [hl]) ⟨?_, ?_⟩ (fun k => ?_) (fun k => ?_) (fun m R W hmi hr => ?_) j o R W (by omega) ho hr m R' W' hmj hm D hD hp
      · have := (List.getElem?_eq_some_iff.1 h0).1
        simp only [List.length_append, List.length_cons, List.length_nil]
        omega
      · intro m b o' hb ho' k hk D hD hp
        by_cases em : m < ms.length
        · rw [List.getElem?_append_left em] at hb
          exact hM.2 m b o' hb ho' k hk D hD hp
        · have em' : m = i := by
            have := (List.getElem?_eq_some_iff.1 hb).1
            simp at this
            omega
          subst em'
          rw [List.getElem?_append_right (by omega), hl] at hb
          simp at hb
          subst hb
          obtain rfl : o0 = o' := Option.some.inj (h0.symm.trans ho')
          exact qcN hM hk hD hp
      · have := hos (k + 1)
        rw [List.getElem?_cons_succ] at this
        rw [this, show i + (k + 1) = i + 1 + k by omega]
      · have := hrw (k + 1)
        rw [List.getElem?_cons_succ] at this
        rw [this, show i + (k + 1) = i + 1 + k by omega]
      · by_cases em : m = i
        · subst em
          have := Option.some.inj (hr0.symm.trans hr)
          rw [← this]; simp
        · exact List.mem_cons_of_mem _ (hpre m R W (by omega) hr)
theorem Vj {ops : List Oper} {rw : List (List Nat × List Nat)} (h : Wf ops rw 0 [] [] = true) {i j : Nat} {o : Oper} {R W R' W' : List Nat} (hij : i < j) (ho : ops[j]? = some o) (hj : rw[j]? = some (R, W)) (hi : rw[i]? = some (R', W'))
    {D : Nat → Bool} (hD : qaQ ops D) (hp : ∀ e ∈ Vs o, D e = true) : D i = true ∨ (disj W' R = true ∧ disj W' W = true ∧ disj R' W = true ∧ TK + i ∉ R) :=
  W9 ops rw 0 [] [] h rfl ⟨Nat.zero_le _, fun m b o h => by simp at h⟩ (fun j => by simp) (fun j => by simp) (fun m R W hm => by omega) j o R W (Nat.zero_le _) ho hj i R' W' hij hi D hD hp
section
variable {P : Program} {ops : Array Oper} {B : Nat} {w0 : World} {n : Nat}
theorem Zg.anyorderT {Q : Exit → Act → World → Prop} {S0 : St} {Se : Nu → St} {rw : List (List Nat × List Nat)} {a : Act} {w : World} (hc : Zg P ops B w0 n 0 ops.toList (fun _ => S0) rw Se)
    (hi : Wf ops.toList rw 0 [] [] = true) (hf : ZZ ops.toList 0 = true) (hr : Yb B w0 n S0 a w)
    (hQ : ∀ ν a w, Yb B w0 n (Se ν) a w → Q .normal a w) (fuel : Nat) (hfuel : ops.size ≤ fuel) : wpAny P .any ops Q fuel (Array.replicate ops.size false) a w := by
  obtain ⟨hlen, us, hus, hSe⟩ := Zg.parts _ _ _ _ hc
  have hl : ops.toList.length = ops.size := Array.length_toList
  have hget : ∀ j o, ops[j]? = some o → ops.toList[j]? = some o := fun j o h => by rw [Array.getElem?_toList]; exact h
  -- the done set
  let D (L : Array Bool) : Nat → Bool := fun j => L.getD j false
  have main : ∀ (fuel : Nat) (L : Array Bool) (p : VO) (a : Act) (w : World), L.size = ops.size → (∀ j, D L j = false → p j = none) → (∀ j, D L j = true → ∃ g, p j = some g) →
      (∀ j o, D L j = true → ops[j]? = some o → ∀ e ∈ o.after, Region.binds .any e = true → D L e.on = true) →
      (∀ ν, Y6 p ν → Yb B w0 n (JO us (D L) S0 ν ops.size) a w) → ((List.range ops.size).filter fun j => !D L j).length ≤ fuel → wpAny P .any ops Q fuel L a w := by
    intro fuel
    have hdone : ∀ (L : Array Bool) (p : VO) (a : Act) (w : World), L.size = ops.size →
      (∀ j o, D L j = true → ops[j]? = some o → ∀ e ∈ o.after, Region.binds .any e = true → D L e.on = true) →
      (∀ ν, Y6 p ν → Yb B w0 n (JO us (D L) S0 ν ops.size) a w) → Region.ready .any ops L = [] → Q .normal a w := by
      intro L p a w hL hdown hrep hno
      have hall : ∀ j, j < ops.size → D L j = true := by
        intro j
        induction j using Nat.strongRecOn with
        | _ j ih =>
          intro hj
          cases hD : D L j with
          | true => rfl
          | false =>
            have : j ∈ Region.ready .any ops L := by
              rw [mem_ready]
              refine ⟨?_, ops[j], by simp [hj], fun e he hb => ?_⟩
              · have : L.getD j false = false := hD
                simp only [Array.getD_eq_getD_getElem?] at this ⊢
                rw [Array.getElem?_eq_getElem (by omega)] at this ⊢
                exact this
              · have h1 := JZ _ _ hf j ops[j] (by simp [hj]) e he hb
                simp only [Nat.zero_add] at h1
                exact ih e.on h1 (by omega)
            rw [hno] at this; cases this
      obtain ⟨ν, hν⟩ := Y6.exists p
      refine hQ ν a w ((hrep ν hν).congr fun k => ?_)
      rw [hSe ν, hl]
      exact ZO _ fun j hj _ => (hall j hj).symm
    induction fuel with
    | zero =>
      intro L p a w hL hp hps hdown hrep hcount
      have hno : Region.ready .any ops L = [] := by
        cases hrd : Region.ready .any ops L with
        | nil => rfl
        | cons j rest =>
          exfalso
          have hj : j ∈ Region.ready .any ops L := by rw [hrd]; simp
          obtain ⟨h1, o, ho, _⟩ := mem_ready.1 hj
          have hjs : j < ops.size := (Array.getElem?_eq_some_iff.1 ho).1
          have : j ∈ (List.range ops.size).filter fun j => !D L j := by
            simp only [List.mem_filter, List.mem_range, hjs, true_and, Bool.not_eq_true']
            show L.getD j false = false
            simp only [Array.getD_eq_getD_getElem?] at h1 ⊢
            rw [Array.getElem?_eq_getElem (by omega)] at h1 ⊢
            exact h1
          have := List.length_pos_of_mem this
          omega
      exact ⟨hno, hdone L p a w hL hdown hrep hno⟩
    | succ fuel ih =>
      intro L p a w hL hp hps hdown hrep hcount
      refine ⟨hdone L p a w hL hdown hrep, fun i hi' => ?_⟩
      obtain ⟨hLi, o, ho, hpre⟩ := mem_ready.1 hi'
      have his : i < ops.size := (Array.getElem?_eq_some_iff.1 ho).1
      have hDi : D L i = false := by
        show L.getD i false = false
        simp only [Array.getD_eq_getD_getElem?] at hLi ⊢
        rw [Array.getElem?_eq_getElem (by omega)] at hLi ⊢
        exact hLi
      obtain ⟨R, W, hrw, hW, hT, hok⟩ := hus i o (hget i o ho)
      simp only [Nat.zero_add] at hok hT
      -- what touches what it touches is done if it stands before it, and isn't done if it stands behind it
      have hord : ∀ j, j < ops.size → j ≠ i → (∃ R' W', rw[j]? = some (R', W') ∧ ¬ (disj W' R = true ∧ disj W' W = true ∧ disj R' W = true) ∧ j < i) ∨ (∃ R' W', rw[j]? = some (R', W') ∧ ¬ (disj W R' = true ∧ disj W W' = true ∧ disj R W' = true) ∧ i < j) → D L j = decide (j < i) := by
        intro j hj hne hcase
        have hDC : qaQ ops.toList (D L) := fun j' o' hDj' ho' e he => by
          obtain ⟨e', he', rfl⟩ := List.mem_map.1 he
          rw [List.mem_filter] at he'
          exact hdown j' o' hDj' (by simpa using ho') e' (by simpa using he'.1) he'.2
        rcases hcase with ⟨R', W', hr', hn, hlt⟩ | ⟨R', W', hr', hn, hlt⟩
        · have h3 := Vj hi hlt (hget i o ho) hrw hr' hDC (fun e he => by
            obtain ⟨e', he', rfl⟩ := List.mem_map.1 he
            rw [List.mem_filter] at he'
            exact hpre e' (by simpa using he'.1) he'.2)
          have := h3.resolve_right fun q => hn ⟨q.1, q.2.1, q.2.2.1⟩
          simp only [hlt, decide_true]; exact this
        · obtain ⟨oj, hoj⟩ : ∃ oj, ops[j]? = some oj := ⟨ops[j], by simp [hj]⟩
          cases hDj : D L j with
          | false => have : ¬ j < i := by omega
                     simp [this]
          | true =>
            have h3 := Vj hi hlt (hget j oj hoj) hr' hrw hDC (hDC j oj hDj (hget j oj hoj))
            have := h3.resolve_right fun q => hn ⟨q.1, q.2.1, q.2.2.1⟩
            rw [hDi] at this; cases this
      have hag : ∀ ν, Y6 p ν → ∀ k ∈ R, JO us (D L) S0 ν ops.size k = JO us (fun _ => true) S0 ν i k := by
        intro ν _ k hk
        have e1 : JO us (D L) S0 ν ops.size k = JO us (fun j => decide (j < i)) S0 ν ops.size k := by
          refine ZO _ fun j hj hkj => ?_
          by_cases hji : j = i
          · subst hji; rw [hDi]; simp
          · obtain ⟨oj, hoj⟩ : ∃ oj, ops[j]? = some oj := ⟨ops[j], by simp [hj]⟩
            obtain ⟨R', W', hrw', hW', _, _⟩ := hus j oj (hget j oj hoj)
            rw [hW' ν] at hkj
            refine hord j hj hji ?_
            rcases Nat.lt_or_ge j i with hlt | hge
            · exact .inl ⟨R', W', hrw', fun hd => Jj hd.1 hkj hk, hlt⟩
            · exact .inr ⟨R', W', hrw', fun hd => Jj hd.2.2 hk hkj, by omega⟩
        rw [e1]
        have key : ∀ m, i ≤ m → JO us (fun j => decide (j < i)) S0 ν m k = JO us (fun _ => true) S0 ν i k := by
          intro m
          induction m with
          | zero => intro hm; have : i = 0 := by omega
                    subst this; rfl
          | succ m ihm =>
            intro hm
            by_cases e : i = m + 1
            · subst e
              exact ZO _ fun j hj _ => by simp [hj]
            · rw [JO, if_neg (by simp; omega)]
              exact ihm (by omega)
        exact key _ (by omega)
      have hJ : ∀ j, TK + j ∈ R → ∃ g, p j = some g := by
        intro j hj
        have hlt := VJ hT hj
        have hDC : qaQ ops.toList (D L) := fun j' o' hDj' ho' e he => by
          obtain ⟨e', he', rfl⟩ := List.mem_map.1 he
          rw [List.mem_filter] at he'
          exact hdown j' o' hDj' (by simpa using ho') e' (by simpa using he'.1) he'.2
        obtain ⟨oj, hoj⟩ : ∃ oj, ops[j]? = some oj := ⟨ops[j]'(by omega), by simp [show j < ops.size by omega]⟩
        obtain ⟨R', W', hrw', _, _, _⟩ := hus j oj (hget j oj hoj)
        have h3 := Vj hi hlt (hget i o ho) hrw hrw' hDC (fun e he => by
            obtain ⟨e', he', rfl⟩ := List.mem_map.1 he
            rw [List.mem_filter] at he'
            exact hpre e' (by simpa using he'.1) he'.2)
        exact hps j (h3.resolve_right fun q => q.2.2.2 hj)
      refine wpOp_mono ?_ (hok Q p (fun ν => JO us (D L) S0 ν ops.size) a w hag (hp i hDi) ho hrep hJ)
      rintro a' w' ⟨g, hg⟩
      have hDset : ∀ j, D (L.setIfInBounds i true) j = (D L j || decide (j = i)) := by
        intro j
        show (L.setIfInBounds i true).getD j false = _
        by_cases e : j = i
        · subst e
          simp [Array.getD_eq_getD_getElem?, hL, his]
        · rw [getD_set_ne false (fun h => e h.symm)]
          simp [e, D]
      refine ih (L.setIfInBounds i true) (p.set i g) a' w' (by simp [hL]) ?_ ?_ ?_ ?_ ?_
      · intro j hj
        rw [hDset] at hj
        simp only [Bool.or_eq_false_iff, decide_eq_false_iff_not] at hj
        simp only [VO.set, hj.2, if_false]
        exact hp j hj.1
      · intro j hj
        rw [hDset] at hj
        by_cases e : j = i
        · exact ⟨g, by simp [VO.set, e]⟩
        · obtain ⟨g', hg'⟩ := hps j (by simpa [e] using hj)
          exact ⟨g', by simp [VO.set, e, hg']⟩
      · intro j oj hj hoj e he hb
        rw [hDset] at hj ⊢
        simp only [Bool.or_eq_true, decide_eq_true_eq] at hj ⊢
        rcases hj with hj | hj
        · exact .inl (hdown j oj hj hoj e he hb)
        · subst hj
          rw [ho] at hoj
          injection hoj with hoj
          subst hoj
          exact .inl (hpre e he hb)
      · intro ν hν
        refine (hg ν hν).congr fun k => ?_
        have hfun : D (L.setIfInBounds i true) = fun j => D L j || decide (j = i) := funext hDset
        rw [hfun]
        refine qcu hDi k _ his ?_
        intro j hij hj hDj hki hkj
        obtain ⟨oj, hoj⟩ : ∃ oj, ops[j]? = some oj := ⟨ops[j], by simp [hj]⟩
        obtain ⟨R', W', hrw', hW', _, _⟩ := hus j oj (hget j oj hoj)
        rw [hW ν] at hki
        rw [hW' ν] at hkj
        have := hord j hj (by omega) (.inr ⟨R', W', hrw', fun hd => Jj hd.2.1 hki hkj, hij⟩)
        rw [hDj] at this
        simp at this
        omega
      · have hsub : ((List.range ops.size).filter fun j => !D (L.setIfInBounds i true) j) = ((List.range ops.size).filter fun j => !D L j).filter fun j => !decide (j = i) := by
          rw [List.filter_filter]
          refine List.filter_congr fun j _ => ?_
          rw [hDset]
          cases D L j <;> simp
        rw [hsub]
        have hmem : i ∈ (List.range ops.size).filter fun j => !D L j := by simp [his, hDi]
        have : (((List.range ops.size).filter fun j => !D L j).filter fun j => !decide (j = i)).length < ((List.range ops.size).filter fun j => !D L j).length := by
          refine List.length_filter_lt_length_iff_exists.2 ⟨i, hmem, by simp⟩
        omega
  have hno : ∀ j, ¬ D (Array.replicate ops.size false) j = true := fun j hj => by
    have : (Array.replicate ops.size false).getD j false = true := hj
    by_cases hjs : j < ops.size <;> simp [Array.getD_eq_getD_getElem?, hjs] at this
  refine main fuel _ (fun _ => none) a w (by simp) (fun _ _ => rfl) (fun j hj => absurd hj (hno j)) ?_ ?_ ?_
  · intro j o hj
    have : (Array.replicate ops.size false).getD j false = true := hj
    by_cases hjs : j < ops.size <;> simp [Array.getD_eq_getD_getElem?, hjs] at this
  · intro ν _
    refine hr.congr fun k => ?_
    have key : ∀ m, JO us (D (Array.replicate ops.size false)) S0 ν m = S0 := by
      intro m
      induction m with
      | zero => rfl
      | succ m ih =>
        have : D (Array.replicate ops.size false) m = false := by
          show (Array.replicate ops.size false).getD m false = false
          by_cases hjs : m < ops.size <;> simp [Array.getD_eq_getD_getElem?, hjs]
        rw [JO, this]; simpa using ih
    rw [key]
  · refine Nat.le_trans (List.length_filter_le _ _) ?_
    simpa using hfuel
end
theorem WU {P : Program} {N R : K} {xs : List (Nat × K)} {a : Act} {w : World} {B n id : Nat} {w0 : World} {ops : Array Oper} {draw : Bool} {S0 : St} {Se : Nu → St} {rw : List (List Nat × List Nat)} (hm : P.follows .mixedOrders = true)
    (hr : Yb B w0 n S0 a w) (hc : Zg P ops B w0 n 0 ops.toList (fun _ => S0) rw Se)
    (hi : (draw && (Wf ops.toList rw 0 [] [] && ZZ ops.toList 0)) = true)
    (hQ : ∀ ν a w, Yb B w0 n (Se ν) a w → N a w) : (Code.region id ops draw).wp P (J1 N xs R) a w := by
  cases draw with
  | false => cases hi
  | true =>
    simp only [Bool.true_and, Bool.and_eq_true] at hi
    refine wp_region_any hm ?_
    have hr' : Yb B w0 n S0 a { w with drawn := w.drawn + 1 } := hr.world ⟨rfl, rfl, rfl, Nat.le_refl _, fun _ _ => rfl⟩
    exact Zg.anyorderT hc hi.1 hi.2 hr' (fun ν a w h => hQ ν a w h) _ (Nat.le_refl _)
end Go.Sx
set_option linter.unusedVariables false
namespace Go.Sx
open Go Go.RowKit
abbrev vI (n : Int) : Value := .int .i64 n
abbrev vP (b o : Nat) : Value := .pointer (some ⟨b, o, none⟩)
abbrev sI (n : Int) : KV := .slot true (.int .i64 n)
abbrev sB (b : Bool) : KV := .slot true (.bool b)
abbrev sP (b o : Nat) : KV := .slot true (.pointer (some ⟨b, o, none⟩))
abbrev sS (p : Option Addr) (n c : Nat) : KV := .slot true (.slice p n c)
abbrev Qh {T : Type} (fr : Nat → Prop) (sz : Nat) (p : Option Addr) (c : Nat) (l : List T) (en : T → List Value) : KV := rdF fr sz p l.length c (l.flatMap en)
theorem Yb.toM {B n : Nat} {w0 : World} {S : St} {a : Act} {w : World} (h : Yb B w0 n S a w) (l : List (Nat × KV)) (hl : l.map (fun p => S p.1) = l.map (fun p => p.2) := by kernel_rfl) : Yb B w0 n (Wy l) a w := h.toL l hl
def kpS : List Nat → St → St
 | [], _ => fun _ => .none
 | k :: r, S => fun i => bif Nat.beq i k then S i else kpS r S i
theorem qdY (S : St) (k : Nat) : ∀ l : List Nat, kpS l S k = .none ∨ kpS l S k = S k
 | [] => .inl rfl
 | j :: r => by
  show (bif Nat.beq k j then S k else kpS r S k) = .none ∨ (bif Nat.beq k j then S k else kpS r S k) = S k
  cases Nat.beq k j with
  | true => exact .inr rfl
  | false => exact qdY S k r
theorem Yb.kp {B n : Nat} {w0 : World} {S : St} {a : Act} {w : World} (h : Yb B w0 n S a w) (l : List Nat) : Yb B w0 n (kpS l S) a w := h.weak fun k => qdY S k l
section
variable {P : Program} {ops : Array Oper} {B : Nat} {w0 : World} {n : Nat}
theorem Zg.v {i : Nat} {o : Oper} {rest : List Oper} {S Se : Nu → St} {rw : List (List Nat × List Nat)} (d : Nat) (v : Value) (t : Zg P ops B w0 n (i + 1) rest (fun ν => XE (S ν) [(d, .slot true v)]) rw Se)
  (hd : o.dst = some d := by rfl) (hdn : Nat.blt d n = true := by rfl) (hsel : YZ o = true := by rfl) (hg : o.guard = none := by rfl)
  (hk : ∀ ν, (o.op.operands.all (XQ (S ν))) = true := by intro _; kernel_rfl) (hp : ∀ ν, (X6 o (S ν)).all id = true := by intro _; kernel_rfl)
  (hv : ∀ ν w, (execOp (Y4 (S ν)) o).run P w = .ok (.value v) w := by intro _ _; kernel_rfl) (hT : qcw i (X5 ops o) = true := by kernel_rfl) : Zg P ops B w0 n i (o :: rest) S ((X5 ops o, [d]) :: rw) Se :=
 .cons [d] (qp (fun _ => v) d hd hdn hsel hg hk hp hv) t (fun _ => rfl) hT
end
theorem qgx {P : Program} {N R : K} {xs : List (Nat × K)} {a : Act} {w : World} {B n id : Nat} {w0 : World} {ops : Array Oper} {draw : Bool} {S0 : St} {Se : Nu → St} {rw : List (List Nat × List Nat)} (hm : P.follows .mixedOrders = true)
  (hr : Yb B w0 n S0 a w) (hc : Zg P ops B w0 n 0 ops.toList (fun _ => S0) rw Se) (hQ : ∀ ν a w, Yb B w0 n (Se ν) a w → N a w)
  (hi : (!draw || (VN ops.toList rw [] && ZZ ops.toList 0)) = true := by kernel_rfl) : (Code.region id ops draw).wp P (J1 N xs R) a w := qgc hm hr hc hi hQ
end Go.Sx
set_option linter.unusedVariables false
set_option linter.unusedSimpArgs false
namespace Go.Sx
open Go Go.RowKit
theorem Zu.len {T : Type} {w : World} {sz n : Nat} {p : Option Addr} {en : T → List Value} {l : List T} (R : Zu w sz p n (l.flatMap en)) (hen : ∀ x, (en x).length = sz) (hs : 0 < sz) : n = l.length := by
 have := R.1
 rw [ZK hen] at this
 exact (Nat.eq_of_mul_eq_mul_right hs this).symm
theorem JJ {T : Type} {w : World} {base e sz n cap : Nat} {p : Option Addr} {en : T → List Value} {l : List T} (R : w.ownsRow base e sz (.slice p n cap) n (l.flatMap en)) (hen : ∀ x, (en x).length = sz) (hs : 0 < sz) : n = l.length := (qbM R).len hen hs
theorem ZN {w : World} {sz n cap : Nat} {p : Option Addr} {xs : List Value} (R : Xv w sz p n cap xs) (hs : 0 < sz := by decide) : (rdF qi sz p n cap xs).holds w := (Ql R (fun _ _ => trivial) hs 0).2.1
theorem JD {G : Type} {w : World} {E : Part G} {L : List G} (R : RdL E w L) : (QA qi E L).holds w := Zf R fun _ _ => trivial
theorem Z6 {T X : Type} {P : Program} {w : World} {t : TypeId} {p : Option Addr} {n cap : Nat} {k : IntKind} {i : Int} {sz : Nat} {en : T → List Value} {l : List T} {x : List X} {s : Sem Next} (R : Zu w sz p n (l.flatMap en)) (hen : ∀ x, (en x).length = sz) (hl : x.length = l.length) (h : 0 ≤ i ∧ i < (x.length : Int))
  (hs : s = Sem.bind (Instr.indexAt t (.slice p n cap) (.int k i)) fun v => Sem.pure (Next.value v)) (hu : P.underlying t = some (.slice (P.elem t)) := by kernel_rfl) (he : (P.info? (P.elem t)).map (·.size) = some sz := by kernel_rfl) (hz : 0 < sz := by decide) :
  s.run P w = .ok (.value (.pointer (some ⟨XB p, XC p + i.toNat * sz, none⟩))) w := by
 have hn := R.len hen hz
 subst hs
 exact qfz hu he R ⟨h.1, by omega⟩
theorem qc1 {T : Type} {w : World} {en : T → List Value} {sz n : Nat} {p : Option Addr} {l : List T} (R : Zu w sz p n (l.flatMap en)) (hen : ∀ x, (en x).length = sz) {i : Nat} {x : T} (hx : l[i]? = some x) (f m : Nat) {vs : List Value} (hvs : ((en x).drop f).take m = vs) (hz : 0 < sz := by decide) :
  ∀ j u, vs[j]? = some u → w.cell? ⟨XB p, XC p + i * sz + f + j, none⟩ = some u := by
 have hn := R.len hen hz
 subst hn
 exact qd7 R hen hx f m hvs
theorem qfp {T : Type} {P : Program} {w : World} {en : T → List Value} {sz n : Nat} {p : Option Addr} {l : List T} {s : Sem Next} {i : Nat} {x : T} {v : Value} (R : Zu w sz p n (l.flatMap en)) (hen : ∀ x, (en x).length = sz) (hx : l[i]? = some x) (f m : Nat) (vs : List Value) (hvs : ((en x).drop f).take m = vs)
  (hp : Z2 P s vs [] = some (.value v, Y3 (XB p) (XC p + i * sz + f) m)) (hz : 0 < sz := by decide) : s.run P w = .ok (.value v) w :=
 qgh hp (qc1 R hen hx f m hvs hz)
theorem XP {T : Type} {P : Program} {w : World} {e : TypeId} {sz n : Nat} {en : T → List Value} {l : List T} {p : Option Addr} {cap : Nat} {s : Sem Next} {i : Nat} {x y : T} {vs : List Value} (hown : w.ownsRow 0 e sz (.slice p n cap) n (l.flatMap en)) (hen : ∀ x, (en x).length = sz)
  (hx : l[i]? = some x) (f : Nat) (h0 : 0 < vs.length) (hf : f + vs.length ≤ sz) (he : en y = lay (en x) f vs)
  (hp : VF P s [] = some (.skip, (Y3 (XB p) (XC p + (i * sz + f)) vs.length).zip vs)) (hz : 0 < sz := by decide) :
  ∃ w', s.run P w = .ok .skip w' ∧ w'.ownsRow 0 e sz (.slice p n cap) n ((l.set i y).flatMap en) ∧ Y7 (Xm p) w w' := by
 have hn := JJ hown hen hz
 subst hn
 exact qd5 hown hen hx f h0 hf he hp
theorem Q8 {T : Type} {P : Program} {w : World} {t ty e eb : TypeId} {sz bytes b n : Nat} {zc cs : List Value} {en : T → List Value} {l : List T} {p : Option Addr} {cap : Nat} {s : Sem Next} (hen : ∀ x, (en x).length = sz) (I : Inf P e sz bytes zc)
  (hown : w.ownsRow 0 e sz (.slice p n cap) n (l.flatMap en)) (hblk : (KV.blk b cs eb).holds w) {news : List T} (hcs : cs = news.flatMap en) (hm : 0 < news.length ∧ news.length < 1000)
  (hs : s = Sem.bind (Builtin.append_ #[t, t] ty #[.slice p n cap, .slice (some ⟨b, 0, none⟩) news.length news.length]) fun v => Sem.pure (Next.value v)) (hl : l.length < 1000000)
  (ht : P.underlying t = some (.slice e) := by kernel_rfl) (h1 : cs.all (·.oneCell') = true := by kernel_rfl) (hsz : 0 < sz := by decide) (hby : bytes ≤ 100000 := by decide) (hz : zc.length = sz := by rfl) :
  ∃ p' cap' w', s.run P w = .ok (.value (.slice p' (l ++ news).length cap')) w' ∧ w'.ownsRow 0 e sz (.slice p' (l ++ news).length cap') (l ++ news).length ((l ++ news).flatMap en) ∧ Y7 (Xm p) w w' ∧ ∀ j, Xm p' j → w.heap.size ≤ j ∨ Xm p j := by
 have hn := JJ hown hen hsz
 subst hn
 exact qby hen I hown hblk hcs hm hs hl ht h1 hsz hby hz
theorem Zr {T : Type} {P : Program} {w : World} {t ty e : TypeId} {sz bytes n n2 : Nat} {zc : List Value} {en : T → List Value} {l m : List T} {p p2 : Option Addr} {cap cap2 : Nat} {s : Sem Next} (hen : ∀ x, (en x).length = sz) (hone : ∀ x, (en x).all (·.oneCell') = true) (I : Inf P e sz bytes zc)
  (hown : w.ownsRow 0 e sz (.slice p n cap) n (l.flatMap en)) (R : Zu w sz p2 n2 (m.flatMap en)) (hm : m.length < 1000000 ∧ l.length < 1000000)
  (hs : s = Sem.bind (Builtin.append_ #[t, t] ty #[.slice p n cap, .slice p2 n2 cap2]) fun v => Sem.pure (Next.value v))
  (ht : P.underlying t = some (.slice e) := by kernel_rfl) (hsz : 0 < sz := by decide) (hby : bytes ≤ 100000 := by decide) (hz : zc.length = sz := by rfl) :
  ∃ p' cap' w', s.run P w = .ok (.value (.slice p' (l ++ m).length cap')) w' ∧ w'.ownsRow 0 e sz (.slice p' (l ++ m).length cap') (l ++ m).length ((l ++ m).flatMap en) ∧ Y7 (Xm p) w w' ∧ ∀ j, Xm p' j → w.heap.size ≤ j ∨ Xm p j := by
 have hn := JJ hown hen hsz
 have hn2 := R.len hen hsz
 subst hn hn2
 exact qbe hen hone I hown R hm hs ht hsz hby hz
theorem Q7 {P : Program} {w : World} {s : Sem Next} {n m : Nat} (h : n = m) (hr : s.run P w = .ok (.value (.int .i64 (n : Int))) w) : s.run P w = .ok (.value (.int .i64 (m : Int))) w := h ▸ hr
theorem qdJ {w : World} {e sz n cap : Nat} {p : Option Addr} {xs : List Value} (h : w.ownsRow 0 e sz (.slice p n cap) n xs) : ∀ i, Xm p i → i < w.heap.size := fun i hi => (ZY h i hi).2
theorem ZB {P : Program} {w : World} {e sz m cap n : Nat} {p : Option Addr} {xs ys : List Value} {s : Sem Next} (h : ∃ p' cap' w', s.run P w = .ok (.value (.slice p' n cap')) w' ∧ w'.ownsRow 0 e sz (.slice p' n cap') n ys ∧ Y7 (Xm p) w w' ∧ ∀ j, Xm p' j → w.heap.size ≤ j ∨ Xm p j) :
  ∃ (g : Gh) (w' : World), s.run P w = .ok (.value (.slice (g.o 0) n (g.n 0))) w' ∧ Y7 (Yo e sz p m cap xs).fp w w' ∧ (Yo e sz (g.o 0) n (g.n 0) ys).holds w' ∧ (∀ i, (Yo e sz (g.o 0) n (g.n 0) ys).fp i → i < w'.heap.size) ∧ ∀ i, (Yo e sz (g.o 0) n (g.n 0) ys).fp i → w.heap.size ≤ i ∨ (Yo e sz p m cap xs).fp i := by
 obtain ⟨p', cap', w', h1, h2, h3, h4⟩ := h
 exact ⟨Gh.of (fun _ => cap') fun _ => p', w', h1, h3, fun w2 ha => ZD h2 ha, qdJ h2, h4⟩
theorem Z8 {P : Program} {w : World} {e sz n cap : Nat} {p : Option Addr} {xs ys : List Value} {s : Sem Next} (h : ∃ w', s.run P w = .ok .skip w' ∧ w'.ownsRow 0 e sz (.slice p n cap) n ys ∧ Y7 (Xm p) w w') :
  ∃ (g : Gh) (w' : World), s.run P w = .ok .skip w' ∧ Y7 (Yo e sz p n cap xs).fp w w' ∧ (Yo e sz p n cap ys).holds w' ∧ (∀ i, (Yo e sz p n cap ys).fp i → i < w'.heap.size) ∧ ∀ i, (Yo e sz p n cap ys).fp i → w.heap.size ≤ i ∨ (Yo e sz p n cap xs).fp i := by
 obtain ⟨w', h1, h2, h3⟩ := h
 exact ⟨default, w', h1, h3, fun w2 ha => ZD h2 ha, qdJ h2, fun i hi => .inr hi⟩
theorem qa5 {P : Program} {w : World} {e sz m cap n : Nat} {p : Option Addr} {xs ys : List Value} {s : Sem Next} {F : KV} {C : Nat → Prop} (h : ∃ p' cap' w', s.run P w = .ok (.value (.slice p' n cap')) w' ∧ w'.ownsRow 0 e sz (.slice p' n cap') n ys ∧ Y7 (Xm p) w w' ∧ ∀ j, Xm p' j → w.heap.size ≤ j ∨ Xm p j) (hF : F.holds w ∧ ∀ i, F.fp i → C i ∧ i < w.heap.size) :
  ∃ (g : Gh) (w' : World), s.run P w = .ok (.value (.slice (g.o 0) n (g.n 0))) w' ∧ Y7 (Yo e sz p m cap xs).fp w w' ∧ (Yo e sz (g.o 0) n (g.n 0) ys).holds w' ∧ (∀ i, (Yo e sz (g.o 0) n (g.n 0) ys).fp i → i < w'.heap.size) ∧ (∀ i, (Yo e sz (g.o 0) n (g.n 0) ys).fp i → w.heap.size ≤ i ∨ (Yo e sz p m cap xs).fp i) ∧ F.holds w ∧ ∀ i, F.fp i → C i ∧ i < w.heap.size := by
 obtain ⟨g, w', h1, h2, h3, h4, h5⟩ := ZB (m := m) (cap := cap) (xs := xs) h
 exact ⟨g, w', h1, h2, h3, h4, h5, hF⟩
theorem qba {P : Program} {w : World} {e sz n cap : Nat} {p : Option Addr} {xs ys : List Value} {s : Sem Next} {F : KV} {C : Nat → Prop} (h : ∃ w', s.run P w = .ok .skip w' ∧ w'.ownsRow 0 e sz (.slice p n cap) n ys ∧ Y7 (Xm p) w w') (hF : F.holds w ∧ ∀ i, F.fp i → C i ∧ i < w.heap.size) :
  ∃ (g : Gh) (w' : World), s.run P w = .ok .skip w' ∧ Y7 (Yo e sz p n cap xs).fp w w' ∧ (Yo e sz p n cap ys).holds w' ∧ (∀ i, (Yo e sz p n cap ys).fp i → i < w'.heap.size) ∧ (∀ i, (Yo e sz p n cap ys).fp i → w.heap.size ≤ i ∨ (Yo e sz p n cap xs).fp i) ∧ F.holds w ∧ ∀ i, F.fp i → C i ∧ i < w.heap.size := by
 obtain ⟨g, w', h1, h2, h3, h4, h5⟩ := Z8 (xs := xs) h
 exact ⟨g, w', h1, h2, h3, h4, h5, hF⟩
theorem qcl {G : Type} {w : World} {fr : Nat → Prop} {E : Part G} {L : List G} {y : G} {Ks : List KV} (hD : (QA fr E L).holds w) (hm : QA fr E L ∈ Ks) (hy : E.rd w y) (hf : ∀ i, E.fp y i → Jo Ks i ∧ fr i) : (QA fr E (L ++ [y])).holds w ∧ ∀ i, (QA fr E (L ++ [y])).fp i → Jo Ks i ∧ i < w.heap.size := by
 have hr := qeI (Qb hD) hy
 exact ⟨Zf hr fun j hj => (qcK hj).elim (qan hD j) fun h => (hf j h).2, fun i hi => ⟨(qcK hi).elim (fun h => ⟨_, hm, fun h => h, h⟩) fun h => (hf i h).1, hr.inb i hi⟩⟩
theorem qcp {G : Type} {w : World} {fr : Nat → Prop} {E : Part G} {L : List G} {y : G} {k : Nat} {Ks : List KV} (hD : (QA fr E L).holds w) (hm : QA fr E L ∈ Ks) (hy : E.rd w y) (hf : ∀ i, E.fp y i → Jo Ks i ∧ fr i) : (QA fr E (L.set k y)).holds w ∧ ∀ i, (QA fr E (L.set k y)).fp i → Jo Ks i ∧ i < w.heap.size := by
 have hr := qeH (k := k) (Qb hD) hy
 exact ⟨Zf hr fun j hj => (qcS hj).elim (qan hD j) fun h => (hf j h).2, fun i hi => ⟨(qcS hi).elim (fun h => ⟨_, hm, fun h => h, h⟩) fun h => (hf i h).1, hr.inb i hi⟩⟩
theorem qaa {Ks : List KV} {K : KV} {i : Nat} {fr : Nat → Prop} (hm : K ∈ Ks) (hx : ¬ K.excl) (hi : K.fp i) (hf : fr i) : Jo Ks i ∧ fr i := ⟨⟨K, hm, hx, hi⟩, hf⟩
section
variable {T : Type} {P : Program} {w : World} {e e2 sz m cap : Nat} {en : T → List Value} {p : Option Addr} {H L : List (Sl T)} {s : Sem Next}
theorem qd3 {i j : Nat} {q : Option Addr} {c : Nat} {l : List T} {y : T} (N : (ZC e e2 sz en p m cap L L).holds w) (hx : L[i]? = some ⟨q, c, l⟩)
  (h : w.ownsRow 0 e2 sz (.slice q l.length c) l.length (l.flatMap en) → ∃ w', s.run P w = .ok .skip w' ∧ w'.ownsRow 0 e2 sz (.slice q l.length c) l.length ((l.set j y).flatMap en) ∧ Y7 (Xm q) w w') :
  ∃ (g : Gh) (w' : World), s.run P w = .ok .skip w' ∧ Y7 (ZC e e2 sz en p m cap L L).fp w w' ∧ (ZC e e2 sz en p m cap (L.set i ⟨q, c, l.set j y⟩) (L.set i ⟨q, c, l.set j y⟩)).holds w' ∧ (∀ b, (ZC e e2 sz en p m cap (L.set i ⟨q, c, l.set j y⟩) (L.set i ⟨q, c, l.set j y⟩)).fp b → b < w'.heap.size) ∧ ∀ b, (ZC e e2 sz en p m cap (L.set i ⟨q, c, l.set j y⟩) (L.set i ⟨q, c, l.set j y⟩)).fp b → w.heap.size ≤ b ∨ (ZC e e2 sz en p m cap L L).fp b := by
 have hN := qQ N
 obtain ⟨w', h1, h2, h3⟩ := h (hN.inn i _ hx)
 have hN1 := hN.turn (p' := q) (c' := c) (l' := l.set j y) hx (by simpa using h2) h3 fun b hb => .inr hb
 have he : (L.set i (⟨q, c, l.set j y⟩ : Sl T)).flatMap ql = L.flatMap ql := by
  have hi := (List.getElem?_eq_some_iff.1 hx)
  obtain ⟨hlt, hget⟩ := hi
  apply List.ext_getElem?
  intro k
  have e1 : ∀ M : List (Sl T), M.flatMap ql = M.map fun x => Value.slice x.p x.l.length x.cap := fun M => by
   induction M with
   | nil => rfl
   | cons x r ih => rw [List.flatMap_cons, ih]; rfl
  rw [e1, e1, List.getElem?_map, List.getElem?_map, List.getElem?_set]
  by_cases ek : i = k
  ·subst ek
   rw [if_pos rfl, if_pos hlt, hx]
   simp
  ·rw [if_neg ek]
 have hN2 : Yi w' e e2 sz en p m cap (L.set i ⟨q, c, l.set j y⟩) (L.set i ⟨q, c, l.set j y⟩) := ⟨by rw [he]; exact hN1.hd, hN1.inn, hN1.apart, hN1.off⟩
 exact ⟨default, w', h1, h3.mono fun b hb => .inr ⟨i, _, hx, hb⟩, hN2.holds, hN2.lt, fun b hb => qaC (w := w) hx (fun b hb => .inr hb) hb⟩
theorem Wm {i : Nat} {q : Option Addr} {c : Nat} {l l' : List T} (N : (ZC e e2 sz en p m cap H L).holds w) (hx : L[i]? = some ⟨q, c, l⟩)
  (h : w.ownsRow 0 e2 sz (.slice q l.length c) l.length (l.flatMap en) → ∃ p' cap' w', s.run P w = .ok (.value (.slice p' l'.length cap')) w' ∧ w'.ownsRow 0 e2 sz (.slice p' l'.length cap') l'.length (l'.flatMap en) ∧ Y7 (Xm q) w w' ∧ ∀ j, Xm p' j → w.heap.size ≤ j ∨ Xm q j) :
  ∃ (g : Gh) (w' : World), s.run P w = .ok (.value (.slice (g.o 0) l'.length (g.n 0))) w' ∧ Y7 (ZC e e2 sz en p m cap H L).fp w w' ∧ (ZC e e2 sz en p m cap H (L.set i ⟨g.o 0, g.n 0, l'⟩)).holds w' ∧ (∀ b, (ZC e e2 sz en p m cap H (L.set i ⟨g.o 0, g.n 0, l'⟩)).fp b → b < w'.heap.size) ∧ ∀ b, (ZC e e2 sz en p m cap H (L.set i ⟨g.o 0, g.n 0, l'⟩)).fp b → w.heap.size ≤ b ∨ (ZC e e2 sz en p m cap H L).fp b := by
 have hN := qQ N
 obtain ⟨p', cap', w', h1, h2, h3, h4⟩ := h (hN.inn i _ hx)
 have hN1 := hN.turn hx h2 h3 h4
 exact ⟨Gh.of (fun _ => cap') fun _ => p', w', h1, h3.mono fun b hb => .inr ⟨i, _, hx, hb⟩, hN1.holds, hN1.lt, fun b hb => qaC (w := w) hx h4 hb⟩
theorem WB {H' : List (Sl T)} (N : (ZC e e2 sz en p m cap H L).holds w) (h : w.ownsRow 0 e 1 (.slice p m cap) m (H.flatMap ql) → ∃ w', s.run P w = .ok .skip w' ∧ w'.ownsRow 0 e 1 (.slice p m cap) m (H'.flatMap ql) ∧ Y7 (Xm p) w w') :
  ∃ (g : Gh) (w' : World), s.run P w = .ok .skip w' ∧ Y7 (ZC e e2 sz en p m cap H L).fp w w' ∧ (ZC e e2 sz en p m cap H' L).holds w' ∧ (∀ b, (ZC e e2 sz en p m cap H' L).fp b → b < w'.heap.size) ∧ ∀ b, (ZC e e2 sz en p m cap H' L).fp b → w.heap.size ≤ b ∨ (ZC e e2 sz en p m cap H L).fp b := by
 have hN := qQ N
 obtain ⟨w', h1, h2, h3⟩ := h hN.hd
 have hN1 := hN.head h2 h3 fun b hb => .inr hb
 exact ⟨default, w', h1, h3.mono fun b hb => .inl hb, hN1.holds, hN1.lt, fun b hb => .inr hb⟩
theorem qe3 {k j : Nat} {a b : Sl T} (N : (ZC e e2 sz en p m cap (L.set k b) L).holds w) (ha : L[k]? = some a) (hb : L[j]? = some b) (h : w.ownsRow 0 e 1 (.slice p m cap) m ((L.set k b).flatMap ql) → ∃ w', s.run P w = .ok .skip w' ∧ w'.ownsRow 0 e 1 (.slice p m cap) m (((L.set k b).set j a).flatMap ql) ∧ Y7 (Xm p) w w') :
  ∃ (g : Gh) (w' : World), s.run P w = .ok .skip w' ∧ Y7 (ZC e e2 sz en p m cap (L.set k b) L).fp w w' ∧ (ZC e e2 sz en p m cap ((L.set k b).set j a) ((L.set k b).set j a)).holds w' ∧ (∀ i, (ZC e e2 sz en p m cap ((L.set k b).set j a) ((L.set k b).set j a)).fp i → i < w'.heap.size) ∧ ∀ i, (ZC e e2 sz en p m cap ((L.set k b).set j a) ((L.set k b).set j a)).fp i → w.heap.size ≤ i ∨ (ZC e e2 sz en p m cap (L.set k b) L).fp i := by
 obtain ⟨g, w', h1, h2, h3, h4, h5⟩ := WB (H' := (L.set k b).set j a) N h
 have hN := (qQ h3).repool (qam k j) (qbF ha hb) fun i i' h => qc4 h
 exact ⟨g, w', h1, h2, hN.holds, hN.lt, fun i hi => h5 i (qbI (qam k j) (qbF ha hb) hi)⟩
theorem qey {i n2 : Nat} {q : Option Addr} {c : Nat} {l : List T} (N : (ZC e e2 sz en p m cap L L).holds w) (ho : (Yo e2 sz q n2 c (l.flatMap en)).holds w) (hd : ∀ b, (Yo e2 sz q n2 c (l.flatMap en)).fp b → ¬ (ZC e e2 sz en p m cap L L).fp b ∧ b < w.heap.size) (hen : ∀ x, (en x).length = sz) (hz : 0 < sz)
  (h : n2 = l.length → w.ownsRow 0 e 1 (.slice p m cap) m (L.flatMap ql) → ∃ w', s.run P w = .ok .skip w' ∧ w'.ownsRow 0 e 1 (.slice p m cap) m ((L.set i ⟨q, c, l⟩).flatMap ql) ∧ Y7 (Xm p) w w') :
  ∃ (g : Gh) (w' : World), s.run P w = .ok .skip w' ∧ Y7 (ZC e e2 sz en p m cap L L).fp w w' ∧ (ZC e e2 sz en p m cap (L.set i ⟨q, c, l⟩) (L.set i ⟨q, c, l⟩)).holds w' ∧ (∀ b, (ZC e e2 sz en p m cap (L.set i ⟨q, c, l⟩) (L.set i ⟨q, c, l⟩)).fp b → b < w'.heap.size) ∧ ∀ b, (ZC e e2 sz en p m cap (L.set i ⟨q, c, l⟩) (L.set i ⟨q, c, l⟩)).fp b → w.heap.size ≤ b ∨ (ZC e e2 sz en p m cap L L).fp b ∨ (Yo e2 sz q n2 c (l.flatMap en)).fp b := by
 have hN := qQ N
 have hw := QN ho
 have hn := JJ hw hen hz
 subst hn
 obtain ⟨w', h1, h2, h3⟩ := h rfl hN.hd
 have hN1 := hN.head h2 h3 fun b hb => .inr hb
 have hN2 := hN1.takeSet (J8 hw h3 fun b h1 h2 => (hd b h1).1 (.inl h2)) (fun b hb => (hd b hb).1) i
 exact ⟨default, w', h1, h3.mono fun b hb => .inl hb, hN2.holds, hN2.lt, fun b hb => .inr (qea hb)⟩
theorem Jz {n2 : Nat} {q : Option Addr} {c : Nat} {l : List T} (N : (ZC e e2 sz en p m cap L L).holds w) (ho : (Yo e2 sz q n2 c (l.flatMap en)).holds w) (hd : ∀ b, (Yo e2 sz q n2 c (l.flatMap en)).fp b → ¬ (ZC e e2 sz en p m cap L L).fp b ∧ b < w.heap.size) (hen : ∀ x, (en x).length = sz) (hz : 0 < sz)
  (h : n2 = l.length → w.ownsRow 0 e 1 (.slice p m cap) m (L.flatMap ql) → ∃ p' cap' w', s.run P w = .ok (.value (.slice p' (L ++ [(⟨q, c, l⟩ : Sl T)]).length cap')) w' ∧ w'.ownsRow 0 e 1 (.slice p' (L ++ [(⟨q, c, l⟩ : Sl T)]).length cap') (L ++ [(⟨q, c, l⟩ : Sl T)]).length ((L ++ [(⟨q, c, l⟩ : Sl T)]).flatMap ql) ∧ Y7 (Xm p) w w' ∧ ∀ j, Xm p' j → w.heap.size ≤ j ∨ Xm p j) :
  ∃ (g : Gh) (w' : World), s.run P w = .ok (.value (.slice (g.o 0) (L ++ [(⟨q, c, l⟩ : Sl T)]).length (g.n 0))) w' ∧ Y7 (ZC e e2 sz en p m cap L L).fp w w' ∧ (ZC e e2 sz en (g.o 0) (L ++ [(⟨q, c, l⟩ : Sl T)]).length (g.n 0) (L ++ [⟨q, c, l⟩]) (L ++ [⟨q, c, l⟩])).holds w' ∧ (∀ b, (ZC e e2 sz en (g.o 0) (L ++ [(⟨q, c, l⟩ : Sl T)]).length (g.n 0) (L ++ [⟨q, c, l⟩]) (L ++ [⟨q, c, l⟩])).fp b → b < w'.heap.size) ∧
   ∀ b, (ZC e e2 sz en (g.o 0) (L ++ [(⟨q, c, l⟩ : Sl T)]).length (g.n 0) (L ++ [⟨q, c, l⟩]) (L ++ [⟨q, c, l⟩])).fp b → w.heap.size ≤ b ∨ (ZC e e2 sz en p m cap L L).fp b ∨ (Yo e2 sz q n2 c (l.flatMap en)).fp b := by
 have hN := qQ N
 have hw := QN ho
 have hn := JJ hw hen hz
 subst hn
 obtain ⟨p', cap', w', h1, h2, h3, h4⟩ := h rfl hN.hd
 have hN1 := hN.head h2 h3 h4
 have hnew : ∀ b, Xm q b → ¬ Jy p' L b := fun b hb hb' => by
  rcases qaT (w := w) h4 hb' with h5 | h5
  ·have := (hd b hb).2; omega
  ·exact (hd b hb).1 h5
 have hN2 := hN1.takeApp (J8 hw h3 fun b h1 h2 => (hd b h1).1 (.inl h2)) hnew
 refine ⟨Gh.of (fun _ => cap') fun _ => p', w', h1, h3.mono fun b hb => .inl hb, hN2.holds, hN2.lt, fun b hb => ?_⟩
 rcases qbD hb with h5 | h5
 ·exact (qaT (w := w) h4 h5).imp id .inl
 ·exact .inr (.inr h5)
end
theorem Yb.nest0 {T : Type} {B n : Nat} {w0 : World} {S : St} {a : Act} {w : World} {e m cap : Nat} {p : Option Addr} {H : List (Sl T)} (h : Yb B w0 n S a w) (k e2 sz : Nat) (en : T → List Value) (hk : S k = Yo e 1 p m cap (H.flatMap ql)) (h0 : ∀ x ∈ H, x = (⟨none, 0, []⟩ : Sl T)) : Yb B w0 n (Z5 S k (ZC e e2 sz en p m cap H H)) a w :=
 h.conv k (ZC e e2 sz en p m cap H H) hk trivial (by intro c x h; cases h) (fun w hw => (qdC (QN hw) h0).holds) (fun i hi => qdB h0 hi)
theorem Ju {T : Type} {P : Program} {ops : Array Oper} {B : Nat} {w0 : World} {n i : Nat} {o : Oper} {Spre : Nu → St} {R : List Nat} {d k : Nat} {X : Nu → KV} {p : Nu → Option Addr} {cap : Nu → Nat} {e m : Nat} {H : List (Sl T)} (e2 sz : Nat) (en : T → List Value)
  (h : OpOK P ops B w0 n i o Spre R (fun ν => [(d, X ν), (k, Yo e 1 (p ν) m (cap ν) (H.flatMap ql))])) (h0 : ∀ x ∈ H, x = (⟨none, 0, []⟩ : Sl T)) : OpOK P ops B w0 n i o Spre R (fun ν => [(d, X ν), (k, ZC e e2 sz en (p ν) m (cap ν) H H)]) :=
 qaY h fun ν S a w hr => by
  have h1 : Yb B w0 n (Z5 (Z5 S d (X ν)) k (Yo e 1 (p ν) m (cap ν) (H.flatMap ql))) a w := hr
  have h2 := h1.nest0 k e2 sz en (QF _ _ _) h0
  refine h2.congr fun j => ?_
  show Z5 (Z5 S d (X ν)) k _ j = Z5 (Z5 (Z5 S d (X ν)) k _) k _ j
  by_cases ej : j = k
  ·subst ej; rw [QF, QF]
  ·rw [Q5 _ _ ej, Q5 _ _ ej, Q5 _ _ ej]
end Go.Sx
namespace Go.Sx
open Go Go.RowKit
theorem Yb.nestOpen {T : Type} {B n : Nat} {w0 : World} {S : St} {a : Act} {w : World} {e m cap : Nat} {p : Option Addr} {H : List (Sl T)} (h : Yb B w0 n S a w) (k e2 sz : Nat) (en : T → List Value) (hk : S k = Yo e 1 p m cap (H.flatMap ql)) : Yb B w0 n (Z5 S k (ZC e e2 sz en p m cap H [])) a w :=
 h.conv k (ZC e e2 sz en p m cap H []) hk trivial (by intro c x h; cases h) (fun w hw => Yi.holds ⟨QN hw, fun i x h => by simp at h, fun i j x y _ h => by simp at h, fun i x h => by simp at h⟩) (fun i hi => by
  rcases hi with hi | ⟨j, x, h, _⟩
  ·exact hi
  ·simp at h)
theorem Yb.nestTake {T : Type} {B n : Nat} {w0 : World} {S : St} {a : Act} {w : World} {e e2 sz m cap n2 c : Nat} {en : T → List Value} {p q : Option Addr} {H L : List (Sl T)} {l : List T} (h : Yb B w0 n S a w) (k k2 : Nat) (hk : S k = ZC e e2 sz en p m cap H L) (hk2 : S k2 = Yo e2 sz q n2 c (l.flatMap en)) (hne : Nat.beq k k2 = false) (hen : ∀ x, (en x).length = sz) (hz : 0 < sz) :
  Yb B w0 n (Z5 (Z5 S k2 .none) k (ZC e e2 sz en p m cap H (L ++ [(⟨q, c, l⟩ : Sl T)]))) a w := by
 have hne' : k ≠ k2 := fun e => by rw [e, show Nat.beq k2 k2 = true from Nat.beq_refl k2] at hne; cases hne
 have hN : Yi w e e2 sz en p m cap H L := qQ (by rw [← hk]; exact h.holds k)
 have ho : w.ownsRow 0 e2 sz (.slice q n2 c) n2 (l.flatMap en) := QN (by rw [← hk2]; exact h.holds k2)
 have hn := JJ ho hen hz
 subst hn
 have hx : (S k).excl := by rw [hk]; trivial
 have hx2 : (S k2).excl := by rw [hk2]; trivial
 have hd : ∀ b, Xm q b → ¬ Jy p L b := fun b hb hb' => h.disj k2 k b (Ne.symm hne') hx2 (by rw [hk2]; exact hb) (by rw [hk]; exact hb')
 have hN2 := hN.takeApp ho hd
 have h0 : Yb B w0 n (Z5 (Z5 S k2 .none) k .none) a w := h.weak fun j => by
  by_cases e : j = k
  ·subst e; rw [QF]; exact .inl rfl
  ·rw [Q5 _ _ e]
   by_cases e2 : j = k2
   ·subst e2; rw [QF]; exact .inl rfl
   ·rw [Q5 _ _ e2]; exact .inr rfl
 have hcase : ∀ b, Jy p (L ++ [⟨q, c, l⟩]) b → (S k).fp b ∨ (S k2).fp b := fun b hb => (qbD hb).imp (fun h => by rw [hk]; exact h) fun h => by rw [hk2]; exact h
 refine (h0.ent k (ZC e e2 sz en p m cap H (L ++ [(⟨q, c, l⟩ : Sl T)])) (by intro c x h; cases h) hN2.holds hN2.lt (fun _ i hi => (hcase i hi).elim (h.ge k i hx) (h.ge k2 i hx2)) fun k' i hne2 _ hi hi' => ?_).congr fun j => ?_
 ·rw [Q5 _ _ hne2] at hi'
  by_cases e2 : k' = k2
  ·subst e2; rw [QF] at hi'; exact hi'
  ·rw [Q5 _ _ e2] at hi'
   rcases hcase i hi with h3 | h3
   ·exact h.disj k k' i (Ne.symm hne2) hx h3 hi'
   ·exact h.disj k2 k' i (Ne.symm e2) hx2 h3 hi'
 ·by_cases e : j = k
  ·subst e; rw [QF, QF]
  ·rw [Q5 _ _ e, Q5 _ _ e, Q5 _ _ e]
end Go.Sx
namespace Go.Sx
open Go Go.RowKit
theorem Xo {P : Program} {B n : Nat} {w0 : World} {S : St} {a : Act} {w : World} (hr : Yb B w0 n S a w) {fn : Func} (v : Gh → Value) (g : Gh) (Ms Fs : List KV) (Es : Gh → List V5) (fr : Nat → Prop) (ks : List Nat) (segs : List (Nat × Seg)) (v0 : Value) (Es0 : List V5)
  (hv : v g = v0) (hEs : Es g = Es0) (hfr : fr = JG w0.heap.size Fs) (hcase : (B = w0.heap.size ∧ Ms = []) ∨ S KFr = frM Ms w0) (hE : ∀ K ∈ Es0, V5.OK K)
  (hs : ∀ p ∈ segs, (∃ e, S p.1 = .blk p.2.b p.2.cs e) ∧ Nat.ble (p.2.off + p.2.m) p.2.cs.length = true)
  (hks : ks.map S = Es0.map (fun K => K fr) := by kernel_rfl) (hnd : (Z9 ks && !(ks.contains KFr)) = true := by rfl)
  (hk : (fn.results.toList).all (fun x => JX (S (Wk x))) = true := by kernel_rfl)
  (hp : Z2 P (Zd fn (fun t => ZU S (.tmp t))) (qbs (segs.map (·.2))) [] = some (v0, qas (segs.map (·.2))) := by kernel_rfl) :
  bodyPost P fn (fun e w' => ∃ g : Gh, e = .returned (v g) ∧ Y7 (YT Ms) w0 w' ∧ YD w0.heap.size (YT Ms) (JG w0.heap.size Fs) (Es g) w') .ret a w := by
 subst hv hEs
 exact qeR hr v g Ms Fs Es fr ks segs hfr hcase hks hnd hE hk hs hp
theorem Yb.dup {B n : Nat} {w0 : World} {S : St} {a : Act} {w : World} (h : Yb B w0 n S a w) (k k2 : Nat) {K : KV} (hk : S k = K) (hx : ¬ K.excl) (hs : ∀ c x, K ≠ .slot c x) : Yb B w0 n (Z5 S k2 K) a w :=
 h.addF k2 K [k] [K] (by rw [List.map_singleton, hk]) hx hs (fun hF => hF.1) fun hF i hi => ⟨K, by simp, hx, hi⟩
theorem qeF {P : Program} {ops : Array Oper} {B : Nat} {w0 : World} {n i : Nat} {o : Oper} {Spre : Nu → St} {R : List Nat} {u : Nu → List (Nat × KV)} (us : Nu → List (Nat × KV)) (h : OpOK P ops B w0 n i o Spre R u)
  (hu : ∀ ν S a w, Yb B w0 n (XE S (u ν)) a w → Yb B w0 n (XE (XE S (u ν)) (us ν)) a w) : OpOK P ops B w0 n i o Spre R (fun ν => u ν ++ us ν) :=
 qaY h fun ν S a w hr => by rw [Jw]; exact hu ν S a w hr
end Go.Sx
namespace Go.Sx
open Go Go.RowKit
end Go.Sx
namespace Go.Sx
open Go Go.RowKit
section
variable {fr : Nat → Prop} {Ks : List KV} {w : World}
theorem QP {sz n cap : Nat} {p : Option Addr} {xs : List Value} (R : Xv w sz p n cap xs) (hf : ∀ i, Je p n i → ∃ K' ∈ Ks, K'.fp i) (hs : 0 < sz := by decide) : qcn false fr Ks w (rdF qi sz p n cap xs) :=
 ⟨ZN R hs, fun i hi => by obtain ⟨K, h1, h2⟩ := hf i hi; exact ⟨K, h1, h2, fun h => by cases h⟩⟩
theorem qeV {sz n cap : Nat} {p : Option Addr} {xs : List Value} (R : Xv w sz p n cap xs) (hf : ∀ i, Je p n i → Jo Ks i ∧ fr i) (hs : 0 < sz := by decide) : qcn true fr Ks w (rdF qi sz p n cap xs) :=
 ⟨ZN R hs, fun i hi => by obtain ⟨⟨K, h1, h2, h3⟩, h4⟩ := hf i hi; exact ⟨K, h1, h3, fun _ => ⟨h2, h4⟩⟩⟩
theorem Xk {G : Type} {E : Part G} {L : List G} (R : RdL E w L) (hf : ∀ i, fpL E L i → ∃ K' ∈ Ks, K'.fp i) : qcn false fr Ks w (QA qi E L) :=
 ⟨JD R, fun i hi => by obtain ⟨K, h1, h2⟩ := hf i hi; exact ⟨K, h1, h2, fun h => by cases h⟩⟩
theorem Wq {K : KV} (h : K.holds w) (hm : K ∈ Ks) : qcn false fr Ks w K := ⟨h, fun i hi => ⟨K, hm, hi, fun h => by cases h⟩⟩
end
end Go.Sx
namespace Go.Sx
open Go Go.RowKit
theorem Qj {K : V5} {Es : List V5} (h : (K qi).excl) (r : ∀ K ∈ Es, (K qi).excl) : ∀ K' ∈ K :: Es, (K' qi).excl := fun K' hK => by
 rcases List.mem_cons.1 hK with rfl | hK
 ·exact h
 ·exact r K' hK
theorem QE {T : Type} {x : List (List T)} {L : List (Sl T)} (h : x = L.map Sl.l) {i : Nat} {t : List T} (ht : x[i]? = some t) : ∃ p c, L[i]? = some ⟨p, c, t⟩ := by
 obtain ⟨⟨p, c, l⟩, hy, rfl⟩ := qeD h ht
 exact ⟨p, c, hy⟩
end Go.Sx
namespace Go.Sx
open Go Go.RowKit
structure qfb (p : Option Addr) (n m : Nat) : Prop where
 len : n = m
 ptr : n = 0 ∨ ∃ b off, p = some ⟨b, off, none⟩
theorem Yb.at {B n : Nat} {w0 : World} {S : St} {a : Act} {w : World} (h : Yb B w0 n S a w) (k : Nat) {K : KV} (hk : S k = K) : K.holds w := hk ▸ h.holds k
theorem XT {T : Type} {w : World} {sz n : Nat} {p : Option Addr} {en : T → List Value} {l : List T} (R : Zu w sz p n (l.flatMap en)) (hen : ∀ x, (en x).length = sz) (hs : 0 < sz := by decide) : qfb p n l.length :=
 ⟨R.len hen hs, R.2.imp id fun ⟨b, off, h, _⟩ => ⟨b, off, h⟩⟩
theorem QH {X : Type} {P : Program} {w : World} {t : TypeId} {p : Option Addr} {n cap m : Nat} {k : IntKind} {i : Int} {sz : Nat} {x : List X} {s : Sem Next} (R : qfb p n m) (hl : x.length = m) (h : 0 ≤ i ∧ i < (x.length : Int))
  (hs : s = Sem.bind (Instr.indexAt t (.slice p n cap) (.int k i)) fun v => Sem.pure (Next.value v)) (hu : P.underlying t = some (.slice (P.elem t)) := by kernel_rfl) (he : (P.info? (P.elem t)).map (·.size) = some sz := by kernel_rfl) :
  s.run P w = .ok (.value (.pointer (some ⟨XB p, XC p + i.toNat * sz, none⟩))) w := by
 have hn := R.len
 subst hs
 rcases R.ptr with h0 | ⟨b, off, rfl⟩
 ·omega
 ·exact YS hu he ⟨h.1, by omega⟩
end Go.Sx
set_option linter.unusedVariables false
set_option linter.unusedSimpArgs false
namespace Go.Sx
open Go Go.RowKit
section
variable {P : Program} {N R : K} {xs : List (Nat × K)} {a : Act} {w : World} {B n id : Nat} {w0 : World} {ops : Array Oper} {draw : Bool} {S0 : St} {Se : Nu → St} {rw : List (List Nat × List Nat)}
theorem qN (hm : P.follows .mixedOrders = true) (hr : Yb B w0 n S0 a w) (hc : Zg P ops B w0 n 0 ops.toList (fun _ => S0) rw Se) (ks : List Nat) (hQ : ∀ ν a w, Yb B w0 n (kpS ks (Se ν)) a w → N a w)
  (hi : (!draw || (VN ops.toList rw [] && ZZ ops.toList 0)) = true := by kernel_rfl) : (Code.region id ops draw).wp P (J1 N xs R) a w := qgx hm hr hc (fun ν a w h => hQ ν a w (h.kp ks)) hi
theorem qg {y : Code} (hm : P.follows .mixedOrders = true) (hr : Yb B w0 n S0 a w) (hc : Zg P ops B w0 n 0 ops.toList (fun _ => S0) rw Se) (ks : List Nat) (hQ : ∀ ν a w, Yb B w0 n (kpS ks (Se ν)) a w → y.wp P (J1 N xs R) a w)
  (hi : (!draw || (VN ops.toList rw [] && ZZ ops.toList 0)) = true := by kernel_rfl) : (Code.seq (Code.region id ops draw) y).wp P (J1 N xs R) a w := qs (qN hm hr hc ks hQ hi)
theorem Qr {S : St} {c : Operand} {x y : Code} (hr : Yb B w0 n S a w) (t : Bool) (ht : t = true → x.wp P (J1 N xs R) a w) (hf : t = false → y.wp P (J1 N xs R) a w) (hk : XQ S c = true := by kernel_rfl) (he : ZU S c = .bool t := by kernel_rfl) : (Code.cond c x y).wp P (J1 N xs R) a w := qfP hr hk he ht hf
end
theorem sj {α : Type} {a b : α} (h : some a = some b) : a = b := Option.some.inj h
theorem VI (p : Option Addr) (c : Nat) : ∃ g : Gh, g.o 0 = p ∧ g.n 0 = c := ⟨⟨fun _ => c, fun _ => p, fun _ => ⟨Unit, ()⟩⟩, rfl, rfl⟩
theorem ZQ {G T : Type} {er : G → T} (gd : T → G) (p : Option Addr) (c : Nat) {x : List T} {L : List G} (h : x = L.map er) : ∃ g : Gh, g.o 0 = p ∧ g.n 0 = c ∧ g.dl er gd 0 x = L := ⟨⟨fun _ => c, fun _ => p, fun _ => ⟨_, L⟩⟩, rfl, rfl, qen rfl h⟩
abbrev QU {T : Type} (e : TypeId) (sz : Nat) (p : Option Addr) (c : Nat) (l : List T) (en : T → List Value) : KV := Yo e sz p l.length c (l.flatMap en)
abbrev RL (w0 : World) (n : Nat) (l : List (Nat × KV)) (a : Act) (w : World) : Prop := Yb w0.heap.size w0 n (Wy l) a w
theorem Ya {T : Type} {P : Program} {w : World} (en : T → List Value) {sz n : Nat} {p : Option Addr} {l : List T} {s : Sem Next} {i : Nat} {x : T} {v : Value} (R : Zu w sz p n (l.flatMap en)) (hen : ∀ x, (en x).length = sz) (hx : l[i]? = some x) (f m : Nat) (vs : List Value) (hvs : ((en x).drop f).take m = vs := by rfl)
  (hp : Z2 P s vs [] = some (.value v, Y3 (XB p) (XC p + i * sz + f) m) := by kernel_rfl) (hz : 0 < sz := by decide) : s.run P w = .ok (.value v) w := qfp R hen hx f m vs hvs hp hz
theorem YQ {T X : Type} {P : Program} {w : World} (t : TypeId) (k : IntKind) (i : Int) (p : Option Addr) (n cap : Nat) (x : List X) {sz : Nat} (en : T → List Value) {l : List T} {s : Sem Next} (R : Zu w sz p n (l.flatMap en)) (hen : ∀ x, (en x).length = sz) (hl : x.length = l.length) (h : 0 ≤ i ∧ i < (x.length : Int))
  (hs : s = Sem.bind (Instr.indexAt t (.slice p n cap) (.int k i)) fun v => Sem.pure (Next.value v) := by kernel_rfl) (hu : P.underlying t = some (.slice (P.elem t)) := by kernel_rfl) (he : (P.info? (P.elem t)).map (·.size) = some sz := by kernel_rfl) (hz : 0 < sz := by decide) :
  s.run P w = .ok (.value (.pointer (some ⟨XB p, XC p + i.toNat * sz, none⟩))) w := Z6 R hen hl h hs hu he hz
theorem J4 (w : World) (Fs : List KV) : ∃ fr : Nat → Prop, fr = JG w.heap.size Fs ∧ ∀ j, w.heap.size ≤ j → fr j := ⟨_, rfl, fun j h => .inl h⟩
section
variable {P : Program} {ops : Array Oper} {B : Nat} {w0 : World} {n : Nat} {i : Nat} {o : Oper} {Spre : Nu → St}
theorem qgb (ks : List Nat) (Ks : List KV) (v : Value) (d : Nat) (hv : ∀ ν w, Yj Ks w → (execOp (Y4 (Spre ν)) o).run P w = .ok (.value v) w)
  (hK : ∀ ν, ks.map (Spre ν) = Ks := by intro _; kernel_rfl) (hd : o.dst = some d := by rfl) (hdn : Nat.blt d n = true := by rfl) (hsel : YZ o = true := by rfl) (hg : o.guard = none := by rfl)
  (hk : ∀ ν, (o.op.operands.all (XQ (Spre ν))) = true := by intro _; kernel_rfl) (hp : ∀ ν, (X6 o (Spre ν)).all id = true := by intro _; kernel_rfl) :
  OpOK P ops B w0 n i o Spre (ks ++ X5 ops o) (fun _ => [(d, .slot true v)]) :=
 qcU ks (fun _ => v) (fun _ => true) (o.op.operands.toList.map fun _ => true) d (fun ν w _ h => hv ν w (Vn ks _ (hK ν) h)) hd hdn hsel (fun ν => by unfold Y2; rw [hg]) hk (fun ν => by
  have := hp ν
  simp only [List.all_eq_true] at this
  rw [X6] at this ⊢
  simp only [List.map_map]
  exact List.map_congr_left fun x hx => this _ (List.mem_map.2 ⟨x, hx, rfl⟩))
theorem qy (k : Nat) (Kv : KV) (v : Value) (d : Nat) (hv : ∀ ν w, Kv.holds w → (execOp (Y4 (Spre ν)) o).run P w = .ok (.value v) w)
  (hK : ∀ ν, Spre ν k = Kv := by intro _; kernel_rfl) (hd : o.dst = some d := by rfl) (hdn : Nat.blt d n = true := by rfl) (hsel : YZ o = true := by rfl) (hg : o.guard = none := by rfl)
  (hk : ∀ ν, (o.op.operands.all (XQ (Spre ν))) = true := by intro _; kernel_rfl) (hp : ∀ ν, (X6 o (Spre ν)).all id = true := by intro _; kernel_rfl) :
  OpOK P ops B w0 n i o Spre ([k] ++ X5 ops o) (fun _ => [(d, .slot true v)]) :=
 qgb [k] [Kv] v d (fun ν w h => hv ν w h.1) (fun ν => by rw [List.map_singleton, hK ν]) hd hdn hsel hg hk hp
theorem QV (k off : Nat) (b : Nat) (cs vs : List Value) (e : TypeId) (cs' : List Value) (hc : lay cs off vs = cs' := by kernel_rfl) (hd : o.dst = none := by rfl) (hg : o.guard = none := by rfl) (hkn : Nat.ble n k = true := by rfl) (hsel : YZ o = true := by rfl)
  (hk : ∀ ν, (o.op.operands.all (XQ (Spre ν))) = true := by intro _; kernel_rfl) (hp : ∀ ν, (X6 o (Spre ν)).all id = true := by intro _; kernel_rfl)
  (hb : ∀ ν, Spre ν k = .blk b cs e := by intro _; kernel_rfl) (hlen : Nat.ble (off + vs.length) cs.length = true := by kernel_rfl)
  (hv : ∀ ν, VF P (execOp (Y4 (Spre ν)) o) [] = some (.skip, (Y3 b off vs.length).zip vs) := by intro _; kernel_rfl) :
  OpOK P ops B w0 n i o Spre (k :: X5 ops o) (fun _ => [(k, .blk b cs' e)]) :=
 XO (X1 k off (fun _ => b) (fun _ => cs) (fun _ => vs) e hd hg hkn hsel hk hp hb (fun _ => hlen) hv) (fun _ => by rw [hc])
theorem qv (v : Value) (d k off m : Nat) (b : Nat) (cs : List Value) (e : TypeId) (hd : o.dst = some d := by rfl) (hdn : Nat.blt d n = true := by rfl) (hsel : YZ o = true := by rfl) (hg : o.guard = none := by rfl)
  (hb : ∀ ν, Spre ν k = .blk b cs e := by intro _; kernel_rfl)
  (hk : ∀ ν, (o.op.operands.all (XQ (Spre ν))) = true := by intro _; kernel_rfl)
  (hp : ∀ ν, (X6 o (Spre ν)).all id = true := by intro _; kernel_rfl)
  (hv : ∀ ν, Z2 P (execOp (Y4 (Spre ν)) o) ((cs.drop off).take m) [] = some (.value v, Y3 b off m) := by intro _; kernel_rfl) :
  OpOK P ops B w0 n i o Spre (k :: X5 ops o) (fun ν => [(d, .slot true v)]) := qfe (fun _ => v) d k off m (fun _ => b) (fun _ => cs) e hd hdn hsel hg hb hk hp hv
end
end Go.Sx
namespace Go.Sx
open Go
def WE : List (Option IntKind) → List Value → Prop
 | [], [] => True
 | some k :: ks, v :: vs => (∃ n, v = .int k n ∧ k.has n) ∧ WE ks vs
 | none :: ks, v :: vs => (∃ b, v = .bool b) ∧ WE ks vs
 | _, _ => False
theorem qbB {vs : List Value} (h : WE [] vs) : vs = [] := by
 cases vs with
 | nil => rfl
 | cons v vs => exact h.elim
theorem qad {k : IntKind} {ks : List (Option IntKind)} {vs : List Value} (h : WE (some k :: ks) vs) : ∃ n vs', vs = .int k n :: vs' ∧ k.has n ∧ WE ks vs' := by
 cases vs with
 | nil => exact h.elim
 | cons v vs =>
  obtain ⟨⟨n, rfl, hn⟩, hr⟩ := h
  exact ⟨n, vs, rfl, hn, hr⟩
def qdg (c : TypeId → Nat) (f : TypeId → DataW (List UInt8) → Option (List Value)) : Nat → List (TypeId × Nat × DataW (List UInt8)) → Option (List Value × Nat)
 | off, [] => some ([], off)
 | off, (t, o, x) :: r => if o = off then (f t x).bind fun vs => (qdg c f (off + c t) r).map fun y => (vs ++ y.1, y.2) else none
theorem Wh {c : TypeId → Nat} {f : TypeId → DataW (List UInt8) → Option (List Value)} {cs : List Value} : ∀ (ps : List (TypeId × Nat × DataW (List UInt8))) (off : Nat) (vs : List Value) (last : Nat), qdg c f off ps = some (vs, last) → cs.length = last →
  (∀ p ∈ ps, ∀ us, f p.1 p.2.2 = some us → (cs.drop p.2.1).take (c p.1) = us) → cs.drop off = vs
 | [], off, vs, last, h, hl, _ => by
  simp only [qdg, Option.some.injEq, Prod.mk.injEq] at h
  obtain ⟨rfl, rfl⟩ := h
  simp [hl]
 | (t, o, x) :: r, off, vs, last, h, hl, hp => by
  unfold qdg at h
  split at h
  ·rename_i ho
   subst ho
   obtain ⟨us, hus, h⟩ := Option.bind_eq_some_iff.1 h
   obtain ⟨y, hy, h⟩ := Option.map_eq_some_iff.1 h
   obtain ⟨y1, y2⟩ := y
   simp only [Prod.mk.injEq] at h
   obtain ⟨rfl, rfl⟩ := h
   have h1 := hp _ (List.mem_cons_self ..) us hus
   have h2 := Wh r (o + c t) y1 y2 hy hl fun p hq => hp p (List.mem_cons_of_mem _ hq)
   rw [← List.take_append_drop (c t) (cs.drop o), h1, List.drop_drop, h2]
  ·cases h
def qdS (P : Program) : Nat → TypeId → DataW (List UInt8) → Option (List Value)
 | 0, _, _ => none
 | d + 1, t, x =>
  match P.underlying t, x with
  | some (.array n e), .agg ds => if ds.length = n then (qdg P.cellsOf (qdS P d) 0 (ds.mapIdx fun i y => (e, i * P.cellsOf e, y))).bind fun y => if y.2 = P.cellsOf t then some y.1 else none else none
  | some (.struct fs), .agg ds => (qdg P.cellsOf (qdS P d) 0 (List.zipWith (fun f y => (f.type, f.offset, y)) fs.toList ds)).bind fun y => if y.2 = P.cellsOf t then some y.1 else none
  | some (.func ..), .nil => some [.nilFunc]
  | some (.func ..), .held (b :: r) =>
   match (List.range P.funcs.size).filter fun f => (P.funcs[f]?).any (·.name.toUTF8.data.toList == b :: r) with
   | [f0] => some [.func (.func f0) #[] #[]]
   | _ => none
  | _, _ => none
theorem JE {P : Program} {w : World} {base : Nat} {sp : Nat → Bool} : ∀ (d : Nat) (t : TypeId) (x : DataW (List UInt8)) (vs : List Value), qdS P d t x = some vs → ∀ (fuel : Nat) (cs : List Value) (q : List MemPlace),
  DataW.trod (funcToken P) P w base sp true fuel t cs = some (x, q) → cs = vs
 | 0, _, _, _, h => by cases h
 | d + 1, t, x, vs, h => by
  intro fuel cs q ht
  unfold qdS at h
  split at h
  ·rename_i n e ds hu
   split at h
   ·rename_i hn
    obtain ⟨⟨y1, y2⟩, hy, h⟩ := Option.bind_eq_some_iff.1 h
    split at h
    ·rename_i hc
     obtain rfl := Option.some.inj h
     obtain ⟨xs, m, rfl, hx, hl, hxs, hel⟩ := DataW.trod_array hu ht
     simp only [Prod.mk.injEq, DataW.agg.injEq] at hx
     obtain ⟨rfl, _⟩ := hx
     have := Wh (cs := cs) _ 0 y1 y2 hy (hl.trans hc.symm) (fun p hp us hus => by
      obtain ⟨i, hi⟩ := List.mem_iff_getElem?.1 hp
      rw [List.getElem?_mapIdx] at hi
      obtain ⟨z, hz, rfl⟩ := Option.map_eq_some_iff.1 hi
      rw [List.getElem?_map] at hz
      obtain ⟨u, hu', rfl⟩ := Option.map_eq_some_iff.1 hz
      have hi' : i < n := by rw [← hxs]; exact (List.getElem?_eq_some_iff.1 hu').1
      exact JE d e u.1 us hus m _ u.2 ((hel i hi').trans hu'))
     simpa using this
    ·cases h
   ·cases h
  ·rename_i fs ds hu
   obtain ⟨⟨y1, y2⟩, hy, h⟩ := Option.bind_eq_some_iff.1 h
   split at h
   ·rename_i hc
    obtain rfl := Option.some.inj h
    obtain ⟨xs, m, rfl, hx, hl, hxs, hel⟩ := DataW.trod_struct hu ht
    simp only [Prod.mk.injEq, DataW.agg.injEq] at hx
    obtain ⟨rfl, _⟩ := hx
    have := Wh (cs := cs) _ 0 y1 y2 hy (hl.trans hc.symm) (fun p hp us hus => by
     obtain ⟨i, hi⟩ := List.mem_iff_getElem?.1 hp
     rw [List.getElem?_zipWith] at hi
     cases hf : fs.toList[i]? with
     | none => simp [hf] at hi
     | some f =>
      cases hz : (xs.map (·.1))[i]? with
      | none => simp [hf, hz] at hi
      | some z =>
       simp only [hf, hz, Option.some.injEq] at hi
       subst hi
       rw [List.getElem?_map] at hz
       obtain ⟨u, hu', rfl⟩ := Option.map_eq_some_iff.1 hz
       exact JE d f.type u.1 us hus m _ u.2 ((hel i f (by simpa using hf)).trans hu'))
    simpa using this
   ·cases h
  ·rename_i a b c hu
   obtain rfl := Option.some.inj h
   cases fuel with
   | zero => simp [DataW.trod] at ht
   | succ n =>
    unfold DataW.trod at ht
    rw [hu] at ht
    split at ht <;> simp_all
  ·rename_i a b c x1 x2 hu
   split at h
   ·rename_i f0 hf
    obtain rfl := Option.some.inj h
    have : ∃ v, cs = [v] := by
     cases fuel with
     | zero => simp [DataW.trod] at ht
     | succ n =>
      unfold DataW.trod at ht
      rw [hu] at ht
      split at ht <;> simp_all
    obtain ⟨v, rfl⟩ := this
    rw [func_of_trod hu hf ht]
   ·cases h
  ·cases h
theorem W1 {P : Program} {laid : List (String × DataW Unit)} {w : World} (h : laidMetH P laid w) {n : String} {d : DataW Unit} (hx : (n, DataW.iface "func table" d) ∈ laid) (g : Nat) (t : TypeId) (fuel : Nat) (vs : List Value)
  (hg : P.globalNamed n = some g) (ht : (P.globals[g]?).map (·.type) = some t) (hv : qdS P fuel t d.funcsOut = some vs) : ∃ e fz, w.heap[g]? = some (.cells vs.toArray e fz) := by
 obtain ⟨g', t', cs, fuel', p, hg', ht', hc, hd⟩ := h.funcs hx
 obtain rfl := Option.some.inj (hg.symm.trans hg')
 obtain rfl := Option.some.inj (ht.symm.trans ht')
 have hcs := JE fuel t _ vs hv fuel' _ p hd
 unfold World.var? at hc
 rw [hg] at hc
 simp only [Option.bind_some] at hc
 split at hc
 ·rename_i c e fz he
  obtain rfl := Option.some.inj hc
  refine ⟨e, fz, ?_⟩
  rw [← hcs]
  simpa using he
 ·cases hc
end Go.Sx
set_option linter.unusedVariables false
set_option linter.unusedSimpArgs false
namespace Go.Sx
open Go Go.RowKit
inductive Lf where
 | cell (k : Option IntKind)
 | row (ks : List (Option IntKind))
 | rows (ks : List (Option IntKind))
def Lf.ok (w : World) : Lf → Value → Prop
 | .cell (some k), v => ∃ n, v = .int k n ∧ k.has n
 | .cell none, v => ∃ b, v = .bool b
 | .row ks, v => ∃ p cap, ∃ vs : List (List Value), v = .slice p vs.length cap ∧ Xv w ks.length p vs.length cap vs.flatten ∧ ∀ x ∈ vs, WE ks x
 | .rows ks, v => ∃ p cap, ∃ us : List Value, v = .slice p us.length cap ∧ Xv w 1 p us.length cap us ∧ ∀ u ∈ us, ∃ p cap, ∃ vs : List (List Value), u = .slice p vs.length cap ∧ Xv w ks.length p vs.length cap vs.flatten ∧ ∀ x ∈ vs, WE ks x
def WI (w : World) : List Lf → List Value → Prop
 | [], [] => True
 | l :: ls, v :: vs => l.ok w v ∧ WI w ls vs
 | _, _ => False
theorem qag {w : World} : ∀ {a b : List Lf} {x y : List Value}, WI w a x → WI w b y → WI w (a ++ b) (x ++ y)
 | [], _, [], _, _, h => h
 | [], _, _ :: _, _, h, _ => h.elim
 | _ :: _, _, [], _, h, _ => h.elim
 | _ :: _, _, _ :: _, _, ⟨h, h'⟩, k => ⟨h, qag h' k⟩
theorem qa0 {w : World} {vs : List Value} (h : WI w [] vs) : vs = [] := by
 cases vs with
 | nil => rfl
 | cons v vs => exact h.elim
theorem qez {w : World} {k : IntKind} {ls : List Lf} {vs : List Value} (h : WI w (.cell (some k) :: ls) vs) : ∃ n vs', vs = .int k n :: vs' ∧ k.has n ∧ WI w ls vs' := by
 cases vs with
 | nil => exact h.elim
 | cons v vs => obtain ⟨⟨n, rfl, hn⟩, hr⟩ := h; exact ⟨n, vs, rfl, hn, hr⟩
theorem WK {T : Type} {w : World} {ks : List (Option IntKind)} {ls : List Lf} {vs : List Value} (en : T → List Value) (Pr : T → Prop) (he : ∀ x, WE ks x → ∃ y : T, x = en y ∧ Pr y) (h : WI w (.row ks :: ls) vs) :
  ∃ p cap, ∃ l : List T, ∃ vs', vs = .slice p l.length cap :: vs' ∧ Xv w ks.length p l.length cap (l.flatMap en) ∧ (∀ y ∈ l, Pr y) ∧ WI w ls vs' := by
 cases vs with
 | nil => exact h.elim
 | cons v vs =>
  obtain ⟨⟨p, cap, us, rfl, hR, hu⟩, hr⟩ := h
  have : ∃ l : List T, l.length = us.length ∧ us.flatten = l.flatMap en ∧ ∀ y ∈ l, Pr y := by
   clear hR
   induction us with
   | nil => exact ⟨[], rfl, rfl, by simp⟩
   | cons x us ih =>
    obtain ⟨l, h1, h2, h3⟩ := ih (fun y hy => hu y (List.mem_cons_of_mem _ hy))
    obtain ⟨y, rfl, hy⟩ := he x (hu x (List.mem_cons_self ..))
    exact ⟨y :: l, by simp [h1], by simp [h2], fun z hz => by
     rcases List.mem_cons.1 hz with rfl | hz
     ·exact hy
     ·exact h3 z hz⟩
  obtain ⟨l, h1, h2, h3⟩ := this
  refine ⟨p, cap, l, vs, by rw [h1], ?_, h3, hr⟩
  rw [h1, ← h2]; exact hR
def qaU (c : TypeId → Nat) (f : TypeId → Option (List Lf)) : Nat → List (TypeId × Nat) → Option (List Lf × Nat)
 | off, [] => some ([], off)
 | off, (t, o) :: r => if o = off then (f t).bind fun ls => (qaU c f (off + c t) r).map fun y => (ls ++ y.1, y.2) else none
theorem W4 {w : World} {c : TypeId → Nat} {f : TypeId → Option (List Lf)} {cs : List Value} : ∀ (ps : List (TypeId × Nat)) (off : Nat) (ls : List Lf) (last : Nat), qaU c f off ps = some (ls, last) → cs.length = last →
  (∀ p ∈ ps, ∀ l, f p.1 = some l → WI w l ((cs.drop p.2).take (c p.1))) → WI w ls (cs.drop off)
 | [], off, ls, last, h, hl, _ => by
  unfold qaU at h
  injection h with h
  injection h with h1 h2
  subst h1 h2
  rw [List.drop_eq_nil_of_le (by omega)]
  trivial
 | (t, o) :: r, off, ls, last, h, hl, hp => by
  unfold qaU at h
  split at h
  ·rename_i ho
   subst ho
   obtain ⟨us, hus, h⟩ := Option.bind_eq_some_iff.1 h
   obtain ⟨⟨y1, y2⟩, hy, h⟩ := Option.map_eq_some_iff.1 h
   simp only [Prod.mk.injEq] at h
   obtain ⟨rfl, rfl⟩ := h
   have h1 := hp _ (List.mem_cons_self ..) us hus
   have h2 := W4 r (o + c t) y1 y2 hy hl fun p hq => hp p (List.mem_cons_of_mem _ hq)
   rw [← List.take_append_drop (c t) (cs.drop o), List.drop_drop]
   exact qag h1 h2
  ·cases h
def Vw : List Lf → Option (List (Option IntKind))
 | [] => some []
 | .cell k :: r => (Vw r).map (k :: ·)
 | .row _ :: _ => none
 | .rows _ :: _ => none
theorem Jq {w : World} : ∀ {ls : List Lf} {vs : List Value}, WI w ls vs → vs.length = ls.length
 | [], [], _ => rfl
 | [], _ :: _, h => h.elim
 | _ :: _, [], h => h.elim
 | _ :: _, _ :: _, h => by simp [Jq h.2]
theorem Vk {w : World} : ∀ {ls : List Lf} {ks : List (Option IntKind)} {vs : List Value}, Vw ls = some ks → WI w ls vs → WE ks vs
 | [], _, [], h, _ => by obtain rfl := Option.some.inj h; trivial
 | [], _, _ :: _, _, h => h.elim
 | .cell k :: r, _, [], _, h => by cases k <;> exact h.elim
 | .cell (some k) :: r, ks, v :: vs, h, ho => by
  obtain ⟨ks', h1, rfl⟩ := Option.map_eq_some_iff.1 h
  exact ⟨ho.1, Vk h1 ho.2⟩
 | .cell none :: r, ks, v :: vs, h, ho => by
  obtain ⟨ks', h1, rfl⟩ := Option.map_eq_some_iff.1 h
  exact ⟨ho.1, Vk h1 ho.2⟩
 | .row _ :: _, _, _, h, _ => by cases h
 | .rows _ :: _, _, _, h, _ => by cases h
def qeg (ls : List Lf) : Option (List Lf) :=
 match Vw ls with
 | some ks => some [.row ks]
 | none => match ls with
  | [.row ks] => some [.rows ks]
  | _ => none
theorem qbS {w : World} {ls r : List Lf} (h : qeg ls = some r) {p : Option Addr} {cap : Nat} {vs : List (List Value)} (hR : Xv w ls.length p vs.length cap vs.flatten) (hv : ∀ x ∈ vs, WI w ls x) : WI w r [.slice p vs.length cap] := by
 unfold qeg at h
 split at h
 ·rename_i ks hk
  obtain rfl := Option.some.inj h
  have hl : ∀ (ls : List Lf) (ks : List (Option IntKind)), Vw ls = some ks → ks.length = ls.length := by
   intro ls
   induction ls with
   | nil => intro ks h; obtain rfl := Option.some.inj h; rfl
   | cons a ls ih =>
    intro ks h
    cases a with
    | cell k => obtain ⟨ks', h1, rfl⟩ := Option.map_eq_some_iff.1 h; simp [ih ks' h1]
    | row k => cases h
    | rows k => cases h
  refine ⟨⟨p, cap, vs, rfl, ?_, fun x hx => Vk hk (hv x hx)⟩, trivial⟩
  rw [hl _ ks hk]; exact hR
 ·split at h
  case h_2 => cases h
  rename_i ks hk
  obtain rfl := Option.some.inj h
  have h1 : ∀ x ∈ vs, ∃ u, x = [u] ∧ (Lf.row ks).ok w u := fun x hx => by
   have := hv x hx
   match x, this with
   | [], h => exact h.elim
   | [u], h => exact ⟨u, rfl, h.1⟩
   | _ :: _ :: _, h => exact h.2.elim
  have h2 : ∃ us : List Value, us.length = vs.length ∧ vs.flatten = us ∧ ∀ u ∈ us, (Lf.row ks).ok w u := by
   clear hR hv
   induction vs with
   | nil => exact ⟨[], rfl, rfl, by simp⟩
   | cons x vs ih =>
    obtain ⟨us, a, b, c⟩ := ih fun y hy => h1 y (List.mem_cons_of_mem _ hy)
    obtain ⟨u, rfl, hu⟩ := h1 x (List.mem_cons_self ..)
    refine ⟨u :: us, by simp [a], by simp [b], fun z hz => ?_⟩
    rcases List.mem_cons.1 hz with rfl | hz
    ·exact hu
    ·exact c z hz
  obtain ⟨us, a, b, c⟩ := h2
  refine ⟨⟨p, cap, us, by rw [a], ?_, c⟩, trivial⟩
  rw [a, ← b]; exact hR
def J5 (P : Program) : Nat → TypeId → Option (List Lf)
 | 0, _ => none
 | d + 1, t =>
  match P.underlying t with
  | some .bool => some [.cell none]
  | some (.int k) => some [.cell (some k)]
  | some (.struct fs) => (qaU P.cellsOf (J5 P d) 0 (fs.toList.map fun f => (f.type, f.offset))).bind fun y => if y.2 = P.cellsOf t then some y.1 else none
  | some (.array n e) => (qaU P.cellsOf (J5 P d) 0 ((List.range n).map fun i => (e, i * P.cellsOf e))).bind fun y => if y.2 = P.cellsOf t then some y.1 else none
  | some (.slice e) => (J5 P d e).bind fun ls => if 0 < ls.length ∧ ls.length = P.cellsOf e then qeg ls else none
  | _ => none
theorem WS {w : World} {b z : Nat} : ∀ (vs : List (List Value)) (off : Nat), (∀ (i : Nat) (x : List Value), vs[i]? = some x → x.length = z ∧ ∀ (k : Nat) (u : Value), x[k]? = some u → w.cell? ⟨b, off + i * z + k, none⟩ = some u) →
  ∀ (j : Nat) (u : Value), vs.flatten[j]? = some u → w.cell? ⟨b, off + j, none⟩ = some u
 | [], _, _, j, u, h => by simp at h
 | x :: vs, off, H, j, u, h => by
  have h0 := H 0 x rfl
  rw [List.flatten_cons] at h
  by_cases hj : j < x.length
  ·rw [List.getElem?_append_left hj] at h
   have := h0.2 j u h
   simpa using this
  ·rw [List.getElem?_append_right (by omega)] at h
   have := WS vs (off + z) (fun i y hy => ⟨(H (i + 1) y hy).1, fun k u hu => by
    have := (H (i + 1) y hy).2 k u hu
    rwa [show off + (i + 1) * z + k = off + z + i * z + k by rw [Nat.add_mul]; omega] at this⟩) _ u h
   rw [show off + z + (j - x.length) = off + j by rw [h0.1]; rw [h0.1] at hj; omega] at this
   exact this
theorem Wx {z : Nat} : ∀ (vs : List (List Value)), (∀ x ∈ vs, x.length = z) → vs.flatten.length = vs.length * z
 | [], _ => by simp
 | x :: vs, h => by
  rw [List.flatten_cons, List.length_append, h x (List.mem_cons_self ..), Wx vs (fun y hy => h y (List.mem_cons_of_mem _ hy)), List.length_cons, Nat.add_mul]
  omega
theorem Jl {H : Type} {enc : TypeId × Value → H} {P : Program} {w : World} {base : Nat} {sp : Nat → Bool} {held : Bool} : ∀ (d : Nat) (t : TypeId) (ls : List Lf), J5 P d t = some ls →
  ∀ (fuel : Nat) (cs : List Value) (x : DataW H × List MemPlace), DataW.trod enc P w base sp held fuel t cs = some x → WI w ls cs
 | 0, _, _, h => by cases h
 | d + 1, t, ls, h => by
  intro fuel cs x ht
  unfold J5 at h
  split at h
  ·rename_i hu
   obtain rfl := Option.some.inj h
   cases fuel with
   | zero => simp [DataW.trod] at ht
   | succ n =>
    unfold DataW.trod at ht
    rw [hu] at ht
    split at ht <;> simp_all [WI, Lf.ok]
  ·rename_i k hu
   obtain rfl := Option.some.inj h
   cases fuel with
   | zero => simp [DataW.trod] at ht
   | succ n =>
    unfold DataW.trod at ht
    rw [hu] at ht
    split at ht <;> simp_all [WI, Lf.ok]
    obtain ⟨⟨_, hw⟩, _⟩ := ht
    simpa [Lit.wf, IntKind.has] using hw
  ·rename_i fs hu
   obtain ⟨⟨y1, y2⟩, hy, h⟩ := Option.bind_eq_some_iff.1 h
   split at h
   ·rename_i hc
    obtain rfl := Option.some.inj h
    obtain ⟨xs, m, _, _, hl, hxs, hel⟩ := DataW.trod_struct hu ht
    have := W4 (w := w) (cs := cs) _ 0 y1 y2 hy (hl.trans hc.symm) (fun p hp us hus => by
     obtain ⟨f, hf, rfl⟩ := List.mem_map.1 hp
     obtain ⟨i, hi⟩ := List.mem_iff_getElem?.1 hf
     have hi' : fs[i]? = some f := by simpa using hi
     have hx := hel i f hi'
     have hi2 : i < xs.length := by rw [hxs]; exact (Array.getElem?_eq_some_iff.1 hi').1
     rw [List.getElem?_eq_getElem hi2] at hx
     exact Jl d f.type us hus m _ _ hx)
    simpa using this
   ·cases h
  ·rename_i n e hu
   obtain ⟨⟨y1, y2⟩, hy, h⟩ := Option.bind_eq_some_iff.1 h
   split at h
   ·rename_i hc
    obtain rfl := Option.some.inj h
    obtain ⟨xs, m, _, _, hl, hxs, hel⟩ := DataW.trod_array hu ht
    have := W4 (w := w) (cs := cs) _ 0 y1 y2 hy (hl.trans hc.symm) (fun p hp us hus => by
     obtain ⟨i, hi, rfl⟩ := List.mem_map.1 hp
     have hi' : i < n := List.mem_range.1 hi
     have hx := hel i hi'
     rw [List.getElem?_eq_getElem (show i < xs.length by omega)] at hx
     exact Jl d e us hus m _ _ hx)
    simpa using this
   ·cases h
  ·rename_i e hu
   obtain ⟨ls', hls, h⟩ := Option.bind_eq_some_iff.1 h
   split at h
   ·rename_i hz
    rcases Deep.open_slice hu ht with ⟨rfl, _⟩ | ⟨a, len, cap, m, n, D, Pl, rfl, hb, hl, hm, hmm, _, hx⟩
    ·exact qbS h (vs := []) ⟨Nat.le_refl _, by simp, .inl rfl⟩ (by simp)
    ·have hlm : len ≤ m := by rw [hmm]; split <;> omega
     obtain ⟨V, hV⟩ := Deep.choose_lt (α := List Value) (p := fun i v => w.cells? base (a.add (i * P.cellsOf e)) (P.cellsOf e) = some v ∧ DataW.trod enc P w base sp held n e v = some (D i, Pl i)) hx
     have hfit : ∀ i, i < len → WI w ls' (V i) := fun i hi => Jl d e ls' hls n _ _ (hV i (by omega)).2
     have hvl : ((List.range len).map V).length = len := by simp
     have hel : ∀ (i : Nat) (x : List Value), ((List.range len).map V)[i]? = some x → i < len ∧ x = V i := fun i x hx => by
      have hi := (List.getElem?_eq_some_iff.1 hx).1
      rw [List.length_map, List.length_range] at hi
      refine ⟨hi, ?_⟩
      simp [hi] at hx
      exact hx.symm
     have := qbS (w := w) h (p := some a) (cap := cap) (vs := (List.range len).map V) ⟨by rw [hvl]; exact hl, ?_, ?_⟩ ?_
     ·rwa [hvl] at this
     ·exact Wx _ fun x hx => by obtain ⟨i, hi, rfl⟩ := List.mem_map.1 hx; exact Jq (hfit i (List.mem_range.1 hi))
     ·rcases Nat.eq_zero_or_pos len with h0 | h0
      ·left; rw [hvl, h0]
      ·right
       have hcell : ∀ i, i < len → ∀ (k : Nat) (u : Value), (V i)[k]? = some u → w.cell? ((a.add (i * ls'.length)).add k) = some u := fun i hi k u hu => by
        have h1 := (hV i (by omega)).1
        unfold World.cells? at h1
        rw [if_pos (by unfold Addr.add; split <;> exact hb)] at h1
        have hk : k < P.cellsOf e := by
         have := (List.getElem?_eq_some_iff.1 hu).1
         rw [Jq (hfit i hi)] at this; omega
        have := mapM_some_get h1 k k (by simp [hk])
        rw [hz.2]
        exact this.trans hu
       have hsp : a.spot = none := by
        have hv0 := Jq (hfit 0 h0)
        have := hcell 0 h0 0 _ (List.getElem?_eq_getElem (by omega))
        have e0 : (a.add (0 * ls'.length)).add 0 = a := by simp [Addr.add]
        rw [e0] at this
        unfold World.cell? at this
        split at this
        ·split at this
         ·cases this
         ·rename_i hs; simpa using hs
        ·cases this
       obtain ⟨b, off, spot⟩ := a
       subst hsp
       refine ⟨b, off, rfl, WS (z := ls'.length) _ off fun i x hx => ?_⟩
       obtain ⟨hi, rfl⟩ := hel i x hx
       refine ⟨Jq (hfit i hi), fun k u hu => ?_⟩
       have := hcell i hi k u hu
       rw [Deep.add_add] at this
       have e1 : (⟨b, off, none⟩ : Addr).add (i * ls'.length + k) = ⟨b, off + i * ls'.length + k, none⟩ := by
        unfold Addr.add
        split
        ·rename_i h00; simp [h00, Nat.add_assoc]
        ·simp [Nat.add_assoc]
       rwa [e1] at this
     ·intro x hx
      obtain ⟨i, hi, rfl⟩ := List.mem_map.1 hx
      exact hfit i (List.mem_range.1 hi)
   ·cases h
  ·cases h
end Go.Sx
namespace Go.Sx
open Go
theorem qfK {P : Program} {w : World} {r : Reach} {base : Nat} {t : TypeId} {v : Value} (hagg : (match P.underlying t with | some (.struct _) => true | some (.array _ _) => true | _ => false) = true) (h : Value.okWide P w r base t v) : ∃ vs, v = .agg (List.toArray vs) := by
 have h' : ∃ cs, v = .agg cs ∧ cs.size = P.cellsOf t ∧ Row.okWide P w r base t cs := by
  unfold Value.okWide at h
  split at h
  ·exact h
  ·exact h
  ·rename_i h1 h2
   exfalso
   split at hagg
   ·rename_i fs hf; exact h1 fs hf
   ·rename_i n e hf; exact h2 n e hf
   ·cases hagg
 obtain ⟨cs, rfl, _⟩ := h'
 exact ⟨cs.toList, by simp⟩
end Go.Sx
set_option linter.unusedVariables false
set_option linter.unusedSimpArgs false
namespace Go.Sx
open Go Go.RowKit
theorem qdt {T : Type} {w : World} {ks : List (Option IntKind)} {ls : List Lf} {vs : List Value} (E : Enc T) (hz : E.sz = ks.length) (hrd : ∀ y, E.rd w y) (Pr : T → Prop) (he : ∀ x, WE ks x → ∃ y : T, x = E.en y ∧ Pr y) (h : WI w (.rows ks :: ls) vs) :
  ∃ p cap, ∃ L : List (Sl T), ∃ vs', vs = .slice p L.length cap :: vs' ∧ Xv w 1 p L.length cap (L.flatMap ql) ∧ RdL E.row.toPart w L ∧ (∀ x ∈ L.map Sl.l, ∀ y ∈ x, Pr y) ∧ WI w ls vs' := by
 cases vs with
 | nil => exact h.elim
 | cons v vs =>
  obtain ⟨⟨p, cap, us, rfl, hR, hu⟩, hr⟩ := h
  have : ∃ L : List (Sl T), L.length = us.length ∧ us = L.flatMap ql ∧ RdL E.row.toPart w L ∧ ∀ x ∈ L.map Sl.l, ∀ y ∈ x, Pr y := by
   clear hR
   induction us with
   | nil => exact ⟨[], rfl, rfl, (fun y hy => by cases hy), (fun x hx => by cases hx)⟩
   | cons u us ih =>
    obtain ⟨L, h1, h2, h3, h4⟩ := ih fun y hy => hu y (List.mem_cons_of_mem _ hy)
    obtain ⟨q, c, xs, rfl, hR, hx⟩ := hu u (List.mem_cons_self ..)
    have : ∃ l : List T, l.length = xs.length ∧ xs.flatten = l.flatMap E.en ∧ ∀ y ∈ l, Pr y := by
     clear hR hu
     induction xs with
     | nil => exact ⟨[], rfl, rfl, by simp⟩
     | cons x xs ih =>
      obtain ⟨l, a, b, d⟩ := ih fun y hy => hx y (List.mem_cons_of_mem _ hy)
      obtain ⟨y, rfl, hy⟩ := he x (hx x (List.mem_cons_self ..))
      exact ⟨y :: l, by simp [a], by simp [b], fun z hz => by
       rcases List.mem_cons.1 hz with rfl | hz
       ·exact hy
       ·exact d z hz⟩
    obtain ⟨l, a, b, d⟩ := this
    rw [← a, ← hz, b] at hR
    refine ⟨⟨q, c, l⟩ :: L, by simp [h1], by rw [List.flatMap_cons, ← h2]; show _ = ql _ ++ us; rw [ql, a]; rfl, fun y hy => ?_, fun x hx => ?_⟩
    ·rcases List.mem_cons.1 hy with rfl | hy
     ·exact ⟨hR, fun z _ => hrd z⟩
     ·exact h3 y hy
    ·rw [List.map_cons] at hx
     rcases List.mem_cons.1 hx with rfl | hx
     ·exact d
     ·exact h4 x hx
  obtain ⟨L, h1, h2, h3, h4⟩ := this
  refine ⟨p, cap, L, vs, by rw [h1], ?_, h3, h4, hr⟩
  rw [h1, ← h2]; exact hR
end Go.Sx
