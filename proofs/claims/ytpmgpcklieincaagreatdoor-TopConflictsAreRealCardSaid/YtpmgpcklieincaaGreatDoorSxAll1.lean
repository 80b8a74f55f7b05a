/- The framework's texts, put together. Own work. -/
import Derived.Test.YtpmgpcklieincaaGreatDoorSxAll0
import Derived.RangeFuncRecord
import Derived.RangeFuncIn
import Derived.RangeFuncLeaves
import Derived.RangeFuncCalls
import Derived.OrdersIn
import Derived.TacticsIn
import Derived.RangeFuncSeq
import Derived.LoopNIn
import Derived.CallsIn
import Derived.WalkKit
import Derived.ProofKit
import Derived.OpenShut
import Derived.ShutString
import Derived.ChangeOld
import Derived.Below
import Derived.SizedLaws
import Derived.LaidMore
import Derived.LaidByTextLater
import Derived.SevenTiedAt
import Derived.Stop.Joined
import Derived.KernelRfl
set_option linter.unusedVariables false
set_option linter.unusedSimpArgs false
namespace Go.Sx
open Go Go.RowKit
def maskOf (ms : List Nat) (o : Oper) : Nat := (predsOf o).foldr (fun e m => (m ||| 2 ^ e) ||| ms.getD e 0) 0
def indepU : List Oper → List (List Nat × List Nat) → Nat → List (Nat × List Nat × List Nat) → List Nat → Bool
  | o :: os, (R, W) :: rw, i, pre, ms => (pre.all fun x => Nat.testBit (maskOf ms o) x.1 || (disj x.2.2 R && disj x.2.2 W && disj x.2.1 W && !(R.contains (TK + x.1)))) && indepU os rw (i + 1) ((i, R, W) :: pre) (ms ++ [maskOf ms o])
  | _, _, _, _, _ => true
theorem mask_spec {ms : List Nat} {k : Nat} : ∀ {l : List Nat}, Nat.testBit (l.foldr (fun e m => (m ||| 2 ^ e) ||| ms.getD e 0) 0) k = true → ∃ e ∈ l, k = e ∨ Nat.testBit (ms.getD e 0) k = true
  | [], h => by simp at h
  | e :: l, h => by
    simp only [List.foldr_cons, Nat.testBit_or, Bool.or_eq_true] at h
    rcases h with (h | h) | h
    · obtain ⟨e', he', hk⟩ := mask_spec (l := l) h
      exact ⟨e', List.mem_cons_of_mem _ he', hk⟩
    · rw [Nat.testBit_two_pow] at h
      exact ⟨e, by simp, .inl (of_decide_eq_true h).symm⟩
    · exact ⟨e, by simp, .inr h⟩
def MasksOK (ops : List Oper) (ms : List Nat) : Prop := ms.length ≤ ops.length ∧ ∀ (m b : Nat) (o : Oper), ms[m]? = some b → ops[m]? = some o → ∀ k, Nat.testBit b k = true → ∀ D, DownC ops D → (∀ e ∈ predsOf o, D e = true) → D k = true
theorem mask_ok {ops : List Oper} {ms : List Nat} (h : MasksOK ops ms) {o : Oper} {k : Nat} (hk : Nat.testBit (maskOf ms o) k = true) {D : Nat → Bool} (hD : DownC ops D) (hp : ∀ e ∈ predsOf o, D e = true) : D k = true := by
  obtain ⟨e, he, hk⟩ := mask_spec hk
  rcases hk with rfl | hk
  · exact hp _ he
  · cases hb : ms[e]? with
    | none => simp [List.getD, hb] at hk
    | some b =>
      simp only [List.getD, hb, Option.getD_some] at hk
      cases ho : ops[e]? with
      | none =>
        exfalso
        have h1 : e < ms.length := (List.getElem?_eq_some_iff.1 hb).1
        have h2 := h.1
        rw [List.getElem?_eq_none_iff] at ho
        omega
      | some oe => exact h.2 e b oe hb ho k hk D hD (hD e oe (hp e he) ho)
theorem indepU_aux {ops : List Oper} {rwA : List (List Nat × List Nat)} : ∀ (os : List Oper) (rw : List (List Nat × List Nat)) (i : Nat) (pre : List (Nat × List Nat × List Nat)) (ms : List Nat), indepU os rw i pre ms = true → ms.length = i → MasksOK ops ms →
    (∀ j, os[j]? = ops[i + j]?) → (∀ j, rw[j]? = rwA[i + j]?) → (∀ m R W, m < i → rwA[m]? = some (R, W) → (m, R, W) ∈ pre) →
    ∀ (j : Nat) (o : Oper) (R W : List Nat), i ≤ j → ops[j]? = some o → rwA[j]? = some (R, W) → ∀ (m : Nat) (R' W' : List Nat), m < j → rwA[m]? = some (R', W') →
    ∀ D, DownC ops D → (∀ e ∈ predsOf o, D e = true) → D m = true ∨ (disj W' R = true ∧ disj W' W = true ∧ disj R' W = true ∧ TK + m ∉ R)
  | [], rw, i, pre, ms, _, _, _, hos, _, _, j, o, R, W, hij, ho, _ => by
    have := hos (j - i)
    rw [show i + (j - i) = j by omega, ho] at this
    simp at this
  | o0 :: os, [], i, pre, ms, _, _, _, _, hrw, _, j, o, R, W, hij, _, hr => by
    have := hrw (j - i)
    rw [show i + (j - i) = j by omega, hr] at this
    simp at this
  | o0 :: os, (R0, W0) :: rw, i, pre, ms, h, hl, hM, hos, hrw, hpre, j, o, R, W, hij, ho, hr => by
    rw [indepU, Bool.and_eq_true] at h
    intro m R' W' hmj hm D hD hp
    have h0 : ops[i]? = some o0 := by have := hos 0; simpa using this.symm
    have hr0 : rwA[i]? = some (R0, W0) := by have := hrw 0; simpa using this.symm
    by_cases e : j = i
    · subst e
      obtain rfl : o0 = o := Option.some.inj (h0.symm.trans ho)
      obtain ⟨rfl, rfl⟩ : R0 = R ∧ W0 = W := by have := Option.some.inj (hr0.symm.trans hr); simpa using this
      have h1 := List.all_eq_true.1 h.1 (m, R', W') (hpre m R' W' hmj hm)
      simp only [Bool.or_eq_true, Bool.and_eq_true] at h1
      rcases h1 with h1 | h1
      · exact .inl (mask_ok hM h1 hD hp)
      · exact .inr ⟨h1.1.1.1, h1.1.1.2, h1.1.2, by simpa using h1.2⟩
    · refine indepU_aux os rw (i + 1) ((i, R0, W0) :: pre) (ms ++ [maskOf ms o0]) h.2 (by simp [hl]) ⟨?_, ?_⟩ (fun k => ?_) (fun k => ?_) (fun m R W hmi hr => ?_) j o R W (by omega) ho hr m R' W' hmj hm D hD hp
      · have := (List.getElem?_eq_some_iff.1 h0).1
        simp only [List.length_append, List.length_cons, List.length_nil]
        omega
      · intro m b o' hb ho' k hk D hD hp
        by_cases em : m < ms.length
        · rw [List.getElem?_append_left em] at hb
          exact hM.2 m b o' hb ho' k hk D hD hp
        · have em' : m = i := by
            have := (List.getElem?_eq_some_iff.1 hb).1
            simp at this
            omega
          subst em'
          rw [List.getElem?_append_right (by omega), hl] at hb
          simp at hb
          subst hb
          obtain rfl : o0 = o' := Option.some.inj (h0.symm.trans ho')
          exact mask_ok hM hk hD hp
      · have := hos (k + 1)
        rw [List.getElem?_cons_succ] at this
        rw [this, show i + (k + 1) = i + 1 + k by omega]
      · have := hrw (k + 1)
        rw [List.getElem?_cons_succ] at this
        rw [this, show i + (k + 1) = i + 1 + k by omega]
      · by_cases em : m = i
        · subst em
          have := Option.some.inj (hr0.symm.trans hr)
          rw [← this]; simp
        · exact List.mem_cons_of_mem _ (hpre m R W (by omega) hr)
theorem indepU_spec {ops : List Oper} {rw : List (List Nat × List Nat)} (h : indepU ops rw 0 [] [] = true) {i j : Nat} {o : Oper} {R W R' W' : List Nat} (hij : i < j) (ho : ops[j]? = some o) (hj : rw[j]? = some (R, W)) (hi : rw[i]? = some (R', W'))
    {D : Nat → Bool} (hD : DownC ops D) (hp : ∀ e ∈ predsOf o, D e = true) : D i = true ∨ (disj W' R = true ∧ disj W' W = true ∧ disj R' W = true ∧ TK + i ∉ R) :=
  indepU_aux ops rw 0 [] [] h rfl ⟨Nat.zero_le _, fun m b o h => by simp at h⟩ (fun j => by simp) (fun j => by simp) (fun m R W hm => by omega) j o R W (Nat.zero_le _) ho hj i R' W' hij hi D hD hp
section
variable {P : Program} {ops : Array Oper} {B : Nat} {w0 : World} {n : Nat}
theorem Chain.anyorderT {Q : Exit → Act → World → Prop} {S0 : St} {Se : Nu → St} {rw : List (List Nat × List Nat)} {a : Act} {w : World} (hc : Chain P ops B w0 n 0 ops.toList (fun _ => S0) rw Se)
    (hi : indepU ops.toList rw 0 [] [] = true) (hf : forward ops.toList 0 = true) (hr : Rep B w0 n S0 a w)
    (hQ : ∀ ν a w, Rep B w0 n (Se ν) a w → Q .normal a w) (fuel : Nat) (hfuel : ops.size ≤ fuel) : wpAny P .any ops Q fuel (Array.replicate ops.size false) a w := by
  obtain ⟨hlen, us, hus, hSe⟩ := Chain.parts _ _ _ _ hc
  have hl : ops.toList.length = ops.size := Array.length_toList
  have hget : ∀ j o, ops[j]? = some o → ops.toList[j]? = some o := fun j o h => by rw [Array.getElem?_toList]; exact h
  -- the done set
  let D (L : Array Bool) : Nat → Bool := fun j => L.getD j false
  have main : ∀ (fuel : Nat) (L : Array Bool) (p : PNu) (a : Act) (w : World), L.size = ops.size → (∀ j, D L j = false → p j = none) → (∀ j, D L j = true → ∃ g, p j = some g) →
      (∀ j o, D L j = true → ops[j]? = some o → ∀ e ∈ o.after, Region.binds .any e = true → D L e.on = true) →
      (∀ ν, Ext p ν → Rep B w0 n (can us (D L) S0 ν ops.size) a w) → ((List.range ops.size).filter fun j => !D L j).length ≤ fuel → wpAny P .any ops Q fuel L a w := by
    intro fuel
    have hdone : ∀ (L : Array Bool) (p : PNu) (a : Act) (w : World), L.size = ops.size →
      (∀ j o, D L j = true → ops[j]? = some o → ∀ e ∈ o.after, Region.binds .any e = true → D L e.on = true) →
      (∀ ν, Ext p ν → Rep B w0 n (can us (D L) S0 ν ops.size) a w) → Region.ready .any ops L = [] → Q .normal a w := by
      intro L p a w hL hdown hrep hno
      have hall : ∀ j, j < ops.size → D L j = true := by
        intro j
        induction j using Nat.strongRecOn with
        | _ j ih =>
          intro hj
          cases hD : D L j with
          | true => rfl
          | false =>
            have : j ∈ Region.ready .any ops L := by
              rw [mem_ready]
              refine ⟨?_, ops[j], by simp [hj], fun e he hb => ?_⟩
              · have : L.getD j false = false := hD
                simp only [Array.getD_eq_getD_getElem?] at this ⊢
                rw [Array.getElem?_eq_getElem (by omega)] at this ⊢
                exact this
              · have h1 := forward_spec _ _ hf j ops[j] (by simp [hj]) e he hb
                simp only [Nat.zero_add] at h1
                exact ih e.on h1 (by omega)
            rw [hno] at this; cases this
      obtain ⟨ν, hν⟩ := Ext.exists p
      refine hQ ν a w ((hrep ν hν).congr fun k => ?_)
      rw [hSe ν, hl]
      exact can_congr _ fun j hj _ => (hall j hj).symm
    induction fuel with
    | zero =>
      intro L p a w hL hp hps hdown hrep hcount
      have hno : Region.ready .any ops L = [] := by
        cases hrd : Region.ready .any ops L with
        | nil => rfl
        | cons j rest =>
          exfalso
          have hj : j ∈ Region.ready .any ops L := by rw [hrd]; simp
          obtain ⟨h1, o, ho, _⟩ := mem_ready.1 hj
          have hjs : j < ops.size := (Array.getElem?_eq_some_iff.1 ho).1
          have : j ∈ (List.range ops.size).filter fun j => !D L j := by
            simp only [List.mem_filter, List.mem_range, hjs, true_and, Bool.not_eq_true']
            show L.getD j false = false
            simp only [Array.getD_eq_getD_getElem?] at h1 ⊢
            rw [Array.getElem?_eq_getElem (by omega)] at h1 ⊢
            exact h1
          have := List.length_pos_of_mem this
          omega
      exact ⟨hno, hdone L p a w hL hdown hrep hno⟩
    | succ fuel ih =>
      intro L p a w hL hp hps hdown hrep hcount
      refine ⟨hdone L p a w hL hdown hrep, fun i hi' => ?_⟩
      obtain ⟨hLi, o, ho, hpre⟩ := mem_ready.1 hi'
      have his : i < ops.size := (Array.getElem?_eq_some_iff.1 ho).1
      have hDi : D L i = false := by
        show L.getD i false = false
        simp only [Array.getD_eq_getD_getElem?] at hLi ⊢
        rw [Array.getElem?_eq_getElem (by omega)] at hLi ⊢
        exact hLi
      obtain ⟨R, W, hrw, hW, hT, hok⟩ := hus i o (hget i o ho)
      simp only [Nat.zero_add] at hok hT
      -- what touches what it touches is done if it stands before it, and isn't done if it stands behind it
      have hord : ∀ j, j < ops.size → j ≠ i → (∃ R' W', rw[j]? = some (R', W') ∧ ¬ (disj W' R = true ∧ disj W' W = true ∧ disj R' W = true) ∧ j < i) ∨ (∃ R' W', rw[j]? = some (R', W') ∧ ¬ (disj W R' = true ∧ disj W W' = true ∧ disj R W' = true) ∧ i < j) → D L j = decide (j < i) := by
        intro j hj hne hcase
        have hDC : DownC ops.toList (D L) := fun j' o' hDj' ho' e he => by
          obtain ⟨e', he', rfl⟩ := List.mem_map.1 he
          rw [List.mem_filter] at he'
          exact hdown j' o' hDj' (by simpa using ho') e' (by simpa using he'.1) he'.2
        rcases hcase with ⟨R', W', hr', hn, hlt⟩ | ⟨R', W', hr', hn, hlt⟩
        · have h3 := indepU_spec hi hlt (hget i o ho) hrw hr' hDC (fun e he => by
            obtain ⟨e', he', rfl⟩ := List.mem_map.1 he
            rw [List.mem_filter] at he'
            exact hpre e' (by simpa using he'.1) he'.2)
          have := h3.resolve_right fun q => hn ⟨q.1, q.2.1, q.2.2.1⟩
          simp only [hlt, decide_true]; exact this
        · obtain ⟨oj, hoj⟩ : ∃ oj, ops[j]? = some oj := ⟨ops[j], by simp [hj]⟩
          cases hDj : D L j with
          | false => have : ¬ j < i := by omega
                     simp [this]
          | true =>
            have h3 := indepU_spec hi hlt (hget j oj hoj) hr' hrw hDC (hDC j oj hDj (hget j oj hoj))
            have := h3.resolve_right fun q => hn ⟨q.1, q.2.1, q.2.2.1⟩
            rw [hDi] at this; cases this
      have hag : ∀ ν, Ext p ν → ∀ k ∈ R, can us (D L) S0 ν ops.size k = can us (fun _ => true) S0 ν i k := by
        intro ν _ k hk
        have e1 : can us (D L) S0 ν ops.size k = can us (fun j => decide (j < i)) S0 ν ops.size k := by
          refine can_congr _ fun j hj hkj => ?_
          by_cases hji : j = i
          · subst hji; rw [hDi]; simp
          · obtain ⟨oj, hoj⟩ : ∃ oj, ops[j]? = some oj := ⟨ops[j], by simp [hj]⟩
            obtain ⟨R', W', hrw', hW', _, _⟩ := hus j oj (hget j oj hoj)
            rw [hW' ν] at hkj
            refine hord j hj hji ?_
            rcases Nat.lt_or_ge j i with hlt | hge
            · exact .inl ⟨R', W', hrw', fun hd => disj_spec hd.1 hkj hk, hlt⟩
            · exact .inr ⟨R', W', hrw', fun hd => disj_spec hd.2.2 hk hkj, by omega⟩
        rw [e1]
        have key : ∀ m, i ≤ m → can us (fun j => decide (j < i)) S0 ν m k = can us (fun _ => true) S0 ν i k := by
          intro m
          induction m with
          | zero => intro hm; have : i = 0 := by omega
                    subst this; rfl
          | succ m ihm =>
            intro hm
            by_cases e : i = m + 1
            · subst e
              exact can_congr _ fun j hj _ => by simp [hj]
            · rw [can, if_neg (by simp; omega)]
              exact ihm (by omega)
        exact key _ (by omega)
      have hJ : ∀ j, TK + j ∈ R → ∃ g, p j = some g := by
        intro j hj
        have hlt := tokOK_spec hT hj
        have hDC : DownC ops.toList (D L) := fun j' o' hDj' ho' e he => by
          obtain ⟨e', he', rfl⟩ := List.mem_map.1 he
          rw [List.mem_filter] at he'
          exact hdown j' o' hDj' (by simpa using ho') e' (by simpa using he'.1) he'.2
        obtain ⟨oj, hoj⟩ : ∃ oj, ops[j]? = some oj := ⟨ops[j]'(by omega), by simp [show j < ops.size by omega]⟩
        obtain ⟨R', W', hrw', _, _, _⟩ := hus j oj (hget j oj hoj)
        have h3 := indepU_spec hi hlt (hget i o ho) hrw hrw' hDC (fun e he => by
            obtain ⟨e', he', rfl⟩ := List.mem_map.1 he
            rw [List.mem_filter] at he'
            exact hpre e' (by simpa using he'.1) he'.2)
        exact hps j (h3.resolve_right fun q => q.2.2.2 hj)
      refine wpOp_mono ?_ (hok Q p (fun ν => can us (D L) S0 ν ops.size) a w hag (hp i hDi) ho hrep hJ)
      rintro a' w' ⟨g, hg⟩
      have hDset : ∀ j, D (L.setIfInBounds i true) j = (D L j || decide (j = i)) := by
        intro j
        show (L.setIfInBounds i true).getD j false = _
        by_cases e : j = i
        · subst e
          simp [Array.getD_eq_getD_getElem?, hL, his]
        · rw [getD_set_ne false (fun h => e h.symm)]
          simp [e, D]
      refine ih (L.setIfInBounds i true) (p.set i g) a' w' (by simp [hL]) ?_ ?_ ?_ ?_ ?_
      · intro j hj
        rw [hDset] at hj
        simp only [Bool.or_eq_false_iff, decide_eq_false_iff_not] at hj
        simp only [PNu.set, hj.2, if_false]
        exact hp j hj.1
      · intro j hj
        rw [hDset] at hj
        by_cases e : j = i
        · exact ⟨g, by simp [PNu.set, e]⟩
        · obtain ⟨g', hg'⟩ := hps j (by simpa [e] using hj)
          exact ⟨g', by simp [PNu.set, e, hg']⟩
      · intro j oj hj hoj e he hb
        rw [hDset] at hj ⊢
        simp only [Bool.or_eq_true, decide_eq_true_eq] at hj ⊢
        rcases hj with hj | hj
        · exact .inl (hdown j oj hj hoj e he hb)
        · subst hj
          rw [ho] at hoj
          injection hoj with hoj
          subst hoj
          exact .inl (hpre e he hb)
      · intro ν hν
        refine (hg ν hν).congr fun k => ?_
        have hfun : D (L.setIfInBounds i true) = fun j => D L j || decide (j = i) := funext hDset
        rw [hfun]
        refine can_add hDi k _ his ?_
        intro j hij hj hDj hki hkj
        obtain ⟨oj, hoj⟩ : ∃ oj, ops[j]? = some oj := ⟨ops[j], by simp [hj]⟩
        obtain ⟨R', W', hrw', hW', _, _⟩ := hus j oj (hget j oj hoj)
        rw [hW ν] at hki
        rw [hW' ν] at hkj
        have := hord j hj (by omega) (.inr ⟨R', W', hrw', fun hd => disj_spec hd.2.1 hki hkj, hij⟩)
        rw [hDj] at this
        simp at this
        omega
      · have hsub : ((List.range ops.size).filter fun j => !D (L.setIfInBounds i true) j) = ((List.range ops.size).filter fun j => !D L j).filter fun j => !decide (j = i) := by
          rw [List.filter_filter]
          refine List.filter_congr fun j _ => ?_
          rw [hDset]
          cases D L j <;> simp
        rw [hsub]
        have hmem : i ∈ (List.range ops.size).filter fun j => !D L j := by simp [his, hDi]
        have : (((List.range ops.size).filter fun j => !D L j).filter fun j => !decide (j = i)).length < ((List.range ops.size).filter fun j => !D L j).length := by
          refine List.length_filter_lt_length_iff_exists.2 ⟨i, hmem, by simp⟩
        omega
  have hno : ∀ j, ¬ D (Array.replicate ops.size false) j = true := fun j hj => by
    have : (Array.replicate ops.size false).getD j false = true := hj
    by_cases hjs : j < ops.size <;> simp [Array.getD_eq_getD_getElem?, hjs] at this
  refine main fuel _ (fun _ => none) a w (by simp) (fun _ _ => rfl) (fun j hj => absurd hj (hno j)) ?_ ?_ ?_
  · intro j o hj
    have : (Array.replicate ops.size false).getD j false = true := hj
    by_cases hjs : j < ops.size <;> simp [Array.getD_eq_getD_getElem?, hjs] at this
  · intro ν _
    refine hr.congr fun k => ?_
    have key : ∀ m, can us (D (Array.replicate ops.size false)) S0 ν m = S0 := by
      intro m
      induction m with
      | zero => rfl
      | succ m ih =>
        have : D (Array.replicate ops.size false) m = false := by
          show (Array.replicate ops.size false).getD m false = false
          by_cases hjs : m < ops.size <;> simp [Array.getD_eq_getD_getElem?, hjs]
        rw [can, this]; simpa using ih
    rw [key]
  · refine Nat.le_trans (List.length_filter_le _ _) ?_
    simpa using hfuel
end
theorem k_regT {P : Program} {N R : K} {xs : List (Nat × K)} {a : Act} {w : World} {B n id : Nat} {w0 : World} {ops : Array Oper} {draw : Bool} {S0 : St} {Se : Nu → St} {rw : List (List Nat × List Nat)} (hm : P.follows .mixedOrders = true)
    (hr : Rep B w0 n S0 a w) (hc : Chain P ops B w0 n 0 ops.toList (fun _ => S0) rw Se)
    (hi : (draw && (indepU ops.toList rw 0 [] [] && forward ops.toList 0)) = true)
    (hQ : ∀ ν a w, Rep B w0 n (Se ν) a w → N a w) : (Code.region id ops draw).wp P (mkQ N xs R) a w := by
  cases draw with
  | false => cases hi
  | true =>
    simp only [Bool.true_and, Bool.and_eq_true] at hi
    refine wp_region_any hm ?_
    have hr' : Rep B w0 n S0 a { w with drawn := w.drawn + 1 } := hr.world ⟨rfl, rfl, rfl, Nat.le_refl _, fun _ _ => rfl⟩
    exact Chain.anyorderT hc hi.1 hi.2 hr' (fun ν a w h => hQ ν a w h) _ (Nat.le_refl _)
end Go.Sx
set_option linter.unusedVariables false
namespace Go.Sx
open Go Go.RowKit
abbrev vI (n : Int) : Value := .int .i64 n
abbrev vP (b o : Nat) : Value := .pointer (some ⟨b, o, none⟩)
abbrev sI (n : Int) : KV := .slot true (.int .i64 n)
abbrev sB (b : Bool) : KV := .slot true (.bool b)
abbrev sP (b o : Nat) : KV := .slot true (.pointer (some ⟨b, o, none⟩))
abbrev sS (p : Option Addr) (n c : Nat) : KV := .slot true (.slice p n c)
abbrev rdl {T : Type} (fr : Nat → Prop) (sz : Nat) (p : Option Addr) (c : Nat) (l : List T) (en : T → List Value) : KV := rdF fr sz p l.length c (l.flatMap en)
theorem Rep.toM {B n : Nat} {w0 : World} {S : St} {a : Act} {w : World} (h : Rep B w0 n S a w) (l : List (Nat × KV)) (hl : l.map (fun p => S p.1) = l.map (fun p => p.2) := by kernel_rfl) : Rep B w0 n (ofL l) a w := h.toL l hl
def kpS : List Nat → St → St
  | [], _ => fun _ => .none
  | k :: r, S => fun i => bif Nat.beq i k then S i else kpS r S i
theorem kpS_or (S : St) (k : Nat) : ∀ l : List Nat, kpS l S k = .none ∨ kpS l S k = S k
  | [] => .inl rfl
  | j :: r => by
    show (bif Nat.beq k j then S k else kpS r S k) = .none ∨ (bif Nat.beq k j then S k else kpS r S k) = S k
    cases Nat.beq k j with
    | true => exact .inr rfl
    | false => exact kpS_or S k r
theorem Rep.kp {B n : Nat} {w0 : World} {S : St} {a : Act} {w : World} (h : Rep B w0 n S a w) (l : List Nat) : Rep B w0 n (kpS l S) a w := h.weak fun k => kpS_or S k l
section
variable {P : Program} {ops : Array Oper} {B : Nat} {w0 : World} {n : Nat}
theorem Chain.v {i : Nat} {o : Oper} {rest : List Oper} {S Se : Nu → St} {rw : List (List Nat × List Nat)} (d : Nat) (v : Value) (t : Chain P ops B w0 n (i + 1) rest (fun ν => updAll (S ν) [(d, .slot true v)]) rw Se)
    (hd : o.dst = some d := by rfl) (hdn : Nat.blt d n = true := by rfl) (hsel : noSel o = true := by rfl) (hg : o.guard = none := by rfl)
    (hk : ∀ ν, (o.op.operands.all (knownB (S ν))) = true := by intro _; kernel_rfl) (hp : ∀ ν, (condsOf o (S ν)).all id = true := by intro _; kernel_rfl)
    (hv : ∀ ν w, (execOp (envU (S ν)) o).run P w = .ok (.value v) w := by intro _ _; kernel_rfl) (hT : tokOK i (tmpsOf ops o) = true := by kernel_rfl) : Chain P ops B w0 n i (o :: rest) S ((tmpsOf ops o, [d]) :: rw) Se :=
  .cons [d] (ok_val (fun _ => v) d hd hdn hsel hg hk hp hv) t (fun _ => rfl) hT
end
theorem k_rg {P : Program} {N R : K} {xs : List (Nat × K)} {a : Act} {w : World} {B n id : Nat} {w0 : World} {ops : Array Oper} {draw : Bool} {S0 : St} {Se : Nu → St} {rw : List (List Nat × List Nat)} (hm : P.follows .mixedOrders = true)
    (hr : Rep B w0 n S0 a w) (hc : Chain P ops B w0 n 0 ops.toList (fun _ => S0) rw Se) (hQ : ∀ ν a w, Rep B w0 n (Se ν) a w → N a w)
    (hi : (!draw || (indep ops.toList rw [] && forward ops.toList 0)) = true := by kernel_rfl) : (Code.region id ops draw).wp P (mkQ N xs R) a w := k_reg hm hr hc hi hQ
end Go.Sx
set_option linter.unusedVariables false
set_option linter.unusedSimpArgs false
namespace Go.Sx
open Go Go.RowKit
theorem RowAt.len {T : Type} {w : World} {sz n : Nat} {p : Option Addr} {en : T → List Value} {l : List T} (R : RowAt w sz p n (l.flatMap en)) (hen : ∀ x, (en x).length = sz) (hs : 0 < sz) : n = l.length := by
  have := R.1
  rw [flat_len hen] at this
  exact (Nat.eq_of_mul_eq_mul_right hs this).symm
theorem owns_len {T : Type} {w : World} {base e sz n cap : Nat} {p : Option Addr} {en : T → List Value} {l : List T} (R : w.ownsRow base e sz (.slice p n cap) n (l.flatMap en)) (hen : ∀ x, (en x).length = sz) (hs : 0 < sz) : n = l.length := (owns_row R).len hen hs
theorem rdA {w : World} {sz n cap : Nat} {p : Option Addr} {xs : List Value} (R : RowC w sz p n cap xs) (hs : 0 < sz := by decide) : (rdF anyF sz p n cap xs).holds w := (rdF_fact R (fun _ _ => trivial) hs 0).2.1
theorem dnA {G : Type} {w : World} {E : Part G} {L : List G} (R : RdL E w L) : (dnK anyF E L).holds w := dn_holds R fun _ _ => trivial
theorem ix_row {T X : Type} {P : Program} {w : World} {t : TypeId} {p : Option Addr} {n cap : Nat} {k : IntKind} {i : Int} {sz : Nat} {en : T → List Value} {l : List T} {x : List X} {s : Sem Next} (R : RowAt w sz p n (l.flatMap en)) (hen : ∀ x, (en x).length = sz) (hl : x.length = l.length) (h : 0 ≤ i ∧ i < (x.length : Int))
    (hs : s = Sem.bind (Instr.indexAt t (.slice p n cap) (.int k i)) fun v => Sem.pure (Next.value v)) (hu : P.underlying t = some (.slice (P.elem t)) := by kernel_rfl) (he : (P.info? (P.elem t)).map (·.size) = some sz := by kernel_rfl) (hz : 0 < sz := by decide) :
    s.run P w = .ok (.value (.pointer (some ⟨hdB p, hdO p + i.toNat * sz, none⟩))) w := by
  have hn := R.len hen hz
  subst hs
  exact run_ix hu he R ⟨h.1, by omega⟩
theorem el_cellsN {T : Type} {w : World} {en : T → List Value} {sz n : Nat} {p : Option Addr} {l : List T} (R : RowAt w sz p n (l.flatMap en)) (hen : ∀ x, (en x).length = sz) {i : Nat} {x : T} (hx : l[i]? = some x) (f m : Nat) {vs : List Value} (hvs : ((en x).drop f).take m = vs) (hz : 0 < sz := by decide) :
    ∀ j u, vs[j]? = some u → w.cell? ⟨hdB p, hdO p + i * sz + f + j, none⟩ = some u := by
  have hn := R.len hen hz
  subst hn
  exact el_cells R hen hx f m hvs
theorem ld_row {T : Type} {P : Program} {w : World} {en : T → List Value} {sz n : Nat} {p : Option Addr} {l : List T} {s : Sem Next} {i : Nat} {x : T} {v : Value} (R : RowAt w sz p n (l.flatMap en)) (hen : ∀ x, (en x).length = sz) (hx : l[i]? = some x) (f m : Nat) (vs : List Value) (hvs : ((en x).drop f).take m = vs)
    (hp : peek P s vs [] = some (.value v, addrs (hdB p) (hdO p + i * sz + f) m)) (hz : 0 < sz := by decide) : s.run P w = .ok (.value v) w :=
  ld_of hp (el_cellsN R hen hx f m hvs hz)
theorem el_storeN {T : Type} {P : Program} {w : World} {e : TypeId} {sz n : Nat} {en : T → List Value} {l : List T} {p : Option Addr} {cap : Nat} {s : Sem Next} {i : Nat} {x y : T} {vs : List Value} (hown : w.ownsRow 0 e sz (.slice p n cap) n (l.flatMap en)) (hen : ∀ x, (en x).length = sz)
    (hx : l[i]? = some x) (f : Nat) (h0 : 0 < vs.length) (hf : f + vs.length ≤ sz) (he : en y = lay (en x) f vs)
    (hp : poke P s [] = some (.skip, (addrs (hdB p) (hdO p + (i * sz + f)) vs.length).zip vs)) (hz : 0 < sz := by decide) :
    ∃ w', s.run P w = .ok .skip w' ∧ w'.ownsRow 0 e sz (.slice p n cap) n ((l.set i y).flatMap en) ∧ But (fpOwn p) w w' := by
  have hn := owns_len hown hen hz
  subst hn
  exact el_store hown hen hx f h0 hf he hp
theorem run_app_rowN {T : Type} {P : Program} {w : World} {t ty e eb : TypeId} {sz bytes b n : Nat} {zc cs : List Value} {en : T → List Value} {l : List T} {p : Option Addr} {cap : Nat} {s : Sem Next} (hen : ∀ x, (en x).length = sz) (I : Inf P e sz bytes zc)
    (hown : w.ownsRow 0 e sz (.slice p n cap) n (l.flatMap en)) (hblk : (KV.blk b cs eb).holds w) {news : List T} (hcs : cs = news.flatMap en) (hm : 0 < news.length ∧ news.length < 1000)
    (hs : s = Sem.bind (Builtin.append_ #[t, t] ty #[.slice p n cap, .slice (some ⟨b, 0, none⟩) news.length news.length]) fun v => Sem.pure (Next.value v)) (hl : l.length < 1000000)
    (ht : P.underlying t = some (.slice e) := by kernel_rfl) (h1 : cs.all (·.oneCell') = true := by kernel_rfl) (hsz : 0 < sz := by decide) (hby : bytes ≤ 100000 := by decide) (hz : zc.length = sz := by rfl) :
    ∃ p' cap' w', s.run P w = .ok (.value (.slice p' (l ++ news).length cap')) w' ∧ w'.ownsRow 0 e sz (.slice p' (l ++ news).length cap') (l ++ news).length ((l ++ news).flatMap en) ∧ But (fpOwn p) w w' ∧ ∀ j, fpOwn p' j → w.heap.size ≤ j ∨ fpOwn p j := by
  have hn := owns_len hown hen hsz
  subst hn
  exact run_app_row hen I hown hblk hcs hm hs hl ht h1 hsz hby hz
theorem run_lenN {P : Program} {w : World} {s : Sem Next} {n m : Nat} (h : n = m) (hr : s.run P w = .ok (.value (.int .i64 (n : Int))) w) : s.run P w = .ok (.value (.int .i64 (m : Int))) w := h ▸ hr
theorem inb_ow {w : World} {e sz n cap : Nat} {p : Option Addr} {xs : List Value} (h : w.ownsRow 0 e sz (.slice p n cap) n xs) : ∀ i, fpOwn p i → i < w.heap.size := fun i hi => (owns_lt h i hi).2
theorem tv_app {P : Program} {w : World} {e sz m cap n : Nat} {p : Option Addr} {xs ys : List Value} {s : Sem Next} (h : ∃ p' cap' w', s.run P w = .ok (.value (.slice p' n cap')) w' ∧ w'.ownsRow 0 e sz (.slice p' n cap') n ys ∧ But (fpOwn p) w w' ∧ ∀ j, fpOwn p' j → w.heap.size ≤ j ∨ fpOwn p j) :
    ∃ (g : Gh) (w' : World), s.run P w = .ok (.value (.slice (g.o 0) n (g.n 0))) w' ∧ But (owK e sz p m cap xs).fp w w' ∧ (owK e sz (g.o 0) n (g.n 0) ys).holds w' ∧ (∀ i, (owK e sz (g.o 0) n (g.n 0) ys).fp i → i < w'.heap.size) ∧ ∀ i, (owK e sz (g.o 0) n (g.n 0) ys).fp i → w.heap.size ≤ i ∨ (owK e sz p m cap xs).fp i := by
  obtain ⟨p', cap', w', h1, h2, h3, h4⟩ := h
  exact ⟨Gh.of (fun _ => cap') fun _ => p', w', h1, h3, fun w2 ha => owns_agree h2 ha, inb_ow h2, h4⟩
theorem tv_set {P : Program} {w : World} {e sz n cap : Nat} {p : Option Addr} {xs ys : List Value} {s : Sem Next} (h : ∃ w', s.run P w = .ok .skip w' ∧ w'.ownsRow 0 e sz (.slice p n cap) n ys ∧ But (fpOwn p) w w') :
    ∃ (g : Gh) (w' : World), s.run P w = .ok .skip w' ∧ But (owK e sz p n cap xs).fp w w' ∧ (owK e sz p n cap ys).holds w' ∧ (∀ i, (owK e sz p n cap ys).fp i → i < w'.heap.size) ∧ ∀ i, (owK e sz p n cap ys).fp i → w.heap.size ≤ i ∨ (owK e sz p n cap xs).fp i := by
  obtain ⟨w', h1, h2, h3⟩ := h
  exact ⟨default, w', h1, h3, fun w2 ha => owns_agree h2 ha, inb_ow h2, fun i hi => .inr hi⟩
theorem tv_appF {P : Program} {w : World} {e sz m cap n : Nat} {p : Option Addr} {xs ys : List Value} {s : Sem Next} {F : KV} {C : Nat → Prop} (h : ∃ p' cap' w', s.run P w = .ok (.value (.slice p' n cap')) w' ∧ w'.ownsRow 0 e sz (.slice p' n cap') n ys ∧ But (fpOwn p) w w' ∧ ∀ j, fpOwn p' j → w.heap.size ≤ j ∨ fpOwn p j) (hF : F.holds w ∧ ∀ i, F.fp i → C i ∧ i < w.heap.size) :
    ∃ (g : Gh) (w' : World), s.run P w = .ok (.value (.slice (g.o 0) n (g.n 0))) w' ∧ But (owK e sz p m cap xs).fp w w' ∧ (owK e sz (g.o 0) n (g.n 0) ys).holds w' ∧ (∀ i, (owK e sz (g.o 0) n (g.n 0) ys).fp i → i < w'.heap.size) ∧ (∀ i, (owK e sz (g.o 0) n (g.n 0) ys).fp i → w.heap.size ≤ i ∨ (owK e sz p m cap xs).fp i) ∧ F.holds w ∧ ∀ i, F.fp i → C i ∧ i < w.heap.size := by
  obtain ⟨g, w', h1, h2, h3, h4, h5⟩ := tv_app (m := m) (cap := cap) (xs := xs) h
  exact ⟨g, w', h1, h2, h3, h4, h5, hF⟩
theorem dn_app {G : Type} {w : World} {fr : Nat → Prop} {E : Part G} {L : List G} {y : G} {Ks : List KV} (hD : (dnK fr E L).holds w) (hm : dnK fr E L ∈ Ks) (hy : E.rd w y) (hf : ∀ i, E.fp y i → factFp Ks i ∧ fr i) : (dnK fr E (L ++ [y])).holds w ∧ ∀ i, (dnK fr E (L ++ [y])).fp i → factFp Ks i ∧ i < w.heap.size := by
  have hr := rdl_app (dn_of hD) hy
  exact ⟨dn_holds hr fun j hj => (fpl_app hj).elim (dn_fr hD j) fun h => (hf j h).2, fun i hi => ⟨(fpl_app hi).elim (fun h => ⟨_, hm, fun h => h, h⟩) fun h => (hf i h).1, hr.inb i hi⟩⟩
theorem ff_of {Ks : List KV} {K : KV} {i : Nat} {fr : Nat → Prop} (hm : K ∈ Ks) (hx : ¬ K.excl) (hi : K.fp i) (hf : fr i) : factFp Ks i ∧ fr i := ⟨⟨K, hm, hx, hi⟩, hf⟩
section
variable {T : Type} {P : Program} {w : World} {e e2 sz m cap : Nat} {en : T → List Value} {p : Option Addr} {H L : List (Sl T)} {s : Sem Next}
theorem tn_app {i : Nat} {q : Option Addr} {c : Nat} {l l' : List T} (N : (nsK e e2 sz en p m cap H L).holds w) (hx : L[i]? = some ⟨q, c, l⟩)
    (h : w.ownsRow 0 e2 sz (.slice q l.length c) l.length (l.flatMap en) → ∃ p' cap' w', s.run P w = .ok (.value (.slice p' l'.length cap')) w' ∧ w'.ownsRow 0 e2 sz (.slice p' l'.length cap') l'.length (l'.flatMap en) ∧ But (fpOwn q) w w' ∧ ∀ j, fpOwn p' j → w.heap.size ≤ j ∨ fpOwn q j) :
    ∃ (g : Gh) (w' : World), s.run P w = .ok (.value (.slice (g.o 0) l'.length (g.n 0))) w' ∧ But (nsK e e2 sz en p m cap H L).fp w w' ∧ (nsK e e2 sz en p m cap H (L.set i ⟨g.o 0, g.n 0, l'⟩)).holds w' ∧ (∀ b, (nsK e e2 sz en p m cap H (L.set i ⟨g.o 0, g.n 0, l'⟩)).fp b → b < w'.heap.size) ∧ ∀ b, (nsK e e2 sz en p m cap H (L.set i ⟨g.o 0, g.n 0, l'⟩)).fp b → w.heap.size ≤ b ∨ (nsK e e2 sz en p m cap H L).fp b := by
  have hN := ns_of N
  obtain ⟨p', cap', w', h1, h2, h3, h4⟩ := h (hN.inn i _ hx)
  have hN1 := hN.turn hx h2 h3 h4
  exact ⟨Gh.of (fun _ => cap') fun _ => p', w', h1, h3.mono fun b hb => .inr ⟨i, _, hx, hb⟩, hN1.holds, hN1.lt, fun b hb => fpNs_turn (w := w) hx h4 hb⟩
theorem tn_hd {H' : List (Sl T)} (N : (nsK e e2 sz en p m cap H L).holds w) (h : w.ownsRow 0 e 1 (.slice p m cap) m (H.flatMap enSl) → ∃ w', s.run P w = .ok .skip w' ∧ w'.ownsRow 0 e 1 (.slice p m cap) m (H'.flatMap enSl) ∧ But (fpOwn p) w w') :
    ∃ (g : Gh) (w' : World), s.run P w = .ok .skip w' ∧ But (nsK e e2 sz en p m cap H L).fp w w' ∧ (nsK e e2 sz en p m cap H' L).holds w' ∧ (∀ b, (nsK e e2 sz en p m cap H' L).fp b → b < w'.heap.size) ∧ ∀ b, (nsK e e2 sz en p m cap H' L).fp b → w.heap.size ≤ b ∨ (nsK e e2 sz en p m cap H L).fp b := by
  have hN := ns_of N
  obtain ⟨w', h1, h2, h3⟩ := h hN.hd
  have hN1 := hN.head h2 h3 fun b hb => .inr hb
  exact ⟨default, w', h1, h3.mono fun b hb => .inl hb, hN1.holds, hN1.lt, fun b hb => .inr hb⟩
theorem tn_take {i n2 : Nat} {q : Option Addr} {c : Nat} {l : List T} (N : (nsK e e2 sz en p m cap L L).holds w) (ho : (owK e2 sz q n2 c (l.flatMap en)).holds w) (hd : ∀ b, (owK e2 sz q n2 c (l.flatMap en)).fp b → ¬ (nsK e e2 sz en p m cap L L).fp b ∧ b < w.heap.size) (hen : ∀ x, (en x).length = sz) (hz : 0 < sz)
    (h : n2 = l.length → w.ownsRow 0 e 1 (.slice p m cap) m (L.flatMap enSl) → ∃ w', s.run P w = .ok .skip w' ∧ w'.ownsRow 0 e 1 (.slice p m cap) m ((L.set i ⟨q, c, l⟩).flatMap enSl) ∧ But (fpOwn p) w w') :
    ∃ (g : Gh) (w' : World), s.run P w = .ok .skip w' ∧ But (nsK e e2 sz en p m cap L L).fp w w' ∧ (nsK e e2 sz en p m cap (L.set i ⟨q, c, l⟩) (L.set i ⟨q, c, l⟩)).holds w' ∧ (∀ b, (nsK e e2 sz en p m cap (L.set i ⟨q, c, l⟩) (L.set i ⟨q, c, l⟩)).fp b → b < w'.heap.size) ∧ ∀ b, (nsK e e2 sz en p m cap (L.set i ⟨q, c, l⟩) (L.set i ⟨q, c, l⟩)).fp b → w.heap.size ≤ b ∨ (nsK e e2 sz en p m cap L L).fp b ∨ (owK e2 sz q n2 c (l.flatMap en)).fp b := by
  have hN := ns_of N
  have hw := ow_of ho
  have hn := owns_len hw hen hz
  subst hn
  obtain ⟨w', h1, h2, h3⟩ := h rfl hN.hd
  have hN1 := hN.head h2 h3 fun b hb => .inr hb
  have hN2 := hN1.takeSet (owns_but hw h3 fun b h1 h2 => (hd b h1).1 (.inl h2)) (fun b hb => (hd b hb).1) i
  exact ⟨default, w', h1, h3.mono fun b hb => .inl hb, hN2.holds, hN2.lt, fun b hb => .inr (fpNs_set hb)⟩
end
theorem Rep.nest0 {T : Type} {B n : Nat} {w0 : World} {S : St} {a : Act} {w : World} {e m cap : Nat} {p : Option Addr} {H : List (Sl T)} (h : Rep B w0 n S a w) (k e2 sz : Nat) (en : T → List Value) (hk : S k = owK e 1 p m cap (H.flatMap enSl)) (h0 : ∀ x ∈ H, x = (⟨none, 0, []⟩ : Sl T)) : Rep B w0 n (upd S k (nsK e e2 sz en p m cap H H)) a w :=
  h.conv k (nsK e e2 sz en p m cap H H) hk trivial (by intro c x h; cases h) (fun w hw => (nest_new (ow_of hw) h0).holds) (fun i hi => nest_fp0 h0 hi)
theorem ok_nest0 {T : Type} {P : Program} {ops : Array Oper} {B : Nat} {w0 : World} {n i : Nat} {o : Oper} {Spre : Nu → St} {R : List Nat} {d k : Nat} {X : Nu → KV} {p : Nu → Option Addr} {cap : Nu → Nat} {e m : Nat} {H : List (Sl T)} (e2 sz : Nat) (en : T → List Value)
    (h : OpOK P ops B w0 n i o Spre R (fun ν => [(d, X ν), (k, owK e 1 (p ν) m (cap ν) (H.flatMap enSl))])) (h0 : ∀ x ∈ H, x = (⟨none, 0, []⟩ : Sl T)) : OpOK P ops B w0 n i o Spre R (fun ν => [(d, X ν), (k, nsK e e2 sz en (p ν) m (cap ν) H H)]) :=
  ok_mono h fun ν S a w hr => by
    have h1 : Rep B w0 n (upd (upd S d (X ν)) k (owK e 1 (p ν) m (cap ν) (H.flatMap enSl))) a w := hr
    have h2 := h1.nest0 k e2 sz en (upd_same _ _ _) h0
    refine h2.congr fun j => ?_
    show upd (upd S d (X ν)) k _ j = upd (upd (upd S d (X ν)) k _) k _ j
    by_cases ej : j = k
    · subst ej; rw [upd_same, upd_same]
    · rw [upd_ne _ _ ej, upd_ne _ _ ej, upd_ne _ _ ej]
end Go.Sx
namespace Go.Sx
open Go Go.RowKit
theorem Rep.nestOpen {T : Type} {B n : Nat} {w0 : World} {S : St} {a : Act} {w : World} {e m cap : Nat} {p : Option Addr} {H : List (Sl T)} (h : Rep B w0 n S a w) (k e2 sz : Nat) (en : T → List Value) (hk : S k = owK e 1 p m cap (H.flatMap enSl)) : Rep B w0 n (upd S k (nsK e e2 sz en p m cap H [])) a w :=
  h.conv k (nsK e e2 sz en p m cap H []) hk trivial (by intro c x h; cases h) (fun w hw => NestAt.holds ⟨ow_of hw, fun i x h => by simp at h, fun i j x y _ h => by simp at h, fun i x h => by simp at h⟩) (fun i hi => by
    rcases hi with hi | ⟨j, x, h, _⟩
    · exact hi
    · simp at h)
theorem Rep.nestTake {T : Type} {B n : Nat} {w0 : World} {S : St} {a : Act} {w : World} {e e2 sz m cap n2 c : Nat} {en : T → List Value} {p q : Option Addr} {H L : List (Sl T)} {l : List T} (h : Rep B w0 n S a w) (k k2 : Nat) (hk : S k = nsK e e2 sz en p m cap H L) (hk2 : S k2 = owK e2 sz q n2 c (l.flatMap en)) (hne : Nat.beq k k2 = false) (hen : ∀ x, (en x).length = sz) (hz : 0 < sz) :
    Rep B w0 n (upd (upd S k2 .none) k (nsK e e2 sz en p m cap H (L ++ [(⟨q, c, l⟩ : Sl T)]))) a w := by
  have hne' : k ≠ k2 := fun e => by rw [e, show Nat.beq k2 k2 = true from Nat.beq_refl k2] at hne; cases hne
  have hN : NestAt w e e2 sz en p m cap H L := ns_of (by rw [← hk]; exact h.holds k)
  have ho : w.ownsRow 0 e2 sz (.slice q n2 c) n2 (l.flatMap en) := ow_of (by rw [← hk2]; exact h.holds k2)
  have hn := owns_len ho hen hz
  subst hn
  have hx : (S k).excl := by rw [hk]; trivial
  have hx2 : (S k2).excl := by rw [hk2]; trivial
  have hd : ∀ b, fpOwn q b → ¬ fpNs p L b := fun b hb hb' => h.disj k2 k b (Ne.symm hne') hx2 (by rw [hk2]; exact hb) (by rw [hk]; exact hb')
  have hN2 := hN.takeApp ho hd
  have h0 : Rep B w0 n (upd (upd S k2 .none) k .none) a w := h.weak fun j => by
    by_cases e : j = k
    · subst e; rw [upd_same]; exact .inl rfl
    · rw [upd_ne _ _ e]
      by_cases e2 : j = k2
      · subst e2; rw [upd_same]; exact .inl rfl
      · rw [upd_ne _ _ e2]; exact .inr rfl
  have hcase : ∀ b, fpNs p (L ++ [⟨q, c, l⟩]) b → (S k).fp b ∨ (S k2).fp b := fun b hb => (fpNs_app hb).imp (fun h => by rw [hk]; exact h) fun h => by rw [hk2]; exact h
  refine (h0.ent k (nsK e e2 sz en p m cap H (L ++ [(⟨q, c, l⟩ : Sl T)])) (by intro c x h; cases h) hN2.holds hN2.lt (fun _ i hi => (hcase i hi).elim (h.ge k i hx) (h.ge k2 i hx2)) fun k' i hne2 _ hi hi' => ?_).congr fun j => ?_
  · rw [upd_ne _ _ hne2] at hi'
    by_cases e2 : k' = k2
    · subst e2; rw [upd_same] at hi'; exact hi'
    · rw [upd_ne _ _ e2] at hi'
      rcases hcase i hi with h3 | h3
      · exact h.disj k k' i (Ne.symm hne2) hx h3 hi'
      · exact h.disj k2 k' i (Ne.symm e2) hx2 h3 hi'
  · by_cases e : j = k
    · subst e; rw [upd_same, upd_same]
    · rw [upd_ne _ _ e, upd_ne _ _ e, upd_ne _ _ e]
end Go.Sx
namespace Go.Sx
open Go Go.RowKit
theorem k_doneZ {P : Program} {B n : Nat} {w0 : World} {S : St} {a : Act} {w : World} (hr : Rep B w0 n S a w) {fn : Func} (v : Gh → Value) (g : Gh) (Ms Fs : List KV) (Es : Gh → List Fam) (fr : Nat → Prop) (ks : List Nat) (segs : List (Nat × Seg)) (v0 : Value) (Es0 : List Fam)
    (hv : v g = v0) (hEs : Es g = Es0) (hfr : fr = frI w0.heap.size Fs) (hcase : (B = w0.heap.size ∧ Ms = []) ∨ S KFr = frM Ms w0) (hE : ∀ K ∈ Es0, Fam.OK K)
    (hs : ∀ p ∈ segs, (∃ e, S p.1 = .blk p.2.b p.2.cs e) ∧ Nat.ble (p.2.off + p.2.m) p.2.cs.length = true)
    (hks : ks.map S = Es0.map (fun K => K fr) := by kernel_rfl) (hnd : (nodupB ks && !(ks.contains KFr)) = true := by rfl)
    (hk : (fn.results.toList).all (fun x => isSlot (S (resT x))) = true := by kernel_rfl)
    (hp : peek P (resultsE fn (fun t => envS S (.tmp t))) (segV (segs.map (·.2))) [] = some (v0, segA (segs.map (·.2))) := by kernel_rfl) :
    bodyPost P fn (fun e w' => ∃ g : Gh, e = .returned (v g) ∧ But (fpK Ms) w0 w' ∧ OutOK w0.heap.size (fpK Ms) (frI w0.heap.size Fs) (Es g) w') .ret a w := by
  subst hv hEs
  exact k_doneY hr v g Ms Fs Es fr ks segs hfr hcase hks hnd hE hk hs hp
theorem Rep.dup {B n : Nat} {w0 : World} {S : St} {a : Act} {w : World} (h : Rep B w0 n S a w) (k k2 : Nat) {K : KV} (hk : S k = K) (hx : ¬ K.excl) (hs : ∀ c x, K ≠ .slot c x) : Rep B w0 n (upd S k2 K) a w :=
  h.addF k2 K [k] [K] (by rw [List.map_singleton, hk]) hx hs (fun hF => hF.1) fun hF i hi => ⟨K, by simp, hx, hi⟩
theorem ok_post {P : Program} {ops : Array Oper} {B : Nat} {w0 : World} {n i : Nat} {o : Oper} {Spre : Nu → St} {R : List Nat} {u : Nu → List (Nat × KV)} (us : Nu → List (Nat × KV)) (h : OpOK P ops B w0 n i o Spre R u)
    (hu : ∀ ν S a w, Rep B w0 n (updAll S (u ν)) a w → Rep B w0 n (updAll (updAll S (u ν)) (us ν)) a w) : OpOK P ops B w0 n i o Spre R (fun ν => u ν ++ us ν) :=
  ok_mono h fun ν S a w hr => by rw [updAll_app]; exact hu ν S a w hr
end Go.Sx
namespace Go.Sx
open Go Go.RowKit
end Go.Sx
namespace Go.Sx
open Go Go.RowKit
section
variable {fr : Nat → Prop} {Ks : List KV} {w : World}
theorem sub_rd0 {sz n cap : Nat} {p : Option Addr} {xs : List Value} (R : RowC w sz p n cap xs) (hf : ∀ i, fpRow p n i → ∃ K' ∈ Ks, K'.fp i) (hs : 0 < sz := by decide) : SubF false fr Ks w (rdF anyF sz p n cap xs) :=
  ⟨rdA R hs, fun i hi => by obtain ⟨K, h1, h2⟩ := hf i hi; exact ⟨K, h1, h2, fun h => by cases h⟩⟩
theorem sub_rd1 {sz n cap : Nat} {p : Option Addr} {xs : List Value} (R : RowC w sz p n cap xs) (hf : ∀ i, fpRow p n i → factFp Ks i ∧ fr i) (hs : 0 < sz := by decide) : SubF true fr Ks w (rdF anyF sz p n cap xs) :=
  ⟨rdA R hs, fun i hi => by obtain ⟨⟨K, h1, h2, h3⟩, h4⟩ := hf i hi; exact ⟨K, h1, h3, fun _ => ⟨h2, h4⟩⟩⟩
theorem sub_dn0 {G : Type} {E : Part G} {L : List G} (R : RdL E w L) (hf : ∀ i, fpL E L i → ∃ K' ∈ Ks, K'.fp i) : SubF false fr Ks w (dnK anyF E L) :=
  ⟨dnA R, fun i hi => by obtain ⟨K, h1, h2⟩ := hf i hi; exact ⟨K, h1, h2, fun h => by cases h⟩⟩
theorem sub_k {K : KV} (h : K.holds w) (hm : K ∈ Ks) : SubF false fr Ks w K := ⟨h, fun i hi => ⟨K, hm, hi, fun h => by cases h⟩⟩
end
end Go.Sx
namespace Go.Sx
open Go Go.RowKit
theorem famx_cons {K : Fam} {Es : List Fam} (h : (K anyF).excl) (r : ∀ K ∈ Es, (K anyF).excl) : ∀ K' ∈ K :: Es, (K' anyF).excl := fun K' hK => by
  rcases List.mem_cons.1 hK with rfl | hK
  · exact h
  · exact r K' hK
theorem sl_get {T : Type} {x : List (List T)} {L : List (Sl T)} (h : x = L.map Sl.l) {i : Nat} {t : List T} (ht : x[i]? = some t) : ∃ p c, L[i]? = some ⟨p, c, t⟩ := by
  obtain ⟨⟨p, c, l⟩, hy, rfl⟩ := map_get h ht
  exact ⟨p, c, hy⟩
end Go.Sx
namespace Go.Sx
open Go Go.RowKit
structure PtrOK (p : Option Addr) (n m : Nat) : Prop where
  len : n = m
  ptr : n = 0 ∨ ∃ b off, p = some ⟨b, off, none⟩
theorem Rep.at {B n : Nat} {w0 : World} {S : St} {a : Act} {w : World} (h : Rep B w0 n S a w) (k : Nat) {K : KV} (hk : S k = K) : K.holds w := hk ▸ h.holds k
theorem ptr_of {T : Type} {w : World} {sz n : Nat} {p : Option Addr} {en : T → List Value} {l : List T} (R : RowAt w sz p n (l.flatMap en)) (hen : ∀ x, (en x).length = sz) (hs : 0 < sz := by decide) : PtrOK p n l.length :=
  ⟨R.len hen hs, R.2.imp id fun ⟨b, off, h, _⟩ => ⟨b, off, h⟩⟩
theorem ix_pure {X : Type} {P : Program} {w : World} {t : TypeId} {p : Option Addr} {n cap m : Nat} {k : IntKind} {i : Int} {sz : Nat} {x : List X} {s : Sem Next} (R : PtrOK p n m) (hl : x.length = m) (h : 0 ≤ i ∧ i < (x.length : Int))
    (hs : s = Sem.bind (Instr.indexAt t (.slice p n cap) (.int k i)) fun v => Sem.pure (Next.value v)) (hu : P.underlying t = some (.slice (P.elem t)) := by kernel_rfl) (he : (P.info? (P.elem t)).map (·.size) = some sz := by kernel_rfl) :
    s.run P w = .ok (.value (.pointer (some ⟨hdB p, hdO p + i.toNat * sz, none⟩))) w := by
  have hn := R.len
  subst hs
  rcases R.ptr with h0 | ⟨b, off, rfl⟩
  · omega
  · exact run_indexAddr hu he ⟨h.1, by omega⟩
end Go.Sx
set_option linter.unusedVariables false
set_option linter.unusedSimpArgs false
namespace Go.Sx
open Go Go.RowKit
section
variable {P : Program} {N R : K} {xs : List (Nat × K)} {a : Act} {w : World} {B n id : Nat} {w0 : World} {ops : Array Oper} {draw : Bool} {S0 : St} {Se : Nu → St} {rw : List (List Nat × List Nat)}
theorem k_rk (hm : P.follows .mixedOrders = true) (hr : Rep B w0 n S0 a w) (hc : Chain P ops B w0 n 0 ops.toList (fun _ => S0) rw Se) (ks : List Nat) (hQ : ∀ ν a w, Rep B w0 n (kpS ks (Se ν)) a w → N a w)
    (hi : (!draw || (indep ops.toList rw [] && forward ops.toList 0)) = true := by kernel_rfl) : (Code.region id ops draw).wp P (mkQ N xs R) a w := k_rg hm hr hc (fun ν a w h => hQ ν a w (h.kp ks)) hi
theorem k_srg {y : Code} (hm : P.follows .mixedOrders = true) (hr : Rep B w0 n S0 a w) (hc : Chain P ops B w0 n 0 ops.toList (fun _ => S0) rw Se) (hQ : ∀ ν a w, Rep B w0 n (Se ν) a w → y.wp P (mkQ N xs R) a w)
    (hi : (!draw || (indep ops.toList rw [] && forward ops.toList 0)) = true := by kernel_rfl) : (Code.seq (Code.region id ops draw) y).wp P (mkQ N xs R) a w := k_seq (k_rg hm hr hc hQ hi)
theorem k_srk {y : Code} (hm : P.follows .mixedOrders = true) (hr : Rep B w0 n S0 a w) (hc : Chain P ops B w0 n 0 ops.toList (fun _ => S0) rw Se) (ks : List Nat) (hQ : ∀ ν a w, Rep B w0 n (kpS ks (Se ν)) a w → y.wp P (mkQ N xs R) a w)
    (hi : (!draw || (indep ops.toList rw [] && forward ops.toList 0)) = true := by kernel_rfl) : (Code.seq (Code.region id ops draw) y).wp P (mkQ N xs R) a w := k_seq (k_rk hm hr hc ks hQ hi)
theorem k_cnd {S : St} {c : Operand} {x y : Code} (hr : Rep B w0 n S a w) (t : Bool) (ht : t = true → x.wp P (mkQ N xs R) a w) (hf : t = false → y.wp P (mkQ N xs R) a w) (hk : knownB S c = true := by kernel_rfl) (he : envS S c = .bool t := by kernel_rfl) : (Code.cond c x y).wp P (mkQ N xs R) a w := k_cond hr hk he ht hf
end
theorem sj {α : Type} {a b : α} (h : some a = some b) : a = b := Option.some.inj h
theorem gh_r (p : Option Addr) (c : Nat) : ∃ g : Gh, g.o 0 = p ∧ g.n 0 = c := ⟨⟨fun _ => c, fun _ => p, fun _ => ⟨Unit, ()⟩⟩, rfl, rfl⟩
theorem gh_d {G T : Type} {er : G → T} (gd : T → G) (p : Option Addr) (c : Nat) {x : List T} {L : List G} (h : x = L.map er) : ∃ g : Gh, g.o 0 = p ∧ g.n 0 = c ∧ g.dl er gd 0 x = L := ⟨⟨fun _ => c, fun _ => p, fun _ => ⟨_, L⟩⟩, rfl, rfl, dl_mk rfl h⟩
abbrev owl {T : Type} (e : TypeId) (sz : Nat) (p : Option Addr) (c : Nat) (l : List T) (en : T → List Value) : KV := owK e sz p l.length c (l.flatMap en)
abbrev RL (w0 : World) (n : Nat) (l : List (Nat × KV)) (a : Act) (w : World) : Prop := Rep w0.heap.size w0 n (ofL l) a w
theorem ldr {T : Type} {P : Program} {w : World} (en : T → List Value) {sz n : Nat} {p : Option Addr} {l : List T} {s : Sem Next} {i : Nat} {x : T} {v : Value} (R : RowAt w sz p n (l.flatMap en)) (hen : ∀ x, (en x).length = sz) (hx : l[i]? = some x) (f m : Nat) (vs : List Value) (hvs : ((en x).drop f).take m = vs := by rfl)
    (hp : peek P s vs [] = some (.value v, addrs (hdB p) (hdO p + i * sz + f) m) := by kernel_rfl) (hz : 0 < sz := by decide) : s.run P w = .ok (.value v) w := ld_row R hen hx f m vs hvs hp hz
theorem ixr {T X : Type} {P : Program} {w : World} (t : TypeId) (k : IntKind) (i : Int) (p : Option Addr) (n cap : Nat) (x : List X) {sz : Nat} (en : T → List Value) {l : List T} {s : Sem Next} (R : RowAt w sz p n (l.flatMap en)) (hen : ∀ x, (en x).length = sz) (hl : x.length = l.length) (h : 0 ≤ i ∧ i < (x.length : Int))
    (hs : s = Sem.bind (Instr.indexAt t (.slice p n cap) (.int k i)) fun v => Sem.pure (Next.value v) := by kernel_rfl) (hu : P.underlying t = some (.slice (P.elem t)) := by kernel_rfl) (he : (P.info? (P.elem t)).map (·.size) = some sz := by kernel_rfl) (hz : 0 < sz := by decide) :
    s.run P w = .ok (.value (.pointer (some ⟨hdB p, hdO p + i.toNat * sz, none⟩))) w := ix_row R hen hl h hs hu he hz
theorem frs (w : World) (Fs : List KV) : ∃ fr : Nat → Prop, fr = frI w.heap.size Fs ∧ ∀ j, w.heap.size ≤ j → fr j := ⟨_, rfl, fun j h => .inl h⟩
section
variable {P : Program} {ops : Array Oper} {B : Nat} {w0 : World} {n : Nat} {i : Nat} {o : Oper} {Spre : Nu → St}
theorem ok_vC (ks : List Nat) (Ks : List KV) (v : Value) (d : Nat) (hv : ∀ ν w, AllH Ks w → (execOp (envU (Spre ν)) o).run P w = .ok (.value v) w)
    (hK : ∀ ν, ks.map (Spre ν) = Ks := by intro _; kernel_rfl) (hd : o.dst = some d := by rfl) (hdn : Nat.blt d n = true := by rfl) (hsel : noSel o = true := by rfl) (hg : o.guard = none := by rfl)
    (hk : ∀ ν, (o.op.operands.all (knownB (Spre ν))) = true := by intro _; kernel_rfl) (hp : ∀ ν, (condsOf o (Spre ν)).all id = true := by intro _; kernel_rfl) :
    OpOK P ops B w0 n i o Spre (ks ++ tmpsOf ops o) (fun _ => [(d, .slot true v)]) :=
  ok_valF ks (fun _ => v) (fun _ => true) (o.op.operands.toList.map fun _ => true) d (fun ν w _ h => hv ν w (allH_of ks _ (hK ν) h)) hd hdn hsel (fun ν => by unfold wantS; rw [hg]) hk (fun ν => by
    have := hp ν
    simp only [List.all_eq_true] at this
    rw [condsOf] at this ⊢
    simp only [List.map_map]
    exact List.map_congr_left fun x hx => this _ (List.mem_map.2 ⟨x, hx, rfl⟩))
theorem ok_v1 (k : Nat) (Kv : KV) (v : Value) (d : Nat) (hv : ∀ ν w, Kv.holds w → (execOp (envU (Spre ν)) o).run P w = .ok (.value v) w)
    (hK : ∀ ν, Spre ν k = Kv := by intro _; kernel_rfl) (hd : o.dst = some d := by rfl) (hdn : Nat.blt d n = true := by rfl) (hsel : noSel o = true := by rfl) (hg : o.guard = none := by rfl)
    (hk : ∀ ν, (o.op.operands.all (knownB (Spre ν))) = true := by intro _; kernel_rfl) (hp : ∀ ν, (condsOf o (Spre ν)).all id = true := by intro _; kernel_rfl) :
    OpOK P ops B w0 n i o Spre ([k] ++ tmpsOf ops o) (fun _ => [(d, .slot true v)]) :=
  ok_vC [k] [Kv] v d (fun ν w h => hv ν w h.1) (fun ν => by rw [List.map_singleton, hK ν]) hd hdn hsel hg hk hp
theorem ok_stc (k off : Nat) (b : Nat) (cs vs : List Value) (e : TypeId) (cs' : List Value) (hc : lay cs off vs = cs' := by kernel_rfl) (hd : o.dst = none := by rfl) (hg : o.guard = none := by rfl) (hkn : Nat.ble n k = true := by rfl) (hsel : noSel o = true := by rfl)
    (hk : ∀ ν, (o.op.operands.all (knownB (Spre ν))) = true := by intro _; kernel_rfl) (hp : ∀ ν, (condsOf o (Spre ν)).all id = true := by intro _; kernel_rfl)
    (hb : ∀ ν, Spre ν k = .blk b cs e := by intro _; kernel_rfl) (hlen : Nat.ble (off + vs.length) cs.length = true := by kernel_rfl)
    (hv : ∀ ν, poke P (execOp (envU (Spre ν)) o) [] = some (.skip, (addrs b off vs.length).zip vs) := by intro _; kernel_rfl) :
    OpOK P ops B w0 n i o Spre (k :: tmpsOf ops o) (fun _ => [(k, .blk b cs' e)]) :=
  ok_as (ok_store k off (fun _ => b) (fun _ => cs) (fun _ => vs) e hd hg hkn hsel hk hp hb (fun _ => hlen) hv) (fun _ => by rw [hc])
theorem ok_ldc (v : Value) (d k off m : Nat) (b : Nat) (cs : List Value) (e : TypeId) (hd : o.dst = some d := by rfl) (hdn : Nat.blt d n = true := by rfl) (hsel : noSel o = true := by rfl) (hg : o.guard = none := by rfl)
    (hb : ∀ ν, Spre ν k = .blk b cs e := by intro _; kernel_rfl)
    (hk : ∀ ν, (o.op.operands.all (knownB (Spre ν))) = true := by intro _; kernel_rfl)
    (hp : ∀ ν, (condsOf o (Spre ν)).all id = true := by intro _; kernel_rfl)
    (hv : ∀ ν, peek P (execOp (envU (Spre ν)) o) ((cs.drop off).take m) [] = some (.value v, addrs b off m) := by intro _; kernel_rfl) :
    OpOK P ops B w0 n i o Spre (k :: tmpsOf ops o) (fun ν => [(d, .slot true v)]) := ok_ld (fun _ => v) d k off m (fun _ => b) (fun _ => cs) e hd hdn hsel hg hb hk hp hv
end
end Go.Sx
set_option linter.unusedVariables false
set_option linter.unusedSimpArgs false
set_option linter.unusedSectionVars false
namespace Go.Sx
open Go Go.RowKit
def esF {T : Type} (ek : T → Value) (vk : IntKind) : Nat → List (T × Int) → List MapEntry
  | _, [] => []
  | i, e :: r => ⟨ek e.1, .int vk e.2, i⟩ :: esF ek vk (i + 1) r
def mpO {T : Type} (ek : T → Value) (vk : IntKind) (l : List (T × Int)) : Obj := .map (esF ek vk 0 l).toArray l.length
abbrev mpK {T : Type} (b : Nat) (ek : T → Value) (vk : IntKind) (l : List (T × Int)) : KV := obK b (mpO ek vk l)
theorem esF_len {T : Type} (ek : T → Value) (vk : IntKind) : ∀ (l : List (T × Int)) (i : Nat), (esF ek vk i l).length = l.length
  | [], _ => rfl
  | e :: r, i => by rw [esF, List.length_cons, esF_len ek vk r, List.length_cons]
theorem esF_app {T : Type} (ek : T → Value) (vk : IntKind) (x : T) (v : Int) : ∀ (l : List (T × Int)) (i : Nat), esF ek vk i (l ++ [(x, v)]) = esF ek vk i l ++ [⟨ek x, .int vk v, i + l.length⟩]
  | [], i => rfl
  | e :: r, i => by
    show (⟨_, _, _⟩ : MapEntry) :: esF ek vk (i + 1) (r ++ [(x, v)]) = _
    rw [esF_app ek vk x v r (i + 1), List.length_cons, show i + 1 + r.length = i + (r.length + 1) by omega]
    rfl
theorem mpO_push {T : Type} (ek : T → Value) (vk : IntKind) (x : T) (v : Int) (l : List (T × Int)) : Obj.map ((esF ek vk 0 l).toArray.push ⟨ek x, .int vk v, l.length⟩) (l.length + 1) = mpO ek vk (l ++ [(x, v)]) := by
  unfold mpO
  rw [esF_app, Nat.zero_add, List.length_append, List.length_singleton, List.push_toArray]
structure KeyOK {T : Type} [DecidableEq T] (P : Program) (kt : TypeId) (ek : T → Value) : Prop where
  chk : ∀ (w : World) (em : Bool) (x : T), (Instr.checkKey em 10000 kt (ek x)).run P w = .ok () w
  find : ∀ (w : World) (vk : IntKind) (x : T) (l : List (T × Int)), (Instr.findKey kt (ek x) (esF ek vk 0 l)).run P w = .ok ((mfind x 0 l).map fun q => (q.1, .int vk q.2)) w
theorem findAsking_esF {T : Type} [DecidableEq T] {P : Program} {kt : TypeId} {ek : T → Value} (heq : ∀ (w : World) (x y : T), (Op.equal kt (ek x) (ek y)).run P w = .ok (decide (x = y)) w) (w : World) (vk : IntKind) (x : T) :
    ∀ (l : List (T × Int)) (i : Nat), (Instr.findAsking kt (ek x) (esF ek vk i l) i).run P w = .ok ((mfind x i l).map fun q => (q.1, .int vk q.2)) w
  | [], i => by simp [esF, mfind, Instr.findAsking]
  | e :: r, i => by
    rw [esF, mfind, Instr.findAsking]
    by_cases h : x = e.1
    · rw [if_pos h]; simp [heq, h]
    · rw [if_neg h]; simp [heq, h, findAsking_esF heq w vk x r (i + 1)]
theorem keyOK_agg {T : Type} [DecidableEq T] {P : Program} {kt : TypeId} {ek : T → Value} (hs : (match P.underlying kt with | some (.struct _) => true | _ => false) = true) (hc : ∀ (w : World) (em : Bool) (x : T), (Instr.checkKey em 10000 kt (ek x)).run P w = .ok () w)
    (he : ∀ x y, eqV P 10000 kt (ek x) (ek y) = some (decide (x = y))) : KeyOK P kt ek where
  chk := hc
  find w vk x l := by
    obtain ⟨fs, hu⟩ : ∃ fs, P.underlying kt = some (.struct fs) := by
      split at hs
      · exact ⟨_, by assumption⟩
      · cases hs
    have h1 : (Instr.findKey kt (ek x) (esF ek vk 0 l)).run P w = (Instr.findAsking kt (ek x) (esF ek vk 0 l)).run P w := by
      cases l with
      | nil => simp [esF, Instr.findKey, run_underlying hu, Instr.findNow, Instr.findAsking]
      | cons e r => simp [esF, Instr.findKey, run_underlying hu, Instr.findNow, Instr.sameNow]
    rw [h1]
    exact findAsking_esF (fun w x y => eqV_run 10000 kt _ _ _ (he x y) w) w vk x l 0
section
variable {T : Type} [DecidableEq T] {P : Program} {w : World} {t kt e b : Nat} {ek : T → Value} {vk : IntKind} {l : List (T × Int)} {x : T}
theorem get_ob (hw : w.heap[b]? = some (mpO ek vk l)) : (getObj b : Sem Obj).run P w = .ok (.map (esF ek vk 0 l).toArray l.length) w := by
  have : w.heap[b]? = some (.map (esF ek vk 0 l).toArray l.length) := hw
  simp [getObj, Sem.run, this]
theorem run_mlook (K : KeyOK P kt ek) (hw : w.heap[b]? = some (mpO ek vk l)) (ht : P.underlying t = some (.map kt e)) (hz : (zeroValue e).run P w = .ok (.int vk 0) w) :
    (Instr.lookup t (.map (some b)) (ek x) true).run P w = .ok (.tuple #[.int vk ((mget l x).getD 0), .bool (mget l x).isSome]) w := by
  unfold Instr.lookup mget
  cases h : mfind x 0 l with
  | none => simp [run_underlying ht, get_ob hw, K.chk, K.find, h, hz]
  | some q => simp [run_underlying ht, get_ob hw, K.chk, K.find, h]
theorem run_ment (K : KeyOK P kt ek) (hw : w.heap[b]? = some (mpO ek vk l)) (ht : P.underlying t = some (.map kt e)) (hz : (zeroValue e).run P w = .ok (.int vk 0) w) (ha : (mget l x).isSome = false) :
    (Instr.mapEntry t (.map (some b)) (ek x)).run P w = .ok (.tuple #[.int vk 0, goInt (l.length : Int)]) (w.putObj b (mpO ek vk (l ++ [(x, 0)]))) := by
  have hn : mfind x 0 l = none := by
    unfold mget at ha
    cases h : mfind x 0 l with
    | none => rfl
    | some q => rw [h] at ha; cases ha
  have hset : ∀ o', (setObj b o' : Sem Unit).run P w = .ok () (w.putObj b o') := fun o' => by
    have : w.heap[b]? = some (.map (esF ek vk 0 l).toArray l.length) := hw
    simp [setObj, Sem.run, this, World.putObj]
  unfold Instr.mapEntry
  simp [run_underlying ht, get_ob hw, K.chk, K.find, hn, hz, hset, ← mpO_push]
theorem findIdx_last (l : List (T × Int)) (v : Int) : ((esF ek vk 0 (l ++ [(x, v)])).toArray.findIdx? fun e => (e.born : Int) == (l.length : Int)) = some l.length := by
  have key : ∀ (l : List (T × Int)) (i : Nat), (esF ek vk i (l ++ [(x, v)])).findIdx? (fun e => (e.born : Int) == ((i + l.length : Nat) : Int)) = some l.length := by
    intro l
    induction l with
    | nil => intro i; simp [esF]
    | cons e r ih =>
      intro i
      show ((⟨_, _, _⟩ : MapEntry) :: esF ek vk (i + 1) (r ++ [(x, v)])).findIdx? _ = _
      rw [List.findIdx?_cons]
      have h : ((i : Int) == ((i + (e :: r).length : Nat) : Int)) = false := by
        rw [beq_eq_false_iff_ne]; simp; omega
      simp only [h, Bool.false_eq_true, if_false]
      have := ih (i + 1)
      rw [show i + 1 + r.length = i + (e :: r).length by simp; omega] at this
      rw [this]; rfl
  have := key l 0
  rw [Nat.zero_add] at this
  simpa using this
theorem modify_last (l : List (T × Int)) (v v' : Int) : (esF ek vk 0 (l ++ [(x, v)])).toArray.modify l.length (fun e => { e with val := .int vk v' }) = (esF ek vk 0 (l ++ [(x, v')])).toArray := by
  rw [esF_app, esF_app]
  apply Array.ext'
  have hl := esF_len ek vk l 0
  apply List.ext_getElem?
  intro i
  simp only [Array.toList_modify, List.getElem?_modify]
  by_cases h : i < (esF ek vk 0 l).length
  · rw [List.getElem?_append_left h, List.getElem?_append_left h]; have : l.length ≠ i := by omega
    simp [this]
  · by_cases h2 : i = (esF ek vk 0 l).length
    · subst h2; simp [hl]
    · rw [List.getElem?_eq_none (by simp; omega), List.getElem?_eq_none (by simp; omega)]; simp
theorem run_mest {st v : Int} (hw : w.heap[b]? = some (mpO ek vk (l ++ [(x, 0)]))) (hs : st = (l.length : Int)) :
    (Instr.entryStore t (.map (some b)) (.int .i64 st) (.int vk v)).run P w = .ok () (w.putObj b (mpO ek vk (l ++ [(x, v)]))) := by
  subst hs
  have hset : ∀ o', (setObj b o' : Sem Unit).run P w = .ok () (w.putObj b o') := fun o' => by
    have : w.heap[b]? = some (.map (esF ek vk 0 (l ++ [(x, 0)])).toArray (l ++ [(x, 0)]).length) := hw
    simp [setObj, Sem.run, this, World.putObj]
  unfold Instr.entryStore
  have h1 := findIdx_last (ek := ek) (vk := vk) (x := x) l 0
  have h2 := modify_last (ek := ek) (vk := vk) (x := x) l 0 v
  have hi : (asInt (.int .i64 (l.length : Int)) : Sem Int).run P w = .ok (l.length : Int) w := by simp [asInt, asIntOf]
  simp only [Sem.run_bind, get_ob hw, Result.andThen_ok, hi, h1, h2, hset]
  simp [mpO]
end
theorem tv_ob {P : Program} {w : World} {b : Nat} {o o' : Obj} {s : Sem Next} {r : Next} (hK : (obK b o).holds w) (h : s.run P w = .ok r (w.putObj b o')) :
    ∃ (g : Gh) (w' : World), s.run P w = .ok r w' ∧ But (obK b o).fp w w' ∧ (obK b o').holds w' ∧ (∀ i, (obK b o').fp i → i < w'.heap.size) ∧ ∀ i, (obK b o').fp i → w.heap.size ≤ i ∨ (obK b o).fp i := by
  have hh : w.heap[b]? = some o := ob_of hK
  have hl : b < w.heap.size := (Array.getElem?_eq_some_iff.1 hh).1
  have hsz : (w.putObj b o').heap.size = w.heap.size := by simp [World.putObj]
  have hoth : ∀ i, i ≠ b → (w.putObj b o').heap[i]? = w.heap[i]? := fun i hi => World.putObj_heap_other (fun e => hi (by rw [e]))
  refine ⟨default, w.putObj b o', h, ?_, ?_, ?_, fun i hi => .inr hi⟩
  · exact ⟨rfl, rfl, rfl, by rw [hsz]; exact Nat.le_refl _, fun i _ hi => hoth i hi⟩
  · intro w2 ha
    exact (ha b rfl).trans (World.putObj_heap_same hl)
  · intro i hi
    have e : i = b := hi
    subst e; rw [hsz]; exact hl
section
variable {T : Type} [DecidableEq T] {P : Program} {w : World} {t kt e b : Nat} {ek : T → Value} {vk : IntKind} {l : List (T × Int)} {x : T} {s : Sem Next}
theorem r_mlook (K : KeyOK P kt ek) (hw : w.heap[b]? = some (mpO ek vk l)) (hs : s = Sem.bind (Instr.lookup t (.map (some b)) (ek x) true) (fun v => Sem.pure (Next.value v)) := by kernel_rfl) (ht : P.underlying t = some (.map kt e) := by kernel_rfl) (hz : (zeroValue e).run P w = .ok (.int vk 0) w := by kernel_rfl) :
    s.run P w = .ok (.value (.tuple #[.int vk ((mget l x).getD 0), .bool (mget l x).isSome])) w := by
  subst hs; exact run_next (run_mlook K hw ht hz) rfl
theorem r_ment (K : KeyOK P kt ek) (hw : w.heap[b]? = some (mpO ek vk l)) (ha : (mget l x).isSome = false) (hs : s = Sem.bind (Instr.mapEntry t (.map (some b)) (ek x)) (fun v => Sem.pure (Next.value v)) := by kernel_rfl) (ht : P.underlying t = some (.map kt e) := by kernel_rfl) (hz : (zeroValue e).run P w = .ok (.int vk 0) w := by kernel_rfl) :
    s.run P w = .ok (.value (.tuple #[.int vk 0, .int .i64 (l.length : Int)])) (w.putObj b (mpO ek vk (l ++ [(x, 0)]))) := by
  subst hs
  show (Instr.mapEntry t (.map (some b)) (ek x) >>= fun v => Sem.pure (Next.value v)).run P w = _
  rw [Sem.run_bind, run_ment K hw ht hz ha]; rfl
theorem r_mest {v : Int} (hw : w.heap[b]? = some (mpO ek vk (l ++ [(x, 0)]))) (hs : s = Sem.bind (Instr.entryStore t (.map (some b)) (.int .i64 (l.length : Int)) (.int vk v)) (fun _ => Sem.pure Next.skip) := by kernel_rfl) :
    s.run P w = .ok .skip (w.putObj b (mpO ek vk (l ++ [(x, v)]))) := by
  subst hs
  show (Instr.entryStore t (.map (some b)) (.int .i64 (l.length : Int)) (.int vk v) >>= fun _ => Sem.pure Next.skip).run P w = _
  rw [Sem.run_bind, run_mest hw rfl]; rfl
end
end Go.Sx
set_option linter.unusedVariables false
set_option linter.unusedSimpArgs false
namespace Go.Sx
open Go Go.RowKit
abbrev WF (ro : Option Nat) : Fence := { Fence.wide with round := ro }
def Act.wd (a : Act) (ds : List Deferred) : Act := { a with defers := a.defers ++ ds }
theorem wd_eval (a : Act) (ds : List Deferred) : (Act.wd a ds).eval = a.eval := funext fun x => by cases x <;> rfl
theorem wd_put (a : Act) (ds : List Deferred) (d : Option Tmp) (v : Value) : (Act.wd a ds).put d v = Act.wd (a.put d v) ds := by cases d <;> rfl
theorem wd_nil (a : Act) : Act.wd a [] = a := by simp [Act.wd]
def noDef (o : Oper) : Bool := match o.op with | .defer _ => false | _ => true
theorem noDef_spec {o : Oper} (h : noDef o = true) (c : _) : o.op ≠ .defer c := by
  intro e; unfold noDef at h; rw [e] at h; cases h
theorem callsIn_WF {ro : Option Nat} {n : Nat} {P : Program} {f : FuncId} {args : Array Value} {w : World} {R : Ending → World → Prop} (h : Calls P f args w R) : CallsIn (WF ro) n P f args w R :=
  (callsIn_wide (n := n)).2 h
theorem rowsIn_WF {ro : Option Nat} {n : Nat} {P : Program} {row : String} {args : Array Value} {w : World} {R : Value → World → Prop} (h : Rows P row args w R) : RowsIn (WF ro) n P row args w R :=
  fun c cs _ => let ⟨v, w', r, s⟩ := h c cs; ⟨v, w', r, (StepsIn.of_steps s).mono fun m _ => fenced_wide P m⟩
section
variable {P : Program} {ops : Array Oper} {ro : Option Nat} {m : Nat} {ds : List Deferred} {Q : Exit → Act → World → Prop} {QN : Act → World → Prop}
abbrev onlyN (QN : Act → World → Prop) : Exit → Act → World → Prop := fun e a w => e = .normal ∧ QN a w
theorem op_in {i : Nat} {K : Act → World → Prop} {a : Act} {w : World} (hd : ∀ o, ops[i]? = some o → noDef o = true) (h : wpOp P ops (onlyN QN) i K a w) :
    wpOpIn (WF ro) m P ops Q i (fun a' w' => ∃ a0, a' = Act.wd a0 ds ∧ K a0 w') (Act.wd a ds) w := by
  unfold wpOp at h
  unfold wpOpIn
  split
  · rename_i ho
    rw [ho] at h
    exact ⟨a, rfl, h⟩
  · rename_i o ho
    rw [ho] at h
    dsimp only at h
    have hy : yielded ops (Act.wd a ds).tmps = yielded ops a.tmps := rfl
    rw [hy]
    split
    · rename_i hw
      rw [if_pos hw] at h
      rcases h with h | ⟨_, a1, w1, e, _⟩
      · refine ⟨fun _ _ => trivial, ?_⟩
        have hs : o.semAt (WF ro).round (Act.wd a ds).eval = execOp a.eval o := by
          rw [wd_eval]
          cases hr : (WF ro).round with
          | none => rfl
          | some l => exact Oper.semAt_some l _ o (noDef_spec (hd o ho))
        rw [hs]
        unfold Oper.wp at h
        generalize (execOp a.eval o).run P w = r at *
        cases r with
        | ok x w' =>
          cases x with
          | value v => exact ⟨_, wd_put _ _ _ _, h⟩
          | skip => exact ⟨_, wd_put _ _ _ _, h⟩
          | defer d =>
            refine ⟨_, ?_, h⟩
            rw [← wd_put]; rfl
          | enter f args =>
            refine ⟨fun e => (by cases e), callsIn_WF (Calls.mono h fun e w'' he => ?_)⟩
            cases e with
            | returned v => exact ⟨_, wd_put _ _ _ _, he⟩
            | panicked c => cases he.1
            | outgrown => obtain ⟨_, _, e, _⟩ := he; cases e
          | row r args => exact ⟨fun e => (by cases e), rowsIn_WF (Rows.mono h fun v w'' he => ⟨_, wd_put _ _ _ _, he⟩)⟩
          | _ => exact False.elim h
        | halt x w' =>
          cases x with
          | panic v => cases h.1
          | _ => exact False.elim h
      · cases e
    · rename_i hw
      rw [if_neg hw] at h
      exact ⟨fun _ _ => trivial, _, wd_put _ _ _ _, h⟩
theorem ops_in (hd : ∀ (j : Nat) o, ops[j]? = some o → noDef o = true) (hq : ∀ a w, QN a w → Q .normal (Act.wd a ds) w) : ∀ (l : List Nat) (a : Act) (w : World), wpOps P ops (onlyN QN) l a w → wpOpsIn (WF ro) m P ops Q l (Act.wd a ds) w
  | [], a, w, h => hq a w h.2
  | i :: l, a, w, h => by
    rw [wpOpsIn_cons]
    rw [wpOps_cons] at h
    refine wpOpIn_mono ?_ (op_in (hd i) h)
    rintro a' w' ⟨a0, rfl, hk⟩
    exact ops_in hd hq l a0 w' hk
theorem any_in (hd : ∀ (j : Nat) o, ops[j]? = some o → noDef o = true) (hq : ∀ a w, QN a w → Q .normal (Act.wd a ds) w) : ∀ (f : Nat) (L : Array Bool) (a : Act) (w : World), wpAny P .any ops (onlyN QN) f L a w → wpAnyIn (WF ro) m P .any ops Q f L (Act.wd a ds) w
  | 0, L, a, w, h => ⟨h.1, hq a w h.2.2⟩
  | f + 1, L, a, w, h => ⟨fun e => hq a w (h.1 e).2, fun i hi => by
    refine wpOpIn_mono ?_ (op_in (hd i) (h.2 i hi))
    rintro a' w' ⟨a0, rfl, hk⟩
    exact any_in hd hq f _ a0 w' hk⟩
end
def rwp (ro : Option Nat) (ds : List Deferred) (P : Program) (c : Code) (Q : Exit → Act → World → Prop) (a : Act) (w : World) : Prop :=
  c.wpIn (WF ro) 0 P (fun e a' w' => ∃ a0, a' = Act.wd a0 ds ∧ Q e a0 w') (Act.wd a ds) w
section
variable {P : Program} {ro : Option Nat} {ds : List Deferred} {N : K} {xs : List (Nat × K)} {R : K} {a : Act} {w : World}
theorem r_reg {ops : Array Oper} {B n id : Nat} {w0 : World} {draw : Bool} {S0 : St} {Se : Nu → St} {rw : List (List Nat × List Nat)} (hm : P.follows .mixedOrders = true)
    (hr : Rep B w0 n S0 a w) (hc : Chain P ops B w0 n 0 ops.toList (fun _ => S0) rw Se)
    (hi : (!draw || (indep ops.toList rw [] && forward ops.toList 0)) = true) (hd : ops.toList.all noDef = true)
    (hQ : ∀ ν a w, Rep B w0 n (Se ν) a w → N a w) : rwp ro ds P (Code.region id ops draw) (mkQ N xs R) a w := by
  have hd' : ∀ (j : Nat) o, ops[j]? = some o → noDef o = true := fun j o ho => List.all_eq_true.1 hd o (by
    rw [Array.mem_toList_iff]; exact Array.mem_of_getElem? ho)
  cases draw with
  | false =>
    refine wpIn_region (ops_in (QN := N) hd' (fun a w h => ⟨a, rfl, h⟩) _ a w ?_)
    have := Chain.inorder (Q := onlyN N) ops.toList 0 (fun _ => S0) rw (fun _ => none) a w hc (fun j => by simp) (fun _ _ => rfl) (fun j hj => absurd hj (Nat.not_lt_zero _)) (fun _ _ => hr)
      (fun p a w h => by obtain ⟨ν, hν⟩ := Ext.exists p; exact ⟨rfl, hQ ν a w (h ν hν)⟩)
    rw [List.range_eq_range', ← Array.length_toList]
    exact this
  | true =>
    simp only [Bool.not_true, Bool.false_or, Bool.and_eq_true] at hi
    refine wpIn_region_any hm (any_in (QN := N) hd' (fun a w h => ⟨a, rfl, h⟩) _ _ a _ ?_)
    have hr' : Rep B w0 n S0 a { w with drawn := w.drawn + 1 } := hr.world ⟨rfl, rfl, rfl, Nat.le_refl _, fun _ _ => rfl⟩
    exact Chain.anyorder hc hi.1 hi.2 hr' (fun ν a w h => ⟨rfl, hQ ν a w h⟩) _ (Nat.le_refl _)
theorem r_mono {c : Code} {Q Q' : Exit → Act → World → Prop} (h : rwp ro ds P c Q a w) (hq : ∀ e a w, Q e a w → Q' e a w) : rwp ro ds P c Q' a w :=
  wpIn_mono h fun e a' w' ⟨a0, e1, h1⟩ => ⟨a0, e1, hq _ _ _ h1⟩
theorem r_seq {x y : Code} (h : rwp ro ds P x (mkQ (rwp ro ds P y (mkQ N xs R)) xs R) a w) : rwp ro ds P (Code.seq x y) (mkQ N xs R) a w := by
  refine wpIn_seq (wpIn_mono h fun e _ _ hh => ?_)
  cases e with
  | normal => obtain ⟨a0, rfl, h1⟩ := hh; exact h1
  | _ => exact hh
theorem r_skip (h : N a w) : rwp ro ds P Code.skip (mkQ N xs R) a w := wpIn_skip ⟨a, rfl, h⟩
theorem r_label {l : Nat} (h : N a w) : rwp ro ds P (Code.label l) (mkQ N xs R) a w := wpIn_label ⟨a, rfl, h⟩
theorem r_ret (h : R a w) : rwp ro ds P Code.ret (mkQ N xs R) a w := wpIn_ret ⟨a, rfl, h⟩
theorem r_exit {i : Nat} {k : K} (hk : lookX xs i = some k) (h : k a w) : rwp ro ds P (Code.exit i) (mkQ N xs R) a w := wpIn_exit ⟨a, rfl, by simp only [mkQ, hk]; exact h⟩
theorem r_block {i : Nat} {c : Code} (h : rwp ro ds P c (mkQ N ((i, N) :: xs) R) a w) : rwp ro ds P (Code.block i c) (mkQ N xs R) a w := by
  refine wpIn_block (wpIn_mono h fun e a' w' hh => ?_)
  obtain ⟨a0, rfl, q⟩ := hh
  cases e with
  | exit j =>
    simp only [mkQ, lookX] at q
    simp only [Exit.inBlock]
    by_cases hj : j = i
    · subst hj
      rw [show Nat.beq j j = true from Nat.beq_refl j] at q
      simp only [if_true]; exact ⟨a0, rfl, q⟩
    · have : Nat.beq i j = false := by
        cases hb : Nat.beq i j with
        | false => rfl
        | true => exact absurd (Nat.eq_of_beq_eq_true hb).symm hj
      rw [this] at q
      rw [if_neg hj]; exact ⟨a0, rfl, q⟩
  | _ => exact ⟨a0, rfl, q⟩
theorem r_cond {B n : Nat} {w0 : World} {S : St} {c : Operand} {x y : Code} {t : Bool} (hr : Rep B w0 n S a w) (hk : knownB S c = true) (he : envS S c = .bool t)
    (ht : t = true → rwp ro ds P x (mkQ N xs R) a w) (hf : t = false → rwp ro ds P y (mkQ N xs R) a w) : rwp ro ds P (Code.cond c x y) (mkQ N xs R) a w :=
  wpIn_cond_split (by rw [wd_eval]; exact (env_eq hr hk).trans he) ht hf
theorem r_join {c : Code} (J : K) (hJ : ∀ a w, J a w → N a w) (h : rwp ro ds P c (mkQ J xs R) a w) : rwp ro ds P c (mkQ N xs R) a w :=
  r_mono h fun e a w q => by cases e <;> first | exact hJ a w q | exact q
theorem r_out {c : Code} {Q Q' : Exit → Act → World → Prop} (h : rwp none ds P c Q a w) (hq : ∀ e a0 w', Q e a0 w' → Q' e (Act.wd a0 ds) w') : c.wp P Q' (Act.wd a ds) w :=
  (wpIn_wide (n := 0)).1 (wpIn_mono h fun e a' w' ⟨a0, e1, h1⟩ => by subst e1; exact hq _ _ _ h1)
end
end Go.Sx
namespace Go.Sx
open Go Go.RowKit
theorem rpc {Rp : St → Act → World → Prop} {S S' : St} {a : Act} {w : World} (h : Rp S a w) (e : ∀ k, S' k = S k) : Rp S' a w := by
  have : S' = S := funext e
  subst this; exact h
def OpOKi (ro : Option Nat) (P : Program) (ops : Array Oper) (Rp : St → Act → World → Prop) (i : Nat) (o : Oper) (Spre : Nu → St) (R : List Nat) (u : Nu → List (Nat × KV)) : Prop :=
  ∀ (Q : Exit → Act → World → Prop) (p : PNu) (S : Nu → St) (a : Act) (w : World),
    (∀ ν, Ext p ν → ∀ k ∈ R, S ν k = Spre ν k) → p i = none → ops[i]? = some o → (∀ ν, Ext p ν → Rp (S ν) a w) →
    wpOpIn (WF ro) 0 P ops Q i (fun a' w' => ∃ g, ∀ ν, Ext (p.set i g) ν → Rp (updAll (S ν) (u ν)) a' w') a w
def RepO (kJ B : Nat) (w0 : World) (n : Nat) (S : St) (a : Act) (w : World) : Prop := Rep B w0 n S a w ∧ ∀ k, k ≠ kJ → S k = .none ∨ isSlot (S k) = true
theorem only_upd {kJ : Nat} : ∀ (u : List (Nat × KV)) (S : St), (u.all fun x => isSlot x.2) = true → (∀ k, k ≠ kJ → S k = .none ∨ isSlot (S k) = true) → ∀ k, k ≠ kJ → updAll S u k = .none ∨ isSlot (updAll S u k) = true
  | [], _, _, h => h
  | (j, v) :: u, S, hu, h => by
    simp only [List.all_cons, Bool.and_eq_true] at hu
    refine only_upd u _ hu.2 fun k hk => ?_
    by_cases e : k = j
    · subst e; rw [upd_same]; exact .inr hu.1
    · rw [upd_ne _ _ e]; exact h k hk
theorem oki {kJ : Nat} {ro : Option Nat} {P : Program} {ops : Array Oper} {B : Nat} {w0 : World} {n i : Nat} {o : Oper} {Spre : Nu → St} {R : List Nat} {u : Nu → List (Nat × KV)} (h : OpOK P ops B w0 n i o Spre R u) (hd : noDef o = true := by rfl) (hR : (R.all fun k => Nat.blt k TK) = true := by rfl)
    (hu : ∀ ν, ((u ν).all fun x => isSlot x.2) = true := by intro _; kernel_rfl) : OpOKi ro P ops (RepO kJ B w0 n) i o Spre R u := by
  intro Q p S a w h1 h2 h3 h4
  have := op_in (ro := ro) (m := 0) (ds := []) (Q := Q) (QN := fun _ _ => True) (fun o' ho' => by rw [h3] at ho'; injection ho' with e; subst e; exact hd) (h (onlyN fun _ _ => True) p S a w h1 h2 h3 (fun ν hν => (h4 ν hν).1) (fun j hj => by have := List.all_eq_true.1 hR _ hj; rw [Nat.blt_eq] at this; omega))
  rw [wd_nil] at this
  refine wpOpIn_mono ?_ this
  rintro a' w' ⟨a0, rfl, g, hk⟩
  rw [wd_nil]
  exact ⟨g, fun ν hν => ⟨hk ν hν, only_upd (u ν) _ (hu ν) (h4 ν (hν.of_set h2)).2⟩⟩
def ancs : List Oper → List (List Nat) → List (List Nat)
  | [], as_ => as_
  | o :: r, as_ => ancs r (as_ ++ [(predsOf o).flatMap fun e => e :: as_.getD e []])
def AncOK (ops : List Oper) (as_ : List (List Nat)) : Prop := ∀ (m : Nat) (l : List Nat) (o : Oper), as_[m]? = some l → ops[m]? = some o → ∀ k ∈ l, ∀ D, DownC ops D → (∀ e ∈ predsOf o, D e = true) → D k = true
theorem ancs_ok {ops : List Oper} : ∀ (r : List Oper) (as_ : List (List Nat)), (∀ j, r[j]? = ops[as_.length + j]?) → AncOK ops as_ → AncOK ops (ancs r as_)
  | [], _, _, h => h
  | o :: r, as_, hr, h => by
    refine ancs_ok r _ (fun j => by have := hr (j + 1); simpa [Nat.add_assoc, Nat.add_comm 1 j] using this) ?_
    intro m l o' hl ho' k hk D hD hp
    by_cases hm : m < as_.length
    · rw [List.getElem?_append_left hm] at hl
      exact h m l o' hl ho' k hk D hD hp
    · rw [List.getElem?_append_right (by omega)] at hl
      have hm' : m = as_.length := by
        have := (List.getElem?_eq_some_iff.1 hl).1
        simp at this; omega
      subst hm'
      simp only [Nat.sub_self, List.getElem?_cons_zero, Option.some.injEq] at hl
      subst hl
      have e0 : o' = o := by
        have := hr 0
        simp only [List.getElem?_cons_zero, Nat.add_zero] at this
        rw [← this] at ho'; injection ho' with e; exact e.symm
      subst e0
      obtain ⟨e, he, hk⟩ := List.mem_flatMap.1 hk
      have hDe := hp e he
      rcases List.mem_cons.1 hk with rfl | hk
      · exact hDe
      · cases hae : as_[e]? with
        | none => simp [List.getD, hae] at hk
        | some l' =>
          simp only [List.getD, hae, Option.getD_some] at hk
          have hel : e < as_.length := (List.getElem?_eq_some_iff.1 hae).1
          cases hoe : ops[e]? with
          | none =>
            exfalso
            have h1 : as_.length < ops.length := (List.getElem?_eq_some_iff.1 ho').1
            rw [List.getElem?_eq_none_iff] at hoe
            omega
          | some oe => exact h e l' oe hae hoe k hk D hD (hD e oe hDe hoe)
def indepT (ops : List Oper) (rw : List (List Nat × List Nat)) : Bool :=
  let as_ := ancs ops []
  (List.range ops.length).all fun j => (List.range j).all fun i => (as_.getD j []).contains i || (let x := rw.getD i ([], []); let y := rw.getD j ([], []); disj x.2 y.1 && disj x.2 y.2 && disj x.1 y.2)
theorem indepT_spec {ops : List Oper} {rw : List (List Nat × List Nat)} (h : indepT ops rw = true) {i j : Nat} {o : Oper} {R W R' W' : List Nat} (hij : i < j) (ho : ops[j]? = some o) (hj : rw[j]? = some (R, W)) (hi : rw[i]? = some (R', W'))
    {D : Nat → Bool} (hD : DownC ops D) (hp : ∀ e ∈ predsOf o, D e = true) : D i = true ∨ (disj W' R = true ∧ disj W' W = true ∧ disj R' W = true) := by
  have hjl : j < ops.length := (List.getElem?_eq_some_iff.1 ho).1
  have h1 := List.all_eq_true.1 (List.all_eq_true.1 h j (List.mem_range.2 hjl)) i (List.mem_range.2 hij)
  simp only [Bool.or_eq_true, Bool.and_eq_true] at h1
  rcases h1 with h1 | h1
  · left
    have hA : AncOK ops (ancs ops []) := ancs_ok ops [] (fun j => by simp) (fun m l o hl => by simp at hl)
    cases hl : (ancs ops [])[j]? with
    | none => simp [List.getD, hl] at h1
    | some l =>
      simp only [List.getD, hl, Option.getD_some] at h1
      exact hA j l o hl ho i (by simpa using h1) D hD hp
  · right
    simp only [List.getD, hj, hi, Option.getD_some] at h1
    exact ⟨h1.1.1, h1.1.2, h1.2⟩
section
variable {ro : Option Nat} {P : Program} {ops : Array Oper} {Rp : St → Act → World → Prop}
inductive ChainI (ro : Option Nat) (P : Program) (ops : Array Oper) (Rp : St → Act → World → Prop) : Nat → List Oper → (Nu → St) → List (List Nat × List Nat) → (Nu → St) → Prop
  | nil {i : Nat} {S : Nu → St} : ChainI ro P ops Rp i [] S [] S
  | cons {i : Nat} {o : Oper} {rest : List Oper} {S Se : Nu → St} {R : List Nat} {rw : List (List Nat × List Nat)} {u : Nu → List (Nat × KV)} (W : List Nat) (h : OpOKi ro P ops Rp i o S R u)
      (t : ChainI ro P ops Rp (i + 1) rest (fun ν => updAll (S ν) (u ν)) rw Se) (hW : ∀ ν, (u ν).map Prod.fst = W := by intro _; kernel_rfl) : ChainI ro P ops Rp i (o :: rest) S ((R, W) :: rw) Se
set_option linter.unusedVariables false in
theorem ChainI.inorder {Q : Exit → Act → World → Prop} {Se : Nu → St} : ∀ (l : List Oper) (i : Nat) (S : Nu → St) (rw : List (List Nat × List Nat)) (p : PNu) (a : Act) (w : World),
    ChainI ro P ops Rp i l S rw Se → (∀ j, l[j]? = ops[i + j]?) → p.free i → (∀ ν, Ext p ν → Rp (S ν) a w) →
    (∀ p a w, (∀ ν, Ext p ν → Rp (Se ν) a w) → Q .normal a w) → wpOpsIn (WF ro) 0 P ops Q (List.range' i l.length) a w
  | [], i, S, rw, p, a, w, hc, hl, hp, hr, hQ => by
    cases hc
    exact hQ p a w hr
  | o :: rest, i, S, rw, p, a, w, hc, hl, hp, hr, hQ => by
    cases hc with
    | cons W h t hW =>
      simp only [List.length_cons, List.range'_succ]
      rw [wpOpsIn_cons]
      refine wpOpIn_mono ?_ (h Q p S a w (fun ν _ k _ => rfl) (hp i (Nat.le_refl _)) (by simpa using (hl 0).symm) hr)
      rintro a' w' ⟨g, hg⟩
      exact ChainI.inorder rest (i + 1) _ _ (p.set i g) a' w' t (fun j => by have := hl (j + 1); simpa [Nat.add_assoc, Nat.add_comm 1 j] using this)
        (fun j hj => by have := hp j (by omega); simp only [PNu.set, this]; rw [if_neg (by omega)]) hg hQ
theorem ChainI.parts {Se : Nu → St} : ∀ (l : List Oper) (i : Nat) (S : Nu → St) (rw : List (List Nat × List Nat)), ChainI ro P ops Rp i l S rw Se → rw.length = l.length ∧
    ∃ us : Nat → Nu → List (Nat × KV), (∀ j o, l[j]? = some o → ∃ R W, rw[j]? = some (R, W) ∧ (∀ ν, (us j ν).map Prod.fst = W) ∧ OpOKi ro P ops Rp (i + j) o (fun ν => can us (fun _ => true) (S ν) ν j) R (us j)) ∧
      ∀ ν, Se ν = can us (fun _ => true) (S ν) ν l.length
  | [], i, S, rw, h => by
    cases h
    exact ⟨rfl, fun _ _ => [], fun j o h => by simp at h, fun ν => rfl⟩
  | o0 :: l, i, S, rw, h => by
    cases h with
    | @cons _ _ _ _ _ R rw' u W h t hW =>
      obtain ⟨h1, us, h2, h3⟩ := ChainI.parts l (i + 1) _ rw' t
      have hshift : ∀ (ν : Nu) (m : Nat), can (fun j ν => match j with | 0 => u ν | j + 1 => us j ν) (fun _ => true) (S ν) ν (m + 1) = can us (fun _ => true) (updAll (S ν) (u ν)) ν m := by
        intro ν m
        induction m with
        | zero => simp [can]
        | succ m ih =>
          rw [can, ih]
          simp [can]
      refine ⟨by simp [h1], fun j ν => match j with | 0 => u ν | j + 1 => us j ν, fun j o ho => ?_, fun ν => ?_⟩
      · cases j with
        | zero =>
          simp only [List.getElem?_cons_zero, Option.some.injEq] at ho
          subst ho
          exact ⟨R, W, rfl, hW, h⟩
        | succ j =>
          obtain ⟨R', W', hr, hW', ho'⟩ := h2 j o (by simpa using ho)
          refine ⟨R', W', by simpa using hr, hW', ?_⟩
          simp only [hshift]
          rw [show i + (j + 1) = i + 1 + j by omega]
          exact ho'
      · rw [h3 ν, ← hshift]; rfl
theorem ChainI.anyorder {Q : Exit → Act → World → Prop} {S0 : St} {Se : Nu → St} {rw : List (List Nat × List Nat)} {a : Act} {w : World} (hc : ChainI ro P ops Rp 0 ops.toList (fun _ => S0) rw Se)
    (hi : indepT ops.toList rw = true) (hf : forward ops.toList 0 = true) (hr : Rp S0 a w)
    (hQ : ∀ ν a w, Rp (Se ν) a w → Q .normal a w) (fuel : Nat) (hfuel : ops.size ≤ fuel) : wpAnyIn (WF ro) 0 P .any ops Q fuel (Array.replicate ops.size false) a w := by
  obtain ⟨hlen, us, hus, hSe⟩ := ChainI.parts _ _ _ _ hc
  have hl : ops.toList.length = ops.size := Array.length_toList
  have hget : ∀ j o, ops[j]? = some o → ops.toList[j]? = some o := fun j o h => by rw [Array.getElem?_toList]; exact h
  -- the done set
  let D (L : Array Bool) : Nat → Bool := fun j => L.getD j false
  have main : ∀ (fuel : Nat) (L : Array Bool) (p : PNu) (a : Act) (w : World), L.size = ops.size → (∀ j, D L j = false → p j = none) →
      (∀ j o, D L j = true → ops[j]? = some o → ∀ e ∈ o.after, Region.binds .any e = true → D L e.on = true) →
      (∀ ν, Ext p ν → Rp (can us (D L) S0 ν ops.size) a w) → ((List.range ops.size).filter fun j => !D L j).length ≤ fuel → wpAnyIn (WF ro) 0 P .any ops Q fuel L a w := by
    intro fuel
    have hdone : ∀ (L : Array Bool) (p : PNu) (a : Act) (w : World), L.size = ops.size →
      (∀ j o, D L j = true → ops[j]? = some o → ∀ e ∈ o.after, Region.binds .any e = true → D L e.on = true) →
      (∀ ν, Ext p ν → Rp (can us (D L) S0 ν ops.size) a w) → Region.ready .any ops L = [] → Q .normal a w := by
      intro L p a w hL hdown hrep hno
      have hall : ∀ j, j < ops.size → D L j = true := by
        intro j
        induction j using Nat.strongRecOn with
        | _ j ih =>
          intro hj
          cases hD : D L j with
          | true => rfl
          | false =>
            have : j ∈ Region.ready .any ops L := by
              rw [mem_ready]
              refine ⟨?_, ops[j], by simp [hj], fun e he hb => ?_⟩
              · have : L.getD j false = false := hD
                simp only [Array.getD_eq_getD_getElem?] at this ⊢
                rw [Array.getElem?_eq_getElem (by omega)] at this ⊢
                exact this
              · have h1 := forward_spec _ _ hf j ops[j] (by simp [hj]) e he hb
                simp only [Nat.zero_add] at h1
                exact ih e.on h1 (by omega)
            rw [hno] at this; cases this
      obtain ⟨ν, hν⟩ := Ext.exists p
      refine hQ ν a w (rpc (hrep ν hν) fun k => ?_)
      rw [hSe ν, hl]
      exact can_congr _ fun j hj _ => (hall j hj).symm
    induction fuel with
    | zero =>
      intro L p a w hL hp hdown hrep hcount
      have hno : Region.ready .any ops L = [] := by
        cases hrd : Region.ready .any ops L with
        | nil => rfl
        | cons j rest =>
          exfalso
          have hj : j ∈ Region.ready .any ops L := by rw [hrd]; simp
          obtain ⟨h1, o, ho, _⟩ := mem_ready.1 hj
          have hjs : j < ops.size := (Array.getElem?_eq_some_iff.1 ho).1
          have : j ∈ (List.range ops.size).filter fun j => !D L j := by
            simp only [List.mem_filter, List.mem_range, hjs, true_and, Bool.not_eq_true']
            show L.getD j false = false
            simp only [Array.getD_eq_getD_getElem?] at h1 ⊢
            rw [Array.getElem?_eq_getElem (by omega)] at h1 ⊢
            exact h1
          have := List.length_pos_of_mem this
          omega
      exact ⟨hno, hdone L p a w hL hdown hrep hno⟩
    | succ fuel ih =>
      intro L p a w hL hp hdown hrep hcount
      refine ⟨hdone L p a w hL hdown hrep, fun i hi' => ?_⟩
      obtain ⟨hLi, o, ho, hpre⟩ := mem_ready.1 hi'
      have his : i < ops.size := (Array.getElem?_eq_some_iff.1 ho).1
      have hDi : D L i = false := by
        show L.getD i false = false
        simp only [Array.getD_eq_getD_getElem?] at hLi ⊢
        rw [Array.getElem?_eq_getElem (by omega)] at hLi ⊢
        exact hLi
      obtain ⟨R, W, hrw, hW, hok⟩ := hus i o (hget i o ho)
      simp only [Nat.zero_add] at hok
      -- what touches what it touches is done if it stands before it, and isn't done if it stands behind it
      have hord : ∀ j, j < ops.size → j ≠ i → (∃ R' W', rw[j]? = some (R', W') ∧ ¬ (disj W' R = true ∧ disj W' W = true ∧ disj R' W = true) ∧ j < i) ∨ (∃ R' W', rw[j]? = some (R', W') ∧ ¬ (disj W R' = true ∧ disj W W' = true ∧ disj R W' = true) ∧ i < j) → D L j = decide (j < i) := by
        intro j hj hne hcase
        have hDC : DownC ops.toList (D L) := fun j' o' hDj' ho' e he => by
          obtain ⟨e', he', rfl⟩ := List.mem_map.1 he
          rw [List.mem_filter] at he'
          exact hdown j' o' hDj' (by simpa using ho') e' (by simpa using he'.1) he'.2
        rcases hcase with ⟨R', W', hr', hn, hlt⟩ | ⟨R', W', hr', hn, hlt⟩
        · have h3 := indepT_spec hi hlt (hget i o ho) hrw hr' hDC (fun e he => by
            obtain ⟨e', he', rfl⟩ := List.mem_map.1 he
            rw [List.mem_filter] at he'
            exact hpre e' (by simpa using he'.1) he'.2)
          have := h3.resolve_right hn
          simp only [hlt, decide_true]; exact this
        · obtain ⟨oj, hoj⟩ : ∃ oj, ops[j]? = some oj := ⟨ops[j], by simp [hj]⟩
          cases hDj : D L j with
          | false => have : ¬ j < i := by omega
                     simp [this]
          | true =>
            have h3 := indepT_spec hi hlt (hget j oj hoj) hr' hrw hDC (hDC j oj hDj (hget j oj hoj))
            have := h3.resolve_right hn
            rw [hDi] at this; cases this
      have hag : ∀ ν, Ext p ν → ∀ k ∈ R, can us (D L) S0 ν ops.size k = can us (fun _ => true) S0 ν i k := by
        intro ν _ k hk
        have e1 : can us (D L) S0 ν ops.size k = can us (fun j => decide (j < i)) S0 ν ops.size k := by
          refine can_congr _ fun j hj hkj => ?_
          by_cases hji : j = i
          · subst hji; rw [hDi]; simp
          · obtain ⟨oj, hoj⟩ : ∃ oj, ops[j]? = some oj := ⟨ops[j], by simp [hj]⟩
            obtain ⟨R', W', hrw', hW', _⟩ := hus j oj (hget j oj hoj)
            rw [hW' ν] at hkj
            refine hord j hj hji ?_
            rcases Nat.lt_or_ge j i with hlt | hge
            · exact .inl ⟨R', W', hrw', fun hd => disj_spec hd.1 hkj hk, hlt⟩
            · exact .inr ⟨R', W', hrw', fun hd => disj_spec hd.2.2 hk hkj, by omega⟩
        rw [e1]
        have key : ∀ m, i ≤ m → can us (fun j => decide (j < i)) S0 ν m k = can us (fun _ => true) S0 ν i k := by
          intro m
          induction m with
          | zero => intro hm; have : i = 0 := by omega
                    subst this; rfl
          | succ m ihm =>
            intro hm
            by_cases e : i = m + 1
            · subst e
              exact can_congr _ fun j hj _ => by simp [hj]
            · rw [can, if_neg (by simp; omega)]
              exact ihm (by omega)
        exact key _ (by omega)
      refine wpOpIn_mono ?_ (hok Q p (fun ν => can us (D L) S0 ν ops.size) a w hag (hp i hDi) ho hrep)
      rintro a' w' ⟨g, hg⟩
      have hDset : ∀ j, D (L.setIfInBounds i true) j = (D L j || decide (j = i)) := by
        intro j
        show (L.setIfInBounds i true).getD j false = _
        by_cases e : j = i
        · subst e
          simp [Array.getD_eq_getD_getElem?, hL, his]
        · rw [getD_set_ne false (fun h => e h.symm)]
          simp [e, D]
      refine ih (L.setIfInBounds i true) (p.set i g) a' w' (by simp [hL]) ?_ ?_ ?_ ?_
      · intro j hj
        rw [hDset] at hj
        simp only [Bool.or_eq_false_iff, decide_eq_false_iff_not] at hj
        simp only [PNu.set, hj.2, if_false]
        exact hp j hj.1
      · intro j oj hj hoj e he hb
        rw [hDset] at hj ⊢
        simp only [Bool.or_eq_true, decide_eq_true_eq] at hj ⊢
        rcases hj with hj | hj
        · exact .inl (hdown j oj hj hoj e he hb)
        · subst hj
          rw [ho] at hoj
          injection hoj with hoj
          subst hoj
          exact .inl (hpre e he hb)
      · intro ν hν
        refine rpc (hg ν hν) fun k => ?_
        have hfun : D (L.setIfInBounds i true) = fun j => D L j || decide (j = i) := funext hDset
        rw [hfun]
        refine can_add hDi k _ his ?_
        intro j hij hj hDj hki hkj
        obtain ⟨oj, hoj⟩ : ∃ oj, ops[j]? = some oj := ⟨ops[j], by simp [hj]⟩
        obtain ⟨R', W', hrw', hW', _⟩ := hus j oj (hget j oj hoj)
        rw [hW ν] at hki
        rw [hW' ν] at hkj
        have := hord j hj (by omega) (.inr ⟨R', W', hrw', fun hd => disj_spec hd.2.1 hki hkj, hij⟩)
        rw [hDj] at this
        simp at this
        omega
      · have hsub : ((List.range ops.size).filter fun j => !D (L.setIfInBounds i true) j) = ((List.range ops.size).filter fun j => !D L j).filter fun j => !decide (j = i) := by
          rw [List.filter_filter]
          refine List.filter_congr fun j _ => ?_
          rw [hDset]
          cases D L j <;> simp
        rw [hsub]
        have hmem : i ∈ (List.range ops.size).filter fun j => !D L j := by simp [his, hDi]
        have : (((List.range ops.size).filter fun j => !D L j).filter fun j => !decide (j = i)).length < ((List.range ops.size).filter fun j => !D L j).length := by
          refine List.length_filter_lt_length_iff_exists.2 ⟨i, hmem, by simp⟩
        omega
  refine main fuel _ (fun _ => none) a w (by simp) (fun _ _ => rfl) ?_ ?_ ?_
  · intro j o hj
    have : (Array.replicate ops.size false).getD j false = true := hj
    by_cases hjs : j < ops.size <;> simp [Array.getD_eq_getD_getElem?, hjs] at this
  · intro ν _
    refine rpc hr fun k => ?_
    have key : ∀ m, can us (D (Array.replicate ops.size false)) S0 ν m = S0 := by
      intro m
      induction m with
      | zero => rfl
      | succ m ih =>
        have : D (Array.replicate ops.size false) m = false := by
          show (Array.replicate ops.size false).getD m false = false
          by_cases hjs : m < ops.size <;> simp [Array.getD_eq_getD_getElem?, hjs]
        rw [can, this]; simpa using ih
    rw [key]
  · refine Nat.le_trans (List.length_filter_le _ _) ?_
    simpa using hfuel
theorem y_reg {draw : Bool} {id : Nat} {Q : Exit → Act → World → Prop} {S0 : St} {Se : Nu → St} {rw : List (List Nat × List Nat)} {a : Act} {w : World} (hm : P.follows .mixedOrders = true)
    (hr : Rp S0 a w) (hc : ChainI ro P ops Rp 0 ops.toList (fun _ => S0) rw Se)
    (hi : (!draw || (indepT ops.toList rw && forward ops.toList 0)) = true) (hdr : ∀ S a w, Rp S a w → Rp S a { w with drawn := w.drawn + 1 })
    (hQ : ∀ ν a w, Rp (Se ν) a w → Q .normal a w) : (Code.region id ops draw).wpIn (WF ro) 0 P Q a w := by
  cases draw with
  | false =>
    refine wpIn_region ?_
    have := ChainI.inorder (Q := Q) ops.toList 0 (fun _ => S0) rw (fun _ => none) a w hc (fun j => by simp) (fun _ _ => rfl) (fun _ _ => hr)
      (fun p a w h => by obtain ⟨ν, hν⟩ := Ext.exists p; exact hQ ν a w (h ν hν))
    rw [List.range_eq_range', ← Array.length_toList]
    exact this
  | true =>
    simp only [Bool.not_true, Bool.false_or, Bool.and_eq_true] at hi
    refine wpIn_region_any hm ?_
    have hr' : Rp S0 a { w with drawn := w.drawn + 1 } := hdr _ _ _ hr
    exact ChainI.anyorder hc hi.1 hi.2 hr' hQ _ (Nat.le_refl _)
end
end Go.Sx
set_option linter.unusedVariables false
set_option linter.unusedSimpArgs false
namespace Go.Sx
open Go Go.RowKit
def slotsOf (S : St) : St := fun k => match S k with | .slot c v => .slot c v | _ => .none
theorem slotsOf_slot {S : St} {k : Nat} {c : Bool} {v : Value} (h : slotsOf S k = .slot c v) : S k = .slot c v := by
  unfold slotsOf at h
  split at h
  · rename_i e; rw [e]; exact h
  · cases h
theorem slotsOf_fp {S : St} {k i : Nat} : ¬ (slotsOf S k).fp i := by
  unfold slotsOf
  split <;> exact fun h => h
theorem slotsOf_holds {S : St} {k : Nat} {w : World} : (slotsOf S k).holds w := by
  unfold slotsOf
  split <;> trivial
theorem Rep.restart {B B' : Nat} {w0 w1 w : World} {n : Nat} {S : St} {a : Act} (h : Rep B w0 n S a w) (w' : World) (hb : Below B' w1 w') (hB : B' ≤ w'.heap.size) : Rep B' w1 n (slotsOf S) a w' where
  defers := h.defers
  size := h.size
  slots t c v hs := h.slots t c v (slotsOf_slot hs)
  below := hb
  base := hB
  holds k := slotsOf_holds
  inb k i hi := (slotsOf_fp hi).elim
  ge k i _ hi := (slotsOf_fp hi).elim
  disj k k' i _ _ hi := (slotsOf_fp hi).elim
theorem slotsOf_excl {S : St} (k : Nat) : ¬ (slotsOf S k).excl := by
  unfold slotsOf
  split <;> exact fun h => h
theorem Rep.again {B B' : Nat} {w0 w1 w : World} {n : Nat} {S : St} {a : Act} (h : Rep B w0 n S a w) (w' : World) (hb : Below B' w1 w') (hB : B' ≤ w'.heap.size) (fs : List (Nat × KV))
    (hfs : ∀ x ∈ fs, (∃ fp F, x.2 = .fact fp F) ∧ x.2.holds w' ∧ ∀ i, x.2.fp i → i < w'.heap.size) : Rep B' w1 n (updAll (slotsOf S) fs) a w' :=
  Rep.facts fs _ (h.restart w' hb hB) slotsOf_excl hfs
section
variable {P : Program} {ro : Option Nat} {ds : List Deferred} {N : K} {xs : List (Nat × K)} {R : K} {a : Act} {w : World}
theorem r_loopJ {c : Code} (J : Nat → K) (m : Nat) (h0 : J m a w) (hs : ∀ m a w, J m a w → rwp ro ds P c (mkQ (fun a w => ∃ m', m' < m ∧ J m' a w) xs R) a w) : rwp ro ds P (Code.loop c) (mkQ N xs R) a w := by
  have key : ∀ (M m : Nat) (a : Act) (w : World), m < M → J m a w → Code.roundsIn (WF ro) 0 P c (fun e a' w' => ∃ a0, a' = Act.wd a0 ds ∧ mkQ N xs R e a0 w') M (Act.wd a ds) w := by
    intro M
    induction M with
    | zero => intro m a w h; exact absurd h (Nat.not_lt_zero _)
    | succ M ih =>
      intro m a w hm hJ
      refine wpIn_mono (hs m a w hJ) fun e _ w' hh => ?_
      obtain ⟨a0, rfl, q⟩ := hh
      cases e with
      | normal => obtain ⟨m', hm', hj⟩ := q; exact ih m' a0 w' (by omega) hj
      | _ => exact ⟨a0, rfl, q⟩
  exact wpIn_loop_rounds (m + 1) (key _ m a w (Nat.lt_succ_self m) h0)
theorem r_in {c : Code} {Q : Exit → Act → World → Prop} (h : rwp ro [] P c Q a w) : c.wpIn (WF ro) 0 P Q a w := by
  have := wpIn_mono h (Q' := Q) fun e a' w' ⟨a0, e1, h1⟩ => by rw [e1, wd_nil]; exact h1
  rwa [wd_nil] at this
theorem r_of {c : Code} {Q : Exit → Act → World → Prop} (h : c.wpIn (WF ro) 0 P Q a w) : rwp ro [] P c Q a w := by
  unfold rwp
  rw [wd_nil]
  exact wpIn_mono h fun e a' w' q => ⟨a', (wd_nil a').symm, q⟩
end
abbrev jK (N : Nat) (w0 : World) (J : World → Prop) : KV := .fact (· < N) (fun w => Below 0 w0 w → J w)
theorem jK_of {w w0 : World} {J : World → Prop} (hJ : ∀ W', Below w.heap.size w W' → J W') (hb : Below 0 w0 w) : (jK w.heap.size w0 J).holds w :=
  fun w' ha hb' => hJ w' ⟨hb'.os.trans hb.os.symm, hb'.tape.trans hb.tape.symm, hb'.output.trans hb.output.symm, by
    rcases Nat.eq_zero_or_pos w.heap.size with h0 | h0
    · omega
    · have h1 := ha (w.heap.size - 1) (show w.heap.size - 1 < w.heap.size by omega)
      rw [Array.getElem?_eq_getElem (show w.heap.size - 1 < w.heap.size by omega)] at h1
      have := (Array.getElem?_eq_some_iff.1 h1).1
      omega, fun k hk => ha k hk⟩
theorem ok_yield {P : Program} {ops : Array Oper} {n i : Nat} {o : Oper} {Spre : Nu → St} {w0 : World} (kJ : Nat) (gk : KV) (l : Nat) (args : Nu → Array Value) (Jr Jn JX : World → Prop) (d : Nat)
    (hG : ∀ ν, Spre ν kJ = gk) (hgk : ∀ w, gk.holds w → Below 0 w0 w → Jr w)
    (hY : ∀ ν W, Jr W → YieldAt (WF none) 0 P l (args ν) W fun e W' => (e = .returned (.bool true) ∧ Jn W') ∨ (e = .returned (.bool false) ∧ JX W'))
    (hJn : ∀ W W', Jn W → Below W.heap.size W W' → Jn W') (hJX : ∀ W W', JX W → Below W.heap.size W W' → JX W') (hJ0 : ∀ W, Jn W → Below 0 w0 W) (hX0 : ∀ W, JX W → Below 0 w0 W)
    (hd : o.dst = some d := by rfl) (hdn : Nat.blt d n = true := by rfl) (hkn : Nat.ble n kJ = true := by rfl) (hsel : noSel o = true := by rfl) (hg : o.guard = none := by rfl)
    (hk : ∀ ν, (o.op.operands.all (knownB (Spre ν))) = true := by intro _; kernel_rfl)
    (hp : ∀ ν, (condsOf o (Spre ν)).all id = true := by intro _; kernel_rfl)
    (hv : ∀ ν w, (execOp (envU (Spre ν)) o).run P w = (Instr.yield l (args ν)).run P w := by intro _ _; kernel_rfl) :
    OpOKi none P ops (RepO kJ 0 w0 n) i o Spre (kJ :: tmpsOf ops o) (fun ν => [(d, .slot true (.bool (decide ((ν i).n 0 = 1)))), (kJ, bif decide ((ν i).n 0 = 1) then jK ((ν i).n 1) w0 Jn else jK ((ν i).n 1) w0 JX)]) := by
  have hdn' : d < n := by simpa using hdn
  have hkn' : n ≤ kJ := by simpa using hkn
  intro Q p S a w hag hpi hoi hrep
  obtain ⟨ν0, h0⟩ := Ext.exists p
  have hRk : ∀ ν, Ext p ν → ∀ k ∈ tmpsOf ops o, S ν k = Spre ν k := fun ν hν k hk' => hag ν hν k (List.mem_cons_of_mem _ hk')
  have hev : execOp a.eval o = execOp (envU (Spre ν0)) o := by
    have h1 : execOp a.eval o = execOp (envS (Spre ν0)) o := by
      refine execOp_congr o (noSel_spec hsel) fun x hx => ?_
      have h1 : knownB (S ν0) x = true := by
        rw [knownB_congr (ops := ops) (hRk ν0 h0) x hx]
        exact Array.all_eq_true_iff_forall_mem.1 (hk ν0) x hx
      rw [env_eq (hrep ν0 h0).1 h1]
      exact envS_congr (ops := ops) (hRk ν0 h0) x hx
    exact h1.trans (env_strip (noSel_spec hsel) (by simpa using hp ν0))
  unfold wpOpIn
  simp only [hoi]
  have hwant : Region.wanted o (yielded ops a.tmps) = true := want_eq (hrep ν0 h0).1 (by unfold wantS; rw [hg])
  rw [if_pos hwant]
  refine ⟨fun _ _ => trivial, ?_⟩
  have hj : Jr w := by
    refine hgk w ?_ (hrep ν0 h0).1.below
    have := (hrep ν0 h0).1.holds kJ
    rw [hag ν0 h0 kJ (List.mem_cons_self ..), hG ν0] at this
    exact this
  obtain ⟨fn, tmps, assign, body, hy, hR⟩ := hY ν0 w hj
  have hs : o.semAt (WF none).round a.eval = execOp a.eval o := rfl
  rw [hs, hev, hv ν0 w, hy]
  refine ⟨fun e => (by cases e), hR.mono ?_⟩
  have fin : ∀ (b : Bool) (W' : World) (g : Gh), g = Gh.of (fun j => if j = 0 then (if b then 1 else 0) else W'.heap.size) (fun _ => none) → Below 0 w0 W' → (if b then Jn W' else JX W') →
      ∃ g, ∀ ν, Ext (p.set i g) ν → RepO kJ 0 w0 n (updAll (S ν) [(d, .slot true (.bool (decide ((ν i).n 0 = 1)))), (kJ, bif decide ((ν i).n 0 = 1) then jK ((ν i).n 1) w0 Jn else jK ((ν i).n 1) w0 JX)]) (a.put o.dst (.bool b)) W' := by
    intro b W' g hgg hB hJJ
    refine ⟨g, fun ν hν => ?_⟩
    have hν' := hν.of_set hpi
    have eg : ν i = g := hν.at_set
    have e0 : decide ((ν i).n 0 = 1) = b := by rw [eg, hgg]; cases b <;> rfl
    have e1 : (ν i).n 1 = W'.heap.size := by rw [eg, hgg]; rfl
    rw [e0, e1, hd]
    have hrs : Rep 0 w0 n (slotsOf (S ν)) a W' := (hrep ν hν').1.restart W' hB (Nat.zero_le _)
    have hr1 := hrs.put hdn' true (.bool b)
    have hv' : (bif b then jK W'.heap.size w0 Jn else jK W'.heap.size w0 JX).holds W' := by
      cases b with
      | true => exact jK_of (fun W2 h2 => hJn W' W2 hJJ h2) hB
      | false => exact jK_of (fun W2 h2 => hJX W' W2 hJJ h2) hB
    have hfp : ∀ j, (bif b then jK W'.heap.size w0 Jn else jK W'.heap.size w0 JX).fp j → j < W'.heap.size := by cases b <;> exact fun j h => h
    have hex : ¬ (bif b then jK W'.heap.size w0 Jn else jK W'.heap.size w0 JX).excl := by cases b <;> exact fun h => h
    have hnx : ∀ k', ¬ (upd (slotsOf (S ν)) d (.slot true (.bool b)) k').excl := by
      intro k'
      by_cases e : k' = d
      · subst e; rw [upd_same]; exact fun h => h
      · rw [upd_ne _ _ e]; exact slotsOf_excl k'
    have hr2 := hr1.ent kJ (bif b then jK W'.heap.size w0 Jn else jK W'.heap.size w0 JX) (by intro c x; cases b <;> exact fun h => by cases h) hv' hfp (fun h => (hex h).elim)
      (fun k' j _ ho => by
        rcases ho with ho | ho
        · exact (hex ho).elim
        · exact (hnx k' ho).elim)
    have hst : ∀ k, updAll (S ν) [(d, .slot true (.bool b)), (kJ, bif b then jK W'.heap.size w0 Jn else jK W'.heap.size w0 JX)] k = upd (upd (slotsOf (S ν)) d (.slot true (.bool b))) kJ (bif b then jK W'.heap.size w0 Jn else jK W'.heap.size w0 JX) k := by
      intro k
      show upd (upd (S ν) d _) kJ _ k = _
      by_cases e : k = kJ
      · subst e; rw [upd_same, upd_same]
      · rw [upd_ne _ _ e, upd_ne _ _ e]
        by_cases e' : k = d
        · subst e'; rw [upd_same, upd_same]
        · rw [upd_ne _ _ e', upd_ne _ _ e']
          unfold slotsOf
          rcases (hrep ν hν').2 k e with h1 | h1
          · rw [h1]
          · split
            · rename_i h2; exact h2
            · rename_i h2; unfold isSlot at h1; split at h1
              · rename_i c v h3; exact absurd h3 (h2 c v)
              · cases h1
    refine ⟨hr2.congr hst, fun k hk' => ?_⟩
    rw [hst k, upd_ne _ _ hk']
    by_cases e' : k = d
    · subst e'; rw [upd_same]; exact .inr rfl
    · rw [upd_ne _ _ e']
      unfold slotsOf
      split
      · exact .inr rfl
      · exact .inl rfl
  rintro e W' (⟨rfl, hjn⟩ | ⟨rfl, hjx⟩)
  · exact fin true W' _ rfl (hJ0 W' hjn) hjn
  · exact fin false W' _ rfl (hX0 W' hjx) hjx
end Go.Sx
namespace Go.Sx
open Go Go.RowKit
theorem only_ofL {kJ : Nat} (l : List (Nat × KV)) (h : (l.all fun x => Nat.beq x.1 kJ || isSlot x.2) = true) : ∀ k, k ≠ kJ → ofL l k = .none ∨ isSlot (ofL l k) = true := by
  have : ∀ (l : List (Nat × KV)) (S : St), (l.all fun x => Nat.beq x.1 kJ || isSlot x.2) = true → (∀ k, k ≠ kJ → S k = .none ∨ isSlot (S k) = true) → ∀ k, k ≠ kJ → updAll S l k = .none ∨ isSlot (updAll S l k) = true := by
    intro l
    induction l with
    | nil => intro S _ h; exact h
    | cons x l ih =>
      obtain ⟨j, v⟩ := x
      intro S hu h
      simp only [List.all_cons, Bool.and_eq_true, Bool.or_eq_true] at hu
      refine ih _ hu.2 fun k hk => ?_
      by_cases e : k = j
      · subst e
        rw [upd_same]
        rcases hu.1 with h1 | h1
        · exact absurd (Nat.eq_of_beq_eq_true h1) hk
        · exact .inr h1
      · rw [upd_ne _ _ e]; exact h k hk
  exact this l _ h fun _ _ => .inl rfl
theorem repO_drew {kJ B : Nat} {w0 : World} {n : Nat} (S : St) (a : Act) (w : World) (h : RepO kJ B w0 n S a w) : RepO kJ B w0 n S a { w with drawn := w.drawn + 1 } :=
  ⟨h.1.world ⟨rfl, rfl, rfl, Nat.le_refl _, fun _ _ => rfl⟩, h.2⟩
theorem y_enter {P : Program} {f : FuncId} {fn : Func} {c : Code} {args : List Value} {w : World} {R : Ending → World → Prop} (n : Nat) (hf : P.funcs[f]? = some fn) (hb : fn.body = some c) (hn : fn.ntmps = n) (hl : Nat.ble args.length n = true)
    (h : ∀ a, Rep w.heap.size w n (ofL (argL 0 args)) a w → rwp none [] P c (mkQ (bodyPost P fn R .ret) [] (bodyPost P fn R .ret)) a w) : CallsIn (WF none) 0 P f args.toArray w R := by
  refine callsIn_of_wp hf hb trivial ?_ rfl
  have hl' : args.length ≤ n := by simpa using hl
  subst hn
  refine r_in (r_mono (h _ (rep_enter args _ w hl')) fun e a w q => ?_)
  cases e with
  | normal => exact q
  | ret => exact q
  | exit i => exact q.elim
  | _ => exact q.elim
end Go.Sx
set_option linter.unusedVariables false
set_option linter.unusedSimpArgs false
namespace Go.Sx
open Go Go.RowKit
abbrev markD (D : Nat) : Deferred := { target := .collected D, args := #[] }
theorem ofL_look (l : List (Nat × KV)) (k : Nat) : ofL l k = (look l k).getD .none := by unfold ofL; rw [updAll_look]
theorem Rep.mix {B : Nat} {w0 : World} {n : Nat} {S : St} {a a3 : Act} {w w3 : World} (h : Rep B w0 n S a w) (L : List (Nat × KV)) (hL : (L.all fun x => !isSlot x.2) = true) (h3 : Rep B w0 n (ofL L) a3 w3) : Rep B w0 n (updAll (slotsOf S) L) a w3 := by
  have key : ∀ k, (∃ v, look L k = some v ∧ updAll (slotsOf S) L k = v ∧ ofL L k = v) ∨ (look L k = none ∧ updAll (slotsOf S) L k = slotsOf S k) := by
    intro k
    rw [updAll_look, ofL_look]
    cases hl : look L k with
    | none => exact .inr ⟨rfl, rfl⟩
    | some v => exact .inl ⟨v, rfl, rfl, rfl⟩
  exact {
    defers := h.defers
    size := h.size
    slots := fun t c v hs => by
      rcases key t with ⟨x, h1, h2, _⟩ | ⟨_, h2⟩
      · exfalso
        have := List.all_eq_true.1 hL _ (look_mem h1)
        rw [h2] at hs
        rw [hs] at this
        cases this
      · rw [h2] at hs
        exact h.slots t c v (slotsOf_slot hs)
    below := h3.below
    base := h3.base
    holds := fun k => by
      rcases key k with ⟨x, _, h2, h4⟩ | ⟨_, h2⟩
      · rw [h2, ← h4]; exact h3.holds k
      · rw [h2]; exact slotsOf_holds
    inb := fun k i hi => by
      rcases key k with ⟨x, _, h2, h4⟩ | ⟨_, h2⟩
      · rw [h2, ← h4] at hi; exact h3.inb k i hi
      · rw [h2] at hi; exact (slotsOf_fp hi).elim
    ge := fun k i hx hi => by
      rcases key k with ⟨x, _, h2, h4⟩ | ⟨_, h2⟩
      · rw [h2, ← h4] at hi hx; exact h3.ge k i hx hi
      · rw [h2] at hi; exact (slotsOf_fp hi).elim
    disj := fun k k' i hne hx hi hi' => by
      rcases key k with ⟨x, _, h2, h4⟩ | ⟨_, h2⟩
      · rcases key k' with ⟨x', _, h2', h4'⟩ | ⟨_, h2'⟩
        · rw [h2, ← h4] at hi hx
          rw [h2', ← h4'] at hi'
          exact h3.disj k k' i hne hx hi hi'
        · rw [h2'] at hi'; exact slotsOf_fp hi'
      · rw [h2] at hi; exact slotsOf_fp hi }
def IterOK {α : Type} (P : Program) (gf : Nat) (lb : Array Value) (encs : α → Array Value) (xs0 : List α) (Fx : World → Prop) : Prop :=
  ∀ (l : Nat) (J : List α → World → Prop) (JX : World → Prop), (∀ r W W', J r W → Below W.heap.size W W' → J r W') → (∀ W W', JX W → Below W.heap.size W W' → JX W') → (∀ r W, J r W → Fx W) →
    ∀ wc : World, (∀ r W, J r W → Below 0 wc W) → (∀ W, JX W → Below 0 wc W) →
    (∀ x rest W, J (x :: rest) W → YieldAt (WF none) 0 P l (encs x) W fun e W' => (e = .returned (.bool true) ∧ J rest W') ∨ (e = .returned (.bool false) ∧ JX W')) →
    ∀ W, J xs0 W → CallsIn (WF none) 0 P gf (#[.func (.yield l) #[] #[]] ++ lb) W fun e W' => (∃ v, e = .returned v) ∧ (J [] W' ∨ JX W')
abbrev okE (kl kD : Nat) (x : Nat × KV) : Bool := !isSlot x.2 && (!Nat.beq x.1 kl && !Nat.beq x.1 kD)
end Go.Sx
set_option linter.unusedVariables false
set_option linter.unusedSimpArgs false
namespace Go.Sx
open Go Go.RowKit
def RM (P : Program) (fn : Func) (R : Ending → World → Prop) (a : Act) (w : World) : Prop := LeavesInM Fence.wide 0 P fn a.tmps R a.defers .returning w
theorem enters_fn {P : Program} {f : FuncId} {fn : Func} {c : Code} (hf : P.funcs[f]? = some fn) (hname : (fn.name == "runtime.NumGoroutine") = false) (hb : fn.body = some c) (args : Array Value) (w : World) : (callFunc f args).run P w = .ok (.enter f args) w := by
  have h1 : fn.name ≠ "runtime.NumGoroutine" := by simpa using hname
  simp [callFunc, hf, h1, hb, mark]
theorem k_enterM {P : Program} {f : FuncId} {fn : Func} {c : Code} {args : List Value} {w : World} {R : Ending → World → Prop} (n : Nat) (fs : List (Nat × KV)) (hfs : ∀ x ∈ fs, (∃ fp F, x.2 = .fact fp F) ∧ x.2.holds w ∧ ∀ i, x.2.fp i → i < w.heap.size)
    (hf : P.funcs[f]? = some fn) (hb : fn.body = some c) (hn : fn.ntmps = n) (hl : Nat.ble args.length n = true)
    (h : ∀ a, Rep w.heap.size w n (updAll (ofL (argL 0 args)) fs) a w → c.wp P (mkQ (RM P fn R) [] (RM P fn R)) a w) : Calls P f args.toArray w R := by
  have hl' : args.length ≤ n := by simpa using hl
  subst hn
  refine callsIn_wide.1 (callsIn_of_wp_marks (n := 0) hf hb trivial (wpIn_wide.2 ?_) rfl)
  refine wp_mono (h _ (Rep.facts fs _ (rep_enter args _ w hl') (fun k hx => ?_) hfs)) fun e a w q => ?_
  · unfold ofL at hx
    rw [updAll_look, look_argL] at hx
    simp only [Nat.zero_le, if_true, Nat.sub_zero] at hx
    cases hv : args[k]? <;> rw [hv] at hx <;> exact hx
  · cases e with
    | normal => exact q
    | ret => exact q
    | exit i => exact q.elim
    | _ => exact q.elim
theorem k_mark {P : Program} {B n : Nat} {w0 : World} {S : St} {a : Act} {w : World} {fn : Func} {R : Ending → World → Prop} {D : Nat} (kD : Nat) (hr : Rep B w0 n S a w) (hk : S kD = obK D (.deferred (some [])))
    (h : ∀ w', Rep B w0 n (upd S kD .none) a w' → bodyPost P fn R .ret a w') : RM P fn R (Act.wd a [markD D]) w := by
  have hD : w.heap[D]? = some (.deferred (some [])) := ob_of (by rw [← hk]; exact hr.holds kD)
  have h1 := hr.putOb kD D _ (.deferred none) hk
  have h2 : Rep B w0 n (upd S kD .none) a (w.putObj D (.deferred none)) := h1.weak fun k => by
    by_cases e : k = kD
    · subst e; left; rw [upd_same]
    · right; rw [upd_ne _ _ e, upd_ne _ _ e]
  obtain ⟨_, v, hv, hR⟩ := h _ h2
  unfold RM
  have hd : (Act.wd a [markD D]).defers = [markD D] := by simp [Act.wd, hr.defers]
  rw [hd]
  exact ⟨by simp, .inl ⟨D, _, rfl, run_takeDeferred hD, v, hv, hR⟩⟩
theorem k_after {P : Program} {c : Code} {D : Nat} {M : K} {a : Act} {w : World} (h : rwp none [markD D] P c (mkQ (fun a w => M (Act.wd a [markD D]) w) [] (fun a w => M (Act.wd a [markD D]) w)) a w) : c.wp P (mkQ M [] M) (Act.wd a [markD D]) w :=
  r_out h fun e a0 w' q => by
    cases e with
    | normal => exact q
    | ret => exact q
    | exit i => exact q.elim
    | _ => exact q.elim
section
variable {P : Program} {ro : Option Nat} {ds : List Deferred} {N : K} {xs : List (Nat × K)} {R : K} {a : Act} {w : World}
theorem r_cond_true {B n : Nat} {w0 : World} {S : St} {c : Operand} {x y : Code} (hr : Rep B w0 n S a w) (hk : knownB S c = true) (he : envS S c = .bool true) (ht : rwp ro ds P x (mkQ N xs R) a w) : rwp ro ds P (Code.cond c x y) (mkQ N xs R) a w :=
  wpIn_cond_true (by rw [wd_eval]; exact (env_eq hr hk).trans he) ht
theorem r_cond_false {B n : Nat} {w0 : World} {S : St} {c : Operand} {x y : Code} (hr : Rep B w0 n S a w) (hk : knownB S c = true) (he : envS S c = .bool false) (hf : rwp ro ds P y (mkQ N xs R) a w) : rwp ro ds P (Code.cond c x y) (mkQ N xs R) a w :=
  wpIn_cond_false (by rw [wd_eval]; exact (env_eq hr hk).trans he) hf
end
section
variable {P : Program} {ops : Array Oper} {B : Nat} {w0 : World} {n i : Nat} {o : Oper} {Spre : Nu → St}
theorem ok_callB2 (f : FuncId) (args : Nu → Array Value) (v : Nat → Nat → Value) (cs1 cs2 : List Value) (e1 e2 : TypeId) (d k1 k2 : Nat)
    (hC : ∀ ν w, Calls P f (args ν) w fun en w' => ∃ b1 b2, en = .returned (v b1 b2) ∧ Below w.heap.size w w' ∧ w.heap.size ≤ b1 ∧ w.heap.size ≤ b2 ∧ b1 ≠ b2 ∧ w'.heap[b1]? = some (.cells cs1.toArray e1 (0, 0)) ∧ w'.heap[b2]? = some (.cells cs2.toArray e2 (0, 0)))
    (hd : o.dst = some d := by rfl) (hdn : Nat.blt d n = true := by rfl) (hkn1 : Nat.ble n k1 = true := by rfl) (hkn2 : Nat.blt k1 k2 = true := by rfl) (hsel : noSel o = true := by rfl) (hg : o.guard = none := by rfl)
    (hk : ∀ ν, (o.op.operands.all (knownB (Spre ν))) = true := by intro _; kernel_rfl) (hp : ∀ ν, (condsOf o (Spre ν)).all id = true := by intro _; kernel_rfl)
    (hv : ∀ ν w, (execOp (envU (Spre ν)) o).run P w = .ok (.enter f (args ν)) w := by intro _ _; kernel_rfl) :
    OpOK P ops B w0 n i o Spre (tmpsOf ops o) (fun ν => [(d, .slot true (v ((ν i).n 0) ((ν i).n 1))), (k1, .blk ((ν i).n 0) cs1 e1), (k2, .blk ((ν i).n 1) cs2 e2)]) := by
  have hdn' : d < n := by simpa using hdn
  have hkn2' : k1 < k2 := by simpa using hkn2
  refine opok_of (c := fun _ => true) (fun _ h => h) (noSel_spec hsel) (fun ν => by unfold wantS; rw [hg]) hk ?_ ?_
  · intro ν S a w hcf; cases hcf
  · intro Q p S a w hpi hct hag hrep hev0
    have hev : ∀ ν, Ext p ν → execOp a.eval o = execOp (envU (Spre ν)) o := fun ν hν => (hev0 ν hν).trans (env_strip (noSel_spec hsel) (by simpa using hp ν))
    unfold Oper.wp
    obtain ⟨ν0, h0⟩ := Ext.exists p
    rw [hev ν0 h0, hv ν0 w]
    simp only [Oper.upon]
    refine (hC ν0 w).mono ?_
    rintro en w' ⟨b1, b2, rfl, hb, hb1, hb2, hne, h1, h2⟩
    refine ⟨Gh.of (fun j => if j = 0 then b1 else b2) fun _ => none, fun ν hν => ?_⟩
    have hν' := hν.of_set hpi
    have ea : (ν i).n 0 = b1 := by rw [hν.at_set]; rfl
    have eb : (ν i).n 1 = b2 := by rw [hν.at_set]; rfl
    rw [ea, eb, hd]
    have hr := hrep ν hν'
    have r3 := (hr.world hb).put hdn' true (v b1 b2)
    have hold : ∀ k' j, (upd (S ν) d (.slot true (v b1 b2)) k').fp j → j < w.heap.size := fun k' j hj => by
      by_cases ed : k' = d
      · subst ed; rw [upd_same] at hj; exact hj.elim
      · rw [upd_ne _ _ ed] at hj
        exact hr.inb k' j hj
    have r4 := r3.ent k1 (.blk b1 cs1 e1) (by intro c x h; cases h) h1 (fun j hj => by have e : j = b1 := hj; subst e; exact (Array.getElem?_eq_some_iff.1 h1).1) (fun _ j hj => by have e : j = b1 := hj; subst e; exact Nat.le_trans hr.base hb1)
      (fun k' j _ _ hj hj' => by
        have e : j = b1 := hj
        have h3 := hold k' j hj'
        omega)
    refine r4.ent k2 (.blk b2 cs2 e2) (by intro c x h; cases h) h2 (fun j hj => by have e : j = b2 := hj; subst e; exact (Array.getElem?_eq_some_iff.1 h2).1) (fun _ j hj => by have e : j = b2 := hj; subst e; exact Nat.le_trans hr.base hb2) ?_
    intro k' j hne' _ hj hj'
    have e : j = b2 := hj
    by_cases ek : k' = k1
    · subst ek
      rw [upd_same] at hj'
      have e' : j = b1 := hj'
      omega
    · rw [upd_ne _ _ ek] at hj'
      have := hold k' j hj'
      omega
end
end Go.Sx
set_option linter.unusedVariables false
set_option linter.unusedSimpArgs false
namespace Go.Sx
open Go Go.RowKit
theorem k_rnd {P : Program} {N R : K} {xs : List (Nat × K)} {a : Act} {w : World} {c : Code} (h : c.wp P (mkQ (fun a w => loopwp P c (mkQ N xs R) a w) xs R) a w) : loopwp P c (mkQ N xs R) a w :=
  loop_step (wp_mono h fun e a w q => by cases e <;> exact q)
theorem Rep.unnest1 {T : Type} {B n : Nat} {w0 : World} {S : St} {a : Act} {w : World} {e e2 sz m cap c : Nat} {en : T → List Value} {p q : Option Addr} {l : List T} (h : Rep B w0 n S a w) (k k2 : Nat) (hk : S k = nsK e e2 sz en p m cap [⟨q, c, l⟩] [⟨q, c, l⟩]) (hne : Nat.beq k k2 = false) :
    Rep B w0 n (upd (upd S k (owK e 1 p m cap (([⟨q, c, l⟩] : List (Sl T)).flatMap enSl))) k2 (owK e2 sz q l.length c (l.flatMap en))) a w := by
  have hne' : k ≠ k2 := fun e => by rw [e, show Nat.beq k2 k2 = true from Nat.beq_refl k2] at hne; cases hne
  have hN : NestAt w e e2 sz en p m cap [⟨q, c, l⟩] [⟨q, c, l⟩] := ns_of (by rw [← hk]; exact h.holds k)
  have hx : (S k).excl := by rw [hk]; trivial
  have fo : ∀ i, fpOwn p i → (S k).fp i := fun i hi => by rw [hk]; exact .inl hi
  have fi : ∀ i, fpOwn q i → (S k).fp i := fun i hi => by rw [hk]; exact .inr ⟨0, _, rfl, hi⟩
  have h0 : Rep B w0 n (upd S k .none) a w := h.weak fun j => by
    by_cases e : j = k
    · subst e; rw [upd_same]; exact .inl rfl
    · rw [upd_ne _ _ e]; exact .inr rfl
  have h1 : Rep B w0 n (upd (upd S k .none) k (owK e 1 p m cap (([⟨q, c, l⟩] : List (Sl T)).flatMap enSl))) a w := by
    refine h0.ent k _ (by intro c x h; cases h) (fun w' ha => owns_agree hN.hd ha) (fun i hi => h.inb k i (fo i hi)) (fun _ i hi => h.ge k i hx (fo i hi)) fun k' i hn _ hi hi' => ?_
    rw [upd_ne _ _ hn] at hi'
    exact h.disj k k' i (Ne.symm hn) hx (fo i hi) hi'
  have h2 : Rep B w0 n (upd (upd (upd S k .none) k (owK e 1 p m cap (([⟨q, c, l⟩] : List (Sl T)).flatMap enSl))) k2 (owK e2 sz q l.length c (l.flatMap en))) a w := by
    refine h1.ent k2 _ (by intro c x h; cases h) (fun w' ha => owns_agree (hN.inn 0 _ rfl) ha) (fun i hi => h.inb k i (fi i hi)) (fun _ i hi => h.ge k i hx (fi i hi)) fun k' i hn _ hi hi' => ?_
    by_cases e : k' = k
    · subst e
      rw [upd_same] at hi'
      exact hN.off 0 _ rfl i hi hi'
    · rw [upd_ne _ _ e, upd_ne _ _ e] at hi'
      exact h.disj k k' i (Ne.symm e) hx (fi i hi) hi'
  refine h2.congr fun j => ?_
  by_cases e : j = k2
  · subst e; rw [upd_same, upd_same]
  · rw [upd_ne _ _ e, upd_ne _ _ e]
    by_cases e' : j = k
    · subst e'; rw [upd_same, upd_same]
    · rw [upd_ne _ _ e', upd_ne _ _ e', upd_ne _ _ e']
def hd1 {T : Type} (L : List (Sl T)) : Sl T := L.headD ⟨none, 0, []⟩
theorem one_hd {T : Type} {row : List T} {L : List (Sl T)} {t : List (List T)} (h : t = L.map Sl.l) (ht : t = [row]) : L = [⟨(hd1 L).p, (hd1 L).cap, row⟩] := by
  subst ht
  cases L with
  | nil => cases h
  | cons x L =>
    simp only [List.map_cons, List.cons.injEq] at h
    obtain ⟨h1, h2⟩ := h
    cases L with
    | nil => subst h1; rfl
    | cons y L => cases h2
theorem Rep.unnestD {T : Type} {B n : Nat} {w0 : World} {S : St} {a : Act} {w : World} {e e2 sz m cap : Nat} {en : T → List Value} {p : Option Addr} {L : List (Sl T)} {row : List T} {t : List (List T)} (h : Rep B w0 n S a w) (k k2 : Nat) (hk : S k = nsK e e2 sz en p m cap L L) (hne : Nat.beq k k2 = false) (hL : t = L.map Sl.l) (ht : t = [row]) :
    Rep B w0 n (upd (upd S k (owK e 1 p m cap (([⟨(hd1 L).p, (hd1 L).cap, row⟩] : List (Sl T)).flatMap enSl))) k2 (owK e2 sz (hd1 L).p row.length (hd1 L).cap (row.flatMap en))) a w := by
  have e1 := one_hd hL ht
  refine h.unnest1 k k2 ?_ hne
  rw [hk]
  exact congrArg (fun X => nsK e e2 sz en p m cap X X) e1
theorem one_get {α : Type} {l : List α} {x : α} (h : l.length = 1) (hx : l[0]? = some x) : l = [x] := by
  cases l with
  | nil => cases h
  | cons y t => cases t with
    | nil => cases hx; rfl
    | cons z t => simp at h
section
variable {P : Program} {ops : Array Oper} {B : Nat} {w0 : World} {n i : Nat} {o : Oper} {Spre : Nu → St}
theorem ok_callB1 (f : FuncId) (args : Nu → Array Value) (v : Nat → Value) (cs1 : List Value) (e1 : TypeId) (d k1 : Nat)
    (hC : ∀ ν w, Calls P f (args ν) w fun en w' => ∃ b1, en = .returned (v b1) ∧ Below w.heap.size w w' ∧ w.heap.size ≤ b1 ∧ w'.heap[b1]? = some (.cells cs1.toArray e1 (0, 0)))
    (hd : o.dst = some d := by rfl) (hdn : Nat.blt d n = true := by rfl) (hkn1 : Nat.ble n k1 = true := by rfl) (hsel : noSel o = true := by rfl) (hg : o.guard = none := by rfl)
    (hk : ∀ ν, (o.op.operands.all (knownB (Spre ν))) = true := by intro _; kernel_rfl) (hp : ∀ ν, (condsOf o (Spre ν)).all id = true := by intro _; kernel_rfl)
    (hv : ∀ ν w, (execOp (envU (Spre ν)) o).run P w = .ok (.enter f (args ν)) w := by intro _ _; kernel_rfl) :
    OpOK P ops B w0 n i o Spre (tmpsOf ops o) (fun ν => [(d, .slot true (v ((ν i).n 0))), (k1, .blk ((ν i).n 0) cs1 e1)]) := by
  have hdn' : d < n := by simpa using hdn
  refine opok_of (c := fun _ => true) (fun _ h => h) (noSel_spec hsel) (fun ν => by unfold wantS; rw [hg]) hk ?_ ?_
  · intro ν S a w hcf; cases hcf
  · intro Q p S a w hpi hct hag hrep hev0
    have hev : ∀ ν, Ext p ν → execOp a.eval o = execOp (envU (Spre ν)) o := fun ν hν => (hev0 ν hν).trans (env_strip (noSel_spec hsel) (by simpa using hp ν))
    unfold Oper.wp
    obtain ⟨ν0, h0⟩ := Ext.exists p
    rw [hev ν0 h0, hv ν0 w]
    simp only [Oper.upon]
    refine (hC ν0 w).mono ?_
    rintro en w' ⟨b1, rfl, hb, hb1, h1⟩
    refine ⟨Gh.of (fun j => b1) fun _ => none, fun ν hν => ?_⟩
    have hν' := hν.of_set hpi
    have ea : (ν i).n 0 = b1 := by rw [hν.at_set]
    rw [ea, hd]
    have hr := hrep ν hν'
    have r3 := (hr.world hb).put hdn' true (v b1)
    have hold : ∀ k' j, (upd (S ν) d (.slot true (v b1)) k').fp j → j < w.heap.size := fun k' j hj => by
      by_cases ed : k' = d
      · subst ed; rw [upd_same] at hj; exact hj.elim
      · rw [upd_ne _ _ ed] at hj
        exact hr.inb k' j hj
    exact r3.ent k1 (.blk b1 cs1 e1) (by intro c x h; cases h) h1 (fun j hj => by have e : j = b1 := hj; subst e; exact (Array.getElem?_eq_some_iff.1 h1).1) (fun _ j hj => by have e : j = b1 := hj; subst e; exact Nat.le_trans hr.base hb1)
      (fun k' j _ _ hj hj' => by
        have e : j = b1 := hj
        have h3 := hold k' j hj'
        omega)
theorem ok_callB3 (f : FuncId) (args : Nu → Array Value) (v : Nat → Nat → Nat → Value) (cs1 cs2 cs3 : List Value) (e1 e2 e3 : TypeId) (d k1 k2 k3 : Nat)
    (hC : ∀ ν w, Calls P f (args ν) w fun en w' => ∃ b1 b2 b3, en = .returned (v b1 b2 b3) ∧ Below w.heap.size w w' ∧ w.heap.size ≤ b1 ∧ w.heap.size ≤ b2 ∧ w.heap.size ≤ b3 ∧ b1 ≠ b2 ∧ b1 ≠ b3 ∧ b2 ≠ b3 ∧ w'.heap[b1]? = some (.cells cs1.toArray e1 (0, 0)) ∧ w'.heap[b2]? = some (.cells cs2.toArray e2 (0, 0)) ∧ w'.heap[b3]? = some (.cells cs3.toArray e3 (0, 0)))
    (hd : o.dst = some d := by rfl) (hdn : Nat.blt d n = true := by rfl) (hkn1 : Nat.ble n k1 = true := by rfl) (hkn2 : Nat.blt k1 k2 = true := by rfl) (hkn3 : Nat.blt k2 k3 = true := by rfl) (hsel : noSel o = true := by rfl) (hg : o.guard = none := by rfl)
    (hk : ∀ ν, (o.op.operands.all (knownB (Spre ν))) = true := by intro _; kernel_rfl) (hp : ∀ ν, (condsOf o (Spre ν)).all id = true := by intro _; kernel_rfl)
    (hv : ∀ ν w, (execOp (envU (Spre ν)) o).run P w = .ok (.enter f (args ν)) w := by intro _ _; kernel_rfl) :
    OpOK P ops B w0 n i o Spre (tmpsOf ops o) (fun ν => [(d, .slot true (v ((ν i).n 0) ((ν i).n 1) ((ν i).n 2))), (k1, .blk ((ν i).n 0) cs1 e1), (k2, .blk ((ν i).n 1) cs2 e2), (k3, .blk ((ν i).n 2) cs3 e3)]) := by
  have hdn' : d < n := by simpa using hdn
  have hkn2' : k1 < k2 := by simpa using hkn2
  have hkn3' : k2 < k3 := by simpa using hkn3
  refine opok_of (c := fun _ => true) (fun _ h => h) (noSel_spec hsel) (fun ν => by unfold wantS; rw [hg]) hk ?_ ?_
  · intro ν S a w hcf; cases hcf
  · intro Q p S a w hpi hct hag hrep hev0
    have hev : ∀ ν, Ext p ν → execOp a.eval o = execOp (envU (Spre ν)) o := fun ν hν => (hev0 ν hν).trans (env_strip (noSel_spec hsel) (by simpa using hp ν))
    unfold Oper.wp
    obtain ⟨ν0, h0⟩ := Ext.exists p
    rw [hev ν0 h0, hv ν0 w]
    simp only [Oper.upon]
    refine (hC ν0 w).mono ?_
    rintro en w' ⟨b1, b2, b3, rfl, hb, hb1, hb2, hb3, n12, n13, n23, h1, h2, h3⟩
    refine ⟨Gh.of (fun j => if j = 0 then b1 else if j = 1 then b2 else b3) fun _ => none, fun ν hν => ?_⟩
    have hν' := hν.of_set hpi
    have ea : (ν i).n 0 = b1 := by rw [hν.at_set]; rfl
    have eb : (ν i).n 1 = b2 := by rw [hν.at_set]; rfl
    have ec : (ν i).n 2 = b3 := by rw [hν.at_set]; rfl
    rw [ea, eb, ec, hd]
    have hr := hrep ν hν'
    have r3 := (hr.world hb).put hdn' true (v b1 b2 b3)
    have hold : ∀ k' j, (upd (S ν) d (.slot true (v b1 b2 b3)) k').fp j → j < w.heap.size := fun k' j hj => by
      by_cases ed : k' = d
      · subst ed; rw [upd_same] at hj; exact hj.elim
      · rw [upd_ne _ _ ed] at hj
        exact hr.inb k' j hj
    have r4 := r3.ent k1 (.blk b1 cs1 e1) (by intro c x h; cases h) h1 (fun j hj => by have e : j = b1 := hj; subst e; exact (Array.getElem?_eq_some_iff.1 h1).1) (fun _ j hj => by have e : j = b1 := hj; subst e; exact Nat.le_trans hr.base hb1)
      (fun k' j _ _ hj hj' => by
        have e : j = b1 := hj
        have h3 := hold k' j hj'
        omega)
    have r5 := r4.ent k2 (.blk b2 cs2 e2) (by intro c x h; cases h) h2 (fun j hj => by have e : j = b2 := hj; subst e; exact (Array.getElem?_eq_some_iff.1 h2).1) (fun _ j hj => by have e : j = b2 := hj; subst e; exact Nat.le_trans hr.base hb2)
      (fun k' j hne' _ hj hj' => by
        have e : j = b2 := hj
        by_cases ek : k' = k1
        · subst ek
          rw [upd_same] at hj'
          have e' : j = b1 := hj'
          omega
        · rw [upd_ne _ _ ek] at hj'
          have := hold k' j hj'
          omega)
    refine r5.ent k3 (.blk b3 cs3 e3) (by intro c x h; cases h) h3 (fun j hj => by have e : j = b3 := hj; subst e; exact (Array.getElem?_eq_some_iff.1 h3).1) (fun _ j hj => by have e : j = b3 := hj; subst e; exact Nat.le_trans hr.base hb3) ?_
    intro k' j hne' _ hj hj'
    have e : j = b3 := hj
    by_cases ek : k' = k2
    · subst ek
      rw [upd_same] at hj'
      have e' : j = b2 := hj'
      omega
    · rw [upd_ne _ _ ek] at hj'
      by_cases ek : k' = k1
      · subst ek
        rw [upd_same] at hj'
        have e' : j = b1 := hj'
        omega
      · rw [upd_ne _ _ ek] at hj'
        have := hold k' j hj'
        omega
end
end Go.Sx
set_option linter.unusedVariables false
set_option linter.unusedSimpArgs false
namespace Go.Sx
open Go Go.RowKit
def FactsAt (base : Nat) (fs : List (Nat × KV)) (W : World) : Prop := ∀ x ∈ fs, (∃ fp F, x.2 = .fact fp F) ∧ x.2.holds W ∧ ∀ i, x.2.fp i → base ≤ i ∧ i < W.heap.size
def IterO {γ : Type} (P : Program) (gf : Nat) (lb : Array Value) (enc : γ → Array Value) (fs : γ → List (Nat × KV)) (Fx : World → Prop) (tr : Bool) (lo : Nat) : Prop :=
  ∀ (l : Nat) (J JT JX : World → Prop), (∀ W W', J W → Below W.heap.size W W' → J W') → (∀ W W', JT W → Below W.heap.size W W' → JT W') → (∀ W W', JX W → Below W.heap.size W W' → JX W') → (∀ W, J W → Fx W) → (∀ W, JT W → Fx W) → (tr = false → ∀ W, ¬ JT W) →
    ∀ wc : World, (∀ W, J W → Below 0 wc W) → (∀ W, JT W → Below 0 wc W) → (∀ W, JX W → Below 0 wc W) → ∀ base : Nat, lo ≤ base →
    (∀ g W, J W → FactsAt base (fs g) W → YieldAt (WF none) 0 P l (enc g) W fun e W' => (e = .returned (.bool true) ∧ JT W') ∨ (e = .returned (.bool false) ∧ JX W')) →
    ∀ W, J W → base ≤ W.heap.size → CallsIn (WF none) 0 P gf (#[.func (.yield l) #[] #[]] ++ lb) W fun e W' => (∃ v, e = .returned v) ∧ (JT W' ∨ JX W')
theorem Rep.factsAt {B n : Nat} {w0 : World} {a : Act} {w : World} {base : Nat} : ∀ (fs : List (Nat × KV)) (S : St), Rep B w0 n S a w → (∀ k i, (S k).excl → (S k).fp i → i < base) → FactsAt base fs w → Rep B w0 n (updAll S fs) a w
  | [], S, h, _, _ => h
  | (k, v) :: fs, S, h, hx, hf => by
    obtain ⟨⟨fp, F, hv⟩, hh, hlt⟩ := hf (k, v) (by simp)
    have hv' : v = .fact fp F := hv
    have hne : ¬ v.excl := by rw [hv']; exact fun h => h
    have h1 : Rep B w0 n (upd S k v) a w := h.ent k v (by intro c x h; rw [hv'] at h; cases h) hh (fun i hi => (hlt i hi).2) (fun h => (hne h).elim) (fun k' i _ ho hi hi' => by
      rcases ho with ho | ho
      · exact hne ho
      · have := hx k' i ho hi'
        have := (hlt i hi).1
        omega)
    refine Rep.factsAt fs (upd S k v) h1 (fun k' i he hi => ?_) (fun x hx' => hf x (by simp [hx']))
    by_cases e : k' = k
    · subst e; rw [upd_same] at he; exact (hne he).elim
    · rw [upd_ne _ _ e] at he hi; exact hx k' i he hi
def PutsOK {γ : Type} (n : Nat) (ps : Array Tmp) (enc : γ → Array Value) (sl : γ → List (Nat × KV)) : Prop :=
  (∀ g, (enc g).size = ps.size) ∧ ∀ (B : Nat) (w0 : World) (S : St) (a : Act) (w : World) (g : γ), Rep B w0 n S a w → Rep B w0 n (updAll S (sl g)) { tmps := (ps.zip (enc g)).foldl (fun tmps (x : Tmp × Value) => tmps.setIfInBounds x.1 x.2) a.tmps, defers := [] } w
theorem puts1 {γ : Type} {n : Nat} (p1 : Tmp) (e1 : γ → Value) (h1 : Nat.blt p1 n = true) : PutsOK n #[p1] (fun g => #[e1 g]) (fun g => [(p1, .slot true (e1 g))]) :=
  ⟨fun _ => rfl, fun B w0 S a w g h => by
    have h1' : p1 < n := by simpa using h1
    have := h.put h1' true (e1 g)
    have e : ({ tmps := (#[p1].zip #[e1 g]).foldl (fun tmps (x : Tmp × Value) => tmps.setIfInBounds x.1 x.2) a.tmps, defers := [] } : Act) = a.put (some p1) (e1 g) := by simp [Act.put, h.defers]
    rw [e]; exact this⟩
theorem puts2 {γ : Type} {n : Nat} (p1 p2 : Tmp) (e1 e2 : γ → Value) (h1 : Nat.blt p1 n = true) (h2 : Nat.blt p2 n = true) : PutsOK n #[p1, p2] (fun g => #[e1 g, e2 g]) (fun g => [(p1, .slot true (e1 g)), (p2, .slot true (e2 g))]) :=
  ⟨fun _ => rfl, fun B w0 S a w g h => by
    have h1' : p1 < n := by simpa using h1
    have h2' : p2 < n := by simpa using h2
    have := (h.put h1' true (e1 g)).put h2' true (e2 g)
    have e : ({ tmps := (#[p1, p2].zip #[e1 g, e2 g]).foldl (fun tmps (x : Tmp × Value) => tmps.setIfInBounds x.1 x.2) a.tmps, defers := [] } : Act) = (a.put (some p1) (e1 g)).put (some p2) (e2 g) := by simp [Act.put, h.defers]
    rw [e]; exact this⟩
theorem k_rangeO {γ : Type} {P : Program} {B n : Nat} {w0 : World} {S : St} {a : Act} {w : World} {N : K} {xs : List (Nat × K)} {R : K} {g : Operand} {ps : Array Tmp} {assign body : Code} {gf : Nat} {lb : Array Value}
    (enc : γ → Array Value) (fs : γ → List (Nat × KV)) (sl : γ → List (Nat × KV)) (Fx : World → Prop) (tr : Bool) (kl kD : Nat) (ie : Nat) (KX : K) (InvT InvX InvE : List (Nat × KV) → Prop)
    (hr : Rep B w0 n S a w) (hk : knownB S g = true) (hg : envS S g = .func (.func gf) #[] lb) (eg : ∀ args w, (callFunc gf args).run P w = .ok (.enter gf args) w)
    (hit : IterO P gf lb enc fs Fx tr B) (hps : PutsOK n ps enc sl) (hsl : ∀ g, (sl g).all (fun x => isSlot x.2 && Nat.blt x.1 n) = true) (hfs : ∀ g, (fs g).all (fun x => !Nat.beq x.1 kl && !Nat.beq x.1 kD && Nat.ble n x.1) = true)
    (hkl : S kl = .none) (hkD : S kD = .none) (hne : Nat.beq kD kl = false) (hnl : Nat.ble n kl = true) (hnD : Nat.ble n kD = true)
    (hF : ∀ W, Rep B w0 n S a W → Fx W) (hFT : ∀ L W, InvT L → Rep B w0 n (updAll (slotsOf S) L) a W → Fx W) (htr : tr = false → ∀ L, ¬ InvT L) (hx : lookX xs ie = some KX)
    (hround : ∀ (l D : Nat) (oR oD : Obj) (z : γ) (a1 : Act) (w1 : World),
      Rep B w0 n (updAll (updAll S [(kl, obK l oR), (kD, obK D oD)]) (fs z ++ sl z)) a1 w1 →
      rwp (some l) [] P assign (mkQ (fun a2 w2 => ∃ S2, Rep B w0 n S2 a2 w2 ∧ S2 kl = obK l oR ∧ ∀ oB w3, Rep B w0 n (upd S2 kl (obK l oB)) a2 w3 →
        rwp (some l) [] P body (mkQ (fun a3 w4 => ∃ L', InvT L' ∧ L'.all (okE kl kD) = true ∧ Rep B w0 n (ofL (L' ++ [(kl, obK l oB), (kD, obK D oD)])) a3 w4)
          [(ie, fun a3 w4 => ∃ L', InvE L' ∧ L'.all (okE kl kD) = true ∧ Rep B w0 n (ofL (L' ++ [(kl, obK l oB), (kD, obK D oD)])) a3 w4)]
          (fun a3 w4 => ∃ L', InvX L' ∧ L'.all (okE kl kD) = true ∧ Rep B w0 n (ofL (L' ++ [(kl, obK l oB), (kD, obK D oD)])) a3 w4)) a2 w3) [] (fun _ _ => False)) a1 w1)
    (hdone : ∀ (D : Nat) (L : List (Nat × KV)) (W : World), InvT L → Rep B w0 n (updAll (updAll (slotsOf S) L) [(kD, obK D (.deferred (some [])))]) a W → N (Act.wd a [markD D]) W)
    (hstop : ∀ (D : Nat) (L : List (Nat × KV)) (W : World), InvX L → Rep B w0 n (updAll (updAll (slotsOf S) L) [(kD, obK D (.deferred (some [])))]) a W → R (Act.wd a [markD D]) W)
    (hexit : ∀ (D : Nat) (L : List (Nat × KV)) (W : World), InvE L → Rep B w0 n (updAll (updAll (slotsOf S) L) [(kD, obK D (.deferred (some [])))]) a W → KX (Act.wd a [markD D]) W) :
    (Code.rangeFunc g ps assign body).wp P (mkQ N xs R) a w := by
  have hne' : kD ≠ kl := fun e => by subst e; rw [show Nat.beq kD kD = true from Nat.beq_refl kD] at hne; cases hne
  have hge : a.eval g = .func (.func gf) #[] lb := (env_eq hr hk).trans hg
  refine (wpIn_wide (n := 0)).1 (wpIn_rangeFunc fun fn hfn => ?_)
  obtain ⟨rec, hrec⟩ : ∃ rec : LoopState → Option Code → Loop, rec = fun st pe => { state := st, pending := pe, fn, tmps := a.tmps, params := ps, assign, body, defers := w.heap.size } := ⟨_, rfl⟩
  obtain ⟨D, hD⟩ : ∃ D, D = w.heap.size := ⟨_, rfl⟩
  obtain ⟨l, hl⟩ : ∃ l, l = w.heap.size + 1 := ⟨_, rfl⟩
  -- ahead of the round
  let s0 : Loop → St := fun r => updAll S [(kl, obK l (.loop r)), (kD, obK D (.deferred (some [])))]
  -- behind it
  let st : List (Nat × KV) → Loop → St := fun L r => updAll (updAll (slotsOf S) L) [(kl, obK l (.loop r)), (kD, obK D (.deferred (some [])))]
  let J : World → Prop := fun W => Rep B w0 n (s0 (rec .ready none)) a W
  let JT : World → Prop := fun W => ∃ L, InvT L ∧ L.all (okE kl kD) = true ∧ Rep B w0 n (st L (rec .ready none)) a W
  let JX : World → Prop := fun W => (∃ L, InvX L ∧ L.all (okE kl kD) = true ∧ Rep B w0 n (st L (rec .done (some .ret))) a W) ∨ (∃ L, InvE L ∧ L.all (okE kl kD) = true ∧ Rep B w0 n (st L (rec .done (some (.exit ie)))) a W)
  have hst_kl : ∀ L r, st L r kl = obK l (.loop r) := fun L r => by
    show upd (upd _ kl _) kD _ kl = _
    rw [upd_ne _ _ (Ne.symm hne'), upd_same]
  have hs0_kl : ∀ r, s0 r kl = obK l (.loop r) := fun r => by
    show upd (upd _ kl _) kD _ kl = _
    rw [upd_ne _ _ (Ne.symm hne'), upd_same]
  have hLk : ∀ L, L.all (okE kl kD) = true → ∀ k, (k = kl ∨ k = kD) → updAll (slotsOf S) L k = .none := fun L hL k hk' => by
    have hnone : S k = .none := by
      rcases hk' with rfl | rfl
      · exact hkl
      · exact hkD
    rw [updAll_look]
    cases hlk : look L k with
    | some v =>
      exfalso
      have h1 := List.all_eq_true.1 hL _ (look_mem hlk)
      simp only [okE, Bool.and_eq_true, Bool.not_eq_true'] at h1
      rcases hk' with rfl | rfl
      · have := h1.2.1; rw [show Nat.beq k k = true from Nat.beq_refl k] at this; cases this
      · have := h1.2.2; rw [show Nat.beq k k = true from Nat.beq_refl k] at this; cases this
    | none =>
      show slotsOf S k = .none
      unfold slotsOf; rw [hnone]
  have hturn : ∀ L r r' W, Rep B w0 n (st L r) a W → Rep B w0 n (st L r') a (W.putObj l (.loop r')) := fun L r r' W h => by
    refine (h.putOb kl l (.loop r) (.loop r') (hst_kl L r)).congr fun k => ?_
    show upd (upd _ kl _) kD _ k = upd (upd (upd _ kl _) kD _) kl _ k
    by_cases e : k = kl
    · subst e; rw [upd_ne _ _ (Ne.symm hne'), upd_same, upd_same]
    · rw [upd_ne _ _ e]
      by_cases e' : k = kD
      · subst e'; rw [upd_same, upd_same]
      · rw [upd_ne _ _ e', upd_ne _ _ e', upd_ne _ _ e, upd_ne _ _ e]
  have hW1 : Rep B w0 n (s0 (rec .ready none)) a ((w.alloc (.deferred (some []))).alloc (.loop (rec .ready none))) := by
    have h1 := hr.newOb kD (.deferred (some []))
    have h2 := h1.newOb kl (.loop (rec .ready none))
    rw [World.size_alloc] at h2
    have h2' : Rep B w0 n (upd (upd S kD (obK D (.deferred (some [])))) kl (obK l (.loop (rec .ready none)))) a ((w.alloc (.deferred (some []))).alloc (.loop (rec .ready none))) := by rw [hD, hl]; exact h2
    refine h2'.congr fun k => ?_
    show upd (upd _ kl _) kD _ k = upd (upd _ kD _) kl _ k
    by_cases e : k = kD
    · subst e; rw [upd_same, upd_ne _ _ hne', upd_same]
    · rw [upd_ne _ _ e]
      by_cases e' : k = kl
      · subst e'; rw [upd_same, upd_same]
      · rw [upd_ne _ _ e', upd_ne _ _ e', upd_ne _ _ e]
  obtain ⟨W1, hWe⟩ : ∃ W1, (w.alloc (.deferred (some []))).alloc (.loop (rec .ready none)) = W1 := ⟨_, rfl⟩
  have hsz : W1.heap.size = w.heap.size + 2 := by rw [← hWe]; simp
  refine ⟨l, [markD D], W1, { target := .fn (.func gf) lb, args := #[.func (.yield l) #[] #[]] }, W1, gf, #[.func (.yield l) #[] #[]] ++ lb, W1, ?_, ?_, ?_, ?_, fun e => (by cases e), ?_⟩
  · rw [← hWe, hrec, hl, hD]; exact run_enterLoop_outer _ _ _ _ _
  · simp only [resolve, hge]
    simp [go_sem]
  · intro f' hf'; trivial
  · simp [invoke, go_sem, eg]
  rw [hWe] at hW1
  have hfx : ∀ r W, Rep B w0 n (s0 r) a W → Rep B w0 n S a W := fun r W h => h.weak fun k => by
    by_cases e : k = kl
    · subst e; exact .inl hkl
    · by_cases e' : k = kD
      · subst e'; exact .inl hkD
      · right
        show S k = upd (upd _ kl _) kD _ k
        rw [upd_ne _ _ e', upd_ne _ _ e]
  refine (hit l J JT JX ?_ ?_ ?_ ?_ ?_ ?_ w0 ?_ ?_ ?_ W1.heap.size (by have := hr.base; omega) ?_ W1 hW1 (Nat.le_refl _)).mono ?_
  · intro W W' h hb; exact h.world hb
  · rintro W W' ⟨L, h1, h2, h3⟩ hb; exact ⟨L, h1, h2, h3.world hb⟩
  · rintro W W' (⟨L, h1, h2, h3⟩ | ⟨L, h1, h2, h3⟩) hb
    · exact .inl ⟨L, h1, h2, h3.world hb⟩
    · exact .inr ⟨L, h1, h2, h3.world hb⟩
  · intro W h; exact hF W (hfx _ W h)
  · rintro W ⟨L, h1, h2, h3⟩
    refine hFT L W h1 (h3.weak fun k => ?_)
    by_cases e : k = kl
    · subst e; left; exact hLk L h2 k (.inl rfl)
    · by_cases e' : k = kD
      · subst e'; left; exact hLk L h2 k (.inr rfl)
      · right
        show _ = upd (upd _ kl _) kD _ k
        rw [upd_ne _ _ e', upd_ne _ _ e]
  · rintro ht W ⟨L, h1, _⟩; exact htr ht L h1
  · intro W h; exact h.below.mono (Nat.zero_le _)
  · rintro W ⟨L, h1, h2, h3⟩; exact h3.below.mono (Nat.zero_le _)
  · rintro W (⟨L, h1, h2, h3⟩ | ⟨L, h1, h2, h3⟩) <;> exact h3.below.mono (Nat.zero_le _)
  · -- the round
    intro z W hRep hfa
    have hlr : W.heap[l]? = some (.loop (rec .ready none)) := ob_of (by rw [← hs0_kl]; exact hRep.holds kl)
    have hy := run_yield (P := P) (args := enc z) hlr (by rw [hrec]; exact hps.1 z)
    rw [hrec] at hy
    refine ⟨fn, _, assign, body, hy, roundIn_of_wpIn (F := WF none) (n := 0) hfn ?_⟩
    have hex : ∀ k i, (s0 (rec .ready none) k).excl → (s0 (rec .ready none) k).fp i → i < W1.heap.size := fun k i _ hi => hW1.inb k i hi
    have h1 := Rep.factsAt (fs z) _ hRep hex hfa
    have h2 := hps.2 B w0 _ a W z h1
    have happ : ∀ (A C : List (Nat × KV)) (T : St), updAll T (A ++ C) = updAll (updAll T A) C := by
      intro A
      induction A with
      | nil => intro C T; rfl
      | cons x A ih => intro C T; obtain ⟨j, v⟩ := x; exact ih C _
    have hgo := hround l D (.loop (rec .ready none)) (.deferred (some [])) z _ W (by rw [happ]; exact h2)
    refine wpIn_mono (r_in hgo) ?_
    intro e a2 w2 hq
    cases e with
    | normal =>
      obtain ⟨S2, hR2, hS2, hbody⟩ := hq
      have hl2 : w2.heap[l]? = some (.loop (rec .ready none)) := ob_of (by rw [← hS2]; exact hR2.holds kl)
      refine ⟨_, run_beginRound hl2 (by rw [hrec]), ?_⟩
      refine wpIn_mono (r_in (hbody _ _ (hR2.putOb kl l _ _ hS2))) ?_
      have fin : ∀ (jump : Option Code) (a3 : Act) (W3 : World) (L' : List (Nat × KV)), L'.all (okE kl kD) = true → Rep B w0 n (ofL (L' ++ [(kl, obK l (.loop { rec .ready none with state := .busy })), (kD, obK D (.deferred (some [])))])) a3 W3 →
          (Instr.endRound l jump).run P W3 = .ok (.bool jump.isNone) (W3.putObj l (.loop (rec (if jump.isNone then .ready else .done) jump))) ∧ Rep B w0 n (st L' (rec (if jump.isNone then .ready else .done) jump)) a (W3.putObj l (.loop (rec (if jump.isNone then .ready else .done) jump))) := by
        intro jump a3 W3 L' hns hR3
        have hmix := hr.mix _ (by rw [List.all_append, Bool.and_eq_true]; exact ⟨List.all_eq_true.2 fun x hx => by have := List.all_eq_true.1 hns x hx; simp only [okE, Bool.and_eq_true] at this; exact this.1, rfl⟩) hR3
        have hst' : ∀ k, st L' { rec .ready none with state := .busy } k = updAll (slotsOf S) (L' ++ [(kl, obK l (.loop { rec .ready none with state := .busy })), (kD, obK D (.deferred (some [])))]) k := by
          intro k; rw [happ]
        have h5 := hmix.congr hst'
        have hl3 : W3.heap[l]? = some (.loop { rec .ready none with state := .busy }) := ob_of (by rw [← hst_kl L']; exact h5.holds kl)
        have he := run_endRound (P := P) jump hl3
        rw [hrec] at he
        refine ⟨by rw [hrec]; exact he, hturn L' _ _ W3 h5⟩
      intro e a3 W3 hq3
      cases e with
      | normal =>
        obtain ⟨L', hI', hns, hR3⟩ := hq3
        obtain ⟨h6, h7⟩ := fin none a3 W3 L' hns hR3
        exact ⟨_, _, h6, .inl ⟨rfl, L', hI', hns, h7⟩⟩
      | ret =>
        obtain ⟨L', hI', hns, hR3⟩ := hq3
        obtain ⟨h6, h7⟩ := fin (some .ret) a3 W3 L' hns hR3
        exact ⟨_, _, h6, .inr ⟨rfl, .inl ⟨L', hI', hns, h7⟩⟩⟩
      | exit i =>
        simp only [mkQ, lookX] at hq3
        cases hb : Nat.beq ie i with
        | false => rw [hb] at hq3; simp at hq3
        | true =>
          rw [hb] at hq3
          skip
          obtain rfl := Nat.eq_of_beq_eq_true hb
          obtain ⟨L', hI', hns, hR3⟩ := hq3
          obtain ⟨h6, h7⟩ := fin (some (.exit ie)) a3 W3 L' hns hR3
          exact ⟨_, _, h6, .inr ⟨rfl, .inr ⟨L', hI', hns, h7⟩⟩⟩
      | goto t => exact hq3.elim
      | panic c => exact hq3.elim
      | outgrown => exact hq3.elim
    | exit i => exact hq.elim
    | ret => exact hq.elim
    | goto t => exact hq.elim
    | panic c => exact hq.elim
    | outgrown => exact hq.elim
  · -- behind it
    have hdef : ({ a with defers := [markD D] ++ a.defers } : Act) = Act.wd a [markD D] := by simp [Act.wd, hr.defers]
    have hfor : ∀ L r W, L.all (okE kl kD) = true → Rep B w0 n (st L r) a W → Rep B w0 n (updAll (updAll (slotsOf S) L) [(kD, obK D (.deferred (some [])))]) a W := by
      intro L r W h2 h
      refine h.weak fun k => ?_
      show upd _ kD _ k = _ ∨ upd _ kD _ k = upd (upd _ kl _) kD _ k
      by_cases e' : k = kD
      · subst e'; right; rw [upd_same, upd_same]
      · rw [upd_ne _ _ e', upd_ne _ _ e']
        by_cases e : k = kl
        · subst e; left; exact hLk L h2 k (.inl rfl)
        · right; rw [upd_ne _ _ e]
    rintro e W2 ⟨⟨v, rfl⟩, (⟨L, hI, hLo, hR2⟩ | ⟨L, hI, hLo, hR2⟩ | ⟨L, hI, hLo, hR2⟩)⟩
    · have hl2 : W2.heap[l]? = some (.loop (rec .ready none)) := ob_of (by rw [← hst_kl L]; exact hR2.holds kl)
      refine ⟨none, _, by have := run_endLoop (P := P) hl2 (by rw [hrec]; simp); rw [hrec] at this; exact this, ?_⟩
      have h3 := hdone D L _ hI (hfor L _ _ hLo (hturn L _ { rec .ready none with state := .exhausted } W2 hR2))
      rw [hdef]
      rw [hrec] at h3
      exact h3
    · have hl2 : W2.heap[l]? = some (.loop (rec .done (some .ret))) := ob_of (by rw [← hst_kl L]; exact hR2.holds kl)
      refine ⟨some .ret, _, by have := run_endLoop (P := P) hl2 (by rw [hrec]; simp); rw [hrec] at this; exact this, ?_⟩
      have h3 := hstop D L _ hI (hfor L _ _ hLo (hturn L _ { rec .done (some .ret) with state := .exhausted } W2 hR2))
      rw [hdef]
      rw [hrec] at h3
      exact wpIn_ret h3
    · have hl2 : W2.heap[l]? = some (.loop (rec .done (some (.exit ie)))) := ob_of (by rw [← hst_kl L]; exact hR2.holds kl)
      refine ⟨some (.exit ie), _, by have := run_endLoop (P := P) hl2 (by rw [hrec]; simp); rw [hrec] at this; exact this, ?_⟩
      have h3 := hexit D L _ hI (hfor L _ _ hLo (hturn L _ { rec .done (some (.exit ie)) with state := .exhausted } W2 hR2))
      rw [hdef]
      rw [hrec] at h3
      refine wpIn_exit ?_
      simp only [mkQ, hx]
      exact h3
theorem iterO_of_list {α : Type} {P : Program} {gf : Nat} {lb : Array Value} {encs : α → Array Value} {x : α} {Fx : World → Prop} (lo : Nat) (h : IterOK P gf lb encs [x] Fx) : IterO P gf lb (fun _ : Unit => encs x) (fun _ => []) Fx true lo := by
  intro l J JT JX hJ hJT hJX hF hFT _ wc hJc hTc hXc base _ hY W h0 hb
  refine (h l (fun r W => (r = [x] ∧ J W) ∨ (r = [] ∧ JT W)) JX ?_ hJX ?_ wc ?_ hXc ?_ W (.inl ⟨rfl, h0⟩)).mono ?_
  · rintro r W W' (⟨e, h1⟩ | ⟨e, h1⟩) hb
    · exact .inl ⟨e, hJ _ _ h1 hb⟩
    · exact .inr ⟨e, hJT _ _ h1 hb⟩
  · rintro r W (⟨e, h1⟩ | ⟨e, h1⟩)
    · exact hF _ h1
    · exact hFT _ h1
  · rintro r W (⟨e, h1⟩ | ⟨e, h1⟩)
    · exact hJc _ h1
    · exact hTc _ h1
  · rintro y rest W (⟨e, h1⟩ | ⟨e, h1⟩)
    · injection e with e1 e2
      subst e1; subst e2
      obtain ⟨fn, tmps, assign, body, hy, hR⟩ := hY () W h1 (fun z hz => by cases hz)
      refine ⟨fn, tmps, assign, body, hy, hR.mono ?_⟩
      rintro e W' (⟨e1, h2⟩ | ⟨e1, h2⟩)
      · exact .inl ⟨e1, .inr ⟨rfl, h2⟩⟩
      · exact .inr ⟨e1, h2⟩
    · cases e
  · rintro e W' ⟨hv, (⟨e1, h1⟩ | ⟨e1, h1⟩) | h1⟩
    · cases e1
    · exact ⟨hv, .inl h1⟩
    · exact ⟨hv, .inr h1⟩
theorem zip_one {α β : Type} {a : List α} {b : List β} {x : α} {y : β} (h : a = [x]) (hy : b[0]? = some y) : a.zip b = [(x, y)] := by
  subst h
  cases b with
  | nil => cases hy
  | cons z t => cases hy; simp
theorem Rep.geAt {B n : Nat} {w0 : World} {S : St} {a : Act} {w : World} {e sz m cap : Nat} {p : Option Addr} {xs : List Value} (h : Rep B w0 n S a w) (k : Nat) (hk : S k = owK e sz p m cap xs) (i : Nat) (hi : fpRow p m i) : B ≤ i ∧ i < w.heap.size :=
  ⟨h.ge k i (by rw [hk]; trivial) (by rw [hk]; exact fp_own hi), h.inb k i (by rw [hk]; exact fp_own hi)⟩
theorem ok_yieldG {P : Program} {ops : Array Oper} {n i : Nat} {o : Oper} {Spre : Nu → St} {w0 : World} (kJ : Nat) (gk : KV) (l : Nat) (args : Nu → Array Value) (Jr Jn JX : World → Prop) (d : Nat)
    (hG : ∀ ν, Spre ν kJ = gk) (hgk : ∀ w, gk.holds w → Below 0 w0 w → Jr w)
    (hY : ∀ ν W, Jr W → YieldAt (WF none) 0 P l (args ν) W fun e W' => (e = .returned (.bool true) ∧ Jn W') ∨ (e = .returned (.bool false) ∧ JX W'))
    (hJn : ∀ W W', Jn W → Below W.heap.size W W' → Jn W') (hJX : ∀ W W', JX W → Below W.heap.size W W' → JX W') (hJ0 : ∀ W, Jn W → Below 0 w0 W) (hX0 : ∀ W, JX W → Below 0 w0 W)
    (hd : o.dst = some d := by rfl) (hdn : Nat.blt d n = true := by rfl) (hkn : Nat.ble n kJ = true := by rfl) (hsel : noSel o = true := by rfl) (hw : ∀ ν, wantS ops o (Spre ν) = some true := by intro _; kernel_rfl)
    (hk : ∀ ν, (o.op.operands.all (knownB (Spre ν))) = true := by intro _; kernel_rfl)
    (hp : ∀ ν, (condsOf o (Spre ν)).all id = true := by intro _; kernel_rfl)
    (hv : ∀ ν w, (execOp (envU (Spre ν)) o).run P w = (Instr.yield l (args ν)).run P w := by intro _ _; kernel_rfl) :
    OpOKi none P ops (RepO kJ 0 w0 n) i o Spre (kJ :: tmpsOf ops o) (fun ν => [(d, .slot true (.bool (decide ((ν i).n 0 = 1)))), (kJ, bif decide ((ν i).n 0 = 1) then jK ((ν i).n 1) w0 Jn else jK ((ν i).n 1) w0 JX)]) := by
  have hdn' : d < n := by simpa using hdn
  have hkn' : n ≤ kJ := by simpa using hkn
  intro Q p S a w hag hpi hoi hrep
  obtain ⟨ν0, h0⟩ := Ext.exists p
  have hRk : ∀ ν, Ext p ν → ∀ k ∈ tmpsOf ops o, S ν k = Spre ν k := fun ν hν k hk' => hag ν hν k (List.mem_cons_of_mem _ hk')
  have hev : execOp a.eval o = execOp (envU (Spre ν0)) o := by
    have h1 : execOp a.eval o = execOp (envS (Spre ν0)) o := by
      refine execOp_congr o (noSel_spec hsel) fun x hx => ?_
      have h1 : knownB (S ν0) x = true := by
        rw [knownB_congr (ops := ops) (hRk ν0 h0) x hx]
        exact Array.all_eq_true_iff_forall_mem.1 (hk ν0) x hx
      rw [env_eq (hrep ν0 h0).1 h1]
      exact envS_congr (ops := ops) (hRk ν0 h0) x hx
    exact h1.trans (env_strip (noSel_spec hsel) (by simpa using hp ν0))
  unfold wpOpIn
  simp only [hoi]
  have hwant : Region.wanted o (yielded ops a.tmps) = true := want_eq (hrep ν0 h0).1 ((wantS_congr fun k hk' => hRk ν0 h0 k hk').trans (hw ν0))
  rw [if_pos hwant]
  refine ⟨fun _ _ => trivial, ?_⟩
  have hj : Jr w := by
    refine hgk w ?_ (hrep ν0 h0).1.below
    have := (hrep ν0 h0).1.holds kJ
    rw [hag ν0 h0 kJ (List.mem_cons_self ..), hG ν0] at this
    exact this
  obtain ⟨fn, tmps, assign, body, hy, hR⟩ := hY ν0 w hj
  have hs : o.semAt (WF none).round a.eval = execOp a.eval o := rfl
  rw [hs, hev, hv ν0 w, hy]
  refine ⟨fun e => (by cases e), hR.mono ?_⟩
  have fin : ∀ (b : Bool) (W' : World) (g : Gh), g = Gh.of (fun j => if j = 0 then (if b then 1 else 0) else W'.heap.size) (fun _ => none) → Below 0 w0 W' → (if b then Jn W' else JX W') →
      ∃ g, ∀ ν, Ext (p.set i g) ν → RepO kJ 0 w0 n (updAll (S ν) [(d, .slot true (.bool (decide ((ν i).n 0 = 1)))), (kJ, bif decide ((ν i).n 0 = 1) then jK ((ν i).n 1) w0 Jn else jK ((ν i).n 1) w0 JX)]) (a.put o.dst (.bool b)) W' := by
    intro b W' g hgg hB hJJ
    refine ⟨g, fun ν hν => ?_⟩
    have hν' := hν.of_set hpi
    have eg : ν i = g := hν.at_set
    have e0 : decide ((ν i).n 0 = 1) = b := by rw [eg, hgg]; cases b <;> rfl
    have e1 : (ν i).n 1 = W'.heap.size := by rw [eg, hgg]; rfl
    rw [e0, e1, hd]
    have hrs : Rep 0 w0 n (slotsOf (S ν)) a W' := (hrep ν hν').1.restart W' hB (Nat.zero_le _)
    have hr1 := hrs.put hdn' true (.bool b)
    have hv' : (bif b then jK W'.heap.size w0 Jn else jK W'.heap.size w0 JX).holds W' := by
      cases b with
      | true => exact jK_of (fun W2 h2 => hJn W' W2 hJJ h2) hB
      | false => exact jK_of (fun W2 h2 => hJX W' W2 hJJ h2) hB
    have hfp : ∀ j, (bif b then jK W'.heap.size w0 Jn else jK W'.heap.size w0 JX).fp j → j < W'.heap.size := by cases b <;> exact fun j h => h
    have hex : ¬ (bif b then jK W'.heap.size w0 Jn else jK W'.heap.size w0 JX).excl := by cases b <;> exact fun h => h
    have hnx : ∀ k', ¬ (upd (slotsOf (S ν)) d (.slot true (.bool b)) k').excl := by
      intro k'
      by_cases e : k' = d
      · subst e; rw [upd_same]; exact fun h => h
      · rw [upd_ne _ _ e]; exact slotsOf_excl k'
    have hr2 := hr1.ent kJ (bif b then jK W'.heap.size w0 Jn else jK W'.heap.size w0 JX) (by intro c x; cases b <;> exact fun h => by cases h) hv' hfp (fun h => (hex h).elim)
      (fun k' j _ ho => by
        rcases ho with ho | ho
        · exact (hex ho).elim
        · exact (hnx k' ho).elim)
    have hst : ∀ k, updAll (S ν) [(d, .slot true (.bool b)), (kJ, bif b then jK W'.heap.size w0 Jn else jK W'.heap.size w0 JX)] k = upd (upd (slotsOf (S ν)) d (.slot true (.bool b))) kJ (bif b then jK W'.heap.size w0 Jn else jK W'.heap.size w0 JX) k := by
      intro k
      show upd (upd (S ν) d _) kJ _ k = _
      by_cases e : k = kJ
      · subst e; rw [upd_same, upd_same]
      · rw [upd_ne _ _ e, upd_ne _ _ e]
        by_cases e' : k = d
        · subst e'; rw [upd_same, upd_same]
        · rw [upd_ne _ _ e', upd_ne _ _ e']
          unfold slotsOf
          rcases (hrep ν hν').2 k e with h1 | h1
          · rw [h1]
          · split
            · rename_i h2; exact h2
            · rename_i h2; unfold isSlot at h1; split at h1
              · rename_i c v h3; exact absurd h3 (h2 c v)
              · cases h1
    refine ⟨hr2.congr hst, fun k hk' => ?_⟩
    rw [hst k, upd_ne _ _ hk']
    by_cases e' : k = d
    · subst e'; rw [upd_same]; exact .inr rfl
    · rw [upd_ne _ _ e']
      unfold slotsOf
      split
      · exact .inr rfl
      · exact .inl rfl
  rintro e W' (⟨rfl, hjn⟩ | ⟨rfl, hjx⟩)
  · exact fin true W' _ rfl (hJ0 W' hjn) hjn
  · exact fin false W' _ rfl (hX0 W' hjx) hjx
theorem y_regI {P : Program} {ro : Option Nat} {Rp : St → Act → World → Prop} {ops : Array Oper} {id : Nat} {S0 : St} {Se : Nu → St} {rw : List (List Nat × List Nat)} {a : Act} {w : World} {Q : Exit → Act → World → Prop}
    (hr : Rp S0 a w) (hc : ChainI ro P ops Rp 0 ops.toList (fun _ => S0) rw Se) (hQ : ∀ ν a w, Rp (Se ν) a w → Q .normal a w) : (Code.region id ops false).wpIn (WF ro) 0 P Q a w := by
  refine wpIn_region ?_
  have := ChainI.inorder (Q := Q) ops.toList 0 (fun _ => S0) rw (fun _ => none) a w hc (fun j => by simp) (fun _ _ => rfl) (fun _ _ => hr) (fun p a w h => by obtain ⟨ν, hν⟩ := Ext.exists p; exact hQ ν a w (h ν hν))
  rw [List.range_eq_range', ← Array.length_toList]
  exact this
theorem k_noexit {P : Program} {c : Code} {N R : K} {xs : List (Nat × K)} {a : Act} {w : World} (h : c.wp P (mkQ N [(0, fun _ _ => False)] R) a w) : c.wp P (mkQ N xs R) a w :=
  wp_mono h fun e a w q => by
    cases e with
    | normal => exact q
    | ret => exact q
    | exit i =>
      exfalso
      cases i with
      | zero => exact q
      | succ i => exact q
    | _ => exact q.elim
theorem r_regT {P : Program} {ro : Option Nat} {ds : List Deferred} {N : K} {xs : List (Nat × K)} {R : K} {a : Act} {w : World} {ops : Array Oper} {B n id : Nat} {w0 : World} {draw : Bool} {S0 : St} {Se : Nu → St} {rw : List (List Nat × List Nat)} (hm : P.follows .mixedOrders = true)
    (hr : Rep B w0 n S0 a w) (hc : Chain P ops B w0 n 0 ops.toList (fun _ => S0) rw Se)
    (hi : (draw && (indepU ops.toList rw 0 [] [] && forward ops.toList 0)) = true) (hd : ops.toList.all noDef = true)
    (hQ : ∀ ν a w, Rep B w0 n (Se ν) a w → N a w) : rwp ro ds P (Code.region id ops draw) (mkQ N xs R) a w := by
  have hd' : ∀ (j : Nat) o, ops[j]? = some o → noDef o = true := fun j o ho => List.all_eq_true.1 hd o (by
    rw [Array.mem_toList_iff]; exact Array.mem_of_getElem? ho)
  cases draw with
  | false => cases hi
  | true =>
    simp only [Bool.true_and, Bool.and_eq_true] at hi
    refine wpIn_region_any hm (any_in (QN := N) hd' (fun a w h => ⟨a, rfl, h⟩) _ _ a _ ?_)
    have hr' : Rep B w0 n S0 a { w with drawn := w.drawn + 1 } := hr.world ⟨rfl, rfl, rfl, Nat.le_refl _, fun _ _ => rfl⟩
    exact Chain.anyorderT hc hi.1 hi.2 hr' (fun ν a w h => ⟨rfl, hQ ν a w h⟩) _ (Nat.le_refl _)
end Go.Sx
set_option linter.unusedVariables false
set_option linter.unusedSimpArgs false
namespace Go.Sx
open Go Go.RowKit
structure Same (base : Nat) (W W' : World) : Prop where
  os : W'.os = W.os
  tape : W'.tape = W.tape
  output : W'.output = W.output
  size : base ≤ W'.heap.size
  block : ∀ k, k < base → W'.heap[k]? = W.heap[k]?
def Keep (base : Nat) (W W' : World) : Prop := ∀ k, base ≤ k → k < W.heap.size → W'.heap[k]? = W.heap[k]?
abbrev keK (base : Nat) (W : World) : KV := .fact (fun i => base ≤ i ∧ i < W.heap.size) (fun W' => Keep base W W')
theorem Rep.same {B base n : Nat} {w0 : World} {S : St} {a : Act} {w w' : World} (h : Rep B w0 n S a w) (hs : Same base w w') (hB : B ≤ base) (hw : w0.heap.size ≤ base) (hf : ∀ k i, (S k).fp i → i < base) : Rep B w0 n S a w' where
  defers := h.defers
  size := h.size
  slots := h.slots
  below := ⟨hs.os.trans h.below.os, hs.tape.trans h.below.tape, hs.output.trans h.below.output, Nat.le_trans hw hs.size, fun k hk => (hs.block k (Nat.lt_of_lt_of_le hk hB)).trans (h.below.block k hk)⟩
  base := Nat.le_trans hB hs.size
  holds k := KV.holds_agree (h.holds k) fun i hi => hs.block i (hf k i hi)
  inb k i hi := Nat.lt_of_lt_of_le (hf k i hi) hs.size
  ge := h.ge
  disj := h.disj
def IterL {α : Type} (P : Program) (gf : Nat) (lb : Array Value) (enc : α → Array Value) (xs : List α) (Fx : World → Prop) : Prop :=
  ∀ (l : Nat) (J : List α → World → Prop) (JX : World → Prop) (base : Nat), (∀ r W W', J r W → Same base W W' → J r W') → (∀ W W', JX W → Same base W W' → JX W') → (∀ r W, J r W → Fx W) →
    ∀ wc : World, (∀ r W, J r W → Below 0 wc W) → (∀ W, JX W → Below 0 wc W) →
    (∀ x rest W, J (x :: rest) W → base ≤ W.heap.size → YieldAt (WF none) 0 P l (enc x) W fun e W' => ((e = .returned (.bool true) ∧ J rest W') ∨ (e = .returned (.bool false) ∧ JX W')) ∧ W.heap.size ≤ W'.heap.size ∧ Keep base W W') →
    ∀ W, J xs W → W.heap.size = base → CallsIn (WF none) 0 P gf (#[.func (.yield l) #[] #[]] ++ lb) W fun e W' => (∃ v, e = .returned v) ∧ (J [] W' ∨ JX W')
abbrev okL (kl kD kF : Nat) (x : Nat × KV) : Bool := !isSlot x.2 && (!Nat.beq x.1 kl && !Nat.beq x.1 kD && !Nat.beq x.1 kF)
theorem k_rangeL {α : Type} {P : Program} {B n : Nat} {w0 : World} {S : St} {a : Act} {w : World} {N : K} {xs : List (Nat × K)} {R : K} {g : Operand} {ps : Array Tmp} {assign body : Code} {gf : Nat} {lb : Array Value}
    (enc : α → Array Value) (sl : α → List (Nat × KV)) (xs0 : List α) (Fx : World → Prop) (kl kD kF : Nat) (Inv : List α → List (Nat × KV) → Prop) (InvX : List (Nat × KV) → Prop) (L0 : List (Nat × KV))
    (hr : Rep B w0 n S a w) (hk : knownB S g = true) (hg : envS S g = .func (.func gf) #[] lb) (eg : ∀ args w, (callFunc gf args).run P w = .ok (.enter gf args) w)
    (hit : IterL P gf lb enc xs0 Fx) (hps : PutsOK n ps enc sl)
    (h0 : Inv xs0 L0) (hn0 : L0.all (okL kl kD kF) = true) (hs0 : L0.map (fun x => S x.1) = L0.map (·.2))
    (hkl : S kl = .none) (hkD : S kD = .none) (hkF : S kF = .none) (hne : (!Nat.beq kD kl && !Nat.beq kF kl && !Nat.beq kF kD) = true)
    (hfix : ∀ r L, Inv r L → ∀ x ∈ L, ∀ i, x.2.fp i → (S x.1).fp i) (hfixX : ∀ L, InvX L → ∀ x ∈ L, ∀ i, x.2.fp i → (S x.1).fp i)
    (hF : ∀ r L a W, Inv r L → Rep B w0 n (updAll (slotsOf S) L) a W → Fx W)
    (hround : ∀ (l D base : Nat) (oR oD : Obj) (W : World) (x : α) (rest : List α) (L : List (Nat × KV)) (a1 : Act) (w1 : World), w.heap.size ≤ base → Inv (x :: rest) L →
      Rep B w0 n (updAll (updAll (slotsOf S) L) ([(kl, obK l oR), (kD, obK D oD), (kF, keK base W)] ++ sl x)) a1 w1 →
      rwp (some l) [] P assign (mkQ (fun a2 w2 => ∃ S2, Rep B w0 n S2 a2 w2 ∧ S2 kl = obK l oR ∧ ∀ oB w3, Rep B w0 n (upd S2 kl (obK l oB)) a2 w3 →
        rwp (some l) [] P body (mkQ (fun a3 w4 => ∃ L', Inv rest L' ∧ L'.all (okL kl kD kF) = true ∧ Rep B w0 n (ofL (L' ++ [(kl, obK l oB), (kD, obK D oD), (kF, keK base W)])) a3 w4) []
          (fun a3 w4 => ∃ L', InvX L' ∧ L'.all (okL kl kD kF) = true ∧ Rep B w0 n (ofL (L' ++ [(kl, obK l oB), (kD, obK D oD), (kF, keK base W)])) a3 w4)) a2 w3) [] (fun _ _ => False)) a1 w1)
    (hdone : ∀ (D : Nat) (L : List (Nat × KV)) (W : World), Inv [] L → Rep B w0 n (updAll (updAll (slotsOf S) L) [(kD, obK D (.deferred (some [])))]) a W → N (Act.wd a [markD D]) W)
    (hstop : ∀ (D : Nat) (L : List (Nat × KV)) (W : World), InvX L → Rep B w0 n (updAll (updAll (slotsOf S) L) [(kD, obK D (.deferred (some [])))]) a W → R (Act.wd a [markD D]) W) :
    (Code.rangeFunc g ps assign body).wp P (mkQ N xs R) a w := by
  simp only [Bool.and_eq_true, Bool.not_eq_true'] at hne
  have nD : kD ≠ kl := fun e => by rw [e, Nat.beq_refl] at hne; cases hne.1.1
  have nF : kF ≠ kl := fun e => by rw [e, Nat.beq_refl] at hne; cases hne.1.2
  have nG : kF ≠ kD := fun e => by rw [e, Nat.beq_refl] at hne; cases hne.2
  have hge : a.eval g = .func (.func gf) #[] lb := (env_eq hr hk).trans hg
  refine (wpIn_wide (n := 0)).1 (wpIn_rangeFunc fun fn hfn => ?_)
  obtain ⟨rec, hrec⟩ : ∃ rec : LoopState → Option Code → Loop, rec = fun st pe => { state := st, pending := pe, fn, tmps := a.tmps, params := ps, assign, body, defers := w.heap.size } := ⟨_, rfl⟩
  obtain ⟨D, hD⟩ : ∃ D, D = w.heap.size := ⟨_, rfl⟩
  obtain ⟨l, hl⟩ : ∃ l, l = w.heap.size + 1 := ⟨_, rfl⟩
  obtain ⟨base, hbs⟩ : ∃ base, base = w.heap.size + 2 := ⟨_, rfl⟩
  let st : List (Nat × KV) → Loop → St := fun L r => updAll (updAll (slotsOf S) L) [(kl, obK l (.loop r)), (kD, obK D (.deferred (some [])))]
  let J : List α → World → Prop := fun r W => ∃ L, Inv r L ∧ L.all (okL kl kD kF) = true ∧ Rep B w0 n (st L (rec .ready none)) a W
  let JX : World → Prop := fun W => ∃ L, InvX L ∧ L.all (okL kl kD kF) = true ∧ Rep B w0 n (st L (rec .done (some .ret))) a W
  have hst_kl : ∀ L r, st L r kl = obK l (.loop r) := fun L r => by
    show upd (upd _ kl _) kD _ kl = _
    rw [upd_ne _ _ (Ne.symm nD), upd_same]
  have hLk : ∀ L, L.all (okL kl kD kF) = true → ∀ k, (k = kl ∨ k = kD ∨ k = kF) → updAll (slotsOf S) L k = .none := fun L hL k hk' => by
    have hnone : S k = .none := by
      rcases hk' with rfl | rfl | rfl
      · exact hkl
      · exact hkD
      · exact hkF
    rw [updAll_look]
    cases hlk : look L k with
    | some v =>
      exfalso
      have h1 := List.all_eq_true.1 hL _ (look_mem hlk)
      simp only [okL, Bool.and_eq_true, Bool.not_eq_true'] at h1
      rcases hk' with rfl | rfl | rfl
      · have := h1.2.1.1; rw [Nat.beq_refl] at this; cases this
      · have := h1.2.1.2; rw [Nat.beq_refl] at this; cases this
      · have := h1.2.2; rw [Nat.beq_refl] at this; cases this
    | none =>
      show slotsOf S k = .none
      unfold slotsOf; rw [hnone]
  have hst_kF : ∀ L r, L.all (okL kl kD kF) = true → st L r kF = .none := fun L r hL => by
    show upd (upd _ kl _) kD _ kF = _
    rw [upd_ne _ _ nG, upd_ne _ _ nF]
    exact hLk L hL kF (.inr (.inr rfl))
  have hturn : ∀ L r r' W, Rep B w0 n (st L r) a W → Rep B w0 n (st L r') a (W.putObj l (.loop r')) := fun L r r' W h => by
    refine (h.putOb kl l (.loop r) (.loop r') (hst_kl L r)).congr fun k => ?_
    show upd (upd _ kl _) kD _ k = upd (upd (upd _ kl _) kD _) kl _ k
    by_cases e : k = kl
    · subst e; rw [upd_ne _ _ (Ne.symm nD), upd_same, upd_same]
    · rw [upd_ne _ _ e]
      by_cases e' : k = kD
      · subst e'; rw [upd_same, upd_same]
      · rw [upd_ne _ _ e', upd_ne _ _ e', upd_ne _ _ e, upd_ne _ _ e]
  -- where the state's blocks lie
  have hfp : ∀ L r, (∀ x ∈ L, ∀ i, x.2.fp i → (S x.1).fp i) → ∀ k i, (st L r k).fp i → i < base := fun L r hL k i hi => by
    have hi' : (upd (upd (updAll (slotsOf S) L) kl (obK l (.loop r))) kD (obK D (.deferred (some []))) k).fp i := hi
    by_cases e : k = kD
    · subst e; rw [upd_same] at hi'; have : i = D := hi'; omega
    · rw [upd_ne _ _ e] at hi'
      by_cases e' : k = kl
      · subst e'; rw [upd_same] at hi'; have : i = l := hi'; omega
      · rw [upd_ne _ _ e', updAll_look] at hi'
        cases hlk : look L k with
        | some v =>
          rw [hlk] at hi'
          have := hr.inb k i (hL _ (look_mem hlk) i hi')
          omega
        | none => rw [hlk] at hi'; exact (slotsOf_fp hi').elim
  have hbw : w0.heap.size ≤ base ∧ B ≤ base := by have := hr.below.size; have := hr.base; omega
  have hW1 : Rep B w0 n (st L0 (rec .ready none)) a ((w.alloc (.deferred (some []))).alloc (.loop (rec .ready none))) := by
    have h1 := hr.newOb kD (.deferred (some []))
    have h2 := h1.newOb kl (.loop (rec .ready none))
    rw [World.size_alloc] at h2
    have h2' : Rep B w0 n (upd (upd S kD (obK D (.deferred (some [])))) kl (obK l (.loop (rec .ready none)))) a ((w.alloc (.deferred (some []))).alloc (.loop (rec .ready none))) := by rw [hD, hl]; exact h2
    refine h2'.weak fun k => ?_
    show upd (upd _ kl _) kD _ k = _ ∨ upd (upd _ kl _) kD _ k = upd (upd _ kD _) kl _ k
    by_cases e : k = kD
    · subst e; right; rw [upd_same, upd_ne _ _ nD, upd_same]
    · rw [upd_ne _ _ e]
      by_cases e' : k = kl
      · subst e'; right; rw [upd_same, upd_same]
      · rw [upd_ne _ _ e', upd_ne _ _ e', upd_ne _ _ e, updAll_look]
        cases hlk : look L0 k with
        | some v =>
          right
          have hm := look_mem hlk
          obtain ⟨i, hi, hix⟩ := List.getElem_of_mem hm
          have h3 := congrArg (fun t => t[i]?) hs0
          simp only [List.getElem?_map, List.getElem?_eq_getElem hi, hix, Option.map_some] at h3
          injection h3 with h3
          exact h3.symm
        | none =>
          show slotsOf S k = _ ∨ slotsOf S k = _
          unfold slotsOf
          split
          · rename_i h; exact .inr h.symm
          · exact .inl rfl
  obtain ⟨W1, hWe⟩ : ∃ W1, (w.alloc (.deferred (some []))).alloc (.loop (rec .ready none)) = W1 := ⟨_, rfl⟩
  have hsz : W1.heap.size = base := by rw [← hWe, hbs]; simp
  refine ⟨l, [markD D], W1, { target := .fn (.func gf) lb, args := #[.func (.yield l) #[] #[]] }, W1, gf, #[.func (.yield l) #[] #[]] ++ lb, W1, ?_, ?_, ?_, ?_, fun e => (by cases e), ?_⟩
  · rw [← hWe, hrec, hl, hD]; exact run_enterLoop_outer _ _ _ _ _
  · simp only [resolve, hge]
    simp [go_sem]
  · intro f' hf'; trivial
  · simp [invoke, go_sem, eg]
  rw [hWe] at hW1
  have hdrop : ∀ L r W, L.all (okL kl kD kF) = true → Rep B w0 n (st L r) a W → Rep B w0 n (updAll (slotsOf S) L) a W := fun L r W hL h => h.weak fun k => by
    by_cases e : k = kl
    · subst e; left; exact hLk L hL k (.inl rfl)
    · by_cases e' : k = kD
      · subst e'; left; exact hLk L hL k (.inr (.inl rfl))
      · right
        show _ = upd (upd _ kl _) kD _ k
        rw [upd_ne _ _ e', upd_ne _ _ e]
  refine (hit l J JX base ?_ ?_ ?_ w0 ?_ ?_ ?_ W1 ⟨L0, h0, hn0, hW1⟩ hsz).mono ?_
  · rintro r W W' ⟨L, h1, h2, h3⟩ hs; exact ⟨L, h1, h2, h3.same hs hbw.2 hbw.1 (hfp L _ (hfix r L h1))⟩
  · rintro W W' ⟨L, h1, h2, h3⟩ hs; exact ⟨L, h1, h2, h3.same hs hbw.2 hbw.1 (hfp L _ (hfixX L h1))⟩
  · rintro r W ⟨L, h1, h2, h3⟩; exact hF r L a W h1 (hdrop L _ W h2 h3)
  · rintro r W ⟨L, h1, h2, h3⟩; exact h3.below.mono (Nat.zero_le _)
  · rintro W ⟨L, h1, h2, h3⟩; exact h3.below.mono (Nat.zero_le _)
  · -- a round
    rintro x rest W ⟨L, hI, hLo, hRep⟩ hbW
    have hlr : W.heap[l]? = some (.loop (rec .ready none)) := ob_of (by rw [← hst_kl L]; exact hRep.holds kl)
    have hy := run_yield (P := P) (args := enc x) hlr (by rw [hrec]; exact hps.1 x)
    rw [hrec] at hy
    refine ⟨fn, _, assign, body, hy, roundIn_of_wpIn (F := WF none) (n := 0) hfn ?_⟩
    have h1 : Rep B w0 n (upd (st L (rec .ready none)) kF (keK base W)) a W := hRep.ent kF (keK base W) (by intro c x h; cases h) (fun w' ha i h1 h2 => ha i ⟨h1, h2⟩) (fun i hi => hi.2) (fun h => h.elim) fun k' i _ hx hi hi' => by
      rcases hx with hx | hx
      · exact hx.elim
      · have := hfp L _ (hfix _ L hI) k' i hi'
        have : base ≤ i := hi.1
        omega
    have h2 := hps.2 B w0 _ a W x h1
    have happ : ∀ (A C : List (Nat × KV)) (T : St), updAll T (A ++ C) = updAll (updAll T A) C := by
      intro A
      induction A with
      | nil => intro C T; rfl
      | cons x A ih => intro C T; obtain ⟨j, v⟩ := x; exact ih C _
    have hgo := hround l D base (.loop (rec .ready none)) (.deferred (some [])) W x rest L _ W (by omega) hI (by rw [happ]; exact h2)
    have fin : ∀ (jump : Option Code) (a3 : Act) (W3 : World) (L' : List (Nat × KV)), L'.all (okL kl kD kF) = true → Rep B w0 n (ofL (L' ++ [(kl, obK l (.loop { rec .ready none with state := .busy })), (kD, obK D (.deferred (some []))), (kF, keK base W)])) a3 W3 →
        (Instr.endRound l jump).run P W3 = .ok (.bool jump.isNone) (W3.putObj l (.loop (rec (if jump.isNone then .ready else .done) jump))) ∧ Rep B w0 n (st L' (rec (if jump.isNone then .ready else .done) jump)) a (W3.putObj l (.loop (rec (if jump.isNone then .ready else .done) jump))) ∧ W.heap.size ≤ (W3.putObj l (.loop (rec (if jump.isNone then .ready else .done) jump))).heap.size ∧ Keep base W (W3.putObj l (.loop (rec (if jump.isNone then .ready else .done) jump))) := by
      intro jump a3 W3 L' hns hR3
      have hmix := hr.mix _ (by rw [List.all_append, Bool.and_eq_true]; exact ⟨List.all_eq_true.2 fun x hx => by have := List.all_eq_true.1 hns x hx; simp only [okL, Bool.and_eq_true] at this; exact this.1, rfl⟩) hR3
      have hst' : ∀ k, upd (st L' { rec .ready none with state := .busy }) kF (keK base W) k = updAll (slotsOf S) (L' ++ [(kl, obK l (.loop { rec .ready none with state := .busy })), (kD, obK D (.deferred (some []))), (kF, keK base W)]) k := by
        intro k; rw [happ]; rfl
      have h5 := hmix.congr hst'
      have hke : Keep base W W3 := by
        have := h5.holds kF
        rw [upd_same] at this
        exact this W3 (agree.refl _ _)
      have hsz3 : W.heap.size ≤ W3.heap.size := by
        rcases Nat.lt_or_ge base W.heap.size with h | h
        · have h6 := hke (W.heap.size - 1) (by omega) (by omega)
          rw [Array.getElem?_eq_getElem (show W.heap.size - 1 < W.heap.size by omega)] at h6
          have := (Array.getElem?_eq_some_iff.1 h6).1
          omega
        · have hl3 : l < W3.heap.size := h5.inb kl l (by rw [upd_ne _ _ (Ne.symm nF), hst_kl L']; rfl)
          omega
      have h5' : Rep B w0 n (st L' { rec .ready none with state := .busy }) a W3 := h5.weak fun k => by
        by_cases e : k = kF
        · subst e; left; exact hst_kF L' _ hns
        · right; rw [upd_ne _ _ e]
      have hl3 : W3.heap[l]? = some (.loop { rec .ready none with state := .busy }) := ob_of (by rw [← hst_kl L']; exact h5'.holds kl)
      have he := run_endRound (P := P) jump hl3
      rw [hrec] at he
      refine ⟨by rw [hrec]; exact he, hturn L' _ _ W3 h5', ?_, fun k hk1 hk2 => ?_⟩
      · rw [World.putObj_size]; exact hsz3
      · rw [World.putObj_heap_other (by omega)]; exact hke k hk1 hk2
    refine wpIn_mono (r_in hgo) ?_
    intro e a2 w2 hq
    cases e with
    | normal =>
      obtain ⟨S2, hR2, hS2, hbody⟩ := hq
      have hl2 : w2.heap[l]? = some (.loop (rec .ready none)) := ob_of (by rw [← hS2]; exact hR2.holds kl)
      refine ⟨_, run_beginRound hl2 (by rw [hrec]), ?_⟩
      refine wpIn_mono (r_in (hbody _ _ (hR2.putOb kl l _ _ hS2))) ?_
      intro e a3 W3 hq3
      cases e with
      | normal =>
        obtain ⟨L', hI', hns, hR3⟩ := hq3
        obtain ⟨h6, h7, h8⟩ := fin none a3 W3 L' hns hR3
        exact ⟨_, _, h6, .inl ⟨rfl, L', hI', hns, h7⟩, h8⟩
      | ret =>
        obtain ⟨L', hI', hns, hR3⟩ := hq3
        obtain ⟨h6, h7, h8⟩ := fin (some .ret) a3 W3 L' hns hR3
        exact ⟨_, _, h6, .inr ⟨rfl, L', hI', hns, h7⟩, h8⟩
      | exit i => exact hq3.elim
      | goto t => exact hq3.elim
      | panic c => exact hq3.elim
      | outgrown => exact hq3.elim
    | exit i => exact hq.elim
    | ret => exact hq.elim
    | goto t => exact hq.elim
    | panic c => exact hq.elim
    | outgrown => exact hq.elim
  · have hdef : ({ a with defers := [markD D] ++ a.defers } : Act) = Act.wd a [markD D] := by simp [Act.wd, hr.defers]
    have hfor : ∀ L r W, L.all (okL kl kD kF) = true → Rep B w0 n (st L r) a W → Rep B w0 n (updAll (updAll (slotsOf S) L) [(kD, obK D (.deferred (some [])))]) a W := by
      intro L r W h2 h
      refine h.weak fun k => ?_
      show upd _ kD _ k = _ ∨ upd _ kD _ k = upd (upd _ kl _) kD _ k
      by_cases e' : k = kD
      · subst e'; right; rw [upd_same, upd_same]
      · rw [upd_ne _ _ e', upd_ne _ _ e']
        by_cases e : k = kl
        · subst e; left; exact hLk L h2 k (.inl rfl)
        · right; rw [upd_ne _ _ e]
    rintro e W2 ⟨⟨v, rfl⟩, (⟨L, hI, hLo, hR2⟩ | ⟨L, hI, hLo, hR2⟩)⟩
    · have hl2 : W2.heap[l]? = some (.loop (rec .ready none)) := ob_of (by rw [← hst_kl L]; exact hR2.holds kl)
      refine ⟨none, _, by have := run_endLoop (P := P) hl2 (by rw [hrec]; simp); rw [hrec] at this; exact this, ?_⟩
      have h3 := hdone D L _ hI (hfor L _ _ hLo (hturn L _ { rec .ready none with state := .exhausted } W2 hR2))
      rw [hdef]
      rw [hrec] at h3
      exact h3
    · have hl2 : W2.heap[l]? = some (.loop (rec .done (some .ret))) := ob_of (by rw [← hst_kl L]; exact hR2.holds kl)
      refine ⟨some .ret, _, by have := run_endLoop (P := P) hl2 (by rw [hrec]; simp); rw [hrec] at this; exact this, ?_⟩
      have h3 := hstop D L _ hI (hfor L _ _ hLo (hturn L _ { rec .done (some .ret) with state := .exhausted } W2 hR2))
      rw [hdef]
      rw [hrec] at h3
      exact wpIn_ret h3
def RepK (kJ : Nat) (ks : List Nat) (base : Nat) (w0 : World) (n : Nat) (S : St) (a : Act) (w : World) : Prop :=
  Rep 0 w0 n S a w ∧ ∀ k, k ≠ kJ → (S k = .none ∨ isSlot (S k) = true) ∨ ((S k).excl ∨ ∀ i, (S k).fp i → base ≤ i) ∨ k ∈ ks
theorem only_updK {kJ : Nat} {ks : List Nat} {base : Nat} : ∀ (u : List (Nat × KV)) (S : St), (u.all fun x => isSlot x.2) = true → (∀ k, k ≠ kJ → (S k = .none ∨ isSlot (S k) = true) ∨ ((S k).excl ∨ ∀ i, (S k).fp i → base ≤ i) ∨ k ∈ ks) →
    ∀ k, k ≠ kJ → (updAll S u k = .none ∨ isSlot (updAll S u k) = true) ∨ ((updAll S u k).excl ∨ ∀ i, (updAll S u k).fp i → base ≤ i) ∨ k ∈ ks
  | [], _, _, h => h
  | (j, v) :: u, S, hu, h => by
    simp only [List.all_cons, Bool.and_eq_true] at hu
    refine only_updK u _ hu.2 fun k hk => ?_
    by_cases e : k = j
    · subst e; rw [upd_same]; exact .inl (.inr hu.1)
    · rw [upd_ne _ _ e]; exact h k hk
theorem okk {kJ : Nat} {ks : List Nat} {base : Nat} {ro : Option Nat} {P : Program} {ops : Array Oper} {w0 : World} {n i : Nat} {o : Oper} {Spre : Nu → St} {R : List Nat} {u : Nu → List (Nat × KV)} (h : OpOK P ops 0 w0 n i o Spre R u) (hd : noDef o = true := by rfl) (hR : (R.all fun k => Nat.blt k TK) = true := by rfl)
    (hu : ∀ ν, ((u ν).all fun x => isSlot x.2) = true := by intro _; kernel_rfl) : OpOKi ro P ops (RepK kJ ks base w0 n) i o Spre R u := by
  intro Q p S a w h1 h2 h3 h4
  have := op_in (ro := ro) (m := 0) (ds := []) (Q := Q) (QN := fun _ _ => True) (fun o' ho' => by rw [h3] at ho'; injection ho' with e; subst e; exact hd) (h (onlyN fun _ _ => True) p S a w h1 h2 h3 (fun ν hν => (h4 ν hν).1) (fun j hj => by have := List.all_eq_true.1 hR _ hj; rw [Nat.blt_eq] at this; omega))
  rw [wd_nil] at this
  refine wpOpIn_mono ?_ this
  rintro a' w' ⟨a0, rfl, g, hk⟩
  rw [wd_nil]
  exact ⟨g, fun ν hν => ⟨hk ν hν, only_updK (u ν) _ (hu ν) (h4 ν (hν.of_set h2)).2⟩⟩
theorem jK_same {base : Nat} {w w0 : World} {J : World → Prop} (h0 : 0 < base) (hw : base ≤ w.heap.size) (hJ : ∀ W', Same base w W' → J W') (hb : Below 0 w0 w) : (jK base w0 J).holds w :=
  fun w' ha hb' => hJ w' ⟨hb'.os.trans hb.os.symm, hb'.tape.trans hb.tape.symm, hb'.output.trans hb.output.symm, by
    have h1 := ha (base - 1) (show base - 1 < base by omega)
    rw [Array.getElem?_eq_getElem (show base - 1 < w.heap.size by omega)] at h1
    have := (Array.getElem?_eq_some_iff.1 h1).1
    omega, fun k hk => ha k hk⟩
theorem nones_look : ∀ (ks : List Nat) (S : St) (k : Nat), updAll S (ks.map fun k => (k, KV.none)) k = if k ∈ ks then .none else S k
  | [], S, k => by simp [updAll]
  | j :: ks, S, k => by
    show updAll (upd S j .none) _ k = _
    rw [nones_look ks]
    by_cases e : k ∈ ks
    · simp [e]
    · by_cases e' : k = j
      · subst e'; simp [upd_same]
      · simp [e, e', upd_ne]
theorem ok_yieldK {P : Program} {ops : Array Oper} {ro : Option Nat} {n i : Nat} {o : Oper} {Spre : Nu → St} {w0 : World} {base : Nat} (kJ : Nat) (ks : List Nat) (l : Nat) (args : Nu → Array Value) (J0 Jn JX : World → Prop) (d : Nat) (h0 : 0 < base)
    (hG : ∀ ν, Spre ν kJ = jK base w0 J0)
    (hY : ∀ ν W, J0 W → base ≤ W.heap.size → YieldAt (WF none) 0 P l (args ν) W fun e W' => ((e = .returned (.bool true) ∧ Jn W') ∨ (e = .returned (.bool false) ∧ JX W')) ∧ W.heap.size ≤ W'.heap.size ∧ Keep base W W')
    (hJn : ∀ W W', Jn W → Same base W W' → Jn W') (hJX : ∀ W W', JX W → Same base W W' → JX W') (hn0 : ∀ W, Jn W → Below 0 w0 W) (hX0 : ∀ W, JX W → Below 0 w0 W)
    (hkJ : ks.contains kJ = false) (hds : ks.contains d = false)
    (hd : o.dst = some d := by rfl) (hdn : Nat.blt d n = true := by rfl) (hkn : Nat.ble n kJ = true := by rfl) (hsel : noSel o = true := by rfl) (hnd : noDef o = true := by rfl) (hw : ∀ ν, wantS ops o (Spre ν) = some true := by intro _; kernel_rfl)
    (hk : ∀ ν, (o.op.operands.all (knownB (Spre ν))) = true := by intro _; kernel_rfl)
    (hp : ∀ ν, (condsOf o (Spre ν)).all id = true := by intro _; kernel_rfl)
    (hv : ∀ ν w, (execOp (envU (Spre ν)) o).run P w = (Instr.yield l (args ν)).run P w := by intro _ _; kernel_rfl) :
    OpOKi ro P ops (RepK kJ ks base w0 n) i o Spre (kJ :: tmpsOf ops o) (fun ν => [(d, .slot true (.bool (decide ((ν i).n 0 = 1)))), (kJ, bif decide ((ν i).n 0 = 1) then jK base w0 Jn else jK base w0 JX)] ++ ks.map fun k => (k, .none)) := by
  have hdn' : d < n := by simpa using hdn
  have hkn' : n ≤ kJ := by simpa using hkn
  have hkJ' : kJ ∉ ks := by simpa using hkJ
  have hds' : d ∉ ks := by simpa using hds
  intro Q p S a w hag hpi hoi hrep
  obtain ⟨ν0, h0'⟩ := Ext.exists p
  have hRk : ∀ ν, Ext p ν → ∀ k ∈ tmpsOf ops o, S ν k = Spre ν k := fun ν hν k hk' => hag ν hν k (List.mem_cons_of_mem _ hk')
  have hev : execOp a.eval o = execOp (envU (Spre ν0)) o := by
    have h1 : execOp a.eval o = execOp (envS (Spre ν0)) o := by
      refine execOp_congr o (noSel_spec hsel) fun x hx => ?_
      have h1 : knownB (S ν0) x = true := by
        rw [knownB_congr (ops := ops) (hRk ν0 h0') x hx]
        exact Array.all_eq_true_iff_forall_mem.1 (hk ν0) x hx
      rw [env_eq (hrep ν0 h0').1 h1]
      exact envS_congr (ops := ops) (hRk ν0 h0') x hx
    exact h1.trans (env_strip (noSel_spec hsel) (by simpa using hp ν0))
  unfold wpOpIn
  simp only [hoi]
  have hwant : Region.wanted o (yielded ops a.tmps) = true := want_eq (hrep ν0 h0').1 ((wantS_congr fun k hk' => hRk ν0 h0' k hk').trans (hw ν0))
  rw [if_pos hwant]
  refine ⟨fun _ _ => trivial, ?_⟩
  have hSJ : ∀ ν, Ext p ν → S ν kJ = jK base w0 J0 := fun ν hν => (hag ν hν kJ (List.mem_cons_self ..)).trans (hG ν)
  have hj : J0 w := by
    have := (hrep ν0 h0').1.holds kJ
    rw [hSJ ν0 h0'] at this
    exact this w (agree.refl _ _) (hrep ν0 h0').1.below
  have hbw : base ≤ w.heap.size := by
    have := (hrep ν0 h0').1.inb kJ (base - 1) (by rw [hSJ ν0 h0']; show base - 1 < base; omega)
    omega
  obtain ⟨fn, tmps, assign, body, hy, hR⟩ := hY ν0 w hj hbw
  have hs : o.semAt (WF ro).round a.eval = execOp a.eval o := Oper.semAt_eq _ _ _ (fun c e => by unfold noDef at hnd; rw [e] at hnd; cases hnd)
  rw [hs, hev, hv ν0 w, hy]
  refine ⟨fun e => (by cases e), (show RoundIn (WF ro) 0 P l fn tmps assign body w _ from hR).mono ?_⟩
  have fin : ∀ (b : Bool) (W' : World) (g : Gh), g = Gh.of (fun j => if j = 0 then (if b then 1 else 0) else W'.heap.size) (fun _ => none) → Below 0 w0 W' → (if b then Jn W' else JX W') → w.heap.size ≤ W'.heap.size → Keep base w W' →
      ∃ g, ∀ ν, Ext (p.set i g) ν → RepK kJ ks base w0 n (updAll (S ν) ([(d, .slot true (.bool (decide ((ν i).n 0 = 1)))), (kJ, bif decide ((ν i).n 0 = 1) then jK base w0 Jn else jK base w0 JX)] ++ ks.map fun k => (k, .none))) (a.put o.dst (.bool b)) W' := by
    intro b W' g hgg hB hJJ hsz hkeep
    refine ⟨g, fun ν hν => ?_⟩
    have hν' := hν.of_set hpi
    have eg : ν i = g := hν.at_set
    have e0 : decide ((ν i).n 0 = 1) = b := by rw [eg, hgg]; cases b <;> rfl
    rw [e0, hd]
    obtain ⟨hr, hcl⟩ := hrep ν hν'
    have hsJ := hSJ ν hν'
    -- what lies in base and on
    have hge : ∀ k, k ≠ kJ → k ∉ ks → ∀ i, (S ν k).fp i → base ≤ i := fun k h1 h2 i hi => by
      rcases hcl k h1 with (h | h) | (h | h) | h
      · rw [h] at hi; exact hi.elim
      · unfold isSlot at h
        split at h
        · rename_i h3; rw [h3] at hi; exact hi.elim
        · cases h
      · have := hr.disj k kJ i h1 h hi
        rw [hsJ] at this
        exact Nat.le_of_not_lt this
      · exact h i hi
      · exact absurd h h2
    have r0 : Rep 0 w0 n (fun k => if k = kJ ∨ k ∈ ks then .none else S ν k) a w := hr.weak fun k => by
      by_cases e : k = kJ ∨ k ∈ ks
      · left; simp [e]
      · right; simp [e]
    have r1 : Rep 0 w0 n (fun k => if k = kJ ∨ k ∈ ks then .none else S ν k) a W' := by
      have hfp : ∀ k i, ((fun k => if k = kJ ∨ k ∈ ks then KV.none else S ν k) k).fp i → base ≤ i := fun k i hi => by
        by_cases e : k = kJ ∨ k ∈ ks
        · simp only [e, if_true] at hi; exact hi.elim
        · simp only [e, if_false] at hi
          exact hge k (fun h => e (.inl h)) (fun h => e (.inr h)) i hi
      exact ⟨r0.defers, r0.size, r0.slots, hB, Nat.zero_le _, fun k => KV.holds_agree (r0.holds k) fun i hi => hkeep i (hfp k i hi) (r0.inb k i hi), fun k i hi => Nat.lt_of_lt_of_le (r0.inb k i hi) hsz, fun k i h1 h2 => Nat.zero_le _, r0.disj⟩
    have r2 := r1.put hdn' true (.bool b)
    have hv' : (bif b then jK base w0 Jn else jK base w0 JX).holds W' := by
      cases b with
      | true => exact jK_same h0 (Nat.le_trans hbw hsz) (fun W2 h2 => hJn W' W2 hJJ h2) hB
      | false => exact jK_same h0 (Nat.le_trans hbw hsz) (fun W2 h2 => hJX W' W2 hJJ h2) hB
    have hfp : ∀ j, (bif b then jK base w0 Jn else jK base w0 JX).fp j → j < base := by cases b <;> exact fun j h => h
    have hex : ¬ (bif b then jK base w0 Jn else jK base w0 JX).excl := by cases b <;> exact fun h => h
    have r3 := r2.ent kJ (bif b then jK base w0 Jn else jK base w0 JX) (by intro c x; cases b <;> exact fun h => by cases h) hv' (fun j hj => by have := hfp j hj; omega) (fun h => (hex h).elim)
      (fun k' j hne ho hj hj' => by
        rcases ho with ho | ho
        · exact (hex ho).elim
        · have h3 := hfp j hj
          by_cases e : k' = d
          · subst e; rw [upd_same] at ho; exact ho
          · rw [upd_ne _ _ e] at ho hj'
            by_cases e' : k' = kJ ∨ k' ∈ ks
            · simp only [e', if_true] at ho; exact ho
            · simp only [e', if_false] at hj'
              have := hge k' (fun h => e' (.inl h)) (fun h => e' (.inr h)) j hj'
              omega)
    have hst : ∀ k, updAll (S ν) ([(d, .slot true (.bool b)), (kJ, bif b then jK base w0 Jn else jK base w0 JX)] ++ ks.map fun k => (k, .none)) k = upd (upd (fun k => if k = kJ ∨ k ∈ ks then KV.none else S ν k) d (.slot true (.bool b))) kJ (bif b then jK base w0 Jn else jK base w0 JX) k := by
      intro k
      show updAll (upd (upd (S ν) d (.slot true (.bool b))) kJ _) (ks.map fun k => (k, KV.none)) k = _
      rw [nones_look]
      by_cases e : k = kJ
      · subst e; rw [if_neg hkJ', upd_same, upd_same]
      · rw [upd_ne _ _ e, upd_ne _ _ e]
        by_cases e' : k = d
        · subst e'; rw [if_neg hds', upd_same, upd_same]
        · rw [upd_ne _ _ e', upd_ne _ _ e']
          by_cases e2 : k ∈ ks
          · simp [e2]
          · simp [e2, e]
    refine ⟨r3.congr hst, fun k hk' => ?_⟩
    rw [hst k, upd_ne _ _ hk']
    by_cases e' : k = d
    · subst e'; rw [upd_same]; exact .inl (.inr rfl)
    · rw [upd_ne _ _ e']
      by_cases e2 : k = kJ ∨ k ∈ ks
      · simp only [e2, if_true]; exact .inl (.inl trivial)
      · simp only [e2, if_false]; exact hcl k hk'
  rintro e W' ⟨⟨rfl, hjn⟩ | ⟨rfl, hjx⟩, h2, h3⟩
  · exact fin true W' _ rfl (hn0 W' hjn) hjn h2 h3
  · exact fin false W' _ rfl (hX0 W' hjx) hjx h2 h3
def isOwnK (v : KV) : Bool := match v with | .blk .. => true | .own .. => true | _ => false
theorem isOwnK_excl {v : KV} (h : isOwnK v = true) : v.excl := by unfold isOwnK at h; split at h <;> first | trivial | cases h
theorem onlyK_of {kJ : Nat} {ks : List Nat} {base : Nat} (l : List (Nat × KV)) (h : (l.all fun x => Nat.beq x.1 kJ || isSlot x.2 || isOwnK x.2 || ks.contains x.1) = true) :
    ∀ k, k ≠ kJ → (ofL l k = .none ∨ isSlot (ofL l k) = true) ∨ ((ofL l k).excl ∨ ∀ i, (ofL l k).fp i → base ≤ i) ∨ k ∈ ks := by
  intro k hk
  rw [ofL_look]
  cases hl : look l k with
  | none => exact .inl (.inl rfl)
  | some v =>
    have h1 := List.all_eq_true.1 h _ (look_mem hl)
    simp only [Bool.or_eq_true] at h1
    rcases h1 with ((h1 | h1) | h1) | h1
    · exact absurd (Nat.eq_of_beq_eq_true h1) hk
    · exact .inl (.inr h1)
    · exact .inr (.inl (.inl (isOwnK_excl h1)))
    · exact .inr (.inr (by simpa using h1))
theorem onlyK_ofF {kJ : Nat} {ks : List Nat} {base : Nat} (l : List (Nat × KV)) (kF : Nat) (h : (l.all fun x => Nat.beq x.1 kJ || isSlot x.2 || isOwnK x.2 || ks.contains x.1 || Nat.beq x.1 kF) = true) (hF : ∀ i, (ofL l kF).fp i → base ≤ i) :
    ∀ k, k ≠ kJ → (ofL l k = .none ∨ isSlot (ofL l k) = true) ∨ ((ofL l k).excl ∨ ∀ i, (ofL l k).fp i → base ≤ i) ∨ k ∈ ks := by
  intro k hk
  by_cases hkF : k = kF
  · subst hkF; exact .inr (.inl (.inr hF))
  rw [ofL_look]
  cases hl : look l k with
  | none => exact .inl (.inl rfl)
  | some v =>
    have h1 := List.all_eq_true.1 h _ (look_mem hl)
    simp only [Bool.or_eq_true] at h1
    rcases h1 with (((h1 | h1) | h1) | h1) | h1
    · exact absurd (Nat.eq_of_beq_eq_true h1) hk
    · exact .inl (.inr h1)
    · exact .inr (.inl (.inl (isOwnK_excl h1)))
    · exact .inr (.inr (by simpa using h1))
    · exact absurd (Nat.eq_of_beq_eq_true h1) hkF
theorem Rep.readd {n base : Nat} {w0 : World} {a : Act} {w : World} {J : World → Prop} (kJ : Nat) : ∀ (fs : List (Nat × KV)) (S : St), Rep 0 w0 n S a w → (∀ x ∈ fs, (∃ fp F, x.2 = .fact fp F) ∧ ∀ i, x.2.fp i → i < base) → (∀ W, J W → ∀ x ∈ fs, x.2.holds W) → S kJ = jK base w0 J → base ≤ w.heap.size → (fs.all fun x => !Nat.beq x.1 kJ) = true → Rep 0 w0 n (updAll S fs) a w
  | [], S, h, _, _, _, _, _ => h
  | (k, v) :: fs, S, h, hf, hJ, hS, hb, hk => by
    obtain ⟨⟨fp, F, hv⟩, hlt⟩ := hf (k, v) (by simp)
    have hv' : v = .fact fp F := hv
    have hj : J w := by
      have := h.holds kJ
      rw [hS] at this
      exact this w (agree.refl _ _) h.below
    simp only [List.all_cons, Bool.and_eq_true, Bool.not_eq_true'] at hk
    have hne : k ≠ kJ := fun e => by rw [e, Nat.beq_refl] at hk; cases hk.1
    have hex : ¬ v.excl := by rw [hv']; exact fun h => h
    have h1 : Rep 0 w0 n (upd S k v) a w := h.ent k v (by intro c x h; rw [hv'] at h; cases h) (hJ w hj (k, v) (by simp)) (fun i hi => by have := hlt i hi; omega) (fun h => (hex h).elim) (fun k' i hne' ho hi hi' => by
      rcases ho with ho | ho
      · exact hex ho
      · by_cases e : k' = kJ
        · subst e; rw [hS] at ho; exact ho
        · have := h.disj k' kJ i e ho hi'
          rw [hS] at this
          exact this (hlt i hi))
    exact Rep.readd kJ fs _ h1 (fun x hx => hf x (by simp [hx])) (fun W hW x hx => hJ W hW x (by simp [hx])) (by rw [upd_ne _ _ (Ne.symm hne)]; exact hS) hb hk.2
theorem jK_size {n base : Nat} {w0 : World} {S : St} {a : Act} {w : World} {J : World → Prop} (h0 : 0 < base) (kJ : Nat) (h : Rep 0 w0 n S a w) (hS : S kJ = jK base w0 J) : base ≤ w.heap.size := by
  have := h.inb kJ (base - 1) (by rw [hS]; show base - 1 < base; omega)
  omega
theorem allH_fs : ∀ (fs : List (Nat × KV)) {w : World}, AllH (fs.map Prod.snd) w → ∀ x ∈ fs, x.2.holds w
  | [], _, _, x, hx => by cases hx
  | y :: fs, w, h, x, hx => by
    rcases List.mem_cons.1 hx with e | e
    · subst e; exact h.1
    · exact allH_fs fs h.2 x e
theorem r_scope {P : Program} {N R : K} {xs : List (Nat × K)} {a : Act} {w : World} {c : Code} (h : rwp none [] P c (mkQ N xs R) a w) : rwp none [] P (Code.scope c) (mkQ N xs R) a w := by
  unfold rwp at *
  have h' : c.wp P _ _ _ := (wpIn_wide (n := 0)).1 h
  refine (wpIn_wide (n := 0)).2 (wp_scope_straight (wp_mono h' fun e a w q => ?_))
  obtain ⟨a0, h1, h2⟩ := q
  cases e <;> first | exact ⟨a0, h1, h2⟩ | exact h2.elim
end Go.Sx
namespace Go.Sx
open Go
def Fits : List (Option IntKind) → List Value → Prop
  | [], [] => True
  | some k :: ks, v :: vs => (∃ n, v = .int k n ∧ k.has n) ∧ Fits ks vs
  | none :: ks, v :: vs => (∃ b, v = .bool b) ∧ Fits ks vs
  | _, _ => False
theorem fits_nil {vs : List Value} (h : Fits [] vs) : vs = [] := by
  cases vs with
  | nil => rfl
  | cons v vs => exact h.elim
theorem fits_int {k : IntKind} {ks : List (Option IntKind)} {vs : List Value} (h : Fits (some k :: ks) vs) : ∃ n vs', vs = .int k n :: vs' ∧ k.has n ∧ Fits ks vs' := by
  cases vs with
  | nil => exact h.elim
  | cons v vs =>
    obtain ⟨⟨n, rfl, hn⟩, hr⟩ := h
    exact ⟨n, vs, rfl, hn, hr⟩
def descOf : Option IntKind → TypeDesc
  | some k => .int k
  | none => .bool
theorem cell_fits {P : Program} {w : World} {r : Reach} {base : Nat} {u : TypeId} {v : Value} {k : Option IntKind} (hu : P.underlying u = some (descOf k)) (h : Cell.okWide P w r base u v) (ks : List (Option IntKind)) (vs : List Value)
    (hr : Fits ks vs) : Fits (k :: ks) (v :: vs) := by
  cases k with
  | none =>
    have hu' : P.underlying u = some .bool := hu
    unfold Cell.okWide at h
    rw [hu'] at h
    cases v <;> simp [Cell.ok, hu'] at h
    exact ⟨⟨_, rfl⟩, hr⟩
  | some k =>
    have hu' : P.underlying u = some (.int k) := hu
    unfold Cell.okWide at h
    rw [hu'] at h
    cases v <;> simp [Cell.ok, hu'] at h
    obtain ⟨rfl, h⟩ := h
    exact ⟨⟨_, rfl, h⟩, hr⟩
theorem fits_of {P : Program} {w : World} {r : Reach} {base : Nat} : ∀ (ks : List (Option IntKind)) (ts : List TypeId) (vs : List Value), ts.map P.underlying = ks.map (fun k => some (descOf k)) → vs.length = ts.length →
    (∀ (i : Nat) (v : Value), vs[i]? = some v → ∃ u, ts[i]? = some u ∧ Cell.okWide P w r base u v) → Fits ks vs
  | [], [], [], _, _, _ => trivial
  | [], [], _ :: _, _, h, _ => by cases h
  | [], _ :: _, _, h, _, _ => by cases h
  | _ :: _, [], _, h, _, _ => by cases h
  | _ :: _, _ :: _, [], _, h, _ => by cases h
  | k :: ks, t :: ts, v :: vs, h, hl, hc => by
    simp only [List.map_cons, List.cons.injEq] at h
    obtain ⟨u, hu, hk⟩ := hc 0 v rfl
    obtain rfl : t = u := by simpa using hu
    exact cell_fits h.1 hk ks vs (fits_of ks ts vs h.2 (by simpa using hl) fun i v hv => hc (i + 1) v (by simpa using hv))
theorem open_fits {P : Program} {w : World} {r : Reach} {base : Nat} {t : TypeId} {v : Value} (ks : List (Option IntKind)) (ts : List TypeId) (hagg : (match P.underlying t with | some (.struct _) => true | some (.array _ _) => true | _ => false) = true)
    (hts : P.cellTypes P.depth t = some ts) (hk : ts.map P.underlying = ks.map (fun k => some (descOf k))) (hc : P.cellsOf t = ts.length) (h : Value.okWide P w r base t v) : ∃ vs, v = .agg (List.toArray vs) ∧ Fits ks vs := by
  have h' : ∃ cs, v = .agg cs ∧ cs.size = P.cellsOf t ∧ Row.okWide P w r base t cs := by
    unfold Value.okWide at h
    split at h
    · exact h
    · exact h
    · rename_i h1 h2
      exfalso
      split at hagg
      · rename_i fs hf; exact h1 fs hf
      · rename_i n e hf; exact h2 n e hf
      · cases hagg
  obtain ⟨cs, rfl, hs, ts', hts', _, hcell⟩ := h'
  obtain rfl : ts = ts' := Option.some.inj (hts.symm.trans hts')
  refine ⟨cs.toList, by simp, fits_of (P := P) (w := w) (r := r) (base := base) ks ts cs.toList hk (by simp [hs, hc]) fun i v hv => ?_⟩
  have hv' : cs[i]? = some v := by simpa using hv
  obtain ⟨u, hu, hx⟩ := hcell i v hv'
  have hi : i < ts.length := by
    have := (Array.getElem?_eq_some_iff.1 hv').1
    omega
  rw [Nat.mod_eq_of_lt hi] at hu
  exact ⟨u, hu, hx⟩
def glue (c : TypeId → Nat) (f : TypeId → DataW (List UInt8) → Option (List Value)) : Nat → List (TypeId × Nat × DataW (List UInt8)) → Option (List Value × Nat)
  | off, [] => some ([], off)
  | off, (t, o, x) :: r => if o = off then (f t x).bind fun vs => (glue c f (off + c t) r).map fun y => (vs ++ y.1, y.2) else none
theorem glue_drop {c : TypeId → Nat} {f : TypeId → DataW (List UInt8) → Option (List Value)} {cs : List Value} : ∀ (ps : List (TypeId × Nat × DataW (List UInt8))) (off : Nat) (vs : List Value) (last : Nat), glue c f off ps = some (vs, last) → cs.length = last →
    (∀ p ∈ ps, ∀ us, f p.1 p.2.2 = some us → (cs.drop p.2.1).take (c p.1) = us) → cs.drop off = vs
  | [], off, vs, last, h, hl, _ => by
    simp only [glue, Option.some.injEq, Prod.mk.injEq] at h
    obtain ⟨rfl, rfl⟩ := h
    simp [hl]
  | (t, o, x) :: r, off, vs, last, h, hl, hp => by
    unfold glue at h
    split at h
    · rename_i ho
      subst ho
      obtain ⟨us, hus, h⟩ := Option.bind_eq_some_iff.1 h
      obtain ⟨y, hy, h⟩ := Option.map_eq_some_iff.1 h
      obtain ⟨y1, y2⟩ := y
      simp only [Prod.mk.injEq] at h
      obtain ⟨rfl, rfl⟩ := h
      have h1 := hp _ (List.mem_cons_self ..) us hus
      have h2 := glue_drop r (o + c t) y1 y2 hy hl fun p hq => hp p (List.mem_cons_of_mem _ hq)
      rw [← List.take_append_drop (c t) (cs.drop o), h1, List.drop_drop, h2]
    · cases h
def tabs (P : Program) : Nat → TypeId → DataW (List UInt8) → Option (List Value)
  | 0, _, _ => none
  | d + 1, t, x =>
    match P.underlying t, x with
    | some (.array n e), .agg ds => if ds.length = n then (glue P.cellsOf (tabs P d) 0 (ds.mapIdx fun i y => (e, i * P.cellsOf e, y))).bind fun y => if y.2 = P.cellsOf t then some y.1 else none else none
    | some (.struct fs), .agg ds => (glue P.cellsOf (tabs P d) 0 (List.zipWith (fun f y => (f.type, f.offset, y)) fs.toList ds)).bind fun y => if y.2 = P.cellsOf t then some y.1 else none
    | some (.func ..), .nil => some [.nilFunc]
    | some (.func ..), .held (b :: r) =>
      match (List.range P.funcs.size).filter fun f => (P.funcs[f]?).any (·.name.toUTF8.data.toList == b :: r) with
      | [f0] => some [.func (.func f0) #[] #[]]
      | _ => none
    | _, _ => none
theorem cells_of_tabs {P : Program} {w : World} {base : Nat} {sp : Nat → Bool} : ∀ (d : Nat) (t : TypeId) (x : DataW (List UInt8)) (vs : List Value), tabs P d t x = some vs → ∀ (fuel : Nat) (cs : List Value) (q : List MemPlace),
    DataW.trod (funcToken P) P w base sp true fuel t cs = some (x, q) → cs = vs
  | 0, _, _, _, h => by cases h
  | d + 1, t, x, vs, h => by
    intro fuel cs q ht
    unfold tabs at h
    split at h
    · rename_i n e ds hu
      split at h
      · rename_i hn
        obtain ⟨⟨y1, y2⟩, hy, h⟩ := Option.bind_eq_some_iff.1 h
        split at h
        · rename_i hc
          obtain rfl := Option.some.inj h
          obtain ⟨xs, m, rfl, hx, hl, hxs, hel⟩ := DataW.trod_array hu ht
          simp only [Prod.mk.injEq, DataW.agg.injEq] at hx
          obtain ⟨rfl, _⟩ := hx
          have := glue_drop (cs := cs) _ 0 y1 y2 hy (hl.trans hc.symm) (fun p hp us hus => by
            obtain ⟨i, hi⟩ := List.mem_iff_getElem?.1 hp
            rw [List.getElem?_mapIdx] at hi
            obtain ⟨z, hz, rfl⟩ := Option.map_eq_some_iff.1 hi
            rw [List.getElem?_map] at hz
            obtain ⟨u, hu', rfl⟩ := Option.map_eq_some_iff.1 hz
            have hi' : i < n := by rw [← hxs]; exact (List.getElem?_eq_some_iff.1 hu').1
            exact cells_of_tabs d e u.1 us hus m _ u.2 ((hel i hi').trans hu'))
          simpa using this
        · cases h
      · cases h
    · rename_i fs ds hu
      obtain ⟨⟨y1, y2⟩, hy, h⟩ := Option.bind_eq_some_iff.1 h
      split at h
      · rename_i hc
        obtain rfl := Option.some.inj h
        obtain ⟨xs, m, rfl, hx, hl, hxs, hel⟩ := DataW.trod_struct hu ht
        simp only [Prod.mk.injEq, DataW.agg.injEq] at hx
        obtain ⟨rfl, _⟩ := hx
        have := glue_drop (cs := cs) _ 0 y1 y2 hy (hl.trans hc.symm) (fun p hp us hus => by
          obtain ⟨i, hi⟩ := List.mem_iff_getElem?.1 hp
          rw [List.getElem?_zipWith] at hi
          cases hf : fs.toList[i]? with
          | none => simp [hf] at hi
          | some f =>
            cases hz : (xs.map (·.1))[i]? with
            | none => simp [hf, hz] at hi
            | some z =>
              simp only [hf, hz, Option.some.injEq] at hi
              subst hi
              rw [List.getElem?_map] at hz
              obtain ⟨u, hu', rfl⟩ := Option.map_eq_some_iff.1 hz
              exact cells_of_tabs d f.type u.1 us hus m _ u.2 ((hel i f (by simpa using hf)).trans hu'))
        simpa using this
      · cases h
    · rename_i a b c hu
      obtain rfl := Option.some.inj h
      cases fuel with
      | zero => simp [DataW.trod] at ht
      | succ n =>
        unfold DataW.trod at ht
        rw [hu] at ht
        split at ht <;> simp_all
    · rename_i a b c x1 x2 hu
      split at h
      · rename_i f0 hf
        obtain rfl := Option.some.inj h
        have : ∃ v, cs = [v] := by
          cases fuel with
          | zero => simp [DataW.trod] at ht
          | succ n =>
            unfold DataW.trod at ht
            rw [hu] at ht
            split at ht <;> simp_all
        obtain ⟨v, rfl⟩ := this
        rw [func_of_trod hu hf ht]
      · cases h
    · cases h
theorem glob_block {P : Program} {laid : List (String × DataW Unit)} {w : World} (h : laidMetH P laid w) {n : String} {d : DataW Unit} (hx : (n, DataW.iface "func table" d) ∈ laid) (g : Nat) (t : TypeId) (fuel : Nat) (vs : List Value)
    (hg : P.globalNamed n = some g) (ht : (P.globals[g]?).map (·.type) = some t) (hv : tabs P fuel t d.funcsOut = some vs) : ∃ e fz, w.heap[g]? = some (.cells vs.toArray e fz) := by
  obtain ⟨g', t', cs, fuel', p, hg', ht', hc, hd⟩ := h.funcs hx
  obtain rfl := Option.some.inj (hg.symm.trans hg')
  obtain rfl := Option.some.inj (ht.symm.trans ht')
  have hcs := cells_of_tabs fuel t _ vs hv fuel' _ p hd
  unfold World.var? at hc
  rw [hg] at hc
  simp only [Option.bind_some] at hc
  split at hc
  · rename_i c e fz he
    obtain rfl := Option.some.inj hc
    refine ⟨e, fz, ?_⟩
    rw [← hcs]
    simpa using he
  · cases hc
end Go.Sx
