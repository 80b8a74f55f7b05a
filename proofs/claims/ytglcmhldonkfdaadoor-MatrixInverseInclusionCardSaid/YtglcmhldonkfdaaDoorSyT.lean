/- Sx: words and proofs for walking code by symbolic states (the part 'SyT'). Own work, the same for every seat. -/
import Derived.Test.YtglcmhldonkfdaaDoorSyE
set_option linter.unusedVariables false
set_option linter.unusedSimpArgs false
namespace Go.Sx
open Go Go.RowKit
def maskOf (ms : List Nat) (o : Oper) : Nat := (predsOf o).foldr (fun e m => (m ||| 2 ^ e) ||| ms.getD e 0) 0
def indepU : List Oper → List (List Nat × List Nat) → Nat → List (Nat × List Nat × List Nat) → List Nat → Bool
  | o :: os, (R, W) :: rw, i, pre, ms => (pre.all fun x => Nat.testBit (maskOf ms o) x.1 || (disj x.2.2 R && disj x.2.2 W && disj x.2.1 W && !(R.contains (TK + x.1)))) && indepU os rw (i + 1) ((i, R, W) :: pre) (ms ++ [maskOf ms o])
  | _, _, _, _, _ => true
theorem mask_spec {ms : List Nat} {k : Nat} : ∀ {l : List Nat}, Nat.testBit (l.foldr (fun e m => (m ||| 2 ^ e) ||| ms.getD e 0) 0) k = true → ∃ e ∈ l, k = e ∨ Nat.testBit (ms.getD e 0) k = true
  | [], h => by simp at h
  | e :: l, h => by
    simp only [List.foldr_cons, Nat.testBit_or, Bool.or_eq_true] at h
    rcases h with (h | h) | h
    · obtain ⟨e', he', hk⟩ := mask_spec (l := l) h
      exact ⟨e', List.mem_cons_of_mem _ he', hk⟩
    · rw [Nat.testBit_two_pow] at h
      exact ⟨e, by simp, .inl (of_decide_eq_true h).symm⟩
    · exact ⟨e, by simp, .inr h⟩
def MasksOK (ops : List Oper) (ms : List Nat) : Prop := ms.length ≤ ops.length ∧ ∀ (m b : Nat) (o : Oper), ms[m]? = some b → ops[m]? = some o → ∀ k, Nat.testBit b k = true → ∀ D, DownC ops D → (∀ e ∈ predsOf o, D e = true) → D k = true
theorem mask_ok {ops : List Oper} {ms : List Nat} (h : MasksOK ops ms) {o : Oper} {k : Nat} (hk : Nat.testBit (maskOf ms o) k = true) {D : Nat → Bool} (hD : DownC ops D) (hp : ∀ e ∈ predsOf o, D e = true) : D k = true := by
  obtain ⟨e, he, hk⟩ := mask_spec hk
  rcases hk with rfl | hk
  · exact hp _ he
  · cases hb : ms[e]? with
    | none => simp [List.getD, hb] at hk
    | some b =>
      simp only [List.getD, hb, Option.getD_some] at hk
      cases ho : ops[e]? with
      | none =>
        exfalso
        have h1 : e < ms.length := (List.getElem?_eq_some_iff.1 hb).1
        have h2 := h.1
        rw [List.getElem?_eq_none_iff] at ho
        omega
      | some oe => exact h.2 e b oe hb ho k hk D hD (hD e oe (hp e he) ho)
theorem indepU_aux {ops : List Oper} {rwA : List (List Nat × List Nat)} : ∀ (os : List Oper) (rw : List (List Nat × List Nat)) (i : Nat) (pre : List (Nat × List Nat × List Nat)) (ms : List Nat), indepU os rw i pre ms = true → ms.length = i → MasksOK ops ms →
    (∀ j, os[j]? = ops[i + j]?) → (∀ j, rw[j]? = rwA[i + j]?) → (∀ m R W, m < i → rwA[m]? = some (R, W) → (m, R, W) ∈ pre) →
    ∀ (j : Nat) (o : Oper) (R W : List Nat), i ≤ j → ops[j]? = some o → rwA[j]? = some (R, W) → ∀ (m : Nat) (R' W' : List Nat), m < j → rwA[m]? = some (R', W') →
    ∀ D, DownC ops D → (∀ e ∈ predsOf o, D e = true) → D m = true ∨ (disj W' R = true ∧ disj W' W = true ∧ disj R' W = true ∧ TK + m ∉ R)
  | [], rw, i, pre, ms, _, _, _, hos, _, _, j, o, R, W, hij, ho, _ => by
    have := hos (j - i)
    rw [show i + (j - i) = j by omega, ho] at this
    simp at this
  | o0 :: os, [], i, pre, ms, _, _, _, _, hrw, _, j, o, R, W, hij, _, hr => by
    have := hrw (j - i)
    rw [show i + (j - i) = j by omega, hr] at this
    simp at this
  | o0 :: os, (R0, W0) :: rw, i, pre, ms, h, hl, hM, hos, hrw, hpre, j, o, R, W, hij, ho, hr => by
    rw [indepU, Bool.and_eq_true] at h
    intro m R' W' hmj hm D hD hp
    have h0 : ops[i]? = some o0 := by have := hos 0; simpa using this.symm
    have hr0 : rwA[i]? = some (R0, W0) := by have := hrw 0; simpa using this.symm
    by_cases e : j = i
    · subst e
      obtain rfl : o0 = o := Option.some.inj (h0.symm.trans ho)
      obtain ⟨rfl, rfl⟩ : R0 = R ∧ W0 = W := by have := Option.some.inj (hr0.symm.trans hr); simpa using this
      have h1 := List.all_eq_true.1 h.1 (m, R', W') (hpre m R' W' hmj hm)
      simp only [Bool.or_eq_true, Bool.and_eq_true] at h1
      rcases h1 with h1 | h1
      · exact .inl (mask_ok hM h1 hD hp)
      · exact .inr ⟨h1.1.1.1, h1.1.1.2, h1.1.2, by simpa using h1.2⟩
    · refine indepU_aux os rw (i + 1) ((i, R0, W0) :: pre) (ms ++ [maskOf ms o0]) h.2 (by simp [hl]) ⟨?_, ?_⟩ (fun k => ?_) (fun k => ?_) (fun m R W hmi hr => ?_) j o R W (by omega) ho hr m R' W' hmj hm D hD hp
      · have := (List.getElem?_eq_some_iff.1 h0).1
        simp only [List.length_append, List.length_cons, List.length_nil]
        omega
      · intro m b o' hb ho' k hk D hD hp
        by_cases em : m < ms.length
        · rw [List.getElem?_append_left em] at hb
          exact hM.2 m b o' hb ho' k hk D hD hp
        · have em' : m = i := by
            have := (List.getElem?_eq_some_iff.1 hb).1
            simp at this
            omega
          subst em'
          rw [List.getElem?_append_right (by omega), hl] at hb
          simp at hb
          subst hb
          obtain rfl : o0 = o' := Option.some.inj (h0.symm.trans ho')
          exact mask_ok hM hk hD hp
      · have := hos (k + 1)
        rw [List.getElem?_cons_succ] at this
        rw [this, show i + (k + 1) = i + 1 + k by omega]
      · have := hrw (k + 1)
        rw [List.getElem?_cons_succ] at this
        rw [this, show i + (k + 1) = i + 1 + k by omega]
      · by_cases em : m = i
        · subst em
          have := Option.some.inj (hr0.symm.trans hr)
          rw [← this]; simp
        · exact List.mem_cons_of_mem _ (hpre m R W (by omega) hr)
theorem indepU_spec {ops : List Oper} {rw : List (List Nat × List Nat)} (h : indepU ops rw 0 [] [] = true) {i j : Nat} {o : Oper} {R W R' W' : List Nat} (hij : i < j) (ho : ops[j]? = some o) (hj : rw[j]? = some (R, W)) (hi : rw[i]? = some (R', W'))
    {D : Nat → Bool} (hD : DownC ops D) (hp : ∀ e ∈ predsOf o, D e = true) : D i = true ∨ (disj W' R = true ∧ disj W' W = true ∧ disj R' W = true ∧ TK + i ∉ R) :=
  indepU_aux ops rw 0 [] [] h rfl ⟨Nat.zero_le _, fun m b o h => by simp at h⟩ (fun j => by simp) (fun j => by simp) (fun m R W hm => by omega) j o R W (Nat.zero_le _) ho hj i R' W' hij hi D hD hp
section
variable {P : Program} {ops : Array Oper} {B : Nat} {w0 : World} {n : Nat}
theorem Chain.anyorderT {Q : Exit → Act → World → Prop} {S0 : St} {Se : Nu → St} {rw : List (List Nat × List Nat)} {a : Act} {w : World} (hc : Chain P ops B w0 n 0 ops.toList (fun _ => S0) rw Se)
    (hi : indepU ops.toList rw 0 [] [] = true) (hf : forward ops.toList 0 = true) (hr : Rep B w0 n S0 a w)
    (hQ : ∀ ν a w, Rep B w0 n (Se ν) a w → Q .normal a w) (fuel : Nat) (hfuel : ops.size ≤ fuel) : wpAny P .any ops Q fuel (Array.replicate ops.size false) a w := by
  obtain ⟨hlen, us, hus, hSe⟩ := Chain.parts _ _ _ _ hc
  have hl : ops.toList.length = ops.size := Array.length_toList
  have hget : ∀ j o, ops[j]? = some o → ops.toList[j]? = some o := fun j o h => by rw [Array.getElem?_toList]; exact h
  -- the done set
  let D (L : Array Bool) : Nat → Bool := fun j => L.getD j false
  have main : ∀ (fuel : Nat) (L : Array Bool) (p : PNu) (a : Act) (w : World), L.size = ops.size → (∀ j, D L j = false → p j = none) → (∀ j, D L j = true → ∃ g, p j = some g) →
      (∀ j o, D L j = true → ops[j]? = some o → ∀ e ∈ o.after, Region.binds .any e = true → D L e.on = true) →
      (∀ ν, Ext p ν → Rep B w0 n (can us (D L) S0 ν ops.size) a w) → ((List.range ops.size).filter fun j => !D L j).length ≤ fuel → wpAny P .any ops Q fuel L a w := by
    intro fuel
    have hdone : ∀ (L : Array Bool) (p : PNu) (a : Act) (w : World), L.size = ops.size →
      (∀ j o, D L j = true → ops[j]? = some o → ∀ e ∈ o.after, Region.binds .any e = true → D L e.on = true) →
      (∀ ν, Ext p ν → Rep B w0 n (can us (D L) S0 ν ops.size) a w) → Region.ready .any ops L = [] → Q .normal a w := by
      intro L p a w hL hdown hrep hno
      have hall : ∀ j, j < ops.size → D L j = true := by
        intro j
        induction j using Nat.strongRecOn with
        | _ j ih =>
          intro hj
          cases hD : D L j with
          | true => rfl
          | false =>
            have : j ∈ Region.ready .any ops L := by
              rw [mem_ready]
              refine ⟨?_, ops[j], by simp [hj], fun e he hb => ?_⟩
              · have : L.getD j false = false := hD
                simp only [Array.getD_eq_getD_getElem?] at this ⊢
                rw [Array.getElem?_eq_getElem (by omega)] at this ⊢
                exact this
              · have h1 := forward_spec _ _ hf j ops[j] (by simp [hj]) e he hb
                simp only [Nat.zero_add] at h1
                exact ih e.on h1 (by omega)
            rw [hno] at this; cases this
      obtain ⟨ν, hν⟩ := Ext.exists p
      refine hQ ν a w ((hrep ν hν).congr fun k => ?_)
      rw [hSe ν, hl]
      exact can_congr _ fun j hj _ => (hall j hj).symm
    induction fuel with
    | zero =>
      intro L p a w hL hp hps hdown hrep hcount
      have hno : Region.ready .any ops L = [] := by
        cases hrd : Region.ready .any ops L with
        | nil => rfl
        | cons j rest =>
          exfalso
          have hj : j ∈ Region.ready .any ops L := by rw [hrd]; simp
          obtain ⟨h1, o, ho, _⟩ := mem_ready.1 hj
          have hjs : j < ops.size := (Array.getElem?_eq_some_iff.1 ho).1
          have : j ∈ (List.range ops.size).filter fun j => !D L j := by
            simp only [List.mem_filter, List.mem_range, hjs, true_and, Bool.not_eq_true']
            show L.getD j false = false
            simp only [Array.getD_eq_getD_getElem?] at h1 ⊢
            rw [Array.getElem?_eq_getElem (by omega)] at h1 ⊢
            exact h1
          have := List.length_pos_of_mem this
          omega
      exact ⟨hno, hdone L p a w hL hdown hrep hno⟩
    | succ fuel ih =>
      intro L p a w hL hp hps hdown hrep hcount
      refine ⟨hdone L p a w hL hdown hrep, fun i hi' => ?_⟩
      obtain ⟨hLi, o, ho, hpre⟩ := mem_ready.1 hi'
      have his : i < ops.size := (Array.getElem?_eq_some_iff.1 ho).1
      have hDi : D L i = false := by
        show L.getD i false = false
        simp only [Array.getD_eq_getD_getElem?] at hLi ⊢
        rw [Array.getElem?_eq_getElem (by omega)] at hLi ⊢
        exact hLi
      obtain ⟨R, W, hrw, hW, hT, hok⟩ := hus i o (hget i o ho)
      simp only [Nat.zero_add] at hok hT
      -- what touches what it touches is done if it stands before it, and isn't done if it stands behind it
      have hord : ∀ j, j < ops.size → j ≠ i → (∃ R' W', rw[j]? = some (R', W') ∧ ¬ (disj W' R = true ∧ disj W' W = true ∧ disj R' W = true) ∧ j < i) ∨ (∃ R' W', rw[j]? = some (R', W') ∧ ¬ (disj W R' = true ∧ disj W W' = true ∧ disj R W' = true) ∧ i < j) → D L j = decide (j < i) := by
        intro j hj hne hcase
        have hDC : DownC ops.toList (D L) := fun j' o' hDj' ho' e he => by
          obtain ⟨e', he', rfl⟩ := List.mem_map.1 he
          rw [List.mem_filter] at he'
          exact hdown j' o' hDj' (by simpa using ho') e' (by simpa using he'.1) he'.2
        rcases hcase with ⟨R', W', hr', hn, hlt⟩ | ⟨R', W', hr', hn, hlt⟩
        · have h3 := indepU_spec hi hlt (hget i o ho) hrw hr' hDC (fun e he => by
            obtain ⟨e', he', rfl⟩ := List.mem_map.1 he
            rw [List.mem_filter] at he'
            exact hpre e' (by simpa using he'.1) he'.2)
          have := h3.resolve_right fun q => hn ⟨q.1, q.2.1, q.2.2.1⟩
          simp only [hlt, decide_true]; exact this
        · obtain ⟨oj, hoj⟩ : ∃ oj, ops[j]? = some oj := ⟨ops[j], by simp [hj]⟩
          cases hDj : D L j with
          | false => have : ¬ j < i := by omega
                     simp [this]
          | true =>
            have h3 := indepU_spec hi hlt (hget j oj hoj) hr' hrw hDC (hDC j oj hDj (hget j oj hoj))
            have := h3.resolve_right fun q => hn ⟨q.1, q.2.1, q.2.2.1⟩
            rw [hDi] at this; cases this
      have hag : ∀ ν, Ext p ν → ∀ k ∈ R, can us (D L) S0 ν ops.size k = can us (fun _ => true) S0 ν i k := by
        intro ν _ k hk
        have e1 : can us (D L) S0 ν ops.size k = can us (fun j => decide (j < i)) S0 ν ops.size k := by
          refine can_congr _ fun j hj hkj => ?_
          by_cases hji : j = i
          · subst hji; rw [hDi]; simp
          · obtain ⟨oj, hoj⟩ : ∃ oj, ops[j]? = some oj := ⟨ops[j], by simp [hj]⟩
            obtain ⟨R', W', hrw', hW', _, _⟩ := hus j oj (hget j oj hoj)
            rw [hW' ν] at hkj
            refine hord j hj hji ?_
            rcases Nat.lt_or_ge j i with hlt | hge
            · exact .inl ⟨R', W', hrw', fun hd => disj_spec hd.1 hkj hk, hlt⟩
            · exact .inr ⟨R', W', hrw', fun hd => disj_spec hd.2.2 hk hkj, by omega⟩
        rw [e1]
        have key : ∀ m, i ≤ m → can us (fun j => decide (j < i)) S0 ν m k = can us (fun _ => true) S0 ν i k := by
          intro m
          induction m with
          | zero => intro hm; have : i = 0 := by omega
                    subst this; rfl
          | succ m ihm =>
            intro hm
            by_cases e : i = m + 1
            · subst e
              exact can_congr _ fun j hj _ => by simp [hj]
            · rw [can, if_neg (by simp; omega)]
              exact ihm (by omega)
        exact key _ (by omega)
      have hJ : ∀ j, TK + j ∈ R → ∃ g, p j = some g := by
        intro j hj
        have hlt := tokOK_spec hT hj
        have hDC : DownC ops.toList (D L) := fun j' o' hDj' ho' e he => by
          obtain ⟨e', he', rfl⟩ := List.mem_map.1 he
          rw [List.mem_filter] at he'
          exact hdown j' o' hDj' (by simpa using ho') e' (by simpa using he'.1) he'.2
        obtain ⟨oj, hoj⟩ : ∃ oj, ops[j]? = some oj := ⟨ops[j]'(by omega), by simp [show j < ops.size by omega]⟩
        obtain ⟨R', W', hrw', _, _, _⟩ := hus j oj (hget j oj hoj)
        have h3 := indepU_spec hi hlt (hget i o ho) hrw hrw' hDC (fun e he => by
            obtain ⟨e', he', rfl⟩ := List.mem_map.1 he
            rw [List.mem_filter] at he'
            exact hpre e' (by simpa using he'.1) he'.2)
        exact hps j (h3.resolve_right fun q => q.2.2.2 hj)
      refine wpOp_mono ?_ (hok Q p (fun ν => can us (D L) S0 ν ops.size) a w hag (hp i hDi) ho hrep hJ)
      rintro a' w' ⟨g, hg⟩
      have hDset : ∀ j, D (L.setIfInBounds i true) j = (D L j || decide (j = i)) := by
        intro j
        show (L.setIfInBounds i true).getD j false = _
        by_cases e : j = i
        · subst e
          simp [Array.getD_eq_getD_getElem?, hL, his]
        · rw [getD_set_ne false (fun h => e h.symm)]
          simp [e, D]
      refine ih (L.setIfInBounds i true) (p.set i g) a' w' (by simp [hL]) ?_ ?_ ?_ ?_ ?_
      · intro j hj
        rw [hDset] at hj
        simp only [Bool.or_eq_false_iff, decide_eq_false_iff_not] at hj
        simp only [PNu.set, hj.2, if_false]
        exact hp j hj.1
      · intro j hj
        rw [hDset] at hj
        by_cases e : j = i
        · exact ⟨g, by simp [PNu.set, e]⟩
        · obtain ⟨g', hg'⟩ := hps j (by simpa [e] using hj)
          exact ⟨g', by simp [PNu.set, e, hg']⟩
      · intro j oj hj hoj e he hb
        rw [hDset] at hj ⊢
        simp only [Bool.or_eq_true, decide_eq_true_eq] at hj ⊢
        rcases hj with hj | hj
        · exact .inl (hdown j oj hj hoj e he hb)
        · subst hj
          rw [ho] at hoj
          injection hoj with hoj
          subst hoj
          exact .inl (hpre e he hb)
      · intro ν hν
        refine (hg ν hν).congr fun k => ?_
        have hfun : D (L.setIfInBounds i true) = fun j => D L j || decide (j = i) := funext hDset
        rw [hfun]
        refine can_add hDi k _ his ?_
        intro j hij hj hDj hki hkj
        obtain ⟨oj, hoj⟩ : ∃ oj, ops[j]? = some oj := ⟨ops[j], by simp [hj]⟩
        obtain ⟨R', W', hrw', hW', _, _⟩ := hus j oj (hget j oj hoj)
        rw [hW ν] at hki
        rw [hW' ν] at hkj
        have := hord j hj (by omega) (.inr ⟨R', W', hrw', fun hd => disj_spec hd.2.1 hki hkj, hij⟩)
        rw [hDj] at this
        simp at this
        omega
      · have hsub : ((List.range ops.size).filter fun j => !D (L.setIfInBounds i true) j) = ((List.range ops.size).filter fun j => !D L j).filter fun j => !decide (j = i) := by
          rw [List.filter_filter]
          refine List.filter_congr fun j _ => ?_
          rw [hDset]
          cases D L j <;> simp
        rw [hsub]
        have hmem : i ∈ (List.range ops.size).filter fun j => !D L j := by simp [his, hDi]
        have : (((List.range ops.size).filter fun j => !D L j).filter fun j => !decide (j = i)).length < ((List.range ops.size).filter fun j => !D L j).length := by
          refine List.length_filter_lt_length_iff_exists.2 ⟨i, hmem, by simp⟩
        omega
  have hno : ∀ j, ¬ D (Array.replicate ops.size false) j = true := fun j hj => by
    have : (Array.replicate ops.size false).getD j false = true := hj
    by_cases hjs : j < ops.size <;> simp [Array.getD_eq_getD_getElem?, hjs] at this
  refine main fuel _ (fun _ => none) a w (by simp) (fun _ _ => rfl) (fun j hj => absurd hj (hno j)) ?_ ?_ ?_
  · intro j o hj
    have : (Array.replicate ops.size false).getD j false = true := hj
    by_cases hjs : j < ops.size <;> simp [Array.getD_eq_getD_getElem?, hjs] at this
  · intro ν _
    refine hr.congr fun k => ?_
    have key : ∀ m, can us (D (Array.replicate ops.size false)) S0 ν m = S0 := by
      intro m
      induction m with
      | zero => rfl
      | succ m ih =>
        have : D (Array.replicate ops.size false) m = false := by
          show (Array.replicate ops.size false).getD m false = false
          by_cases hjs : m < ops.size <;> simp [Array.getD_eq_getD_getElem?, hjs]
        rw [can, this]; simpa using ih
    rw [key]
  · refine Nat.le_trans (List.length_filter_le _ _) ?_
    simpa using hfuel
end
theorem k_regT {P : Program} {N R : K} {xs : List (Nat × K)} {a : Act} {w : World} {B n id : Nat} {w0 : World} {ops : Array Oper} {draw : Bool} {S0 : St} {Se : Nu → St} {rw : List (List Nat × List Nat)} (hm : P.follows .mixedOrders = true)
    (hr : Rep B w0 n S0 a w) (hc : Chain P ops B w0 n 0 ops.toList (fun _ => S0) rw Se)
    (hi : (draw && (indepU ops.toList rw 0 [] [] && forward ops.toList 0)) = true)
    (hQ : ∀ ν a w, Rep B w0 n (Se ν) a w → N a w) : (Code.region id ops draw).wp P (mkQ N xs R) a w := by
  cases draw with
  | false => cases hi
  | true =>
    simp only [Bool.true_and, Bool.and_eq_true] at hi
    refine wp_region_any hm ?_
    have hr' : Rep B w0 n S0 a { w with drawn := w.drawn + 1 } := hr.world ⟨rfl, rfl, rfl, Nat.le_refl _, fun _ _ => rfl⟩
    exact Chain.anyorderT hc hi.1 hi.2 hr' (fun ν a w h => hQ ν a w h) _ (Nat.le_refl _)
end Go.Sx
