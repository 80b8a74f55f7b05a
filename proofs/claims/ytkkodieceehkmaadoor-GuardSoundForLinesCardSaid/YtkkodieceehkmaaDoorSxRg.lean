/- Sx: words and proofs for walking code by symbolic states (the part 'Rg'). Own work, the same for every seat. -/
import Derived.Test.YtkkodieceehkmaaDoorSxRf
namespace Go.Sx
open Go Go.RowKit
/-! ### A region whose operations may call yield: the chain, within a fence -/
theorem rpc {Rp : St → Act → World → Prop} {S S' : St} {a : Act} {w : World} (h : Rp S a w) (e : ∀ k, S' k = S k) : Rp S' a w := by
  have : S' = S := funext e
  subst this; exact h
def OpOKi (ro : Option Nat) (P : Program) (ops : Array Oper) (Rp : St → Act → World → Prop) (i : Nat) (o : Oper) (Spre : Nu → St) (R : List Nat) (u : Nu → List (Nat × KV)) : Prop :=
  ∀ (Q : Exit → Act → World → Prop) (p : PNu) (S : Nu → St) (a : Act) (w : World),
    (∀ ν, Ext p ν → ∀ k ∈ R, S ν k = Spre ν k) → p i = none → ops[i]? = some o → (∀ ν, Ext p ν → Rp (S ν) a w) →
    wpOpIn (WF ro) 0 P ops Q i (fun a' w' => ∃ g, ∀ ν, Ext (p.set i g) ν → Rp (updAll (S ν) (u ν)) a' w') a w
/-- A state whose one entry is at kJ. -/
def RepO (kJ B : Nat) (w0 : World) (n : Nat) (S : St) (a : Act) (w : World) : Prop := Rep B w0 n S a w ∧ ∀ k, k ≠ kJ → S k = .none ∨ isSlot (S k) = true
theorem only_upd {kJ : Nat} : ∀ (u : List (Nat × KV)) (S : St), (u.all fun x => isSlot x.2) = true → (∀ k, k ≠ kJ → S k = .none ∨ isSlot (S k) = true) → ∀ k, k ≠ kJ → updAll S u k = .none ∨ isSlot (updAll S u k) = true
  | [], _, _, h => h
  | (j, v) :: u, S, hu, h => by
    simp only [List.all_cons, Bool.and_eq_true] at hu
    refine only_upd u _ hu.2 fun k hk => ?_
    by_cases e : k = j
    · subst e; rw [upd_same]; exact .inr hu.1
    · rw [upd_ne _ _ e]; exact h k hk
theorem oki {kJ : Nat} {ro : Option Nat} {P : Program} {ops : Array Oper} {B : Nat} {w0 : World} {n i : Nat} {o : Oper} {Spre : Nu → St} {R : List Nat} {u : Nu → List (Nat × KV)} (h : OpOK P ops B w0 n i o Spre R u) (hd : noDef o = true := by rfl)
    (hu : ∀ ν, ((u ν).all fun x => isSlot x.2) = true := by intro _; kernel_rfl) : OpOKi ro P ops (RepO kJ B w0 n) i o Spre R u := by
  intro Q p S a w h1 h2 h3 h4
  have := op_in (ro := ro) (m := 0) (ds := []) (Q := Q) (QN := fun _ _ => True) (fun o' ho' => by rw [h3] at ho'; injection ho' with e; subst e; exact hd) (h (onlyN fun _ _ => True) p S a w h1 h2 h3 fun ν hν => (h4 ν hν).1)
  rw [wd_nil] at this
  refine wpOpIn_mono ?_ this
  rintro a' w' ⟨a0, rfl, g, hk⟩
  rw [wd_nil]
  exact ⟨g, fun ν hν => ⟨hk ν hν, only_upd (u ν) _ (hu ν) (h4 ν (hν.of_set h2)).2⟩⟩

/-! ### Which operations must have been carried out ahead, by way of others too -/
def predsOf (o : Oper) : List Nat := (o.after.toList.filter fun e => Region.binds .any e).map (·.on)
def ancs : List Oper → List (List Nat) → List (List Nat)
  | [], as_ => as_
  | o :: r, as_ => ancs r (as_ ++ [(predsOf o).flatMap fun e => e :: as_.getD e []])
def DownC (ops : List Oper) (D : Nat → Bool) : Prop := ∀ (j : Nat) o, D j = true → ops[j]? = some o → ∀ e ∈ predsOf o, D e = true
def AncOK (ops : List Oper) (as_ : List (List Nat)) : Prop := ∀ (m : Nat) (l : List Nat) (o : Oper), as_[m]? = some l → ops[m]? = some o → ∀ k ∈ l, ∀ D, DownC ops D → (∀ e ∈ predsOf o, D e = true) → D k = true
theorem ancs_ok {ops : List Oper} : ∀ (r : List Oper) (as_ : List (List Nat)), (∀ j, r[j]? = ops[as_.length + j]?) → AncOK ops as_ → AncOK ops (ancs r as_)
  | [], _, _, h => h
  | o :: r, as_, hr, h => by
    refine ancs_ok r _ (fun j => by have := hr (j + 1); simpa [Nat.add_assoc, Nat.add_comm 1 j] using this) ?_
    intro m l o' hl ho' k hk D hD hp
    by_cases hm : m < as_.length
    · rw [List.getElem?_append_left hm] at hl
      exact h m l o' hl ho' k hk D hD hp
    · rw [List.getElem?_append_right (by omega)] at hl
      have hm' : m = as_.length := by
        have := (List.getElem?_eq_some_iff.1 hl).1
        simp at this; omega
      subst hm'
      simp only [Nat.sub_self, List.getElem?_cons_zero, Option.some.injEq] at hl
      subst hl
      have e0 : o' = o := by
        have := hr 0
        simp only [List.getElem?_cons_zero, Nat.add_zero] at this
        rw [← this] at ho'; injection ho' with e; exact e.symm
      subst e0
      obtain ⟨e, he, hk⟩ := List.mem_flatMap.1 hk
      have hDe := hp e he
      rcases List.mem_cons.1 hk with rfl | hk
      · exact hDe
      · cases hae : as_[e]? with
        | none => simp [List.getD, hae] at hk
        | some l' =>
          simp only [List.getD, hae, Option.getD_some] at hk
          have hel : e < as_.length := (List.getElem?_eq_some_iff.1 hae).1
          cases hoe : ops[e]? with
          | none =>
            exfalso
            have h1 : as_.length < ops.length := (List.getElem?_eq_some_iff.1 ho').1
            rw [List.getElem?_eq_none_iff] at hoe
            omega
          | some oe => exact h e l' oe hae hoe k hk D hD (hD e oe hDe hoe)
def indepT (ops : List Oper) (rw : List (List Nat × List Nat)) : Bool :=
  let as_ := ancs ops []
  (List.range ops.length).all fun j => (List.range j).all fun i => (as_.getD j []).contains i || (let x := rw.getD i ([], []); let y := rw.getD j ([], []); disj x.2 y.1 && disj x.2 y.2 && disj x.1 y.2)
theorem indepT_spec {ops : List Oper} {rw : List (List Nat × List Nat)} (h : indepT ops rw = true) {i j : Nat} {o : Oper} {R W R' W' : List Nat} (hij : i < j) (ho : ops[j]? = some o) (hj : rw[j]? = some (R, W)) (hi : rw[i]? = some (R', W'))
    {D : Nat → Bool} (hD : DownC ops D) (hp : ∀ e ∈ predsOf o, D e = true) : D i = true ∨ (disj W' R = true ∧ disj W' W = true ∧ disj R' W = true) := by
  have hjl : j < ops.length := (List.getElem?_eq_some_iff.1 ho).1
  have h1 := List.all_eq_true.1 (List.all_eq_true.1 h j (List.mem_range.2 hjl)) i (List.mem_range.2 hij)
  simp only [Bool.or_eq_true, Bool.and_eq_true] at h1
  rcases h1 with h1 | h1
  · left
    have hA : AncOK ops (ancs ops []) := ancs_ok ops [] (fun j => by simp) (fun m l o hl => by simp at hl)
    cases hl : (ancs ops [])[j]? with
    | none => simp [List.getD, hl] at h1
    | some l =>
      simp only [List.getD, hl, Option.getD_some] at h1
      exact hA j l o hl ho i (by simpa using h1) D hD hp
  · right
    simp only [List.getD, hj, hi, Option.getD_some] at h1
    exact ⟨h1.1.1, h1.1.2, h1.2⟩
section
variable {ro : Option Nat} {P : Program} {ops : Array Oper} {Rp : St → Act → World → Prop}
/-- The operations of a region, one behind the other. -/
inductive ChainI (ro : Option Nat) (P : Program) (ops : Array Oper) (Rp : St → Act → World → Prop) : Nat → List Oper → (Nu → St) → List (List Nat × List Nat) → (Nu → St) → Prop
  | nil {i : Nat} {S : Nu → St} : ChainI ro P ops Rp i [] S [] S
  | cons {i : Nat} {o : Oper} {rest : List Oper} {S Se : Nu → St} {R : List Nat} {rw : List (List Nat × List Nat)} {u : Nu → List (Nat × KV)} (W : List Nat) (h : OpOKi ro P ops Rp i o S R u)
      (t : ChainI ro P ops Rp (i + 1) rest (fun ν => updAll (S ν) (u ν)) rw Se) (hW : ∀ ν, (u ν).map Prod.fst = W := by intro _; kernel_rfl) : ChainI ro P ops Rp i (o :: rest) S ((R, W) :: rw) Se

set_option linter.unusedVariables false in
theorem ChainI.inorder {Q : Exit → Act → World → Prop} {Se : Nu → St} : ∀ (l : List Oper) (i : Nat) (S : Nu → St) (rw : List (List Nat × List Nat)) (p : PNu) (a : Act) (w : World),
    ChainI ro P ops Rp i l S rw Se → (∀ j, l[j]? = ops[i + j]?) → p.free i → (∀ ν, Ext p ν → Rp (S ν) a w) →
    (∀ p a w, (∀ ν, Ext p ν → Rp (Se ν) a w) → Q .normal a w) → wpOpsIn (WF ro) 0 P ops Q (List.range' i l.length) a w
  | [], i, S, rw, p, a, w, hc, hl, hp, hr, hQ => by
    cases hc
    exact hQ p a w hr
  | o :: rest, i, S, rw, p, a, w, hc, hl, hp, hr, hQ => by
    cases hc with
    | cons W h t hW =>
      simp only [List.length_cons, List.range'_succ]
      rw [wpOpsIn_cons]
      refine wpOpIn_mono ?_ (h Q p S a w (fun ν _ k _ => rfl) (hp i (Nat.le_refl _)) (by simpa using (hl 0).symm) hr)
      rintro a' w' ⟨g, hg⟩
      exact ChainI.inorder rest (i + 1) _ _ (p.set i g) a' w' t (fun j => by have := hl (j + 1); simpa [Nat.add_assoc, Nat.add_comm 1 j] using this)
        (fun j hj => by have := hp j (by omega); simp only [PNu.set, this]; rw [if_neg (by omega)]) hg hQ


theorem ChainI.parts {Se : Nu → St} : ∀ (l : List Oper) (i : Nat) (S : Nu → St) (rw : List (List Nat × List Nat)), ChainI ro P ops Rp i l S rw Se → rw.length = l.length ∧
    ∃ us : Nat → Nu → List (Nat × KV), (∀ j o, l[j]? = some o → ∃ R W, rw[j]? = some (R, W) ∧ (∀ ν, (us j ν).map Prod.fst = W) ∧ OpOKi ro P ops Rp (i + j) o (fun ν => can us (fun _ => true) (S ν) ν j) R (us j)) ∧
      ∀ ν, Se ν = can us (fun _ => true) (S ν) ν l.length
  | [], i, S, rw, h => by
    cases h
    exact ⟨rfl, fun _ _ => [], fun j o h => by simp at h, fun ν => rfl⟩
  | o0 :: l, i, S, rw, h => by
    cases h with
    | @cons _ _ _ _ _ R rw' u W h t hW =>
      obtain ⟨h1, us, h2, h3⟩ := ChainI.parts l (i + 1) _ rw' t
      have hshift : ∀ (ν : Nu) (m : Nat), can (fun j ν => match j with | 0 => u ν | j + 1 => us j ν) (fun _ => true) (S ν) ν (m + 1) = can us (fun _ => true) (updAll (S ν) (u ν)) ν m := by
        intro ν m
        induction m with
        | zero => simp [can]
        | succ m ih =>
          rw [can, ih]
          simp [can]
      refine ⟨by simp [h1], fun j ν => match j with | 0 => u ν | j + 1 => us j ν, fun j o ho => ?_, fun ν => ?_⟩
      · cases j with
        | zero =>
          simp only [List.getElem?_cons_zero, Option.some.injEq] at ho
          subst ho
          exact ⟨R, W, rfl, hW, h⟩
        | succ j =>
          obtain ⟨R', W', hr, hW', ho'⟩ := h2 j o (by simpa using ho)
          refine ⟨R', W', by simpa using hr, hW', ?_⟩
          simp only [hshift]
          rw [show i + (j + 1) = i + 1 + j by omega]
          exact ho'
      · rw [h3 ν, ← hshift]; rfl

theorem ChainI.anyorder {Q : Exit → Act → World → Prop} {S0 : St} {Se : Nu → St} {rw : List (List Nat × List Nat)} {a : Act} {w : World} (hc : ChainI ro P ops Rp 0 ops.toList (fun _ => S0) rw Se)
    (hi : indepT ops.toList rw = true) (hf : forward ops.toList 0 = true) (hr : Rp S0 a w)
    (hQ : ∀ ν a w, Rp (Se ν) a w → Q .normal a w) (fuel : Nat) (hfuel : ops.size ≤ fuel) : wpAnyIn (WF ro) 0 P .any ops Q fuel (Array.replicate ops.size false) a w := by
  obtain ⟨hlen, us, hus, hSe⟩ := ChainI.parts _ _ _ _ hc
  have hl : ops.toList.length = ops.size := Array.length_toList
  have hget : ∀ j o, ops[j]? = some o → ops.toList[j]? = some o := fun j o h => by rw [Array.getElem?_toList]; exact h
  -- the done set
  let D (L : Array Bool) : Nat → Bool := fun j => L.getD j false
  have main : ∀ (fuel : Nat) (L : Array Bool) (p : PNu) (a : Act) (w : World), L.size = ops.size → (∀ j, D L j = false → p j = none) →
      (∀ j o, D L j = true → ops[j]? = some o → ∀ e ∈ o.after, Region.binds .any e = true → D L e.on = true) →
      (∀ ν, Ext p ν → Rp (can us (D L) S0 ν ops.size) a w) → ((List.range ops.size).filter fun j => !D L j).length ≤ fuel → wpAnyIn (WF ro) 0 P .any ops Q fuel L a w := by
    intro fuel
    have hdone : ∀ (L : Array Bool) (p : PNu) (a : Act) (w : World), L.size = ops.size →
      (∀ j o, D L j = true → ops[j]? = some o → ∀ e ∈ o.after, Region.binds .any e = true → D L e.on = true) →
      (∀ ν, Ext p ν → Rp (can us (D L) S0 ν ops.size) a w) → Region.ready .any ops L = [] → Q .normal a w := by
      intro L p a w hL hdown hrep hno
      have hall : ∀ j, j < ops.size → D L j = true := by
        intro j
        induction j using Nat.strongRecOn with
        | _ j ih =>
          intro hj
          cases hD : D L j with
          | true => rfl
          | false =>
            have : j ∈ Region.ready .any ops L := by
              rw [mem_ready]
              refine ⟨?_, ops[j], by simp [hj], fun e he hb => ?_⟩
              · have : L.getD j false = false := hD
                simp only [Array.getD_eq_getD_getElem?] at this ⊢
                rw [Array.getElem?_eq_getElem (by omega)] at this ⊢
                exact this
              · have h1 := forward_spec _ _ hf j ops[j] (by simp [hj]) e he hb
                simp only [Nat.zero_add] at h1
                exact ih e.on h1 (by omega)
            rw [hno] at this; cases this
      obtain ⟨ν, hν⟩ := Ext.exists p
      refine hQ ν a w (rpc (hrep ν hν) fun k => ?_)
      rw [hSe ν, hl]
      exact can_congr _ fun j hj _ => (hall j hj).symm
    induction fuel with
    | zero =>
      intro L p a w hL hp hdown hrep hcount
      have hno : Region.ready .any ops L = [] := by
        cases hrd : Region.ready .any ops L with
        | nil => rfl
        | cons j rest =>
          exfalso
          have hj : j ∈ Region.ready .any ops L := by rw [hrd]; simp
          obtain ⟨h1, o, ho, _⟩ := mem_ready.1 hj
          have hjs : j < ops.size := (Array.getElem?_eq_some_iff.1 ho).1
          have : j ∈ (List.range ops.size).filter fun j => !D L j := by
            simp only [List.mem_filter, List.mem_range, hjs, true_and, Bool.not_eq_true']
            show L.getD j false = false
            simp only [Array.getD_eq_getD_getElem?] at h1 ⊢
            rw [Array.getElem?_eq_getElem (by omega)] at h1 ⊢
            exact h1
          have := List.length_pos_of_mem this
          omega
      exact ⟨hno, hdone L p a w hL hdown hrep hno⟩
    | succ fuel ih =>
      intro L p a w hL hp hdown hrep hcount
      refine ⟨hdone L p a w hL hdown hrep, fun i hi' => ?_⟩
      obtain ⟨hLi, o, ho, hpre⟩ := mem_ready.1 hi'
      have his : i < ops.size := (Array.getElem?_eq_some_iff.1 ho).1
      have hDi : D L i = false := by
        show L.getD i false = false
        simp only [Array.getD_eq_getD_getElem?] at hLi ⊢
        rw [Array.getElem?_eq_getElem (by omega)] at hLi ⊢
        exact hLi
      obtain ⟨R, W, hrw, hW, hok⟩ := hus i o (hget i o ho)
      simp only [Nat.zero_add] at hok
      -- what touches what it touches is done if it stands before it, and isn't done if it stands behind it
      have hord : ∀ j, j < ops.size → j ≠ i → (∃ R' W', rw[j]? = some (R', W') ∧ ¬ (disj W' R = true ∧ disj W' W = true ∧ disj R' W = true) ∧ j < i) ∨ (∃ R' W', rw[j]? = some (R', W') ∧ ¬ (disj W R' = true ∧ disj W W' = true ∧ disj R W' = true) ∧ i < j) → D L j = decide (j < i) := by
        intro j hj hne hcase
        have hDC : DownC ops.toList (D L) := fun j' o' hDj' ho' e he => by
          obtain ⟨e', he', rfl⟩ := List.mem_map.1 he
          rw [List.mem_filter] at he'
          exact hdown j' o' hDj' (by simpa using ho') e' (by simpa using he'.1) he'.2
        rcases hcase with ⟨R', W', hr', hn, hlt⟩ | ⟨R', W', hr', hn, hlt⟩
        · have h3 := indepT_spec hi hlt (hget i o ho) hrw hr' hDC (fun e he => by
            obtain ⟨e', he', rfl⟩ := List.mem_map.1 he
            rw [List.mem_filter] at he'
            exact hpre e' (by simpa using he'.1) he'.2)
          have := h3.resolve_right hn
          simp only [hlt, decide_true]; exact this
        · obtain ⟨oj, hoj⟩ : ∃ oj, ops[j]? = some oj := ⟨ops[j], by simp [hj]⟩
          cases hDj : D L j with
          | false => have : ¬ j < i := by omega
                     simp [this]
          | true =>
            have h3 := indepT_spec hi hlt (hget j oj hoj) hr' hrw hDC (hDC j oj hDj (hget j oj hoj))
            have := h3.resolve_right hn
            rw [hDi] at this; cases this
      have hag : ∀ ν, Ext p ν → ∀ k ∈ R, can us (D L) S0 ν ops.size k = can us (fun _ => true) S0 ν i k := by
        intro ν _ k hk
        have e1 : can us (D L) S0 ν ops.size k = can us (fun j => decide (j < i)) S0 ν ops.size k := by
          refine can_congr _ fun j hj hkj => ?_
          by_cases hji : j = i
          · subst hji; rw [hDi]; simp
          · obtain ⟨oj, hoj⟩ : ∃ oj, ops[j]? = some oj := ⟨ops[j], by simp [hj]⟩
            obtain ⟨R', W', hrw', hW', _⟩ := hus j oj (hget j oj hoj)
            rw [hW' ν] at hkj
            refine hord j hj hji ?_
            rcases Nat.lt_or_ge j i with hlt | hge
            · exact .inl ⟨R', W', hrw', fun hd => disj_spec hd.1 hkj hk, hlt⟩
            · exact .inr ⟨R', W', hrw', fun hd => disj_spec hd.2.2 hk hkj, by omega⟩
        rw [e1]
        have key : ∀ m, i ≤ m → can us (fun j => decide (j < i)) S0 ν m k = can us (fun _ => true) S0 ν i k := by
          intro m
          induction m with
          | zero => intro hm; have : i = 0 := by omega
                    subst this; rfl
          | succ m ihm =>
            intro hm
            by_cases e : i = m + 1
            · subst e
              exact can_congr _ fun j hj _ => by simp [hj]
            · rw [can, if_neg (by simp; omega)]
              exact ihm (by omega)
        exact key _ (by omega)
      refine wpOpIn_mono ?_ (hok Q p (fun ν => can us (D L) S0 ν ops.size) a w hag (hp i hDi) ho hrep)
      rintro a' w' ⟨g, hg⟩
      have hDset : ∀ j, D (L.setIfInBounds i true) j = (D L j || decide (j = i)) := by
        intro j
        show (L.setIfInBounds i true).getD j false = _
        by_cases e : j = i
        · subst e
          simp [Array.getD_eq_getD_getElem?, hL, his]
        · rw [getD_set_ne false (fun h => e h.symm)]
          simp [e, D]
      refine ih (L.setIfInBounds i true) (p.set i g) a' w' (by simp [hL]) ?_ ?_ ?_ ?_
      · intro j hj
        rw [hDset] at hj
        simp only [Bool.or_eq_false_iff, decide_eq_false_iff_not] at hj
        simp only [PNu.set, hj.2, if_false]
        exact hp j hj.1
      · intro j oj hj hoj e he hb
        rw [hDset] at hj ⊢
        simp only [Bool.or_eq_true, decide_eq_true_eq] at hj ⊢
        rcases hj with hj | hj
        · exact .inl (hdown j oj hj hoj e he hb)
        · subst hj
          rw [ho] at hoj
          injection hoj with hoj
          subst hoj
          exact .inl (hpre e he hb)
      · intro ν hν
        refine rpc (hg ν hν) fun k => ?_
        have hfun : D (L.setIfInBounds i true) = fun j => D L j || decide (j = i) := funext hDset
        rw [hfun]
        refine can_add hDi k _ his ?_
        intro j hij hj hDj hki hkj
        obtain ⟨oj, hoj⟩ : ∃ oj, ops[j]? = some oj := ⟨ops[j], by simp [hj]⟩
        obtain ⟨R', W', hrw', hW', _⟩ := hus j oj (hget j oj hoj)
        rw [hW ν] at hki
        rw [hW' ν] at hkj
        have := hord j hj (by omega) (.inr ⟨R', W', hrw', fun hd => disj_spec hd.2.1 hki hkj, hij⟩)
        rw [hDj] at this
        simp at this
        omega
      · have hsub : ((List.range ops.size).filter fun j => !D (L.setIfInBounds i true) j) = ((List.range ops.size).filter fun j => !D L j).filter fun j => !decide (j = i) := by
          rw [List.filter_filter]
          refine List.filter_congr fun j _ => ?_
          rw [hDset]
          cases D L j <;> simp
        rw [hsub]
        have hmem : i ∈ (List.range ops.size).filter fun j => !D L j := by simp [his, hDi]
        have : (((List.range ops.size).filter fun j => !D L j).filter fun j => !decide (j = i)).length < ((List.range ops.size).filter fun j => !D L j).length := by
          refine List.length_filter_lt_length_iff_exists.2 ⟨i, hmem, by simp⟩
        omega
  refine main fuel _ (fun _ => none) a w (by simp) (fun _ _ => rfl) ?_ ?_ ?_
  · intro j o hj
    have : (Array.replicate ops.size false).getD j false = true := hj
    by_cases hjs : j < ops.size <;> simp [Array.getD_eq_getD_getElem?, hjs] at this
  · intro ν _
    refine rpc hr fun k => ?_
    have key : ∀ m, can us (D (Array.replicate ops.size false)) S0 ν m = S0 := by
      intro m
      induction m with
      | zero => rfl
      | succ m ih =>
        have : D (Array.replicate ops.size false) m = false := by
          show (Array.replicate ops.size false).getD m false = false
          by_cases hjs : m < ops.size <;> simp [Array.getD_eq_getD_getElem?, hjs]
        rw [can, this]; simpa using ih
    rw [key]
  · refine Nat.le_trans (List.length_filter_le _ _) ?_
    simpa using hfuel


/-- A region, whatever its order. -/
theorem y_reg {draw : Bool} {id : Nat} {Q : Exit → Act → World → Prop} {S0 : St} {Se : Nu → St} {rw : List (List Nat × List Nat)} {a : Act} {w : World} (hm : P.follows .mixedOrders = true)
    (hr : Rp S0 a w) (hc : ChainI ro P ops Rp 0 ops.toList (fun _ => S0) rw Se)
    (hi : (!draw || (indepT ops.toList rw && forward ops.toList 0)) = true) (hdr : ∀ S a w, Rp S a w → Rp S a { w with drawn := w.drawn + 1 })
    (hQ : ∀ ν a w, Rp (Se ν) a w → Q .normal a w) : (Code.region id ops draw).wpIn (WF ro) 0 P Q a w := by
  cases draw with
  | false =>
    refine wpIn_region ?_
    have := ChainI.inorder (Q := Q) ops.toList 0 (fun _ => S0) rw (fun _ => none) a w hc (fun j => by simp) (fun _ _ => rfl) (fun _ _ => hr)
      (fun p a w h => by obtain ⟨ν, hν⟩ := Ext.exists p; exact hQ ν a w (h ν hν))
    rw [List.range_eq_range', ← Array.length_toList]
    exact this
  | true =>
    simp only [Bool.not_true, Bool.false_or, Bool.and_eq_true] at hi
    refine wpIn_region_any hm ?_
    have hr' : Rp S0 a { w with drawn := w.drawn + 1 } := hdr _ _ _ hr
    exact ChainI.anyorder hc hi.1 hi.2 hr' hQ _ (Nat.le_refl _)
end
end Go.Sx
