/- BoxInflate: the plain law. Own work. -/
import Derived.Test.YtgccinodonkgjaaPlBoxIntersectIsGreatestLowerBound
set_option maxRecDepth 10000
set_option linter.unusedVariables false
set_option linter.unusedSimpArgs false
namespace Go.Proofs.Ytgccinodonkgjaa
open Go
theorem mag_law (x : Int) : ∃ d, armillarylaw03_magnitude x = some d ∧ 0 ≤ d ∧ d ≤ 16777215 := by
  have h := tm_bound x
  refine ⟨_, rfl, ?_⟩
  rw [w64 (by omega) (by omega)]
  have := mxl (Int.tmod x 16777216) (0 - Int.tmod x 16777216)
  omega
theorem infl_ok {a : TInterval} (h : Ok a) {d : Int} (hd : 0 ≤ d) : Ok (infl d a) := by
  unfold infl
  split
  · exact h
  · have := h.b; exact nw_ok (by omega)
theorem ent_eq {a : TInterval} (h : a.Lo = -2147483648) (h' : a.Hi = 2147483648) : a = Ent := by
  obtain ⟨x, y⟩ := a
  simp only at h h'
  subst h h'; rfl
theorem infl_cases {a : TInterval} (h : Ok a) {d : Int} (hd : 0 ≤ d) : (infl d a = Ent ∧ (a = Ent ∨ a.Lo - d ≤ -2147483648 ∨ 2147483648 ≤ a.Hi + d)) ∨ (infl d a = ⟨a.Lo - d, a.Hi + d⟩ ∧ Fin ⟨a.Lo - d, a.Hi + d⟩ ∧ Fin a) := by
  unfold infl
  rcases h with e | h
  · left; rw [if_pos e]; exact ⟨e, .inl e⟩
  · have hne : a ≠ Ent := by have := h.ne; simpa using this
    rw [if_neg hne]
    have h' := h
    unfold Fin at h'
    rcases nw_cases (a.Lo - d) (a.Hi + d) (by omega) with ⟨h1, h2⟩ | ⟨h1, h2⟩
    · left; exact ⟨h1, .inr h2⟩
    · right; exact ⟨h1, h2, h⟩
theorem sub_ent {a : TInterval} (h : Ok a) : subB a Ent = true := by
  rw [subB_iff]; have := h.b; exact ⟨by simp [Ent]; omega, by simp [Ent]; omega⟩
theorem infl_sub {a : TInterval} (h : Ok a) {d : Int} (hd : 0 ≤ d) : subB a (infl d a) = true := by
  rcases infl_cases h hd with ⟨e, _⟩ | ⟨e, _, _⟩
  · rw [e]; exact sub_ent h
  · rw [e, subB_iff]; simp only; omega
theorem infl_zero {a : TInterval} (h : Ok a) : infl 0 a = a := by
  unfold infl
  rcases h with e | h
  · rw [if_pos e]
  · split
    · rfl
    · rw [show a.Lo - 0 = a.Lo by omega, show a.Hi + 0 = a.Hi by omega]; exact nw_fin h
theorem infl_add {a : TInterval} (h : Ok a) {m n : Int} (hm : 0 ≤ m) (hn : 0 ≤ n) : infl n (infl m a) = infl (m + n) a := by
  rcases infl_cases h hm with ⟨e, hc⟩ | ⟨e, f1, f2⟩
  · rw [e]
    have h1 : infl n Ent = Ent := by unfold infl; rw [if_pos rfl]
    rw [h1]
    rcases infl_cases h (show 0 ≤ m + n by omega) with ⟨e2, _⟩ | ⟨e2, f3, f4⟩
    · exact e2.symm
    · exfalso
      unfold Fin at f3 f4
      simp only at f3
      rcases hc with hc | hc
      · rw [hc] at f4; simp [Ent] at f4
      · omega
  · rw [e]
    have hne : (⟨a.Lo - m, a.Hi + m⟩ : TInterval) ≠ Ent := by have := f1.ne; simpa using this
    have hne2 : a ≠ Ent := by have := f2.ne; simpa using this
    unfold infl
    rw [if_neg hne, if_neg hne2, show a.Lo - m - n = a.Lo - (m + n) by omega, show a.Hi + m + n = a.Hi + (m + n) by omega]
theorem infl_met {a b : TInterval} (ha : Ok a) (hb : Ok b) {m : Int} (hm : 0 ≤ m) (h1 : infl m a ≠ Ent) (h2 : infl m b ≠ Ent) : metB (infl m a) b = metB a (infl m b) := by
  rcases infl_cases ha hm with ⟨e, _⟩ | ⟨e, f1, f2⟩
  · exact absurd e h1
  rcases infl_cases hb hm with ⟨e', _⟩ | ⟨e', f3, f4⟩
  · exact absurd e' h2
  rw [e, e', Bool.eq_iff_iff, metB_iff, metB_iff]
  unfold Fin at f1 f2 f3 f4
  have g1 := mxl (a.Lo - m) b.Lo
  have g2 := mnl (a.Hi + m) b.Hi
  have g3 := mxl a.Lo (b.Lo - m)
  have g4 := mnl a.Hi (b.Hi + m)
  simp only at *
  omega
theorem infl_mono {a b : TInterval} (ha : Ok a) (hb : Ok b) {m : Int} (hm : 0 ≤ m) (h : subB a b = true) : subB (infl m a) (infl m b) = true := by
  rw [subB_iff] at h
  rcases infl_cases hb hm with ⟨e, _⟩ | ⟨e, f1, f2⟩
  · rw [e]; exact sub_ent (infl_ok ha hm)
  · rcases infl_cases ha hm with ⟨e', hc⟩ | ⟨e', f3, f4⟩
    · exfalso
      unfold Fin at f1 f2
      simp only at f1
      rcases hc with hc | hc
      · rw [hc] at h; simp [Ent] at h; omega
      · omega
    · rw [e, e', subB_iff]; simp only; omega
theorem inflate (x : TInput) (hN : 0 ≤ x.N ∧ x.N ≤ 255) (d e : Int) : armillarylaw03_BoxInflate 100 x d e = some true := by
  obtain ⟨n, h1, h6, hd, hb⟩ := boxes_eq hN (k := 100) (by omega)
  have hn : n < 1000000 := by omega
  have hk : n < 100 := by omega
  obtain ⟨m, em, m0, m1⟩ := mag_law d
  obtain ⟨l, el, l0, l1⟩ := mag_law e
  have hA : ∀ i, i < n → Ok (bx x.A i) := fun i _ => bx_ok _ i
  have hB : ∀ i, i < n → Ok (bx x.B i) := fun i _ => bx_ok _ i
  have hS : ∀ i, i < n → Ok (infl m (bx x.A i)) := fun i _ => infl_ok (bx_ok _ i) m0
  have b1 := binflate hn (bx x.A) m hk hA ⟨m0, by omega⟩
  have b2 := binflate hn (bx x.B) m hk hB ⟨m0, by omega⟩
  have b3 := binflate hn (bx x.A) 0 hk hA ⟨by omega, by omega⟩
  have b4 := binflate hn (fun i => infl m (bx x.A i)) l hk hS ⟨l0, by omega⟩
  have b5 := binflate hn (bx x.A) (m + l) hk hA ⟨by omega, by omega⟩
  have e0 : mk n (fun i => infl 0 (bx x.A i)) = mk n (bx x.A) := mk_congr fun i hi => infl_zero (hA i hi)
  have e1 : mk n (fun i => infl l (infl m (bx x.A i))) = mk n (fun i => infl (m + l) (bx x.A i)) := mk_congr fun i hi => infl_add (hA i hi) m0 l0
  have eV : allB n (fun i => decide (Ok (infl m (bx x.A i)))) = true := allB_iff.2 fun i hi => decide_eq_true (hS i hi)
  have eA : allB n (fun i => subB (bx x.A i) (infl m (bx x.A i))) = true := allB_iff.2 fun i hi => infl_sub (hA i hi) m0
  have eM : allB n (fun i => subB (bx x.A i) (bx x.B i)) = true → allB n (fun i => subB (infl m (bx x.A i)) (infl m (bx x.B i))) = true := fun h => allB_iff.2 fun i hi => infl_mono (hA i hi) (hB i hi) m0 (allB_iff.1 h i hi)
  have eI : (allB n fun i => !decide (infl m (bx x.A i) = Ent)) = true → (allB n fun i => !decide (infl m (bx x.B i) = Ent)) = true → allB n (fun i => metB (infl m (bx x.A i)) (bx x.B i)) = allB n (fun i => metB (bx x.A i) (infl m (bx x.B i))) := fun h h' => by
    have : ∀ i, i < n → metB (infl m (bx x.A i)) (bx x.B i) = metB (bx x.A i) (infl m (bx x.B i)) := fun i hi =>
      infl_met (hA i hi) (hB i hi) m0 (by simpa using allB_iff.1 h i hi) (by simpa using allB_iff.1 h' i hi)
    rw [Bool.eq_iff_iff, allB_iff, allB_iff]
    exact ⟨fun hh i hi => by rw [← this i hi]; exact hh i hi, fun hh i hi => by rw [this i hi]; exact hh i hi⟩
  have hw : w_i64 (m + l) = m + l := w64 (by omega) (by omega)
  have h2 : ∀ (c : Bool) (X : List TInterval), (if c = true then (X, true) else (([] : List TInterval), false)).2 = c := fun c X => by cases c <;> rfl
  unfold armillarylaw03_BoxInflate
  refine bT (sane 0) (bT hb (bT em (bT el ?_)))
  refine bT b1 ?_
  refine bT (v := true) (by rw [bvalid hn _ hk, dims h1 h6, eV]; rfl) ?_
  refine gT (v := true) rfl (by rw [bsubset hn, eA]) ?_
  refine bT (v := false) rfl (iF Bool.false_ne_true (iT rfl ?_))
  refine bT (v := mk n (bx x.A)) (by rw [b3, e0]) (bT (same_self hn _ hk) (bT (v := false) rfl (iF Bool.false_ne_true (iT rfl ?_))))
  refine bT b4 (bT (v := mk n fun i => infl l (infl m (bx x.A i))) (by rw [hw, b5, e1]) ?_)
  refine bT (same_self hn _ hk) (iF Bool.false_ne_true ?_)
  refine bT (bint hn _ _) (bT b2 (bT (bint hn _ _) (bT (v := true) rfl (iT rfl ?_))))
  rw [h2, h2]
  have tail : ((box_Subset (mk n (bx x.A)) (mk n (bx x.B))).bind fun t32 => (some (!t32)).bind fun z33 => if z33 = true then some true else if z33 = false then (box_Inflate 100 (mk n (bx x.B)) m).bind fun t34 => (box_Subset (mk n fun i => infl m (bx x.A i)) t34).bind fun t35 => some t35 else none) = some true := by
    cases hab : allB n (fun i => subB (bx x.A i) (bx x.B i)) with
    | false => exact bT (v := false) (by rw [bsubset hn, hab]) (bT (v := true) rfl (iT rfl rfl))
    | true => exact bT (v := true) (by rw [bsubset hn, hab]) (bT (v := false) rfl (iF Bool.false_ne_true (iT rfl (bT b2 (bT (v := true) (by rw [bsubset hn, eM hab]) rfl)))))
  cases hc : (allB n (fun i => metB (infl m (bx x.A i)) (bx x.B i)) == allB n (fun i => metB (bx x.A i) (infl m (bx x.B i)))) with
  | true => exact gF (by simp) (bT (v := true) rfl (iT rfl tail))
  | false =>
    cases hu : (allB n fun i => !decide (infl m (bx x.A i) = Ent)) with
    | false => exact gT (v := true) rfl (by rw [unb hn _ hk, hu]; rfl) (bT (v := true) rfl (iT rfl tail))
    | true =>
      refine gT (v := false) rfl (by rw [unb hn _ hk, hu]; rfl) (bT (v := false) rfl (iF Bool.false_ne_true (iT rfl (bT b2 ?_))))
      cases hv : (allB n fun i => !decide (infl m (bx x.B i) = Ent)) with
      | false => exact bT (v := true) (by rw [unb hn _ hk, hv]; rfl) (bT (v := true) rfl (iT rfl tail))
      | true => rw [eI hu hv] at hc; simp at hc
theorem Pure_BoxInflate : armillarylaw03_BoxInflate.Pure := by
  intro A B C N p0 p1 d e _ _ _ hN _ _ _ _
  exact ⟨100, inflate _ hN d e⟩
end Go.Proofs.Ytgccinodonkgjaa
