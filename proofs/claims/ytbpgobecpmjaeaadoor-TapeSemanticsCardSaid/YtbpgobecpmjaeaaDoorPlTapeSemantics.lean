/- A tape written back as expressions; the law. Own work. -/
import Derived.Test.YtbpgobecpmjaeaaDoorPlAll2
set_option maxRecDepth 10000
set_option linter.unusedVariables false
set_option linter.unusedSimpArgs false
namespace Go.Proofs.YtbpgobecpmjaeaaDoor
open Go Go.Sx
def rowOf (e : Ex) : List TNode := if e.code.length ≤ 200 then e.code else []
theorem rowOf_len (e : Ex) : (rowOf e).length ≤ 200 := by
  unfold rowOf
  by_cases h : e.code.length ≤ 200
  · rw [if_pos h]; exact h
  · rw [if_neg h]; decide
theorem rowOf_pos (e : Ex) : decide (((rowOf e).length : Int) > 0) = decide (e.code.length ≤ 200) := by
  unfold rowOf
  have := e.code_pos
  by_cases h : e.code.length ≤ 200
  · rw [if_pos h]; simp only [h, decide_true, decide_eq_true_eq]; omega
  · rw [if_neg h]; simp only [h, decide_false]; rfl
theorem rowOf_of {e : Ex} {b : Bool} {c : List TNode} (hb : b = true → c = e.code) (hf : b = false → 200 < e.code.length) : (if ((!b) || (decide ((c.length : Int) > 200))) = true then some (([] : List TNode)) else some c) = some (rowOf e) := by
  unfold rowOf
  cases b with
  | false =>
    have := hf rfl
    rw [if_pos (by rfl), if_neg (by omega)]
  | true =>
    obtain rfl := hb rfl
    by_cases h : e.code.length ≤ 200
    · rw [if_neg (by simp; omega), if_pos h]
    · rw [if_pos (by simp; omega), if_neg h]
theorem dec_step {n : Int} {c : TTape} {ts : List Ex} (hT : Tp n c.L ts) (hS : c.L.length < 1000) {k0 : Nat} {i : Nat} (hi : i < c.L.length) (k : Nat) :
    armillaryref08_Decompile.l24 k0 c (k + 1) ((ts.take i).map rowOf) (i : Int) = armillaryref08_Decompile.l24 k0 c k ((ts.take (i + 1)).map rowOf) ((i + 1 : Nat) : Int) := by
  have hl1 := hT.len
  have hin : 0 ≤ (i : Int) ∧ (i : Int) < (c.L.length : Int) := by omega
  have hx : c.L[((i : Int)).toNat]? = some c.L[i] := by rw [Int.toNat_natCast]; exact List.getElem?_eq_getElem hi
  obtain ⟨e, h1, h2⟩ := hT.get (List.getElem?_eq_getElem hi)
  have hrl : ((ts.take i).map rowOf).length = i := by rw [List.length_map, List.length_take]; omega
  have hnext : (ts.take (i + 1)).map rowOf = (ts.take i).map rowOf ++ [rowOf e] := by rw [List.take_add_one, h1]; simp
  rw [hnext]
  generalize hR : (ts.take i).map rowOf = R at hrl
  have opd : ∀ {a : Int} {u : Ex}, At (ts.take i) a u → (0 ≤ a ∧ a < (R.length : Int)) ∧ R[a.toNat]? = some (rowOf u) := fun {a u} h => by
    have hlt := h.lt
    rw [List.length_take] at hlt
    have h0 := h.1
    refine ⟨by omega, ?_⟩
    rw [← hR, List.getElem?_map, h.2]; rfl
  rw [armillaryref08_Decompile.l24, if_pos (by simpa using hin.2), wk (by omega) (by omega), show ((i : Int) + 1) = ((i + 1 : Nat) : Int) by omega]
  generalize hxx : c.L[i] = x at h2 hx
  refine iT hin (bT hx ?_)
  have fin : (if R.length < 1000000 then armillaryref08_Decompile.l24 k0 c k (R ++ [rowOf e]) ((i + 1 : Nat) : Int) else none) = armillaryref08_Decompile.l24 k0 c k (R ++ [rowOf e]) ((i + 1 : Nat) : Int) := iT (by omega) rfl
  cases h2 with
  | num q h => exact bT (v := 0) rfl (bT (v := ([⟨1, 0, q⟩], true)) rfl (bT (v := ([⟨1, 0, q⟩], true)) rfl (bT (v := rowOf (.num q)) rfl fin)))
  | var q h => exact bT (v := q) rfl (bT (v := ([⟨2, q, Z0⟩], true)) rfl (bT (v := ([⟨2, q, Z0⟩], true)) rfl (bT (v := rowOf (.var q)) rfl fin)))
  | time => exact bT (v := 0) rfl (bT (v := ([⟨3, 0, Z0⟩], true)) rfl (bT (v := ([⟨3, 0, Z0⟩], true)) rfl (bT (v := rowOf .time) rfl fin)))
  | neg a u h =>
    obtain ⟨g1, g2⟩ := opd h
    have hul := rowOf_len u
    refine bT (v := 0) rfl (bT (v := (⟨4, 0, Z0⟩ :: rowOf u, decide (((rowOf u).length : Int) > 0))) (bT (ra1 (op := 4) (by decide)) (iT (by decide) (iT g1 (bT g2 (iT ⟨by omega, by show 1 < 1000000; decide⟩ (iT g1 (bT g2 rfl))))))) (bT (v := (⟨4, 0, Z0⟩ :: rowOf u, decide (((rowOf u).length : Int) > 0))) (bT (ra1 (op := 4) (by decide)) (iF (by decide) rfl)) (bT (rowOf_of (e := .neg u) ?_ ?_) fin)))
    · intro hb
      rw [rowOf_pos, decide_eq_true_eq] at hb
      show _ :: rowOf u = _ :: u.code
      rw [rowOf, if_pos hb]
    · intro hb
      rw [rowOf_pos, decide_eq_false_iff_not] at hb
      simp only [Ex.code, List.length_cons]; omega
  | sqr a u h =>
    obtain ⟨g1, g2⟩ := opd h
    have hul := rowOf_len u
    refine bT (v := 0) rfl (bT (v := (⟨5, 0, Z0⟩ :: rowOf u, decide (((rowOf u).length : Int) > 0))) (bT (ra1 (op := 5) (by decide)) (iT (by decide) (iT g1 (bT g2 (iT ⟨by omega, by show 1 < 1000000; decide⟩ (iT g1 (bT g2 rfl))))))) (bT (v := (⟨5, 0, Z0⟩ :: rowOf u, decide (((rowOf u).length : Int) > 0))) (bT (ra1 (op := 5) (by decide)) (iF (by decide) rfl)) (bT (rowOf_of (e := .sqr u) ?_ ?_) fin)))
    · intro hb
      rw [rowOf_pos, decide_eq_true_eq] at hb
      show _ :: rowOf u = _ :: u.code
      rw [rowOf, if_pos hb]
    · intro hb
      rw [rowOf_pos, decide_eq_false_iff_not] at hb
      simp only [Ex.code, List.length_cons]; omega
  | sqrt a u h =>
    obtain ⟨g1, g2⟩ := opd h
    have hul := rowOf_len u
    refine bT (v := 0) rfl (bT (v := (⟨6, 0, Z0⟩ :: rowOf u, decide (((rowOf u).length : Int) > 0))) (bT (ra1 (op := 6) (by decide)) (iT (by decide) (iT g1 (bT g2 (iT ⟨by omega, by show 1 < 1000000; decide⟩ (iT g1 (bT g2 rfl))))))) (bT (v := (⟨6, 0, Z0⟩ :: rowOf u, decide (((rowOf u).length : Int) > 0))) (bT (ra1 (op := 6) (by decide)) (iF (by decide) rfl)) (bT (rowOf_of (e := .sqrt u) ?_ ?_) fin)))
    · intro hb
      rw [rowOf_pos, decide_eq_true_eq] at hb
      show _ :: rowOf u = _ :: u.code
      rw [rowOf, if_pos hb]
    · intro hb
      rw [rowOf_pos, decide_eq_false_iff_not] at hb
      simp only [Ex.code, List.length_cons]; omega
  | bin op a b u w ho h h' =>
    obtain ⟨g1, g2⟩ := opd h
    obtain ⟨d1, d2⟩ := opd h'
    have hul := rowOf_len u
    have hwl := rowOf_len w
    have hj31 : (if ((op : Int) == 2) = true then some a else some 0) = some (0 : Int) := iF (by simp; omega) rfl
    refine bT (v := 0) hj31 (bT (v := (⟨op, 0, Z0⟩ :: rowOf u, decide (((rowOf u).length : Int) > 0))) (bT (ra2 (op := op) ho) (iT (by decide) (iT g1 (bT g2 (iT ⟨by omega, by show 1 < 1000000; decide⟩ (iT g1 (bT g2 rfl))))))) ?_)
    have hcode : (Ex.bin op u w).code = ⟨op, 0, Z0⟩ :: (u.code ++ w.code) := rfl
    have hlen : ((⟨op, 0, Z0⟩ : TNode) :: rowOf u).length < 1000000 := by simp only [List.length_cons]; omega
    by_cases hu : u.code.length ≤ 200
    · have hb1 : decide (((rowOf u).length : Int) > 0) = true := by rw [rowOf_pos]; simpa using hu
      refine bT (v := (⟨op, 0, Z0⟩ :: rowOf u ++ rowOf w, decide (((rowOf w).length : Int) > 0))) (bT (ra2 (op := op) ho) (iT (by decide) (iT d1 (bT d2 (iT ⟨by omega, hlen⟩ (bT (v := true) (congrArg some hb1) (iT rfl (iT d1 (bT d2 rfl)))))))))  (bT (rowOf_of (e := .bin op u w) ?_ ?_) fin)
      · intro hb
        rw [rowOf_pos, decide_eq_true_eq] at hb
        rw [hcode, rowOf, rowOf, if_pos hb, if_pos hu]; rfl
      · intro hb
        rw [rowOf_pos, decide_eq_false_iff_not] at hb
        rw [hcode]
        simp only [List.length_cons, List.length_append]; omega
    · have hb1 : decide (((rowOf u).length : Int) > 0) = false := by rw [rowOf_pos]; simpa using hu
      refine bT (v := (⟨op, 0, Z0⟩ :: rowOf u ++ rowOf w, false)) (bT (ra2 (op := op) ho) (iT (by decide) (iT d1 (bT d2 (iT ⟨by omega, hlen⟩ (bT (v := false) (congrArg some hb1) (iF (by decide) (iT rfl rfl))))))))  (bT (rowOf_of (e := .bin op u w) (fun hb => by cases hb) ?_) fin)
      intro _
      rw [hcode]
      simp only [List.length_cons, List.length_append]; omega
theorem dec_loop {n : Int} {c : TTape} {ts : List Ex} (hT : Tp n c.L ts) (hS : c.L.length < 1000) {k0 : Nat} : ∀ (r i k : Nat), i + r = c.L.length → r < k → armillaryref08_Decompile.l24 k0 c k ((ts.take i).map rowOf) (i : Int) = some (ts.map rowOf)
  | 0, i, k, hi, hk => by
    obtain ⟨k, rfl⟩ : ∃ q, k = q + 1 := ⟨k - 1, by omega⟩
    have hl1 := hT.len
    rw [armillaryref08_Decompile.l24, if_neg (by simp; omega), List.take_of_length_le (by omega)]
  | r + 1, i, k, hi, hk => by
    obtain ⟨k, rfl⟩ : ∃ q, k = q + 1 := ⟨k - 1, by omega⟩
    rw [dec_step hT hS (by omega) k]
    exact dec_loop hT hS r (i + 1) k (by omega) (by omega)
theorem dout_loop {c : TTape} {ts : List Ex} (hO : c.Out.length < 1000) {k0 : Nat} : ∀ (r p : List Int) (er ep : List Ex) (k : Nat), c.Out = p ++ r → r.length < k → Outs ts r er → p.length = ep.length → armillaryref08_Decompile.l11 k0 c (ts.map rowOf) k (ep.map rowOf) (p.length : Int) = some ((ep ++ er).map rowOf)
  | [], p, er, ep, k, hp, hk, hr, hpe => by
    obtain ⟨k, rfl⟩ : ∃ q, k = q + 1 := ⟨k - 1, by omega⟩
    cases hr
    rw [List.append_nil] at hp ⊢
    rw [armillaryref08_Decompile.l11, if_neg (by rw [hp]; simp)]
  | a :: r, p, er, ep, k, hp, hk, hr, hpe => by
    obtain ⟨k, rfl⟩ : ∃ q, k = q + 1 := ⟨k - 1, by omega⟩
    obtain ⟨e, er, rfl, ha, hr⟩ := hr.cons_inv
    simp only [List.length_cons] at hk
    have hpl : p.length + (r.length + 1) = c.Out.length := by rw [hp]; simp
    have hin : 0 ≤ (p.length : Int) ∧ (p.length : Int) < (c.Out.length : Int) := by omega
    have hg : c.Out[((p.length : Int)).toNat]? = some a := by rw [Int.toNat_natCast, hp, List.getElem?_append_right (Nat.le_refl _), Nat.sub_self]; rfl
    have hal := ha.lt
    have ha0 := ha.1
    have hrow : (ts.map rowOf)[a.toNat]? = some (rowOf e) := by rw [List.getElem?_map, ha.2]; rfl
    rw [armillaryref08_Decompile.l11, if_pos (by simpa using hin.2), if_pos hin, hg, Option.bind_some, if_pos (by rw [List.length_map]; omega), hrow, Option.bind_some, if_pos (by rw [List.length_map]; omega), wk (by omega) (by omega)]
    have := dout_loop hO (k0 := k0) r (p ++ [a]) er (ep ++ [e]) k (by rw [hp]; simp) (by omega) hr (by simp [hpe])
    rw [List.length_append, List.map_append] at this
    rw [show ep ++ e :: er = ep ++ [e] ++ er by simp]
    exact this
theorem dec_eq {n : Int} {c : TTape} {ts es : List Ex} (hT : Tp n c.L ts) (hS : c.L.length < 1000) (hO : Outs ts c.Out es) (hO2 : es.length < 1000) {k : Nat} (hk : 1000 < k) : armillaryref08_Decompile k c = some (es.map rowOf) := by
  have hl := All2.len hO
  unfold armillaryref08_Decompile
  exact bT (dec_loop hT hS c.L.length 0 k (by omega) (by omega)) (bT (dout_loop (ts := ts) (c := c) (by omega) c.Out [] es [] k rfl (by omega) hO rfl) rfl)
abbrev P1 : TInterval := ⟨65536, 65536⟩
def fixE (e : Ex) : Ex := if e.code.length ≤ 200 then e else .num P1
theorem sys_loop {c : TTape} {t4 : List (List TNode)} {es : List Ex} (ht : t4 = es.map rowOf) (hl : es.length ≤ 6) {k0 : Nat} : ∀ (r p : List Ex) (nm : List ByteArray) (k : Nat), es = p ++ r → r.length < k → nm.length = p.length → ∃ nm', armillaryref08_System.l13 k0 c t4 k nm ((p.map fixE).map Ex.code) (p.length : Int) = some (nm', (es.map fixE).map Ex.code)
  | [], p, nm, k, hp, hk, hn => by
    obtain ⟨k, rfl⟩ : ∃ q, k = q + 1 := ⟨k - 1, by omega⟩
    rw [List.append_nil] at hp
    exact ⟨nm, by rw [armillaryref08_System.l13, if_neg (by rw [ht, hp]; simp), hp]⟩
  | e :: r, p, nm, k, hp, hk, hn => by
    obtain ⟨k, rfl⟩ : ∃ q, k = q + 1 := ⟨k - 1, by omega⟩
    simp only [List.length_cons] at hk
    have hpl : p.length + (r.length + 1) = es.length := by rw [hp]; simp
    have htl : t4.length = es.length := by rw [ht]; simp
    have hin : 0 ≤ (p.length : Int) ∧ (p.length : Int) < (t4.length : Int) := by omega
    have hg : t4[((p.length : Int)).toNat]? = some (rowOf e) := by rw [ht, Int.toNat_natCast, List.getElem?_map, hp, List.getElem?_append_right (Nat.le_refl _), Nat.sub_self]; rfl
    have hj : (if (((rowOf e).length : Int) == 0) = true then (armillaryref02_Point 65536).bind fun t29 => some (([(⟨1, 0, t29⟩ : TNode)] : List TNode)) else some (rowOf e)) = some (fixE e).code := by
      have hcp := e.code_pos
      unfold rowOf fixE
      by_cases h : e.code.length ≤ 200
      · rw [if_pos h, if_pos h]
        exact iF (by simp; intro h0; rw [h0] at hcp; exact absurd hcp (by decide)) rfl
      · rw [if_neg h, if_neg h]; rfl
    obtain ⟨v, hv⟩ : ∃ v, ([(⟨#[120]⟩ : ByteArray), (⟨#[121]⟩ : ByteArray), (⟨#[122]⟩ : ByteArray), (⟨#[117]⟩ : ByteArray), (⟨#[118]⟩ : ByteArray), (⟨#[119]⟩ : ByteArray)] : List ByteArray)[((p.length : Int)).toNat]? = some v := ⟨_, List.getElem?_eq_getElem (by show ((p.length : Int)).toNat < 6; omega)⟩
    rw [armillaryref08_System.l13, if_pos (by simpa using hin.2), if_pos hin, hg, Option.bind_some, hj, Option.bind_some, if_pos (by omega), hv, Option.bind_some, if_pos (by omega), if_pos (by rw [List.length_map, List.length_map]; omega), wk (by omega) (by omega)]
    obtain ⟨nm', h⟩ := sys_loop (c := c) ht hl (k0 := k0) r (p ++ [e]) (nm ++ [v]) k (by rw [hp]; simp) (by omega) (by simp [hn])
    rw [List.length_append, List.map_append, List.map_append] at h
    exact ⟨nm', h⟩
theorem sys_eq {n : Int} {c : TTape} {ts es : List Ex} (hT : Tp n c.L ts) (hS : c.L.length < 1000) (hO : Outs ts c.Out es) (hO2 : es.length ≤ 6) {k : Nat} (hk : 1000 < k) : ∃ nm, armillaryref08_System k c = some ⟨nm, (es.map fixE).map Ex.code⟩ := by
  obtain ⟨nm, h⟩ := sys_loop (c := c) (t4 := es.map rowOf) rfl hO2 (k0 := k) es [] [] k rfl (by omega) rfl
  refine ⟨nm, ?_⟩
  unfold armillaryref08_System
  exact bT (dec_eq hT hS hO (by omega) hk) (bT h rfl)
theorem dep_le : ∀ e : Ex, e.dep ≤ e.code.length
  | .num _ | .var _ | .time => by simp [Ex.dep, Ex.code]
  | .neg e | .sqr e | .sqrt e => by
    have := dep_le e
    simp only [Ex.dep, Ex.code, List.length_cons]; omega
  | .bin _ a b => by
    have := dep_le a
    have := dep_le b
    simp only [Ex.dep, Ex.code, List.length_cons, List.length_append]; omega
theorem Tp.closed {n : Int} {l : List TInstruction} {ts : List Ex} (h : Tp n l ts) : Cl ts := by
  intro e he s hs
  obtain ⟨i, hi⟩ := List.mem_iff_getElem?.1 he
  have hil : i < l.length := by rw [h.len]; exact (List.getElem?_eq_some_iff.1 hi).1
  obtain ⟨e', h1, h2⟩ := h.get' (List.getElem?_eq_getElem hil)
  obtain rfl := Option.some.inj (h1.symm.trans hi)
  generalize l[i] = x at h2
  cases h2 with
  | num => cases hs
  | var => cases hs
  | time => cases hs
  | neg a u g => simp only [Ex.subs, List.mem_singleton] at hs; subst hs; exact g.mem
  | sqr a u g => simp only [Ex.subs, List.mem_singleton] at hs; subst hs; exact g.mem
  | sqrt a u g => simp only [Ex.subs, List.mem_singleton] at hs; subst hs; exact g.mem
  | bin op a b u v ho g g' =>
    simp only [Ex.subs, List.mem_cons, List.not_mem_nil, or_false] at hs
    rcases hs with rfl | rfl
    · exact g.mem
    · exact g'.mem
theorem Outs.mem {ts : List Ex} {o : List Int} {es : List Ex} (h : Outs ts o es) : ∀ e ∈ es, e ∈ ts := by
  induction h with
  | nil => intro e he; cases he
  | cons g t ih =>
    intro e he
    rcases List.mem_cons.1 he with rfl | he
    · exact g.mem
    · exact ih e he
theorem tape_law (q : TQuery) : armillarylaw08_TapeSemantics (K32 + 5000 + 100) q = some true := by
  obtain ⟨n, l, o, ts, es, h1, hn, hT, hO, hL, hel⟩ := made_ok (⟨q.C.N, q.C.L, q.C.Out⟩ : TTape) (k := K32 + 5000 + 100) (by unfold K32; omega)
  obtain ⟨X, h2, hXl, hX⟩ := boxes_ok q.X (n := n) (by omega) (k := K32 + 5000 + 100) (by unfold K32; omega)
  obtain ⟨t, h3, ht⟩ := rmade_ok (⟨q.T.Lo, q.T.Hi⟩ : TInterval)
  have hE : Env n X t := ⟨hXl, hX, ht⟩
  have hol := All2.len hO
  obtain ⟨nm, h4⟩ := sys_eq (c := ⟨n, l, o⟩) hT (by show l.length < 1000; omega) hO (by omega) (k := K32 + 5000 + 100) (by unfold K32; omega)
  have hm := Outs.mem hO
  have hes : ∀ e ∈ es.map fixE, e.ok n ∧ e ∈ Ex.num P1 :: ts ∧ e.code.length < 1000 ∧ e.dep ≤ 1000 := by
    intro e he
    obtain ⟨u, hu, rfl⟩ := List.mem_map.1 he
    unfold fixE
    by_cases h : u.code.length ≤ 200
    · rw [if_pos h]
      have := dep_le u
      exact ⟨hT.ok u (hm u hu), List.mem_cons_of_mem _ (hm u hu), by omega, by omega⟩
    · rw [if_neg h]
      exact ⟨.inr (by unfold Fin; decide), List.mem_cons_self, by decide, by decide⟩
  have hcl : Cl (Ex.num P1 :: ts) := by
    intro e he s hs
    rcases List.mem_cons.1 he with rfl | he
    · cases hs
    · exact List.mem_cons_of_mem _ (hT.closed e he s hs)
  have htl := hT.len
  have hesl : (es.map fixE).length < 1000 := by rw [List.length_map]; omega
  obtain ⟨N', l', o', ts', h5, hT', hO', hl'⟩ := comp_eq (n := n) (S := Ex.num P1 :: ts) (by simp only [List.length_cons]; omega) hcl (k := K32 + 5000 + 100) (by unfold K32; omega) (⟨nm, (es.map fixE).map Ex.code⟩ : TSystem) rfl hesl hes
  obtain ⟨W', hW'⟩ := vals_ok hE (es.map fixE) (fun e he => (hes e he).1)
  obtain ⟨W, hW⟩ := vals_ok hE es (fun e he => hT.ok e (hm e he))
  have hWl' := All2.len hW'
  have hWl := All2.len hW
  obtain ⟨l2, o2, ts2, h6, hT2, hO2, hl2⟩ := opt_eq (n := n) (c := ⟨n, l, o⟩) hT (by omega) (k := K32 + 5000 + 100) (by unfold K32; omega) (by show o.length < 1000; omega) hO
  have hk : K32 + 1000 < K32 + 5000 + 100 := by omega
  have e1 := teval_eq (c := ⟨N', l', o'⟩) hT' (by show l'.length < 1000; omega) hO' hesl hE hW' hk
  have e2 := der_eq hE (⟨nm, (es.map fixE).map Ex.code⟩ : TSystem) rfl hesl (fun e he => ⟨(hes e he).1, (hes e he).2.2.1, (hes e he).2.2.2⟩) hk hW'
  have e3 := teval_eq (c := ⟨n, l2, o2⟩) hT2 (by show l2.length < 1000; omega) hO2 (by omega) hE hW hk
  have e4 := teval_eq (c := ⟨n, l, o⟩) hT (by show l.length < 1000; omega) hO (by omega) hE hW hk
  have s1 := same_eq (W := W') (by omega) (k := K32 + 5000 + 100) (by unfold K32; omega)
  have s2 := same_eq (W := W) (by omega) (k := K32 + 5000 + 100) (by unfold K32; omega)
  unfold armillarylaw08_TapeSemantics
  refine bT (sane (K32 + 5000)) (bT h1 (bT h2 (bT h3 (bT h4 (bT h5 (bT e1 (bT e2 (bT s1 (bT rfl (iT rfl ?_))))))))))
  exact bT h6 (bT e3 (bT e4 (bT s2 rfl)))
theorem Pure_TapeSemantics : armillarylaw08_TapeSemantics.Pure := fun _ _ _ _ _ _ _ _ _ _ _ _ => ⟨K32 + 5000 + 100, tape_law _⟩
end Go.Proofs.YtbpgobecpmjaeaaDoor
