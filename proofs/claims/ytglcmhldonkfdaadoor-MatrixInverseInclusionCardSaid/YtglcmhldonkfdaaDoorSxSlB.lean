/- Sx: rows of elements (slices): what append, make and a store do; calls that take and hand back rows; a function's beginning and end. Own work. -/
import Derived.Test.YtglcmhldonkfdaaDoorSxSl
set_option linter.unusedVariables false
namespace Go.Sx
open Go Go.RowKit
theorem run_to {P : Program} {x : Sem Value} {v : Value} {w w' : World} (h : x.run P w = .ok v w') : (Sem.bind x fun v => Sem.pure (Next.value v)).run P w = .ok (.value v) w' := by
  show (x >>= fun v => Sem.pure (Next.value v)).run P w = _
  rw [Sem.run_bind, h]
  rfl
theorem but_grown {w w' : World} {v : Value} {fp : Nat → Prop} (h : w.grownBy w' v.ownBlock) (hf : ∀ i, v.ownBlock = some i → fp i) : But fp w w' :=
  ⟨h.os, h.tape, h.output, h.size, fun i hi hn => h.block i hi fun e => hn (hf i e.symm)⟩
theorem app_row {P : Program} {w : World} {t ty e : TypeId} {i : TypeInfo} {z : Value} {sz bytes : Nat} (ht : P.underlying t = some (.slice e)) (hi : P.info? e = some i) (hz : i.zero = some z) (hsize : i.size = sz) (hby : i.bytes = bytes) (hzs : z.cells.size = sz) (hsz : 0 < sz)
    {p : Option Addr} {n cap : Nat} {xs : List Value} (hown : w.ownsRow 0 e sz (.slice p n cap) n xs) {a : Addr} {m c : Nat} {news : List Value} (hl : news.length = m * sz) (hm : 0 < m) (hnews : ∀ j u, news[j]? = some u → w.cell? (a.add j) = some u) (h1 : ∀ u ∈ news, u.oneCell' = true)
    (h63 : n + m ≤ 1000000000) (hbytes : bytes ≤ 100000) :
    ∃ p' cap' w', (Sem.bind (Builtin.append_ #[t, t] ty #[.slice p n cap, .slice (some a) m c]) fun v => Sem.pure (Next.value v)).run P w = .ok (.value (.slice p' (n + m) cap')) w' ∧ w'.ownsRow 0 e sz (.slice p' (n + m) cap') (n + m) (xs ++ news) ∧ But (fpOwn p) w w' ∧ ∀ j, fpOwn p' j → w.heap.size ≤ j ∨ fpOwn p j := by
  have hmul : (n + m) * bytes ≤ 140737488355328 := by
    have := Nat.mul_le_mul h63 hbytes
    omega
  have hml : n + m ≤ maxLen := by simp only [maxLen]; omega
  obtain ⟨v', w', hr, ho, hg, _⟩ := run_append_own (P := P) w 0 t ty e i z sz bytes ht hi hz hsize hby hzs hsz (.slice p n cap) n xs hown a m c news hl hnews h1 hml hmul (Nat.zero_le _)
  have hbut : But (fpOwn p) w w' := but_grown hg fun k hk => by
    cases p with
    | none => cases hk
    | some a => exact ⟨a, rfl, Option.some.inj hk⟩
  have hv : ∃ p' cap', v' = .slice p' (n + m) cap' ∧ ∀ j, fpOwn p' j → w.heap.size ≤ j ∨ fpOwn p j := by
    subst hsize hby
    rcases hown.2 with ⟨hv, h0⟩ | ⟨g, c', cur, hv, _, hgc, hnc, hcm, hcs, htk⟩
    · injection hv with e1 e2 e3
      subst e1 e2 e3
      have hr2 := run_append_nil (P := P) w t ty e i z ht hi hz a m c news hl hnews hm (by omega) (by simp only [Nat.zero_add] at hmul; omega)
      have he : (.ok v' w' : Result Value) = _ := hr.symm.trans hr2
      injection he with he _
      subst he
      exact ⟨_, _, by rw [Nat.zero_add], fun j hj => by obtain ⟨_, e, rfl⟩ := hj; obtain rfl := Option.some.inj e; exact .inl (Nat.le_refl _)⟩
    · injection hv with e1 _ e3
      subst e1 e3
      by_cases hroom : n + m ≤ cap
      · have hfit : n * i.size + news.length ≤ cur.size := by rw [hl, hcs, ← Nat.add_mul]; exact Nat.mul_le_mul_right _ hroom
        have hr2 := run_append_room (P := P) w t ty e i ht hi g n cap cur hgc a m c news hl hnews h1 hroom hfit
        have he : (.ok v' w' : Result Value) = _ := hr.symm.trans hr2
        injection he with he _
        subst he
        exact ⟨_, _, rfl, fun j hj => .inr hj⟩
      · have holds : ∀ j u, xs[j]? = some u → w.cell? ((⟨g, 0, none⟩ : Addr).add j) = some u := hown.cells (g := g) rfl
        have hr2 := run_append_grow (P := P) w t ty e i z ht hi hz ⟨g, 0, none⟩ n cap xs hown.1 holds a m c news hl hnews (by omega) (by omega) (growslice_fits (by omega) hmul)
        have he : (.ok v' w' : Result Value) = _ := hr.symm.trans hr2
        injection he with he _
        subst he
        exact ⟨_, _, rfl, fun j hj => by obtain ⟨_, e, rfl⟩ := hj; obtain rfl := Option.some.inj e; exact .inl (Nat.le_refl _)⟩
  obtain ⟨p', cap', rfl, hp⟩ := hv
  exact ⟨p', cap', w', run_to hr, ho, hbut, hp⟩
theorem make_row {P : Program} {w : World} {t e : TypeId} {i : TypeInfo} {z : Value} {sz bytes : Nat} {kl kc : IntKind} {n : Nat} (ht : P.underlying t = some (.slice e)) (hi : P.info? e = some i) (hz : i.zero = some z) (hsize : i.size = sz) (hby : i.bytes = bytes)
    (hcells : n * sz ≤ 16777216) (hbytes : bytes * n ≤ 281474976710656) (h63 : n ≤ 1000000000) (fp : Nat → Prop) :
    ∃ p' cap' w', (Sem.bind (Instr.makeSlice t (.int kl (n : Int)) (.int kc (n : Int))) fun v => Sem.pure (Next.value v)).run P w = .ok (.value (.slice p' n cap')) w' ∧ w'.ownsRow 0 e sz (.slice p' n cap') n (madeCells z.cells (n * sz)).toList ∧ But fp w w' ∧ ∀ j, fpOwn p' j → w.heap.size ≤ j ∨ fp j := by
  obtain ⟨w', hr, ho, hg⟩ := run_makeSlice_full (P := P) (w := w) 0 t e i z sz ht hi hz hsize kl kc n hcells (by rw [hby]; exact hbytes) (by simp only [maxLen]; omega) (Nat.zero_le _)
  refine ⟨_, _, w', run_to hr, ho, ⟨hg.os, hg.tape, hg.output, hg.size, fun k hk _ => hg.block k hk (by simp)⟩, fun j hj => ?_⟩
  obtain ⟨_, e, rfl⟩ := hj
  obtain rfl := Option.some.inj e
  exact .inl (Nat.le_refl _)
theorem lay_length (vs : List Value) : ∀ (cs : List Value) (off : Nat), (lay cs off vs).length = cs.length := by
  induction vs with
  | nil => intro cs off; rfl
  | cons v vs ih => intro cs off; rw [lay, ih, List.length_set]
theorem lay_take (vs : List Value) : ∀ (cs : List Value) (off m : Nat), off + vs.length ≤ m → (lay cs off vs).take m = lay (cs.take m) off vs := by
  induction vs with
  | nil => intro cs off m _; rfl
  | cons v vs ih =>
    intro cs off m h
    simp only [List.length_cons] at h
    rw [lay, lay, ih _ _ _ (by omega), List.take_set]
theorem set_row {P : Program} {w : World} {e : TypeId} {sz n cap : Nat} {p : Option Addr} {xs vs : List Value} {off : Nat} {s : Sem Next} (hown : w.ownsRow 0 e sz (.slice p n cap) n xs) (hoff : off + vs.length ≤ n * sz) (hvs : 0 < vs.length)
    (hp : poke P s [] = some (.skip, (addrs (hdB p) (hdO p + off) vs.length).zip vs)) :
    ∃ w', s.run P w = .ok .skip w' ∧ w'.ownsRow 0 e sz (.slice p n cap) n (lay xs off vs) ∧ But (fpOwn p) w w' := by
  rcases hown.2 with ⟨hv, h0⟩ | ⟨g, c', cur, hv, hb, hgc, hnc, hcm, hcs, htk⟩
  · rw [h0, Nat.zero_mul] at hoff
    omega
  · injection hv with e1 _ e3
    subst e1 e3
    simp only [hdB, hdO, Nat.zero_add] at hp
    obtain ⟨m', em, hr⟩ := poke_run (b := g) (e := e) _ _ _ _ hp
    simp only [List.nil_append] at em
    subst em
    have hle : n * sz ≤ cur.size := by rw [hcs]; exact Nat.mul_le_mul_right _ hnc
    have hrun := hr w cur hgc fun x hx => by
      obtain ⟨j, hj⟩ := List.mem_iff_getElem?.1 hx
      rw [List.getElem?_zip_eq_some] at hj
      obtain ⟨hx1, hlt⟩ := addrs_get _ _ _ _ _ hj.1
      rw [hx1]
      exact ⟨rfl, rfl, by simp only; omega⟩
    have hgc' : w.heap[g]? = some (.cells cur.toList.toArray e (0, 0)) := by simpa using hgc
    obtain ⟨i1, i2, i3, i4⟩ := setAll_addrs (b := g) (e := e) vs w cur.toList off hgc'
    refine ⟨_, hrun, ⟨by rw [lay_length]; exact hown.1, .inr ⟨g, cap, _, rfl, Nat.zero_le _, i1, hnc, hcm, by rw [List.size_toArray, lay_length]; simpa using hcs, ?_⟩⟩, ?_⟩
    · rw [← htk]
      exact lay_take vs _ _ _ hoff
    · refine ⟨i2.os, i2.tape, i2.output, i2.size, fun j hj hn => i3 j fun e => hn ⟨⟨g, 0, none⟩, rfl, e.symm⟩⟩
theorem Rep.blk_row {B : Nat} {w0 : World} {n : Nat} {S : St} {a : Act} {w : World} (h : Rep B w0 n S a w) (k b : Nat) (cs : List Value) (e : TypeId) (sz m : Nat) (hk : S k = .blk b cs e) (hl : cs.length = m * sz) (hm : m ≤ 1000000000) : Rep B w0 n (upd S k (owK e sz (some ⟨b, 0, none⟩) m m cs)) a w := by
  have hh := h.holds k
  rw [hk] at hh
  have hrow : w.ownsRow 0 e sz (.slice (some ⟨b, 0, none⟩) m m) m cs := ⟨hl, .inr ⟨b, m, cs.toArray, rfl, Nat.zero_le _, hh, Nat.le_refl _, by simp only [maxLen]; omega, by simpa using hl, by simp [← hl]⟩⟩
  refine h.ent k _ (by intro c x h; cases h) (fun w3 ha => owns_agree hrow ha) (fun j hj => (owns_lt hrow j hj).2) ?_ ?_
  · rintro _ j ⟨a', e', rfl⟩
    obtain rfl := Option.some.inj e'
    exact h.ge k b (by rw [hk]; trivial) (by rw [hk]; rfl)
  · rintro k' j hne _ ⟨a', e', rfl⟩
    obtain rfl := Option.some.inj e'
    exact h.disj k k' b (Ne.symm hne) (by rw [hk]; trivial) (by rw [hk]; rfl)
theorem Rep.nil_row {B : Nat} {w0 : World} {n : Nat} {S : St} {a : Act} {w : World} (h : Rep B w0 n S a w) (k : Nat) (e : TypeId) (sz : Nat) : Rep B w0 n (upd S k (owK e sz none 0 0 [])) a w := by
  refine h.ent k _ (by intro c x h; cases h) (fun w3 ha => World.ownsRow_nil _ _ _ _) (fun j hj => ?_) (fun _ j hj => ?_) (fun k' j hne _ hj => ?_)
  all_goals obtain ⟨_, e', _⟩ := hj; cases e'
section
variable {P : Program} {ops : Array Oper} {B : Nat} {w0 : World} {n i : Nat} {o : Oper} {Spre : Nu → St}
end
theorem Rep.facts {B : Nat} {w0 : World} {n : Nat} {a : Act} {w : World} : ∀ (fs : List (Nat × KV)) (S : St), Rep B w0 n S a w → (∀ k, ¬ (S k).excl) → (∀ x ∈ fs, (∃ fp F, x.2 = .fact fp F) ∧ x.2.holds w ∧ ∀ i, x.2.fp i → i < w.heap.size) → Rep B w0 n (updAll S fs) a w
  | [], S, h, _, _ => h
  | (k, v) :: r, S, h, hx, hf => by
    obtain ⟨⟨fp, F, hv⟩, hh, hi⟩ := hf (k, v) (by simp)
    simp only at hv hh hi
    have hex : ¬ v.excl := by rw [hv]; exact fun h => h
    refine Rep.facts r _ (h.ent k v (by intro c x h; rw [hv] at h; cases h) hh hi (fun h => (hex h).elim) (fun k' j _ ho => ?_)) ?_ (fun x hx' => hf x (List.mem_cons_of_mem _ hx'))
    · rcases ho with ho | ho
      · exact (hex ho).elim
      · exact (hx k' ho).elim
    · intro j
      by_cases e : j = k
      · subst e; rw [upd_same]; exact hex
      · rw [upd_ne _ _ e]; exact hx j
theorem k_enterF {P : Program} {f : FuncId} {fn : Func} {c : Code} {args : List Value} {w : World} {R : Ending → World → Prop} (n : Nat) (fs : List (Nat × KV)) (hfs : ∀ x ∈ fs, (∃ fp F, x.2 = .fact fp F) ∧ x.2.holds w ∧ ∀ i, x.2.fp i → i < w.heap.size)
    (hf : P.funcs[f]? = some fn) (hb : fn.body = some c) (hn : fn.ntmps = n) (hl : Nat.ble args.length n = true)
    (h : ∀ a, Rep w.heap.size w n (updAll (ofL (argL 0 args)) fs) a w → c.wp P (mkQ (bodyPost P fn R .ret) [] (bodyPost P fn R .ret)) a w) : Calls P f args.toArray w R := by
  refine k_enter n hf hb hn hl fun a H => h a (Rep.facts fs _ H (fun k hx => ?_) hfs)
  unfold ofL at hx
  rw [updAll_look, look_argL] at hx
  simp only [Nat.zero_le, if_true, Nat.sub_zero] at hx
  cases hv : args[k]? <;> rw [hv] at hx <;> exact hx
theorem ow_of {w : World} {e : TypeId} {sz n cap : Nat} {p : Option Addr} {xs : List Value} (h : (owK e sz p n cap xs).holds w) : w.ownsRow 0 e sz (.slice p n cap) n xs := h w (agree.refl _ _)
end Go.Sx
