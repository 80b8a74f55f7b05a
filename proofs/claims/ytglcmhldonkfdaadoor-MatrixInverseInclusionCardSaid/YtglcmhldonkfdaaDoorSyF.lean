/- Sx: words and proofs for walking code by symbolic states (the part 'SyF'). Own work, the same for every seat. -/
import Derived.Test.YtglcmhldonkfdaaDoorSyZ
set_option linter.unusedVariables false
set_option linter.unusedSimpArgs false
namespace Go.Sx
open Go Go.RowKit
theorem RowAt.len {T : Type} {w : World} {sz n : Nat} {p : Option Addr} {en : T → List Value} {l : List T} (R : RowAt w sz p n (l.flatMap en)) (hen : ∀ x, (en x).length = sz) (hs : 0 < sz) : n = l.length := by
  have := R.1
  rw [flat_len hen] at this
  exact (Nat.eq_of_mul_eq_mul_right hs this).symm
theorem owns_len {T : Type} {w : World} {base e sz n cap : Nat} {p : Option Addr} {en : T → List Value} {l : List T} (R : w.ownsRow base e sz (.slice p n cap) n (l.flatMap en)) (hen : ∀ x, (en x).length = sz) (hs : 0 < sz) : n = l.length := (owns_row R).len hen hs
theorem rdA {w : World} {sz n cap : Nat} {p : Option Addr} {xs : List Value} (R : RowC w sz p n cap xs) (hs : 0 < sz := by decide) : (rdF anyF sz p n cap xs).holds w := (rdF_fact R (fun _ _ => trivial) hs 0).2.1
theorem dnA {G : Type} {w : World} {E : Part G} {L : List G} (R : RdL E w L) : (dnK anyF E L).holds w := dn_holds R fun _ _ => trivial
theorem ix_row {T X : Type} {P : Program} {w : World} {t : TypeId} {p : Option Addr} {n cap : Nat} {k : IntKind} {i : Int} {sz : Nat} {en : T → List Value} {l : List T} {x : List X} {s : Sem Next} (R : RowAt w sz p n (l.flatMap en)) (hen : ∀ x, (en x).length = sz) (hl : x.length = l.length) (h : 0 ≤ i ∧ i < (x.length : Int))
    (hs : s = Sem.bind (Instr.indexAt t (.slice p n cap) (.int k i)) fun v => Sem.pure (Next.value v)) (hu : P.underlying t = some (.slice (P.elem t)) := by kernel_rfl) (he : (P.info? (P.elem t)).map (·.size) = some sz := by kernel_rfl) (hz : 0 < sz := by decide) :
    s.run P w = .ok (.value (.pointer (some ⟨hdB p, hdO p + i.toNat * sz, none⟩))) w := by
  have hn := R.len hen hz
  subst hs
  exact run_ix hu he R ⟨h.1, by omega⟩
theorem el_cellsN {T : Type} {w : World} {en : T → List Value} {sz n : Nat} {p : Option Addr} {l : List T} (R : RowAt w sz p n (l.flatMap en)) (hen : ∀ x, (en x).length = sz) {i : Nat} {x : T} (hx : l[i]? = some x) (f m : Nat) {vs : List Value} (hvs : ((en x).drop f).take m = vs) (hz : 0 < sz := by decide) :
    ∀ j u, vs[j]? = some u → w.cell? ⟨hdB p, hdO p + i * sz + f + j, none⟩ = some u := by
  have hn := R.len hen hz
  subst hn
  exact el_cells R hen hx f m hvs
theorem ld_row {T : Type} {P : Program} {w : World} {en : T → List Value} {sz n : Nat} {p : Option Addr} {l : List T} {s : Sem Next} {i : Nat} {x : T} {v : Value} (R : RowAt w sz p n (l.flatMap en)) (hen : ∀ x, (en x).length = sz) (hx : l[i]? = some x) (f m : Nat) (vs : List Value) (hvs : ((en x).drop f).take m = vs)
    (hp : peek P s vs [] = some (.value v, addrs (hdB p) (hdO p + i * sz + f) m)) (hz : 0 < sz := by decide) : s.run P w = .ok (.value v) w :=
  ld_of hp (el_cellsN R hen hx f m hvs hz)
theorem el_storeN {T : Type} {P : Program} {w : World} {e : TypeId} {sz n : Nat} {en : T → List Value} {l : List T} {p : Option Addr} {cap : Nat} {s : Sem Next} {i : Nat} {x y : T} {vs : List Value} (hown : w.ownsRow 0 e sz (.slice p n cap) n (l.flatMap en)) (hen : ∀ x, (en x).length = sz)
    (hx : l[i]? = some x) (f : Nat) (h0 : 0 < vs.length) (hf : f + vs.length ≤ sz) (he : en y = lay (en x) f vs)
    (hp : poke P s [] = some (.skip, (addrs (hdB p) (hdO p + (i * sz + f)) vs.length).zip vs)) (hz : 0 < sz := by decide) :
    ∃ w', s.run P w = .ok .skip w' ∧ w'.ownsRow 0 e sz (.slice p n cap) n ((l.set i y).flatMap en) ∧ But (fpOwn p) w w' := by
  have hn := owns_len hown hen hz
  subst hn
  exact el_store hown hen hx f h0 hf he hp
theorem run_app_rowN {T : Type} {P : Program} {w : World} {t ty e eb : TypeId} {sz bytes b n : Nat} {zc cs : List Value} {en : T → List Value} {l : List T} {p : Option Addr} {cap : Nat} {s : Sem Next} (hen : ∀ x, (en x).length = sz) (I : Inf P e sz bytes zc)
    (hown : w.ownsRow 0 e sz (.slice p n cap) n (l.flatMap en)) (hblk : (KV.blk b cs eb).holds w) {news : List T} (hcs : cs = news.flatMap en) (hm : 0 < news.length ∧ news.length < 1000)
    (hs : s = Sem.bind (Builtin.append_ #[t, t] ty #[.slice p n cap, .slice (some ⟨b, 0, none⟩) news.length news.length]) fun v => Sem.pure (Next.value v)) (hl : l.length < 1000000)
    (ht : P.underlying t = some (.slice e) := by kernel_rfl) (h1 : cs.all (·.oneCell') = true := by kernel_rfl) (hsz : 0 < sz := by decide) (hby : bytes ≤ 100000 := by decide) (hz : zc.length = sz := by rfl) :
    ∃ p' cap' w', s.run P w = .ok (.value (.slice p' (l ++ news).length cap')) w' ∧ w'.ownsRow 0 e sz (.slice p' (l ++ news).length cap') (l ++ news).length ((l ++ news).flatMap en) ∧ But (fpOwn p) w w' ∧ ∀ j, fpOwn p' j → w.heap.size ≤ j ∨ fpOwn p j := by
  have hn := owns_len hown hen hsz
  subst hn
  exact run_app_row hen I hown hblk hcs hm hs hl ht h1 hsz hby hz
theorem run_app_rowsN {T : Type} {P : Program} {w : World} {t ty e : TypeId} {sz bytes n n2 : Nat} {zc : List Value} {en : T → List Value} {l m : List T} {p p2 : Option Addr} {cap cap2 : Nat} {s : Sem Next} (hen : ∀ x, (en x).length = sz) (hone : ∀ x, (en x).all (·.oneCell') = true) (I : Inf P e sz bytes zc)
    (hown : w.ownsRow 0 e sz (.slice p n cap) n (l.flatMap en)) (R : RowAt w sz p2 n2 (m.flatMap en)) (hm : m.length < 1000000 ∧ l.length < 1000000)
    (hs : s = Sem.bind (Builtin.append_ #[t, t] ty #[.slice p n cap, .slice p2 n2 cap2]) fun v => Sem.pure (Next.value v))
    (ht : P.underlying t = some (.slice e) := by kernel_rfl) (hsz : 0 < sz := by decide) (hby : bytes ≤ 100000 := by decide) (hz : zc.length = sz := by rfl) :
    ∃ p' cap' w', s.run P w = .ok (.value (.slice p' (l ++ m).length cap')) w' ∧ w'.ownsRow 0 e sz (.slice p' (l ++ m).length cap') (l ++ m).length ((l ++ m).flatMap en) ∧ But (fpOwn p) w w' ∧ ∀ j, fpOwn p' j → w.heap.size ≤ j ∨ fpOwn p j := by
  have hn := owns_len hown hen hsz
  have hn2 := R.len hen hsz
  subst hn hn2
  exact run_app_rows hen hone I hown R hm hs ht hsz hby hz
theorem run_lenN {P : Program} {w : World} {s : Sem Next} {n m : Nat} (h : n = m) (hr : s.run P w = .ok (.value (.int .i64 (n : Int))) w) : s.run P w = .ok (.value (.int .i64 (m : Int))) w := h ▸ hr
theorem inb_ow {w : World} {e sz n cap : Nat} {p : Option Addr} {xs : List Value} (h : w.ownsRow 0 e sz (.slice p n cap) n xs) : ∀ i, fpOwn p i → i < w.heap.size := fun i hi => (owns_lt h i hi).2
theorem tv_app {P : Program} {w : World} {e sz m cap n : Nat} {p : Option Addr} {xs ys : List Value} {s : Sem Next} (h : ∃ p' cap' w', s.run P w = .ok (.value (.slice p' n cap')) w' ∧ w'.ownsRow 0 e sz (.slice p' n cap') n ys ∧ But (fpOwn p) w w' ∧ ∀ j, fpOwn p' j → w.heap.size ≤ j ∨ fpOwn p j) :
    ∃ (g : Gh) (w' : World), s.run P w = .ok (.value (.slice (g.o 0) n (g.n 0))) w' ∧ But (owK e sz p m cap xs).fp w w' ∧ (owK e sz (g.o 0) n (g.n 0) ys).holds w' ∧ (∀ i, (owK e sz (g.o 0) n (g.n 0) ys).fp i → i < w'.heap.size) ∧ ∀ i, (owK e sz (g.o 0) n (g.n 0) ys).fp i → w.heap.size ≤ i ∨ (owK e sz p m cap xs).fp i := by
  obtain ⟨p', cap', w', h1, h2, h3, h4⟩ := h
  exact ⟨Gh.of (fun _ => cap') fun _ => p', w', h1, h3, fun w2 ha => owns_agree h2 ha, inb_ow h2, h4⟩
theorem tv_set {P : Program} {w : World} {e sz n cap : Nat} {p : Option Addr} {xs ys : List Value} {s : Sem Next} (h : ∃ w', s.run P w = .ok .skip w' ∧ w'.ownsRow 0 e sz (.slice p n cap) n ys ∧ But (fpOwn p) w w') :
    ∃ (g : Gh) (w' : World), s.run P w = .ok .skip w' ∧ But (owK e sz p n cap xs).fp w w' ∧ (owK e sz p n cap ys).holds w' ∧ (∀ i, (owK e sz p n cap ys).fp i → i < w'.heap.size) ∧ ∀ i, (owK e sz p n cap ys).fp i → w.heap.size ≤ i ∨ (owK e sz p n cap xs).fp i := by
  obtain ⟨w', h1, h2, h3⟩ := h
  exact ⟨default, w', h1, h3, fun w2 ha => owns_agree h2 ha, inb_ow h2, fun i hi => .inr hi⟩
theorem tv_setF {P : Program} {w : World} {e sz n cap : Nat} {p : Option Addr} {xs ys : List Value} {s : Sem Next} {F : KV} {C : Nat → Prop} (h : ∃ w', s.run P w = .ok .skip w' ∧ w'.ownsRow 0 e sz (.slice p n cap) n ys ∧ But (fpOwn p) w w') (hF : F.holds w ∧ ∀ i, F.fp i → C i ∧ i < w.heap.size) :
    ∃ (g : Gh) (w' : World), s.run P w = .ok .skip w' ∧ But (owK e sz p n cap xs).fp w w' ∧ (owK e sz p n cap ys).holds w' ∧ (∀ i, (owK e sz p n cap ys).fp i → i < w'.heap.size) ∧ (∀ i, (owK e sz p n cap ys).fp i → w.heap.size ≤ i ∨ (owK e sz p n cap xs).fp i) ∧ F.holds w ∧ ∀ i, F.fp i → C i ∧ i < w.heap.size := by
  obtain ⟨g, w', h1, h2, h3, h4, h5⟩ := tv_set (xs := xs) h
  exact ⟨g, w', h1, h2, h3, h4, h5, hF⟩
theorem dn_set {G : Type} {w : World} {fr : Nat → Prop} {E : Part G} {L : List G} {y : G} {k : Nat} {Ks : List KV} (hD : (dnK fr E L).holds w) (hm : dnK fr E L ∈ Ks) (hy : E.rd w y) (hf : ∀ i, E.fp y i → factFp Ks i ∧ fr i) : (dnK fr E (L.set k y)).holds w ∧ ∀ i, (dnK fr E (L.set k y)).fp i → factFp Ks i ∧ i < w.heap.size := by
  have hr := rdl_set (k := k) (dn_of hD) hy
  exact ⟨dn_holds hr fun j hj => (fpl_set hj).elim (dn_fr hD j) fun h => (hf j h).2, fun i hi => ⟨(fpl_set hi).elim (fun h => ⟨_, hm, fun h => h, h⟩) fun h => (hf i h).1, hr.inb i hi⟩⟩
theorem ff_of {Ks : List KV} {K : KV} {i : Nat} {fr : Nat → Prop} (hm : K ∈ Ks) (hx : ¬ K.excl) (hi : K.fp i) (hf : fr i) : factFp Ks i ∧ fr i := ⟨⟨K, hm, hx, hi⟩, hf⟩
section
variable {T : Type} {P : Program} {w : World} {e e2 sz m cap : Nat} {en : T → List Value} {p : Option Addr} {H L : List (Sl T)} {s : Sem Next}
theorem tn_el {i j : Nat} {q : Option Addr} {c : Nat} {l : List T} {y : T} (N : (nsK e e2 sz en p m cap L L).holds w) (hx : L[i]? = some ⟨q, c, l⟩)
    (h : w.ownsRow 0 e2 sz (.slice q l.length c) l.length (l.flatMap en) → ∃ w', s.run P w = .ok .skip w' ∧ w'.ownsRow 0 e2 sz (.slice q l.length c) l.length ((l.set j y).flatMap en) ∧ But (fpOwn q) w w') :
    ∃ (g : Gh) (w' : World), s.run P w = .ok .skip w' ∧ But (nsK e e2 sz en p m cap L L).fp w w' ∧ (nsK e e2 sz en p m cap (L.set i ⟨q, c, l.set j y⟩) (L.set i ⟨q, c, l.set j y⟩)).holds w' ∧ (∀ b, (nsK e e2 sz en p m cap (L.set i ⟨q, c, l.set j y⟩) (L.set i ⟨q, c, l.set j y⟩)).fp b → b < w'.heap.size) ∧ ∀ b, (nsK e e2 sz en p m cap (L.set i ⟨q, c, l.set j y⟩) (L.set i ⟨q, c, l.set j y⟩)).fp b → w.heap.size ≤ b ∨ (nsK e e2 sz en p m cap L L).fp b := by
  have hN := ns_of N
  obtain ⟨w', h1, h2, h3⟩ := h (hN.inn i _ hx)
  have hN1 := hN.turn (p' := q) (c' := c) (l' := l.set j y) hx (by simpa using h2) h3 fun b hb => .inr hb
  have he : (L.set i (⟨q, c, l.set j y⟩ : Sl T)).flatMap enSl = L.flatMap enSl := by
    have hi := (List.getElem?_eq_some_iff.1 hx)
    obtain ⟨hlt, hget⟩ := hi
    apply List.ext_getElem?
    intro k
    have e1 : ∀ M : List (Sl T), M.flatMap enSl = M.map fun x => Value.slice x.p x.l.length x.cap := fun M => by
      induction M with
      | nil => rfl
      | cons x r ih => rw [List.flatMap_cons, ih]; rfl
    rw [e1, e1, List.getElem?_map, List.getElem?_map, List.getElem?_set]
    by_cases ek : i = k
    · subst ek
      rw [if_pos rfl, if_pos hlt, hx]
      simp
    · rw [if_neg ek]
  have hN2 : NestAt w' e e2 sz en p m cap (L.set i ⟨q, c, l.set j y⟩) (L.set i ⟨q, c, l.set j y⟩) := ⟨by rw [he]; exact hN1.hd, hN1.inn, hN1.apart, hN1.off⟩
  exact ⟨default, w', h1, h3.mono fun b hb => .inr ⟨i, _, hx, hb⟩, hN2.holds, hN2.lt, fun b hb => fpNs_turn (w := w) hx (fun b hb => .inr hb) hb⟩
theorem tn_app {i : Nat} {q : Option Addr} {c : Nat} {l l' : List T} (N : (nsK e e2 sz en p m cap H L).holds w) (hx : L[i]? = some ⟨q, c, l⟩)
    (h : w.ownsRow 0 e2 sz (.slice q l.length c) l.length (l.flatMap en) → ∃ p' cap' w', s.run P w = .ok (.value (.slice p' l'.length cap')) w' ∧ w'.ownsRow 0 e2 sz (.slice p' l'.length cap') l'.length (l'.flatMap en) ∧ But (fpOwn q) w w' ∧ ∀ j, fpOwn p' j → w.heap.size ≤ j ∨ fpOwn q j) :
    ∃ (g : Gh) (w' : World), s.run P w = .ok (.value (.slice (g.o 0) l'.length (g.n 0))) w' ∧ But (nsK e e2 sz en p m cap H L).fp w w' ∧ (nsK e e2 sz en p m cap H (L.set i ⟨g.o 0, g.n 0, l'⟩)).holds w' ∧ (∀ b, (nsK e e2 sz en p m cap H (L.set i ⟨g.o 0, g.n 0, l'⟩)).fp b → b < w'.heap.size) ∧ ∀ b, (nsK e e2 sz en p m cap H (L.set i ⟨g.o 0, g.n 0, l'⟩)).fp b → w.heap.size ≤ b ∨ (nsK e e2 sz en p m cap H L).fp b := by
  have hN := ns_of N
  obtain ⟨p', cap', w', h1, h2, h3, h4⟩ := h (hN.inn i _ hx)
  have hN1 := hN.turn hx h2 h3 h4
  exact ⟨Gh.of (fun _ => cap') fun _ => p', w', h1, h3.mono fun b hb => .inr ⟨i, _, hx, hb⟩, hN1.holds, hN1.lt, fun b hb => fpNs_turn (w := w) hx h4 hb⟩
theorem tn_hd {H' : List (Sl T)} (N : (nsK e e2 sz en p m cap H L).holds w) (h : w.ownsRow 0 e 1 (.slice p m cap) m (H.flatMap enSl) → ∃ w', s.run P w = .ok .skip w' ∧ w'.ownsRow 0 e 1 (.slice p m cap) m (H'.flatMap enSl) ∧ But (fpOwn p) w w') :
    ∃ (g : Gh) (w' : World), s.run P w = .ok .skip w' ∧ But (nsK e e2 sz en p m cap H L).fp w w' ∧ (nsK e e2 sz en p m cap H' L).holds w' ∧ (∀ b, (nsK e e2 sz en p m cap H' L).fp b → b < w'.heap.size) ∧ ∀ b, (nsK e e2 sz en p m cap H' L).fp b → w.heap.size ≤ b ∨ (nsK e e2 sz en p m cap H L).fp b := by
  have hN := ns_of N
  obtain ⟨w', h1, h2, h3⟩ := h hN.hd
  have hN1 := hN.head h2 h3 fun b hb => .inr hb
  exact ⟨default, w', h1, h3.mono fun b hb => .inl hb, hN1.holds, hN1.lt, fun b hb => .inr hb⟩
theorem tn_swap {k j : Nat} {a b : Sl T} (N : (nsK e e2 sz en p m cap (L.set k b) L).holds w) (ha : L[k]? = some a) (hb : L[j]? = some b) (h : w.ownsRow 0 e 1 (.slice p m cap) m ((L.set k b).flatMap enSl) → ∃ w', s.run P w = .ok .skip w' ∧ w'.ownsRow 0 e 1 (.slice p m cap) m (((L.set k b).set j a).flatMap enSl) ∧ But (fpOwn p) w w') :
    ∃ (g : Gh) (w' : World), s.run P w = .ok .skip w' ∧ But (nsK e e2 sz en p m cap (L.set k b) L).fp w w' ∧ (nsK e e2 sz en p m cap ((L.set k b).set j a) ((L.set k b).set j a)).holds w' ∧ (∀ i, (nsK e e2 sz en p m cap ((L.set k b).set j a) ((L.set k b).set j a)).fp i → i < w'.heap.size) ∧ ∀ i, (nsK e e2 sz en p m cap ((L.set k b).set j a) ((L.set k b).set j a)).fp i → w.heap.size ≤ i ∨ (nsK e e2 sz en p m cap (L.set k b) L).fp i := by
  obtain ⟨g, w', h1, h2, h3, h4, h5⟩ := tn_hd (H' := (L.set k b).set j a) N h
  have hN := (ns_of h3).repool (swapN k j) (swap_get ha hb) fun i i' h => swapN_inj h
  exact ⟨g, w', h1, h2, hN.holds, hN.lt, fun i hi => h5 i (fpNs_repool (swapN k j) (swap_get ha hb) hi)⟩
theorem tn_take {i n2 : Nat} {q : Option Addr} {c : Nat} {l : List T} (N : (nsK e e2 sz en p m cap L L).holds w) (ho : (owK e2 sz q n2 c (l.flatMap en)).holds w) (hd : ∀ b, (owK e2 sz q n2 c (l.flatMap en)).fp b → ¬ (nsK e e2 sz en p m cap L L).fp b ∧ b < w.heap.size) (hen : ∀ x, (en x).length = sz) (hz : 0 < sz)
    (h : n2 = l.length → w.ownsRow 0 e 1 (.slice p m cap) m (L.flatMap enSl) → ∃ w', s.run P w = .ok .skip w' ∧ w'.ownsRow 0 e 1 (.slice p m cap) m ((L.set i ⟨q, c, l⟩).flatMap enSl) ∧ But (fpOwn p) w w') :
    ∃ (g : Gh) (w' : World), s.run P w = .ok .skip w' ∧ But (nsK e e2 sz en p m cap L L).fp w w' ∧ (nsK e e2 sz en p m cap (L.set i ⟨q, c, l⟩) (L.set i ⟨q, c, l⟩)).holds w' ∧ (∀ b, (nsK e e2 sz en p m cap (L.set i ⟨q, c, l⟩) (L.set i ⟨q, c, l⟩)).fp b → b < w'.heap.size) ∧ ∀ b, (nsK e e2 sz en p m cap (L.set i ⟨q, c, l⟩) (L.set i ⟨q, c, l⟩)).fp b → w.heap.size ≤ b ∨ (nsK e e2 sz en p m cap L L).fp b ∨ (owK e2 sz q n2 c (l.flatMap en)).fp b := by
  have hN := ns_of N
  have hw := ow_of ho
  have hn := owns_len hw hen hz
  subst hn
  obtain ⟨w', h1, h2, h3⟩ := h rfl hN.hd
  have hN1 := hN.head h2 h3 fun b hb => .inr hb
  have hN2 := hN1.takeSet (owns_but hw h3 fun b h1 h2 => (hd b h1).1 (.inl h2)) (fun b hb => (hd b hb).1) i
  exact ⟨default, w', h1, h3.mono fun b hb => .inl hb, hN2.holds, hN2.lt, fun b hb => .inr (fpNs_set hb)⟩
theorem tn_push {n2 : Nat} {q : Option Addr} {c : Nat} {l : List T} (N : (nsK e e2 sz en p m cap L L).holds w) (ho : (owK e2 sz q n2 c (l.flatMap en)).holds w) (hd : ∀ b, (owK e2 sz q n2 c (l.flatMap en)).fp b → ¬ (nsK e e2 sz en p m cap L L).fp b ∧ b < w.heap.size) (hen : ∀ x, (en x).length = sz) (hz : 0 < sz)
    (h : n2 = l.length → w.ownsRow 0 e 1 (.slice p m cap) m (L.flatMap enSl) → ∃ p' cap' w', s.run P w = .ok (.value (.slice p' (L ++ [(⟨q, c, l⟩ : Sl T)]).length cap')) w' ∧ w'.ownsRow 0 e 1 (.slice p' (L ++ [(⟨q, c, l⟩ : Sl T)]).length cap') (L ++ [(⟨q, c, l⟩ : Sl T)]).length ((L ++ [(⟨q, c, l⟩ : Sl T)]).flatMap enSl) ∧ But (fpOwn p) w w' ∧ ∀ j, fpOwn p' j → w.heap.size ≤ j ∨ fpOwn p j) :
    ∃ (g : Gh) (w' : World), s.run P w = .ok (.value (.slice (g.o 0) (L ++ [(⟨q, c, l⟩ : Sl T)]).length (g.n 0))) w' ∧ But (nsK e e2 sz en p m cap L L).fp w w' ∧ (nsK e e2 sz en (g.o 0) (L ++ [(⟨q, c, l⟩ : Sl T)]).length (g.n 0) (L ++ [⟨q, c, l⟩]) (L ++ [⟨q, c, l⟩])).holds w' ∧ (∀ b, (nsK e e2 sz en (g.o 0) (L ++ [(⟨q, c, l⟩ : Sl T)]).length (g.n 0) (L ++ [⟨q, c, l⟩]) (L ++ [⟨q, c, l⟩])).fp b → b < w'.heap.size) ∧
      ∀ b, (nsK e e2 sz en (g.o 0) (L ++ [(⟨q, c, l⟩ : Sl T)]).length (g.n 0) (L ++ [⟨q, c, l⟩]) (L ++ [⟨q, c, l⟩])).fp b → w.heap.size ≤ b ∨ (nsK e e2 sz en p m cap L L).fp b ∨ (owK e2 sz q n2 c (l.flatMap en)).fp b := by
  have hN := ns_of N
  have hw := ow_of ho
  have hn := owns_len hw hen hz
  subst hn
  obtain ⟨p', cap', w', h1, h2, h3, h4⟩ := h rfl hN.hd
  have hN1 := hN.head h2 h3 h4
  have hnew : ∀ b, fpOwn q b → ¬ fpNs p' L b := fun b hb hb' => by
    rcases fpNs_head (w := w) h4 hb' with h5 | h5
    · have := (hd b hb).2; omega
    · exact (hd b hb).1 h5
  have hN2 := hN1.takeApp (owns_but hw h3 fun b h1 h2 => (hd b h1).1 (.inl h2)) hnew
  refine ⟨Gh.of (fun _ => cap') fun _ => p', w', h1, h3.mono fun b hb => .inl hb, hN2.holds, hN2.lt, fun b hb => ?_⟩
  rcases fpNs_app hb with h5 | h5
  · exact (fpNs_head (w := w) h4 h5).imp id .inl
  · exact .inr (.inr h5)
end
theorem Rep.nest0 {T : Type} {B n : Nat} {w0 : World} {S : St} {a : Act} {w : World} {e m cap : Nat} {p : Option Addr} {H : List (Sl T)} (h : Rep B w0 n S a w) (k e2 sz : Nat) (en : T → List Value) (hk : S k = owK e 1 p m cap (H.flatMap enSl)) (h0 : ∀ x ∈ H, x = (⟨none, 0, []⟩ : Sl T)) : Rep B w0 n (upd S k (nsK e e2 sz en p m cap H H)) a w :=
  h.conv k (nsK e e2 sz en p m cap H H) hk trivial (by intro c x h; cases h) (fun w hw => (nest_new (ow_of hw) h0).holds) (fun i hi => nest_fp0 h0 hi)
theorem ok_nest0 {T : Type} {P : Program} {ops : Array Oper} {B : Nat} {w0 : World} {n i : Nat} {o : Oper} {Spre : Nu → St} {R : List Nat} {d k : Nat} {X : Nu → KV} {p : Nu → Option Addr} {cap : Nu → Nat} {e m : Nat} {H : List (Sl T)} (e2 sz : Nat) (en : T → List Value)
    (h : OpOK P ops B w0 n i o Spre R (fun ν => [(d, X ν), (k, owK e 1 (p ν) m (cap ν) (H.flatMap enSl))])) (h0 : ∀ x ∈ H, x = (⟨none, 0, []⟩ : Sl T)) : OpOK P ops B w0 n i o Spre R (fun ν => [(d, X ν), (k, nsK e e2 sz en (p ν) m (cap ν) H H)]) :=
  ok_mono h fun ν S a w hr => by
    have h1 : Rep B w0 n (upd (upd S d (X ν)) k (owK e 1 (p ν) m (cap ν) (H.flatMap enSl))) a w := hr
    have h2 := h1.nest0 k e2 sz en (upd_same _ _ _) h0
    refine h2.congr fun j => ?_
    show upd (upd S d (X ν)) k _ j = upd (upd (upd S d (X ν)) k _) k _ j
    by_cases ej : j = k
    · subst ej; rw [upd_same, upd_same]
    · rw [upd_ne _ _ ej, upd_ne _ _ ej, upd_ne _ _ ej]
end Go.Sx
namespace Go.Sx
open Go Go.RowKit
theorem Rep.nestOpen {T : Type} {B n : Nat} {w0 : World} {S : St} {a : Act} {w : World} {e m cap : Nat} {p : Option Addr} {H : List (Sl T)} (h : Rep B w0 n S a w) (k e2 sz : Nat) (en : T → List Value) (hk : S k = owK e 1 p m cap (H.flatMap enSl)) : Rep B w0 n (upd S k (nsK e e2 sz en p m cap H [])) a w :=
  h.conv k (nsK e e2 sz en p m cap H []) hk trivial (by intro c x h; cases h) (fun w hw => NestAt.holds ⟨ow_of hw, fun i x h => by simp at h, fun i j x y _ h => by simp at h, fun i x h => by simp at h⟩) (fun i hi => by
    rcases hi with hi | ⟨j, x, h, _⟩
    · exact hi
    · simp at h)
theorem Rep.nestTake {T : Type} {B n : Nat} {w0 : World} {S : St} {a : Act} {w : World} {e e2 sz m cap n2 c : Nat} {en : T → List Value} {p q : Option Addr} {H L : List (Sl T)} {l : List T} (h : Rep B w0 n S a w) (k k2 : Nat) (hk : S k = nsK e e2 sz en p m cap H L) (hk2 : S k2 = owK e2 sz q n2 c (l.flatMap en)) (hne : Nat.beq k k2 = false) (hen : ∀ x, (en x).length = sz) (hz : 0 < sz) :
    Rep B w0 n (upd (upd S k2 .none) k (nsK e e2 sz en p m cap H (L ++ [(⟨q, c, l⟩ : Sl T)]))) a w := by
  have hne' : k ≠ k2 := fun e => by rw [e, show Nat.beq k2 k2 = true from Nat.beq_refl k2] at hne; cases hne
  have hN : NestAt w e e2 sz en p m cap H L := ns_of (by rw [← hk]; exact h.holds k)
  have ho : w.ownsRow 0 e2 sz (.slice q n2 c) n2 (l.flatMap en) := ow_of (by rw [← hk2]; exact h.holds k2)
  have hn := owns_len ho hen hz
  subst hn
  have hx : (S k).excl := by rw [hk]; trivial
  have hx2 : (S k2).excl := by rw [hk2]; trivial
  have hd : ∀ b, fpOwn q b → ¬ fpNs p L b := fun b hb hb' => h.disj k2 k b (Ne.symm hne') hx2 (by rw [hk2]; exact hb) (by rw [hk]; exact hb')
  have hN2 := hN.takeApp ho hd
  have h0 : Rep B w0 n (upd (upd S k2 .none) k .none) a w := h.weak fun j => by
    by_cases e : j = k
    · subst e; rw [upd_same]; exact .inl rfl
    · rw [upd_ne _ _ e]
      by_cases e2 : j = k2
      · subst e2; rw [upd_same]; exact .inl rfl
      · rw [upd_ne _ _ e2]; exact .inr rfl
  have hcase : ∀ b, fpNs p (L ++ [⟨q, c, l⟩]) b → (S k).fp b ∨ (S k2).fp b := fun b hb => (fpNs_app hb).imp (fun h => by rw [hk]; exact h) fun h => by rw [hk2]; exact h
  refine (h0.ent k (nsK e e2 sz en p m cap H (L ++ [(⟨q, c, l⟩ : Sl T)])) (by intro c x h; cases h) hN2.holds hN2.lt (fun _ i hi => (hcase i hi).elim (h.ge k i hx) (h.ge k2 i hx2)) fun k' i hne2 _ hi hi' => ?_).congr fun j => ?_
  · rw [upd_ne _ _ hne2] at hi'
    by_cases e2 : k' = k2
    · subst e2; rw [upd_same] at hi'; exact hi'
    · rw [upd_ne _ _ e2] at hi'
      rcases hcase i hi with h3 | h3
      · exact h.disj k k' i (Ne.symm hne2) hx h3 hi'
      · exact h.disj k2 k' i (Ne.symm e2) hx2 h3 hi'
  · by_cases e : j = k
    · subst e; rw [upd_same, upd_same]
    · rw [upd_ne _ _ e, upd_ne _ _ e, upd_ne _ _ e]
end Go.Sx
namespace Go.Sx
open Go Go.RowKit
theorem k_doneZ {P : Program} {B n : Nat} {w0 : World} {S : St} {a : Act} {w : World} (hr : Rep B w0 n S a w) {fn : Func} (v : Gh → Value) (g : Gh) (Ms Fs : List KV) (Es : Gh → List Fam) (fr : Nat → Prop) (ks : List Nat) (segs : List (Nat × Seg)) (v0 : Value) (Es0 : List Fam)
    (hv : v g = v0) (hEs : Es g = Es0) (hfr : fr = frI w0.heap.size Fs) (hcase : (B = w0.heap.size ∧ Ms = []) ∨ S KFr = frM Ms w0) (hE : ∀ K ∈ Es0, Fam.OK K)
    (hs : ∀ p ∈ segs, (∃ e, S p.1 = .blk p.2.b p.2.cs e) ∧ Nat.ble (p.2.off + p.2.m) p.2.cs.length = true)
    (hks : ks.map S = Es0.map (fun K => K fr) := by kernel_rfl) (hnd : (nodupB ks && !(ks.contains KFr)) = true := by rfl)
    (hk : (fn.results.toList).all (fun x => isSlot (S (resT x))) = true := by kernel_rfl)
    (hp : peek P (resultsE fn (fun t => envS S (.tmp t))) (segV (segs.map (·.2))) [] = some (v0, segA (segs.map (·.2))) := by kernel_rfl) :
    bodyPost P fn (fun e w' => ∃ g : Gh, e = .returned (v g) ∧ But (fpK Ms) w0 w' ∧ OutOK w0.heap.size (fpK Ms) (frI w0.heap.size Fs) (Es g) w') .ret a w := by
  subst hv hEs
  exact k_doneY hr v g Ms Fs Es fr ks segs hfr hcase hks hnd hE hk hs hp
theorem Rep.dup {B n : Nat} {w0 : World} {S : St} {a : Act} {w : World} (h : Rep B w0 n S a w) (k k2 : Nat) {K : KV} (hk : S k = K) (hx : ¬ K.excl) (hs : ∀ c x, K ≠ .slot c x) : Rep B w0 n (upd S k2 K) a w :=
  h.addF k2 K [k] [K] (by rw [List.map_singleton, hk]) hx hs (fun hF => hF.1) fun hF i hi => ⟨K, by simp, hx, hi⟩
end Go.Sx
namespace Go.Sx
open Go Go.RowKit
end Go.Sx
namespace Go.Sx
open Go Go.RowKit
section
variable {fr : Nat → Prop} {Ks : List KV} {w : World}
theorem sub_rd0 {sz n cap : Nat} {p : Option Addr} {xs : List Value} (R : RowC w sz p n cap xs) (hf : ∀ i, fpRow p n i → ∃ K' ∈ Ks, K'.fp i) (hs : 0 < sz := by decide) : SubF false fr Ks w (rdF anyF sz p n cap xs) :=
  ⟨rdA R hs, fun i hi => by obtain ⟨K, h1, h2⟩ := hf i hi; exact ⟨K, h1, h2, fun h => by cases h⟩⟩
theorem sub_dn0 {G : Type} {E : Part G} {L : List G} (R : RdL E w L) (hf : ∀ i, fpL E L i → ∃ K' ∈ Ks, K'.fp i) : SubF false fr Ks w (dnK anyF E L) :=
  ⟨dnA R, fun i hi => by obtain ⟨K, h1, h2⟩ := hf i hi; exact ⟨K, h1, h2, fun h => by cases h⟩⟩
theorem sub_k {K : KV} (h : K.holds w) (hm : K ∈ Ks) : SubF false fr Ks w K := ⟨h, fun i hi => ⟨K, hm, hi, fun h => by cases h⟩⟩
end
end Go.Sx
namespace Go.Sx
open Go Go.RowKit
theorem famx_cons {K : Fam} {Es : List Fam} (h : (K anyF).excl) (r : ∀ K ∈ Es, (K anyF).excl) : ∀ K' ∈ K :: Es, (K' anyF).excl := fun K' hK => by
  rcases List.mem_cons.1 hK with rfl | hK
  · exact h
  · exact r K' hK
theorem sl_get {T : Type} {x : List (List T)} {L : List (Sl T)} (h : x = L.map Sl.l) {i : Nat} {t : List T} (ht : x[i]? = some t) : ∃ p c, L[i]? = some ⟨p, c, t⟩ := by
  obtain ⟨⟨p, c, l⟩, hy, rfl⟩ := map_get h ht
  exact ⟨p, c, hy⟩
end Go.Sx
namespace Go.Sx
open Go Go.RowKit
structure PtrOK (p : Option Addr) (n m : Nat) : Prop where
  len : n = m
  ptr : n = 0 ∨ ∃ b off, p = some ⟨b, off, none⟩
theorem Rep.at {B n : Nat} {w0 : World} {S : St} {a : Act} {w : World} (h : Rep B w0 n S a w) (k : Nat) {K : KV} (hk : S k = K) : K.holds w := hk ▸ h.holds k
theorem ptr_of {T : Type} {w : World} {sz n : Nat} {p : Option Addr} {en : T → List Value} {l : List T} (R : RowAt w sz p n (l.flatMap en)) (hen : ∀ x, (en x).length = sz) (hs : 0 < sz := by decide) : PtrOK p n l.length :=
  ⟨R.len hen hs, R.2.imp id fun ⟨b, off, h, _⟩ => ⟨b, off, h⟩⟩
theorem ix_pure {X : Type} {P : Program} {w : World} {t : TypeId} {p : Option Addr} {n cap m : Nat} {k : IntKind} {i : Int} {sz : Nat} {x : List X} {s : Sem Next} (R : PtrOK p n m) (hl : x.length = m) (h : 0 ≤ i ∧ i < (x.length : Int))
    (hs : s = Sem.bind (Instr.indexAt t (.slice p n cap) (.int k i)) fun v => Sem.pure (Next.value v)) (hu : P.underlying t = some (.slice (P.elem t)) := by kernel_rfl) (he : (P.info? (P.elem t)).map (·.size) = some sz := by kernel_rfl) :
    s.run P w = .ok (.value (.pointer (some ⟨hdB p, hdO p + i.toNat * sz, none⟩))) w := by
  have hn := R.len
  subst hs
  rcases R.ptr with h0 | ⟨b, off, rfl⟩
  · omega
  · exact run_indexAddr hu he ⟨h.1, by omega⟩
end Go.Sx
