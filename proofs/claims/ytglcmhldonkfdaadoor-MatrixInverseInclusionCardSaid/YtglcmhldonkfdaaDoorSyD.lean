/- Sx: words and proofs for walking code by symbolic states (the part 'SyD'). Own work, the same for every seat. -/
import Derived.Test.YtglcmhldonkfdaaDoorSyC
set_option linter.unusedVariables false
set_option linter.unusedSimpArgs false
namespace Go.Sx
open Go Go.RowKit
structure NestAt {T : Type} (w : World) (e e2 sz : Nat) (en : T → List Value) (p : Option Addr) (m cap : Nat) (H L : List (Sl T)) : Prop where
  hd : w.ownsRow 0 e 1 (.slice p m cap) m (H.flatMap enSl)
  inn : ∀ (i : Nat) x, L[i]? = some x → w.ownsRow 0 e2 sz (.slice x.p x.l.length x.cap) x.l.length (x.l.flatMap en)
  apart : ∀ (i j : Nat) x y, i ≠ j → L[i]? = some x → L[j]? = some y → ∀ b, fpOwn x.p b → ¬ fpOwn y.p b
  off : ∀ (i : Nat) x, L[i]? = some x → ∀ b, fpOwn x.p b → ¬ fpOwn p b
def fpNs {T : Type} (p : Option Addr) (L : List (Sl T)) (b : Nat) : Prop := fpOwn p b ∨ ∃ (i : Nat) (x : Sl T), L[i]? = some x ∧ fpOwn x.p b
abbrev nsK {T : Type} (e e2 sz : Nat) (en : T → List Value) (p : Option Addr) (m cap : Nat) (H L : List (Sl T)) : KV := .own (fpNs p L) (fun w => NestAt w e e2 sz en p m cap H L)
section
variable {T : Type} {w : World} {e e2 sz : Nat} {en : T → List Value} {p : Option Addr} {m cap : Nat} {H L : List (Sl T)}
theorem ns_of (h : (nsK e e2 sz en p m cap H L).holds w) : NestAt w e e2 sz en p m cap H L := h w (agree.refl _ _)
theorem NestAt.agree {w' : World} (h : NestAt w e e2 sz en p m cap H L) (ha : agree (fpNs p L) w w') : NestAt w' e e2 sz en p m cap H L :=
  ⟨owns_agree h.hd fun i hi => ha i (.inl hi), fun i x hx => owns_agree (h.inn i x hx) fun b hb => ha b (.inr ⟨i, x, hx, hb⟩), h.apart, h.off⟩
theorem NestAt.holds (h : NestAt w e e2 sz en p m cap H L) : (nsK e e2 sz en p m cap H L).holds w := fun w' ha => h.agree ha
theorem NestAt.lt (h : NestAt w e e2 sz en p m cap H L) (b : Nat) (hb : fpNs p L b) : b < w.heap.size := by
  rcases hb with hb | ⟨i, x, hx, hb⟩
  · exact (owns_lt h.hd b hb).2
  · exact (owns_lt (h.inn i x hx) b hb).2
theorem NestAt.row (h : NestAt w e e2 sz en p m cap H L) : RowC w 1 p m cap (H.flatMap enSl) := owns_rowC h.hd
theorem NestAt.len (h : NestAt w e e2 sz en p m cap H L) : H.length = m := by have := h.hd.1; rw [flat_len enSl_len] at this; omega
theorem NestAt.one (h : NestAt w e e2 sz en p m cap H L) {i : Nat} {q : Option Addr} {c : Nat} {l : List T} (hx : L[i]? = some ⟨q, c, l⟩) : RowC w sz q l.length c (l.flatMap en) := owns_rowC (h.inn i _ hx)
theorem NestAt.all {pos : 0 < sz} {len : ∀ x, (en x).length = sz} {one : ∀ x, (en x).all (·.oneCell') = true} (h : NestAt w e e2 sz en p m cap H L) : RdL (Enc.flat sz en pos len one).row.toPart w L := fun y hy => by
  obtain ⟨i, hi⟩ := List.getElem?_of_mem hy
  exact ⟨owns_rowC (h.inn i y hi), fun _ _ => trivial⟩
theorem ns_fpH {b : Nat} (h : fpRow p m b) : fpNs p L b := .inl (fp_own h)
theorem ns_fp1 {i b c : Nat} {q : Option Addr} {l : List T} (hx : L[i]? = some ⟨q, c, l⟩) (h : fpRow q l.length b) : fpNs p L b := .inr ⟨i, _, hx, fp_own h⟩
theorem ns_fpA {pos : 0 < sz} {len : ∀ x, (en x).length = sz} {one : ∀ x, (en x).all (·.oneCell') = true} {b : Nat} (h : fpL (Enc.flat sz en pos len one).row.toPart L b) : fpNs p L b := by
  obtain ⟨y, hy, hb⟩ := h
  obtain ⟨i, hi⟩ := List.getElem?_of_mem hy
  rcases hb with hb | ⟨z, _, hz⟩
  · exact .inr ⟨i, y, hi, fp_own hb⟩
  · exact hz.elim
theorem fam_ns : Fam.OK fun _ => nsK e e2 sz en p m cap H L where
  fp _ _ := rfl
  ex _ _ := Iff.rfl
  sl _ _ _ h := by cases h
  up fr fr' w h hf := h
  lo fr w h := absurd trivial h
  inb fr w h := (ns_of h).lt
theorem owns_but {w' : World} {base e sz n cap : Nat} {p : Option Addr} {xs : List Value} {fp : Nat → Prop} (h : w.ownsRow base e sz (.slice p n cap) n xs) (hb : But fp w w') (hd : ∀ b, fpOwn p b → ¬ fp b) : w'.ownsRow base e sz (.slice p n cap) n xs :=
  owns_agree h fun b hb' => hb.block b (owns_lt h b hb').2 (hd b hb')
theorem owns_nil : w.ownsRow 0 e sz (.slice none ([] : List T).length 0) ([] : List T).length (([] : List T).flatMap en) := ⟨by simp, .inl ⟨rfl, rfl⟩⟩
theorem nest_new (hd : w.ownsRow 0 e 1 (.slice p m cap) m (H.flatMap enSl)) (h0 : ∀ x ∈ H, x = (⟨none, 0, []⟩ : Sl T)) : NestAt w e e2 sz en p m cap H H :=
  have hno : ∀ (i : Nat) (x : Sl T), H[i]? = some x → ∀ b, ¬ fpOwn x.p b := fun i x hx b hb => by
    rw [h0 x (List.mem_of_getElem? hx)] at hb
    obtain ⟨a, ha, _⟩ := hb; cases ha
  ⟨hd, fun i x hx => by rw [h0 x (List.mem_of_getElem? hx)]; exact owns_nil, fun i j x y _ hx _ b hb => absurd hb (hno i x hx b), fun i x hx b hb => absurd hb (hno i x hx b)⟩
theorem nest_fp0 (h0 : ∀ x ∈ H, x = (⟨none, 0, []⟩ : Sl T)) {b : Nat} (h : fpNs p H b) : fpOwn p b := by
  rcases h with h | ⟨i, x, hx, hb⟩
  · exact h
  · rw [h0 x (List.mem_of_getElem? hx)] at hb
    obtain ⟨a, ha, _⟩ := hb; cases ha
theorem repl_nil {k : Nat} : ∀ x ∈ List.replicate k (⟨none, 0, []⟩ : Sl T), x = ⟨none, 0, []⟩ := fun x hx => (List.mem_replicate.1 hx).2
theorem set_cases {α : Type} {L : List α} {i j : Nat} {x y : α} (h : (L.set i x)[j]? = some y) : (j = i ∧ y = x) ∨ (j ≠ i ∧ L[j]? = some y) := by
  rw [List.getElem?_set] at h
  by_cases e : i = j
  · subst e
    rw [if_pos rfl] at h
    split at h
    · exact .inl ⟨rfl, (Option.some.inj h).symm⟩
    · cases h
  · rw [if_neg e] at h
    exact .inr ⟨Ne.symm e, h⟩
theorem NestAt.turn {w' : World} (N : NestAt w e e2 sz en p m cap H L) {i : Nat} {x : Sl T} (hx : L[i]? = some x) {p' : Option Addr} {c' : Nat} {l' : List T}
    (ho : w'.ownsRow 0 e2 sz (.slice p' l'.length c') l'.length (l'.flatMap en)) (hb : But (fpOwn x.p) w w') (hn : ∀ b, fpOwn p' b → w.heap.size ≤ b ∨ fpOwn x.p b) : NestAt w' e e2 sz en p m cap H (L.set i ⟨p', c', l'⟩) where
  hd := owns_but N.hd hb fun b h1 h2 => N.off i x hx b h2 h1
  inn j y hy := by
    rcases set_cases hy with ⟨_, rfl⟩ | ⟨hne, hy⟩
    · exact ho
    · exact owns_but (N.inn j y hy) hb (N.apart j i y x hne hy hx)
  apart j k y z hjk hy hz b hby hbz := by
    rcases set_cases hy with ⟨e1, rfl⟩ | ⟨hne, hy⟩
    · rcases set_cases hz with ⟨e2, rfl⟩ | ⟨hne, hz⟩
      · exact hjk (e1.trans e2.symm)
      · rcases hn b hby with h | h
        · have := (owns_lt (N.inn k z hz) b hbz).2; omega
        · exact N.apart i k x z (Ne.symm hne) hx hz b h hbz
    · rcases set_cases hz with ⟨e2, rfl⟩ | ⟨hne', hz⟩
      · rcases hn b hbz with h | h
        · have := (owns_lt (N.inn j y hy) b hby).2; omega
        · exact N.apart j i y x hne hy hx b hby h
      · exact N.apart j k y z hjk hy hz b hby hbz
  off j y hy b hb1 hb2 := by
    rcases set_cases hy with ⟨_, rfl⟩ | ⟨hne, hy⟩
    · rcases hn b hb1 with h | h
      · have := (owns_lt N.hd b hb2).2; omega
      · exact N.off i x hx b h hb2
    · exact N.off j y hy b hb1 hb2
theorem fpNs_turn {i : Nat} {x : Sl T} (hx : L[i]? = some x) {p' : Option Addr} {c' : Nat} {l' : List T} (hn : ∀ b, fpOwn p' b → w.heap.size ≤ b ∨ fpOwn x.p b) {b : Nat} (h : fpNs p (L.set i ⟨p', c', l'⟩) b) : w.heap.size ≤ b ∨ fpNs p L b := by
  rcases h with h | ⟨j, y, hy, hb⟩
  · exact .inr (.inl h)
  · rcases set_cases hy with ⟨_, rfl⟩ | ⟨hne, hy⟩
    · exact (hn b hb).imp id fun h => .inr ⟨i, x, hx, h⟩
    · exact .inr (.inr ⟨j, y, hy, hb⟩)
theorem NestAt.head {w' : World} {H' : List (Sl T)} {p' : Option Addr} {m' cap' : Nat} (N : NestAt w e e2 sz en p m cap H L) (ho : w'.ownsRow 0 e 1 (.slice p' m' cap') m' (H'.flatMap enSl)) (hb : But (fpOwn p) w w') (hn : ∀ b, fpOwn p' b → w.heap.size ≤ b ∨ fpOwn p b) :
    NestAt w' e e2 sz en p' m' cap' H' L where
  hd := ho
  inn j y hy := owns_but (N.inn j y hy) hb (N.off j y hy)
  apart := N.apart
  off j y hy b h1 h2 := by
    rcases hn b h2 with h | h
    · have := (owns_lt (N.inn j y hy) b h1).2; omega
    · exact N.off j y hy b h1 h
theorem fpNs_head {p' : Option Addr} (hn : ∀ b, fpOwn p' b → w.heap.size ≤ b ∨ fpOwn p b) {b : Nat} (h : fpNs p' L b) : w.heap.size ≤ b ∨ fpNs p L b := h.elim (fun h => (hn b h).imp id .inl) fun h => .inr (.inr h)
theorem NestAt.takeSet (N : NestAt w e e2 sz en p m cap H L) {q : Option Addr} {c : Nat} {l : List T} (ho : w.ownsRow 0 e2 sz (.slice q l.length c) l.length (l.flatMap en)) (hd : ∀ b, fpOwn q b → ¬ fpNs p L b) (i : Nat) : NestAt w e e2 sz en p m cap H (L.set i ⟨q, c, l⟩) where
  hd := N.hd
  inn j y hy := by
    rcases set_cases hy with ⟨_, rfl⟩ | ⟨hne, hy⟩
    · exact ho
    · exact N.inn j y hy
  apart j k y z hjk hy hz b hby hbz := by
    rcases set_cases hy with ⟨e1, rfl⟩ | ⟨hne, hy⟩
    · rcases set_cases hz with ⟨e2, rfl⟩ | ⟨hne, hz⟩
      · exact hjk (e1.trans e2.symm)
      · exact hd b hby (.inr ⟨k, z, hz, hbz⟩)
    · rcases set_cases hz with ⟨e2, rfl⟩ | ⟨hne', hz⟩
      · exact hd b hbz (.inr ⟨j, y, hy, hby⟩)
      · exact N.apart j k y z hjk hy hz b hby hbz
  off j y hy b hb1 hb2 := by
    rcases set_cases hy with ⟨_, rfl⟩ | ⟨hne, hy⟩
    · exact hd b hb1 (.inl hb2)
    · exact N.off j y hy b hb1 hb2
theorem app_cases {α : Type} {L : List α} {j : Nat} {x y : α} (h : (L ++ [x])[j]? = some y) : (j = L.length ∧ y = x) ∨ (j < L.length ∧ L[j]? = some y) := by
  by_cases e : j < L.length
  · rw [List.getElem?_append_left e] at h; exact .inr ⟨e, h⟩
  · rw [List.getElem?_append_right (by omega)] at h
    have := (List.getElem?_eq_some_iff.1 h).1
    simp only [List.length_singleton] at this
    have e' : j - L.length = 0 := by omega
    rw [e'] at h
    exact .inl ⟨by omega, (Option.some.inj h).symm⟩
theorem NestAt.takeApp (N : NestAt w e e2 sz en p m cap H L) {q : Option Addr} {c : Nat} {l : List T} (ho : w.ownsRow 0 e2 sz (.slice q l.length c) l.length (l.flatMap en)) (hd : ∀ b, fpOwn q b → ¬ fpNs p L b) : NestAt w e e2 sz en p m cap H (L ++ [⟨q, c, l⟩]) where
  hd := N.hd
  inn j y hy := by
    rcases app_cases hy with ⟨_, rfl⟩ | ⟨_, hy⟩
    · exact ho
    · exact N.inn j y hy
  apart j k y z hjk hy hz b hby hbz := by
    rcases app_cases hy with ⟨e1, rfl⟩ | ⟨_, hy⟩
    · rcases app_cases hz with ⟨e2, rfl⟩ | ⟨_, hz⟩
      · exact hjk (e1.trans e2.symm)
      · exact hd b hby (.inr ⟨k, z, hz, hbz⟩)
    · rcases app_cases hz with ⟨e2, rfl⟩ | ⟨_, hz⟩
      · exact hd b hbz (.inr ⟨j, y, hy, hby⟩)
      · exact N.apart j k y z hjk hy hz b hby hbz
  off j y hy b hb1 hb2 := by
    rcases app_cases hy with ⟨_, rfl⟩ | ⟨_, hy⟩
    · exact hd b hb1 (.inl hb2)
    · exact N.off j y hy b hb1 hb2
theorem fpNs_set {q : Option Addr} {c i : Nat} {l : List T} {b : Nat} (h : fpNs p (L.set i ⟨q, c, l⟩) b) : fpNs p L b ∨ fpOwn q b := by
  rcases h with h | ⟨j, y, hy, hb⟩
  · exact .inl (.inl h)
  · rcases set_cases hy with ⟨_, rfl⟩ | ⟨hne, hy⟩
    · exact .inr hb
    · exact .inl (.inr ⟨j, y, hy, hb⟩)
theorem fpNs_app {q : Option Addr} {c : Nat} {l : List T} {b : Nat} (h : fpNs p (L ++ [⟨q, c, l⟩]) b) : fpNs p L b ∨ fpOwn q b := by
  rcases h with h | ⟨j, y, hy, hb⟩
  · exact .inl (.inl h)
  · rcases app_cases hy with ⟨_, rfl⟩ | ⟨_, hy⟩
    · exact .inr hb
    · exact .inl (.inr ⟨j, y, hy, hb⟩)
theorem NestAt.repool (N : NestAt w e e2 sz en p m cap H L) {L' : List (Sl T)} (σ : Nat → Nat) (hσ : ∀ i x, L'[i]? = some x → L[σ i]? = some x) (hi : ∀ i j, σ i = σ j → i = j) : NestAt w e e2 sz en p m cap H L' :=
  ⟨N.hd, fun i x hx => N.inn _ x (hσ i x hx), fun i j x y hne hx hy => N.apart _ _ x y (fun e => hne (hi i j e)) (hσ i x hx) (hσ j y hy), fun i x hx => N.off _ x (hσ i x hx)⟩
theorem fpNs_repool {L' : List (Sl T)} (σ : Nat → Nat) (hσ : ∀ i x, L'[i]? = some x → L[σ i]? = some x) {b : Nat} (h : fpNs p L' b) : fpNs p L b := by
  rcases h with h | ⟨i, x, hx, hb⟩
  · exact .inl h
  · exact .inr ⟨σ i, x, hσ i x hx, hb⟩
def swapN (k j i : Nat) : Nat := if i = j then k else if i = k then j else i
theorem swapN_inj {k l i j : Nat} (h : swapN k l i = swapN k l j) : i = j := by
  unfold swapN at h
  split at h <;> split at h <;> (try split at h) <;> (try split at h) <;> omega
theorem swap_get {α : Type} {L : List α} {k l : Nat} {a b : α} (ha : L[k]? = some a) (hb : L[l]? = some b) : ∀ i x, ((L.set k b).set l a)[i]? = some x → L[swapN k l i]? = some x := fun i x h => by
  unfold swapN
  rcases set_cases h with ⟨e, rfl⟩ | ⟨e, h⟩
  · rw [if_pos e]; exact ha
  · rw [if_neg e]
    rcases set_cases h with ⟨e', rfl⟩ | ⟨e', h⟩
    · rw [if_pos e']; exact hb
    · rw [if_neg e']; exact h
end
theorem Rep.conv {B n : Nat} {w0 : World} {S : St} {a : Act} {w : World} (h : Rep B w0 n S a w) (k : Nat) {K : KV} (K' : KV) (hk : S k = K) (hx : K.excl) (hs : ∀ c x, K' ≠ .slot c x) (hK : ∀ w, K.holds w → K'.holds w) (hf : ∀ i, K'.fp i → K.fp i) : Rep B w0 n (upd S k K') a w := by
  have hf' : ∀ i, K'.fp i → (S k).fp i := fun i hi => by rw [hk]; exact hf i hi
  have hx' : (S k).excl := by rw [hk]; exact hx
  have h0 : Rep B w0 n (upd S k .none) a w := h.weak fun j => by
    by_cases e : j = k
    · subst e; rw [upd_same]; exact .inl rfl
    · rw [upd_ne _ _ e]; exact .inr rfl
  have h1 := h0.ent k K' hs (hK w (by rw [← hk]; exact h.holds k)) (fun i hi => h.inb k i (hf' i hi)) (fun _ i hi => h.ge k i hx' (hf' i hi)) (fun k' i hne _ hi hi' => by
    rw [upd_ne _ _ hne] at hi'
    exact h.disj k k' i (Ne.symm hne) hx' (hf' i hi) hi')
  refine h1.congr fun j => ?_
  by_cases e : j = k
  · subst e; rw [upd_same, upd_same]
  · rw [upd_ne _ _ e, upd_ne _ _ e, upd_ne _ _ e]
theorem Rep.addF {B n : Nat} {w0 : World} {S : St} {a : Act} {w : World} (h : Rep B w0 n S a w) (k : Nat) (K : KV) (ks : List Nat) (Ks : List KV) (hks : ks.map S = Ks) (hnx : ¬ K.excl) (hs : ∀ c x, K ≠ .slot c x) (hK : AllH Ks w → K.holds w) (hf : AllH Ks w → ∀ i, K.fp i → factFp Ks i) : Rep B w0 n (upd S k K) a w := by
  have hA : AllH Ks w := by rw [← hks]; exact allH_map h ks
  have hq : ∀ i, K.fp i → ∃ j ∈ ks, ¬ (S j).excl ∧ (S j).fp i := fun i hi => by
    obtain ⟨K', hK', h1, h2⟩ := hf hA i hi
    rw [← hks] at hK'
    obtain ⟨j, hj, rfl⟩ := List.mem_map.1 hK'
    exact ⟨j, hj, h1, h2⟩
  refine h.ent k K hs (hK hA) (fun i hi => ?_) (fun hx => absurd hx hnx) fun k' i hne hx hi hi' => ?_
  · obtain ⟨j, _, _, h2⟩ := hq i hi
    exact h.inb j i h2
  · obtain ⟨j, _, h1, h2⟩ := hq i hi
    have hx := hx.resolve_left hnx
    exact h.disj k' j i (fun e => h1 (e ▸ hx)) hx hi' h2
theorem Rep.add0 {B n : Nat} {w0 : World} {S : St} {a : Act} {w : World} (h : Rep B w0 n S a w) (k : Nat) (K : KV) (hs : ∀ c x, K ≠ .slot c x) (hK : K.holds w) (hf : ∀ i, ¬ K.fp i) : Rep B w0 n (upd S k K) a w :=
  h.ent k K hs hK (fun i hi => absurd hi (hf i)) (fun _ i hi => absurd hi (hf i)) fun k' i _ _ hi => absurd hi (hf i)
theorem Rep.move {B n : Nat} {w0 : World} {S : St} {a : Act} {w : World} (h : Rep B w0 n S a w) (k k2 : Nat) {K : KV} (hk : S k = K) (hs : ∀ c x, K ≠ .slot c x) : Rep B w0 n (upd (upd S k .none) k2 K) a w := by
  have h0 : Rep B w0 n (upd S k .none) a w := h.weak fun j => by
    by_cases e : j = k
    · subst e; rw [upd_same]; exact .inl rfl
    · rw [upd_ne _ _ e]; exact .inr rfl
  refine h0.ent k2 K hs (by rw [← hk]; exact h.holds k) (fun i hi => h.inb k i (by rw [hk]; exact hi)) (fun hx i hi => h.ge k i (by rw [hk]; exact hx) (by rw [hk]; exact hi)) fun k' i hne hx hi hi' => ?_
  by_cases e : k' = k
  · subst e; rw [upd_same] at hi'; exact hi'
  · rw [upd_ne _ _ e] at hx hi'
    rcases hx with hx | hx
    · exact h.disj k k' i (Ne.symm e) (by rw [hk]; exact hx) (by rw [hk]; exact hi) hi'
    · exact h.disj k' k i e hx hi' (by rw [hk]; exact hi)
theorem Rep.denest {T : Type} {B n : Nat} {w0 : World} {S : St} {a : Act} {w : World} {e e2 sz m cap : Nat} {en : T → List Value} {p : Option Addr} {L : List (Sl T)} (h : Rep B w0 n S a w) (k k2 : Nat) (fr : Nat → Prop) (pos : 0 < sz) (len : ∀ x, (en x).length = sz) (one : ∀ x, (en x).all (·.oneCell') = true) (hf : ∀ j, B ≤ j → fr j) (hk : S k = nsK e e2 sz en p m cap L L) (hne : k2 ≠ k) :
    Rep B w0 n (upd (upd S k2 (dnK fr (Enc.flat sz en pos len one).row.toPart L)) k (owK e 1 p m cap (L.flatMap enSl))) a w := by
  have hN : NestAt w e e2 sz en p m cap L L := ns_of (by rw [← hk]; exact h.holds k)
  have hx : (S k).excl := by rw [hk]; trivial
  have h1 := h.conv k (owK e 1 p m cap (L.flatMap enSl)) hk trivial (by intro c x h; cases h) (fun w hw => fun w' ha => owns_agree (ns_of hw).hd ha) (fun i hi => .inl hi)
  have hfp : ∀ i, fpL (Enc.flat sz en pos len one).row.toPart L i → (S k).fp i := fun i hi => by rw [hk]; exact ns_fpA hi
  have h2 := h1.ent k2 (dnK fr (Enc.flat sz en pos len one).row.toPart L) (by intro c x h; cases h) (dn_holds hN.all fun j hj => hf j (h.ge k j hx (hfp j hj))) (fun i hi => h.inb k i (hfp i hi)) (fun h => h.elim) fun k' i hne' hx' hi hi' => by
    have hx' := hx'.resolve_left fun h => h
    by_cases e : k' = k
    · subst e
      rw [upd_same] at hi'
      obtain ⟨y, hy, hb⟩ := hi
      obtain ⟨j, hj⟩ := List.getElem?_of_mem hy
      rcases hb with hb | ⟨z, _, hz⟩
      · exact hN.off j y hj i (fp_own hb) hi'
      · exact hz
    · rw [upd_ne _ _ e] at hi'
      exact h.disj k k' i (Ne.symm e) hx (hfp i hi) hi'
  refine h2.congr fun j => ?_
  by_cases e : j = k
  · subst e; rw [upd_same, upd_ne _ _ (Ne.symm hne), upd_same]
  · rw [upd_ne _ _ e]
    by_cases e2 : j = k2
    · subst e2; rw [upd_same, upd_same]
    · rw [upd_ne _ _ e2, upd_ne _ _ e2, upd_ne _ _ e]
section
variable {P : Program} {ops : Array Oper} {B : Nat} {w0 : World} {n i : Nat} {o : Oper} {Spre : Nu → St}
theorem newOK_one {N : Nat} {M F : Nat → Prop} {w' : World} {k : Nat} {K : KV} (hs : ∀ c x, K ≠ .slot c x) (hh : K.holds w') (hi : ∀ i, K.fp i → i < w'.heap.size) (hf : ∀ i, K.fp i → N ≤ i ∨ M i) (hMF : ∀ i, M i → F i) : NewOK N M F [(k, K)] w' :=
  ⟨fun p hp => by obtain rfl := List.mem_singleton.1 hp; exact ⟨hs, hh, hi, fun _ => hf, fun _ i h => (hf i h).imp id (hMF i)⟩, List.pairwise_singleton _ _⟩
theorem fpK_one {K : KV} {i : Nat} : fpK [K] i ↔ K.fp i := ⟨fun ⟨K', h, hi⟩ => by obtain rfl := List.mem_singleton.1 h; exact hi, fun h => ⟨K, by simp, h⟩⟩
theorem ok_own1 (J : List Nat) (ks : List Nat) (Ks : Nu → List KV) (k : Nat) (K : Nu → KV) (d : Option Nat) (v : Nu → Gh → Value) (K' : Nu → Gh → KV)
    (hv : ∀ ν w, AllH (Ks ν) w → (K ν).holds w → ∃ g w', (execOp (envU (Spre ν)) o).run P w = .ok (outN d (v ν g)) w' ∧ But (K ν).fp w w' ∧ (K' ν g).holds w' ∧ (∀ i, (K' ν g).fp i → i < w'.heap.size) ∧ ∀ i, (K' ν g).fp i → w.heap.size ≤ i ∨ (K ν).fp i)
    (hs : ∀ ν g c x, K' ν g ≠ .slot c x := by intro _ _ _ _ h; cases h)
    (hloc : ∀ ν ν', (∀ j ∈ J, ν j = ν' j) → Ks ν = Ks ν' ∧ K ν = K ν' ∧ v ν = v ν' ∧ K' ν = K' ν' := by exact fun _ _ _ => ⟨rfl, rfl, rfl, rfl⟩)
    (hK : ∀ ν, ks.map (Spre ν) = Ks ν := by intro _; kernel_rfl) (hJs : ∀ ν, Spre ν k = K ν := by intro _; kernel_rfl) (hx : ∀ ν, exclB (K ν) = true := by intro _; kernel_rfl)
    (hkeys : (Nat.ble n k && !(ks.contains k)) = true := by rfl)
    (hd : o.dst = d := by rfl) (hdn : (match d with | some t => Nat.blt t n | none => true) = true := by rfl) (hsel : noSel o = true := by rfl) (hg : o.guard = none := by rfl)
    (hk : ∀ ν, (o.op.operands.all (knownB (Spre ν))) = true := by intro _; kernel_rfl) (hp : ∀ ν, (condsOf o (Spre ν)).all id = true := by intro _; kernel_rfl) :
    OpOK P ops B w0 n i o Spre (tks J ++ ks ++ [k] ++ tmpsOf ops o) (fun ν => outK d (v ν (ν i)) ++ (offL [k] ++ [(k, K' ν (ν i))])) := by
  refine ok_turn J ks Ks [k] (fun ν => [K ν]) d v (fun ν g => [(k, K' ν g)]) (fun ν w hF hO => ?_) (fun ν ν' h => ?_) hK (fun ν => by rw [List.map_singleton, hJs ν]) (fun ν => by simp [hx ν]) (by simpa [nodupB] using hkeys) hd hdn hsel hg hk hp
  · obtain ⟨g, w', h1, h2, h3, h4, h5⟩ := hv ν w hF (hO.one (K ν) (by simp)).1
    exact ⟨g, w', h1, h2.mono fun i h => fpK_one.2 h, newOK_one (hs ν g) h3 h4 (fun i h => (h5 i h).imp id fun h => fpK_one.2 h) fun i h => .inl h⟩
  · obtain ⟨h1, h2, h3, h4⟩ := hloc ν ν' h
    exact ⟨h1, by simp only [h2], h3, by simp only [h4]⟩
theorem ok_own2 (J : List Nat) (ks : List Nat) (Ks : Nu → List KV) (k k2 : Nat) (K K2 : Nu → KV) (d : Option Nat) (v : Nu → Gh → Value) (K' : Nu → Gh → KV)
    (hv : ∀ ν w, AllH (Ks ν) w → (K ν).holds w → (K2 ν).holds w → (∀ b, (K2 ν).fp b → ¬ (K ν).fp b ∧ b < w.heap.size) → ∃ g w', (execOp (envU (Spre ν)) o).run P w = .ok (outN d (v ν g)) w' ∧ But (K ν).fp w w' ∧ (K' ν g).holds w' ∧ (∀ i, (K' ν g).fp i → i < w'.heap.size) ∧ ∀ i, (K' ν g).fp i → w.heap.size ≤ i ∨ (K ν).fp i ∨ (K2 ν).fp i)
    (hs : ∀ ν g c x, K' ν g ≠ .slot c x := by intro _ _ _ _ h; cases h)
    (hloc : ∀ ν ν', (∀ j ∈ J, ν j = ν' j) → Ks ν = Ks ν' ∧ K ν = K ν' ∧ K2 ν = K2 ν' ∧ v ν = v ν' ∧ K' ν = K' ν' := by exact fun _ _ _ => ⟨rfl, rfl, rfl, rfl, rfl⟩)
    (hK : ∀ ν, ks.map (Spre ν) = Ks ν := by intro _; kernel_rfl) (hJs : ∀ ν, Spre ν k = K ν := by intro _; kernel_rfl) (hJ2 : ∀ ν, Spre ν k2 = K2 ν := by intro _; kernel_rfl) (hx : ∀ ν, (exclB (K ν) && exclB (K2 ν)) = true := by intro _; kernel_rfl)
    (hkeys : (Nat.ble n k && Nat.ble n k2 && !(ks.contains k) && !(ks.contains k2) && !(Nat.beq k k2)) = true := by rfl)
    (hd : o.dst = d := by rfl) (hdn : (match d with | some t => Nat.blt t n | none => true) = true := by rfl) (hsel : noSel o = true := by rfl) (hg : o.guard = none := by rfl)
    (hk : ∀ ν, (o.op.operands.all (knownB (Spre ν))) = true := by intro _; kernel_rfl) (hp : ∀ ν, (condsOf o (Spre ν)).all id = true := by intro _; kernel_rfl) :
    OpOK P ops B w0 n i o Spre (tks J ++ ks ++ [k, k2] ++ tmpsOf ops o) (fun ν => outK d (v ν (ν i)) ++ (offL [k, k2] ++ [(k, K' ν (ν i))])) := by
  have hne : k ≠ k2 := fun e => by
    subst e
    simp [show Nat.beq k k = true from Nat.beq_refl k] at hkeys
  refine ok_turn J ks Ks [k, k2] (fun ν => [K ν, K2 ν]) d v (fun ν g => [(k, K' ν g)]) (fun ν w hF hO => ?_) (fun ν ν' h => ?_) hK (fun ν => by rw [List.map_cons, List.map_singleton, hJs ν, hJ2 ν]) (fun ν => by have := hx ν; simpa using this) ?_ hd hdn hsel hg hk hp
  · have q2 := hO.one (K2 ν) (by simp)
    obtain ⟨g, w', h1, h2, h3, h4, h5⟩ := hv ν w hF (hO.one (K ν) (by simp)).1 q2.1 fun b hb => ⟨fun hb' => by
      have := hO.two
      rw [List.pairwise_cons] at this
      exact this.1 (K2 ν) (by simp) b hb' hb, q2.2.2 b hb⟩
    exact ⟨g, w', h1, h2.mono fun i h => ⟨K ν, by simp, h⟩, newOK_one (hs ν g) h3 h4 (fun i h => (h5 i h).imp id fun h => h.elim (fun h => ⟨K ν, by simp, h⟩) fun h => ⟨K2 ν, by simp, h⟩) fun i h => .inl h⟩
  · obtain ⟨h1, h2, h3, h4, h5⟩ := hloc ν ν' h
    exact ⟨h1, by simp only [h2, h3], h4, by simp only [h5]⟩
  · have hkeys' := hkeys
    simp only [Bool.and_eq_true, Bool.not_eq_true', Nat.ble_eq] at hkeys'
    obtain ⟨⟨⟨⟨a1, a2⟩, a3⟩, a4⟩, _⟩ := hkeys'
    simp [nodupB, hne, a1, a2]
    constructor
    · simpa using a3
    · simpa using a4
theorem ok_ownF (J : List Nat) (ks : List Nat) (Ks : Nu → List KV) (k kf : Nat) (K : Nu → KV) (d : Option Nat) (v : Nu → Gh → Value) (K' F' : Nu → Gh → KV)
    (hv : ∀ ν w, AllH (Ks ν) w → (K ν).holds w → ∃ g w', (execOp (envU (Spre ν)) o).run P w = .ok (outN d (v ν g)) w' ∧ But (K ν).fp w w' ∧ (K' ν g).holds w' ∧ (∀ i, (K' ν g).fp i → i < w'.heap.size) ∧ (∀ i, (K' ν g).fp i → w.heap.size ≤ i ∨ (K ν).fp i) ∧
      (F' ν g).holds w ∧ ∀ i, (F' ν g).fp i → factFp (Ks ν) i ∧ i < w.heap.size)
    (hs : ∀ ν g c x, K' ν g ≠ .slot c x := by intro _ _ _ _ h; cases h) (hs2 : ∀ ν g, (∀ c x, F' ν g ≠ .slot c x) ∧ ¬ (F' ν g).excl := by exact fun _ _ => ⟨(fun _ _ h => by cases h), (fun h => h)⟩)
    (hloc : ∀ ν ν', (∀ j ∈ J, ν j = ν' j) → Ks ν = Ks ν' ∧ K ν = K ν' ∧ v ν = v ν' ∧ K' ν = K' ν' ∧ F' ν = F' ν' := by exact fun _ _ _ => ⟨rfl, rfl, rfl, rfl, rfl⟩)
    (hK : ∀ ν, ks.map (Spre ν) = Ks ν := by intro _; kernel_rfl) (hJs : ∀ ν, Spre ν k = K ν := by intro _; kernel_rfl) (hx : ∀ ν, exclB (K ν) = true := by intro _; kernel_rfl)
    (hkeys : (Nat.ble n k && !(ks.contains k) && !(Nat.beq k kf)) = true := by rfl)
    (hd : o.dst = d := by rfl) (hdn : (match d with | some t => Nat.blt t n | none => true) = true := by rfl) (hsel : noSel o = true := by rfl) (hg : o.guard = none := by rfl)
    (hk : ∀ ν, (o.op.operands.all (knownB (Spre ν))) = true := by intro _; kernel_rfl) (hp : ∀ ν, (condsOf o (Spre ν)).all id = true := by intro _; kernel_rfl) :
    OpOK P ops B w0 n i o Spre (tks J ++ ks ++ [k] ++ tmpsOf ops o) (fun ν => outK d (v ν (ν i)) ++ (offL [k] ++ [(k, K' ν (ν i)), (kf, F' ν (ν i))])) := by
  have hne : k ≠ kf := fun e => by
    subst e
    simp [show Nat.beq k k = true from Nat.beq_refl k] at hkeys
  simp only [Bool.and_eq_true, Bool.not_eq_true', Nat.ble_eq] at hkeys
  refine ok_turn J ks Ks [k] (fun ν => [K ν]) d v (fun ν g => [(k, K' ν g), (kf, F' ν g)]) (fun ν w hF hO => ?_) (fun ν ν' h => ?_) hK (fun ν => by rw [List.map_singleton, hJs ν]) (fun ν => by simp [hx ν]) ?_ hd hdn hsel hg hk hp
  · obtain ⟨g, w', h1, h2, h3, h4, h5, h6, h7⟩ := hv ν w hF (hO.one (K ν) (by simp)).1
    have hoff : ∀ i, (F' ν g).fp i → ¬ (K ν).fp i := fun i hi hi' => by
      obtain ⟨C, hC, _, hCi⟩ := (h7 i hi).1
      exact hO.off (K ν) (by simp) C hC i hi' hCi
    refine ⟨g, w', h1, h2.mono fun i h => fpK_one.2 h, ?_, ?_⟩
    · intro p hp
      rcases List.mem_cons.1 hp with rfl | hp
      · exact ⟨hs ν g, h3, h4, fun _ i h => (h5 i h).imp id fun h => fpK_one.2 h, fun _ i h => (h5 i h).imp id fun h => .inl (fpK_one.2 h)⟩
      · obtain rfl := List.mem_singleton.1 hp
        exact ⟨(hs2 ν g).1, KV.holds_agree h6 fun i hi => h2.block i (h7 i hi).2 (hoff i hi), fun i hi => Nat.lt_of_lt_of_le (h7 i hi).2 h2.size, fun hx => absurd hx (hs2 ν g).2, fun _ i hi => .inr (.inr (h7 i hi).1)⟩
    · refine .cons (fun p hp => ?_) (List.pairwise_singleton _ _)
      obtain rfl := List.mem_singleton.1 hp
      exact ⟨hne, fun _ i hi hi' => (h5 i hi).elim (fun h => by have := (h7 i hi').2; omega) fun h => hoff i hi' h⟩
  · obtain ⟨h1, h2, h3, h4, h5⟩ := hloc ν ν' h
    exact ⟨h1, by simp only [h2], h3, by simp only [h4, h5]⟩
  · simp [nodupB]
    exact ⟨hkeys.1.1, by simpa using hkeys.1.2⟩
end
end Go.Sx
