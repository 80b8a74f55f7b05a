/- Sx: words and proofs for walking code by symbolic states (the part 'SyC'). Own work, the same for every seat. -/
import Derived.Test.YtglcmhldonkfdaaDoorSyB
set_option linter.unusedVariables false
set_option linter.unusedSimpArgs false
namespace Go.Sx
open Go Go.RowKit
structure Sl (G : Type) where
  p : Option Addr
  cap : Nat
  l : List G
structure Part (G : Type) where
  fp : G → Nat → Prop
  rd : World → G → Prop
  loc : ∀ w w' x, rd w x → agree (fp x) w w' → rd w' x
  inb : ∀ w x, rd w x → ∀ i, fp x i → i < w.heap.size
structure Enc (G : Type) extends Part G where
  sz : Nat
  en : G → List Value
  pos : 0 < sz
  len : ∀ x, (en x).length = sz
  one : ∀ x, (en x).all (·.oneCell') = true
def Part.tt {G : Type} : Part G := ⟨fun _ _ => False, fun _ _ => True, fun _ _ _ _ _ => trivial, fun _ _ _ _ h => h.elim⟩
def Part.and {G : Type} (A B : Part G) : Part G where
  fp x i := A.fp x i ∨ B.fp x i
  rd w x := A.rd w x ∧ B.rd w x
  loc w w' x h a := ⟨A.loc w w' x h.1 fun i hi => a i (.inl hi), B.loc w w' x h.2 fun i hi => a i (.inr hi)⟩
  inb w x h i hi := hi.elim (A.inb w x h.1 i) (B.inb w x h.2 i)
def Part.at {G H : Type} (A : Part H) (f : G → H) : Part G := ⟨fun x => A.fp (f x), fun w x => A.rd w (f x), fun w w' x => A.loc w w' (f x), fun w x => A.inb w (f x)⟩
def Enc.flat {G : Type} (sz : Nat) (en : G → List Value) (pos : 0 < sz) (len : ∀ x, (en x).length = sz) (one : ∀ x, (en x).all (·.oneCell') = true) : Enc G := { Part.tt with sz := sz, en := en, pos := pos, len := len, one := one }
def Enc.st {G : Type} (sz : Nat) (en : G → List Value) (A : Part G) (pos : 0 < sz) (len : ∀ x, (en x).length = sz) (one : ∀ x, (en x).all (·.oneCell') = true) : Enc G := { A with sz := sz, en := en, pos := pos, len := len, one := one }
def enSl {G : Type} (x : Sl G) : List Value := [.slice x.p x.l.length x.cap]
theorem enSl_len {G : Type} (x : Sl G) : (enSl x).length = 1 := rfl
def fpL {G : Type} (E : Part G) (L : List G) (i : Nat) : Prop := ∃ y ∈ L, E.fp y i
def RdL {G : Type} (E : Part G) (w : World) (L : List G) : Prop := ∀ y ∈ L, E.rd w y
def Enc.row {G : Type} (E : Enc G) : Enc (Sl G) where
  fp x i := fpRow x.p x.l.length i ∨ fpL E.toPart x.l i
  rd w x := RowC w E.sz x.p x.l.length x.cap (x.l.flatMap E.en) ∧ RdL E.toPart w x.l
  loc w w' x h a := ⟨⟨h.1.1, h.1.2.agree fun i hi => a i (.inl hi)⟩, fun y hy => E.loc w w' y (h.2 y hy) fun i hi => a i (.inr ⟨y, hy, hi⟩)⟩
  inb w x h i hi := hi.elim (h.1.2.inb E.pos i) fun ⟨y, hy, hi⟩ => E.inb w y (h.2 y hy) i hi
  sz := 1
  en := enSl
  pos := Nat.one_pos
  len := enSl_len
  one _ := rfl
abbrev dnK {G : Type} (fr : Nat → Prop) (E : Part G) (L : List G) : KV := .fact (fpL E L) (fun w => RdL E w L ∧ ∀ j, fpL E L j → fr j)
section
variable {G : Type} {w : World} {E : Part G} {L : List G} {fr : Nat → Prop}
theorem dn_of (h : (dnK fr E L).holds w) : RdL E w L := (h w (agree.refl _ _)).1
theorem dn_fr (h : (dnK fr E L).holds w) : ∀ j, fpL E L j → fr j := (h w (agree.refl _ _)).2
theorem RdL.agree {w' : World} (h : RdL E w L) (ha : agree (fpL E L) w w') : RdL E w' L := fun y hy => E.loc w w' y (h y hy) fun i hi => ha i ⟨y, hy, hi⟩
theorem RdL.inb (h : RdL E w L) (i : Nat) (hi : fpL E L i) : i < w.heap.size := by
  obtain ⟨y, hy, hi⟩ := hi
  exact E.inb w y (h y hy) i hi
theorem dn_holds (h : RdL E w L) (hf : ∀ j, fpL E L j → fr j) : (dnK fr E L).holds w := fun w' ha => ⟨h.agree ha, hf⟩
theorem dn_fact (h : RdL E w L) (hf : ∀ j, fpL E L j → fr j) (k : Nat) : (∃ fp F, (k, dnK fr E L).2 = .fact fp F) ∧ (dnK fr E L).holds w ∧ ∀ i, (dnK fr E L).fp i → i < w.heap.size :=
  ⟨⟨_, _, rfl⟩, dn_holds h hf, h.inb⟩
theorem rdl_nil : RdL E w [] := fun y hy => by cases hy
theorem rdl_cons {y : G} (h : E.rd w y) (r : RdL E w L) : RdL E w (y :: L) := fun z hz => by
  rcases List.mem_cons.1 hz with rfl | hz
  · exact h
  · exact r z hz
theorem fpl_cons {y : G} {i : Nat} (h : fpL E (y :: L) i) : E.fp y i ∨ fpL E L i := by
  obtain ⟨z, hz, hi⟩ := h
  rcases List.mem_cons.1 hz with rfl | hz
  · exact .inl hi
  · exact .inr ⟨z, hz, hi⟩
theorem rdl_set {y : G} {k : Nat} (r : RdL E w L) (h : E.rd w y) : RdL E w (L.set k y) := fun z hz => by
  rcases List.mem_or_eq_of_mem_set hz with hz | hz
  · exact r z hz
  · exact hz ▸ h
theorem fpl_set {y : G} {k i : Nat} (h : fpL E (L.set k y) i) : fpL E L i ∨ E.fp y i := by
  obtain ⟨z, hz, hi⟩ := h
  rcases List.mem_or_eq_of_mem_set hz with hz | hz
  · exact .inl ⟨z, hz, hi⟩
  · exact .inr (hz ▸ hi)
end
theorem map_get {G T : Type} {er : G → T} {x : List T} {L : List G} (h : x = L.map er) {i : Nat} {t : T} (ht : x[i]? = some t) : ∃ y, L[i]? = some y ∧ er y = t := by
  rw [h, List.getElem?_map] at ht
  exact Option.map_eq_some_iff.1 ht
theorem map_len {G T : Type} {er : G → T} {x : List T} {L : List G} (h : x = L.map er) : x.length = L.length := by rw [h, List.length_map]
theorem map_app {G T : Type} {er : G → T} {x : List T} {L : List G} (h : x = L.map er) (y : G) {t : T} (ht : er y = t := by rfl) : x ++ [t] = (L ++ [y]).map er := by rw [h, List.map_append, ← ht]; rfl
theorem map_set {G T : Type} {er : G → T} {x : List T} {L : List G} (h : x = L.map er) (k : Nat) (y : G) {t : T} (ht : er y = t := by rfl) : x.set k t = (L.set k y).map er := by rw [h, List.map_set, ← ht]
theorem map_repl {G T : Type} {er : G → T} (k : Nat) (y : G) {t : T} (ht : er y = t := by rfl) : List.replicate k t = (List.replicate k y).map er := by rw [List.map_replicate, ht]
open Classical in
noncomputable def Gh.dl {G T : Type} (er : G → T) (gd : T → G) (g : Gh) (j : Nat) (r : List T) : List G :=
  if h : (g.d j).1 = List G then (if (cast h (g.d j).2).map er = r then cast h (g.d j).2 else r.map gd) else r.map gd
theorem dl_er {G T : Type} {er : G → T} {gd : T → G} (hgd : ∀ t, er (gd t) = t) (g : Gh) (j : Nat) (r : List T) : r = (g.dl er gd j r).map er := by
  have h0 : r = (r.map gd).map er := by rw [List.map_map]; exact (List.map_id'' hgd r).symm
  unfold Gh.dl
  split
  · split
    · rename_i h; exact h.symm
    · exact h0
  · exact h0
theorem dl_mk {G T : Type} {er : G → T} {gd : T → G} {g : Gh} {j : Nat} {r : List T} {L : List G} (hg : g.d j = ⟨List G, L⟩) (hr : r = L.map er) : g.dl er gd j r = L := by
  unfold Gh.dl
  rw [hg]
  simp [hr]
theorem fam_dn {G : Type} {E : Part G} {L : List G} : Fam.OK fun fr => dnK fr E L where
  fp _ _ := rfl
  ex _ _ := Iff.rfl
  sl _ _ _ h := by cases h
  up fr fr' w h hf := dn_holds (dn_of h) (hf fun h => h)
  lo fr w _ h := dn_fr h
  inb fr w h := (dn_of h).inb
theorem fam_ow {e sz n cap : Nat} {p : Option Addr} {xs : List Value} : Fam.OK fun _ => owK e sz p n cap xs where
  fp _ _ := rfl
  ex _ _ := Iff.rfl
  sl _ _ _ h := by cases h
  up fr fr' w h hf := h
  lo fr w h := absurd trivial h
  inb fr w h i hi := (owns_lt (ow_of h) i hi).2
theorem fam_blk {b e : Nat} {cs : List Value} : Fam.OK fun _ => .blk b cs e where
  fp _ _ := rfl
  ex _ _ := Iff.rfl
  sl _ _ _ h := by cases h
  up fr fr' w h hf := h
  lo fr w h := absurd trivial h
  inb fr w h i hi := by
    have h' : w.heap[b]? = some (.cells cs.toArray e (0, 0)) := h
    have e' : i = b := hi
    subst e'
    exact (Array.getElem?_eq_some_iff.1 h').1
theorem fams_nil : ∀ K ∈ ([] : List Fam), Fam.OK K := fun K h => by cases h
theorem fams_cons {K : Fam} {Es : List Fam} (h : Fam.OK K) (r : ∀ K ∈ Es, Fam.OK K) : ∀ K' ∈ K :: Es, Fam.OK K' := fun K' hK => by
  rcases List.mem_cons.1 hK with rfl | hK
  · exact h
  · exact r K' hK
theorem sub_bx {fr : Nat → Prop} {Ks : List KV} {w : World} {b e : Nat} {cs : List Value} (h : w.heap[b]? = some (.cells cs.toArray e (0, 0))) {K : KV} (hm : K ∈ Ks) (hf : K.fp b) : SubF false fr Ks w (bxK b cs e) :=
  ⟨(bx_fact h 0).2.1, fun i hi => ⟨K, hm, by have e' : i = b := hi; rw [e']; exact hf, fun h => by cases h⟩⟩
end Go.Sx
