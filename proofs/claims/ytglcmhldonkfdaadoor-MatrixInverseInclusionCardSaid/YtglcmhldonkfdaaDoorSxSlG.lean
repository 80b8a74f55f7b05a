/- Sx: rows: a literal that is told as a row at once. Own work. -/
import Derived.Test.YtglcmhldonkfdaaDoorSxSlF
set_option linter.unusedVariables false
namespace Go.Sx
open Go Go.RowKit
section
variable {P : Program} {ops : Array Oper} {B : Nat} {w0 : World} {n i : Nat} {o : Oper} {Spre : Nu → St}
theorem ok_mono {R : List Nat} {u u' : Nu → List (Nat × KV)} (h : OpOK P ops B w0 n i o Spre R u) (hu : ∀ ν S a w, Rep B w0 n (updAll S (u ν)) a w → Rep B w0 n (updAll S (u' ν)) a w) : OpOK P ops B w0 n i o Spre R u' := by
  intro Q p S a w h1 h2 h3 h4 h5
  refine wpOp_mono ?_ (h Q p S a w h1 h2 h3 h4 h5)
  rintro a' w' ⟨g, hg⟩
  exact ⟨g, fun ν hν => hu ν (S ν) a' w' (hg ν hν)⟩
theorem ok_blkrow {R : List Nat} {d k : Nat} {X : Nu → KV} {b : Nu → Nat} {cs : Nu → List Value} {e : TypeId} (sz m : Nat) (h : OpOK P ops B w0 n i o Spre R (fun ν => [(d, X ν), (k, .blk (b ν) (cs ν) e)])) (hl : ∀ ν, (cs ν).length = m * sz) (hm : m ≤ 1000000000) :
    OpOK P ops B w0 n i o Spre R (fun ν => [(d, X ν), (k, owK e sz (some ⟨b ν, 0, none⟩) m m (cs ν))]) :=
  ok_mono h fun ν S a w hr => by
    have h1 : Rep B w0 n (upd (upd S d (X ν)) k (.blk (b ν) (cs ν) e)) a w := hr
    have h2 := h1.blk_row k (b ν) (cs ν) e sz m (upd_same _ _ _) (hl ν) hm
    refine h2.congr fun j => ?_
    show upd (upd S d (X ν)) k _ j = upd (upd (upd S d (X ν)) k _) k _ j
    by_cases ej : j = k
    · subst ej; rw [upd_same, upd_same]
    · rw [upd_ne _ _ ej, upd_ne _ _ ej, upd_ne _ _ ej]
end
end Go.Sx
namespace Go.Sx
open Go Go.RowKit
theorem ok_gd {P : Program} {ops : Array Oper} {B : Nat} {w0 : World} {n i : Nat} {o : Oper} {Spre : Nu → St} {R : List Nat} {u : Nu → List (Nat × KV)}
    (h : OpOK P (ops.setIfInBounds i { o with guard := none }) B w0 n i { o with guard := none } Spre R u) (hw : ∀ ν, wantS ops o (Spre ν) = some true) : OpOK P ops B w0 n i o Spre (R ++ tmpsOf ops o) u := by
  intro Q p S a w hag hpi hoi hrep hJ
  obtain ⟨ν0, h0⟩ := Ext.exists p
  have hi : i < ops.size := (Array.getElem?_eq_some_iff.1 hoi).1
  have e1 : (ops.setIfInBounds i { o with guard := none })[i]? = some { o with guard := none } := by simp [hi]
  have h1 := h Q p S a w (fun ν hν k hk => hag ν hν k (List.mem_append_left _ hk)) hpi e1 hrep (fun j hj => hJ j (List.mem_append_left _ hj))
  have hwant : Region.wanted o (yielded ops a.tmps) = true := want_eq (hrep ν0 h0) ((wantS_congr fun k hk' => hag ν0 h0 k (List.mem_append_right _ hk')).trans (hw ν0))
  have hw' : Region.wanted { o with guard := none } (yielded (ops.setIfInBounds i { o with guard := none }) a.tmps) = true := rfl
  unfold wpOp at h1 ⊢
  rw [e1] at h1
  rw [hoi]
  dsimp only at h1 ⊢
  rw [if_pos hwant]
  rw [if_pos hw'] at h1
  exact h1
end Go.Sx
