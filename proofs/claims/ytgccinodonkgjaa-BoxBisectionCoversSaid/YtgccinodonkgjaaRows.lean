/-
  No cell of these rows narrows 'for every input' (looked for: loops, veiled, ifaces, maps, wideKeys, modest, calm, conditions, laid).
  DERIVED. THE GIVEN ROWS OF THIS SEAT. 9 by the template 'for every input the law returns true; each argument reads behind the call as it read before'; 0 by the template 'total and deterministic' (their statements: YtgccinodonkgjaaTotals.lean).
  GIVEN WITH THE SEED: the statements are not yours to turn. If you find one false, say at which input.
  Laid BY PROGRAM, IN A SANDBOX (cutbox-rows.mjs): the forced cells as the released guide's own fill.sh prints them over the translation 98b9e3e1507ece04… (all of the seat's roots in one cut). By AI agents, Wed Nov 11 2026. No macro, syntax, notation, axiom, sorry.
-/
import Derived.Test.YtgccinodonkgjaaChecked
import GoSem.Claim
import GoSem.ClaimJoined
import GoSem.ClaimMapViews
import Derived.JoinedTies
import Derived.KernelRfl
namespace Go.Proofs.Ytgccinodonkgjaa
/- THE CELL 'sum', in the pinned program and in every row, IS THE sha256 OF THE DUMP (.gsa) THAT YtgccinodonkgjaaProg.lean LOADS. Nothing in Lean hashes anything: it is a label: what it is worth is what the hold of that sum in a sandbox is worth. -/
noncomputable def Try.pinned : Pinned := { name := "ytgccinodonkgjaa", sum := "98b9e3e1507ece04522118dd6e31a104ac93b203a6d8b1762553d224a634fe7d", checked := Try.checked }
namespace Rows
def none {H : Type} : Left H := { results := [], args := [] }

/-- 'armillarylaw03.BoxMatchesReference': WHATEVER THE INPUT: true; the input reads as it did. -/
def boxMatchesReferenceSpec : ChangeSpec := { name := "boxMatchesReference", fn := fun _ => fun
  | [d1, d2, d3] => { results := [.lit (.bool true)], args := [d1, d2, d3] }
  | _ => none }
def boxMatchesReferenceRow : OpenClaim := { program := "ytgccinodonkgjaa", sum := "98b9e3e1507ece04522118dd6e31a104ac93b203a6d8b1762553d224a634fe7d", func := "armillary/armillarylaw03.BoxMatchesReference", spec := "boxMatchesReference", unfollowed := true, recurses := true, apart := false }
def BoxMatchesReferenceSaid : Prop := boxMatchesReferenceRow.holds Try.pinned (OpenSpec.ofChange boxMatchesReferenceSpec)

/-- ITS FALSE NEIGHBOUR: 'it returns false'. Refute it at one input. -/
def boxMatchesReferenceWrong : ChangeSpec := { name := "boxMatchesReference", fn := fun _ => fun
  | [d1, d2, d3] => { results := [.lit (.bool false)], args := [d1, d2, d3] }
  | _ => none }
def BoxMatchesReferenceWrongFalsely : Prop := boxMatchesReferenceRow.holds Try.pinned (OpenSpec.ofChange boxMatchesReferenceWrong)

/-- 'armillarylaw03.BoxBisectionMatchesReference': WHATEVER THE INPUT: true; the input reads as it did. -/
def boxBisectionMatchesReferenceSpec : ChangeSpec := { name := "boxBisectionMatchesReference", fn := fun _ => fun
  | [d1, d2] => { results := [.lit (.bool true)], args := [d1, d2] }
  | _ => none }
def boxBisectionMatchesReferenceRow : OpenClaim := { program := "ytgccinodonkgjaa", sum := "98b9e3e1507ece04522118dd6e31a104ac93b203a6d8b1762553d224a634fe7d", func := "armillary/armillarylaw03.BoxBisectionMatchesReference", spec := "boxBisectionMatchesReference", unfollowed := true, recurses := true, apart := false }
def BoxBisectionMatchesReferenceSaid : Prop := boxBisectionMatchesReferenceRow.holds Try.pinned (OpenSpec.ofChange boxBisectionMatchesReferenceSpec)

/-- ITS FALSE NEIGHBOUR: 'it returns false'. Refute it at one input. -/
def boxBisectionMatchesReferenceWrong : ChangeSpec := { name := "boxBisectionMatchesReference", fn := fun _ => fun
  | [d1, d2] => { results := [.lit (.bool false)], args := [d1, d2] }
  | _ => none }
def BoxBisectionMatchesReferenceWrongFalsely : Prop := boxBisectionMatchesReferenceRow.holds Try.pinned (OpenSpec.ofChange boxBisectionMatchesReferenceWrong)

/-- 'armillarylaw03.BoxSubsetOrder': WHATEVER THE INPUT: true; the input reads as it did. -/
def boxSubsetOrderSpec : ChangeSpec := { name := "boxSubsetOrder", fn := fun _ => fun
  | [d] => { results := [.lit (.bool true)], args := [d] }
  | _ => none }
def boxSubsetOrderRow : OpenClaim := { program := "ytgccinodonkgjaa", sum := "98b9e3e1507ece04522118dd6e31a104ac93b203a6d8b1762553d224a634fe7d", func := "armillary/armillarylaw03.BoxSubsetOrder", spec := "boxSubsetOrder", unfollowed := true, recurses := true, apart := false }
def BoxSubsetOrderSaid : Prop := boxSubsetOrderRow.holds Try.pinned (OpenSpec.ofChange boxSubsetOrderSpec)

/-- ITS FALSE NEIGHBOUR: 'it returns false'. Refute it at one input. -/
def boxSubsetOrderWrong : ChangeSpec := { name := "boxSubsetOrder", fn := fun _ => fun
  | [d] => { results := [.lit (.bool false)], args := [d] }
  | _ => none }
def BoxSubsetOrderWrongFalsely : Prop := boxSubsetOrderRow.holds Try.pinned (OpenSpec.ofChange boxSubsetOrderWrong)

/-- 'armillarylaw03.BoxHullIsLeastUpperBound': WHATEVER THE INPUT: true; the input reads as it did. -/
def boxHullIsLeastUpperBoundSpec : ChangeSpec := { name := "boxHullIsLeastUpperBound", fn := fun _ => fun
  | [d] => { results := [.lit (.bool true)], args := [d] }
  | _ => none }
def boxHullIsLeastUpperBoundRow : OpenClaim := { program := "ytgccinodonkgjaa", sum := "98b9e3e1507ece04522118dd6e31a104ac93b203a6d8b1762553d224a634fe7d", func := "armillary/armillarylaw03.BoxHullIsLeastUpperBound", spec := "boxHullIsLeastUpperBound", unfollowed := true, recurses := true, apart := false }
def BoxHullIsLeastUpperBoundSaid : Prop := boxHullIsLeastUpperBoundRow.holds Try.pinned (OpenSpec.ofChange boxHullIsLeastUpperBoundSpec)

/-- ITS FALSE NEIGHBOUR: 'it returns false'. Refute it at one input. -/
def boxHullIsLeastUpperBoundWrong : ChangeSpec := { name := "boxHullIsLeastUpperBound", fn := fun _ => fun
  | [d] => { results := [.lit (.bool false)], args := [d] }
  | _ => none }
def BoxHullIsLeastUpperBoundWrongFalsely : Prop := boxHullIsLeastUpperBoundRow.holds Try.pinned (OpenSpec.ofChange boxHullIsLeastUpperBoundWrong)

/-- 'armillarylaw03.BoxIntersectIsGreatestLowerBound': WHATEVER THE INPUT: true; the input reads as it did. -/
def boxIntersectIsGreatestLowerBoundSpec : ChangeSpec := { name := "boxIntersectIsGreatestLowerBound", fn := fun _ => fun
  | [d] => { results := [.lit (.bool true)], args := [d] }
  | _ => none }
def boxIntersectIsGreatestLowerBoundRow : OpenClaim := { program := "ytgccinodonkgjaa", sum := "98b9e3e1507ece04522118dd6e31a104ac93b203a6d8b1762553d224a634fe7d", func := "armillary/armillarylaw03.BoxIntersectIsGreatestLowerBound", spec := "boxIntersectIsGreatestLowerBound", unfollowed := true, recurses := true, apart := false }
def BoxIntersectIsGreatestLowerBoundSaid : Prop := boxIntersectIsGreatestLowerBoundRow.holds Try.pinned (OpenSpec.ofChange boxIntersectIsGreatestLowerBoundSpec)

/-- ITS FALSE NEIGHBOUR: 'it returns false'. Refute it at one input. -/
def boxIntersectIsGreatestLowerBoundWrong : ChangeSpec := { name := "boxIntersectIsGreatestLowerBound", fn := fun _ => fun
  | [d] => { results := [.lit (.bool false)], args := [d] }
  | _ => none }
def BoxIntersectIsGreatestLowerBoundWrongFalsely : Prop := boxIntersectIsGreatestLowerBoundRow.holds Try.pinned (OpenSpec.ofChange boxIntersectIsGreatestLowerBoundWrong)

/-- 'armillarylaw03.BoxBisectionCovers': WHATEVER THE INPUT: true; the input reads as it did. -/
def boxBisectionCoversSpec : ChangeSpec := { name := "boxBisectionCovers", fn := fun _ => fun
  | [d] => { results := [.lit (.bool true)], args := [d] }
  | _ => none }
def boxBisectionCoversRow : OpenClaim := { program := "ytgccinodonkgjaa", sum := "98b9e3e1507ece04522118dd6e31a104ac93b203a6d8b1762553d224a634fe7d", func := "armillary/armillarylaw03.BoxBisectionCovers", spec := "boxBisectionCovers", unfollowed := true, recurses := true, apart := false }
def BoxBisectionCoversSaid : Prop := boxBisectionCoversRow.holds Try.pinned (OpenSpec.ofChange boxBisectionCoversSpec)

/-- ITS FALSE NEIGHBOUR: 'it returns false'. Refute it at one input. -/
def boxBisectionCoversWrong : ChangeSpec := { name := "boxBisectionCovers", fn := fun _ => fun
  | [d] => { results := [.lit (.bool false)], args := [d] }
  | _ => none }
def BoxBisectionCoversWrongFalsely : Prop := boxBisectionCoversRow.holds Try.pinned (OpenSpec.ofChange boxBisectionCoversWrong)

/-- 'armillarylaw03.BoxDistanceEncloses': WHATEVER THE INPUT: true; the input reads as it did. -/
def boxDistanceEnclosesSpec : ChangeSpec := { name := "boxDistanceEncloses", fn := fun _ => fun
  | [d] => { results := [.lit (.bool true)], args := [d] }
  | _ => none }
def boxDistanceEnclosesRow : OpenClaim := { program := "ytgccinodonkgjaa", sum := "98b9e3e1507ece04522118dd6e31a104ac93b203a6d8b1762553d224a634fe7d", func := "armillary/armillarylaw03.BoxDistanceEncloses", spec := "boxDistanceEncloses", unfollowed := true, recurses := true, apart := false }
def BoxDistanceEnclosesSaid : Prop := boxDistanceEnclosesRow.holds Try.pinned (OpenSpec.ofChange boxDistanceEnclosesSpec)

/-- ITS FALSE NEIGHBOUR: 'it returns false'. Refute it at one input. -/
def boxDistanceEnclosesWrong : ChangeSpec := { name := "boxDistanceEncloses", fn := fun _ => fun
  | [d] => { results := [.lit (.bool false)], args := [d] }
  | _ => none }
def BoxDistanceEnclosesWrongFalsely : Prop := boxDistanceEnclosesRow.holds Try.pinned (OpenSpec.ofChange boxDistanceEnclosesWrong)

/-- 'armillarylaw03.BoxSeparatedIsMonotone': WHATEVER THE INPUT: true; the input reads as it did. -/
def boxSeparatedIsMonotoneSpec : ChangeSpec := { name := "boxSeparatedIsMonotone", fn := fun _ => fun
  | [d1, d2, d3] => { results := [.lit (.bool true)], args := [d1, d2, d3] }
  | _ => none }
def boxSeparatedIsMonotoneRow : OpenClaim := { program := "ytgccinodonkgjaa", sum := "98b9e3e1507ece04522118dd6e31a104ac93b203a6d8b1762553d224a634fe7d", func := "armillary/armillarylaw03.BoxSeparatedIsMonotone", spec := "boxSeparatedIsMonotone", unfollowed := true, recurses := true, apart := false }
def BoxSeparatedIsMonotoneSaid : Prop := boxSeparatedIsMonotoneRow.holds Try.pinned (OpenSpec.ofChange boxSeparatedIsMonotoneSpec)

/-- ITS FALSE NEIGHBOUR: 'it returns false'. Refute it at one input. -/
def boxSeparatedIsMonotoneWrong : ChangeSpec := { name := "boxSeparatedIsMonotone", fn := fun _ => fun
  | [d1, d2, d3] => { results := [.lit (.bool false)], args := [d1, d2, d3] }
  | _ => none }
def BoxSeparatedIsMonotoneWrongFalsely : Prop := boxSeparatedIsMonotoneRow.holds Try.pinned (OpenSpec.ofChange boxSeparatedIsMonotoneWrong)

/-- 'armillarylaw03.BoxInflate': WHATEVER THE INPUT: true; the input reads as it did. -/
def boxInflateSpec : ChangeSpec := { name := "boxInflate", fn := fun _ => fun
  | [d1, d2, d3] => { results := [.lit (.bool true)], args := [d1, d2, d3] }
  | _ => none }
def boxInflateRow : OpenClaim := { program := "ytgccinodonkgjaa", sum := "98b9e3e1507ece04522118dd6e31a104ac93b203a6d8b1762553d224a634fe7d", func := "armillary/armillarylaw03.BoxInflate", spec := "boxInflate", unfollowed := true, recurses := true, apart := false }
def BoxInflateSaid : Prop := boxInflateRow.holds Try.pinned (OpenSpec.ofChange boxInflateSpec)

/-- ITS FALSE NEIGHBOUR: 'it returns false'. Refute it at one input. -/
def boxInflateWrong : ChangeSpec := { name := "boxInflate", fn := fun _ => fun
  | [d1, d2, d3] => { results := [.lit (.bool false)], args := [d1, d2, d3] }
  | _ => none }
def BoxInflateWrongFalsely : Prop := boxInflateRow.holds Try.pinned (OpenSpec.ofChange boxInflateWrong)

/- THE SECOND FORM. 'bulk': how many values and letters a reading holds, each counted each time it is reached (what is shared counts as often as it is met; a slice's spare places count too). A statement '..UptoSaid' is the law's where the arguments, and the package variables that the reading takes, are together of bulk at most 1048576: NARROWER than '..Said'. Prove '..Said' where nothing that the law and all that it calls make is longer than what came in: it says more and counts as full. Else prove '..UptoSaid'. A law counts once. -/
mutual
def uptoBulk {H : Type} : DataW H → Nat
  | .lit (.string bytes) => bytes.length + 1
  | .lit _ => 1
  | .nil => 1
  | .ptr d => uptoBulk d + 1
  | .slice elems spare => uptoBulkAll elems + uptoBulkAll spare + 1
  | .agg parts => uptoBulkAll parts + 1
  | .iface _ d => uptoBulk d + 1
  | .map entries => uptoBulkEntries entries + 1
  | .held _ => 1
def uptoBulkAll {H : Type} : List (DataW H) → Nat
  | [] => 0
  | d :: r => uptoBulk d + uptoBulkAll r
def uptoBulkEntries {H : Type} : List (Lit × DataW H) → Nat
  | [] => 0
  | x :: r => uptoBulkEntry x + uptoBulkEntries r
def uptoBulkEntry {H : Type} : Lit × DataW H → Nat
  | (.string bytes, d) => bytes.length + uptoBulk d + 1
  | (_, d) => uptoBulk d + 1
 end
def uptoSmall : (H : Type) → List (DataW H) → Bool := fun _ ds => decide (uptoBulkAll ds ≤ 1048576)
def OpenSpec.upto (s : _root_.Go.ChangeSpec) : _root_.Go.OpenSpec := { _root_.Go.OpenSpec.ofChange s with cond := some uptoSmall }

/-- 'armillarylaw03.BoxMatchesReference', WHERE WHAT IT READS IS OF BULK AT MOST 1048576: true; the input reads as it did. -/
def boxMatchesReferenceUptoRow : OpenClaim := { program := "ytgccinodonkgjaa", sum := "98b9e3e1507ece04522118dd6e31a104ac93b203a6d8b1762553d224a634fe7d", func := "armillary/armillarylaw03.BoxMatchesReference", spec := "boxMatchesReference", unfollowed := true, recurses := true, apart := false, narrowed := true }
def BoxMatchesReferenceUptoSaid : Prop := boxMatchesReferenceUptoRow.holds Try.pinned (OpenSpec.upto boxMatchesReferenceSpec)

/-- 'armillarylaw03.BoxBisectionMatchesReference', WHERE WHAT IT READS IS OF BULK AT MOST 1048576: true; the input reads as it did. -/
def boxBisectionMatchesReferenceUptoRow : OpenClaim := { program := "ytgccinodonkgjaa", sum := "98b9e3e1507ece04522118dd6e31a104ac93b203a6d8b1762553d224a634fe7d", func := "armillary/armillarylaw03.BoxBisectionMatchesReference", spec := "boxBisectionMatchesReference", unfollowed := true, recurses := true, apart := false, narrowed := true }
def BoxBisectionMatchesReferenceUptoSaid : Prop := boxBisectionMatchesReferenceUptoRow.holds Try.pinned (OpenSpec.upto boxBisectionMatchesReferenceSpec)

/-- 'armillarylaw03.BoxSubsetOrder', WHERE WHAT IT READS IS OF BULK AT MOST 1048576: true; the input reads as it did. -/
def boxSubsetOrderUptoRow : OpenClaim := { program := "ytgccinodonkgjaa", sum := "98b9e3e1507ece04522118dd6e31a104ac93b203a6d8b1762553d224a634fe7d", func := "armillary/armillarylaw03.BoxSubsetOrder", spec := "boxSubsetOrder", unfollowed := true, recurses := true, apart := false, narrowed := true }
def BoxSubsetOrderUptoSaid : Prop := boxSubsetOrderUptoRow.holds Try.pinned (OpenSpec.upto boxSubsetOrderSpec)

/-- 'armillarylaw03.BoxHullIsLeastUpperBound', WHERE WHAT IT READS IS OF BULK AT MOST 1048576: true; the input reads as it did. -/
def boxHullIsLeastUpperBoundUptoRow : OpenClaim := { program := "ytgccinodonkgjaa", sum := "98b9e3e1507ece04522118dd6e31a104ac93b203a6d8b1762553d224a634fe7d", func := "armillary/armillarylaw03.BoxHullIsLeastUpperBound", spec := "boxHullIsLeastUpperBound", unfollowed := true, recurses := true, apart := false, narrowed := true }
def BoxHullIsLeastUpperBoundUptoSaid : Prop := boxHullIsLeastUpperBoundUptoRow.holds Try.pinned (OpenSpec.upto boxHullIsLeastUpperBoundSpec)

/-- 'armillarylaw03.BoxIntersectIsGreatestLowerBound', WHERE WHAT IT READS IS OF BULK AT MOST 1048576: true; the input reads as it did. -/
def boxIntersectIsGreatestLowerBoundUptoRow : OpenClaim := { program := "ytgccinodonkgjaa", sum := "98b9e3e1507ece04522118dd6e31a104ac93b203a6d8b1762553d224a634fe7d", func := "armillary/armillarylaw03.BoxIntersectIsGreatestLowerBound", spec := "boxIntersectIsGreatestLowerBound", unfollowed := true, recurses := true, apart := false, narrowed := true }
def BoxIntersectIsGreatestLowerBoundUptoSaid : Prop := boxIntersectIsGreatestLowerBoundUptoRow.holds Try.pinned (OpenSpec.upto boxIntersectIsGreatestLowerBoundSpec)

/-- 'armillarylaw03.BoxBisectionCovers', WHERE WHAT IT READS IS OF BULK AT MOST 1048576: true; the input reads as it did. -/
def boxBisectionCoversUptoRow : OpenClaim := { program := "ytgccinodonkgjaa", sum := "98b9e3e1507ece04522118dd6e31a104ac93b203a6d8b1762553d224a634fe7d", func := "armillary/armillarylaw03.BoxBisectionCovers", spec := "boxBisectionCovers", unfollowed := true, recurses := true, apart := false, narrowed := true }
def BoxBisectionCoversUptoSaid : Prop := boxBisectionCoversUptoRow.holds Try.pinned (OpenSpec.upto boxBisectionCoversSpec)

/-- 'armillarylaw03.BoxDistanceEncloses', WHERE WHAT IT READS IS OF BULK AT MOST 1048576: true; the input reads as it did. -/
def boxDistanceEnclosesUptoRow : OpenClaim := { program := "ytgccinodonkgjaa", sum := "98b9e3e1507ece04522118dd6e31a104ac93b203a6d8b1762553d224a634fe7d", func := "armillary/armillarylaw03.BoxDistanceEncloses", spec := "boxDistanceEncloses", unfollowed := true, recurses := true, apart := false, narrowed := true }
def BoxDistanceEnclosesUptoSaid : Prop := boxDistanceEnclosesUptoRow.holds Try.pinned (OpenSpec.upto boxDistanceEnclosesSpec)

/-- 'armillarylaw03.BoxSeparatedIsMonotone', WHERE WHAT IT READS IS OF BULK AT MOST 1048576: true; the input reads as it did. -/
def boxSeparatedIsMonotoneUptoRow : OpenClaim := { program := "ytgccinodonkgjaa", sum := "98b9e3e1507ece04522118dd6e31a104ac93b203a6d8b1762553d224a634fe7d", func := "armillary/armillarylaw03.BoxSeparatedIsMonotone", spec := "boxSeparatedIsMonotone", unfollowed := true, recurses := true, apart := false, narrowed := true }
def BoxSeparatedIsMonotoneUptoSaid : Prop := boxSeparatedIsMonotoneUptoRow.holds Try.pinned (OpenSpec.upto boxSeparatedIsMonotoneSpec)

/-- 'armillarylaw03.BoxInflate', WHERE WHAT IT READS IS OF BULK AT MOST 1048576: true; the input reads as it did. -/
def boxInflateUptoRow : OpenClaim := { program := "ytgccinodonkgjaa", sum := "98b9e3e1507ece04522118dd6e31a104ac93b203a6d8b1762553d224a634fe7d", func := "armillary/armillarylaw03.BoxInflate", spec := "boxInflate", unfollowed := true, recurses := true, apart := false, narrowed := true }
def BoxInflateUptoSaid : Prop := boxInflateUptoRow.holds Try.pinned (OpenSpec.upto boxInflateSpec)

end Rows
end Go.Proofs.Ytgccinodonkgjaa
