/-
  NARROWER THAN 'FOR EVERY INPUT', by the rows' own cells (each row's printed sentence says how): MatrixApplyInclusion: laid · MatrixMulInclusion: laid · MatrixIsotonicity: laid · MatrixTransposition: laid · MatrixOrthogonality: laid · MatrixOrthogonalizeIdempotent: laid · MatrixInverseInclusion: laid · MatrixInverseSingular: laid.
  DERIVED. THE GIVEN ROWS OF THIS SEAT. 8 by the template 'for every input the law returns true; each argument reads behind the call as it read before'; 0 by the template 'total and deterministic' (their statements: YtglcmhldonkfdaaDoorTotals.lean).
  GIVEN WITH THE SEED: the statements are not yours to turn. If you find one false, say at which input.
  Laid BY PROGRAM, IN A SANDBOX (cutbox-rows.mjs): the forced cells as the released guide's own fill.sh prints them over the translation 82c13980cd623b41… (all of the seat's roots in one cut). By AI agents, Wed Nov 11 2026. No macro, syntax, notation, axiom, sorry.
-/
import Derived.Test.YtglcmhldonkfdaaDoorChecked
import GoSem.Claim
import GoSem.ClaimJoined
import GoSem.ClaimMapViews
import Derived.JoinedTies
import Derived.KernelRfl
namespace Go.Proofs.YtglcmhldonkfdaaDoor
/- THE CELL 'sum', in the pinned program and in every row, IS THE sha256 OF THE DUMP (.gsa) THAT YtglcmhldonkfdaaDoorProg.lean LOADS. Nothing in Lean hashes anything: it is a label: what it is worth is what the hold of that sum in a sandbox is worth. -/
noncomputable def Tryd.pinned : Pinned := { name := "ytglcmhldonkfdaadoor", sum := "82c13980cd623b4163e891f5a76a341651212d239e6b5534d8ba308173fe6d01", checked := Tryd.checked }
namespace Rows
def none {H : Type} : Left H := { results := [], args := [] }

/- WHAT THE LISTED PACKAGE-LEVEL VARIABLES READ AS WHEN THE CALL BEGINS. Each datum BY PROGRAM (the guide's laid-datum.mjs) off the statement by which the dump's own 'gosem.cut.vars' lays the variable. In a bare row this is a premise. The card (YtglcmhldonkfdaaDoorCards.lean) ties it to the program's text. -/
def laid_armillary_interval_products {H : Type} : DataW H := .iface "func table" (.agg [.agg [.agg [.iface "func" (.lit (.string [97, 114, 109, 105, 108, 108, 97, 114, 121, 47, 105, 110, 116, 101, 114, 118, 97, 108, 46, 104, 104])), .iface "func" (.lit (.string [97, 114, 109, 105, 108, 108, 97, 114, 121, 47, 105, 110, 116, 101, 114, 118, 97, 108, 46, 108, 108]))], .agg [.iface "func" (.lit (.string [97, 114, 109, 105, 108, 108, 97, 114, 121, 47, 105, 110, 116, 101, 114, 118, 97, 108, 46, 108, 104])), .iface "func" (.lit (.string [97, 114, 109, 105, 108, 108, 97, 114, 121, 47, 105, 110, 116, 101, 114, 118, 97, 108, 46, 108, 108]))], .agg [.iface "func" (.lit (.string [97, 114, 109, 105, 108, 108, 97, 114, 121, 47, 105, 110, 116, 101, 114, 118, 97, 108, 46, 108, 104])), .iface "func" (.lit (.string [97, 114, 109, 105, 108, 108, 97, 114, 121, 47, 105, 110, 116, 101, 114, 118, 97, 108, 46, 104, 108]))]], .agg [.agg [.iface "func" (.lit (.string [97, 114, 109, 105, 108, 108, 97, 114, 121, 47, 105, 110, 116, 101, 114, 118, 97, 108, 46, 104, 108])), .iface "func" (.lit (.string [97, 114, 109, 105, 108, 108, 97, 114, 121, 47, 105, 110, 116, 101, 114, 118, 97, 108, 46, 108, 108]))], .agg [.nil, .nil], .agg [.iface "func" (.lit (.string [97, 114, 109, 105, 108, 108, 97, 114, 121, 47, 105, 110, 116, 101, 114, 118, 97, 108, 46, 108, 104])), .iface "func" (.lit (.string [97, 114, 109, 105, 108, 108, 97, 114, 121, 47, 105, 110, 116, 101, 114, 118, 97, 108, 46, 104, 104]))]], .agg [.agg [.iface "func" (.lit (.string [97, 114, 109, 105, 108, 108, 97, 114, 121, 47, 105, 110, 116, 101, 114, 118, 97, 108, 46, 104, 108])), .iface "func" (.lit (.string [97, 114, 109, 105, 108, 108, 97, 114, 121, 47, 105, 110, 116, 101, 114, 118, 97, 108, 46, 108, 104]))], .agg [.iface "func" (.lit (.string [97, 114, 109, 105, 108, 108, 97, 114, 121, 47, 105, 110, 116, 101, 114, 118, 97, 108, 46, 104, 108])), .iface "func" (.lit (.string [97, 114, 109, 105, 108, 108, 97, 114, 121, 47, 105, 110, 116, 101, 114, 118, 97, 108, 46, 104, 104]))], .agg [.iface "func" (.lit (.string [97, 114, 109, 105, 108, 108, 97, 114, 121, 47, 105, 110, 116, 101, 114, 118, 97, 108, 46, 108, 108])), .iface "func" (.lit (.string [97, 114, 109, 105, 108, 108, 97, 114, 121, 47, 105, 110, 116, 101, 114, 118, 97, 108, 46, 104, 104]))]]])
def laid_armillary_interval_quotients {H : Type} : DataW H := .iface "func table" (.agg [.agg [.agg [.iface "func" (.lit (.string [97, 114, 109, 105, 108, 108, 97, 114, 121, 47, 105, 110, 116, 101, 114, 118, 97, 108, 46, 104, 108])), .iface "func" (.lit (.string [97, 114, 109, 105, 108, 108, 97, 114, 121, 47, 105, 110, 116, 101, 114, 118, 97, 108, 46, 108, 104]))], .agg [.iface "func" (.lit (.string [97, 114, 109, 105, 108, 108, 97, 114, 121, 47, 105, 110, 116, 101, 114, 118, 97, 108, 46, 108, 108])), .iface "func" (.lit (.string [97, 114, 109, 105, 108, 108, 97, 114, 121, 47, 105, 110, 116, 101, 114, 118, 97, 108, 46, 104, 104]))]], .agg [.agg [.iface "func" (.lit (.string [97, 114, 109, 105, 108, 108, 97, 114, 121, 47, 105, 110, 116, 101, 114, 118, 97, 108, 46, 104, 104])), .iface "func" (.lit (.string [97, 114, 109, 105, 108, 108, 97, 114, 121, 47, 105, 110, 116, 101, 114, 118, 97, 108, 46, 108, 104]))], .agg [.iface "func" (.lit (.string [97, 114, 109, 105, 108, 108, 97, 114, 121, 47, 105, 110, 116, 101, 114, 118, 97, 108, 46, 108, 108])), .iface "func" (.lit (.string [97, 114, 109, 105, 108, 108, 97, 114, 121, 47, 105, 110, 116, 101, 114, 118, 97, 108, 46, 104, 108]))]], .agg [.agg [.iface "func" (.lit (.string [97, 114, 109, 105, 108, 108, 97, 114, 121, 47, 105, 110, 116, 101, 114, 118, 97, 108, 46, 104, 104])), .iface "func" (.lit (.string [97, 114, 109, 105, 108, 108, 97, 114, 121, 47, 105, 110, 116, 101, 114, 118, 97, 108, 46, 108, 108]))], .agg [.iface "func" (.lit (.string [97, 114, 109, 105, 108, 108, 97, 114, 121, 47, 105, 110, 116, 101, 114, 118, 97, 108, 46, 108, 104])), .iface "func" (.lit (.string [97, 114, 109, 105, 108, 108, 97, 114, 121, 47, 105, 110, 116, 101, 114, 118, 97, 108, 46, 104, 108]))]]])

/-- 'armillarylaw04.MatrixApplyInclusion': WHATEVER THE INPUT: true; the input reads as it did. -/
def matrixApplyInclusionSpec : ChangeSpec := { name := "matrixApplyInclusion", fn := fun _ => fun
  | [d1, d2, d3] => { results := [.lit (.bool true)], args := [d1, d2, d3] }
  | _ => none }
def matrixApplyInclusionRow : OpenClaim := { program := "ytglcmhldonkfdaadoor", sum := "82c13980cd623b4163e891f5a76a341651212d239e6b5534d8ba308173fe6d01", func := "armillary/armillarylaw04.MatrixApplyInclusion", spec := "matrixApplyInclusion", unfollowed := true, recurses := true, named := ["armillary/interval.products", "armillary/interval.quotients"], apart := false, laid := [("armillary/interval.products", laid_armillary_interval_products), ("armillary/interval.quotients", laid_armillary_interval_quotients)] }
def MatrixApplyInclusionSaid : Prop := matrixApplyInclusionRow.holds Tryd.pinned (OpenSpec.ofChange matrixApplyInclusionSpec)

/-- ITS FALSE NEIGHBOUR: 'it returns false'. Refute it at one input. -/
def matrixApplyInclusionWrong : ChangeSpec := { name := "matrixApplyInclusion", fn := fun _ => fun
  | [d1, d2, d3] => { results := [.lit (.bool false)], args := [d1, d2, d3] }
  | _ => none }
def MatrixApplyInclusionWrongFalsely : Prop := matrixApplyInclusionRow.holds Tryd.pinned (OpenSpec.ofChange matrixApplyInclusionWrong)

/-- 'armillarylaw04.MatrixMulInclusion': WHATEVER THE INPUT: true; the input reads as it did. -/
def matrixMulInclusionSpec : ChangeSpec := { name := "matrixMulInclusion", fn := fun _ => fun
  | [d1, d2] => { results := [.lit (.bool true)], args := [d1, d2] }
  | _ => none }
def matrixMulInclusionRow : OpenClaim := { program := "ytglcmhldonkfdaadoor", sum := "82c13980cd623b4163e891f5a76a341651212d239e6b5534d8ba308173fe6d01", func := "armillary/armillarylaw04.MatrixMulInclusion", spec := "matrixMulInclusion", unfollowed := true, recurses := true, named := ["armillary/interval.products", "armillary/interval.quotients"], apart := false, laid := [("armillary/interval.products", laid_armillary_interval_products), ("armillary/interval.quotients", laid_armillary_interval_quotients)] }
def MatrixMulInclusionSaid : Prop := matrixMulInclusionRow.holds Tryd.pinned (OpenSpec.ofChange matrixMulInclusionSpec)

/-- ITS FALSE NEIGHBOUR: 'it returns false'. Refute it at one input. -/
def matrixMulInclusionWrong : ChangeSpec := { name := "matrixMulInclusion", fn := fun _ => fun
  | [d1, d2] => { results := [.lit (.bool false)], args := [d1, d2] }
  | _ => none }
def MatrixMulInclusionWrongFalsely : Prop := matrixMulInclusionRow.holds Tryd.pinned (OpenSpec.ofChange matrixMulInclusionWrong)

/-- 'armillarylaw04.MatrixIsotonicity': WHATEVER THE INPUT: true; the input reads as it did. -/
def matrixIsotonicitySpec : ChangeSpec := { name := "matrixIsotonicity", fn := fun _ => fun
  | [d1, d2] => { results := [.lit (.bool true)], args := [d1, d2] }
  | _ => none }
def matrixIsotonicityRow : OpenClaim := { program := "ytglcmhldonkfdaadoor", sum := "82c13980cd623b4163e891f5a76a341651212d239e6b5534d8ba308173fe6d01", func := "armillary/armillarylaw04.MatrixIsotonicity", spec := "matrixIsotonicity", unfollowed := true, recurses := true, named := ["armillary/interval.products", "armillary/interval.quotients"], apart := false, laid := [("armillary/interval.products", laid_armillary_interval_products), ("armillary/interval.quotients", laid_armillary_interval_quotients)] }
def MatrixIsotonicitySaid : Prop := matrixIsotonicityRow.holds Tryd.pinned (OpenSpec.ofChange matrixIsotonicitySpec)

/-- ITS FALSE NEIGHBOUR: 'it returns false'. Refute it at one input. -/
def matrixIsotonicityWrong : ChangeSpec := { name := "matrixIsotonicity", fn := fun _ => fun
  | [d1, d2] => { results := [.lit (.bool false)], args := [d1, d2] }
  | _ => none }
def MatrixIsotonicityWrongFalsely : Prop := matrixIsotonicityRow.holds Tryd.pinned (OpenSpec.ofChange matrixIsotonicityWrong)

/-- 'armillarylaw04.MatrixTransposition': WHATEVER THE INPUT: true; the input reads as it did. -/
def matrixTranspositionSpec : ChangeSpec := { name := "matrixTransposition", fn := fun _ => fun
  | [d] => { results := [.lit (.bool true)], args := [d] }
  | _ => none }
def matrixTranspositionRow : OpenClaim := { program := "ytglcmhldonkfdaadoor", sum := "82c13980cd623b4163e891f5a76a341651212d239e6b5534d8ba308173fe6d01", func := "armillary/armillarylaw04.MatrixTransposition", spec := "matrixTransposition", unfollowed := true, recurses := true, named := ["armillary/interval.products", "armillary/interval.quotients"], apart := false, laid := [("armillary/interval.products", laid_armillary_interval_products), ("armillary/interval.quotients", laid_armillary_interval_quotients)] }
def MatrixTranspositionSaid : Prop := matrixTranspositionRow.holds Tryd.pinned (OpenSpec.ofChange matrixTranspositionSpec)

/-- ITS FALSE NEIGHBOUR: 'it returns false'. Refute it at one input. -/
def matrixTranspositionWrong : ChangeSpec := { name := "matrixTransposition", fn := fun _ => fun
  | [d] => { results := [.lit (.bool false)], args := [d] }
  | _ => none }
def MatrixTranspositionWrongFalsely : Prop := matrixTranspositionRow.holds Tryd.pinned (OpenSpec.ofChange matrixTranspositionWrong)

/-- 'armillarylaw04.MatrixOrthogonality': WHATEVER THE INPUT: true; the input reads as it did. -/
def matrixOrthogonalitySpec : ChangeSpec := { name := "matrixOrthogonality", fn := fun _ => fun
  | [d1, d2] => { results := [.lit (.bool true)], args := [d1, d2] }
  | _ => none }
def matrixOrthogonalityRow : OpenClaim := { program := "ytglcmhldonkfdaadoor", sum := "82c13980cd623b4163e891f5a76a341651212d239e6b5534d8ba308173fe6d01", func := "armillary/armillarylaw04.MatrixOrthogonality", spec := "matrixOrthogonality", unfollowed := true, recurses := true, named := ["armillary/interval.products", "armillary/interval.quotients"], apart := false, laid := [("armillary/interval.products", laid_armillary_interval_products), ("armillary/interval.quotients", laid_armillary_interval_quotients)] }
def MatrixOrthogonalitySaid : Prop := matrixOrthogonalityRow.holds Tryd.pinned (OpenSpec.ofChange matrixOrthogonalitySpec)

/-- ITS FALSE NEIGHBOUR: 'it returns false'. Refute it at one input. -/
def matrixOrthogonalityWrong : ChangeSpec := { name := "matrixOrthogonality", fn := fun _ => fun
  | [d1, d2] => { results := [.lit (.bool false)], args := [d1, d2] }
  | _ => none }
def MatrixOrthogonalityWrongFalsely : Prop := matrixOrthogonalityRow.holds Tryd.pinned (OpenSpec.ofChange matrixOrthogonalityWrong)

/-- 'armillarylaw04.MatrixOrthogonalizeIdempotent': WHATEVER THE INPUT: true; the input reads as it did. -/
def matrixOrthogonalizeIdempotentSpec : ChangeSpec := { name := "matrixOrthogonalizeIdempotent", fn := fun _ => fun
  | [d1, d2] => { results := [.lit (.bool true)], args := [d1, d2] }
  | _ => none }
def matrixOrthogonalizeIdempotentRow : OpenClaim := { program := "ytglcmhldonkfdaadoor", sum := "82c13980cd623b4163e891f5a76a341651212d239e6b5534d8ba308173fe6d01", func := "armillary/armillarylaw04.MatrixOrthogonalizeIdempotent", spec := "matrixOrthogonalizeIdempotent", unfollowed := true, recurses := true, named := ["armillary/interval.products", "armillary/interval.quotients"], apart := false, laid := [("armillary/interval.products", laid_armillary_interval_products), ("armillary/interval.quotients", laid_armillary_interval_quotients)] }
def MatrixOrthogonalizeIdempotentSaid : Prop := matrixOrthogonalizeIdempotentRow.holds Tryd.pinned (OpenSpec.ofChange matrixOrthogonalizeIdempotentSpec)

/-- ITS FALSE NEIGHBOUR: 'it returns false'. Refute it at one input. -/
def matrixOrthogonalizeIdempotentWrong : ChangeSpec := { name := "matrixOrthogonalizeIdempotent", fn := fun _ => fun
  | [d1, d2] => { results := [.lit (.bool false)], args := [d1, d2] }
  | _ => none }
def MatrixOrthogonalizeIdempotentWrongFalsely : Prop := matrixOrthogonalizeIdempotentRow.holds Tryd.pinned (OpenSpec.ofChange matrixOrthogonalizeIdempotentWrong)

/-- 'armillarylaw04.MatrixInverseInclusion': WHATEVER THE INPUT: true; the input reads as it did. -/
def matrixInverseInclusionSpec : ChangeSpec := { name := "matrixInverseInclusion", fn := fun _ => fun
  | [d1, d2, d3] => { results := [.lit (.bool true)], args := [d1, d2, d3] }
  | _ => none }
def matrixInverseInclusionRow : OpenClaim := { program := "ytglcmhldonkfdaadoor", sum := "82c13980cd623b4163e891f5a76a341651212d239e6b5534d8ba308173fe6d01", func := "armillary/armillarylaw04.MatrixInverseInclusion", spec := "matrixInverseInclusion", unfollowed := true, recurses := true, named := ["armillary/interval.products", "armillary/interval.quotients"], apart := false, laid := [("armillary/interval.products", laid_armillary_interval_products), ("armillary/interval.quotients", laid_armillary_interval_quotients)] }
def MatrixInverseInclusionSaid : Prop := matrixInverseInclusionRow.holds Tryd.pinned (OpenSpec.ofChange matrixInverseInclusionSpec)

/-- ITS FALSE NEIGHBOUR: 'it returns false'. Refute it at one input. -/
def matrixInverseInclusionWrong : ChangeSpec := { name := "matrixInverseInclusion", fn := fun _ => fun
  | [d1, d2, d3] => { results := [.lit (.bool false)], args := [d1, d2, d3] }
  | _ => none }
def MatrixInverseInclusionWrongFalsely : Prop := matrixInverseInclusionRow.holds Tryd.pinned (OpenSpec.ofChange matrixInverseInclusionWrong)

/-- 'armillarylaw04.MatrixInverseSingular': WHATEVER THE INPUT: true; the input reads as it did. -/
def matrixInverseSingularSpec : ChangeSpec := { name := "matrixInverseSingular", fn := fun _ => fun
  | [d1, d2, d3] => { results := [.lit (.bool true)], args := [d1, d2, d3] }
  | _ => none }
def matrixInverseSingularRow : OpenClaim := { program := "ytglcmhldonkfdaadoor", sum := "82c13980cd623b4163e891f5a76a341651212d239e6b5534d8ba308173fe6d01", func := "armillary/armillarylaw04.MatrixInverseSingular", spec := "matrixInverseSingular", unfollowed := true, recurses := true, named := ["armillary/interval.products", "armillary/interval.quotients"], apart := false, laid := [("armillary/interval.products", laid_armillary_interval_products), ("armillary/interval.quotients", laid_armillary_interval_quotients)] }
def MatrixInverseSingularSaid : Prop := matrixInverseSingularRow.holds Tryd.pinned (OpenSpec.ofChange matrixInverseSingularSpec)

/-- ITS FALSE NEIGHBOUR: 'it returns false'. Refute it at one input. -/
def matrixInverseSingularWrong : ChangeSpec := { name := "matrixInverseSingular", fn := fun _ => fun
  | [d1, d2, d3] => { results := [.lit (.bool false)], args := [d1, d2, d3] }
  | _ => none }
def MatrixInverseSingularWrongFalsely : Prop := matrixInverseSingularRow.holds Tryd.pinned (OpenSpec.ofChange matrixInverseSingularWrong)

/- THE SECOND FORM. 'bulk': how many values and letters a reading holds, each counted each time it is reached (what is shared counts as often as it is met; a slice's spare places count too). A statement '..UptoSaid' is the law's where the arguments, and the package variables that the reading takes, are together of bulk at most 1048576: NARROWER than '..Said'. Prove '..Said' where nothing that the law and all that it calls make is longer than what came in: it says more and counts as full. Else prove '..UptoSaid'. A law counts once. -/
mutual
def uptoBulk {H : Type} : DataW H → Nat
  | .lit (.string bytes) => bytes.length + 1
  | .lit _ => 1
  | .nil => 1
  | .ptr d => uptoBulk d + 1
  | .slice elems spare => uptoBulkAll elems + uptoBulkAll spare + 1
  | .agg parts => uptoBulkAll parts + 1
  | .iface _ d => uptoBulk d + 1
  | .map entries => uptoBulkEntries entries + 1
  | .held _ => 1
def uptoBulkAll {H : Type} : List (DataW H) → Nat
  | [] => 0
  | d :: r => uptoBulk d + uptoBulkAll r
def uptoBulkEntries {H : Type} : List (Lit × DataW H) → Nat
  | [] => 0
  | x :: r => uptoBulkEntry x + uptoBulkEntries r
def uptoBulkEntry {H : Type} : Lit × DataW H → Nat
  | (.string bytes, d) => bytes.length + uptoBulk d + 1
  | (_, d) => uptoBulk d + 1
 end
def uptoSmall : (H : Type) → List (DataW H) → Bool := fun _ ds => decide (uptoBulkAll ds ≤ 1048576)
def OpenSpec.upto (s : _root_.Go.ChangeSpec) : _root_.Go.OpenSpec := { _root_.Go.OpenSpec.ofChange s with cond := some uptoSmall }

/-- 'armillarylaw04.MatrixApplyInclusion', WHERE WHAT IT READS IS OF BULK AT MOST 1048576: true; the input reads as it did. -/
def matrixApplyInclusionUptoRow : OpenClaim := { program := "ytglcmhldonkfdaadoor", sum := "82c13980cd623b4163e891f5a76a341651212d239e6b5534d8ba308173fe6d01", func := "armillary/armillarylaw04.MatrixApplyInclusion", spec := "matrixApplyInclusion", unfollowed := true, recurses := true, named := ["armillary/interval.products", "armillary/interval.quotients"], apart := false, laid := [("armillary/interval.products", laid_armillary_interval_products), ("armillary/interval.quotients", laid_armillary_interval_quotients)], narrowed := true }
def MatrixApplyInclusionUptoSaid : Prop := matrixApplyInclusionUptoRow.holds Tryd.pinned (OpenSpec.upto matrixApplyInclusionSpec)

/-- 'armillarylaw04.MatrixMulInclusion', WHERE WHAT IT READS IS OF BULK AT MOST 1048576: true; the input reads as it did. -/
def matrixMulInclusionUptoRow : OpenClaim := { program := "ytglcmhldonkfdaadoor", sum := "82c13980cd623b4163e891f5a76a341651212d239e6b5534d8ba308173fe6d01", func := "armillary/armillarylaw04.MatrixMulInclusion", spec := "matrixMulInclusion", unfollowed := true, recurses := true, named := ["armillary/interval.products", "armillary/interval.quotients"], apart := false, laid := [("armillary/interval.products", laid_armillary_interval_products), ("armillary/interval.quotients", laid_armillary_interval_quotients)], narrowed := true }
def MatrixMulInclusionUptoSaid : Prop := matrixMulInclusionUptoRow.holds Tryd.pinned (OpenSpec.upto matrixMulInclusionSpec)

/-- 'armillarylaw04.MatrixIsotonicity', WHERE WHAT IT READS IS OF BULK AT MOST 1048576: true; the input reads as it did. -/
def matrixIsotonicityUptoRow : OpenClaim := { program := "ytglcmhldonkfdaadoor", sum := "82c13980cd623b4163e891f5a76a341651212d239e6b5534d8ba308173fe6d01", func := "armillary/armillarylaw04.MatrixIsotonicity", spec := "matrixIsotonicity", unfollowed := true, recurses := true, named := ["armillary/interval.products", "armillary/interval.quotients"], apart := false, laid := [("armillary/interval.products", laid_armillary_interval_products), ("armillary/interval.quotients", laid_armillary_interval_quotients)], narrowed := true }
def MatrixIsotonicityUptoSaid : Prop := matrixIsotonicityUptoRow.holds Tryd.pinned (OpenSpec.upto matrixIsotonicitySpec)

/-- 'armillarylaw04.MatrixTransposition', WHERE WHAT IT READS IS OF BULK AT MOST 1048576: true; the input reads as it did. -/
def matrixTranspositionUptoRow : OpenClaim := { program := "ytglcmhldonkfdaadoor", sum := "82c13980cd623b4163e891f5a76a341651212d239e6b5534d8ba308173fe6d01", func := "armillary/armillarylaw04.MatrixTransposition", spec := "matrixTransposition", unfollowed := true, recurses := true, named := ["armillary/interval.products", "armillary/interval.quotients"], apart := false, laid := [("armillary/interval.products", laid_armillary_interval_products), ("armillary/interval.quotients", laid_armillary_interval_quotients)], narrowed := true }
def MatrixTranspositionUptoSaid : Prop := matrixTranspositionUptoRow.holds Tryd.pinned (OpenSpec.upto matrixTranspositionSpec)

/-- 'armillarylaw04.MatrixOrthogonality', WHERE WHAT IT READS IS OF BULK AT MOST 1048576: true; the input reads as it did. -/
def matrixOrthogonalityUptoRow : OpenClaim := { program := "ytglcmhldonkfdaadoor", sum := "82c13980cd623b4163e891f5a76a341651212d239e6b5534d8ba308173fe6d01", func := "armillary/armillarylaw04.MatrixOrthogonality", spec := "matrixOrthogonality", unfollowed := true, recurses := true, named := ["armillary/interval.products", "armillary/interval.quotients"], apart := false, laid := [("armillary/interval.products", laid_armillary_interval_products), ("armillary/interval.quotients", laid_armillary_interval_quotients)], narrowed := true }
def MatrixOrthogonalityUptoSaid : Prop := matrixOrthogonalityUptoRow.holds Tryd.pinned (OpenSpec.upto matrixOrthogonalitySpec)

/-- 'armillarylaw04.MatrixOrthogonalizeIdempotent', WHERE WHAT IT READS IS OF BULK AT MOST 1048576: true; the input reads as it did. -/
def matrixOrthogonalizeIdempotentUptoRow : OpenClaim := { program := "ytglcmhldonkfdaadoor", sum := "82c13980cd623b4163e891f5a76a341651212d239e6b5534d8ba308173fe6d01", func := "armillary/armillarylaw04.MatrixOrthogonalizeIdempotent", spec := "matrixOrthogonalizeIdempotent", unfollowed := true, recurses := true, named := ["armillary/interval.products", "armillary/interval.quotients"], apart := false, laid := [("armillary/interval.products", laid_armillary_interval_products), ("armillary/interval.quotients", laid_armillary_interval_quotients)], narrowed := true }
def MatrixOrthogonalizeIdempotentUptoSaid : Prop := matrixOrthogonalizeIdempotentUptoRow.holds Tryd.pinned (OpenSpec.upto matrixOrthogonalizeIdempotentSpec)

/-- 'armillarylaw04.MatrixInverseInclusion', WHERE WHAT IT READS IS OF BULK AT MOST 1048576: true; the input reads as it did. -/
def matrixInverseInclusionUptoRow : OpenClaim := { program := "ytglcmhldonkfdaadoor", sum := "82c13980cd623b4163e891f5a76a341651212d239e6b5534d8ba308173fe6d01", func := "armillary/armillarylaw04.MatrixInverseInclusion", spec := "matrixInverseInclusion", unfollowed := true, recurses := true, named := ["armillary/interval.products", "armillary/interval.quotients"], apart := false, laid := [("armillary/interval.products", laid_armillary_interval_products), ("armillary/interval.quotients", laid_armillary_interval_quotients)], narrowed := true }
def MatrixInverseInclusionUptoSaid : Prop := matrixInverseInclusionUptoRow.holds Tryd.pinned (OpenSpec.upto matrixInverseInclusionSpec)

/-- 'armillarylaw04.MatrixInverseSingular', WHERE WHAT IT READS IS OF BULK AT MOST 1048576: true; the input reads as it did. -/
def matrixInverseSingularUptoRow : OpenClaim := { program := "ytglcmhldonkfdaadoor", sum := "82c13980cd623b4163e891f5a76a341651212d239e6b5534d8ba308173fe6d01", func := "armillary/armillarylaw04.MatrixInverseSingular", spec := "matrixInverseSingular", unfollowed := true, recurses := true, named := ["armillary/interval.products", "armillary/interval.quotients"], apart := false, laid := [("armillary/interval.products", laid_armillary_interval_products), ("armillary/interval.quotients", laid_armillary_interval_quotients)], narrowed := true }
def MatrixInverseSingularUptoSaid : Prop := matrixInverseSingularUptoRow.holds Tryd.pinned (OpenSpec.upto matrixInverseSingularSpec)

end Rows
end Go.Proofs.YtglcmhldonkfdaaDoor
