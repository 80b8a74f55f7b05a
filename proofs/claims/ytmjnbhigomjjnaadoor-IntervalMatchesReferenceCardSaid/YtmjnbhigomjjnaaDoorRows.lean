/-
  NARROWER THAN 'FOR EVERY INPUT', by the rows' own cells (each row's printed sentence says how): IntervalInclusion: laid · IntervalTightness: laid · IntervalIsotonic: laid · IntervalSubdistributive: laid · IntervalLattice: laid · IntervalMeasures: laid · IntervalMatchesReference: laid · IntervalAlgebra: laid.
  DERIVED. THE GIVEN ROWS OF THIS SEAT. 8 by the template 'for every input the law returns true; each argument reads behind the call as it read before'; 0 by the template 'total and deterministic' (their statements: YtmjnbhigomjjnaaDoorTotals.lean).
  GIVEN WITH THE SEED: the statements are not yours to turn. If you find one false, say at which input.
  Laid BY PROGRAM, IN A SANDBOX (cutbox-rows.mjs): the forced cells as the released guide's own fill.sh prints them over the translation 2043afa3379f18a4… (all of the seat's roots in one cut). By AI agents, Wed Nov 11 2026. No macro, syntax, notation, axiom, sorry.
-/
import Derived.Test.YtmjnbhigomjjnaaDoorChecked
import GoSem.Claim
import GoSem.ClaimJoined
import GoSem.ClaimMapViews
import Derived.JoinedTies
import Derived.KernelRfl
namespace Go.Proofs.YtmjnbhigomjjnaaDoor
/- THE CELL 'sum', in the pinned program and in every row, IS THE sha256 OF THE DUMP (.gsa) THAT YtmjnbhigomjjnaaDoorProg.lean LOADS. Nothing in Lean hashes anything: it is a label: what it is worth is what the hold of that sum in a sandbox is worth. -/
noncomputable def Tryd.pinned : Pinned := { name := "ytmjnbhigomjjnaadoor", sum := "2043afa3379f18a44be709b4ebac9238c9cf85875e7fddbd4d47bb44d9b686a3", checked := Tryd.checked }
namespace Rows
def none {H : Type} : Left H := { results := [], args := [] }

/- WHAT THE LISTED PACKAGE-LEVEL VARIABLES READ AS WHEN THE CALL BEGINS. Each datum BY PROGRAM (the guide's laid-datum.mjs) off the statement by which the dump's own 'gosem.cut.vars' lays the variable. In a bare row this is a premise. The card (YtmjnbhigomjjnaaDoorCards.lean) ties it to the program's text. -/
def laid_armillary_interval_products {H : Type} : DataW H := .iface "func table" (.agg [.agg [.agg [.iface "func" (.lit (.string [97, 114, 109, 105, 108, 108, 97, 114, 121, 47, 105, 110, 116, 101, 114, 118, 97, 108, 46, 104, 104])), .iface "func" (.lit (.string [97, 114, 109, 105, 108, 108, 97, 114, 121, 47, 105, 110, 116, 101, 114, 118, 97, 108, 46, 108, 108]))], .agg [.iface "func" (.lit (.string [97, 114, 109, 105, 108, 108, 97, 114, 121, 47, 105, 110, 116, 101, 114, 118, 97, 108, 46, 108, 104])), .iface "func" (.lit (.string [97, 114, 109, 105, 108, 108, 97, 114, 121, 47, 105, 110, 116, 101, 114, 118, 97, 108, 46, 108, 108]))], .agg [.iface "func" (.lit (.string [97, 114, 109, 105, 108, 108, 97, 114, 121, 47, 105, 110, 116, 101, 114, 118, 97, 108, 46, 108, 104])), .iface "func" (.lit (.string [97, 114, 109, 105, 108, 108, 97, 114, 121, 47, 105, 110, 116, 101, 114, 118, 97, 108, 46, 104, 108]))]], .agg [.agg [.iface "func" (.lit (.string [97, 114, 109, 105, 108, 108, 97, 114, 121, 47, 105, 110, 116, 101, 114, 118, 97, 108, 46, 104, 108])), .iface "func" (.lit (.string [97, 114, 109, 105, 108, 108, 97, 114, 121, 47, 105, 110, 116, 101, 114, 118, 97, 108, 46, 108, 108]))], .agg [.nil, .nil], .agg [.iface "func" (.lit (.string [97, 114, 109, 105, 108, 108, 97, 114, 121, 47, 105, 110, 116, 101, 114, 118, 97, 108, 46, 108, 104])), .iface "func" (.lit (.string [97, 114, 109, 105, 108, 108, 97, 114, 121, 47, 105, 110, 116, 101, 114, 118, 97, 108, 46, 104, 104]))]], .agg [.agg [.iface "func" (.lit (.string [97, 114, 109, 105, 108, 108, 97, 114, 121, 47, 105, 110, 116, 101, 114, 118, 97, 108, 46, 104, 108])), .iface "func" (.lit (.string [97, 114, 109, 105, 108, 108, 97, 114, 121, 47, 105, 110, 116, 101, 114, 118, 97, 108, 46, 108, 104]))], .agg [.iface "func" (.lit (.string [97, 114, 109, 105, 108, 108, 97, 114, 121, 47, 105, 110, 116, 101, 114, 118, 97, 108, 46, 104, 108])), .iface "func" (.lit (.string [97, 114, 109, 105, 108, 108, 97, 114, 121, 47, 105, 110, 116, 101, 114, 118, 97, 108, 46, 104, 104]))], .agg [.iface "func" (.lit (.string [97, 114, 109, 105, 108, 108, 97, 114, 121, 47, 105, 110, 116, 101, 114, 118, 97, 108, 46, 108, 108])), .iface "func" (.lit (.string [97, 114, 109, 105, 108, 108, 97, 114, 121, 47, 105, 110, 116, 101, 114, 118, 97, 108, 46, 104, 104]))]]])
def laid_armillary_interval_quotients {H : Type} : DataW H := .iface "func table" (.agg [.agg [.agg [.iface "func" (.lit (.string [97, 114, 109, 105, 108, 108, 97, 114, 121, 47, 105, 110, 116, 101, 114, 118, 97, 108, 46, 104, 108])), .iface "func" (.lit (.string [97, 114, 109, 105, 108, 108, 97, 114, 121, 47, 105, 110, 116, 101, 114, 118, 97, 108, 46, 108, 104]))], .agg [.iface "func" (.lit (.string [97, 114, 109, 105, 108, 108, 97, 114, 121, 47, 105, 110, 116, 101, 114, 118, 97, 108, 46, 108, 108])), .iface "func" (.lit (.string [97, 114, 109, 105, 108, 108, 97, 114, 121, 47, 105, 110, 116, 101, 114, 118, 97, 108, 46, 104, 104]))]], .agg [.agg [.iface "func" (.lit (.string [97, 114, 109, 105, 108, 108, 97, 114, 121, 47, 105, 110, 116, 101, 114, 118, 97, 108, 46, 104, 104])), .iface "func" (.lit (.string [97, 114, 109, 105, 108, 108, 97, 114, 121, 47, 105, 110, 116, 101, 114, 118, 97, 108, 46, 108, 104]))], .agg [.iface "func" (.lit (.string [97, 114, 109, 105, 108, 108, 97, 114, 121, 47, 105, 110, 116, 101, 114, 118, 97, 108, 46, 108, 108])), .iface "func" (.lit (.string [97, 114, 109, 105, 108, 108, 97, 114, 121, 47, 105, 110, 116, 101, 114, 118, 97, 108, 46, 104, 108]))]], .agg [.agg [.iface "func" (.lit (.string [97, 114, 109, 105, 108, 108, 97, 114, 121, 47, 105, 110, 116, 101, 114, 118, 97, 108, 46, 104, 104])), .iface "func" (.lit (.string [97, 114, 109, 105, 108, 108, 97, 114, 121, 47, 105, 110, 116, 101, 114, 118, 97, 108, 46, 108, 108]))], .agg [.iface "func" (.lit (.string [97, 114, 109, 105, 108, 108, 97, 114, 121, 47, 105, 110, 116, 101, 114, 118, 97, 108, 46, 108, 104])), .iface "func" (.lit (.string [97, 114, 109, 105, 108, 108, 97, 114, 121, 47, 105, 110, 116, 101, 114, 118, 97, 108, 46, 104, 108]))]]])

/-- 'armillarylaw02.IntervalInclusion': WHATEVER THE INPUT: true; the input reads as it did. -/
def intervalInclusionSpec : ChangeSpec := { name := "intervalInclusion", fn := fun _ => fun
  | [d1, d2, d3] => { results := [.lit (.bool true)], args := [d1, d2, d3] }
  | _ => none }
def intervalInclusionRow : OpenClaim := { program := "ytmjnbhigomjjnaadoor", sum := "2043afa3379f18a44be709b4ebac9238c9cf85875e7fddbd4d47bb44d9b686a3", func := "armillary/armillarylaw02.IntervalInclusion", spec := "intervalInclusion", unfollowed := true, recurses := true, named := ["armillary/interval.products", "armillary/interval.quotients"], apart := false, laid := [("armillary/interval.products", laid_armillary_interval_products), ("armillary/interval.quotients", laid_armillary_interval_quotients)] }
def IntervalInclusionSaid : Prop := intervalInclusionRow.holds Tryd.pinned (OpenSpec.ofChange intervalInclusionSpec)

/-- ITS FALSE NEIGHBOUR: 'it returns false'. Refute it at one input. -/
def intervalInclusionWrong : ChangeSpec := { name := "intervalInclusion", fn := fun _ => fun
  | [d1, d2, d3] => { results := [.lit (.bool false)], args := [d1, d2, d3] }
  | _ => none }
def IntervalInclusionWrongFalsely : Prop := intervalInclusionRow.holds Tryd.pinned (OpenSpec.ofChange intervalInclusionWrong)

/-- 'armillarylaw02.IntervalTightness': WHATEVER THE INPUT: true; the input reads as it did. -/
def intervalTightnessSpec : ChangeSpec := { name := "intervalTightness", fn := fun _ => fun
  | [d] => { results := [.lit (.bool true)], args := [d] }
  | _ => none }
def intervalTightnessRow : OpenClaim := { program := "ytmjnbhigomjjnaadoor", sum := "2043afa3379f18a44be709b4ebac9238c9cf85875e7fddbd4d47bb44d9b686a3", func := "armillary/armillarylaw02.IntervalTightness", spec := "intervalTightness", unfollowed := true, recurses := true, named := ["armillary/interval.products", "armillary/interval.quotients"], apart := false, laid := [("armillary/interval.products", laid_armillary_interval_products), ("armillary/interval.quotients", laid_armillary_interval_quotients)] }
def IntervalTightnessSaid : Prop := intervalTightnessRow.holds Tryd.pinned (OpenSpec.ofChange intervalTightnessSpec)

/-- ITS FALSE NEIGHBOUR: 'it returns false'. Refute it at one input. -/
def intervalTightnessWrong : ChangeSpec := { name := "intervalTightness", fn := fun _ => fun
  | [d] => { results := [.lit (.bool false)], args := [d] }
  | _ => none }
def IntervalTightnessWrongFalsely : Prop := intervalTightnessRow.holds Tryd.pinned (OpenSpec.ofChange intervalTightnessWrong)

/-- 'armillarylaw02.IntervalIsotonic': WHATEVER THE INPUT: true; the input reads as it did. -/
def intervalIsotonicSpec : ChangeSpec := { name := "intervalIsotonic", fn := fun _ => fun
  | [d1, d2, d3] => { results := [.lit (.bool true)], args := [d1, d2, d3] }
  | _ => none }
def intervalIsotonicRow : OpenClaim := { program := "ytmjnbhigomjjnaadoor", sum := "2043afa3379f18a44be709b4ebac9238c9cf85875e7fddbd4d47bb44d9b686a3", func := "armillary/armillarylaw02.IntervalIsotonic", spec := "intervalIsotonic", unfollowed := true, recurses := true, named := ["armillary/interval.products", "armillary/interval.quotients"], apart := false, laid := [("armillary/interval.products", laid_armillary_interval_products), ("armillary/interval.quotients", laid_armillary_interval_quotients)] }
def IntervalIsotonicSaid : Prop := intervalIsotonicRow.holds Tryd.pinned (OpenSpec.ofChange intervalIsotonicSpec)

/-- ITS FALSE NEIGHBOUR: 'it returns false'. Refute it at one input. -/
def intervalIsotonicWrong : ChangeSpec := { name := "intervalIsotonic", fn := fun _ => fun
  | [d1, d2, d3] => { results := [.lit (.bool false)], args := [d1, d2, d3] }
  | _ => none }
def IntervalIsotonicWrongFalsely : Prop := intervalIsotonicRow.holds Tryd.pinned (OpenSpec.ofChange intervalIsotonicWrong)

/-- 'armillarylaw02.IntervalSubdistributive': WHATEVER THE INPUT: true; the input reads as it did. -/
def intervalSubdistributiveSpec : ChangeSpec := { name := "intervalSubdistributive", fn := fun _ => fun
  | [d1, d2] => { results := [.lit (.bool true)], args := [d1, d2] }
  | _ => none }
def intervalSubdistributiveRow : OpenClaim := { program := "ytmjnbhigomjjnaadoor", sum := "2043afa3379f18a44be709b4ebac9238c9cf85875e7fddbd4d47bb44d9b686a3", func := "armillary/armillarylaw02.IntervalSubdistributive", spec := "intervalSubdistributive", unfollowed := true, recurses := true, named := ["armillary/interval.products", "armillary/interval.quotients"], apart := false, laid := [("armillary/interval.products", laid_armillary_interval_products), ("armillary/interval.quotients", laid_armillary_interval_quotients)] }
def IntervalSubdistributiveSaid : Prop := intervalSubdistributiveRow.holds Tryd.pinned (OpenSpec.ofChange intervalSubdistributiveSpec)

/-- ITS FALSE NEIGHBOUR: 'it returns false'. Refute it at one input. -/
def intervalSubdistributiveWrong : ChangeSpec := { name := "intervalSubdistributive", fn := fun _ => fun
  | [d1, d2] => { results := [.lit (.bool false)], args := [d1, d2] }
  | _ => none }
def IntervalSubdistributiveWrongFalsely : Prop := intervalSubdistributiveRow.holds Tryd.pinned (OpenSpec.ofChange intervalSubdistributiveWrong)

/-- 'armillarylaw02.IntervalLattice': WHATEVER THE INPUT: true; the input reads as it did. -/
def intervalLatticeSpec : ChangeSpec := { name := "intervalLattice", fn := fun _ => fun
  | [d1, d2, d3] => { results := [.lit (.bool true)], args := [d1, d2, d3] }
  | _ => none }
def intervalLatticeRow : OpenClaim := { program := "ytmjnbhigomjjnaadoor", sum := "2043afa3379f18a44be709b4ebac9238c9cf85875e7fddbd4d47bb44d9b686a3", func := "armillary/armillarylaw02.IntervalLattice", spec := "intervalLattice", unfollowed := true, recurses := true, named := ["armillary/interval.products", "armillary/interval.quotients"], apart := false, laid := [("armillary/interval.products", laid_armillary_interval_products), ("armillary/interval.quotients", laid_armillary_interval_quotients)] }
def IntervalLatticeSaid : Prop := intervalLatticeRow.holds Tryd.pinned (OpenSpec.ofChange intervalLatticeSpec)

/-- ITS FALSE NEIGHBOUR: 'it returns false'. Refute it at one input. -/
def intervalLatticeWrong : ChangeSpec := { name := "intervalLattice", fn := fun _ => fun
  | [d1, d2, d3] => { results := [.lit (.bool false)], args := [d1, d2, d3] }
  | _ => none }
def IntervalLatticeWrongFalsely : Prop := intervalLatticeRow.holds Tryd.pinned (OpenSpec.ofChange intervalLatticeWrong)

/-- 'armillarylaw02.IntervalMeasures': WHATEVER THE INPUT: true; the input reads as it did. -/
def intervalMeasuresSpec : ChangeSpec := { name := "intervalMeasures", fn := fun _ => fun
  | [d1, d2] => { results := [.lit (.bool true)], args := [d1, d2] }
  | _ => none }
def intervalMeasuresRow : OpenClaim := { program := "ytmjnbhigomjjnaadoor", sum := "2043afa3379f18a44be709b4ebac9238c9cf85875e7fddbd4d47bb44d9b686a3", func := "armillary/armillarylaw02.IntervalMeasures", spec := "intervalMeasures", unfollowed := true, recurses := true, named := ["armillary/interval.products", "armillary/interval.quotients"], apart := false, laid := [("armillary/interval.products", laid_armillary_interval_products), ("armillary/interval.quotients", laid_armillary_interval_quotients)] }
def IntervalMeasuresSaid : Prop := intervalMeasuresRow.holds Tryd.pinned (OpenSpec.ofChange intervalMeasuresSpec)

/-- ITS FALSE NEIGHBOUR: 'it returns false'. Refute it at one input. -/
def intervalMeasuresWrong : ChangeSpec := { name := "intervalMeasures", fn := fun _ => fun
  | [d1, d2] => { results := [.lit (.bool false)], args := [d1, d2] }
  | _ => none }
def IntervalMeasuresWrongFalsely : Prop := intervalMeasuresRow.holds Tryd.pinned (OpenSpec.ofChange intervalMeasuresWrong)

/-- 'armillarylaw02.IntervalMatchesReference': WHATEVER THE INPUT: true; the input reads as it did. -/
def intervalMatchesReferenceSpec : ChangeSpec := { name := "intervalMatchesReference", fn := fun _ => fun
  | [d1, d2] => { results := [.lit (.bool true)], args := [d1, d2] }
  | _ => none }
def intervalMatchesReferenceRow : OpenClaim := { program := "ytmjnbhigomjjnaadoor", sum := "2043afa3379f18a44be709b4ebac9238c9cf85875e7fddbd4d47bb44d9b686a3", func := "armillary/armillarylaw02.IntervalMatchesReference", spec := "intervalMatchesReference", unfollowed := true, recurses := true, named := ["armillary/interval.products", "armillary/interval.quotients"], apart := false, laid := [("armillary/interval.products", laid_armillary_interval_products), ("armillary/interval.quotients", laid_armillary_interval_quotients)] }
def IntervalMatchesReferenceSaid : Prop := intervalMatchesReferenceRow.holds Tryd.pinned (OpenSpec.ofChange intervalMatchesReferenceSpec)

/-- ITS FALSE NEIGHBOUR: 'it returns false'. Refute it at one input. -/
def intervalMatchesReferenceWrong : ChangeSpec := { name := "intervalMatchesReference", fn := fun _ => fun
  | [d1, d2] => { results := [.lit (.bool false)], args := [d1, d2] }
  | _ => none }
def IntervalMatchesReferenceWrongFalsely : Prop := intervalMatchesReferenceRow.holds Tryd.pinned (OpenSpec.ofChange intervalMatchesReferenceWrong)

/-- 'armillarylaw02.IntervalAlgebra': WHATEVER THE INPUT: true; the input reads as it did. -/
def intervalAlgebraSpec : ChangeSpec := { name := "intervalAlgebra", fn := fun _ => fun
  | [d] => { results := [.lit (.bool true)], args := [d] }
  | _ => none }
def intervalAlgebraRow : OpenClaim := { program := "ytmjnbhigomjjnaadoor", sum := "2043afa3379f18a44be709b4ebac9238c9cf85875e7fddbd4d47bb44d9b686a3", func := "armillary/armillarylaw02.IntervalAlgebra", spec := "intervalAlgebra", unfollowed := true, recurses := true, named := ["armillary/interval.products", "armillary/interval.quotients"], apart := false, laid := [("armillary/interval.products", laid_armillary_interval_products), ("armillary/interval.quotients", laid_armillary_interval_quotients)] }
def IntervalAlgebraSaid : Prop := intervalAlgebraRow.holds Tryd.pinned (OpenSpec.ofChange intervalAlgebraSpec)

/-- ITS FALSE NEIGHBOUR: 'it returns false'. Refute it at one input. -/
def intervalAlgebraWrong : ChangeSpec := { name := "intervalAlgebra", fn := fun _ => fun
  | [d] => { results := [.lit (.bool false)], args := [d] }
  | _ => none }
def IntervalAlgebraWrongFalsely : Prop := intervalAlgebraRow.holds Tryd.pinned (OpenSpec.ofChange intervalAlgebraWrong)

/- THE SECOND FORM. 'bulk': how many values and letters a reading holds, each counted each time it is reached (what is shared counts as often as it is met; a slice's spare places count too). A statement '..UptoSaid' is the law's where the arguments, and the package variables that the reading takes, are together of bulk at most 1048576: NARROWER than '..Said'. Prove '..Said' where nothing that the law and all that it calls make is longer than what came in: it says more and counts as full. Else prove '..UptoSaid'. A law counts once. -/
mutual
def uptoBulk {H : Type} : DataW H → Nat
  | .lit (.string bytes) => bytes.length + 1
  | .lit _ => 1
  | .nil => 1
  | .ptr d => uptoBulk d + 1
  | .slice elems spare => uptoBulkAll elems + uptoBulkAll spare + 1
  | .agg parts => uptoBulkAll parts + 1
  | .iface _ d => uptoBulk d + 1
  | .map entries => uptoBulkEntries entries + 1
  | .held _ => 1
def uptoBulkAll {H : Type} : List (DataW H) → Nat
  | [] => 0
  | d :: r => uptoBulk d + uptoBulkAll r
def uptoBulkEntries {H : Type} : List (Lit × DataW H) → Nat
  | [] => 0
  | x :: r => uptoBulkEntry x + uptoBulkEntries r
def uptoBulkEntry {H : Type} : Lit × DataW H → Nat
  | (.string bytes, d) => bytes.length + uptoBulk d + 1
  | (_, d) => uptoBulk d + 1
 end
def uptoSmall : (H : Type) → List (DataW H) → Bool := fun _ ds => decide (uptoBulkAll ds ≤ 1048576)
def OpenSpec.upto (s : _root_.Go.ChangeSpec) : _root_.Go.OpenSpec := { _root_.Go.OpenSpec.ofChange s with cond := some uptoSmall }

/-- 'armillarylaw02.IntervalInclusion', WHERE WHAT IT READS IS OF BULK AT MOST 1048576: true; the input reads as it did. -/
def intervalInclusionUptoRow : OpenClaim := { program := "ytmjnbhigomjjnaadoor", sum := "2043afa3379f18a44be709b4ebac9238c9cf85875e7fddbd4d47bb44d9b686a3", func := "armillary/armillarylaw02.IntervalInclusion", spec := "intervalInclusion", unfollowed := true, recurses := true, named := ["armillary/interval.products", "armillary/interval.quotients"], apart := false, laid := [("armillary/interval.products", laid_armillary_interval_products), ("armillary/interval.quotients", laid_armillary_interval_quotients)], narrowed := true }
def IntervalInclusionUptoSaid : Prop := intervalInclusionUptoRow.holds Tryd.pinned (OpenSpec.upto intervalInclusionSpec)

/-- 'armillarylaw02.IntervalTightness', WHERE WHAT IT READS IS OF BULK AT MOST 1048576: true; the input reads as it did. -/
def intervalTightnessUptoRow : OpenClaim := { program := "ytmjnbhigomjjnaadoor", sum := "2043afa3379f18a44be709b4ebac9238c9cf85875e7fddbd4d47bb44d9b686a3", func := "armillary/armillarylaw02.IntervalTightness", spec := "intervalTightness", unfollowed := true, recurses := true, named := ["armillary/interval.products", "armillary/interval.quotients"], apart := false, laid := [("armillary/interval.products", laid_armillary_interval_products), ("armillary/interval.quotients", laid_armillary_interval_quotients)], narrowed := true }
def IntervalTightnessUptoSaid : Prop := intervalTightnessUptoRow.holds Tryd.pinned (OpenSpec.upto intervalTightnessSpec)

/-- 'armillarylaw02.IntervalIsotonic', WHERE WHAT IT READS IS OF BULK AT MOST 1048576: true; the input reads as it did. -/
def intervalIsotonicUptoRow : OpenClaim := { program := "ytmjnbhigomjjnaadoor", sum := "2043afa3379f18a44be709b4ebac9238c9cf85875e7fddbd4d47bb44d9b686a3", func := "armillary/armillarylaw02.IntervalIsotonic", spec := "intervalIsotonic", unfollowed := true, recurses := true, named := ["armillary/interval.products", "armillary/interval.quotients"], apart := false, laid := [("armillary/interval.products", laid_armillary_interval_products), ("armillary/interval.quotients", laid_armillary_interval_quotients)], narrowed := true }
def IntervalIsotonicUptoSaid : Prop := intervalIsotonicUptoRow.holds Tryd.pinned (OpenSpec.upto intervalIsotonicSpec)

/-- 'armillarylaw02.IntervalSubdistributive', WHERE WHAT IT READS IS OF BULK AT MOST 1048576: true; the input reads as it did. -/
def intervalSubdistributiveUptoRow : OpenClaim := { program := "ytmjnbhigomjjnaadoor", sum := "2043afa3379f18a44be709b4ebac9238c9cf85875e7fddbd4d47bb44d9b686a3", func := "armillary/armillarylaw02.IntervalSubdistributive", spec := "intervalSubdistributive", unfollowed := true, recurses := true, named := ["armillary/interval.products", "armillary/interval.quotients"], apart := false, laid := [("armillary/interval.products", laid_armillary_interval_products), ("armillary/interval.quotients", laid_armillary_interval_quotients)], narrowed := true }
def IntervalSubdistributiveUptoSaid : Prop := intervalSubdistributiveUptoRow.holds Tryd.pinned (OpenSpec.upto intervalSubdistributiveSpec)

/-- 'armillarylaw02.IntervalLattice', WHERE WHAT IT READS IS OF BULK AT MOST 1048576: true; the input reads as it did. -/
def intervalLatticeUptoRow : OpenClaim := { program := "ytmjnbhigomjjnaadoor", sum := "2043afa3379f18a44be709b4ebac9238c9cf85875e7fddbd4d47bb44d9b686a3", func := "armillary/armillarylaw02.IntervalLattice", spec := "intervalLattice", unfollowed := true, recurses := true, named := ["armillary/interval.products", "armillary/interval.quotients"], apart := false, laid := [("armillary/interval.products", laid_armillary_interval_products), ("armillary/interval.quotients", laid_armillary_interval_quotients)], narrowed := true }
def IntervalLatticeUptoSaid : Prop := intervalLatticeUptoRow.holds Tryd.pinned (OpenSpec.upto intervalLatticeSpec)

/-- 'armillarylaw02.IntervalMeasures', WHERE WHAT IT READS IS OF BULK AT MOST 1048576: true; the input reads as it did. -/
def intervalMeasuresUptoRow : OpenClaim := { program := "ytmjnbhigomjjnaadoor", sum := "2043afa3379f18a44be709b4ebac9238c9cf85875e7fddbd4d47bb44d9b686a3", func := "armillary/armillarylaw02.IntervalMeasures", spec := "intervalMeasures", unfollowed := true, recurses := true, named := ["armillary/interval.products", "armillary/interval.quotients"], apart := false, laid := [("armillary/interval.products", laid_armillary_interval_products), ("armillary/interval.quotients", laid_armillary_interval_quotients)], narrowed := true }
def IntervalMeasuresUptoSaid : Prop := intervalMeasuresUptoRow.holds Tryd.pinned (OpenSpec.upto intervalMeasuresSpec)

/-- 'armillarylaw02.IntervalMatchesReference', WHERE WHAT IT READS IS OF BULK AT MOST 1048576: true; the input reads as it did. -/
def intervalMatchesReferenceUptoRow : OpenClaim := { program := "ytmjnbhigomjjnaadoor", sum := "2043afa3379f18a44be709b4ebac9238c9cf85875e7fddbd4d47bb44d9b686a3", func := "armillary/armillarylaw02.IntervalMatchesReference", spec := "intervalMatchesReference", unfollowed := true, recurses := true, named := ["armillary/interval.products", "armillary/interval.quotients"], apart := false, laid := [("armillary/interval.products", laid_armillary_interval_products), ("armillary/interval.quotients", laid_armillary_interval_quotients)], narrowed := true }
def IntervalMatchesReferenceUptoSaid : Prop := intervalMatchesReferenceUptoRow.holds Tryd.pinned (OpenSpec.upto intervalMatchesReferenceSpec)

/-- 'armillarylaw02.IntervalAlgebra', WHERE WHAT IT READS IS OF BULK AT MOST 1048576: true; the input reads as it did. -/
def intervalAlgebraUptoRow : OpenClaim := { program := "ytmjnbhigomjjnaadoor", sum := "2043afa3379f18a44be709b4ebac9238c9cf85875e7fddbd4d47bb44d9b686a3", func := "armillary/armillarylaw02.IntervalAlgebra", spec := "intervalAlgebra", unfollowed := true, recurses := true, named := ["armillary/interval.products", "armillary/interval.quotients"], apart := false, laid := [("armillary/interval.products", laid_armillary_interval_products), ("armillary/interval.quotients", laid_armillary_interval_quotients)], narrowed := true }
def IntervalAlgebraUptoSaid : Prop := intervalAlgebraUptoRow.holds Tryd.pinned (OpenSpec.upto intervalAlgebraSpec)

end Rows
end Go.Proofs.YtmjnbhigomjjnaaDoor
