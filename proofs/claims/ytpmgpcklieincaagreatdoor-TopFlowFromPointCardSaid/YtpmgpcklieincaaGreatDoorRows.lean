/-
  NARROWER THAN 'FOR EVERY INPUT', by the rows' own cells (each row's printed sentence says how): TopFlowEnclosesDrift: laid · TopFlowTimeShift: laid · TopFlowsIntersect: laid · TopFlowFromPoint: laid · TopClearedPairsStayApart: laid · TopConflictsAreReal: laid.
  DERIVED. THE GIVEN ROWS OF THIS SEAT. 6 by the template 'for every input the law returns true; each argument reads behind the call as it read before'; 0 by the template 'total and deterministic' (their statements: YtpmgpcklieincaaGreatDoorTotals.lean).
  GIVEN WITH THE SEED: the statements are not yours to turn. If you find one false, say at which input.
  Laid BY PROGRAM, IN A SANDBOX (cutbox-rows.mjs): the forced cells as the released guide's own fill.sh prints them over the translation 1edd2abc0d8f01fb… (all of the seat's roots in one cut). By AI agents, Wed Nov 11 2026. No macro, syntax, notation, axiom, sorry.
-/
import Derived.Test.YtpmgpcklieincaaGreatDoorChecked
import GoSem.Claim
import GoSem.ClaimJoined
import GoSem.ClaimMapViews
import Derived.JoinedTies
import Derived.KernelRfl
namespace Go.Proofs.YtpmgpcklieincaaGreatDoor
/- THE CELL 'sum', in the pinned program and in every row, IS THE sha256 OF THE DUMP (.gsa) THAT YtpmgpcklieincaaGreatDoorProg.lean LOADS. Nothing in Lean hashes anything: it is a label: what it is worth is what the hold of that sum in a sandbox is worth. -/
noncomputable def Tryz.pinned : Pinned := { name := "ytpmgpcklieincaagreatdoor", sum := "1edd2abc0d8f01fb7ba83fc9b793e2a2d4c396040a8fa25a00f8490e44819639", checked := Tryz.checked }
namespace Rows
def none {H : Type} : Left H := { results := [], args := [] }

/- WHAT THE LISTED PACKAGE-LEVEL VARIABLES READ AS WHEN THE CALL BEGINS. Each datum BY PROGRAM (the guide's laid-datum.mjs) off the statement by which the dump's own 'gosem.cut.vars' lays the variable. In a bare row this is a premise. The card (YtpmgpcklieincaaGreatDoorCards.lean) ties it to the program's text. -/
def laid_armillary_interval_products {H : Type} : DataW H := .iface "func table" (.agg [.agg [.agg [.iface "func" (.lit (.string [97, 114, 109, 105, 108, 108, 97, 114, 121, 47, 105, 110, 116, 101, 114, 118, 97, 108, 46, 104, 104])), .iface "func" (.lit (.string [97, 114, 109, 105, 108, 108, 97, 114, 121, 47, 105, 110, 116, 101, 114, 118, 97, 108, 46, 108, 108]))], .agg [.iface "func" (.lit (.string [97, 114, 109, 105, 108, 108, 97, 114, 121, 47, 105, 110, 116, 101, 114, 118, 97, 108, 46, 108, 104])), .iface "func" (.lit (.string [97, 114, 109, 105, 108, 108, 97, 114, 121, 47, 105, 110, 116, 101, 114, 118, 97, 108, 46, 108, 108]))], .agg [.iface "func" (.lit (.string [97, 114, 109, 105, 108, 108, 97, 114, 121, 47, 105, 110, 116, 101, 114, 118, 97, 108, 46, 108, 104])), .iface "func" (.lit (.string [97, 114, 109, 105, 108, 108, 97, 114, 121, 47, 105, 110, 116, 101, 114, 118, 97, 108, 46, 104, 108]))]], .agg [.agg [.iface "func" (.lit (.string [97, 114, 109, 105, 108, 108, 97, 114, 121, 47, 105, 110, 116, 101, 114, 118, 97, 108, 46, 104, 108])), .iface "func" (.lit (.string [97, 114, 109, 105, 108, 108, 97, 114, 121, 47, 105, 110, 116, 101, 114, 118, 97, 108, 46, 108, 108]))], .agg [.nil, .nil], .agg [.iface "func" (.lit (.string [97, 114, 109, 105, 108, 108, 97, 114, 121, 47, 105, 110, 116, 101, 114, 118, 97, 108, 46, 108, 104])), .iface "func" (.lit (.string [97, 114, 109, 105, 108, 108, 97, 114, 121, 47, 105, 110, 116, 101, 114, 118, 97, 108, 46, 104, 104]))]], .agg [.agg [.iface "func" (.lit (.string [97, 114, 109, 105, 108, 108, 97, 114, 121, 47, 105, 110, 116, 101, 114, 118, 97, 108, 46, 104, 108])), .iface "func" (.lit (.string [97, 114, 109, 105, 108, 108, 97, 114, 121, 47, 105, 110, 116, 101, 114, 118, 97, 108, 46, 108, 104]))], .agg [.iface "func" (.lit (.string [97, 114, 109, 105, 108, 108, 97, 114, 121, 47, 105, 110, 116, 101, 114, 118, 97, 108, 46, 104, 108])), .iface "func" (.lit (.string [97, 114, 109, 105, 108, 108, 97, 114, 121, 47, 105, 110, 116, 101, 114, 118, 97, 108, 46, 104, 104]))], .agg [.iface "func" (.lit (.string [97, 114, 109, 105, 108, 108, 97, 114, 121, 47, 105, 110, 116, 101, 114, 118, 97, 108, 46, 108, 108])), .iface "func" (.lit (.string [97, 114, 109, 105, 108, 108, 97, 114, 121, 47, 105, 110, 116, 101, 114, 118, 97, 108, 46, 104, 104]))]]])
def laid_armillary_interval_quotients {H : Type} : DataW H := .iface "func table" (.agg [.agg [.agg [.iface "func" (.lit (.string [97, 114, 109, 105, 108, 108, 97, 114, 121, 47, 105, 110, 116, 101, 114, 118, 97, 108, 46, 104, 108])), .iface "func" (.lit (.string [97, 114, 109, 105, 108, 108, 97, 114, 121, 47, 105, 110, 116, 101, 114, 118, 97, 108, 46, 108, 104]))], .agg [.iface "func" (.lit (.string [97, 114, 109, 105, 108, 108, 97, 114, 121, 47, 105, 110, 116, 101, 114, 118, 97, 108, 46, 108, 108])), .iface "func" (.lit (.string [97, 114, 109, 105, 108, 108, 97, 114, 121, 47, 105, 110, 116, 101, 114, 118, 97, 108, 46, 104, 104]))]], .agg [.agg [.iface "func" (.lit (.string [97, 114, 109, 105, 108, 108, 97, 114, 121, 47, 105, 110, 116, 101, 114, 118, 97, 108, 46, 104, 104])), .iface "func" (.lit (.string [97, 114, 109, 105, 108, 108, 97, 114, 121, 47, 105, 110, 116, 101, 114, 118, 97, 108, 46, 108, 104]))], .agg [.iface "func" (.lit (.string [97, 114, 109, 105, 108, 108, 97, 114, 121, 47, 105, 110, 116, 101, 114, 118, 97, 108, 46, 108, 108])), .iface "func" (.lit (.string [97, 114, 109, 105, 108, 108, 97, 114, 121, 47, 105, 110, 116, 101, 114, 118, 97, 108, 46, 104, 108]))]], .agg [.agg [.iface "func" (.lit (.string [97, 114, 109, 105, 108, 108, 97, 114, 121, 47, 105, 110, 116, 101, 114, 118, 97, 108, 46, 104, 104])), .iface "func" (.lit (.string [97, 114, 109, 105, 108, 108, 97, 114, 121, 47, 105, 110, 116, 101, 114, 118, 97, 108, 46, 108, 108]))], .agg [.iface "func" (.lit (.string [97, 114, 109, 105, 108, 108, 97, 114, 121, 47, 105, 110, 116, 101, 114, 118, 97, 108, 46, 108, 104])), .iface "func" (.lit (.string [97, 114, 109, 105, 108, 108, 97, 114, 121, 47, 105, 110, 116, 101, 114, 118, 97, 108, 46, 104, 108]))]]])
def laid_armillary_tape_ops {H : Type} : DataW H := .iface "func table" (.agg [.agg [.nil, .nil], .agg [.nil, .nil], .agg [.nil, .nil], .agg [.nil, .nil], .agg [.iface "func" (.lit (.string [97, 114, 109, 105, 108, 108, 97, 114, 121, 47, 105, 110, 116, 101, 114, 118, 97, 108, 46, 78, 101, 103])), .nil], .agg [.iface "func" (.lit (.string [97, 114, 109, 105, 108, 108, 97, 114, 121, 47, 105, 110, 116, 101, 114, 118, 97, 108, 46, 83, 113, 117, 97, 114, 101])), .nil], .agg [.iface "func" (.lit (.string [97, 114, 109, 105, 108, 108, 97, 114, 121, 47, 116, 97, 112, 101, 46, 114, 111, 111, 116])), .nil], .agg [.nil, .iface "func" (.lit (.string [97, 114, 109, 105, 108, 108, 97, 114, 121, 47, 105, 110, 116, 101, 114, 118, 97, 108, 46, 65, 100, 100]))], .agg [.nil, .iface "func" (.lit (.string [97, 114, 109, 105, 108, 108, 97, 114, 121, 47, 105, 110, 116, 101, 114, 118, 97, 108, 46, 83, 117, 98]))], .agg [.nil, .iface "func" (.lit (.string [97, 114, 109, 105, 108, 108, 97, 114, 121, 47, 105, 110, 116, 101, 114, 118, 97, 108, 46, 77, 117, 108]))], .agg [.nil, .iface "func" (.lit (.string [97, 114, 109, 105, 108, 108, 97, 114, 121, 47, 105, 110, 116, 101, 114, 118, 97, 108, 46, 68, 105, 118]))]])

/-- 'armillarytop.TopFlowEnclosesDrift': WHATEVER THE INPUT: true; the input reads as it did. -/
def topFlowEnclosesDriftSpec : ChangeSpec := { name := "topFlowEnclosesDrift", fn := fun _ => fun
  | [d1, d2, d3, d4, d5] => { results := [.lit (.bool true)], args := [d1, d2, d3, d4, d5] }
  | _ => none }
def topFlowEnclosesDriftRow : OpenClaim := { program := "ytpmgpcklieincaagreatdoor", sum := "1edd2abc0d8f01fb7ba83fc9b793e2a2d4c396040a8fa25a00f8490e44819639", func := "armillary/armillarytop.TopFlowEnclosesDrift", spec := "topFlowEnclosesDrift", inPlace := ["internal/reflectlite.TypeOf"], unfollowed := true, recurses := true, named := ["armillary/tape.ops", "armillary/interval.products", "armillary/interval.quotients"], plainKeys := false, apart := false, laid := [("armillary/interval.products", laid_armillary_interval_products), ("armillary/interval.quotients", laid_armillary_interval_quotients), ("armillary/tape.ops", laid_armillary_tape_ops)] }
def TopFlowEnclosesDriftSaid : Prop := topFlowEnclosesDriftRow.holds Tryz.pinned (OpenSpec.ofChange topFlowEnclosesDriftSpec)

/-- ITS FALSE NEIGHBOUR: 'it returns false'. Refute it at one input. -/
def topFlowEnclosesDriftWrong : ChangeSpec := { name := "topFlowEnclosesDrift", fn := fun _ => fun
  | [d1, d2, d3, d4, d5] => { results := [.lit (.bool false)], args := [d1, d2, d3, d4, d5] }
  | _ => none }
def TopFlowEnclosesDriftWrongFalsely : Prop := topFlowEnclosesDriftRow.holds Tryz.pinned (OpenSpec.ofChange topFlowEnclosesDriftWrong)

/-- 'armillarytop.TopFlowTimeShift': WHATEVER THE INPUT: true; the input reads as it did. -/
def topFlowTimeShiftSpec : ChangeSpec := { name := "topFlowTimeShift", fn := fun _ => fun
  | [d1, d2] => { results := [.lit (.bool true)], args := [d1, d2] }
  | _ => none }
def topFlowTimeShiftRow : OpenClaim := { program := "ytpmgpcklieincaagreatdoor", sum := "1edd2abc0d8f01fb7ba83fc9b793e2a2d4c396040a8fa25a00f8490e44819639", func := "armillary/armillarytop.TopFlowTimeShift", spec := "topFlowTimeShift", inPlace := ["internal/reflectlite.TypeOf"], unfollowed := true, recurses := true, named := ["armillary/tape.ops", "armillary/interval.products", "armillary/interval.quotients"], plainKeys := false, apart := false, laid := [("armillary/interval.products", laid_armillary_interval_products), ("armillary/interval.quotients", laid_armillary_interval_quotients), ("armillary/tape.ops", laid_armillary_tape_ops)] }
def TopFlowTimeShiftSaid : Prop := topFlowTimeShiftRow.holds Tryz.pinned (OpenSpec.ofChange topFlowTimeShiftSpec)

/-- ITS FALSE NEIGHBOUR: 'it returns false'. Refute it at one input. -/
def topFlowTimeShiftWrong : ChangeSpec := { name := "topFlowTimeShift", fn := fun _ => fun
  | [d1, d2] => { results := [.lit (.bool false)], args := [d1, d2] }
  | _ => none }
def TopFlowTimeShiftWrongFalsely : Prop := topFlowTimeShiftRow.holds Tryz.pinned (OpenSpec.ofChange topFlowTimeShiftWrong)

/-- 'armillarytop.TopFlowsIntersect': WHATEVER THE INPUT: true; the input reads as it did. -/
def topFlowsIntersectSpec : ChangeSpec := { name := "topFlowsIntersect", fn := fun _ => fun
  | [d1, d2, d3, d4] => { results := [.lit (.bool true)], args := [d1, d2, d3, d4] }
  | _ => none }
def topFlowsIntersectRow : OpenClaim := { program := "ytpmgpcklieincaagreatdoor", sum := "1edd2abc0d8f01fb7ba83fc9b793e2a2d4c396040a8fa25a00f8490e44819639", func := "armillary/armillarytop.TopFlowsIntersect", spec := "topFlowsIntersect", inPlace := ["internal/reflectlite.TypeOf"], unfollowed := true, recurses := true, named := ["armillary/tape.ops", "armillary/interval.products", "armillary/interval.quotients"], plainKeys := false, apart := false, laid := [("armillary/interval.products", laid_armillary_interval_products), ("armillary/interval.quotients", laid_armillary_interval_quotients), ("armillary/tape.ops", laid_armillary_tape_ops)] }
def TopFlowsIntersectSaid : Prop := topFlowsIntersectRow.holds Tryz.pinned (OpenSpec.ofChange topFlowsIntersectSpec)

/-- ITS FALSE NEIGHBOUR: 'it returns false'. Refute it at one input. -/
def topFlowsIntersectWrong : ChangeSpec := { name := "topFlowsIntersect", fn := fun _ => fun
  | [d1, d2, d3, d4] => { results := [.lit (.bool false)], args := [d1, d2, d3, d4] }
  | _ => none }
def TopFlowsIntersectWrongFalsely : Prop := topFlowsIntersectRow.holds Tryz.pinned (OpenSpec.ofChange topFlowsIntersectWrong)

/-- 'armillarytop.TopFlowFromPoint': WHATEVER THE INPUT: true; the input reads as it did. -/
def topFlowFromPointSpec : ChangeSpec := { name := "topFlowFromPoint", fn := fun _ => fun
  | [d1, d2, d3] => { results := [.lit (.bool true)], args := [d1, d2, d3] }
  | _ => none }
def topFlowFromPointRow : OpenClaim := { program := "ytpmgpcklieincaagreatdoor", sum := "1edd2abc0d8f01fb7ba83fc9b793e2a2d4c396040a8fa25a00f8490e44819639", func := "armillary/armillarytop.TopFlowFromPoint", spec := "topFlowFromPoint", inPlace := ["internal/reflectlite.TypeOf"], unfollowed := true, recurses := true, named := ["armillary/tape.ops", "armillary/interval.products", "armillary/interval.quotients"], plainKeys := false, apart := false, laid := [("armillary/interval.products", laid_armillary_interval_products), ("armillary/interval.quotients", laid_armillary_interval_quotients), ("armillary/tape.ops", laid_armillary_tape_ops)] }
def TopFlowFromPointSaid : Prop := topFlowFromPointRow.holds Tryz.pinned (OpenSpec.ofChange topFlowFromPointSpec)

/-- ITS FALSE NEIGHBOUR: 'it returns false'. Refute it at one input. -/
def topFlowFromPointWrong : ChangeSpec := { name := "topFlowFromPoint", fn := fun _ => fun
  | [d1, d2, d3] => { results := [.lit (.bool false)], args := [d1, d2, d3] }
  | _ => none }
def TopFlowFromPointWrongFalsely : Prop := topFlowFromPointRow.holds Tryz.pinned (OpenSpec.ofChange topFlowFromPointWrong)

/-- 'armillarytop.TopClearedPairsStayApart': WHATEVER THE INPUT: true; the input reads as it did. -/
def topClearedPairsStayApartSpec : ChangeSpec := { name := "topClearedPairsStayApart", fn := fun _ => fun
  | [d1, d2, d3, d4] => { results := [.lit (.bool true)], args := [d1, d2, d3, d4] }
  | _ => none }
def topClearedPairsStayApartRow : OpenClaim := { program := "ytpmgpcklieincaagreatdoor", sum := "1edd2abc0d8f01fb7ba83fc9b793e2a2d4c396040a8fa25a00f8490e44819639", func := "armillary/armillarytop.TopClearedPairsStayApart", spec := "topClearedPairsStayApart", inPlace := ["internal/reflectlite.TypeOf"], unfollowed := true, recurses := true, named := ["armillary/tape.ops", "armillary/interval.products", "armillary/interval.quotients"], plainKeys := false, apart := false, laid := [("armillary/interval.products", laid_armillary_interval_products), ("armillary/interval.quotients", laid_armillary_interval_quotients), ("armillary/tape.ops", laid_armillary_tape_ops)] }
def TopClearedPairsStayApartSaid : Prop := topClearedPairsStayApartRow.holds Tryz.pinned (OpenSpec.ofChange topClearedPairsStayApartSpec)

/-- ITS FALSE NEIGHBOUR: 'it returns false'. Refute it at one input. -/
def topClearedPairsStayApartWrong : ChangeSpec := { name := "topClearedPairsStayApart", fn := fun _ => fun
  | [d1, d2, d3, d4] => { results := [.lit (.bool false)], args := [d1, d2, d3, d4] }
  | _ => none }
def TopClearedPairsStayApartWrongFalsely : Prop := topClearedPairsStayApartRow.holds Tryz.pinned (OpenSpec.ofChange topClearedPairsStayApartWrong)

/-- 'armillarytop.TopConflictsAreReal': WHATEVER THE INPUT: true; the input reads as it did. -/
def topConflictsAreRealSpec : ChangeSpec := { name := "topConflictsAreReal", fn := fun _ => fun
  | [d1, d2, d3] => { results := [.lit (.bool true)], args := [d1, d2, d3] }
  | _ => none }
def topConflictsAreRealRow : OpenClaim := { program := "ytpmgpcklieincaagreatdoor", sum := "1edd2abc0d8f01fb7ba83fc9b793e2a2d4c396040a8fa25a00f8490e44819639", func := "armillary/armillarytop.TopConflictsAreReal", spec := "topConflictsAreReal", inPlace := ["internal/reflectlite.TypeOf"], unfollowed := true, recurses := true, named := ["armillary/tape.ops", "armillary/interval.products", "armillary/interval.quotients"], plainKeys := false, apart := false, laid := [("armillary/interval.products", laid_armillary_interval_products), ("armillary/interval.quotients", laid_armillary_interval_quotients), ("armillary/tape.ops", laid_armillary_tape_ops)] }
def TopConflictsAreRealSaid : Prop := topConflictsAreRealRow.holds Tryz.pinned (OpenSpec.ofChange topConflictsAreRealSpec)

/-- ITS FALSE NEIGHBOUR: 'it returns false'. Refute it at one input. -/
def topConflictsAreRealWrong : ChangeSpec := { name := "topConflictsAreReal", fn := fun _ => fun
  | [d1, d2, d3] => { results := [.lit (.bool false)], args := [d1, d2, d3] }
  | _ => none }
def TopConflictsAreRealWrongFalsely : Prop := topConflictsAreRealRow.holds Tryz.pinned (OpenSpec.ofChange topConflictsAreRealWrong)

/- THE SECOND FORM. 'bulk': how many values and letters a reading holds, each counted each time it is reached (what is shared counts as often as it is met; a slice's spare places count too). A statement '..UptoSaid' is the law's where the arguments, and the package variables that the reading takes, are together of bulk at most 1048576: NARROWER than '..Said'. Prove '..Said' where nothing that the law and all that it calls make is longer than what came in: it says more and counts as full. Else prove '..UptoSaid'. A law counts once. -/
mutual
def uptoBulk {H : Type} : DataW H → Nat
  | .lit (.string bytes) => bytes.length + 1
  | .lit _ => 1
  | .nil => 1
  | .ptr d => uptoBulk d + 1
  | .slice elems spare => uptoBulkAll elems + uptoBulkAll spare + 1
  | .agg parts => uptoBulkAll parts + 1
  | .iface _ d => uptoBulk d + 1
  | .map entries => uptoBulkEntries entries + 1
  | .held _ => 1
def uptoBulkAll {H : Type} : List (DataW H) → Nat
  | [] => 0
  | d :: r => uptoBulk d + uptoBulkAll r
def uptoBulkEntries {H : Type} : List (Lit × DataW H) → Nat
  | [] => 0
  | x :: r => uptoBulkEntry x + uptoBulkEntries r
def uptoBulkEntry {H : Type} : Lit × DataW H → Nat
  | (.string bytes, d) => bytes.length + uptoBulk d + 1
  | (_, d) => uptoBulk d + 1
 end
def uptoSmall : (H : Type) → List (DataW H) → Bool := fun _ ds => decide (uptoBulkAll ds ≤ 1048576)
def OpenSpec.upto (s : _root_.Go.ChangeSpec) : _root_.Go.OpenSpec := { _root_.Go.OpenSpec.ofChange s with cond := some uptoSmall }

/-- 'armillarytop.TopFlowEnclosesDrift', WHERE WHAT IT READS IS OF BULK AT MOST 1048576: true; the input reads as it did. -/
def topFlowEnclosesDriftUptoRow : OpenClaim := { program := "ytpmgpcklieincaagreatdoor", sum := "1edd2abc0d8f01fb7ba83fc9b793e2a2d4c396040a8fa25a00f8490e44819639", func := "armillary/armillarytop.TopFlowEnclosesDrift", spec := "topFlowEnclosesDrift", inPlace := ["internal/reflectlite.TypeOf"], unfollowed := true, recurses := true, named := ["armillary/tape.ops", "armillary/interval.products", "armillary/interval.quotients"], plainKeys := false, apart := false, laid := [("armillary/interval.products", laid_armillary_interval_products), ("armillary/interval.quotients", laid_armillary_interval_quotients), ("armillary/tape.ops", laid_armillary_tape_ops)], narrowed := true }
def TopFlowEnclosesDriftUptoSaid : Prop := topFlowEnclosesDriftUptoRow.holds Tryz.pinned (OpenSpec.upto topFlowEnclosesDriftSpec)

/-- 'armillarytop.TopFlowTimeShift', WHERE WHAT IT READS IS OF BULK AT MOST 1048576: true; the input reads as it did. -/
def topFlowTimeShiftUptoRow : OpenClaim := { program := "ytpmgpcklieincaagreatdoor", sum := "1edd2abc0d8f01fb7ba83fc9b793e2a2d4c396040a8fa25a00f8490e44819639", func := "armillary/armillarytop.TopFlowTimeShift", spec := "topFlowTimeShift", inPlace := ["internal/reflectlite.TypeOf"], unfollowed := true, recurses := true, named := ["armillary/tape.ops", "armillary/interval.products", "armillary/interval.quotients"], plainKeys := false, apart := false, laid := [("armillary/interval.products", laid_armillary_interval_products), ("armillary/interval.quotients", laid_armillary_interval_quotients), ("armillary/tape.ops", laid_armillary_tape_ops)], narrowed := true }
def TopFlowTimeShiftUptoSaid : Prop := topFlowTimeShiftUptoRow.holds Tryz.pinned (OpenSpec.upto topFlowTimeShiftSpec)

/-- 'armillarytop.TopFlowsIntersect', WHERE WHAT IT READS IS OF BULK AT MOST 1048576: true; the input reads as it did. -/
def topFlowsIntersectUptoRow : OpenClaim := { program := "ytpmgpcklieincaagreatdoor", sum := "1edd2abc0d8f01fb7ba83fc9b793e2a2d4c396040a8fa25a00f8490e44819639", func := "armillary/armillarytop.TopFlowsIntersect", spec := "topFlowsIntersect", inPlace := ["internal/reflectlite.TypeOf"], unfollowed := true, recurses := true, named := ["armillary/tape.ops", "armillary/interval.products", "armillary/interval.quotients"], plainKeys := false, apart := false, laid := [("armillary/interval.products", laid_armillary_interval_products), ("armillary/interval.quotients", laid_armillary_interval_quotients), ("armillary/tape.ops", laid_armillary_tape_ops)], narrowed := true }
def TopFlowsIntersectUptoSaid : Prop := topFlowsIntersectUptoRow.holds Tryz.pinned (OpenSpec.upto topFlowsIntersectSpec)

/-- 'armillarytop.TopFlowFromPoint', WHERE WHAT IT READS IS OF BULK AT MOST 1048576: true; the input reads as it did. -/
def topFlowFromPointUptoRow : OpenClaim := { program := "ytpmgpcklieincaagreatdoor", sum := "1edd2abc0d8f01fb7ba83fc9b793e2a2d4c396040a8fa25a00f8490e44819639", func := "armillary/armillarytop.TopFlowFromPoint", spec := "topFlowFromPoint", inPlace := ["internal/reflectlite.TypeOf"], unfollowed := true, recurses := true, named := ["armillary/tape.ops", "armillary/interval.products", "armillary/interval.quotients"], plainKeys := false, apart := false, laid := [("armillary/interval.products", laid_armillary_interval_products), ("armillary/interval.quotients", laid_armillary_interval_quotients), ("armillary/tape.ops", laid_armillary_tape_ops)], narrowed := true }
def TopFlowFromPointUptoSaid : Prop := topFlowFromPointUptoRow.holds Tryz.pinned (OpenSpec.upto topFlowFromPointSpec)

/-- 'armillarytop.TopClearedPairsStayApart', WHERE WHAT IT READS IS OF BULK AT MOST 1048576: true; the input reads as it did. -/
def topClearedPairsStayApartUptoRow : OpenClaim := { program := "ytpmgpcklieincaagreatdoor", sum := "1edd2abc0d8f01fb7ba83fc9b793e2a2d4c396040a8fa25a00f8490e44819639", func := "armillary/armillarytop.TopClearedPairsStayApart", spec := "topClearedPairsStayApart", inPlace := ["internal/reflectlite.TypeOf"], unfollowed := true, recurses := true, named := ["armillary/tape.ops", "armillary/interval.products", "armillary/interval.quotients"], plainKeys := false, apart := false, laid := [("armillary/interval.products", laid_armillary_interval_products), ("armillary/interval.quotients", laid_armillary_interval_quotients), ("armillary/tape.ops", laid_armillary_tape_ops)], narrowed := true }
def TopClearedPairsStayApartUptoSaid : Prop := topClearedPairsStayApartUptoRow.holds Tryz.pinned (OpenSpec.upto topClearedPairsStayApartSpec)

/-- 'armillarytop.TopConflictsAreReal', WHERE WHAT IT READS IS OF BULK AT MOST 1048576: true; the input reads as it did. -/
def topConflictsAreRealUptoRow : OpenClaim := { program := "ytpmgpcklieincaagreatdoor", sum := "1edd2abc0d8f01fb7ba83fc9b793e2a2d4c396040a8fa25a00f8490e44819639", func := "armillary/armillarytop.TopConflictsAreReal", spec := "topConflictsAreReal", inPlace := ["internal/reflectlite.TypeOf"], unfollowed := true, recurses := true, named := ["armillary/tape.ops", "armillary/interval.products", "armillary/interval.quotients"], plainKeys := false, apart := false, laid := [("armillary/interval.products", laid_armillary_interval_products), ("armillary/interval.quotients", laid_armillary_interval_quotients), ("armillary/tape.ops", laid_armillary_tape_ops)], narrowed := true }
def TopConflictsAreRealUptoSaid : Prop := topConflictsAreRealUptoRow.holds Tryz.pinned (OpenSpec.upto topConflictsAreRealSpec)

end Rows
end Go.Proofs.YtpmgpcklieincaaGreatDoor
