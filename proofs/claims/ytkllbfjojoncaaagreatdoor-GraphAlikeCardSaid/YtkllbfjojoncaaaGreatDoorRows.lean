/-
  NARROWER THAN 'FOR EVERY INPUT', by the rows' own cells (each row's printed sentence says how): GraphAlike: laid · GraphItself: laid · GraphCloses: laid · GraphPairs: laid · GraphPlain: laid.
  DERIVED. THE GIVEN ROWS OF THIS SEAT. 5 by the template 'for every input the law returns true; each argument reads behind the call as it read before'; 0 by the template 'total and deterministic' (their statements: YtkllbfjojoncaaaGreatDoorTotals.lean).
  GIVEN WITH THE SEED: the statements are not yours to turn. If you find one false, say at which input.
  Laid BY PROGRAM, IN A SANDBOX (cutbox-rows.mjs): the forced cells as the released guide's own fill.sh prints them over the translation e26bf36558099738… (all of the seat's roots in one cut). By AI agents, Wed Nov 11 2026. No macro, syntax, notation, axiom, sorry.
-/
import Derived.Test.YtkllbfjojoncaaaGreatDoorChecked
import GoSem.PinnedTables
import GoSem.Claim
import GoSem.ClaimJoined
import GoSem.ClaimMapViews
import Derived.JoinedTies
import Derived.KernelRfl
namespace Go.Proofs.YtkllbfjojoncaaaGreatDoor
/- THE CELL 'sum', in the pinned program and in every row, IS THE sha256 OF THE DUMP (.gsa) THAT YtkllbfjojoncaaaGreatDoorProg.lean LOADS. Nothing in Lean hashes anything: it is a label: what it is worth is what the hold of that sum in a sandbox is worth. -/
noncomputable def Tryz.pinned : Pinned := { name := "ytkllbfjojoncaaagreatdoor", sum := "e26bf365580997387c01b8c2c3a04df5cefc9ddf19e5cde1f51d2e74f1362cf0", checked := Tryz.checked }
namespace Rows
def none {H : Type} : Left H := { results := [], args := [] }

/- WHAT THE LISTED PACKAGE-LEVEL VARIABLES READ AS WHEN THE CALL BEGINS. Each datum BY PROGRAM (the guide's laid-datum.mjs) off the statement by which the dump's own 'gosem.cut.vars' lays the variable. In a bare row this is a premise. The card (YtkllbfjojoncaaaGreatDoorCards.lean) ties it to the program's text. -/
def laid_unicode_utf8_acceptRanges {H : Type} : DataW H := .agg [.agg [.lit (.int .u8 128), .lit (.int .u8 191)], .agg [.lit (.int .u8 160), .lit (.int .u8 191)], .agg [.lit (.int .u8 128), .lit (.int .u8 159)], .agg [.lit (.int .u8 144), .lit (.int .u8 191)], .agg [.lit (.int .u8 128), .lit (.int .u8 143)], .agg [.lit (.int .u8 0), .lit (.int .u8 0)], .agg [.lit (.int .u8 0), .lit (.int .u8 0)], .agg [.lit (.int .u8 0), .lit (.int .u8 0)], .agg [.lit (.int .u8 0), .lit (.int .u8 0)], .agg [.lit (.int .u8 0), .lit (.int .u8 0)], .agg [.lit (.int .u8 0), .lit (.int .u8 0)], .agg [.lit (.int .u8 0), .lit (.int .u8 0)], .agg [.lit (.int .u8 0), .lit (.int .u8 0)], .agg [.lit (.int .u8 0), .lit (.int .u8 0)], .agg [.lit (.int .u8 0), .lit (.int .u8 0)], .agg [.lit (.int .u8 0), .lit (.int .u8 0)]]
def laid_squinch_code_ops {H : Type} : DataW H := .agg [.agg [.lit (.string [105, 110, 116]), .lit (.bool true), .lit (.bool false)], .agg [.lit (.string [116, 114, 117, 101]), .lit (.bool false), .lit (.bool false)], .agg [.lit (.string [102, 97, 108, 115, 101]), .lit (.bool false), .lit (.bool false)], .agg [.lit (.string [119, 111, 114, 100]), .lit (.bool false), .lit (.bool true)], .agg [.lit (.string [110, 117, 108, 108]), .lit (.bool false), .lit (.bool false)], .agg [.lit (.string [108, 111, 97, 100]), .lit (.bool true), .lit (.bool false)], .agg [.lit (.string [115, 116, 111, 114, 101]), .lit (.bool true), .lit (.bool false)], .agg [.lit (.string [112, 111, 112]), .lit (.bool false), .lit (.bool false)], .agg [.lit (.string [100, 117, 112]), .lit (.bool false), .lit (.bool false)], .agg [.lit (.string [115, 119, 97, 112]), .lit (.bool false), .lit (.bool false)], .agg [.lit (.string [97, 100, 100]), .lit (.bool false), .lit (.bool false)], .agg [.lit (.string [115, 117, 98]), .lit (.bool false), .lit (.bool false)], .agg [.lit (.string [109, 117, 108]), .lit (.bool false), .lit (.bool false)], .agg [.lit (.string [100, 105, 118]), .lit (.bool false), .lit (.bool false)], .agg [.lit (.string [114, 101, 109]), .lit (.bool false), .lit (.bool false)], .agg [.lit (.string [110, 101, 103]), .lit (.bool false), .lit (.bool false)], .agg [.lit (.string [108, 101, 115, 115]), .lit (.bool false), .lit (.bool false)], .agg [.lit (.string [115, 97, 109, 101]), .lit (.bool false), .lit (.bool false)], .agg [.lit (.string [110, 111, 116]), .lit (.bool false), .lit (.bool false)], .agg [.lit (.string [98, 111, 116, 104]), .lit (.bool false), .lit (.bool false)], .agg [.lit (.string [106, 111, 105, 110]), .lit (.bool false), .lit (.bool false)], .agg [.lit (.string [115, 105, 122, 101]), .lit (.bool false), .lit (.bool false)], .agg [.lit (.string [106, 117, 109, 112]), .lit (.bool true), .lit (.bool false)], .agg [.lit (.string [98, 114, 97, 110, 99, 104]), .lit (.bool true), .lit (.bool false)], .agg [.lit (.string [110, 101, 119]), .lit (.bool false), .lit (.bool true)], .agg [.lit (.string [103, 101, 116]), .lit (.bool false), .lit (.bool true)], .agg [.lit (.string [112, 117, 116]), .lit (.bool false), .lit (.bool true)], .agg [.lit (.string [99, 97, 108, 108]), .lit (.bool false), .lit (.bool true)], .agg [.lit (.string [97, 114, 114, 97, 121]), .lit (.bool false), .lit (.bool true)], .agg [.lit (.string [97, 116]), .lit (.bool false), .lit (.bool false)], .agg [.lit (.string [115, 101, 116]), .lit (.bool false), .lit (.bool false)], .agg [.lit (.string [105, 115]), .lit (.bool false), .lit (.bool true)], .agg [.lit (.string [99, 97, 115, 116]), .lit (.bool false), .lit (.bool true)], .agg [.lit (.string [114, 101, 116, 117, 114, 110]), .lit (.bool false), .lit (.bool false)], .agg [.lit (.string [116, 104, 114, 111, 119]), .lit (.bool false), .lit (.bool false)], .agg [.lit (.string [111, 117, 116]), .lit (.bool false), .lit (.bool false)], .agg [.lit (.string [101, 113, 117, 97, 108]), .lit (.bool false), .lit (.bool false)], .agg [.lit (.string [97, 110, 100]), .lit (.bool false), .lit (.bool false)], .agg [.lit (.string [111, 114]), .lit (.bool false), .lit (.bool false)], .agg [.lit (.string [120, 111, 114]), .lit (.bool false), .lit (.bool false)], .agg [.lit (.string [115, 104, 108]), .lit (.bool false), .lit (.bool false)], .agg [.lit (.string [115, 104, 114]), .lit (.bool false), .lit (.bool false)]]
def laid_squinch_hier_faults {H : Type} : DataW H := .agg [.lit (.string [78, 117, 108, 108, 70, 97, 117, 108, 116]), .lit (.string [73, 110, 100, 101, 120, 70, 97, 117, 108, 116]), .lit (.string [67, 97, 115, 116, 70, 97, 117, 108, 116]), .lit (.string [90, 101, 114, 111, 70, 97, 117, 108, 116]), .lit (.string [82, 111, 111, 109, 70, 97, 117, 108, 116]), .lit (.string [67, 97, 108, 108, 70, 97, 117, 108, 116])]
/-- One of Go's own tables, pinned by name: the form's constant. -/
def laid_unicode_utf8_first : DataW Unit := Go.Pinned.utf8First

/-- 'squinchlaw11.GraphAlike': WHATEVER THE INPUT: true; the input reads as it did. -/
def graphAlikeSpec : ChangeSpec := { name := "graphAlike", fn := fun _ => fun
  | [d1, d2, d3] => { results := [.lit (.bool true)], args := [d1, d2, d3] }
  | _ => none }
def graphAlikeRow : OpenClaim := { program := "ytkllbfjojoncaaagreatdoor", sum := "e26bf365580997387c01b8c2c3a04df5cefc9ddf19e5cde1f51d2e74f1362cf0", func := "squinch/squinchlaw11.GraphAlike", spec := "graphAlike", inPlace := ["internal/bytealg.IndexByteString", "internal/bytealg.IndexString", "internal/abi.NoEscape", "internal/bytealg.MakeNoZero"], unfollowed := true, recurses := true, named := ["squinch/hier.faults", "squinch/code.ops", "unicode/utf8.first", "unicode/utf8.acceptRanges", "internal/bytealg.MaxLen"], apart := false, laid := [("unicode/utf8.acceptRanges", laid_unicode_utf8_acceptRanges), ("squinch/code.ops", laid_squinch_code_ops), ("squinch/hier.faults", laid_squinch_hier_faults), ("unicode/utf8.first", laid_unicode_utf8_first)] }
def GraphAlikeSaid : Prop := graphAlikeRow.holds Tryz.pinned (OpenSpec.ofChange graphAlikeSpec)

/-- ITS FALSE NEIGHBOUR: 'it returns false'. Refute it at one input. -/
def graphAlikeWrong : ChangeSpec := { name := "graphAlike", fn := fun _ => fun
  | [d1, d2, d3] => { results := [.lit (.bool false)], args := [d1, d2, d3] }
  | _ => none }
def GraphAlikeWrongFalsely : Prop := graphAlikeRow.holds Tryz.pinned (OpenSpec.ofChange graphAlikeWrong)

/-- 'squinchlaw11.GraphItself': WHATEVER THE INPUT: true; the input reads as it did. -/
def graphItselfSpec : ChangeSpec := { name := "graphItself", fn := fun _ => fun
  | [d] => { results := [.lit (.bool true)], args := [d] }
  | _ => none }
def graphItselfRow : OpenClaim := { program := "ytkllbfjojoncaaagreatdoor", sum := "e26bf365580997387c01b8c2c3a04df5cefc9ddf19e5cde1f51d2e74f1362cf0", func := "squinch/squinchlaw11.GraphItself", spec := "graphItself", inPlace := ["internal/bytealg.IndexByteString", "internal/bytealg.IndexString", "internal/abi.NoEscape", "internal/bytealg.MakeNoZero"], unfollowed := true, recurses := true, named := ["squinch/hier.faults", "squinch/code.ops", "unicode/utf8.first", "unicode/utf8.acceptRanges", "internal/bytealg.MaxLen"], apart := false, laid := [("unicode/utf8.acceptRanges", laid_unicode_utf8_acceptRanges), ("squinch/code.ops", laid_squinch_code_ops), ("squinch/hier.faults", laid_squinch_hier_faults), ("unicode/utf8.first", laid_unicode_utf8_first)] }
def GraphItselfSaid : Prop := graphItselfRow.holds Tryz.pinned (OpenSpec.ofChange graphItselfSpec)

/-- ITS FALSE NEIGHBOUR: 'it returns false'. Refute it at one input. -/
def graphItselfWrong : ChangeSpec := { name := "graphItself", fn := fun _ => fun
  | [d] => { results := [.lit (.bool false)], args := [d] }
  | _ => none }
def GraphItselfWrongFalsely : Prop := graphItselfRow.holds Tryz.pinned (OpenSpec.ofChange graphItselfWrong)

/-- 'squinchlaw11.GraphCloses': WHATEVER THE INPUT: true; the input reads as it did. -/
def graphClosesSpec : ChangeSpec := { name := "graphCloses", fn := fun _ => fun
  | [d] => { results := [.lit (.bool true)], args := [d] }
  | _ => none }
def graphClosesRow : OpenClaim := { program := "ytkllbfjojoncaaagreatdoor", sum := "e26bf365580997387c01b8c2c3a04df5cefc9ddf19e5cde1f51d2e74f1362cf0", func := "squinch/squinchlaw11.GraphCloses", spec := "graphCloses", inPlace := ["internal/bytealg.IndexByteString", "internal/bytealg.IndexString", "internal/abi.NoEscape", "internal/bytealg.MakeNoZero"], unfollowed := true, recurses := true, named := ["squinch/hier.faults", "squinch/code.ops", "unicode/utf8.first", "unicode/utf8.acceptRanges", "internal/bytealg.MaxLen"], apart := false, laid := [("unicode/utf8.acceptRanges", laid_unicode_utf8_acceptRanges), ("squinch/code.ops", laid_squinch_code_ops), ("squinch/hier.faults", laid_squinch_hier_faults), ("unicode/utf8.first", laid_unicode_utf8_first)] }
def GraphClosesSaid : Prop := graphClosesRow.holds Tryz.pinned (OpenSpec.ofChange graphClosesSpec)

/-- ITS FALSE NEIGHBOUR: 'it returns false'. Refute it at one input. -/
def graphClosesWrong : ChangeSpec := { name := "graphCloses", fn := fun _ => fun
  | [d] => { results := [.lit (.bool false)], args := [d] }
  | _ => none }
def GraphClosesWrongFalsely : Prop := graphClosesRow.holds Tryz.pinned (OpenSpec.ofChange graphClosesWrong)

/-- 'squinchlaw11.GraphPairs': WHATEVER THE INPUT: true; the input reads as it did. -/
def graphPairsSpec : ChangeSpec := { name := "graphPairs", fn := fun _ => fun
  | [d1, d2] => { results := [.lit (.bool true)], args := [d1, d2] }
  | _ => none }
def graphPairsRow : OpenClaim := { program := "ytkllbfjojoncaaagreatdoor", sum := "e26bf365580997387c01b8c2c3a04df5cefc9ddf19e5cde1f51d2e74f1362cf0", func := "squinch/squinchlaw11.GraphPairs", spec := "graphPairs", inPlace := ["internal/bytealg.IndexByteString", "internal/bytealg.IndexString", "internal/abi.NoEscape", "internal/bytealg.MakeNoZero"], unfollowed := true, recurses := true, named := ["squinch/hier.faults", "squinch/code.ops", "unicode/utf8.first", "unicode/utf8.acceptRanges", "internal/bytealg.MaxLen"], apart := false, laid := [("unicode/utf8.acceptRanges", laid_unicode_utf8_acceptRanges), ("squinch/code.ops", laid_squinch_code_ops), ("squinch/hier.faults", laid_squinch_hier_faults), ("unicode/utf8.first", laid_unicode_utf8_first)] }
def GraphPairsSaid : Prop := graphPairsRow.holds Tryz.pinned (OpenSpec.ofChange graphPairsSpec)

/-- ITS FALSE NEIGHBOUR: 'it returns false'. Refute it at one input. -/
def graphPairsWrong : ChangeSpec := { name := "graphPairs", fn := fun _ => fun
  | [d1, d2] => { results := [.lit (.bool false)], args := [d1, d2] }
  | _ => none }
def GraphPairsWrongFalsely : Prop := graphPairsRow.holds Tryz.pinned (OpenSpec.ofChange graphPairsWrong)

/-- 'squinchlaw11.GraphPlain': WHATEVER THE INPUT: true; the input reads as it did. -/
def graphPlainSpec : ChangeSpec := { name := "graphPlain", fn := fun _ => fun
  | [d1, d2, d3] => { results := [.lit (.bool true)], args := [d1, d2, d3] }
  | _ => none }
def graphPlainRow : OpenClaim := { program := "ytkllbfjojoncaaagreatdoor", sum := "e26bf365580997387c01b8c2c3a04df5cefc9ddf19e5cde1f51d2e74f1362cf0", func := "squinch/squinchlaw11.GraphPlain", spec := "graphPlain", inPlace := ["internal/bytealg.IndexByteString", "internal/bytealg.IndexString", "internal/abi.NoEscape", "internal/bytealg.MakeNoZero"], unfollowed := true, recurses := true, named := ["squinch/hier.faults", "squinch/code.ops", "unicode/utf8.first", "unicode/utf8.acceptRanges", "internal/bytealg.MaxLen"], apart := false, laid := [("unicode/utf8.acceptRanges", laid_unicode_utf8_acceptRanges), ("squinch/code.ops", laid_squinch_code_ops), ("squinch/hier.faults", laid_squinch_hier_faults), ("unicode/utf8.first", laid_unicode_utf8_first)] }
def GraphPlainSaid : Prop := graphPlainRow.holds Tryz.pinned (OpenSpec.ofChange graphPlainSpec)

/-- ITS FALSE NEIGHBOUR: 'it returns false'. Refute it at one input. -/
def graphPlainWrong : ChangeSpec := { name := "graphPlain", fn := fun _ => fun
  | [d1, d2, d3] => { results := [.lit (.bool false)], args := [d1, d2, d3] }
  | _ => none }
def GraphPlainWrongFalsely : Prop := graphPlainRow.holds Tryz.pinned (OpenSpec.ofChange graphPlainWrong)

/- THE SECOND FORM. 'bulk': how many values and letters a reading holds, each counted each time it is reached (what is shared counts as often as it is met; a slice's spare places count too). A statement '..UptoSaid' is the law's where the arguments, and the package variables that the reading takes, are together of bulk at most 1048576: NARROWER than '..Said'. Prove '..Said' where nothing that the law and all that it calls make is longer than what came in: it says more and counts as full. Else prove '..UptoSaid'. A law counts once. -/
mutual
def uptoBulk {H : Type} : DataW H → Nat
  | .lit (.string bytes) => bytes.length + 1
  | .lit _ => 1
  | .nil => 1
  | .ptr d => uptoBulk d + 1
  | .slice elems spare => uptoBulkAll elems + uptoBulkAll spare + 1
  | .agg parts => uptoBulkAll parts + 1
  | .iface _ d => uptoBulk d + 1
  | .map entries => uptoBulkEntries entries + 1
  | .held _ => 1
def uptoBulkAll {H : Type} : List (DataW H) → Nat
  | [] => 0
  | d :: r => uptoBulk d + uptoBulkAll r
def uptoBulkEntries {H : Type} : List (Lit × DataW H) → Nat
  | [] => 0
  | x :: r => uptoBulkEntry x + uptoBulkEntries r
def uptoBulkEntry {H : Type} : Lit × DataW H → Nat
  | (.string bytes, d) => bytes.length + uptoBulk d + 1
  | (_, d) => uptoBulk d + 1
 end
def uptoSmall : (H : Type) → List (DataW H) → Bool := fun _ ds => decide (uptoBulkAll ds ≤ 1048576)
def OpenSpec.upto (s : _root_.Go.ChangeSpec) : _root_.Go.OpenSpec := { _root_.Go.OpenSpec.ofChange s with cond := some uptoSmall }

/-- 'squinchlaw11.GraphAlike', WHERE WHAT IT READS IS OF BULK AT MOST 1048576: true; the input reads as it did. -/
def graphAlikeUptoRow : OpenClaim := { program := "ytkllbfjojoncaaagreatdoor", sum := "e26bf365580997387c01b8c2c3a04df5cefc9ddf19e5cde1f51d2e74f1362cf0", func := "squinch/squinchlaw11.GraphAlike", spec := "graphAlike", inPlace := ["internal/bytealg.IndexByteString", "internal/bytealg.IndexString", "internal/abi.NoEscape", "internal/bytealg.MakeNoZero"], unfollowed := true, recurses := true, named := ["squinch/hier.faults", "squinch/code.ops", "unicode/utf8.first", "unicode/utf8.acceptRanges", "internal/bytealg.MaxLen"], apart := false, laid := [("unicode/utf8.acceptRanges", laid_unicode_utf8_acceptRanges), ("squinch/code.ops", laid_squinch_code_ops), ("squinch/hier.faults", laid_squinch_hier_faults), ("unicode/utf8.first", laid_unicode_utf8_first)], narrowed := true }
def GraphAlikeUptoSaid : Prop := graphAlikeUptoRow.holds Tryz.pinned (OpenSpec.upto graphAlikeSpec)

/-- 'squinchlaw11.GraphItself', WHERE WHAT IT READS IS OF BULK AT MOST 1048576: true; the input reads as it did. -/
def graphItselfUptoRow : OpenClaim := { program := "ytkllbfjojoncaaagreatdoor", sum := "e26bf365580997387c01b8c2c3a04df5cefc9ddf19e5cde1f51d2e74f1362cf0", func := "squinch/squinchlaw11.GraphItself", spec := "graphItself", inPlace := ["internal/bytealg.IndexByteString", "internal/bytealg.IndexString", "internal/abi.NoEscape", "internal/bytealg.MakeNoZero"], unfollowed := true, recurses := true, named := ["squinch/hier.faults", "squinch/code.ops", "unicode/utf8.first", "unicode/utf8.acceptRanges", "internal/bytealg.MaxLen"], apart := false, laid := [("unicode/utf8.acceptRanges", laid_unicode_utf8_acceptRanges), ("squinch/code.ops", laid_squinch_code_ops), ("squinch/hier.faults", laid_squinch_hier_faults), ("unicode/utf8.first", laid_unicode_utf8_first)], narrowed := true }
def GraphItselfUptoSaid : Prop := graphItselfUptoRow.holds Tryz.pinned (OpenSpec.upto graphItselfSpec)

/-- 'squinchlaw11.GraphCloses', WHERE WHAT IT READS IS OF BULK AT MOST 1048576: true; the input reads as it did. -/
def graphClosesUptoRow : OpenClaim := { program := "ytkllbfjojoncaaagreatdoor", sum := "e26bf365580997387c01b8c2c3a04df5cefc9ddf19e5cde1f51d2e74f1362cf0", func := "squinch/squinchlaw11.GraphCloses", spec := "graphCloses", inPlace := ["internal/bytealg.IndexByteString", "internal/bytealg.IndexString", "internal/abi.NoEscape", "internal/bytealg.MakeNoZero"], unfollowed := true, recurses := true, named := ["squinch/hier.faults", "squinch/code.ops", "unicode/utf8.first", "unicode/utf8.acceptRanges", "internal/bytealg.MaxLen"], apart := false, laid := [("unicode/utf8.acceptRanges", laid_unicode_utf8_acceptRanges), ("squinch/code.ops", laid_squinch_code_ops), ("squinch/hier.faults", laid_squinch_hier_faults), ("unicode/utf8.first", laid_unicode_utf8_first)], narrowed := true }
def GraphClosesUptoSaid : Prop := graphClosesUptoRow.holds Tryz.pinned (OpenSpec.upto graphClosesSpec)

/-- 'squinchlaw11.GraphPairs', WHERE WHAT IT READS IS OF BULK AT MOST 1048576: true; the input reads as it did. -/
def graphPairsUptoRow : OpenClaim := { program := "ytkllbfjojoncaaagreatdoor", sum := "e26bf365580997387c01b8c2c3a04df5cefc9ddf19e5cde1f51d2e74f1362cf0", func := "squinch/squinchlaw11.GraphPairs", spec := "graphPairs", inPlace := ["internal/bytealg.IndexByteString", "internal/bytealg.IndexString", "internal/abi.NoEscape", "internal/bytealg.MakeNoZero"], unfollowed := true, recurses := true, named := ["squinch/hier.faults", "squinch/code.ops", "unicode/utf8.first", "unicode/utf8.acceptRanges", "internal/bytealg.MaxLen"], apart := false, laid := [("unicode/utf8.acceptRanges", laid_unicode_utf8_acceptRanges), ("squinch/code.ops", laid_squinch_code_ops), ("squinch/hier.faults", laid_squinch_hier_faults), ("unicode/utf8.first", laid_unicode_utf8_first)], narrowed := true }
def GraphPairsUptoSaid : Prop := graphPairsUptoRow.holds Tryz.pinned (OpenSpec.upto graphPairsSpec)

/-- 'squinchlaw11.GraphPlain', WHERE WHAT IT READS IS OF BULK AT MOST 1048576: true; the input reads as it did. -/
def graphPlainUptoRow : OpenClaim := { program := "ytkllbfjojoncaaagreatdoor", sum := "e26bf365580997387c01b8c2c3a04df5cefc9ddf19e5cde1f51d2e74f1362cf0", func := "squinch/squinchlaw11.GraphPlain", spec := "graphPlain", inPlace := ["internal/bytealg.IndexByteString", "internal/bytealg.IndexString", "internal/abi.NoEscape", "internal/bytealg.MakeNoZero"], unfollowed := true, recurses := true, named := ["squinch/hier.faults", "squinch/code.ops", "unicode/utf8.first", "unicode/utf8.acceptRanges", "internal/bytealg.MaxLen"], apart := false, laid := [("unicode/utf8.acceptRanges", laid_unicode_utf8_acceptRanges), ("squinch/code.ops", laid_squinch_code_ops), ("squinch/hier.faults", laid_squinch_hier_faults), ("unicode/utf8.first", laid_unicode_utf8_first)], narrowed := true }
def GraphPlainUptoSaid : Prop := graphPlainUptoRow.holds Tryz.pinned (OpenSpec.upto graphPlainSpec)

end Rows
end Go.Proofs.YtkllbfjojoncaaaGreatDoor
