/-
  NARROWER THAN 'FOR EVERY INPUT', by the rows' own cells (each row's printed sentence says how): HeapNew: laid · HeapFits: laid · HeapRooms: laid · HeapFresh: laid · HeapPlays: laid · HeapRight: laid · HeapCuts: laid · HeapApart: laid · HeapSets: laid.
  DERIVED. THE GIVEN ROWS OF THIS SEAT. 9 by the template 'for every input the law returns true; each argument reads behind the call as it read before'; 0 by the template 'total and deterministic' (their statements: YtjdiakhipmggjaaGreatDoorTotals.lean).
  GIVEN WITH THE SEED: the statements are not yours to turn. If you find one false, say at which input.
  Laid BY PROGRAM, IN A SANDBOX (cutbox-rows.mjs): the forced cells as the released guide's own fill.sh prints them over the translation 8cc25eca5815ba01… (all of the seat's roots in one cut). By AI agents, Wed Nov 11 2026. No macro, syntax, notation, axiom, sorry.
-/
import Derived.Test.YtjdiakhipmggjaaGreatDoorChecked
import GoSem.PinnedTables
import GoSem.Claim
import GoSem.ClaimJoined
import GoSem.ClaimMapViews
import Derived.JoinedTies
import Derived.KernelRfl
namespace Go.Proofs.YtjdiakhipmggjaaGreatDoor
/- THE CELL 'sum', in the pinned program and in every row, IS THE sha256 OF THE DUMP (.gsa) THAT YtjdiakhipmggjaaGreatDoorProg.lean LOADS. Nothing in Lean hashes anything: it is a label: what it is worth is what the hold of that sum in a sandbox is worth. -/
noncomputable def Tryz.pinned : Pinned := { name := "ytjdiakhipmggjaagreatdoor", sum := "8cc25eca5815ba01b87b549461765fa238a36e74b61f9b2b82435b82921a4293", checked := Tryz.checked }
namespace Rows
def none {H : Type} : Left H := { results := [], args := [] }

/- WHAT THE LISTED PACKAGE-LEVEL VARIABLES READ AS WHEN THE CALL BEGINS. Each datum BY PROGRAM (the guide's laid-datum.mjs) off the statement by which the dump's own 'gosem.cut.vars' lays the variable. In a bare row this is a premise. The card (YtjdiakhipmggjaaGreatDoorCards.lean) ties it to the program's text. -/
def laid_unicode_utf8_acceptRanges {H : Type} : DataW H := .agg [.agg [.lit (.int .u8 128), .lit (.int .u8 191)], .agg [.lit (.int .u8 160), .lit (.int .u8 191)], .agg [.lit (.int .u8 128), .lit (.int .u8 159)], .agg [.lit (.int .u8 144), .lit (.int .u8 191)], .agg [.lit (.int .u8 128), .lit (.int .u8 143)], .agg [.lit (.int .u8 0), .lit (.int .u8 0)], .agg [.lit (.int .u8 0), .lit (.int .u8 0)], .agg [.lit (.int .u8 0), .lit (.int .u8 0)], .agg [.lit (.int .u8 0), .lit (.int .u8 0)], .agg [.lit (.int .u8 0), .lit (.int .u8 0)], .agg [.lit (.int .u8 0), .lit (.int .u8 0)], .agg [.lit (.int .u8 0), .lit (.int .u8 0)], .agg [.lit (.int .u8 0), .lit (.int .u8 0)], .agg [.lit (.int .u8 0), .lit (.int .u8 0)], .agg [.lit (.int .u8 0), .lit (.int .u8 0)], .agg [.lit (.int .u8 0), .lit (.int .u8 0)]]
def laid_squinch_code_ops {H : Type} : DataW H := .agg [.agg [.lit (.string [105, 110, 116]), .lit (.bool true), .lit (.bool false)], .agg [.lit (.string [116, 114, 117, 101]), .lit (.bool false), .lit (.bool false)], .agg [.lit (.string [102, 97, 108, 115, 101]), .lit (.bool false), .lit (.bool false)], .agg [.lit (.string [119, 111, 114, 100]), .lit (.bool false), .lit (.bool true)], .agg [.lit (.string [110, 117, 108, 108]), .lit (.bool false), .lit (.bool false)], .agg [.lit (.string [108, 111, 97, 100]), .lit (.bool true), .lit (.bool false)], .agg [.lit (.string [115, 116, 111, 114, 101]), .lit (.bool true), .lit (.bool false)], .agg [.lit (.string [112, 111, 112]), .lit (.bool false), .lit (.bool false)], .agg [.lit (.string [100, 117, 112]), .lit (.bool false), .lit (.bool false)], .agg [.lit (.string [115, 119, 97, 112]), .lit (.bool false), .lit (.bool false)], .agg [.lit (.string [97, 100, 100]), .lit (.bool false), .lit (.bool false)], .agg [.lit (.string [115, 117, 98]), .lit (.bool false), .lit (.bool false)], .agg [.lit (.string [109, 117, 108]), .lit (.bool false), .lit (.bool false)], .agg [.lit (.string [100, 105, 118]), .lit (.bool false), .lit (.bool false)], .agg [.lit (.string [114, 101, 109]), .lit (.bool false), .lit (.bool false)], .agg [.lit (.string [110, 101, 103]), .lit (.bool false), .lit (.bool false)], .agg [.lit (.string [108, 101, 115, 115]), .lit (.bool false), .lit (.bool false)], .agg [.lit (.string [115, 97, 109, 101]), .lit (.bool false), .lit (.bool false)], .agg [.lit (.string [110, 111, 116]), .lit (.bool false), .lit (.bool false)], .agg [.lit (.string [98, 111, 116, 104]), .lit (.bool false), .lit (.bool false)], .agg [.lit (.string [106, 111, 105, 110]), .lit (.bool false), .lit (.bool false)], .agg [.lit (.string [115, 105, 122, 101]), .lit (.bool false), .lit (.bool false)], .agg [.lit (.string [106, 117, 109, 112]), .lit (.bool true), .lit (.bool false)], .agg [.lit (.string [98, 114, 97, 110, 99, 104]), .lit (.bool true), .lit (.bool false)], .agg [.lit (.string [110, 101, 119]), .lit (.bool false), .lit (.bool true)], .agg [.lit (.string [103, 101, 116]), .lit (.bool false), .lit (.bool true)], .agg [.lit (.string [112, 117, 116]), .lit (.bool false), .lit (.bool true)], .agg [.lit (.string [99, 97, 108, 108]), .lit (.bool false), .lit (.bool true)], .agg [.lit (.string [97, 114, 114, 97, 121]), .lit (.bool false), .lit (.bool true)], .agg [.lit (.string [97, 116]), .lit (.bool false), .lit (.bool false)], .agg [.lit (.string [115, 101, 116]), .lit (.bool false), .lit (.bool false)], .agg [.lit (.string [105, 115]), .lit (.bool false), .lit (.bool true)], .agg [.lit (.string [99, 97, 115, 116]), .lit (.bool false), .lit (.bool true)], .agg [.lit (.string [114, 101, 116, 117, 114, 110]), .lit (.bool false), .lit (.bool false)], .agg [.lit (.string [116, 104, 114, 111, 119]), .lit (.bool false), .lit (.bool false)], .agg [.lit (.string [111, 117, 116]), .lit (.bool false), .lit (.bool false)], .agg [.lit (.string [101, 113, 117, 97, 108]), .lit (.bool false), .lit (.bool false)], .agg [.lit (.string [97, 110, 100]), .lit (.bool false), .lit (.bool false)], .agg [.lit (.string [111, 114]), .lit (.bool false), .lit (.bool false)], .agg [.lit (.string [120, 111, 114]), .lit (.bool false), .lit (.bool false)], .agg [.lit (.string [115, 104, 108]), .lit (.bool false), .lit (.bool false)], .agg [.lit (.string [115, 104, 114]), .lit (.bool false), .lit (.bool false)]]
def laid_squinch_hier_faults {H : Type} : DataW H := .agg [.lit (.string [78, 117, 108, 108, 70, 97, 117, 108, 116]), .lit (.string [73, 110, 100, 101, 120, 70, 97, 117, 108, 116]), .lit (.string [67, 97, 115, 116, 70, 97, 117, 108, 116]), .lit (.string [90, 101, 114, 111, 70, 97, 117, 108, 116]), .lit (.string [82, 111, 111, 109, 70, 97, 117, 108, 116]), .lit (.string [67, 97, 108, 108, 70, 97, 117, 108, 116])]
/-- One of Go's own tables, pinned by name: the form's constant. -/
def laid_unicode_utf8_first : DataW Unit := Go.Pinned.utf8First

/-- 'squinchlaw09.HeapNew': WHATEVER THE INPUT: true; the input reads as it did. -/
def heapNewSpec : ChangeSpec := { name := "heapNew", fn := fun _ => fun
  | [d1, d2] => { results := [.lit (.bool true)], args := [d1, d2] }
  | _ => none }
def heapNewRow : OpenClaim := { program := "ytjdiakhipmggjaagreatdoor", sum := "8cc25eca5815ba01b87b549461765fa238a36e74b61f9b2b82435b82921a4293", func := "squinch/squinchlaw09.HeapNew", spec := "heapNew", inPlace := ["internal/bytealg.IndexByteString", "internal/bytealg.IndexString", "internal/abi.NoEscape", "internal/bytealg.MakeNoZero"], unfollowed := true, recurses := true, named := ["squinch/hier.faults", "squinch/code.ops", "unicode/utf8.first", "unicode/utf8.acceptRanges", "internal/bytealg.MaxLen"], apart := false, laid := [("unicode/utf8.acceptRanges", laid_unicode_utf8_acceptRanges), ("squinch/code.ops", laid_squinch_code_ops), ("squinch/hier.faults", laid_squinch_hier_faults), ("unicode/utf8.first", laid_unicode_utf8_first)] }
def HeapNewSaid : Prop := heapNewRow.holds Tryz.pinned (OpenSpec.ofChange heapNewSpec)

/-- ITS FALSE NEIGHBOUR: 'it returns false'. Refute it at one input. -/
def heapNewWrong : ChangeSpec := { name := "heapNew", fn := fun _ => fun
  | [d1, d2] => { results := [.lit (.bool false)], args := [d1, d2] }
  | _ => none }
def HeapNewWrongFalsely : Prop := heapNewRow.holds Tryz.pinned (OpenSpec.ofChange heapNewWrong)

/-- 'squinchlaw09.HeapFits': WHATEVER THE INPUT: true; the input reads as it did. -/
def heapFitsSpec : ChangeSpec := { name := "heapFits", fn := fun _ => fun
  | [d1, d2, d3] => { results := [.lit (.bool true)], args := [d1, d2, d3] }
  | _ => none }
def heapFitsRow : OpenClaim := { program := "ytjdiakhipmggjaagreatdoor", sum := "8cc25eca5815ba01b87b549461765fa238a36e74b61f9b2b82435b82921a4293", func := "squinch/squinchlaw09.HeapFits", spec := "heapFits", inPlace := ["internal/bytealg.IndexByteString", "internal/bytealg.IndexString", "internal/abi.NoEscape", "internal/bytealg.MakeNoZero"], unfollowed := true, recurses := true, named := ["squinch/hier.faults", "squinch/code.ops", "unicode/utf8.first", "unicode/utf8.acceptRanges", "internal/bytealg.MaxLen"], apart := false, laid := [("unicode/utf8.acceptRanges", laid_unicode_utf8_acceptRanges), ("squinch/code.ops", laid_squinch_code_ops), ("squinch/hier.faults", laid_squinch_hier_faults), ("unicode/utf8.first", laid_unicode_utf8_first)] }
def HeapFitsSaid : Prop := heapFitsRow.holds Tryz.pinned (OpenSpec.ofChange heapFitsSpec)

/-- ITS FALSE NEIGHBOUR: 'it returns false'. Refute it at one input. -/
def heapFitsWrong : ChangeSpec := { name := "heapFits", fn := fun _ => fun
  | [d1, d2, d3] => { results := [.lit (.bool false)], args := [d1, d2, d3] }
  | _ => none }
def HeapFitsWrongFalsely : Prop := heapFitsRow.holds Tryz.pinned (OpenSpec.ofChange heapFitsWrong)

/-- 'squinchlaw09.HeapRooms': WHATEVER THE INPUT: true; the input reads as it did. -/
def heapRoomsSpec : ChangeSpec := { name := "heapRooms", fn := fun _ => fun
  | [d1, d2] => { results := [.lit (.bool true)], args := [d1, d2] }
  | _ => none }
def heapRoomsRow : OpenClaim := { program := "ytjdiakhipmggjaagreatdoor", sum := "8cc25eca5815ba01b87b549461765fa238a36e74b61f9b2b82435b82921a4293", func := "squinch/squinchlaw09.HeapRooms", spec := "heapRooms", inPlace := ["internal/bytealg.IndexByteString", "internal/bytealg.IndexString", "internal/abi.NoEscape", "internal/bytealg.MakeNoZero"], unfollowed := true, recurses := true, named := ["squinch/hier.faults", "squinch/code.ops", "unicode/utf8.first", "unicode/utf8.acceptRanges", "internal/bytealg.MaxLen"], apart := false, laid := [("unicode/utf8.acceptRanges", laid_unicode_utf8_acceptRanges), ("squinch/code.ops", laid_squinch_code_ops), ("squinch/hier.faults", laid_squinch_hier_faults), ("unicode/utf8.first", laid_unicode_utf8_first)] }
def HeapRoomsSaid : Prop := heapRoomsRow.holds Tryz.pinned (OpenSpec.ofChange heapRoomsSpec)

/-- ITS FALSE NEIGHBOUR: 'it returns false'. Refute it at one input. -/
def heapRoomsWrong : ChangeSpec := { name := "heapRooms", fn := fun _ => fun
  | [d1, d2] => { results := [.lit (.bool false)], args := [d1, d2] }
  | _ => none }
def HeapRoomsWrongFalsely : Prop := heapRoomsRow.holds Tryz.pinned (OpenSpec.ofChange heapRoomsWrong)

/-- 'squinchlaw09.HeapFresh': WHATEVER THE INPUT: true; the input reads as it did. -/
def heapFreshSpec : ChangeSpec := { name := "heapFresh", fn := fun _ => fun
  | [d1, d2, d3, d4] => { results := [.lit (.bool true)], args := [d1, d2, d3, d4] }
  | _ => none }
def heapFreshRow : OpenClaim := { program := "ytjdiakhipmggjaagreatdoor", sum := "8cc25eca5815ba01b87b549461765fa238a36e74b61f9b2b82435b82921a4293", func := "squinch/squinchlaw09.HeapFresh", spec := "heapFresh", inPlace := ["internal/bytealg.IndexByteString", "internal/bytealg.IndexString", "internal/abi.NoEscape", "internal/bytealg.MakeNoZero"], unfollowed := true, recurses := true, named := ["squinch/hier.faults", "squinch/code.ops", "unicode/utf8.first", "unicode/utf8.acceptRanges", "internal/bytealg.MaxLen"], apart := false, laid := [("unicode/utf8.acceptRanges", laid_unicode_utf8_acceptRanges), ("squinch/code.ops", laid_squinch_code_ops), ("squinch/hier.faults", laid_squinch_hier_faults), ("unicode/utf8.first", laid_unicode_utf8_first)] }
def HeapFreshSaid : Prop := heapFreshRow.holds Tryz.pinned (OpenSpec.ofChange heapFreshSpec)

/-- ITS FALSE NEIGHBOUR: 'it returns false'. Refute it at one input. -/
def heapFreshWrong : ChangeSpec := { name := "heapFresh", fn := fun _ => fun
  | [d1, d2, d3, d4] => { results := [.lit (.bool false)], args := [d1, d2, d3, d4] }
  | _ => none }
def HeapFreshWrongFalsely : Prop := heapFreshRow.holds Tryz.pinned (OpenSpec.ofChange heapFreshWrong)

/-- 'squinchlaw09.HeapPlays': WHATEVER THE INPUT: true; the input reads as it did. -/
def heapPlaysSpec : ChangeSpec := { name := "heapPlays", fn := fun _ => fun
  | [d1, d2] => { results := [.lit (.bool true)], args := [d1, d2] }
  | _ => none }
def heapPlaysRow : OpenClaim := { program := "ytjdiakhipmggjaagreatdoor", sum := "8cc25eca5815ba01b87b549461765fa238a36e74b61f9b2b82435b82921a4293", func := "squinch/squinchlaw09.HeapPlays", spec := "heapPlays", inPlace := ["internal/bytealg.IndexByteString", "internal/bytealg.IndexString", "internal/abi.NoEscape", "internal/bytealg.MakeNoZero"], unfollowed := true, recurses := true, named := ["squinch/hier.faults", "squinch/code.ops", "unicode/utf8.first", "unicode/utf8.acceptRanges", "internal/bytealg.MaxLen"], apart := false, laid := [("unicode/utf8.acceptRanges", laid_unicode_utf8_acceptRanges), ("squinch/code.ops", laid_squinch_code_ops), ("squinch/hier.faults", laid_squinch_hier_faults), ("unicode/utf8.first", laid_unicode_utf8_first)] }
def HeapPlaysSaid : Prop := heapPlaysRow.holds Tryz.pinned (OpenSpec.ofChange heapPlaysSpec)

/-- ITS FALSE NEIGHBOUR: 'it returns false'. Refute it at one input. -/
def heapPlaysWrong : ChangeSpec := { name := "heapPlays", fn := fun _ => fun
  | [d1, d2] => { results := [.lit (.bool false)], args := [d1, d2] }
  | _ => none }
def HeapPlaysWrongFalsely : Prop := heapPlaysRow.holds Tryz.pinned (OpenSpec.ofChange heapPlaysWrong)

/-- 'squinchlaw09.HeapRight': WHATEVER THE INPUT: true; the input reads as it did. -/
def heapRightSpec : ChangeSpec := { name := "heapRight", fn := fun _ => fun
  | [d1, d2] => { results := [.lit (.bool true)], args := [d1, d2] }
  | _ => none }
def heapRightRow : OpenClaim := { program := "ytjdiakhipmggjaagreatdoor", sum := "8cc25eca5815ba01b87b549461765fa238a36e74b61f9b2b82435b82921a4293", func := "squinch/squinchlaw09.HeapRight", spec := "heapRight", inPlace := ["internal/bytealg.IndexByteString", "internal/bytealg.IndexString", "internal/abi.NoEscape", "internal/bytealg.MakeNoZero"], unfollowed := true, recurses := true, named := ["squinch/hier.faults", "squinch/code.ops", "unicode/utf8.first", "unicode/utf8.acceptRanges", "internal/bytealg.MaxLen"], apart := false, laid := [("unicode/utf8.acceptRanges", laid_unicode_utf8_acceptRanges), ("squinch/code.ops", laid_squinch_code_ops), ("squinch/hier.faults", laid_squinch_hier_faults), ("unicode/utf8.first", laid_unicode_utf8_first)] }
def HeapRightSaid : Prop := heapRightRow.holds Tryz.pinned (OpenSpec.ofChange heapRightSpec)

/-- ITS FALSE NEIGHBOUR: 'it returns false'. Refute it at one input. -/
def heapRightWrong : ChangeSpec := { name := "heapRight", fn := fun _ => fun
  | [d1, d2] => { results := [.lit (.bool false)], args := [d1, d2] }
  | _ => none }
def HeapRightWrongFalsely : Prop := heapRightRow.holds Tryz.pinned (OpenSpec.ofChange heapRightWrong)

/-- 'squinchlaw09.HeapCuts': WHATEVER THE INPUT: true; the input reads as it did. -/
def heapCutsSpec : ChangeSpec := { name := "heapCuts", fn := fun _ => fun
  | [d1, d2, d3] => { results := [.lit (.bool true)], args := [d1, d2, d3] }
  | _ => none }
def heapCutsRow : OpenClaim := { program := "ytjdiakhipmggjaagreatdoor", sum := "8cc25eca5815ba01b87b549461765fa238a36e74b61f9b2b82435b82921a4293", func := "squinch/squinchlaw09.HeapCuts", spec := "heapCuts", inPlace := ["internal/bytealg.IndexByteString", "internal/bytealg.IndexString", "internal/abi.NoEscape", "internal/bytealg.MakeNoZero"], unfollowed := true, recurses := true, named := ["squinch/hier.faults", "squinch/code.ops", "unicode/utf8.first", "unicode/utf8.acceptRanges", "internal/bytealg.MaxLen"], apart := false, laid := [("unicode/utf8.acceptRanges", laid_unicode_utf8_acceptRanges), ("squinch/code.ops", laid_squinch_code_ops), ("squinch/hier.faults", laid_squinch_hier_faults), ("unicode/utf8.first", laid_unicode_utf8_first)] }
def HeapCutsSaid : Prop := heapCutsRow.holds Tryz.pinned (OpenSpec.ofChange heapCutsSpec)

/-- ITS FALSE NEIGHBOUR: 'it returns false'. Refute it at one input. -/
def heapCutsWrong : ChangeSpec := { name := "heapCuts", fn := fun _ => fun
  | [d1, d2, d3] => { results := [.lit (.bool false)], args := [d1, d2, d3] }
  | _ => none }
def HeapCutsWrongFalsely : Prop := heapCutsRow.holds Tryz.pinned (OpenSpec.ofChange heapCutsWrong)

/-- 'squinchlaw09.HeapApart': WHATEVER THE INPUT: true; the input reads as it did. -/
def heapApartSpec : ChangeSpec := { name := "heapApart", fn := fun _ => fun
  | [d1, d2] => { results := [.lit (.bool true)], args := [d1, d2] }
  | _ => none }
def heapApartRow : OpenClaim := { program := "ytjdiakhipmggjaagreatdoor", sum := "8cc25eca5815ba01b87b549461765fa238a36e74b61f9b2b82435b82921a4293", func := "squinch/squinchlaw09.HeapApart", spec := "heapApart", inPlace := ["internal/bytealg.IndexByteString", "internal/bytealg.IndexString", "internal/abi.NoEscape", "internal/bytealg.MakeNoZero"], unfollowed := true, recurses := true, named := ["squinch/hier.faults", "squinch/code.ops", "unicode/utf8.first", "unicode/utf8.acceptRanges", "internal/bytealg.MaxLen"], apart := false, laid := [("unicode/utf8.acceptRanges", laid_unicode_utf8_acceptRanges), ("squinch/code.ops", laid_squinch_code_ops), ("squinch/hier.faults", laid_squinch_hier_faults), ("unicode/utf8.first", laid_unicode_utf8_first)] }
def HeapApartSaid : Prop := heapApartRow.holds Tryz.pinned (OpenSpec.ofChange heapApartSpec)

/-- ITS FALSE NEIGHBOUR: 'it returns false'. Refute it at one input. -/
def heapApartWrong : ChangeSpec := { name := "heapApart", fn := fun _ => fun
  | [d1, d2] => { results := [.lit (.bool false)], args := [d1, d2] }
  | _ => none }
def HeapApartWrongFalsely : Prop := heapApartRow.holds Tryz.pinned (OpenSpec.ofChange heapApartWrong)

/-- 'squinchlaw09.HeapSets': WHATEVER THE INPUT: true; the input reads as it did. -/
def heapSetsSpec : ChangeSpec := { name := "heapSets", fn := fun _ => fun
  | [d1, d2, d3] => { results := [.lit (.bool true)], args := [d1, d2, d3] }
  | _ => none }
def heapSetsRow : OpenClaim := { program := "ytjdiakhipmggjaagreatdoor", sum := "8cc25eca5815ba01b87b549461765fa238a36e74b61f9b2b82435b82921a4293", func := "squinch/squinchlaw09.HeapSets", spec := "heapSets", inPlace := ["internal/bytealg.IndexByteString", "internal/bytealg.IndexString", "internal/abi.NoEscape", "internal/bytealg.MakeNoZero"], unfollowed := true, recurses := true, named := ["squinch/hier.faults", "squinch/code.ops", "unicode/utf8.first", "unicode/utf8.acceptRanges", "internal/bytealg.MaxLen"], apart := false, laid := [("unicode/utf8.acceptRanges", laid_unicode_utf8_acceptRanges), ("squinch/code.ops", laid_squinch_code_ops), ("squinch/hier.faults", laid_squinch_hier_faults), ("unicode/utf8.first", laid_unicode_utf8_first)] }
def HeapSetsSaid : Prop := heapSetsRow.holds Tryz.pinned (OpenSpec.ofChange heapSetsSpec)

/-- ITS FALSE NEIGHBOUR: 'it returns false'. Refute it at one input. -/
def heapSetsWrong : ChangeSpec := { name := "heapSets", fn := fun _ => fun
  | [d1, d2, d3] => { results := [.lit (.bool false)], args := [d1, d2, d3] }
  | _ => none }
def HeapSetsWrongFalsely : Prop := heapSetsRow.holds Tryz.pinned (OpenSpec.ofChange heapSetsWrong)

/- THE SECOND FORM. 'bulk': how many values and letters a reading holds, each counted each time it is reached (what is shared counts as often as it is met; a slice's spare places count too). A statement '..UptoSaid' is the law's where the arguments, and the package variables that the reading takes, are together of bulk at most 1048576: NARROWER than '..Said'. Prove '..Said' where nothing that the law and all that it calls make is longer than what came in: it says more and counts as full. Else prove '..UptoSaid'. A law counts once. -/
mutual
def uptoBulk {H : Type} : DataW H → Nat
  | .lit (.string bytes) => bytes.length + 1
  | .lit _ => 1
  | .nil => 1
  | .ptr d => uptoBulk d + 1
  | .slice elems spare => uptoBulkAll elems + uptoBulkAll spare + 1
  | .agg parts => uptoBulkAll parts + 1
  | .iface _ d => uptoBulk d + 1
  | .map entries => uptoBulkEntries entries + 1
  | .held _ => 1
def uptoBulkAll {H : Type} : List (DataW H) → Nat
  | [] => 0
  | d :: r => uptoBulk d + uptoBulkAll r
def uptoBulkEntries {H : Type} : List (Lit × DataW H) → Nat
  | [] => 0
  | x :: r => uptoBulkEntry x + uptoBulkEntries r
def uptoBulkEntry {H : Type} : Lit × DataW H → Nat
  | (.string bytes, d) => bytes.length + uptoBulk d + 1
  | (_, d) => uptoBulk d + 1
 end
def uptoSmall : (H : Type) → List (DataW H) → Bool := fun _ ds => decide (uptoBulkAll ds ≤ 1048576)
def OpenSpec.upto (s : _root_.Go.ChangeSpec) : _root_.Go.OpenSpec := { _root_.Go.OpenSpec.ofChange s with cond := some uptoSmall }

/-- 'squinchlaw09.HeapNew', WHERE WHAT IT READS IS OF BULK AT MOST 1048576: true; the input reads as it did. -/
def heapNewUptoRow : OpenClaim := { program := "ytjdiakhipmggjaagreatdoor", sum := "8cc25eca5815ba01b87b549461765fa238a36e74b61f9b2b82435b82921a4293", func := "squinch/squinchlaw09.HeapNew", spec := "heapNew", inPlace := ["internal/bytealg.IndexByteString", "internal/bytealg.IndexString", "internal/abi.NoEscape", "internal/bytealg.MakeNoZero"], unfollowed := true, recurses := true, named := ["squinch/hier.faults", "squinch/code.ops", "unicode/utf8.first", "unicode/utf8.acceptRanges", "internal/bytealg.MaxLen"], apart := false, laid := [("unicode/utf8.acceptRanges", laid_unicode_utf8_acceptRanges), ("squinch/code.ops", laid_squinch_code_ops), ("squinch/hier.faults", laid_squinch_hier_faults), ("unicode/utf8.first", laid_unicode_utf8_first)], narrowed := true }
def HeapNewUptoSaid : Prop := heapNewUptoRow.holds Tryz.pinned (OpenSpec.upto heapNewSpec)

/-- 'squinchlaw09.HeapFits', WHERE WHAT IT READS IS OF BULK AT MOST 1048576: true; the input reads as it did. -/
def heapFitsUptoRow : OpenClaim := { program := "ytjdiakhipmggjaagreatdoor", sum := "8cc25eca5815ba01b87b549461765fa238a36e74b61f9b2b82435b82921a4293", func := "squinch/squinchlaw09.HeapFits", spec := "heapFits", inPlace := ["internal/bytealg.IndexByteString", "internal/bytealg.IndexString", "internal/abi.NoEscape", "internal/bytealg.MakeNoZero"], unfollowed := true, recurses := true, named := ["squinch/hier.faults", "squinch/code.ops", "unicode/utf8.first", "unicode/utf8.acceptRanges", "internal/bytealg.MaxLen"], apart := false, laid := [("unicode/utf8.acceptRanges", laid_unicode_utf8_acceptRanges), ("squinch/code.ops", laid_squinch_code_ops), ("squinch/hier.faults", laid_squinch_hier_faults), ("unicode/utf8.first", laid_unicode_utf8_first)], narrowed := true }
def HeapFitsUptoSaid : Prop := heapFitsUptoRow.holds Tryz.pinned (OpenSpec.upto heapFitsSpec)

/-- 'squinchlaw09.HeapRooms', WHERE WHAT IT READS IS OF BULK AT MOST 1048576: true; the input reads as it did. -/
def heapRoomsUptoRow : OpenClaim := { program := "ytjdiakhipmggjaagreatdoor", sum := "8cc25eca5815ba01b87b549461765fa238a36e74b61f9b2b82435b82921a4293", func := "squinch/squinchlaw09.HeapRooms", spec := "heapRooms", inPlace := ["internal/bytealg.IndexByteString", "internal/bytealg.IndexString", "internal/abi.NoEscape", "internal/bytealg.MakeNoZero"], unfollowed := true, recurses := true, named := ["squinch/hier.faults", "squinch/code.ops", "unicode/utf8.first", "unicode/utf8.acceptRanges", "internal/bytealg.MaxLen"], apart := false, laid := [("unicode/utf8.acceptRanges", laid_unicode_utf8_acceptRanges), ("squinch/code.ops", laid_squinch_code_ops), ("squinch/hier.faults", laid_squinch_hier_faults), ("unicode/utf8.first", laid_unicode_utf8_first)], narrowed := true }
def HeapRoomsUptoSaid : Prop := heapRoomsUptoRow.holds Tryz.pinned (OpenSpec.upto heapRoomsSpec)

/-- 'squinchlaw09.HeapFresh', WHERE WHAT IT READS IS OF BULK AT MOST 1048576: true; the input reads as it did. -/
def heapFreshUptoRow : OpenClaim := { program := "ytjdiakhipmggjaagreatdoor", sum := "8cc25eca5815ba01b87b549461765fa238a36e74b61f9b2b82435b82921a4293", func := "squinch/squinchlaw09.HeapFresh", spec := "heapFresh", inPlace := ["internal/bytealg.IndexByteString", "internal/bytealg.IndexString", "internal/abi.NoEscape", "internal/bytealg.MakeNoZero"], unfollowed := true, recurses := true, named := ["squinch/hier.faults", "squinch/code.ops", "unicode/utf8.first", "unicode/utf8.acceptRanges", "internal/bytealg.MaxLen"], apart := false, laid := [("unicode/utf8.acceptRanges", laid_unicode_utf8_acceptRanges), ("squinch/code.ops", laid_squinch_code_ops), ("squinch/hier.faults", laid_squinch_hier_faults), ("unicode/utf8.first", laid_unicode_utf8_first)], narrowed := true }
def HeapFreshUptoSaid : Prop := heapFreshUptoRow.holds Tryz.pinned (OpenSpec.upto heapFreshSpec)

/-- 'squinchlaw09.HeapPlays', WHERE WHAT IT READS IS OF BULK AT MOST 1048576: true; the input reads as it did. -/
def heapPlaysUptoRow : OpenClaim := { program := "ytjdiakhipmggjaagreatdoor", sum := "8cc25eca5815ba01b87b549461765fa238a36e74b61f9b2b82435b82921a4293", func := "squinch/squinchlaw09.HeapPlays", spec := "heapPlays", inPlace := ["internal/bytealg.IndexByteString", "internal/bytealg.IndexString", "internal/abi.NoEscape", "internal/bytealg.MakeNoZero"], unfollowed := true, recurses := true, named := ["squinch/hier.faults", "squinch/code.ops", "unicode/utf8.first", "unicode/utf8.acceptRanges", "internal/bytealg.MaxLen"], apart := false, laid := [("unicode/utf8.acceptRanges", laid_unicode_utf8_acceptRanges), ("squinch/code.ops", laid_squinch_code_ops), ("squinch/hier.faults", laid_squinch_hier_faults), ("unicode/utf8.first", laid_unicode_utf8_first)], narrowed := true }
def HeapPlaysUptoSaid : Prop := heapPlaysUptoRow.holds Tryz.pinned (OpenSpec.upto heapPlaysSpec)

/-- 'squinchlaw09.HeapRight', WHERE WHAT IT READS IS OF BULK AT MOST 1048576: true; the input reads as it did. -/
def heapRightUptoRow : OpenClaim := { program := "ytjdiakhipmggjaagreatdoor", sum := "8cc25eca5815ba01b87b549461765fa238a36e74b61f9b2b82435b82921a4293", func := "squinch/squinchlaw09.HeapRight", spec := "heapRight", inPlace := ["internal/bytealg.IndexByteString", "internal/bytealg.IndexString", "internal/abi.NoEscape", "internal/bytealg.MakeNoZero"], unfollowed := true, recurses := true, named := ["squinch/hier.faults", "squinch/code.ops", "unicode/utf8.first", "unicode/utf8.acceptRanges", "internal/bytealg.MaxLen"], apart := false, laid := [("unicode/utf8.acceptRanges", laid_unicode_utf8_acceptRanges), ("squinch/code.ops", laid_squinch_code_ops), ("squinch/hier.faults", laid_squinch_hier_faults), ("unicode/utf8.first", laid_unicode_utf8_first)], narrowed := true }
def HeapRightUptoSaid : Prop := heapRightUptoRow.holds Tryz.pinned (OpenSpec.upto heapRightSpec)

/-- 'squinchlaw09.HeapCuts', WHERE WHAT IT READS IS OF BULK AT MOST 1048576: true; the input reads as it did. -/
def heapCutsUptoRow : OpenClaim := { program := "ytjdiakhipmggjaagreatdoor", sum := "8cc25eca5815ba01b87b549461765fa238a36e74b61f9b2b82435b82921a4293", func := "squinch/squinchlaw09.HeapCuts", spec := "heapCuts", inPlace := ["internal/bytealg.IndexByteString", "internal/bytealg.IndexString", "internal/abi.NoEscape", "internal/bytealg.MakeNoZero"], unfollowed := true, recurses := true, named := ["squinch/hier.faults", "squinch/code.ops", "unicode/utf8.first", "unicode/utf8.acceptRanges", "internal/bytealg.MaxLen"], apart := false, laid := [("unicode/utf8.acceptRanges", laid_unicode_utf8_acceptRanges), ("squinch/code.ops", laid_squinch_code_ops), ("squinch/hier.faults", laid_squinch_hier_faults), ("unicode/utf8.first", laid_unicode_utf8_first)], narrowed := true }
def HeapCutsUptoSaid : Prop := heapCutsUptoRow.holds Tryz.pinned (OpenSpec.upto heapCutsSpec)

/-- 'squinchlaw09.HeapApart', WHERE WHAT IT READS IS OF BULK AT MOST 1048576: true; the input reads as it did. -/
def heapApartUptoRow : OpenClaim := { program := "ytjdiakhipmggjaagreatdoor", sum := "8cc25eca5815ba01b87b549461765fa238a36e74b61f9b2b82435b82921a4293", func := "squinch/squinchlaw09.HeapApart", spec := "heapApart", inPlace := ["internal/bytealg.IndexByteString", "internal/bytealg.IndexString", "internal/abi.NoEscape", "internal/bytealg.MakeNoZero"], unfollowed := true, recurses := true, named := ["squinch/hier.faults", "squinch/code.ops", "unicode/utf8.first", "unicode/utf8.acceptRanges", "internal/bytealg.MaxLen"], apart := false, laid := [("unicode/utf8.acceptRanges", laid_unicode_utf8_acceptRanges), ("squinch/code.ops", laid_squinch_code_ops), ("squinch/hier.faults", laid_squinch_hier_faults), ("unicode/utf8.first", laid_unicode_utf8_first)], narrowed := true }
def HeapApartUptoSaid : Prop := heapApartUptoRow.holds Tryz.pinned (OpenSpec.upto heapApartSpec)

/-- 'squinchlaw09.HeapSets', WHERE WHAT IT READS IS OF BULK AT MOST 1048576: true; the input reads as it did. -/
def heapSetsUptoRow : OpenClaim := { program := "ytjdiakhipmggjaagreatdoor", sum := "8cc25eca5815ba01b87b549461765fa238a36e74b61f9b2b82435b82921a4293", func := "squinch/squinchlaw09.HeapSets", spec := "heapSets", inPlace := ["internal/bytealg.IndexByteString", "internal/bytealg.IndexString", "internal/abi.NoEscape", "internal/bytealg.MakeNoZero"], unfollowed := true, recurses := true, named := ["squinch/hier.faults", "squinch/code.ops", "unicode/utf8.first", "unicode/utf8.acceptRanges", "internal/bytealg.MaxLen"], apart := false, laid := [("unicode/utf8.acceptRanges", laid_unicode_utf8_acceptRanges), ("squinch/code.ops", laid_squinch_code_ops), ("squinch/hier.faults", laid_squinch_hier_faults), ("unicode/utf8.first", laid_unicode_utf8_first)], narrowed := true }
def HeapSetsUptoSaid : Prop := heapSetsUptoRow.holds Tryz.pinned (OpenSpec.upto heapSetsSpec)

end Rows
end Go.Proofs.YtjdiakhipmggjaaGreatDoor
