/-
  NARROWER THAN 'FOR EVERY INPUT', by the rows' own cells (each row's printed sentence says how): SendPlain: laid · SendBytes: laid · SendOne: laid · SendLimits: laid · SendKeeps: laid.
  DERIVED. THE GIVEN ROWS OF THIS SEAT. 5 by the template 'for every input the law returns true; each argument reads behind the call as it read before'; 0 by the template 'total and deterministic' (their statements: YtlfdfcejjgidpaaGreatDoorTotals.lean).
  GIVEN WITH THE SEED: the statements are not yours to turn. If you find one false, say at which input.
  Laid BY PROGRAM, IN A SANDBOX (cutbox-rows.mjs): the forced cells as the released guide's own fill.sh prints them over the translation c2d949826af2d825… (all of the seat's roots in one cut). By AI agents, Wed Nov 11 2026. No macro, syntax, notation, axiom, sorry.
-/
import Derived.Test.YtlfdfcejjgidpaaGreatDoorChecked
import GoSem.PinnedTables
import GoSem.Claim
import GoSem.ClaimJoined
import GoSem.ClaimMapViews
import Derived.JoinedTies
import Derived.KernelRfl
namespace Go.Proofs.YtlfdfcejjgidpaaGreatDoor
/- THE CELL 'sum', in the pinned program and in every row, IS THE sha256 OF THE DUMP (.gsa) THAT YtlfdfcejjgidpaaGreatDoorProg.lean LOADS. Nothing in Lean hashes anything: it is a label: what it is worth is what the hold of that sum in a sandbox is worth. -/
noncomputable def Tryz.pinned : Pinned := { name := "ytlfdfcejjgidpaagreatdoor", sum := "c2d949826af2d8256c7b1cd6cd41bbab7838bfe69f2ce7b3732a7684ad726c5a", checked := Tryz.checked }
namespace Rows
def none {H : Type} : Left H := { results := [], args := [] }

/- WHAT THE LISTED PACKAGE-LEVEL VARIABLES READ AS WHEN THE CALL BEGINS. Each datum BY PROGRAM (the guide's laid-datum.mjs) off the statement by which the dump's own 'gosem.cut.vars' lays the variable. In a bare row this is a premise. The card (YtlfdfcejjgidpaaGreatDoorCards.lean) ties it to the program's text. -/
def laid_unicode_utf8_acceptRanges {H : Type} : DataW H := .agg [.agg [.lit (.int .u8 128), .lit (.int .u8 191)], .agg [.lit (.int .u8 160), .lit (.int .u8 191)], .agg [.lit (.int .u8 128), .lit (.int .u8 159)], .agg [.lit (.int .u8 144), .lit (.int .u8 191)], .agg [.lit (.int .u8 128), .lit (.int .u8 143)], .agg [.lit (.int .u8 0), .lit (.int .u8 0)], .agg [.lit (.int .u8 0), .lit (.int .u8 0)], .agg [.lit (.int .u8 0), .lit (.int .u8 0)], .agg [.lit (.int .u8 0), .lit (.int .u8 0)], .agg [.lit (.int .u8 0), .lit (.int .u8 0)], .agg [.lit (.int .u8 0), .lit (.int .u8 0)], .agg [.lit (.int .u8 0), .lit (.int .u8 0)], .agg [.lit (.int .u8 0), .lit (.int .u8 0)], .agg [.lit (.int .u8 0), .lit (.int .u8 0)], .agg [.lit (.int .u8 0), .lit (.int .u8 0)], .agg [.lit (.int .u8 0), .lit (.int .u8 0)]]
def laid_squinch_code_ops {H : Type} : DataW H := .agg [.agg [.lit (.string [105, 110, 116]), .lit (.bool true), .lit (.bool false)], .agg [.lit (.string [116, 114, 117, 101]), .lit (.bool false), .lit (.bool false)], .agg [.lit (.string [102, 97, 108, 115, 101]), .lit (.bool false), .lit (.bool false)], .agg [.lit (.string [119, 111, 114, 100]), .lit (.bool false), .lit (.bool true)], .agg [.lit (.string [110, 117, 108, 108]), .lit (.bool false), .lit (.bool false)], .agg [.lit (.string [108, 111, 97, 100]), .lit (.bool true), .lit (.bool false)], .agg [.lit (.string [115, 116, 111, 114, 101]), .lit (.bool true), .lit (.bool false)], .agg [.lit (.string [112, 111, 112]), .lit (.bool false), .lit (.bool false)], .agg [.lit (.string [100, 117, 112]), .lit (.bool false), .lit (.bool false)], .agg [.lit (.string [115, 119, 97, 112]), .lit (.bool false), .lit (.bool false)], .agg [.lit (.string [97, 100, 100]), .lit (.bool false), .lit (.bool false)], .agg [.lit (.string [115, 117, 98]), .lit (.bool false), .lit (.bool false)], .agg [.lit (.string [109, 117, 108]), .lit (.bool false), .lit (.bool false)], .agg [.lit (.string [100, 105, 118]), .lit (.bool false), .lit (.bool false)], .agg [.lit (.string [114, 101, 109]), .lit (.bool false), .lit (.bool false)], .agg [.lit (.string [110, 101, 103]), .lit (.bool false), .lit (.bool false)], .agg [.lit (.string [108, 101, 115, 115]), .lit (.bool false), .lit (.bool false)], .agg [.lit (.string [115, 97, 109, 101]), .lit (.bool false), .lit (.bool false)], .agg [.lit (.string [110, 111, 116]), .lit (.bool false), .lit (.bool false)], .agg [.lit (.string [98, 111, 116, 104]), .lit (.bool false), .lit (.bool false)], .agg [.lit (.string [106, 111, 105, 110]), .lit (.bool false), .lit (.bool false)], .agg [.lit (.string [115, 105, 122, 101]), .lit (.bool false), .lit (.bool false)], .agg [.lit (.string [106, 117, 109, 112]), .lit (.bool true), .lit (.bool false)], .agg [.lit (.string [98, 114, 97, 110, 99, 104]), .lit (.bool true), .lit (.bool false)], .agg [.lit (.string [110, 101, 119]), .lit (.bool false), .lit (.bool true)], .agg [.lit (.string [103, 101, 116]), .lit (.bool false), .lit (.bool true)], .agg [.lit (.string [112, 117, 116]), .lit (.bool false), .lit (.bool true)], .agg [.lit (.string [99, 97, 108, 108]), .lit (.bool false), .lit (.bool true)], .agg [.lit (.string [97, 114, 114, 97, 121]), .lit (.bool false), .lit (.bool true)], .agg [.lit (.string [97, 116]), .lit (.bool false), .lit (.bool false)], .agg [.lit (.string [115, 101, 116]), .lit (.bool false), .lit (.bool false)], .agg [.lit (.string [105, 115]), .lit (.bool false), .lit (.bool true)], .agg [.lit (.string [99, 97, 115, 116]), .lit (.bool false), .lit (.bool true)], .agg [.lit (.string [114, 101, 116, 117, 114, 110]), .lit (.bool false), .lit (.bool false)], .agg [.lit (.string [116, 104, 114, 111, 119]), .lit (.bool false), .lit (.bool false)], .agg [.lit (.string [111, 117, 116]), .lit (.bool false), .lit (.bool false)], .agg [.lit (.string [101, 113, 117, 97, 108]), .lit (.bool false), .lit (.bool false)], .agg [.lit (.string [97, 110, 100]), .lit (.bool false), .lit (.bool false)], .agg [.lit (.string [111, 114]), .lit (.bool false), .lit (.bool false)], .agg [.lit (.string [120, 111, 114]), .lit (.bool false), .lit (.bool false)], .agg [.lit (.string [115, 104, 108]), .lit (.bool false), .lit (.bool false)], .agg [.lit (.string [115, 104, 114]), .lit (.bool false), .lit (.bool false)]]
def laid_squinch_hier_faults {H : Type} : DataW H := .agg [.lit (.string [78, 117, 108, 108, 70, 97, 117, 108, 116]), .lit (.string [73, 110, 100, 101, 120, 70, 97, 117, 108, 116]), .lit (.string [67, 97, 115, 116, 70, 97, 117, 108, 116]), .lit (.string [90, 101, 114, 111, 70, 97, 117, 108, 116]), .lit (.string [82, 111, 111, 109, 70, 97, 117, 108, 116]), .lit (.string [67, 97, 108, 108, 70, 97, 117, 108, 116])]
/-- One of Go's own tables, pinned by name: the form's constant. -/
def laid_unicode_utf8_first : DataW Unit := Go.Pinned.utf8First

/-- 'squinchlaw12.SendPlain': WHATEVER THE INPUT: true; the input reads as it did. -/
def sendPlainSpec : ChangeSpec := { name := "sendPlain", fn := fun _ => fun
  | [d1, d2, d3] => { results := [.lit (.bool true)], args := [d1, d2, d3] }
  | _ => none }
def sendPlainRow : OpenClaim := { program := "ytlfdfcejjgidpaagreatdoor", sum := "c2d949826af2d8256c7b1cd6cd41bbab7838bfe69f2ce7b3732a7684ad726c5a", func := "squinch/squinchlaw12.SendPlain", spec := "sendPlain", inPlace := ["internal/bytealg.IndexByteString", "internal/bytealg.IndexString", "internal/abi.NoEscape", "internal/bytealg.MakeNoZero"], unfollowed := true, recurses := true, named := ["squinch/hier.faults", "squinch/code.ops", "unicode/utf8.first", "unicode/utf8.acceptRanges", "internal/bytealg.MaxLen"], apart := false, laid := [("unicode/utf8.acceptRanges", laid_unicode_utf8_acceptRanges), ("squinch/code.ops", laid_squinch_code_ops), ("squinch/hier.faults", laid_squinch_hier_faults), ("unicode/utf8.first", laid_unicode_utf8_first)] }
def SendPlainSaid : Prop := sendPlainRow.holds Tryz.pinned (OpenSpec.ofChange sendPlainSpec)

/-- ITS FALSE NEIGHBOUR: 'it returns false'. Refute it at one input. -/
def sendPlainWrong : ChangeSpec := { name := "sendPlain", fn := fun _ => fun
  | [d1, d2, d3] => { results := [.lit (.bool false)], args := [d1, d2, d3] }
  | _ => none }
def SendPlainWrongFalsely : Prop := sendPlainRow.holds Tryz.pinned (OpenSpec.ofChange sendPlainWrong)

/-- 'squinchlaw12.SendBytes': WHATEVER THE INPUT: true; the input reads as it did. -/
def sendBytesSpec : ChangeSpec := { name := "sendBytes", fn := fun _ => fun
  | [d1, d2, d3] => { results := [.lit (.bool true)], args := [d1, d2, d3] }
  | _ => none }
def sendBytesRow : OpenClaim := { program := "ytlfdfcejjgidpaagreatdoor", sum := "c2d949826af2d8256c7b1cd6cd41bbab7838bfe69f2ce7b3732a7684ad726c5a", func := "squinch/squinchlaw12.SendBytes", spec := "sendBytes", inPlace := ["internal/bytealg.IndexByteString", "internal/bytealg.IndexString", "internal/abi.NoEscape", "internal/bytealg.MakeNoZero"], unfollowed := true, recurses := true, named := ["squinch/hier.faults", "squinch/code.ops", "unicode/utf8.first", "unicode/utf8.acceptRanges", "internal/bytealg.MaxLen"], apart := false, laid := [("unicode/utf8.acceptRanges", laid_unicode_utf8_acceptRanges), ("squinch/code.ops", laid_squinch_code_ops), ("squinch/hier.faults", laid_squinch_hier_faults), ("unicode/utf8.first", laid_unicode_utf8_first)] }
def SendBytesSaid : Prop := sendBytesRow.holds Tryz.pinned (OpenSpec.ofChange sendBytesSpec)

/-- ITS FALSE NEIGHBOUR: 'it returns false'. Refute it at one input. -/
def sendBytesWrong : ChangeSpec := { name := "sendBytes", fn := fun _ => fun
  | [d1, d2, d3] => { results := [.lit (.bool false)], args := [d1, d2, d3] }
  | _ => none }
def SendBytesWrongFalsely : Prop := sendBytesRow.holds Tryz.pinned (OpenSpec.ofChange sendBytesWrong)

/-- 'squinchlaw12.SendOne': WHATEVER THE INPUT: true; the input reads as it did. -/
def sendOneSpec : ChangeSpec := { name := "sendOne", fn := fun _ => fun
  | [d1, d2] => { results := [.lit (.bool true)], args := [d1, d2] }
  | _ => none }
def sendOneRow : OpenClaim := { program := "ytlfdfcejjgidpaagreatdoor", sum := "c2d949826af2d8256c7b1cd6cd41bbab7838bfe69f2ce7b3732a7684ad726c5a", func := "squinch/squinchlaw12.SendOne", spec := "sendOne", inPlace := ["internal/bytealg.IndexByteString", "internal/bytealg.IndexString", "internal/abi.NoEscape", "internal/bytealg.MakeNoZero"], unfollowed := true, recurses := true, named := ["squinch/hier.faults", "squinch/code.ops", "unicode/utf8.first", "unicode/utf8.acceptRanges", "internal/bytealg.MaxLen"], apart := false, laid := [("unicode/utf8.acceptRanges", laid_unicode_utf8_acceptRanges), ("squinch/code.ops", laid_squinch_code_ops), ("squinch/hier.faults", laid_squinch_hier_faults), ("unicode/utf8.first", laid_unicode_utf8_first)] }
def SendOneSaid : Prop := sendOneRow.holds Tryz.pinned (OpenSpec.ofChange sendOneSpec)

/-- ITS FALSE NEIGHBOUR: 'it returns false'. Refute it at one input. -/
def sendOneWrong : ChangeSpec := { name := "sendOne", fn := fun _ => fun
  | [d1, d2] => { results := [.lit (.bool false)], args := [d1, d2] }
  | _ => none }
def SendOneWrongFalsely : Prop := sendOneRow.holds Tryz.pinned (OpenSpec.ofChange sendOneWrong)

/-- 'squinchlaw12.SendLimits': WHATEVER THE INPUT: true; the input reads as it did. -/
def sendLimitsSpec : ChangeSpec := { name := "sendLimits", fn := fun _ => fun
  | [d1, d2] => { results := [.lit (.bool true)], args := [d1, d2] }
  | _ => none }
def sendLimitsRow : OpenClaim := { program := "ytlfdfcejjgidpaagreatdoor", sum := "c2d949826af2d8256c7b1cd6cd41bbab7838bfe69f2ce7b3732a7684ad726c5a", func := "squinch/squinchlaw12.SendLimits", spec := "sendLimits", inPlace := ["internal/bytealg.IndexByteString", "internal/bytealg.IndexString", "internal/abi.NoEscape", "internal/bytealg.MakeNoZero"], unfollowed := true, recurses := true, named := ["squinch/hier.faults", "squinch/code.ops", "unicode/utf8.first", "unicode/utf8.acceptRanges", "internal/bytealg.MaxLen"], apart := false, laid := [("unicode/utf8.acceptRanges", laid_unicode_utf8_acceptRanges), ("squinch/code.ops", laid_squinch_code_ops), ("squinch/hier.faults", laid_squinch_hier_faults), ("unicode/utf8.first", laid_unicode_utf8_first)] }
def SendLimitsSaid : Prop := sendLimitsRow.holds Tryz.pinned (OpenSpec.ofChange sendLimitsSpec)

/-- ITS FALSE NEIGHBOUR: 'it returns false'. Refute it at one input. -/
def sendLimitsWrong : ChangeSpec := { name := "sendLimits", fn := fun _ => fun
  | [d1, d2] => { results := [.lit (.bool false)], args := [d1, d2] }
  | _ => none }
def SendLimitsWrongFalsely : Prop := sendLimitsRow.holds Tryz.pinned (OpenSpec.ofChange sendLimitsWrong)

/-- 'squinchlaw12.SendKeeps': WHATEVER THE INPUT: true; the input reads as it did. -/
def sendKeepsSpec : ChangeSpec := { name := "sendKeeps", fn := fun _ => fun
  | [d1, d2] => { results := [.lit (.bool true)], args := [d1, d2] }
  | _ => none }
def sendKeepsRow : OpenClaim := { program := "ytlfdfcejjgidpaagreatdoor", sum := "c2d949826af2d8256c7b1cd6cd41bbab7838bfe69f2ce7b3732a7684ad726c5a", func := "squinch/squinchlaw12.SendKeeps", spec := "sendKeeps", inPlace := ["internal/bytealg.IndexByteString", "internal/bytealg.IndexString", "internal/abi.NoEscape", "internal/bytealg.MakeNoZero"], unfollowed := true, recurses := true, named := ["squinch/hier.faults", "squinch/code.ops", "unicode/utf8.first", "unicode/utf8.acceptRanges", "internal/bytealg.MaxLen"], apart := false, laid := [("unicode/utf8.acceptRanges", laid_unicode_utf8_acceptRanges), ("squinch/code.ops", laid_squinch_code_ops), ("squinch/hier.faults", laid_squinch_hier_faults), ("unicode/utf8.first", laid_unicode_utf8_first)] }
def SendKeepsSaid : Prop := sendKeepsRow.holds Tryz.pinned (OpenSpec.ofChange sendKeepsSpec)

/-- ITS FALSE NEIGHBOUR: 'it returns false'. Refute it at one input. -/
def sendKeepsWrong : ChangeSpec := { name := "sendKeeps", fn := fun _ => fun
  | [d1, d2] => { results := [.lit (.bool false)], args := [d1, d2] }
  | _ => none }
def SendKeepsWrongFalsely : Prop := sendKeepsRow.holds Tryz.pinned (OpenSpec.ofChange sendKeepsWrong)

/- THE SECOND FORM. 'bulk': how many values and letters a reading holds, each counted each time it is reached (what is shared counts as often as it is met; a slice's spare places count too). A statement '..UptoSaid' is the law's where the arguments, and the package variables that the reading takes, are together of bulk at most 1048576: NARROWER than '..Said'. Prove '..Said' where nothing that the law and all that it calls make is longer than what came in: it says more and counts as full. Else prove '..UptoSaid'. A law counts once. -/
mutual
def uptoBulk {H : Type} : DataW H → Nat
  | .lit (.string bytes) => bytes.length + 1
  | .lit _ => 1
  | .nil => 1
  | .ptr d => uptoBulk d + 1
  | .slice elems spare => uptoBulkAll elems + uptoBulkAll spare + 1
  | .agg parts => uptoBulkAll parts + 1
  | .iface _ d => uptoBulk d + 1
  | .map entries => uptoBulkEntries entries + 1
  | .held _ => 1
def uptoBulkAll {H : Type} : List (DataW H) → Nat
  | [] => 0
  | d :: r => uptoBulk d + uptoBulkAll r
def uptoBulkEntries {H : Type} : List (Lit × DataW H) → Nat
  | [] => 0
  | x :: r => uptoBulkEntry x + uptoBulkEntries r
def uptoBulkEntry {H : Type} : Lit × DataW H → Nat
  | (.string bytes, d) => bytes.length + uptoBulk d + 1
  | (_, d) => uptoBulk d + 1
 end
def uptoSmall : (H : Type) → List (DataW H) → Bool := fun _ ds => decide (uptoBulkAll ds ≤ 1048576)
def OpenSpec.upto (s : _root_.Go.ChangeSpec) : _root_.Go.OpenSpec := { _root_.Go.OpenSpec.ofChange s with cond := some uptoSmall }

/-- 'squinchlaw12.SendPlain', WHERE WHAT IT READS IS OF BULK AT MOST 1048576: true; the input reads as it did. -/
def sendPlainUptoRow : OpenClaim := { program := "ytlfdfcejjgidpaagreatdoor", sum := "c2d949826af2d8256c7b1cd6cd41bbab7838bfe69f2ce7b3732a7684ad726c5a", func := "squinch/squinchlaw12.SendPlain", spec := "sendPlain", inPlace := ["internal/bytealg.IndexByteString", "internal/bytealg.IndexString", "internal/abi.NoEscape", "internal/bytealg.MakeNoZero"], unfollowed := true, recurses := true, named := ["squinch/hier.faults", "squinch/code.ops", "unicode/utf8.first", "unicode/utf8.acceptRanges", "internal/bytealg.MaxLen"], apart := false, laid := [("unicode/utf8.acceptRanges", laid_unicode_utf8_acceptRanges), ("squinch/code.ops", laid_squinch_code_ops), ("squinch/hier.faults", laid_squinch_hier_faults), ("unicode/utf8.first", laid_unicode_utf8_first)], narrowed := true }
def SendPlainUptoSaid : Prop := sendPlainUptoRow.holds Tryz.pinned (OpenSpec.upto sendPlainSpec)

/-- 'squinchlaw12.SendBytes', WHERE WHAT IT READS IS OF BULK AT MOST 1048576: true; the input reads as it did. -/
def sendBytesUptoRow : OpenClaim := { program := "ytlfdfcejjgidpaagreatdoor", sum := "c2d949826af2d8256c7b1cd6cd41bbab7838bfe69f2ce7b3732a7684ad726c5a", func := "squinch/squinchlaw12.SendBytes", spec := "sendBytes", inPlace := ["internal/bytealg.IndexByteString", "internal/bytealg.IndexString", "internal/abi.NoEscape", "internal/bytealg.MakeNoZero"], unfollowed := true, recurses := true, named := ["squinch/hier.faults", "squinch/code.ops", "unicode/utf8.first", "unicode/utf8.acceptRanges", "internal/bytealg.MaxLen"], apart := false, laid := [("unicode/utf8.acceptRanges", laid_unicode_utf8_acceptRanges), ("squinch/code.ops", laid_squinch_code_ops), ("squinch/hier.faults", laid_squinch_hier_faults), ("unicode/utf8.first", laid_unicode_utf8_first)], narrowed := true }
def SendBytesUptoSaid : Prop := sendBytesUptoRow.holds Tryz.pinned (OpenSpec.upto sendBytesSpec)

/-- 'squinchlaw12.SendOne', WHERE WHAT IT READS IS OF BULK AT MOST 1048576: true; the input reads as it did. -/
def sendOneUptoRow : OpenClaim := { program := "ytlfdfcejjgidpaagreatdoor", sum := "c2d949826af2d8256c7b1cd6cd41bbab7838bfe69f2ce7b3732a7684ad726c5a", func := "squinch/squinchlaw12.SendOne", spec := "sendOne", inPlace := ["internal/bytealg.IndexByteString", "internal/bytealg.IndexString", "internal/abi.NoEscape", "internal/bytealg.MakeNoZero"], unfollowed := true, recurses := true, named := ["squinch/hier.faults", "squinch/code.ops", "unicode/utf8.first", "unicode/utf8.acceptRanges", "internal/bytealg.MaxLen"], apart := false, laid := [("unicode/utf8.acceptRanges", laid_unicode_utf8_acceptRanges), ("squinch/code.ops", laid_squinch_code_ops), ("squinch/hier.faults", laid_squinch_hier_faults), ("unicode/utf8.first", laid_unicode_utf8_first)], narrowed := true }
def SendOneUptoSaid : Prop := sendOneUptoRow.holds Tryz.pinned (OpenSpec.upto sendOneSpec)

/-- 'squinchlaw12.SendLimits', WHERE WHAT IT READS IS OF BULK AT MOST 1048576: true; the input reads as it did. -/
def sendLimitsUptoRow : OpenClaim := { program := "ytlfdfcejjgidpaagreatdoor", sum := "c2d949826af2d8256c7b1cd6cd41bbab7838bfe69f2ce7b3732a7684ad726c5a", func := "squinch/squinchlaw12.SendLimits", spec := "sendLimits", inPlace := ["internal/bytealg.IndexByteString", "internal/bytealg.IndexString", "internal/abi.NoEscape", "internal/bytealg.MakeNoZero"], unfollowed := true, recurses := true, named := ["squinch/hier.faults", "squinch/code.ops", "unicode/utf8.first", "unicode/utf8.acceptRanges", "internal/bytealg.MaxLen"], apart := false, laid := [("unicode/utf8.acceptRanges", laid_unicode_utf8_acceptRanges), ("squinch/code.ops", laid_squinch_code_ops), ("squinch/hier.faults", laid_squinch_hier_faults), ("unicode/utf8.first", laid_unicode_utf8_first)], narrowed := true }
def SendLimitsUptoSaid : Prop := sendLimitsUptoRow.holds Tryz.pinned (OpenSpec.upto sendLimitsSpec)

/-- 'squinchlaw12.SendKeeps', WHERE WHAT IT READS IS OF BULK AT MOST 1048576: true; the input reads as it did. -/
def sendKeepsUptoRow : OpenClaim := { program := "ytlfdfcejjgidpaagreatdoor", sum := "c2d949826af2d8256c7b1cd6cd41bbab7838bfe69f2ce7b3732a7684ad726c5a", func := "squinch/squinchlaw12.SendKeeps", spec := "sendKeeps", inPlace := ["internal/bytealg.IndexByteString", "internal/bytealg.IndexString", "internal/abi.NoEscape", "internal/bytealg.MakeNoZero"], unfollowed := true, recurses := true, named := ["squinch/hier.faults", "squinch/code.ops", "unicode/utf8.first", "unicode/utf8.acceptRanges", "internal/bytealg.MaxLen"], apart := false, laid := [("unicode/utf8.acceptRanges", laid_unicode_utf8_acceptRanges), ("squinch/code.ops", laid_squinch_code_ops), ("squinch/hier.faults", laid_squinch_hier_faults), ("unicode/utf8.first", laid_unicode_utf8_first)], narrowed := true }
def SendKeepsUptoSaid : Prop := sendKeepsUptoRow.holds Tryz.pinned (OpenSpec.upto sendKeepsSpec)

end Rows
end Go.Proofs.YtlfdfcejjgidpaaGreatDoor
