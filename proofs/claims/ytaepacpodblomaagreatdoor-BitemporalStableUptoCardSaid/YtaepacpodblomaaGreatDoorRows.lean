/-
  NARROWER THAN 'FOR EVERY INPUT', by the rows' own cells (each row's printed sentence says how): ChangesAscending: loops, laid · ChangesConstant: loops, laid · BitemporalStable: loops, laid · BitemporalRevisions: loops, laid · BitemporalCauses: loops, laid.
  DERIVED. THE GIVEN ROWS OF THIS SEAT. 5 by the template 'for every input the law returns true; each argument reads behind the call as it read before'; 0 by the template 'total and deterministic' (their statements: YtaepacpodblomaaGreatDoorTotals.lean).
  GIVEN WITH THE SEED: the statements are not yours to turn. If you find one false, say at which input.
  Laid BY PROGRAM, IN A SANDBOX (cutbox-rows.mjs): the forced cells as the released guide's own fill.sh prints them over the translation fe03e798b939df52… (all of the seat's roots in one cut). By AI agents, Wed Nov 11 2026. No macro, syntax, notation, axiom, sorry.
-/
import Derived.Test.YtaepacpodblomaaGreatDoorChecked
import GoSem.PinnedTables
import GoSem.Claim
import GoSem.ClaimJoined
import GoSem.ClaimMapViews
import Derived.JoinedTies
import Derived.KernelRfl
namespace Go.Proofs.YtaepacpodblomaaGreatDoor
/- THE CELL 'sum', in the pinned program and in every row, IS THE sha256 OF THE DUMP (.gsa) THAT YtaepacpodblomaaGreatDoorProg.lean LOADS. Nothing in Lean hashes anything: it is a label: what it is worth is what the hold of that sum in a sandbox is worth. -/
noncomputable def Tryz.pinned : Pinned := { name := "ytaepacpodblomaagreatdoor", sum := "fe03e798b939df528be24eb6fc13192948ca38ff77f6b943e85e360393d7a80c", checked := Tryz.checked }
namespace Rows
def none {H : Type} : Left H := { results := [], args := [] }

/- WHAT THE LISTED PACKAGE-LEVEL VARIABLES READ AS WHEN THE CALL BEGINS. Each datum BY PROGRAM (the guide's laid-datum.mjs) off the statement by which the dump's own 'gosem.cut.vars' lays the variable. In a bare row this is a premise. The card (YtaepacpodblomaaGreatDoorCards.lean) ties it to the program's text. -/
def laid_unicode_utf8_acceptRanges {H : Type} : DataW H := .agg [.agg [.lit (.int .u8 128), .lit (.int .u8 191)], .agg [.lit (.int .u8 160), .lit (.int .u8 191)], .agg [.lit (.int .u8 128), .lit (.int .u8 159)], .agg [.lit (.int .u8 144), .lit (.int .u8 191)], .agg [.lit (.int .u8 128), .lit (.int .u8 143)], .agg [.lit (.int .u8 0), .lit (.int .u8 0)], .agg [.lit (.int .u8 0), .lit (.int .u8 0)], .agg [.lit (.int .u8 0), .lit (.int .u8 0)], .agg [.lit (.int .u8 0), .lit (.int .u8 0)], .agg [.lit (.int .u8 0), .lit (.int .u8 0)], .agg [.lit (.int .u8 0), .lit (.int .u8 0)], .agg [.lit (.int .u8 0), .lit (.int .u8 0)], .agg [.lit (.int .u8 0), .lit (.int .u8 0)], .agg [.lit (.int .u8 0), .lit (.int .u8 0)], .agg [.lit (.int .u8 0), .lit (.int .u8 0)], .agg [.lit (.int .u8 0), .lit (.int .u8 0)]]
def laid_pandect_unit_names {H : Type} : DataW H := .agg [.lit (.string [98, 111, 111, 107]), .lit (.string [112, 97, 114, 116]), .lit (.string [115, 101, 99, 116, 105, 111, 110]), .lit (.string [112, 97, 114, 97, 103, 114, 97, 112, 104]), .lit (.string [116, 97, 98, 108, 101]), .lit (.string [114, 111, 119]), .lit (.string [99, 101, 108, 108]), .lit (.string [110, 111, 116, 101])]
def laid_pandect_unit_below {H : Type} : DataW H := .agg [.slice [.lit (.int .i64 1), .lit (.int .i64 2)] [], .slice [.lit (.int .i64 2)] [], .slice [.lit (.int .i64 3), .lit (.int .i64 4), .lit (.int .i64 7)] [], .slice [.lit (.int .i64 3), .lit (.int .i64 4), .lit (.int .i64 7)] [], .slice [.lit (.int .i64 5)] [], .slice [.lit (.int .i64 6)] [], .nil, .nil]
def laid_pandect_syntax_order {H : Type} : DataW H := .iface "func table" (.agg [.iface "func" (.lit (.string [112, 97, 110, 100, 101, 99, 116, 47, 115, 121, 110, 116, 97, 120, 46, 111, 114, 100, 101, 114, 36, 49])), .iface "func" (.lit (.string [112, 97, 110, 100, 101, 99, 116, 47, 115, 121, 110, 116, 97, 120, 46, 111, 114, 100, 101, 114, 36, 50]))])
/-- One of Go's own tables, pinned by name: the form's constant. -/
def laid_unicode_utf8_first : DataW Unit := Go.Pinned.utf8First

/-- 'pandectlaw31.ChangesAscending': WHATEVER THE INPUT: true; the input reads as it did. -/
def changesAscendingSpec : ChangeSpec := { name := "changesAscending", fn := fun _ => fun
  | [d1, d2] => { results := [.lit (.bool true)], args := [d1, d2] }
  | _ => none }
def changesAscendingRow : OpenClaim := { program := "ytaepacpodblomaagreatdoor", sum := "fe03e798b939df528be24eb6fc13192948ca38ff77f6b943e85e360393d7a80c", func := "pandect/pandectlaw31.ChangesAscending", spec := "changesAscending", inPlace := ["slices.overlaps[pandect/api.Unit]", "internal/abi.NoEscape", "internal/bytealg.MakeNoZero", "internal/bytealg.IndexByteString", "internal/bytealg.IndexString"], unfollowed := true, recurses := true, named := ["pandect/unit.below", "pandect/syntax.order", "pandect/unit.names", "unicode/utf8.first", "unicode/utf8.acceptRanges", "internal/bytealg.MaxLen"], loops := true, plainKeys := false, apart := false, laid := [("unicode/utf8.acceptRanges", laid_unicode_utf8_acceptRanges), ("pandect/unit.names", laid_pandect_unit_names), ("pandect/unit.below", laid_pandect_unit_below), ("pandect/syntax.order", laid_pandect_syntax_order), ("unicode/utf8.first", laid_unicode_utf8_first)] }
def ChangesAscendingSaid : Prop := changesAscendingRow.holds Tryz.pinned (OpenSpec.ofChange changesAscendingSpec)

/-- ITS FALSE NEIGHBOUR: 'it returns false'. Refute it at one input. -/
def changesAscendingWrong : ChangeSpec := { name := "changesAscending", fn := fun _ => fun
  | [d1, d2] => { results := [.lit (.bool false)], args := [d1, d2] }
  | _ => none }
def ChangesAscendingWrongFalsely : Prop := changesAscendingRow.holds Tryz.pinned (OpenSpec.ofChange changesAscendingWrong)

/-- 'pandectlaw31.ChangesConstant': WHATEVER THE INPUT: true; the input reads as it did. -/
def changesConstantSpec : ChangeSpec := { name := "changesConstant", fn := fun _ => fun
  | [d1, d2, d3] => { results := [.lit (.bool true)], args := [d1, d2, d3] }
  | _ => none }
def changesConstantRow : OpenClaim := { program := "ytaepacpodblomaagreatdoor", sum := "fe03e798b939df528be24eb6fc13192948ca38ff77f6b943e85e360393d7a80c", func := "pandect/pandectlaw31.ChangesConstant", spec := "changesConstant", inPlace := ["slices.overlaps[pandect/api.Unit]", "internal/abi.NoEscape", "internal/bytealg.MakeNoZero", "internal/bytealg.IndexByteString", "internal/bytealg.IndexString"], unfollowed := true, recurses := true, named := ["pandect/unit.below", "pandect/syntax.order", "pandect/unit.names", "unicode/utf8.first", "unicode/utf8.acceptRanges", "internal/bytealg.MaxLen"], loops := true, plainKeys := false, apart := false, laid := [("unicode/utf8.acceptRanges", laid_unicode_utf8_acceptRanges), ("pandect/unit.names", laid_pandect_unit_names), ("pandect/unit.below", laid_pandect_unit_below), ("pandect/syntax.order", laid_pandect_syntax_order), ("unicode/utf8.first", laid_unicode_utf8_first)] }
def ChangesConstantSaid : Prop := changesConstantRow.holds Tryz.pinned (OpenSpec.ofChange changesConstantSpec)

/-- ITS FALSE NEIGHBOUR: 'it returns false'. Refute it at one input. -/
def changesConstantWrong : ChangeSpec := { name := "changesConstant", fn := fun _ => fun
  | [d1, d2, d3] => { results := [.lit (.bool false)], args := [d1, d2, d3] }
  | _ => none }
def ChangesConstantWrongFalsely : Prop := changesConstantRow.holds Tryz.pinned (OpenSpec.ofChange changesConstantWrong)

/-- 'pandectlaw36.BitemporalStable': WHATEVER THE INPUT: true; the input reads as it did. -/
def bitemporalStableSpec : ChangeSpec := { name := "bitemporalStable", fn := fun _ => fun
  | [d1, d2, d3, d4, d5] => { results := [.lit (.bool true)], args := [d1, d2, d3, d4, d5] }
  | _ => none }
def bitemporalStableRow : OpenClaim := { program := "ytaepacpodblomaagreatdoor", sum := "fe03e798b939df528be24eb6fc13192948ca38ff77f6b943e85e360393d7a80c", func := "pandect/pandectlaw36.BitemporalStable", spec := "bitemporalStable", inPlace := ["slices.overlaps[pandect/api.Unit]", "internal/abi.NoEscape", "internal/bytealg.MakeNoZero", "internal/bytealg.IndexByteString", "internal/bytealg.IndexString"], unfollowed := true, recurses := true, named := ["pandect/unit.below", "pandect/syntax.order", "pandect/unit.names", "unicode/utf8.first", "unicode/utf8.acceptRanges", "internal/bytealg.MaxLen"], loops := true, plainKeys := false, apart := false, laid := [("unicode/utf8.acceptRanges", laid_unicode_utf8_acceptRanges), ("pandect/unit.names", laid_pandect_unit_names), ("pandect/unit.below", laid_pandect_unit_below), ("pandect/syntax.order", laid_pandect_syntax_order), ("unicode/utf8.first", laid_unicode_utf8_first)] }
def BitemporalStableSaid : Prop := bitemporalStableRow.holds Tryz.pinned (OpenSpec.ofChange bitemporalStableSpec)

/-- ITS FALSE NEIGHBOUR: 'it returns false'. Refute it at one input. -/
def bitemporalStableWrong : ChangeSpec := { name := "bitemporalStable", fn := fun _ => fun
  | [d1, d2, d3, d4, d5] => { results := [.lit (.bool false)], args := [d1, d2, d3, d4, d5] }
  | _ => none }
def BitemporalStableWrongFalsely : Prop := bitemporalStableRow.holds Tryz.pinned (OpenSpec.ofChange bitemporalStableWrong)

/-- 'pandectlaw36.BitemporalRevisions': WHATEVER THE INPUT: true; the input reads as it did. -/
def bitemporalRevisionsSpec : ChangeSpec := { name := "bitemporalRevisions", fn := fun _ => fun
  | [d1, d2, d3, d4] => { results := [.lit (.bool true)], args := [d1, d2, d3, d4] }
  | _ => none }
def bitemporalRevisionsRow : OpenClaim := { program := "ytaepacpodblomaagreatdoor", sum := "fe03e798b939df528be24eb6fc13192948ca38ff77f6b943e85e360393d7a80c", func := "pandect/pandectlaw36.BitemporalRevisions", spec := "bitemporalRevisions", inPlace := ["slices.overlaps[pandect/api.Unit]", "internal/abi.NoEscape", "internal/bytealg.MakeNoZero", "internal/bytealg.IndexByteString", "internal/bytealg.IndexString"], unfollowed := true, recurses := true, named := ["pandect/unit.below", "pandect/syntax.order", "pandect/unit.names", "unicode/utf8.first", "unicode/utf8.acceptRanges", "internal/bytealg.MaxLen"], loops := true, plainKeys := false, apart := false, laid := [("unicode/utf8.acceptRanges", laid_unicode_utf8_acceptRanges), ("pandect/unit.names", laid_pandect_unit_names), ("pandect/unit.below", laid_pandect_unit_below), ("pandect/syntax.order", laid_pandect_syntax_order), ("unicode/utf8.first", laid_unicode_utf8_first)] }
def BitemporalRevisionsSaid : Prop := bitemporalRevisionsRow.holds Tryz.pinned (OpenSpec.ofChange bitemporalRevisionsSpec)

/-- ITS FALSE NEIGHBOUR: 'it returns false'. Refute it at one input. -/
def bitemporalRevisionsWrong : ChangeSpec := { name := "bitemporalRevisions", fn := fun _ => fun
  | [d1, d2, d3, d4] => { results := [.lit (.bool false)], args := [d1, d2, d3, d4] }
  | _ => none }
def BitemporalRevisionsWrongFalsely : Prop := bitemporalRevisionsRow.holds Tryz.pinned (OpenSpec.ofChange bitemporalRevisionsWrong)

/-- 'pandectlaw36.BitemporalCauses': WHATEVER THE INPUT: true; the input reads as it did. -/
def bitemporalCausesSpec : ChangeSpec := { name := "bitemporalCauses", fn := fun _ => fun
  | [d1, d2, d3, d4] => { results := [.lit (.bool true)], args := [d1, d2, d3, d4] }
  | _ => none }
def bitemporalCausesRow : OpenClaim := { program := "ytaepacpodblomaagreatdoor", sum := "fe03e798b939df528be24eb6fc13192948ca38ff77f6b943e85e360393d7a80c", func := "pandect/pandectlaw36.BitemporalCauses", spec := "bitemporalCauses", inPlace := ["slices.overlaps[pandect/api.Unit]", "internal/abi.NoEscape", "internal/bytealg.MakeNoZero", "internal/bytealg.IndexByteString", "internal/bytealg.IndexString"], unfollowed := true, recurses := true, named := ["pandect/unit.below", "pandect/syntax.order", "pandect/unit.names", "unicode/utf8.first", "unicode/utf8.acceptRanges", "internal/bytealg.MaxLen"], loops := true, plainKeys := false, apart := false, laid := [("unicode/utf8.acceptRanges", laid_unicode_utf8_acceptRanges), ("pandect/unit.names", laid_pandect_unit_names), ("pandect/unit.below", laid_pandect_unit_below), ("pandect/syntax.order", laid_pandect_syntax_order), ("unicode/utf8.first", laid_unicode_utf8_first)] }
def BitemporalCausesSaid : Prop := bitemporalCausesRow.holds Tryz.pinned (OpenSpec.ofChange bitemporalCausesSpec)

/-- ITS FALSE NEIGHBOUR: 'it returns false'. Refute it at one input. -/
def bitemporalCausesWrong : ChangeSpec := { name := "bitemporalCauses", fn := fun _ => fun
  | [d1, d2, d3, d4] => { results := [.lit (.bool false)], args := [d1, d2, d3, d4] }
  | _ => none }
def BitemporalCausesWrongFalsely : Prop := bitemporalCausesRow.holds Tryz.pinned (OpenSpec.ofChange bitemporalCausesWrong)

/- THE SECOND FORM. 'bulk': how many values and letters a reading holds, each counted each time it is reached (what is shared counts as often as it is met; a slice's spare places count too). A statement '..UptoSaid' is the law's where the arguments, and the package variables that the reading takes, are together of bulk at most 1048576: NARROWER than '..Said'. Prove '..Said' where nothing that the law and all that it calls make is longer than what came in: it says more and counts as full. Else prove '..UptoSaid'. A law counts once. -/
mutual
def uptoBulk {H : Type} : DataW H → Nat
  | .lit (.string bytes) => bytes.length + 1
  | .lit _ => 1
  | .nil => 1
  | .ptr d => uptoBulk d + 1
  | .slice elems spare => uptoBulkAll elems + uptoBulkAll spare + 1
  | .agg parts => uptoBulkAll parts + 1
  | .iface _ d => uptoBulk d + 1
  | .map entries => uptoBulkEntries entries + 1
  | .held _ => 1
def uptoBulkAll {H : Type} : List (DataW H) → Nat
  | [] => 0
  | d :: r => uptoBulk d + uptoBulkAll r
def uptoBulkEntries {H : Type} : List (Lit × DataW H) → Nat
  | [] => 0
  | x :: r => uptoBulkEntry x + uptoBulkEntries r
def uptoBulkEntry {H : Type} : Lit × DataW H → Nat
  | (.string bytes, d) => bytes.length + uptoBulk d + 1
  | (_, d) => uptoBulk d + 1
 end
def uptoSmall : (H : Type) → List (DataW H) → Bool := fun _ ds => decide (uptoBulkAll ds ≤ 1048576)
def OpenSpec.upto (s : _root_.Go.ChangeSpec) : _root_.Go.OpenSpec := { _root_.Go.OpenSpec.ofChange s with cond := some uptoSmall }

/-- 'pandectlaw31.ChangesAscending', WHERE WHAT IT READS IS OF BULK AT MOST 1048576: true; the input reads as it did. -/
def changesAscendingUptoRow : OpenClaim := { program := "ytaepacpodblomaagreatdoor", sum := "fe03e798b939df528be24eb6fc13192948ca38ff77f6b943e85e360393d7a80c", func := "pandect/pandectlaw31.ChangesAscending", spec := "changesAscending", inPlace := ["slices.overlaps[pandect/api.Unit]", "internal/abi.NoEscape", "internal/bytealg.MakeNoZero", "internal/bytealg.IndexByteString", "internal/bytealg.IndexString"], unfollowed := true, recurses := true, named := ["pandect/unit.below", "pandect/syntax.order", "pandect/unit.names", "unicode/utf8.first", "unicode/utf8.acceptRanges", "internal/bytealg.MaxLen"], loops := true, plainKeys := false, apart := false, laid := [("unicode/utf8.acceptRanges", laid_unicode_utf8_acceptRanges), ("pandect/unit.names", laid_pandect_unit_names), ("pandect/unit.below", laid_pandect_unit_below), ("pandect/syntax.order", laid_pandect_syntax_order), ("unicode/utf8.first", laid_unicode_utf8_first)], narrowed := true }
def ChangesAscendingUptoSaid : Prop := changesAscendingUptoRow.holds Tryz.pinned (OpenSpec.upto changesAscendingSpec)

/-- 'pandectlaw31.ChangesConstant', WHERE WHAT IT READS IS OF BULK AT MOST 1048576: true; the input reads as it did. -/
def changesConstantUptoRow : OpenClaim := { program := "ytaepacpodblomaagreatdoor", sum := "fe03e798b939df528be24eb6fc13192948ca38ff77f6b943e85e360393d7a80c", func := "pandect/pandectlaw31.ChangesConstant", spec := "changesConstant", inPlace := ["slices.overlaps[pandect/api.Unit]", "internal/abi.NoEscape", "internal/bytealg.MakeNoZero", "internal/bytealg.IndexByteString", "internal/bytealg.IndexString"], unfollowed := true, recurses := true, named := ["pandect/unit.below", "pandect/syntax.order", "pandect/unit.names", "unicode/utf8.first", "unicode/utf8.acceptRanges", "internal/bytealg.MaxLen"], loops := true, plainKeys := false, apart := false, laid := [("unicode/utf8.acceptRanges", laid_unicode_utf8_acceptRanges), ("pandect/unit.names", laid_pandect_unit_names), ("pandect/unit.below", laid_pandect_unit_below), ("pandect/syntax.order", laid_pandect_syntax_order), ("unicode/utf8.first", laid_unicode_utf8_first)], narrowed := true }
def ChangesConstantUptoSaid : Prop := changesConstantUptoRow.holds Tryz.pinned (OpenSpec.upto changesConstantSpec)

/-- 'pandectlaw36.BitemporalStable', WHERE WHAT IT READS IS OF BULK AT MOST 1048576: true; the input reads as it did. -/
def bitemporalStableUptoRow : OpenClaim := { program := "ytaepacpodblomaagreatdoor", sum := "fe03e798b939df528be24eb6fc13192948ca38ff77f6b943e85e360393d7a80c", func := "pandect/pandectlaw36.BitemporalStable", spec := "bitemporalStable", inPlace := ["slices.overlaps[pandect/api.Unit]", "internal/abi.NoEscape", "internal/bytealg.MakeNoZero", "internal/bytealg.IndexByteString", "internal/bytealg.IndexString"], unfollowed := true, recurses := true, named := ["pandect/unit.below", "pandect/syntax.order", "pandect/unit.names", "unicode/utf8.first", "unicode/utf8.acceptRanges", "internal/bytealg.MaxLen"], loops := true, plainKeys := false, apart := false, laid := [("unicode/utf8.acceptRanges", laid_unicode_utf8_acceptRanges), ("pandect/unit.names", laid_pandect_unit_names), ("pandect/unit.below", laid_pandect_unit_below), ("pandect/syntax.order", laid_pandect_syntax_order), ("unicode/utf8.first", laid_unicode_utf8_first)], narrowed := true }
def BitemporalStableUptoSaid : Prop := bitemporalStableUptoRow.holds Tryz.pinned (OpenSpec.upto bitemporalStableSpec)

/-- 'pandectlaw36.BitemporalRevisions', WHERE WHAT IT READS IS OF BULK AT MOST 1048576: true; the input reads as it did. -/
def bitemporalRevisionsUptoRow : OpenClaim := { program := "ytaepacpodblomaagreatdoor", sum := "fe03e798b939df528be24eb6fc13192948ca38ff77f6b943e85e360393d7a80c", func := "pandect/pandectlaw36.BitemporalRevisions", spec := "bitemporalRevisions", inPlace := ["slices.overlaps[pandect/api.Unit]", "internal/abi.NoEscape", "internal/bytealg.MakeNoZero", "internal/bytealg.IndexByteString", "internal/bytealg.IndexString"], unfollowed := true, recurses := true, named := ["pandect/unit.below", "pandect/syntax.order", "pandect/unit.names", "unicode/utf8.first", "unicode/utf8.acceptRanges", "internal/bytealg.MaxLen"], loops := true, plainKeys := false, apart := false, laid := [("unicode/utf8.acceptRanges", laid_unicode_utf8_acceptRanges), ("pandect/unit.names", laid_pandect_unit_names), ("pandect/unit.below", laid_pandect_unit_below), ("pandect/syntax.order", laid_pandect_syntax_order), ("unicode/utf8.first", laid_unicode_utf8_first)], narrowed := true }
def BitemporalRevisionsUptoSaid : Prop := bitemporalRevisionsUptoRow.holds Tryz.pinned (OpenSpec.upto bitemporalRevisionsSpec)

/-- 'pandectlaw36.BitemporalCauses', WHERE WHAT IT READS IS OF BULK AT MOST 1048576: true; the input reads as it did. -/
def bitemporalCausesUptoRow : OpenClaim := { program := "ytaepacpodblomaagreatdoor", sum := "fe03e798b939df528be24eb6fc13192948ca38ff77f6b943e85e360393d7a80c", func := "pandect/pandectlaw36.BitemporalCauses", spec := "bitemporalCauses", inPlace := ["slices.overlaps[pandect/api.Unit]", "internal/abi.NoEscape", "internal/bytealg.MakeNoZero", "internal/bytealg.IndexByteString", "internal/bytealg.IndexString"], unfollowed := true, recurses := true, named := ["pandect/unit.below", "pandect/syntax.order", "pandect/unit.names", "unicode/utf8.first", "unicode/utf8.acceptRanges", "internal/bytealg.MaxLen"], loops := true, plainKeys := false, apart := false, laid := [("unicode/utf8.acceptRanges", laid_unicode_utf8_acceptRanges), ("pandect/unit.names", laid_pandect_unit_names), ("pandect/unit.below", laid_pandect_unit_below), ("pandect/syntax.order", laid_pandect_syntax_order), ("unicode/utf8.first", laid_unicode_utf8_first)], narrowed := true }
def BitemporalCausesUptoSaid : Prop := bitemporalCausesUptoRow.holds Tryz.pinned (OpenSpec.upto bitemporalCausesSpec)

end Rows
end Go.Proofs.YtaepacpodblomaaGreatDoor
