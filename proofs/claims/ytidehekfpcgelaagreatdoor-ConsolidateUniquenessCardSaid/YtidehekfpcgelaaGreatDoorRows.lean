/-
  NARROWER THAN 'FOR EVERY INPUT', by the rows' own cells (each row's printed sentence says how): ConsolidateBooks: loops, laid · ConsolidateUniqueness: loops, laid · ConsolidatePrefixes: loops, laid · ConsolidateOrder: loops, laid · ConsolidatePurposes: loops, laid · ConsolidateSteps: loops, laid.
  DERIVED. THE GIVEN ROWS OF THIS SEAT. 6 by the template 'for every input the law returns true; each argument reads behind the call as it read before'; 0 by the template 'total and deterministic' (their statements: YtidehekfpcgelaaGreatDoorTotals.lean).
  GIVEN WITH THE SEED: the statements are not yours to turn. If you find one false, say at which input.
  Laid BY PROGRAM, IN A SANDBOX (cutbox-rows.mjs): the forced cells as the released guide's own fill.sh prints them over the translation 57a647aa02258e21… (all of the seat's roots in one cut). By AI agents, Wed Nov 11 2026. No macro, syntax, notation, axiom, sorry.
-/
import Derived.Test.YtidehekfpcgelaaGreatDoorChecked
import GoSem.PinnedTables
import GoSem.Claim
import GoSem.ClaimJoined
import GoSem.ClaimMapViews
import Derived.JoinedTies
import Derived.KernelRfl
namespace Go.Proofs.YtidehekfpcgelaaGreatDoor
/- THE CELL 'sum', in the pinned program and in every row, IS THE sha256 OF THE DUMP (.gsa) THAT YtidehekfpcgelaaGreatDoorProg.lean LOADS. Nothing in Lean hashes anything: it is a label: what it is worth is what the hold of that sum in a sandbox is worth. -/
noncomputable def Tryz.pinned : Pinned := { name := "ytidehekfpcgelaagreatdoor", sum := "57a647aa02258e21f345ac3f329d08aa8e66f8692dff764a89506dc6a3a49b7b", checked := Tryz.checked }
namespace Rows
def none {H : Type} : Left H := { results := [], args := [] }

/- WHAT THE LISTED PACKAGE-LEVEL VARIABLES READ AS WHEN THE CALL BEGINS. Each datum BY PROGRAM (the guide's laid-datum.mjs) off the statement by which the dump's own 'gosem.cut.vars' lays the variable. In a bare row this is a premise. The card (YtidehekfpcgelaaGreatDoorCards.lean) ties it to the program's text. -/
def laid_unicode_utf8_acceptRanges {H : Type} : DataW H := .agg [.agg [.lit (.int .u8 128), .lit (.int .u8 191)], .agg [.lit (.int .u8 160), .lit (.int .u8 191)], .agg [.lit (.int .u8 128), .lit (.int .u8 159)], .agg [.lit (.int .u8 144), .lit (.int .u8 191)], .agg [.lit (.int .u8 128), .lit (.int .u8 143)], .agg [.lit (.int .u8 0), .lit (.int .u8 0)], .agg [.lit (.int .u8 0), .lit (.int .u8 0)], .agg [.lit (.int .u8 0), .lit (.int .u8 0)], .agg [.lit (.int .u8 0), .lit (.int .u8 0)], .agg [.lit (.int .u8 0), .lit (.int .u8 0)], .agg [.lit (.int .u8 0), .lit (.int .u8 0)], .agg [.lit (.int .u8 0), .lit (.int .u8 0)], .agg [.lit (.int .u8 0), .lit (.int .u8 0)], .agg [.lit (.int .u8 0), .lit (.int .u8 0)], .agg [.lit (.int .u8 0), .lit (.int .u8 0)], .agg [.lit (.int .u8 0), .lit (.int .u8 0)]]
def laid_pandect_unit_names {H : Type} : DataW H := .agg [.lit (.string [98, 111, 111, 107]), .lit (.string [112, 97, 114, 116]), .lit (.string [115, 101, 99, 116, 105, 111, 110]), .lit (.string [112, 97, 114, 97, 103, 114, 97, 112, 104]), .lit (.string [116, 97, 98, 108, 101]), .lit (.string [114, 111, 119]), .lit (.string [99, 101, 108, 108]), .lit (.string [110, 111, 116, 101])]
def laid_pandect_unit_below {H : Type} : DataW H := .agg [.slice [.lit (.int .i64 1), .lit (.int .i64 2)] [], .slice [.lit (.int .i64 2)] [], .slice [.lit (.int .i64 3), .lit (.int .i64 4), .lit (.int .i64 7)] [], .slice [.lit (.int .i64 3), .lit (.int .i64 4), .lit (.int .i64 7)] [], .slice [.lit (.int .i64 5)] [], .slice [.lit (.int .i64 6)] [], .nil, .nil]
def laid_pandect_syntax_order {H : Type} : DataW H := .iface "func table" (.agg [.iface "func" (.lit (.string [112, 97, 110, 100, 101, 99, 116, 47, 115, 121, 110, 116, 97, 120, 46, 111, 114, 100, 101, 114, 36, 49])), .iface "func" (.lit (.string [112, 97, 110, 100, 101, 99, 116, 47, 115, 121, 110, 116, 97, 120, 46, 111, 114, 100, 101, 114, 36, 50]))])
/-- One of Go's own tables, pinned by name: the form's constant. -/
def laid_unicode_utf8_first : DataW Unit := Go.Pinned.utf8First

/-- 'pandectlaw30.ConsolidateBooks': WHATEVER THE INPUT: true; the input reads as it did. -/
def consolidateBooksSpec : ChangeSpec := { name := "consolidateBooks", fn := fun _ => fun
  | [d1, d2, d3] => { results := [.lit (.bool true)], args := [d1, d2, d3] }
  | _ => none }
def consolidateBooksRow : OpenClaim := { program := "ytidehekfpcgelaagreatdoor", sum := "57a647aa02258e21f345ac3f329d08aa8e66f8692dff764a89506dc6a3a49b7b", func := "pandect/pandectlaw30.ConsolidateBooks", spec := "consolidateBooks", inPlace := ["slices.overlaps[pandect/api.Unit]", "internal/abi.NoEscape", "internal/bytealg.MakeNoZero", "internal/bytealg.IndexByteString", "internal/bytealg.IndexString"], unfollowed := true, recurses := true, named := ["pandect/unit.below", "pandect/syntax.order", "pandect/unit.names", "unicode/utf8.first", "unicode/utf8.acceptRanges", "internal/bytealg.MaxLen"], loops := true, plainKeys := false, apart := false, laid := [("unicode/utf8.acceptRanges", laid_unicode_utf8_acceptRanges), ("pandect/unit.names", laid_pandect_unit_names), ("pandect/unit.below", laid_pandect_unit_below), ("pandect/syntax.order", laid_pandect_syntax_order), ("unicode/utf8.first", laid_unicode_utf8_first)] }
def ConsolidateBooksSaid : Prop := consolidateBooksRow.holds Tryz.pinned (OpenSpec.ofChange consolidateBooksSpec)

/-- ITS FALSE NEIGHBOUR: 'it returns false'. Refute it at one input. -/
def consolidateBooksWrong : ChangeSpec := { name := "consolidateBooks", fn := fun _ => fun
  | [d1, d2, d3] => { results := [.lit (.bool false)], args := [d1, d2, d3] }
  | _ => none }
def ConsolidateBooksWrongFalsely : Prop := consolidateBooksRow.holds Tryz.pinned (OpenSpec.ofChange consolidateBooksWrong)

/-- 'pandectlaw30.ConsolidateUniqueness': WHATEVER THE INPUT: true; the input reads as it did. -/
def consolidateUniquenessSpec : ChangeSpec := { name := "consolidateUniqueness", fn := fun _ => fun
  | [d1, d2, d3] => { results := [.lit (.bool true)], args := [d1, d2, d3] }
  | _ => none }
def consolidateUniquenessRow : OpenClaim := { program := "ytidehekfpcgelaagreatdoor", sum := "57a647aa02258e21f345ac3f329d08aa8e66f8692dff764a89506dc6a3a49b7b", func := "pandect/pandectlaw30.ConsolidateUniqueness", spec := "consolidateUniqueness", inPlace := ["slices.overlaps[pandect/api.Unit]", "internal/abi.NoEscape", "internal/bytealg.MakeNoZero", "internal/bytealg.IndexByteString", "internal/bytealg.IndexString"], unfollowed := true, recurses := true, named := ["pandect/unit.below", "pandect/syntax.order", "pandect/unit.names", "unicode/utf8.first", "unicode/utf8.acceptRanges", "internal/bytealg.MaxLen"], loops := true, plainKeys := false, apart := false, laid := [("unicode/utf8.acceptRanges", laid_unicode_utf8_acceptRanges), ("pandect/unit.names", laid_pandect_unit_names), ("pandect/unit.below", laid_pandect_unit_below), ("pandect/syntax.order", laid_pandect_syntax_order), ("unicode/utf8.first", laid_unicode_utf8_first)] }
def ConsolidateUniquenessSaid : Prop := consolidateUniquenessRow.holds Tryz.pinned (OpenSpec.ofChange consolidateUniquenessSpec)

/-- ITS FALSE NEIGHBOUR: 'it returns false'. Refute it at one input. -/
def consolidateUniquenessWrong : ChangeSpec := { name := "consolidateUniqueness", fn := fun _ => fun
  | [d1, d2, d3] => { results := [.lit (.bool false)], args := [d1, d2, d3] }
  | _ => none }
def ConsolidateUniquenessWrongFalsely : Prop := consolidateUniquenessRow.holds Tryz.pinned (OpenSpec.ofChange consolidateUniquenessWrong)

/-- 'pandectlaw30.ConsolidatePrefixes': WHATEVER THE INPUT: true; the input reads as it did. -/
def consolidatePrefixesSpec : ChangeSpec := { name := "consolidatePrefixes", fn := fun _ => fun
  | [d1, d2, d3, d4] => { results := [.lit (.bool true)], args := [d1, d2, d3, d4] }
  | _ => none }
def consolidatePrefixesRow : OpenClaim := { program := "ytidehekfpcgelaagreatdoor", sum := "57a647aa02258e21f345ac3f329d08aa8e66f8692dff764a89506dc6a3a49b7b", func := "pandect/pandectlaw30.ConsolidatePrefixes", spec := "consolidatePrefixes", inPlace := ["slices.overlaps[pandect/api.Unit]", "internal/abi.NoEscape", "internal/bytealg.MakeNoZero", "internal/bytealg.IndexByteString", "internal/bytealg.IndexString"], unfollowed := true, recurses := true, named := ["pandect/unit.below", "pandect/syntax.order", "pandect/unit.names", "unicode/utf8.first", "unicode/utf8.acceptRanges", "internal/bytealg.MaxLen"], loops := true, plainKeys := false, apart := false, laid := [("unicode/utf8.acceptRanges", laid_unicode_utf8_acceptRanges), ("pandect/unit.names", laid_pandect_unit_names), ("pandect/unit.below", laid_pandect_unit_below), ("pandect/syntax.order", laid_pandect_syntax_order), ("unicode/utf8.first", laid_unicode_utf8_first)] }
def ConsolidatePrefixesSaid : Prop := consolidatePrefixesRow.holds Tryz.pinned (OpenSpec.ofChange consolidatePrefixesSpec)

/-- ITS FALSE NEIGHBOUR: 'it returns false'. Refute it at one input. -/
def consolidatePrefixesWrong : ChangeSpec := { name := "consolidatePrefixes", fn := fun _ => fun
  | [d1, d2, d3, d4] => { results := [.lit (.bool false)], args := [d1, d2, d3, d4] }
  | _ => none }
def ConsolidatePrefixesWrongFalsely : Prop := consolidatePrefixesRow.holds Tryz.pinned (OpenSpec.ofChange consolidatePrefixesWrong)

/-- 'pandectlaw30.ConsolidateOrder': WHATEVER THE INPUT: true; the input reads as it did. -/
def consolidateOrderSpec : ChangeSpec := { name := "consolidateOrder", fn := fun _ => fun
  | [d1, d2, d3, d4] => { results := [.lit (.bool true)], args := [d1, d2, d3, d4] }
  | _ => none }
def consolidateOrderRow : OpenClaim := { program := "ytidehekfpcgelaagreatdoor", sum := "57a647aa02258e21f345ac3f329d08aa8e66f8692dff764a89506dc6a3a49b7b", func := "pandect/pandectlaw30.ConsolidateOrder", spec := "consolidateOrder", inPlace := ["slices.overlaps[pandect/api.Unit]", "internal/abi.NoEscape", "internal/bytealg.MakeNoZero", "internal/bytealg.IndexByteString", "internal/bytealg.IndexString"], unfollowed := true, recurses := true, named := ["pandect/unit.below", "pandect/syntax.order", "pandect/unit.names", "unicode/utf8.first", "unicode/utf8.acceptRanges", "internal/bytealg.MaxLen"], loops := true, plainKeys := false, apart := false, laid := [("unicode/utf8.acceptRanges", laid_unicode_utf8_acceptRanges), ("pandect/unit.names", laid_pandect_unit_names), ("pandect/unit.below", laid_pandect_unit_below), ("pandect/syntax.order", laid_pandect_syntax_order), ("unicode/utf8.first", laid_unicode_utf8_first)] }
def ConsolidateOrderSaid : Prop := consolidateOrderRow.holds Tryz.pinned (OpenSpec.ofChange consolidateOrderSpec)

/-- ITS FALSE NEIGHBOUR: 'it returns false'. Refute it at one input. -/
def consolidateOrderWrong : ChangeSpec := { name := "consolidateOrder", fn := fun _ => fun
  | [d1, d2, d3, d4] => { results := [.lit (.bool false)], args := [d1, d2, d3, d4] }
  | _ => none }
def ConsolidateOrderWrongFalsely : Prop := consolidateOrderRow.holds Tryz.pinned (OpenSpec.ofChange consolidateOrderWrong)

/-- 'pandectlaw30.ConsolidatePurposes': WHATEVER THE INPUT: true; the input reads as it did. -/
def consolidatePurposesSpec : ChangeSpec := { name := "consolidatePurposes", fn := fun _ => fun
  | [d1, d2, d3] => { results := [.lit (.bool true)], args := [d1, d2, d3] }
  | _ => none }
def consolidatePurposesRow : OpenClaim := { program := "ytidehekfpcgelaagreatdoor", sum := "57a647aa02258e21f345ac3f329d08aa8e66f8692dff764a89506dc6a3a49b7b", func := "pandect/pandectlaw30.ConsolidatePurposes", spec := "consolidatePurposes", inPlace := ["slices.overlaps[pandect/api.Unit]", "internal/abi.NoEscape", "internal/bytealg.MakeNoZero", "internal/bytealg.IndexByteString", "internal/bytealg.IndexString"], unfollowed := true, recurses := true, named := ["pandect/unit.below", "pandect/syntax.order", "pandect/unit.names", "unicode/utf8.first", "unicode/utf8.acceptRanges", "internal/bytealg.MaxLen"], loops := true, plainKeys := false, apart := false, laid := [("unicode/utf8.acceptRanges", laid_unicode_utf8_acceptRanges), ("pandect/unit.names", laid_pandect_unit_names), ("pandect/unit.below", laid_pandect_unit_below), ("pandect/syntax.order", laid_pandect_syntax_order), ("unicode/utf8.first", laid_unicode_utf8_first)] }
def ConsolidatePurposesSaid : Prop := consolidatePurposesRow.holds Tryz.pinned (OpenSpec.ofChange consolidatePurposesSpec)

/-- ITS FALSE NEIGHBOUR: 'it returns false'. Refute it at one input. -/
def consolidatePurposesWrong : ChangeSpec := { name := "consolidatePurposes", fn := fun _ => fun
  | [d1, d2, d3] => { results := [.lit (.bool false)], args := [d1, d2, d3] }
  | _ => none }
def ConsolidatePurposesWrongFalsely : Prop := consolidatePurposesRow.holds Tryz.pinned (OpenSpec.ofChange consolidatePurposesWrong)

/-- 'pandectlaw30.ConsolidateSteps': WHATEVER THE INPUT: true; the input reads as it did. -/
def consolidateStepsSpec : ChangeSpec := { name := "consolidateSteps", fn := fun _ => fun
  | [d1, d2, d3] => { results := [.lit (.bool true)], args := [d1, d2, d3] }
  | _ => none }
def consolidateStepsRow : OpenClaim := { program := "ytidehekfpcgelaagreatdoor", sum := "57a647aa02258e21f345ac3f329d08aa8e66f8692dff764a89506dc6a3a49b7b", func := "pandect/pandectlaw30.ConsolidateSteps", spec := "consolidateSteps", inPlace := ["slices.overlaps[pandect/api.Unit]", "internal/abi.NoEscape", "internal/bytealg.MakeNoZero", "internal/bytealg.IndexByteString", "internal/bytealg.IndexString"], unfollowed := true, recurses := true, named := ["pandect/unit.below", "pandect/syntax.order", "pandect/unit.names", "unicode/utf8.first", "unicode/utf8.acceptRanges", "internal/bytealg.MaxLen"], loops := true, plainKeys := false, apart := false, laid := [("unicode/utf8.acceptRanges", laid_unicode_utf8_acceptRanges), ("pandect/unit.names", laid_pandect_unit_names), ("pandect/unit.below", laid_pandect_unit_below), ("pandect/syntax.order", laid_pandect_syntax_order), ("unicode/utf8.first", laid_unicode_utf8_first)] }
def ConsolidateStepsSaid : Prop := consolidateStepsRow.holds Tryz.pinned (OpenSpec.ofChange consolidateStepsSpec)

/-- ITS FALSE NEIGHBOUR: 'it returns false'. Refute it at one input. -/
def consolidateStepsWrong : ChangeSpec := { name := "consolidateSteps", fn := fun _ => fun
  | [d1, d2, d3] => { results := [.lit (.bool false)], args := [d1, d2, d3] }
  | _ => none }
def ConsolidateStepsWrongFalsely : Prop := consolidateStepsRow.holds Tryz.pinned (OpenSpec.ofChange consolidateStepsWrong)

/- THE SECOND FORM. 'bulk': how many values and letters a reading holds, each counted each time it is reached (what is shared counts as often as it is met; a slice's spare places count too). A statement '..UptoSaid' is the law's where the arguments, and the package variables that the reading takes, are together of bulk at most 1048576: NARROWER than '..Said'. Prove '..Said' where nothing that the law and all that it calls make is longer than what came in: it says more and counts as full. Else prove '..UptoSaid'. A law counts once. -/
mutual
def uptoBulk {H : Type} : DataW H → Nat
  | .lit (.string bytes) => bytes.length + 1
  | .lit _ => 1
  | .nil => 1
  | .ptr d => uptoBulk d + 1
  | .slice elems spare => uptoBulkAll elems + uptoBulkAll spare + 1
  | .agg parts => uptoBulkAll parts + 1
  | .iface _ d => uptoBulk d + 1
  | .map entries => uptoBulkEntries entries + 1
  | .held _ => 1
def uptoBulkAll {H : Type} : List (DataW H) → Nat
  | [] => 0
  | d :: r => uptoBulk d + uptoBulkAll r
def uptoBulkEntries {H : Type} : List (Lit × DataW H) → Nat
  | [] => 0
  | x :: r => uptoBulkEntry x + uptoBulkEntries r
def uptoBulkEntry {H : Type} : Lit × DataW H → Nat
  | (.string bytes, d) => bytes.length + uptoBulk d + 1
  | (_, d) => uptoBulk d + 1
 end
def uptoSmall : (H : Type) → List (DataW H) → Bool := fun _ ds => decide (uptoBulkAll ds ≤ 1048576)
def OpenSpec.upto (s : _root_.Go.ChangeSpec) : _root_.Go.OpenSpec := { _root_.Go.OpenSpec.ofChange s with cond := some uptoSmall }

/-- 'pandectlaw30.ConsolidateBooks', WHERE WHAT IT READS IS OF BULK AT MOST 1048576: true; the input reads as it did. -/
def consolidateBooksUptoRow : OpenClaim := { program := "ytidehekfpcgelaagreatdoor", sum := "57a647aa02258e21f345ac3f329d08aa8e66f8692dff764a89506dc6a3a49b7b", func := "pandect/pandectlaw30.ConsolidateBooks", spec := "consolidateBooks", inPlace := ["slices.overlaps[pandect/api.Unit]", "internal/abi.NoEscape", "internal/bytealg.MakeNoZero", "internal/bytealg.IndexByteString", "internal/bytealg.IndexString"], unfollowed := true, recurses := true, named := ["pandect/unit.below", "pandect/syntax.order", "pandect/unit.names", "unicode/utf8.first", "unicode/utf8.acceptRanges", "internal/bytealg.MaxLen"], loops := true, plainKeys := false, apart := false, laid := [("unicode/utf8.acceptRanges", laid_unicode_utf8_acceptRanges), ("pandect/unit.names", laid_pandect_unit_names), ("pandect/unit.below", laid_pandect_unit_below), ("pandect/syntax.order", laid_pandect_syntax_order), ("unicode/utf8.first", laid_unicode_utf8_first)], narrowed := true }
def ConsolidateBooksUptoSaid : Prop := consolidateBooksUptoRow.holds Tryz.pinned (OpenSpec.upto consolidateBooksSpec)

/-- 'pandectlaw30.ConsolidateUniqueness', WHERE WHAT IT READS IS OF BULK AT MOST 1048576: true; the input reads as it did. -/
def consolidateUniquenessUptoRow : OpenClaim := { program := "ytidehekfpcgelaagreatdoor", sum := "57a647aa02258e21f345ac3f329d08aa8e66f8692dff764a89506dc6a3a49b7b", func := "pandect/pandectlaw30.ConsolidateUniqueness", spec := "consolidateUniqueness", inPlace := ["slices.overlaps[pandect/api.Unit]", "internal/abi.NoEscape", "internal/bytealg.MakeNoZero", "internal/bytealg.IndexByteString", "internal/bytealg.IndexString"], unfollowed := true, recurses := true, named := ["pandect/unit.below", "pandect/syntax.order", "pandect/unit.names", "unicode/utf8.first", "unicode/utf8.acceptRanges", "internal/bytealg.MaxLen"], loops := true, plainKeys := false, apart := false, laid := [("unicode/utf8.acceptRanges", laid_unicode_utf8_acceptRanges), ("pandect/unit.names", laid_pandect_unit_names), ("pandect/unit.below", laid_pandect_unit_below), ("pandect/syntax.order", laid_pandect_syntax_order), ("unicode/utf8.first", laid_unicode_utf8_first)], narrowed := true }
def ConsolidateUniquenessUptoSaid : Prop := consolidateUniquenessUptoRow.holds Tryz.pinned (OpenSpec.upto consolidateUniquenessSpec)

/-- 'pandectlaw30.ConsolidatePrefixes', WHERE WHAT IT READS IS OF BULK AT MOST 1048576: true; the input reads as it did. -/
def consolidatePrefixesUptoRow : OpenClaim := { program := "ytidehekfpcgelaagreatdoor", sum := "57a647aa02258e21f345ac3f329d08aa8e66f8692dff764a89506dc6a3a49b7b", func := "pandect/pandectlaw30.ConsolidatePrefixes", spec := "consolidatePrefixes", inPlace := ["slices.overlaps[pandect/api.Unit]", "internal/abi.NoEscape", "internal/bytealg.MakeNoZero", "internal/bytealg.IndexByteString", "internal/bytealg.IndexString"], unfollowed := true, recurses := true, named := ["pandect/unit.below", "pandect/syntax.order", "pandect/unit.names", "unicode/utf8.first", "unicode/utf8.acceptRanges", "internal/bytealg.MaxLen"], loops := true, plainKeys := false, apart := false, laid := [("unicode/utf8.acceptRanges", laid_unicode_utf8_acceptRanges), ("pandect/unit.names", laid_pandect_unit_names), ("pandect/unit.below", laid_pandect_unit_below), ("pandect/syntax.order", laid_pandect_syntax_order), ("unicode/utf8.first", laid_unicode_utf8_first)], narrowed := true }
def ConsolidatePrefixesUptoSaid : Prop := consolidatePrefixesUptoRow.holds Tryz.pinned (OpenSpec.upto consolidatePrefixesSpec)

/-- 'pandectlaw30.ConsolidateOrder', WHERE WHAT IT READS IS OF BULK AT MOST 1048576: true; the input reads as it did. -/
def consolidateOrderUptoRow : OpenClaim := { program := "ytidehekfpcgelaagreatdoor", sum := "57a647aa02258e21f345ac3f329d08aa8e66f8692dff764a89506dc6a3a49b7b", func := "pandect/pandectlaw30.ConsolidateOrder", spec := "consolidateOrder", inPlace := ["slices.overlaps[pandect/api.Unit]", "internal/abi.NoEscape", "internal/bytealg.MakeNoZero", "internal/bytealg.IndexByteString", "internal/bytealg.IndexString"], unfollowed := true, recurses := true, named := ["pandect/unit.below", "pandect/syntax.order", "pandect/unit.names", "unicode/utf8.first", "unicode/utf8.acceptRanges", "internal/bytealg.MaxLen"], loops := true, plainKeys := false, apart := false, laid := [("unicode/utf8.acceptRanges", laid_unicode_utf8_acceptRanges), ("pandect/unit.names", laid_pandect_unit_names), ("pandect/unit.below", laid_pandect_unit_below), ("pandect/syntax.order", laid_pandect_syntax_order), ("unicode/utf8.first", laid_unicode_utf8_first)], narrowed := true }
def ConsolidateOrderUptoSaid : Prop := consolidateOrderUptoRow.holds Tryz.pinned (OpenSpec.upto consolidateOrderSpec)

/-- 'pandectlaw30.ConsolidatePurposes', WHERE WHAT IT READS IS OF BULK AT MOST 1048576: true; the input reads as it did. -/
def consolidatePurposesUptoRow : OpenClaim := { program := "ytidehekfpcgelaagreatdoor", sum := "57a647aa02258e21f345ac3f329d08aa8e66f8692dff764a89506dc6a3a49b7b", func := "pandect/pandectlaw30.ConsolidatePurposes", spec := "consolidatePurposes", inPlace := ["slices.overlaps[pandect/api.Unit]", "internal/abi.NoEscape", "internal/bytealg.MakeNoZero", "internal/bytealg.IndexByteString", "internal/bytealg.IndexString"], unfollowed := true, recurses := true, named := ["pandect/unit.below", "pandect/syntax.order", "pandect/unit.names", "unicode/utf8.first", "unicode/utf8.acceptRanges", "internal/bytealg.MaxLen"], loops := true, plainKeys := false, apart := false, laid := [("unicode/utf8.acceptRanges", laid_unicode_utf8_acceptRanges), ("pandect/unit.names", laid_pandect_unit_names), ("pandect/unit.below", laid_pandect_unit_below), ("pandect/syntax.order", laid_pandect_syntax_order), ("unicode/utf8.first", laid_unicode_utf8_first)], narrowed := true }
def ConsolidatePurposesUptoSaid : Prop := consolidatePurposesUptoRow.holds Tryz.pinned (OpenSpec.upto consolidatePurposesSpec)

/-- 'pandectlaw30.ConsolidateSteps', WHERE WHAT IT READS IS OF BULK AT MOST 1048576: true; the input reads as it did. -/
def consolidateStepsUptoRow : OpenClaim := { program := "ytidehekfpcgelaagreatdoor", sum := "57a647aa02258e21f345ac3f329d08aa8e66f8692dff764a89506dc6a3a49b7b", func := "pandect/pandectlaw30.ConsolidateSteps", spec := "consolidateSteps", inPlace := ["slices.overlaps[pandect/api.Unit]", "internal/abi.NoEscape", "internal/bytealg.MakeNoZero", "internal/bytealg.IndexByteString", "internal/bytealg.IndexString"], unfollowed := true, recurses := true, named := ["pandect/unit.below", "pandect/syntax.order", "pandect/unit.names", "unicode/utf8.first", "unicode/utf8.acceptRanges", "internal/bytealg.MaxLen"], loops := true, plainKeys := false, apart := false, laid := [("unicode/utf8.acceptRanges", laid_unicode_utf8_acceptRanges), ("pandect/unit.names", laid_pandect_unit_names), ("pandect/unit.below", laid_pandect_unit_below), ("pandect/syntax.order", laid_pandect_syntax_order), ("unicode/utf8.first", laid_unicode_utf8_first)], narrowed := true }
def ConsolidateStepsUptoSaid : Prop := consolidateStepsUptoRow.holds Tryz.pinned (OpenSpec.upto consolidateStepsSpec)

end Rows
end Go.Proofs.YtidehekfpcgelaaGreatDoor
