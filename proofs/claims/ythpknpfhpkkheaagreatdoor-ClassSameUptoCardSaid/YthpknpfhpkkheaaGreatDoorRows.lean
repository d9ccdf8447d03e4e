/-
  NARROWER THAN 'FOR EVERY INPUT', by the rows' own cells (each row's printed sentence says how): ClassChecks: laid · ClassPuts: laid · ClassGets: laid · ClassSame: laid · ClassSigns: laid · ClassUnpacks: laid · ClassLists: laid · ClassPacks: laid.
  DERIVED. THE GIVEN ROWS OF THIS SEAT. 8 by the template 'for every input the law returns true; each argument reads behind the call as it read before'; 0 by the template 'total and deterministic' (their statements: YthpknpfhpkkheaaGreatDoorTotals.lean).
  GIVEN WITH THE SEED: the statements are not yours to turn. If you find one false, say at which input.
  Laid BY PROGRAM, IN A SANDBOX (cutbox-rows.mjs): the forced cells as the released guide's own fill.sh prints them over the translation 0d038ffef179b27e… (all of the seat's roots in one cut). By AI agents, Wed Nov 11 2026. No macro, syntax, notation, axiom, sorry.
-/
import Derived.Test.YthpknpfhpkkheaaGreatDoorChecked
import GoSem.PinnedTables
import GoSem.Claim
import GoSem.ClaimJoined
import GoSem.ClaimMapViews
import Derived.JoinedTies
import Derived.KernelRfl
namespace Go.Proofs.YthpknpfhpkkheaaGreatDoor
/- THE CELL 'sum', in the pinned program and in every row, IS THE sha256 OF THE DUMP (.gsa) THAT YthpknpfhpkkheaaGreatDoorProg.lean LOADS. Nothing in Lean hashes anything: it is a label: what it is worth is what the hold of that sum in a sandbox is worth. -/
noncomputable def Tryz.pinned : Pinned := { name := "ythpknpfhpkkheaagreatdoor", sum := "0d038ffef179b27eceb4676c1acc7695752bc1d40c2c714f8b37c92dfd6f72ed", checked := Tryz.checked }
namespace Rows
def none {H : Type} : Left H := { results := [], args := [] }

/- WHAT THE LISTED PACKAGE-LEVEL VARIABLES READ AS WHEN THE CALL BEGINS. Each datum BY PROGRAM (the guide's laid-datum.mjs) off the statement by which the dump's own 'gosem.cut.vars' lays the variable. In a bare row this is a premise. The card (YthpknpfhpkkheaaGreatDoorCards.lean) ties it to the program's text. -/
def laid_unicode_utf8_acceptRanges {H : Type} : DataW H := .agg [.agg [.lit (.int .u8 128), .lit (.int .u8 191)], .agg [.lit (.int .u8 160), .lit (.int .u8 191)], .agg [.lit (.int .u8 128), .lit (.int .u8 159)], .agg [.lit (.int .u8 144), .lit (.int .u8 191)], .agg [.lit (.int .u8 128), .lit (.int .u8 143)], .agg [.lit (.int .u8 0), .lit (.int .u8 0)], .agg [.lit (.int .u8 0), .lit (.int .u8 0)], .agg [.lit (.int .u8 0), .lit (.int .u8 0)], .agg [.lit (.int .u8 0), .lit (.int .u8 0)], .agg [.lit (.int .u8 0), .lit (.int .u8 0)], .agg [.lit (.int .u8 0), .lit (.int .u8 0)], .agg [.lit (.int .u8 0), .lit (.int .u8 0)], .agg [.lit (.int .u8 0), .lit (.int .u8 0)], .agg [.lit (.int .u8 0), .lit (.int .u8 0)], .agg [.lit (.int .u8 0), .lit (.int .u8 0)], .agg [.lit (.int .u8 0), .lit (.int .u8 0)]]
def laid_squinch_code_ops {H : Type} : DataW H := .agg [.agg [.lit (.string [105, 110, 116]), .lit (.bool true), .lit (.bool false)], .agg [.lit (.string [116, 114, 117, 101]), .lit (.bool false), .lit (.bool false)], .agg [.lit (.string [102, 97, 108, 115, 101]), .lit (.bool false), .lit (.bool false)], .agg [.lit (.string [119, 111, 114, 100]), .lit (.bool false), .lit (.bool true)], .agg [.lit (.string [110, 117, 108, 108]), .lit (.bool false), .lit (.bool false)], .agg [.lit (.string [108, 111, 97, 100]), .lit (.bool true), .lit (.bool false)], .agg [.lit (.string [115, 116, 111, 114, 101]), .lit (.bool true), .lit (.bool false)], .agg [.lit (.string [112, 111, 112]), .lit (.bool false), .lit (.bool false)], .agg [.lit (.string [100, 117, 112]), .lit (.bool false), .lit (.bool false)], .agg [.lit (.string [115, 119, 97, 112]), .lit (.bool false), .lit (.bool false)], .agg [.lit (.string [97, 100, 100]), .lit (.bool false), .lit (.bool false)], .agg [.lit (.string [115, 117, 98]), .lit (.bool false), .lit (.bool false)], .agg [.lit (.string [109, 117, 108]), .lit (.bool false), .lit (.bool false)], .agg [.lit (.string [100, 105, 118]), .lit (.bool false), .lit (.bool false)], .agg [.lit (.string [114, 101, 109]), .lit (.bool false), .lit (.bool false)], .agg [.lit (.string [110, 101, 103]), .lit (.bool false), .lit (.bool false)], .agg [.lit (.string [108, 101, 115, 115]), .lit (.bool false), .lit (.bool false)], .agg [.lit (.string [115, 97, 109, 101]), .lit (.bool false), .lit (.bool false)], .agg [.lit (.string [110, 111, 116]), .lit (.bool false), .lit (.bool false)], .agg [.lit (.string [98, 111, 116, 104]), .lit (.bool false), .lit (.bool false)], .agg [.lit (.string [106, 111, 105, 110]), .lit (.bool false), .lit (.bool false)], .agg [.lit (.string [115, 105, 122, 101]), .lit (.bool false), .lit (.bool false)], .agg [.lit (.string [106, 117, 109, 112]), .lit (.bool true), .lit (.bool false)], .agg [.lit (.string [98, 114, 97, 110, 99, 104]), .lit (.bool true), .lit (.bool false)], .agg [.lit (.string [110, 101, 119]), .lit (.bool false), .lit (.bool true)], .agg [.lit (.string [103, 101, 116]), .lit (.bool false), .lit (.bool true)], .agg [.lit (.string [112, 117, 116]), .lit (.bool false), .lit (.bool true)], .agg [.lit (.string [99, 97, 108, 108]), .lit (.bool false), .lit (.bool true)], .agg [.lit (.string [97, 114, 114, 97, 121]), .lit (.bool false), .lit (.bool true)], .agg [.lit (.string [97, 116]), .lit (.bool false), .lit (.bool false)], .agg [.lit (.string [115, 101, 116]), .lit (.bool false), .lit (.bool false)], .agg [.lit (.string [105, 115]), .lit (.bool false), .lit (.bool true)], .agg [.lit (.string [99, 97, 115, 116]), .lit (.bool false), .lit (.bool true)], .agg [.lit (.string [114, 101, 116, 117, 114, 110]), .lit (.bool false), .lit (.bool false)], .agg [.lit (.string [116, 104, 114, 111, 119]), .lit (.bool false), .lit (.bool false)], .agg [.lit (.string [111, 117, 116]), .lit (.bool false), .lit (.bool false)], .agg [.lit (.string [101, 113, 117, 97, 108]), .lit (.bool false), .lit (.bool false)], .agg [.lit (.string [97, 110, 100]), .lit (.bool false), .lit (.bool false)], .agg [.lit (.string [111, 114]), .lit (.bool false), .lit (.bool false)], .agg [.lit (.string [120, 111, 114]), .lit (.bool false), .lit (.bool false)], .agg [.lit (.string [115, 104, 108]), .lit (.bool false), .lit (.bool false)], .agg [.lit (.string [115, 104, 114]), .lit (.bool false), .lit (.bool false)]]
/-- One of Go's own tables, pinned by name: the form's constant. -/
def laid_unicode_utf8_first : DataW Unit := Go.Pinned.utf8First

/-- 'squinchlaw05.ClassChecks': WHATEVER THE INPUT: true; the input reads as it did. -/
def classChecksSpec : ChangeSpec := { name := "classChecks", fn := fun _ => fun
  | [d] => { results := [.lit (.bool true)], args := [d] }
  | _ => none }
def classChecksRow : OpenClaim := { program := "ythpknpfhpkkheaagreatdoor", sum := "0d038ffef179b27eceb4676c1acc7695752bc1d40c2c714f8b37c92dfd6f72ed", func := "squinch/squinchlaw05.ClassChecks", spec := "classChecks", inPlace := ["internal/bytealg.IndexByteString", "internal/bytealg.IndexString", "internal/abi.NoEscape", "internal/bytealg.MakeNoZero"], unfollowed := true, recurses := true, named := ["squinch/code.ops", "unicode/utf8.first", "unicode/utf8.acceptRanges", "internal/bytealg.MaxLen"], apart := false, laid := [("unicode/utf8.acceptRanges", laid_unicode_utf8_acceptRanges), ("squinch/code.ops", laid_squinch_code_ops), ("unicode/utf8.first", laid_unicode_utf8_first)] }
def ClassChecksSaid : Prop := classChecksRow.holds Tryz.pinned (OpenSpec.ofChange classChecksSpec)

/-- ITS FALSE NEIGHBOUR: 'it returns false'. Refute it at one input. -/
def classChecksWrong : ChangeSpec := { name := "classChecks", fn := fun _ => fun
  | [d] => { results := [.lit (.bool false)], args := [d] }
  | _ => none }
def ClassChecksWrongFalsely : Prop := classChecksRow.holds Tryz.pinned (OpenSpec.ofChange classChecksWrong)

/-- 'squinchlaw05.ClassPuts': WHATEVER THE INPUT: true; the input reads as it did. -/
def classPutsSpec : ChangeSpec := { name := "classPuts", fn := fun _ => fun
  | [d] => { results := [.lit (.bool true)], args := [d] }
  | _ => none }
def classPutsRow : OpenClaim := { program := "ythpknpfhpkkheaagreatdoor", sum := "0d038ffef179b27eceb4676c1acc7695752bc1d40c2c714f8b37c92dfd6f72ed", func := "squinch/squinchlaw05.ClassPuts", spec := "classPuts", inPlace := ["internal/bytealg.IndexByteString", "internal/bytealg.IndexString", "internal/abi.NoEscape", "internal/bytealg.MakeNoZero"], unfollowed := true, recurses := true, named := ["squinch/code.ops", "unicode/utf8.first", "unicode/utf8.acceptRanges", "internal/bytealg.MaxLen"], apart := false, laid := [("unicode/utf8.acceptRanges", laid_unicode_utf8_acceptRanges), ("squinch/code.ops", laid_squinch_code_ops), ("unicode/utf8.first", laid_unicode_utf8_first)] }
def ClassPutsSaid : Prop := classPutsRow.holds Tryz.pinned (OpenSpec.ofChange classPutsSpec)

/-- ITS FALSE NEIGHBOUR: 'it returns false'. Refute it at one input. -/
def classPutsWrong : ChangeSpec := { name := "classPuts", fn := fun _ => fun
  | [d] => { results := [.lit (.bool false)], args := [d] }
  | _ => none }
def ClassPutsWrongFalsely : Prop := classPutsRow.holds Tryz.pinned (OpenSpec.ofChange classPutsWrong)

/-- 'squinchlaw05.ClassGets': WHATEVER THE INPUT: true; the input reads as it did. -/
def classGetsSpec : ChangeSpec := { name := "classGets", fn := fun _ => fun
  | [d] => { results := [.lit (.bool true)], args := [d] }
  | _ => none }
def classGetsRow : OpenClaim := { program := "ythpknpfhpkkheaagreatdoor", sum := "0d038ffef179b27eceb4676c1acc7695752bc1d40c2c714f8b37c92dfd6f72ed", func := "squinch/squinchlaw05.ClassGets", spec := "classGets", inPlace := ["internal/bytealg.IndexByteString", "internal/bytealg.IndexString", "internal/abi.NoEscape", "internal/bytealg.MakeNoZero"], unfollowed := true, recurses := true, named := ["squinch/code.ops", "unicode/utf8.first", "unicode/utf8.acceptRanges", "internal/bytealg.MaxLen"], apart := false, laid := [("unicode/utf8.acceptRanges", laid_unicode_utf8_acceptRanges), ("squinch/code.ops", laid_squinch_code_ops), ("unicode/utf8.first", laid_unicode_utf8_first)] }
def ClassGetsSaid : Prop := classGetsRow.holds Tryz.pinned (OpenSpec.ofChange classGetsSpec)

/-- ITS FALSE NEIGHBOUR: 'it returns false'. Refute it at one input. -/
def classGetsWrong : ChangeSpec := { name := "classGets", fn := fun _ => fun
  | [d] => { results := [.lit (.bool false)], args := [d] }
  | _ => none }
def ClassGetsWrongFalsely : Prop := classGetsRow.holds Tryz.pinned (OpenSpec.ofChange classGetsWrong)

/-- 'squinchlaw05.ClassSame': WHATEVER THE INPUT: true; the input reads as it did. -/
def classSameSpec : ChangeSpec := { name := "classSame", fn := fun _ => fun
  | [d1, d2] => { results := [.lit (.bool true)], args := [d1, d2] }
  | _ => none }
def classSameRow : OpenClaim := { program := "ythpknpfhpkkheaagreatdoor", sum := "0d038ffef179b27eceb4676c1acc7695752bc1d40c2c714f8b37c92dfd6f72ed", func := "squinch/squinchlaw05.ClassSame", spec := "classSame", inPlace := ["internal/bytealg.IndexByteString", "internal/bytealg.IndexString", "internal/abi.NoEscape", "internal/bytealg.MakeNoZero"], unfollowed := true, recurses := true, named := ["squinch/code.ops", "unicode/utf8.first", "unicode/utf8.acceptRanges", "internal/bytealg.MaxLen"], apart := false, laid := [("unicode/utf8.acceptRanges", laid_unicode_utf8_acceptRanges), ("squinch/code.ops", laid_squinch_code_ops), ("unicode/utf8.first", laid_unicode_utf8_first)] }
def ClassSameSaid : Prop := classSameRow.holds Tryz.pinned (OpenSpec.ofChange classSameSpec)

/-- ITS FALSE NEIGHBOUR: 'it returns false'. Refute it at one input. -/
def classSameWrong : ChangeSpec := { name := "classSame", fn := fun _ => fun
  | [d1, d2] => { results := [.lit (.bool false)], args := [d1, d2] }
  | _ => none }
def ClassSameWrongFalsely : Prop := classSameRow.holds Tryz.pinned (OpenSpec.ofChange classSameWrong)

/-- 'squinchlaw05.ClassSigns': WHATEVER THE INPUT: true; the input reads as it did. -/
def classSignsSpec : ChangeSpec := { name := "classSigns", fn := fun _ => fun
  | [d1, d2] => { results := [.lit (.bool true)], args := [d1, d2] }
  | _ => none }
def classSignsRow : OpenClaim := { program := "ythpknpfhpkkheaagreatdoor", sum := "0d038ffef179b27eceb4676c1acc7695752bc1d40c2c714f8b37c92dfd6f72ed", func := "squinch/squinchlaw05.ClassSigns", spec := "classSigns", inPlace := ["internal/bytealg.IndexByteString", "internal/bytealg.IndexString", "internal/abi.NoEscape", "internal/bytealg.MakeNoZero"], unfollowed := true, recurses := true, named := ["squinch/code.ops", "unicode/utf8.first", "unicode/utf8.acceptRanges", "internal/bytealg.MaxLen"], apart := false, laid := [("unicode/utf8.acceptRanges", laid_unicode_utf8_acceptRanges), ("squinch/code.ops", laid_squinch_code_ops), ("unicode/utf8.first", laid_unicode_utf8_first)] }
def ClassSignsSaid : Prop := classSignsRow.holds Tryz.pinned (OpenSpec.ofChange classSignsSpec)

/-- ITS FALSE NEIGHBOUR: 'it returns false'. Refute it at one input. -/
def classSignsWrong : ChangeSpec := { name := "classSigns", fn := fun _ => fun
  | [d1, d2] => { results := [.lit (.bool false)], args := [d1, d2] }
  | _ => none }
def ClassSignsWrongFalsely : Prop := classSignsRow.holds Tryz.pinned (OpenSpec.ofChange classSignsWrong)

/-- 'squinchlaw05.ClassUnpacks': WHATEVER THE INPUT: true; the input reads as it did. -/
def classUnpacksSpec : ChangeSpec := { name := "classUnpacks", fn := fun _ => fun
  | [d] => { results := [.lit (.bool true)], args := [d] }
  | _ => none }
def classUnpacksRow : OpenClaim := { program := "ythpknpfhpkkheaagreatdoor", sum := "0d038ffef179b27eceb4676c1acc7695752bc1d40c2c714f8b37c92dfd6f72ed", func := "squinch/squinchlaw05.ClassUnpacks", spec := "classUnpacks", inPlace := ["internal/bytealg.IndexByteString", "internal/bytealg.IndexString", "internal/abi.NoEscape", "internal/bytealg.MakeNoZero"], unfollowed := true, recurses := true, named := ["squinch/code.ops", "unicode/utf8.first", "unicode/utf8.acceptRanges", "internal/bytealg.MaxLen"], apart := false, laid := [("unicode/utf8.acceptRanges", laid_unicode_utf8_acceptRanges), ("squinch/code.ops", laid_squinch_code_ops), ("unicode/utf8.first", laid_unicode_utf8_first)] }
def ClassUnpacksSaid : Prop := classUnpacksRow.holds Tryz.pinned (OpenSpec.ofChange classUnpacksSpec)

/-- ITS FALSE NEIGHBOUR: 'it returns false'. Refute it at one input. -/
def classUnpacksWrong : ChangeSpec := { name := "classUnpacks", fn := fun _ => fun
  | [d] => { results := [.lit (.bool false)], args := [d] }
  | _ => none }
def ClassUnpacksWrongFalsely : Prop := classUnpacksRow.holds Tryz.pinned (OpenSpec.ofChange classUnpacksWrong)

/-- 'squinchlaw05.ClassLists': WHATEVER THE INPUT: true; the input reads as it did. -/
def classListsSpec : ChangeSpec := { name := "classLists", fn := fun _ => fun
  | [d] => { results := [.lit (.bool true)], args := [d] }
  | _ => none }
def classListsRow : OpenClaim := { program := "ythpknpfhpkkheaagreatdoor", sum := "0d038ffef179b27eceb4676c1acc7695752bc1d40c2c714f8b37c92dfd6f72ed", func := "squinch/squinchlaw05.ClassLists", spec := "classLists", inPlace := ["internal/bytealg.IndexByteString", "internal/bytealg.IndexString", "internal/abi.NoEscape", "internal/bytealg.MakeNoZero"], unfollowed := true, recurses := true, named := ["squinch/code.ops", "unicode/utf8.first", "unicode/utf8.acceptRanges", "internal/bytealg.MaxLen"], apart := false, laid := [("unicode/utf8.acceptRanges", laid_unicode_utf8_acceptRanges), ("squinch/code.ops", laid_squinch_code_ops), ("unicode/utf8.first", laid_unicode_utf8_first)] }
def ClassListsSaid : Prop := classListsRow.holds Tryz.pinned (OpenSpec.ofChange classListsSpec)

/-- ITS FALSE NEIGHBOUR: 'it returns false'. Refute it at one input. -/
def classListsWrong : ChangeSpec := { name := "classLists", fn := fun _ => fun
  | [d] => { results := [.lit (.bool false)], args := [d] }
  | _ => none }
def ClassListsWrongFalsely : Prop := classListsRow.holds Tryz.pinned (OpenSpec.ofChange classListsWrong)

/-- 'squinchlaw05.ClassPacks': WHATEVER THE INPUT: true; the input reads as it did. -/
def classPacksSpec : ChangeSpec := { name := "classPacks", fn := fun _ => fun
  | [d] => { results := [.lit (.bool true)], args := [d] }
  | _ => none }
def classPacksRow : OpenClaim := { program := "ythpknpfhpkkheaagreatdoor", sum := "0d038ffef179b27eceb4676c1acc7695752bc1d40c2c714f8b37c92dfd6f72ed", func := "squinch/squinchlaw05.ClassPacks", spec := "classPacks", inPlace := ["internal/bytealg.IndexByteString", "internal/bytealg.IndexString", "internal/abi.NoEscape", "internal/bytealg.MakeNoZero"], unfollowed := true, recurses := true, named := ["squinch/code.ops", "unicode/utf8.first", "unicode/utf8.acceptRanges", "internal/bytealg.MaxLen"], apart := false, laid := [("unicode/utf8.acceptRanges", laid_unicode_utf8_acceptRanges), ("squinch/code.ops", laid_squinch_code_ops), ("unicode/utf8.first", laid_unicode_utf8_first)] }
def ClassPacksSaid : Prop := classPacksRow.holds Tryz.pinned (OpenSpec.ofChange classPacksSpec)

/-- ITS FALSE NEIGHBOUR: 'it returns false'. Refute it at one input. -/
def classPacksWrong : ChangeSpec := { name := "classPacks", fn := fun _ => fun
  | [d] => { results := [.lit (.bool false)], args := [d] }
  | _ => none }
def ClassPacksWrongFalsely : Prop := classPacksRow.holds Tryz.pinned (OpenSpec.ofChange classPacksWrong)

/- THE SECOND FORM. 'bulk': how many values and letters a reading holds, each counted each time it is reached (what is shared counts as often as it is met; a slice's spare places count too). A statement '..UptoSaid' is the law's where the arguments, and the package variables that the reading takes, are together of bulk at most 1048576: NARROWER than '..Said'. Prove '..Said' where nothing that the law and all that it calls make is longer than what came in: it says more and counts as full. Else prove '..UptoSaid'. A law counts once. -/
mutual
def uptoBulk {H : Type} : DataW H → Nat
  | .lit (.string bytes) => bytes.length + 1
  | .lit _ => 1
  | .nil => 1
  | .ptr d => uptoBulk d + 1
  | .slice elems spare => uptoBulkAll elems + uptoBulkAll spare + 1
  | .agg parts => uptoBulkAll parts + 1
  | .iface _ d => uptoBulk d + 1
  | .map entries => uptoBulkEntries entries + 1
  | .held _ => 1
def uptoBulkAll {H : Type} : List (DataW H) → Nat
  | [] => 0
  | d :: r => uptoBulk d + uptoBulkAll r
def uptoBulkEntries {H : Type} : List (Lit × DataW H) → Nat
  | [] => 0
  | x :: r => uptoBulkEntry x + uptoBulkEntries r
def uptoBulkEntry {H : Type} : Lit × DataW H → Nat
  | (.string bytes, d) => bytes.length + uptoBulk d + 1
  | (_, d) => uptoBulk d + 1
 end
def uptoSmall : (H : Type) → List (DataW H) → Bool := fun _ ds => decide (uptoBulkAll ds ≤ 1048576)
def OpenSpec.upto (s : _root_.Go.ChangeSpec) : _root_.Go.OpenSpec := { _root_.Go.OpenSpec.ofChange s with cond := some uptoSmall }

/-- 'squinchlaw05.ClassChecks', WHERE WHAT IT READS IS OF BULK AT MOST 1048576: true; the input reads as it did. -/
def classChecksUptoRow : OpenClaim := { program := "ythpknpfhpkkheaagreatdoor", sum := "0d038ffef179b27eceb4676c1acc7695752bc1d40c2c714f8b37c92dfd6f72ed", func := "squinch/squinchlaw05.ClassChecks", spec := "classChecks", inPlace := ["internal/bytealg.IndexByteString", "internal/bytealg.IndexString", "internal/abi.NoEscape", "internal/bytealg.MakeNoZero"], unfollowed := true, recurses := true, named := ["squinch/code.ops", "unicode/utf8.first", "unicode/utf8.acceptRanges", "internal/bytealg.MaxLen"], apart := false, laid := [("unicode/utf8.acceptRanges", laid_unicode_utf8_acceptRanges), ("squinch/code.ops", laid_squinch_code_ops), ("unicode/utf8.first", laid_unicode_utf8_first)], narrowed := true }
def ClassChecksUptoSaid : Prop := classChecksUptoRow.holds Tryz.pinned (OpenSpec.upto classChecksSpec)

/-- 'squinchlaw05.ClassPuts', WHERE WHAT IT READS IS OF BULK AT MOST 1048576: true; the input reads as it did. -/
def classPutsUptoRow : OpenClaim := { program := "ythpknpfhpkkheaagreatdoor", sum := "0d038ffef179b27eceb4676c1acc7695752bc1d40c2c714f8b37c92dfd6f72ed", func := "squinch/squinchlaw05.ClassPuts", spec := "classPuts", inPlace := ["internal/bytealg.IndexByteString", "internal/bytealg.IndexString", "internal/abi.NoEscape", "internal/bytealg.MakeNoZero"], unfollowed := true, recurses := true, named := ["squinch/code.ops", "unicode/utf8.first", "unicode/utf8.acceptRanges", "internal/bytealg.MaxLen"], apart := false, laid := [("unicode/utf8.acceptRanges", laid_unicode_utf8_acceptRanges), ("squinch/code.ops", laid_squinch_code_ops), ("unicode/utf8.first", laid_unicode_utf8_first)], narrowed := true }
def ClassPutsUptoSaid : Prop := classPutsUptoRow.holds Tryz.pinned (OpenSpec.upto classPutsSpec)

/-- 'squinchlaw05.ClassGets', WHERE WHAT IT READS IS OF BULK AT MOST 1048576: true; the input reads as it did. -/
def classGetsUptoRow : OpenClaim := { program := "ythpknpfhpkkheaagreatdoor", sum := "0d038ffef179b27eceb4676c1acc7695752bc1d40c2c714f8b37c92dfd6f72ed", func := "squinch/squinchlaw05.ClassGets", spec := "classGets", inPlace := ["internal/bytealg.IndexByteString", "internal/bytealg.IndexString", "internal/abi.NoEscape", "internal/bytealg.MakeNoZero"], unfollowed := true, recurses := true, named := ["squinch/code.ops", "unicode/utf8.first", "unicode/utf8.acceptRanges", "internal/bytealg.MaxLen"], apart := false, laid := [("unicode/utf8.acceptRanges", laid_unicode_utf8_acceptRanges), ("squinch/code.ops", laid_squinch_code_ops), ("unicode/utf8.first", laid_unicode_utf8_first)], narrowed := true }
def ClassGetsUptoSaid : Prop := classGetsUptoRow.holds Tryz.pinned (OpenSpec.upto classGetsSpec)

/-- 'squinchlaw05.ClassSame', WHERE WHAT IT READS IS OF BULK AT MOST 1048576: true; the input reads as it did. -/
def classSameUptoRow : OpenClaim := { program := "ythpknpfhpkkheaagreatdoor", sum := "0d038ffef179b27eceb4676c1acc7695752bc1d40c2c714f8b37c92dfd6f72ed", func := "squinch/squinchlaw05.ClassSame", spec := "classSame", inPlace := ["internal/bytealg.IndexByteString", "internal/bytealg.IndexString", "internal/abi.NoEscape", "internal/bytealg.MakeNoZero"], unfollowed := true, recurses := true, named := ["squinch/code.ops", "unicode/utf8.first", "unicode/utf8.acceptRanges", "internal/bytealg.MaxLen"], apart := false, laid := [("unicode/utf8.acceptRanges", laid_unicode_utf8_acceptRanges), ("squinch/code.ops", laid_squinch_code_ops), ("unicode/utf8.first", laid_unicode_utf8_first)], narrowed := true }
def ClassSameUptoSaid : Prop := classSameUptoRow.holds Tryz.pinned (OpenSpec.upto classSameSpec)

/-- 'squinchlaw05.ClassSigns', WHERE WHAT IT READS IS OF BULK AT MOST 1048576: true; the input reads as it did. -/
def classSignsUptoRow : OpenClaim := { program := "ythpknpfhpkkheaagreatdoor", sum := "0d038ffef179b27eceb4676c1acc7695752bc1d40c2c714f8b37c92dfd6f72ed", func := "squinch/squinchlaw05.ClassSigns", spec := "classSigns", inPlace := ["internal/bytealg.IndexByteString", "internal/bytealg.IndexString", "internal/abi.NoEscape", "internal/bytealg.MakeNoZero"], unfollowed := true, recurses := true, named := ["squinch/code.ops", "unicode/utf8.first", "unicode/utf8.acceptRanges", "internal/bytealg.MaxLen"], apart := false, laid := [("unicode/utf8.acceptRanges", laid_unicode_utf8_acceptRanges), ("squinch/code.ops", laid_squinch_code_ops), ("unicode/utf8.first", laid_unicode_utf8_first)], narrowed := true }
def ClassSignsUptoSaid : Prop := classSignsUptoRow.holds Tryz.pinned (OpenSpec.upto classSignsSpec)

/-- 'squinchlaw05.ClassUnpacks', WHERE WHAT IT READS IS OF BULK AT MOST 1048576: true; the input reads as it did. -/
def classUnpacksUptoRow : OpenClaim := { program := "ythpknpfhpkkheaagreatdoor", sum := "0d038ffef179b27eceb4676c1acc7695752bc1d40c2c714f8b37c92dfd6f72ed", func := "squinch/squinchlaw05.ClassUnpacks", spec := "classUnpacks", inPlace := ["internal/bytealg.IndexByteString", "internal/bytealg.IndexString", "internal/abi.NoEscape", "internal/bytealg.MakeNoZero"], unfollowed := true, recurses := true, named := ["squinch/code.ops", "unicode/utf8.first", "unicode/utf8.acceptRanges", "internal/bytealg.MaxLen"], apart := false, laid := [("unicode/utf8.acceptRanges", laid_unicode_utf8_acceptRanges), ("squinch/code.ops", laid_squinch_code_ops), ("unicode/utf8.first", laid_unicode_utf8_first)], narrowed := true }
def ClassUnpacksUptoSaid : Prop := classUnpacksUptoRow.holds Tryz.pinned (OpenSpec.upto classUnpacksSpec)

/-- 'squinchlaw05.ClassLists', WHERE WHAT IT READS IS OF BULK AT MOST 1048576: true; the input reads as it did. -/
def classListsUptoRow : OpenClaim := { program := "ythpknpfhpkkheaagreatdoor", sum := "0d038ffef179b27eceb4676c1acc7695752bc1d40c2c714f8b37c92dfd6f72ed", func := "squinch/squinchlaw05.ClassLists", spec := "classLists", inPlace := ["internal/bytealg.IndexByteString", "internal/bytealg.IndexString", "internal/abi.NoEscape", "internal/bytealg.MakeNoZero"], unfollowed := true, recurses := true, named := ["squinch/code.ops", "unicode/utf8.first", "unicode/utf8.acceptRanges", "internal/bytealg.MaxLen"], apart := false, laid := [("unicode/utf8.acceptRanges", laid_unicode_utf8_acceptRanges), ("squinch/code.ops", laid_squinch_code_ops), ("unicode/utf8.first", laid_unicode_utf8_first)], narrowed := true }
def ClassListsUptoSaid : Prop := classListsUptoRow.holds Tryz.pinned (OpenSpec.upto classListsSpec)

/-- 'squinchlaw05.ClassPacks', WHERE WHAT IT READS IS OF BULK AT MOST 1048576: true; the input reads as it did. -/
def classPacksUptoRow : OpenClaim := { program := "ythpknpfhpkkheaagreatdoor", sum := "0d038ffef179b27eceb4676c1acc7695752bc1d40c2c714f8b37c92dfd6f72ed", func := "squinch/squinchlaw05.ClassPacks", spec := "classPacks", inPlace := ["internal/bytealg.IndexByteString", "internal/bytealg.IndexString", "internal/abi.NoEscape", "internal/bytealg.MakeNoZero"], unfollowed := true, recurses := true, named := ["squinch/code.ops", "unicode/utf8.first", "unicode/utf8.acceptRanges", "internal/bytealg.MaxLen"], apart := false, laid := [("unicode/utf8.acceptRanges", laid_unicode_utf8_acceptRanges), ("squinch/code.ops", laid_squinch_code_ops), ("unicode/utf8.first", laid_unicode_utf8_first)], narrowed := true }
def ClassPacksUptoSaid : Prop := classPacksUptoRow.holds Tryz.pinned (OpenSpec.upto classPacksSpec)

end Rows
end Go.Proofs.YthpknpfhpkkheaaGreatDoor
