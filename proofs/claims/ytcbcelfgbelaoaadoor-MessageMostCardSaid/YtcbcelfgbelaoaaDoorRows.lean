/-
  NARROWER THAN 'FOR EVERY INPUT', by the rows' own cells (each row's printed sentence says how): MessagePuts: laid · MessageGets: laid · MessageReplies: laid · MessageTurned: laid · MessageApart: laid · MessageMost: laid.
  DERIVED. THE GIVEN ROWS OF THIS SEAT. 6 by the template 'for every input the law returns true; each argument reads behind the call as it read before'; 0 by the template 'total and deterministic' (their statements: YtcbcelfgbelaoaaDoorTotals.lean).
  GIVEN WITH THE SEED: the statements are not yours to turn. If you find one false, say at which input.
  Laid BY PROGRAM, IN A SANDBOX (cutbox-rows.mjs): the forced cells as the released guide's own fill.sh prints them over the translation 1d40b642c347f6d4… (all of the seat's roots in one cut). By AI agents, Wed Nov 11 2026. No macro, syntax, notation, axiom, sorry.
-/
import Derived.Test.YtcbcelfgbelaoaaDoorChecked
import GoSem.PinnedTables
import GoSem.Claim
import GoSem.ClaimJoined
import GoSem.ClaimMapViews
import Derived.JoinedTies
import Derived.KernelRfl
namespace Go.Proofs.YtcbcelfgbelaoaaDoor
/- THE CELL 'sum', in the pinned program and in every row, IS THE sha256 OF THE DUMP (.gsa) THAT YtcbcelfgbelaoaaDoorProg.lean LOADS. Nothing in Lean hashes anything: it is a label: what it is worth is what the hold of that sum in a sandbox is worth. -/
noncomputable def Tryd.pinned : Pinned := { name := "ytcbcelfgbelaoaadoor", sum := "1d40b642c347f6d48098db8eab7dda3643b52dfc06fd0baf3f8888ee1a8cf93c", checked := Tryd.checked }
namespace Rows
def none {H : Type} : Left H := { results := [], args := [] }

/- WHAT THE LISTED PACKAGE-LEVEL VARIABLES READ AS WHEN THE CALL BEGINS. Each datum BY PROGRAM (the guide's laid-datum.mjs) off the statement by which the dump's own 'gosem.cut.vars' lays the variable. In a bare row this is a premise. The card (YtcbcelfgbelaoaaDoorCards.lean) ties it to the program's text. -/
def laid_unicode_utf8_acceptRanges {H : Type} : DataW H := .agg [.agg [.lit (.int .u8 128), .lit (.int .u8 191)], .agg [.lit (.int .u8 160), .lit (.int .u8 191)], .agg [.lit (.int .u8 128), .lit (.int .u8 159)], .agg [.lit (.int .u8 144), .lit (.int .u8 191)], .agg [.lit (.int .u8 128), .lit (.int .u8 143)], .agg [.lit (.int .u8 0), .lit (.int .u8 0)], .agg [.lit (.int .u8 0), .lit (.int .u8 0)], .agg [.lit (.int .u8 0), .lit (.int .u8 0)], .agg [.lit (.int .u8 0), .lit (.int .u8 0)], .agg [.lit (.int .u8 0), .lit (.int .u8 0)], .agg [.lit (.int .u8 0), .lit (.int .u8 0)], .agg [.lit (.int .u8 0), .lit (.int .u8 0)], .agg [.lit (.int .u8 0), .lit (.int .u8 0)], .agg [.lit (.int .u8 0), .lit (.int .u8 0)], .agg [.lit (.int .u8 0), .lit (.int .u8 0)], .agg [.lit (.int .u8 0), .lit (.int .u8 0)]]
/-- One of Go's own tables, pinned by name: the form's constant. -/
def laid_unicode_utf8_first : DataW Unit := Go.Pinned.utf8First

/-- 'squinchlaw14.MessagePuts': WHATEVER THE INPUT: true; the input reads as it did. -/
def messagePutsSpec : ChangeSpec := { name := "messagePuts", fn := fun _ => fun
  | [d] => { results := [.lit (.bool true)], args := [d] }
  | _ => none }
def messagePutsRow : OpenClaim := { program := "ytcbcelfgbelaoaadoor", sum := "1d40b642c347f6d48098db8eab7dda3643b52dfc06fd0baf3f8888ee1a8cf93c", func := "squinch/squinchlaw14.MessagePuts", spec := "messagePuts", unfollowed := true, recurses := true, named := ["unicode/utf8.first", "unicode/utf8.acceptRanges"], apart := false, laid := [("unicode/utf8.acceptRanges", laid_unicode_utf8_acceptRanges), ("unicode/utf8.first", laid_unicode_utf8_first)] }
def MessagePutsSaid : Prop := messagePutsRow.holds Tryd.pinned (OpenSpec.ofChange messagePutsSpec)

/-- ITS FALSE NEIGHBOUR: 'it returns false'. Refute it at one input. -/
def messagePutsWrong : ChangeSpec := { name := "messagePuts", fn := fun _ => fun
  | [d] => { results := [.lit (.bool false)], args := [d] }
  | _ => none }
def MessagePutsWrongFalsely : Prop := messagePutsRow.holds Tryd.pinned (OpenSpec.ofChange messagePutsWrong)

/-- 'squinchlaw14.MessageGets': WHATEVER THE INPUT: true; the input reads as it did. -/
def messageGetsSpec : ChangeSpec := { name := "messageGets", fn := fun _ => fun
  | [d1, d2] => { results := [.lit (.bool true)], args := [d1, d2] }
  | _ => none }
def messageGetsRow : OpenClaim := { program := "ytcbcelfgbelaoaadoor", sum := "1d40b642c347f6d48098db8eab7dda3643b52dfc06fd0baf3f8888ee1a8cf93c", func := "squinch/squinchlaw14.MessageGets", spec := "messageGets", unfollowed := true, recurses := true, named := ["unicode/utf8.first", "unicode/utf8.acceptRanges"], apart := false, laid := [("unicode/utf8.acceptRanges", laid_unicode_utf8_acceptRanges), ("unicode/utf8.first", laid_unicode_utf8_first)] }
def MessageGetsSaid : Prop := messageGetsRow.holds Tryd.pinned (OpenSpec.ofChange messageGetsSpec)

/-- ITS FALSE NEIGHBOUR: 'it returns false'. Refute it at one input. -/
def messageGetsWrong : ChangeSpec := { name := "messageGets", fn := fun _ => fun
  | [d1, d2] => { results := [.lit (.bool false)], args := [d1, d2] }
  | _ => none }
def MessageGetsWrongFalsely : Prop := messageGetsRow.holds Tryd.pinned (OpenSpec.ofChange messageGetsWrong)

/-- 'squinchlaw14.MessageReplies': WHATEVER THE INPUT: true; the input reads as it did. -/
def messageRepliesSpec : ChangeSpec := { name := "messageReplies", fn := fun _ => fun
  | [d1, d2, d3, d4] => { results := [.lit (.bool true)], args := [d1, d2, d3, d4] }
  | _ => none }
def messageRepliesRow : OpenClaim := { program := "ytcbcelfgbelaoaadoor", sum := "1d40b642c347f6d48098db8eab7dda3643b52dfc06fd0baf3f8888ee1a8cf93c", func := "squinch/squinchlaw14.MessageReplies", spec := "messageReplies", unfollowed := true, recurses := true, named := ["unicode/utf8.first", "unicode/utf8.acceptRanges"], apart := false, laid := [("unicode/utf8.acceptRanges", laid_unicode_utf8_acceptRanges), ("unicode/utf8.first", laid_unicode_utf8_first)] }
def MessageRepliesSaid : Prop := messageRepliesRow.holds Tryd.pinned (OpenSpec.ofChange messageRepliesSpec)

/-- ITS FALSE NEIGHBOUR: 'it returns false'. Refute it at one input. -/
def messageRepliesWrong : ChangeSpec := { name := "messageReplies", fn := fun _ => fun
  | [d1, d2, d3, d4] => { results := [.lit (.bool false)], args := [d1, d2, d3, d4] }
  | _ => none }
def MessageRepliesWrongFalsely : Prop := messageRepliesRow.holds Tryd.pinned (OpenSpec.ofChange messageRepliesWrong)

/-- 'squinchlaw14.MessageTurned': WHATEVER THE INPUT: true; the input reads as it did. -/
def messageTurnedSpec : ChangeSpec := { name := "messageTurned", fn := fun _ => fun
  | [d1, d2, d3] => { results := [.lit (.bool true)], args := [d1, d2, d3] }
  | _ => none }
def messageTurnedRow : OpenClaim := { program := "ytcbcelfgbelaoaadoor", sum := "1d40b642c347f6d48098db8eab7dda3643b52dfc06fd0baf3f8888ee1a8cf93c", func := "squinch/squinchlaw14.MessageTurned", spec := "messageTurned", unfollowed := true, recurses := true, named := ["unicode/utf8.first", "unicode/utf8.acceptRanges"], apart := false, laid := [("unicode/utf8.acceptRanges", laid_unicode_utf8_acceptRanges), ("unicode/utf8.first", laid_unicode_utf8_first)] }
def MessageTurnedSaid : Prop := messageTurnedRow.holds Tryd.pinned (OpenSpec.ofChange messageTurnedSpec)

/-- ITS FALSE NEIGHBOUR: 'it returns false'. Refute it at one input. -/
def messageTurnedWrong : ChangeSpec := { name := "messageTurned", fn := fun _ => fun
  | [d1, d2, d3] => { results := [.lit (.bool false)], args := [d1, d2, d3] }
  | _ => none }
def MessageTurnedWrongFalsely : Prop := messageTurnedRow.holds Tryd.pinned (OpenSpec.ofChange messageTurnedWrong)

/-- 'squinchlaw14.MessageApart': WHATEVER THE INPUT: true; the input reads as it did. -/
def messageApartSpec : ChangeSpec := { name := "messageApart", fn := fun _ => fun
  | [d1, d2] => { results := [.lit (.bool true)], args := [d1, d2] }
  | _ => none }
def messageApartRow : OpenClaim := { program := "ytcbcelfgbelaoaadoor", sum := "1d40b642c347f6d48098db8eab7dda3643b52dfc06fd0baf3f8888ee1a8cf93c", func := "squinch/squinchlaw14.MessageApart", spec := "messageApart", unfollowed := true, recurses := true, named := ["unicode/utf8.first", "unicode/utf8.acceptRanges"], apart := false, laid := [("unicode/utf8.acceptRanges", laid_unicode_utf8_acceptRanges), ("unicode/utf8.first", laid_unicode_utf8_first)] }
def MessageApartSaid : Prop := messageApartRow.holds Tryd.pinned (OpenSpec.ofChange messageApartSpec)

/-- ITS FALSE NEIGHBOUR: 'it returns false'. Refute it at one input. -/
def messageApartWrong : ChangeSpec := { name := "messageApart", fn := fun _ => fun
  | [d1, d2] => { results := [.lit (.bool false)], args := [d1, d2] }
  | _ => none }
def MessageApartWrongFalsely : Prop := messageApartRow.holds Tryd.pinned (OpenSpec.ofChange messageApartWrong)

/-- 'squinchlaw14.MessageMost': WHATEVER THE INPUT: true; the input reads as it did. -/
def messageMostSpec : ChangeSpec := { name := "messageMost", fn := fun _ => fun
  | [d] => { results := [.lit (.bool true)], args := [d] }
  | _ => none }
def messageMostRow : OpenClaim := { program := "ytcbcelfgbelaoaadoor", sum := "1d40b642c347f6d48098db8eab7dda3643b52dfc06fd0baf3f8888ee1a8cf93c", func := "squinch/squinchlaw14.MessageMost", spec := "messageMost", unfollowed := true, recurses := true, named := ["unicode/utf8.first", "unicode/utf8.acceptRanges"], apart := false, laid := [("unicode/utf8.acceptRanges", laid_unicode_utf8_acceptRanges), ("unicode/utf8.first", laid_unicode_utf8_first)] }
def MessageMostSaid : Prop := messageMostRow.holds Tryd.pinned (OpenSpec.ofChange messageMostSpec)

/-- ITS FALSE NEIGHBOUR: 'it returns false'. Refute it at one input. -/
def messageMostWrong : ChangeSpec := { name := "messageMost", fn := fun _ => fun
  | [d] => { results := [.lit (.bool false)], args := [d] }
  | _ => none }
def MessageMostWrongFalsely : Prop := messageMostRow.holds Tryd.pinned (OpenSpec.ofChange messageMostWrong)

/- THE SECOND FORM. 'bulk': how many values and letters a reading holds, each counted each time it is reached (what is shared counts as often as it is met; a slice's spare places count too). A statement '..UptoSaid' is the law's where the arguments, and the package variables that the reading takes, are together of bulk at most 1048576: NARROWER than '..Said'. Prove '..Said' where nothing that the law and all that it calls make is longer than what came in: it says more and counts as full. Else prove '..UptoSaid'. A law counts once. -/
mutual
def uptoBulk {H : Type} : DataW H → Nat
  | .lit (.string bytes) => bytes.length + 1
  | .lit _ => 1
  | .nil => 1
  | .ptr d => uptoBulk d + 1
  | .slice elems spare => uptoBulkAll elems + uptoBulkAll spare + 1
  | .agg parts => uptoBulkAll parts + 1
  | .iface _ d => uptoBulk d + 1
  | .map entries => uptoBulkEntries entries + 1
  | .held _ => 1
def uptoBulkAll {H : Type} : List (DataW H) → Nat
  | [] => 0
  | d :: r => uptoBulk d + uptoBulkAll r
def uptoBulkEntries {H : Type} : List (Lit × DataW H) → Nat
  | [] => 0
  | x :: r => uptoBulkEntry x + uptoBulkEntries r
def uptoBulkEntry {H : Type} : Lit × DataW H → Nat
  | (.string bytes, d) => bytes.length + uptoBulk d + 1
  | (_, d) => uptoBulk d + 1
 end
def uptoSmall : (H : Type) → List (DataW H) → Bool := fun _ ds => decide (uptoBulkAll ds ≤ 1048576)
def OpenSpec.upto (s : _root_.Go.ChangeSpec) : _root_.Go.OpenSpec := { _root_.Go.OpenSpec.ofChange s with cond := some uptoSmall }

/-- 'squinchlaw14.MessagePuts', WHERE WHAT IT READS IS OF BULK AT MOST 1048576: true; the input reads as it did. -/
def messagePutsUptoRow : OpenClaim := { program := "ytcbcelfgbelaoaadoor", sum := "1d40b642c347f6d48098db8eab7dda3643b52dfc06fd0baf3f8888ee1a8cf93c", func := "squinch/squinchlaw14.MessagePuts", spec := "messagePuts", unfollowed := true, recurses := true, named := ["unicode/utf8.first", "unicode/utf8.acceptRanges"], apart := false, laid := [("unicode/utf8.acceptRanges", laid_unicode_utf8_acceptRanges), ("unicode/utf8.first", laid_unicode_utf8_first)], narrowed := true }
def MessagePutsUptoSaid : Prop := messagePutsUptoRow.holds Tryd.pinned (OpenSpec.upto messagePutsSpec)

/-- 'squinchlaw14.MessageGets', WHERE WHAT IT READS IS OF BULK AT MOST 1048576: true; the input reads as it did. -/
def messageGetsUptoRow : OpenClaim := { program := "ytcbcelfgbelaoaadoor", sum := "1d40b642c347f6d48098db8eab7dda3643b52dfc06fd0baf3f8888ee1a8cf93c", func := "squinch/squinchlaw14.MessageGets", spec := "messageGets", unfollowed := true, recurses := true, named := ["unicode/utf8.first", "unicode/utf8.acceptRanges"], apart := false, laid := [("unicode/utf8.acceptRanges", laid_unicode_utf8_acceptRanges), ("unicode/utf8.first", laid_unicode_utf8_first)], narrowed := true }
def MessageGetsUptoSaid : Prop := messageGetsUptoRow.holds Tryd.pinned (OpenSpec.upto messageGetsSpec)

/-- 'squinchlaw14.MessageReplies', WHERE WHAT IT READS IS OF BULK AT MOST 1048576: true; the input reads as it did. -/
def messageRepliesUptoRow : OpenClaim := { program := "ytcbcelfgbelaoaadoor", sum := "1d40b642c347f6d48098db8eab7dda3643b52dfc06fd0baf3f8888ee1a8cf93c", func := "squinch/squinchlaw14.MessageReplies", spec := "messageReplies", unfollowed := true, recurses := true, named := ["unicode/utf8.first", "unicode/utf8.acceptRanges"], apart := false, laid := [("unicode/utf8.acceptRanges", laid_unicode_utf8_acceptRanges), ("unicode/utf8.first", laid_unicode_utf8_first)], narrowed := true }
def MessageRepliesUptoSaid : Prop := messageRepliesUptoRow.holds Tryd.pinned (OpenSpec.upto messageRepliesSpec)

/-- 'squinchlaw14.MessageTurned', WHERE WHAT IT READS IS OF BULK AT MOST 1048576: true; the input reads as it did. -/
def messageTurnedUptoRow : OpenClaim := { program := "ytcbcelfgbelaoaadoor", sum := "1d40b642c347f6d48098db8eab7dda3643b52dfc06fd0baf3f8888ee1a8cf93c", func := "squinch/squinchlaw14.MessageTurned", spec := "messageTurned", unfollowed := true, recurses := true, named := ["unicode/utf8.first", "unicode/utf8.acceptRanges"], apart := false, laid := [("unicode/utf8.acceptRanges", laid_unicode_utf8_acceptRanges), ("unicode/utf8.first", laid_unicode_utf8_first)], narrowed := true }
def MessageTurnedUptoSaid : Prop := messageTurnedUptoRow.holds Tryd.pinned (OpenSpec.upto messageTurnedSpec)

/-- 'squinchlaw14.MessageApart', WHERE WHAT IT READS IS OF BULK AT MOST 1048576: true; the input reads as it did. -/
def messageApartUptoRow : OpenClaim := { program := "ytcbcelfgbelaoaadoor", sum := "1d40b642c347f6d48098db8eab7dda3643b52dfc06fd0baf3f8888ee1a8cf93c", func := "squinch/squinchlaw14.MessageApart", spec := "messageApart", unfollowed := true, recurses := true, named := ["unicode/utf8.first", "unicode/utf8.acceptRanges"], apart := false, laid := [("unicode/utf8.acceptRanges", laid_unicode_utf8_acceptRanges), ("unicode/utf8.first", laid_unicode_utf8_first)], narrowed := true }
def MessageApartUptoSaid : Prop := messageApartUptoRow.holds Tryd.pinned (OpenSpec.upto messageApartSpec)

/-- 'squinchlaw14.MessageMost', WHERE WHAT IT READS IS OF BULK AT MOST 1048576: true; the input reads as it did. -/
def messageMostUptoRow : OpenClaim := { program := "ytcbcelfgbelaoaadoor", sum := "1d40b642c347f6d48098db8eab7dda3643b52dfc06fd0baf3f8888ee1a8cf93c", func := "squinch/squinchlaw14.MessageMost", spec := "messageMost", unfollowed := true, recurses := true, named := ["unicode/utf8.first", "unicode/utf8.acceptRanges"], apart := false, laid := [("unicode/utf8.acceptRanges", laid_unicode_utf8_acceptRanges), ("unicode/utf8.first", laid_unicode_utf8_first)], narrowed := true }
def MessageMostUptoSaid : Prop := messageMostUptoRow.holds Tryd.pinned (OpenSpec.upto messageMostSpec)

end Rows
end Go.Proofs.YtcbcelfgbelaoaaDoor
