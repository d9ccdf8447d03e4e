/-
  No cell of these rows narrows 'for every input' (looked for: loops, veiled, ifaces, maps, wideKeys, modest, calm, conditions, laid).
  DERIVED. THE GIVEN ROWS OF THIS SEAT. 6 by the template 'for every input the law returns true; each argument reads behind the call as it read before'; 0 by the template 'total and deterministic' (their statements: YtjjddbicggfgnaaTotals.lean).
  GIVEN WITH THE SEED: the statements are not yours to turn. If you find one false, say at which input.
  Laid BY PROGRAM, IN A SANDBOX (cutbox-rows.mjs): the forced cells as the released guide's own fill.sh prints them over the translation 2e837893f527885c… (all of the seat's roots in one cut). By AI agents, Wed Nov 11 2026. No macro, syntax, notation, axiom, sorry.
-/
import Derived.Test.YtjjddbicggfgnaaChecked
import GoSem.Claim
import GoSem.ClaimJoined
import GoSem.ClaimMapViews
import Derived.JoinedTies
import Derived.KernelRfl
namespace Go.Proofs.Ytjjddbicggfgnaa
/- THE CELL 'sum', in the pinned program and in every row, IS THE sha256 OF THE DUMP (.gsa) THAT YtjjddbicggfgnaaProg.lean LOADS. Nothing in Lean hashes anything: it is a label: what it is worth is what the hold of that sum in a sandbox is worth. -/
noncomputable def Try.pinned : Pinned := { name := "ytjjddbicggfgnaa", sum := "2e837893f527885cafa340bf75b2941e752dff2d70dd51b07702a0c7743e7d5c", checked := Try.checked }
namespace Rows
def none {H : Type} : Left H := { results := [], args := [] }

/-- 'squinchlaw15.CallerAsks': WHATEVER THE INPUT: true; the input reads as it did. -/
def callerAsksSpec : ChangeSpec := { name := "callerAsks", fn := fun _ => fun
  | [d1, d2, d3] => { results := [.lit (.bool true)], args := [d1, d2, d3] }
  | _ => none }
def callerAsksRow : OpenClaim := { program := "ytjjddbicggfgnaa", sum := "2e837893f527885cafa340bf75b2941e752dff2d70dd51b07702a0c7743e7d5c", func := "squinch/squinchlaw15.CallerAsks", spec := "callerAsks", unfollowed := true, recurses := true, apart := false }
def CallerAsksSaid : Prop := callerAsksRow.holds Try.pinned (OpenSpec.ofChange callerAsksSpec)

/-- ITS FALSE NEIGHBOUR: 'it returns false'. Refute it at one input. -/
def callerAsksWrong : ChangeSpec := { name := "callerAsks", fn := fun _ => fun
  | [d1, d2, d3] => { results := [.lit (.bool false)], args := [d1, d2, d3] }
  | _ => none }
def CallerAsksWrongFalsely : Prop := callerAsksRow.holds Try.pinned (OpenSpec.ofChange callerAsksWrong)

/-- 'squinchlaw15.CallerPlays': WHATEVER THE INPUT: true; the input reads as it did. -/
def callerPlaysSpec : ChangeSpec := { name := "callerPlays", fn := fun _ => fun
  | [d1, d2, d3, d4] => { results := [.lit (.bool true)], args := [d1, d2, d3, d4] }
  | _ => none }
def callerPlaysRow : OpenClaim := { program := "ytjjddbicggfgnaa", sum := "2e837893f527885cafa340bf75b2941e752dff2d70dd51b07702a0c7743e7d5c", func := "squinch/squinchlaw15.CallerPlays", spec := "callerPlays", unfollowed := true, recurses := true, apart := false }
def CallerPlaysSaid : Prop := callerPlaysRow.holds Try.pinned (OpenSpec.ofChange callerPlaysSpec)

/-- ITS FALSE NEIGHBOUR: 'it returns false'. Refute it at one input. -/
def callerPlaysWrong : ChangeSpec := { name := "callerPlays", fn := fun _ => fun
  | [d1, d2, d3, d4] => { results := [.lit (.bool false)], args := [d1, d2, d3, d4] }
  | _ => none }
def CallerPlaysWrongFalsely : Prop := callerPlaysRow.holds Try.pinned (OpenSpec.ofChange callerPlaysWrong)

/-- 'squinchlaw15.CallerOnce': WHATEVER THE INPUT: true; the input reads as it did. -/
def callerOnceSpec : ChangeSpec := { name := "callerOnce", fn := fun _ => fun
  | [d1, d2, d3] => { results := [.lit (.bool true)], args := [d1, d2, d3] }
  | _ => none }
def callerOnceRow : OpenClaim := { program := "ytjjddbicggfgnaa", sum := "2e837893f527885cafa340bf75b2941e752dff2d70dd51b07702a0c7743e7d5c", func := "squinch/squinchlaw15.CallerOnce", spec := "callerOnce", unfollowed := true, recurses := true, apart := false }
def CallerOnceSaid : Prop := callerOnceRow.holds Try.pinned (OpenSpec.ofChange callerOnceSpec)

/-- ITS FALSE NEIGHBOUR: 'it returns false'. Refute it at one input. -/
def callerOnceWrong : ChangeSpec := { name := "callerOnce", fn := fun _ => fun
  | [d1, d2, d3] => { results := [.lit (.bool false)], args := [d1, d2, d3] }
  | _ => none }
def CallerOnceWrongFalsely : Prop := callerOnceRow.holds Try.pinned (OpenSpec.ofChange callerOnceWrong)

/-- 'squinchlaw15.CallerBelow': WHATEVER THE INPUT: true; the input reads as it did. -/
def callerBelowSpec : ChangeSpec := { name := "callerBelow", fn := fun _ => fun
  | [d] => { results := [.lit (.bool true)], args := [d] }
  | _ => none }
def callerBelowRow : OpenClaim := { program := "ytjjddbicggfgnaa", sum := "2e837893f527885cafa340bf75b2941e752dff2d70dd51b07702a0c7743e7d5c", func := "squinch/squinchlaw15.CallerBelow", spec := "callerBelow", unfollowed := true, recurses := true, apart := false }
def CallerBelowSaid : Prop := callerBelowRow.holds Try.pinned (OpenSpec.ofChange callerBelowSpec)

/-- ITS FALSE NEIGHBOUR: 'it returns false'. Refute it at one input. -/
def callerBelowWrong : ChangeSpec := { name := "callerBelow", fn := fun _ => fun
  | [d] => { results := [.lit (.bool false)], args := [d] }
  | _ => none }
def CallerBelowWrongFalsely : Prop := callerBelowRow.holds Try.pinned (OpenSpec.ofChange callerBelowWrong)

/-- 'squinchlaw15.CallerIgnores': WHATEVER THE INPUT: true; the input reads as it did. -/
def callerIgnoresSpec : ChangeSpec := { name := "callerIgnores", fn := fun _ => fun
  | [d1, d2] => { results := [.lit (.bool true)], args := [d1, d2] }
  | _ => none }
def callerIgnoresRow : OpenClaim := { program := "ytjjddbicggfgnaa", sum := "2e837893f527885cafa340bf75b2941e752dff2d70dd51b07702a0c7743e7d5c", func := "squinch/squinchlaw15.CallerIgnores", spec := "callerIgnores", unfollowed := true, recurses := true, apart := false }
def CallerIgnoresSaid : Prop := callerIgnoresRow.holds Try.pinned (OpenSpec.ofChange callerIgnoresSpec)

/-- ITS FALSE NEIGHBOUR: 'it returns false'. Refute it at one input. -/
def callerIgnoresWrong : ChangeSpec := { name := "callerIgnores", fn := fun _ => fun
  | [d1, d2] => { results := [.lit (.bool false)], args := [d1, d2] }
  | _ => none }
def CallerIgnoresWrongFalsely : Prop := callerIgnoresRow.holds Try.pinned (OpenSpec.ofChange callerIgnoresWrong)

/-- 'squinchlaw15.CallerLives': WHATEVER THE INPUT: true; the input reads as it did. -/
def callerLivesSpec : ChangeSpec := { name := "callerLives", fn := fun _ => fun
  | [d1, d2, d3] => { results := [.lit (.bool true)], args := [d1, d2, d3] }
  | _ => none }
def callerLivesRow : OpenClaim := { program := "ytjjddbicggfgnaa", sum := "2e837893f527885cafa340bf75b2941e752dff2d70dd51b07702a0c7743e7d5c", func := "squinch/squinchlaw15.CallerLives", spec := "callerLives", unfollowed := true, recurses := true, apart := false }
def CallerLivesSaid : Prop := callerLivesRow.holds Try.pinned (OpenSpec.ofChange callerLivesSpec)

/-- ITS FALSE NEIGHBOUR: 'it returns false'. Refute it at one input. -/
def callerLivesWrong : ChangeSpec := { name := "callerLives", fn := fun _ => fun
  | [d1, d2, d3] => { results := [.lit (.bool false)], args := [d1, d2, d3] }
  | _ => none }
def CallerLivesWrongFalsely : Prop := callerLivesRow.holds Try.pinned (OpenSpec.ofChange callerLivesWrong)

/- THE SECOND FORM. 'bulk': how many values and letters a reading holds, each counted each time it is reached (what is shared counts as often as it is met; a slice's spare places count too). A statement '..UptoSaid' is the law's where the arguments, and the package variables that the reading takes, are together of bulk at most 1048576: NARROWER than '..Said'. Prove '..Said' where nothing that the law and all that it calls make is longer than what came in: it says more and counts as full. Else prove '..UptoSaid'. A law counts once. -/
mutual
def uptoBulk {H : Type} : DataW H → Nat
  | .lit (.string bytes) => bytes.length + 1
  | .lit _ => 1
  | .nil => 1
  | .ptr d => uptoBulk d + 1
  | .slice elems spare => uptoBulkAll elems + uptoBulkAll spare + 1
  | .agg parts => uptoBulkAll parts + 1
  | .iface _ d => uptoBulk d + 1
  | .map entries => uptoBulkEntries entries + 1
  | .held _ => 1
def uptoBulkAll {H : Type} : List (DataW H) → Nat
  | [] => 0
  | d :: r => uptoBulk d + uptoBulkAll r
def uptoBulkEntries {H : Type} : List (Lit × DataW H) → Nat
  | [] => 0
  | x :: r => uptoBulkEntry x + uptoBulkEntries r
def uptoBulkEntry {H : Type} : Lit × DataW H → Nat
  | (.string bytes, d) => bytes.length + uptoBulk d + 1
  | (_, d) => uptoBulk d + 1
 end
def uptoSmall : (H : Type) → List (DataW H) → Bool := fun _ ds => decide (uptoBulkAll ds ≤ 1048576)
def OpenSpec.upto (s : _root_.Go.ChangeSpec) : _root_.Go.OpenSpec := { _root_.Go.OpenSpec.ofChange s with cond := some uptoSmall }

/-- 'squinchlaw15.CallerAsks', WHERE WHAT IT READS IS OF BULK AT MOST 1048576: true; the input reads as it did. -/
def callerAsksUptoRow : OpenClaim := { program := "ytjjddbicggfgnaa", sum := "2e837893f527885cafa340bf75b2941e752dff2d70dd51b07702a0c7743e7d5c", func := "squinch/squinchlaw15.CallerAsks", spec := "callerAsks", unfollowed := true, recurses := true, apart := false, narrowed := true }
def CallerAsksUptoSaid : Prop := callerAsksUptoRow.holds Try.pinned (OpenSpec.upto callerAsksSpec)

/-- 'squinchlaw15.CallerPlays', WHERE WHAT IT READS IS OF BULK AT MOST 1048576: true; the input reads as it did. -/
def callerPlaysUptoRow : OpenClaim := { program := "ytjjddbicggfgnaa", sum := "2e837893f527885cafa340bf75b2941e752dff2d70dd51b07702a0c7743e7d5c", func := "squinch/squinchlaw15.CallerPlays", spec := "callerPlays", unfollowed := true, recurses := true, apart := false, narrowed := true }
def CallerPlaysUptoSaid : Prop := callerPlaysUptoRow.holds Try.pinned (OpenSpec.upto callerPlaysSpec)

/-- 'squinchlaw15.CallerOnce', WHERE WHAT IT READS IS OF BULK AT MOST 1048576: true; the input reads as it did. -/
def callerOnceUptoRow : OpenClaim := { program := "ytjjddbicggfgnaa", sum := "2e837893f527885cafa340bf75b2941e752dff2d70dd51b07702a0c7743e7d5c", func := "squinch/squinchlaw15.CallerOnce", spec := "callerOnce", unfollowed := true, recurses := true, apart := false, narrowed := true }
def CallerOnceUptoSaid : Prop := callerOnceUptoRow.holds Try.pinned (OpenSpec.upto callerOnceSpec)

/-- 'squinchlaw15.CallerBelow', WHERE WHAT IT READS IS OF BULK AT MOST 1048576: true; the input reads as it did. -/
def callerBelowUptoRow : OpenClaim := { program := "ytjjddbicggfgnaa", sum := "2e837893f527885cafa340bf75b2941e752dff2d70dd51b07702a0c7743e7d5c", func := "squinch/squinchlaw15.CallerBelow", spec := "callerBelow", unfollowed := true, recurses := true, apart := false, narrowed := true }
def CallerBelowUptoSaid : Prop := callerBelowUptoRow.holds Try.pinned (OpenSpec.upto callerBelowSpec)

/-- 'squinchlaw15.CallerIgnores', WHERE WHAT IT READS IS OF BULK AT MOST 1048576: true; the input reads as it did. -/
def callerIgnoresUptoRow : OpenClaim := { program := "ytjjddbicggfgnaa", sum := "2e837893f527885cafa340bf75b2941e752dff2d70dd51b07702a0c7743e7d5c", func := "squinch/squinchlaw15.CallerIgnores", spec := "callerIgnores", unfollowed := true, recurses := true, apart := false, narrowed := true }
def CallerIgnoresUptoSaid : Prop := callerIgnoresUptoRow.holds Try.pinned (OpenSpec.upto callerIgnoresSpec)

/-- 'squinchlaw15.CallerLives', WHERE WHAT IT READS IS OF BULK AT MOST 1048576: true; the input reads as it did. -/
def callerLivesUptoRow : OpenClaim := { program := "ytjjddbicggfgnaa", sum := "2e837893f527885cafa340bf75b2941e752dff2d70dd51b07702a0c7743e7d5c", func := "squinch/squinchlaw15.CallerLives", spec := "callerLives", unfollowed := true, recurses := true, apart := false, narrowed := true }
def CallerLivesUptoSaid : Prop := callerLivesUptoRow.holds Try.pinned (OpenSpec.upto callerLivesSpec)

end Rows
end Go.Proofs.Ytjjddbicggfgnaa
