/-
  No cell of these rows narrows 'for every input' (looked for: loops, veiled, ifaces, maps, wideKeys, modest, calm, conditions, laid).
  DERIVED. THE GIVEN ROWS OF THIS SEAT. 6 by the template 'for every input the law returns true; each argument reads behind the call as it read before'; 0 by the template 'total and deterministic' (their statements: YtplkjhoadnjkmaaTotals.lean).
  GIVEN WITH THE SEED: the statements are not yours to turn. If you find one false, say at which input.
  Laid BY PROGRAM, IN A SANDBOX (cutbox-rows.mjs): the forced cells as the released guide's own fill.sh prints them over the translation bf5dff4ec4f9fba4… (all of the seat's roots in one cut). By AI agents, Wed Nov 11 2026. No macro, syntax, notation, axiom, sorry.
-/
import Derived.Test.YtplkjhoadnjkmaaChecked
import GoSem.Claim
import GoSem.ClaimJoined
import GoSem.ClaimMapViews
import Derived.JoinedTies
import Derived.KernelRfl
namespace Go.Proofs.Ytplkjhoadnjkmaa
/- THE CELL 'sum', in the pinned program and in every row, IS THE sha256 OF THE DUMP (.gsa) THAT YtplkjhoadnjkmaaProg.lean LOADS. Nothing in Lean hashes anything: it is a label: what it is worth is what the hold of that sum in a sandbox is worth. -/
noncomputable def Try.pinned : Pinned := { name := "ytplkjhoadnjkmaa", sum := "bf5dff4ec4f9fba4eb1aa926c2e6b23b937fa611d2623996c45b07b2ef7e85ee", checked := Try.checked }
namespace Rows
def none {H : Type} : Left H := { results := [], args := [] }

/-- 'squinchlaw17.NetOrder': WHATEVER THE INPUT: true; the input reads as it did. -/
def netOrderSpec : ChangeSpec := { name := "netOrder", fn := fun _ => fun
  | [d1, d2] => { results := [.lit (.bool true)], args := [d1, d2] }
  | _ => none }
def netOrderRow : OpenClaim := { program := "ytplkjhoadnjkmaa", sum := "bf5dff4ec4f9fba4eb1aa926c2e6b23b937fa611d2623996c45b07b2ef7e85ee", func := "squinch/squinchlaw17.NetOrder", spec := "netOrder", unfollowed := true, recurses := true, apart := false }
def NetOrderSaid : Prop := netOrderRow.holds Try.pinned (OpenSpec.ofChange netOrderSpec)

/-- ITS FALSE NEIGHBOUR: 'it returns false'. Refute it at one input. -/
def netOrderWrong : ChangeSpec := { name := "netOrder", fn := fun _ => fun
  | [d1, d2] => { results := [.lit (.bool false)], args := [d1, d2] }
  | _ => none }
def NetOrderWrongFalsely : Prop := netOrderRow.holds Try.pinned (OpenSpec.ofChange netOrderWrong)

/-- 'squinchlaw17.NetGone': WHATEVER THE INPUT: true; the input reads as it did. -/
def netGoneSpec : ChangeSpec := { name := "netGone", fn := fun _ => fun
  | [d1, d2, d3] => { results := [.lit (.bool true)], args := [d1, d2, d3] }
  | _ => none }
def netGoneRow : OpenClaim := { program := "ytplkjhoadnjkmaa", sum := "bf5dff4ec4f9fba4eb1aa926c2e6b23b937fa611d2623996c45b07b2ef7e85ee", func := "squinch/squinchlaw17.NetGone", spec := "netGone", unfollowed := true, recurses := true, apart := false }
def NetGoneSaid : Prop := netGoneRow.holds Try.pinned (OpenSpec.ofChange netGoneSpec)

/-- ITS FALSE NEIGHBOUR: 'it returns false'. Refute it at one input. -/
def netGoneWrong : ChangeSpec := { name := "netGone", fn := fun _ => fun
  | [d1, d2, d3] => { results := [.lit (.bool false)], args := [d1, d2, d3] }
  | _ => none }
def NetGoneWrongFalsely : Prop := netGoneRow.holds Try.pinned (OpenSpec.ofChange netGoneWrong)

/-- 'squinchlaw17.NetFull': WHATEVER THE INPUT: true; the input reads as it did. -/
def netFullSpec : ChangeSpec := { name := "netFull", fn := fun _ => fun
  | [d1, d2] => { results := [.lit (.bool true)], args := [d1, d2] }
  | _ => none }
def netFullRow : OpenClaim := { program := "ytplkjhoadnjkmaa", sum := "bf5dff4ec4f9fba4eb1aa926c2e6b23b937fa611d2623996c45b07b2ef7e85ee", func := "squinch/squinchlaw17.NetFull", spec := "netFull", unfollowed := true, recurses := true, apart := false }
def NetFullSaid : Prop := netFullRow.holds Try.pinned (OpenSpec.ofChange netFullSpec)

/-- ITS FALSE NEIGHBOUR: 'it returns false'. Refute it at one input. -/
def netFullWrong : ChangeSpec := { name := "netFull", fn := fun _ => fun
  | [d1, d2] => { results := [.lit (.bool false)], args := [d1, d2] }
  | _ => none }
def NetFullWrongFalsely : Prop := netFullRow.holds Try.pinned (OpenSpec.ofChange netFullWrong)

/-- 'squinchlaw17.NetPlays': WHATEVER THE INPUT: true; the input reads as it did. -/
def netPlaysSpec : ChangeSpec := { name := "netPlays", fn := fun _ => fun
  | [d1, d2] => { results := [.lit (.bool true)], args := [d1, d2] }
  | _ => none }
def netPlaysRow : OpenClaim := { program := "ytplkjhoadnjkmaa", sum := "bf5dff4ec4f9fba4eb1aa926c2e6b23b937fa611d2623996c45b07b2ef7e85ee", func := "squinch/squinchlaw17.NetPlays", spec := "netPlays", unfollowed := true, recurses := true, apart := false }
def NetPlaysSaid : Prop := netPlaysRow.holds Try.pinned (OpenSpec.ofChange netPlaysSpec)

/-- ITS FALSE NEIGHBOUR: 'it returns false'. Refute it at one input. -/
def netPlaysWrong : ChangeSpec := { name := "netPlays", fn := fun _ => fun
  | [d1, d2] => { results := [.lit (.bool false)], args := [d1, d2] }
  | _ => none }
def NetPlaysWrongFalsely : Prop := netPlaysRow.holds Try.pinned (OpenSpec.ofChange netPlaysWrong)

/-- 'squinchlaw17.NetOnly': WHATEVER THE INPUT: true; the input reads as it did. -/
def netOnlySpec : ChangeSpec := { name := "netOnly", fn := fun _ => fun
  | [d] => { results := [.lit (.bool true)], args := [d] }
  | _ => none }
def netOnlyRow : OpenClaim := { program := "ytplkjhoadnjkmaa", sum := "bf5dff4ec4f9fba4eb1aa926c2e6b23b937fa611d2623996c45b07b2ef7e85ee", func := "squinch/squinchlaw17.NetOnly", spec := "netOnly", unfollowed := true, recurses := true, apart := false }
def NetOnlySaid : Prop := netOnlyRow.holds Try.pinned (OpenSpec.ofChange netOnlySpec)

/-- ITS FALSE NEIGHBOUR: 'it returns false'. Refute it at one input. -/
def netOnlyWrong : ChangeSpec := { name := "netOnly", fn := fun _ => fun
  | [d] => { results := [.lit (.bool false)], args := [d] }
  | _ => none }
def NetOnlyWrongFalsely : Prop := netOnlyRow.holds Try.pinned (OpenSpec.ofChange netOnlyWrong)

/-- 'squinchlaw17.NetCopies': WHATEVER THE INPUT: true; the input reads as it did. -/
def netCopiesSpec : ChangeSpec := { name := "netCopies", fn := fun _ => fun
  | [d1, d2, d3, d4] => { results := [.lit (.bool true)], args := [d1, d2, d3, d4] }
  | _ => none }
def netCopiesRow : OpenClaim := { program := "ytplkjhoadnjkmaa", sum := "bf5dff4ec4f9fba4eb1aa926c2e6b23b937fa611d2623996c45b07b2ef7e85ee", func := "squinch/squinchlaw17.NetCopies", spec := "netCopies", unfollowed := true, recurses := true, apart := false }
def NetCopiesSaid : Prop := netCopiesRow.holds Try.pinned (OpenSpec.ofChange netCopiesSpec)

/-- ITS FALSE NEIGHBOUR: 'it returns false'. Refute it at one input. -/
def netCopiesWrong : ChangeSpec := { name := "netCopies", fn := fun _ => fun
  | [d1, d2, d3, d4] => { results := [.lit (.bool false)], args := [d1, d2, d3, d4] }
  | _ => none }
def NetCopiesWrongFalsely : Prop := netCopiesRow.holds Try.pinned (OpenSpec.ofChange netCopiesWrong)

/- THE SECOND FORM. 'bulk': how many values and letters a reading holds, each counted each time it is reached (what is shared counts as often as it is met; a slice's spare places count too). A statement '..UptoSaid' is the law's where the arguments, and the package variables that the reading takes, are together of bulk at most 1048576: NARROWER than '..Said'. Prove '..Said' where nothing that the law and all that it calls make is longer than what came in: it says more and counts as full. Else prove '..UptoSaid'. A law counts once. -/
mutual
def uptoBulk {H : Type} : DataW H → Nat
  | .lit (.string bytes) => bytes.length + 1
  | .lit _ => 1
  | .nil => 1
  | .ptr d => uptoBulk d + 1
  | .slice elems spare => uptoBulkAll elems + uptoBulkAll spare + 1
  | .agg parts => uptoBulkAll parts + 1
  | .iface _ d => uptoBulk d + 1
  | .map entries => uptoBulkEntries entries + 1
  | .held _ => 1
def uptoBulkAll {H : Type} : List (DataW H) → Nat
  | [] => 0
  | d :: r => uptoBulk d + uptoBulkAll r
def uptoBulkEntries {H : Type} : List (Lit × DataW H) → Nat
  | [] => 0
  | x :: r => uptoBulkEntry x + uptoBulkEntries r
def uptoBulkEntry {H : Type} : Lit × DataW H → Nat
  | (.string bytes, d) => bytes.length + uptoBulk d + 1
  | (_, d) => uptoBulk d + 1
 end
def uptoSmall : (H : Type) → List (DataW H) → Bool := fun _ ds => decide (uptoBulkAll ds ≤ 1048576)
def OpenSpec.upto (s : _root_.Go.ChangeSpec) : _root_.Go.OpenSpec := { _root_.Go.OpenSpec.ofChange s with cond := some uptoSmall }

/-- 'squinchlaw17.NetOrder', WHERE WHAT IT READS IS OF BULK AT MOST 1048576: true; the input reads as it did. -/
def netOrderUptoRow : OpenClaim := { program := "ytplkjhoadnjkmaa", sum := "bf5dff4ec4f9fba4eb1aa926c2e6b23b937fa611d2623996c45b07b2ef7e85ee", func := "squinch/squinchlaw17.NetOrder", spec := "netOrder", unfollowed := true, recurses := true, apart := false, narrowed := true }
def NetOrderUptoSaid : Prop := netOrderUptoRow.holds Try.pinned (OpenSpec.upto netOrderSpec)

/-- 'squinchlaw17.NetGone', WHERE WHAT IT READS IS OF BULK AT MOST 1048576: true; the input reads as it did. -/
def netGoneUptoRow : OpenClaim := { program := "ytplkjhoadnjkmaa", sum := "bf5dff4ec4f9fba4eb1aa926c2e6b23b937fa611d2623996c45b07b2ef7e85ee", func := "squinch/squinchlaw17.NetGone", spec := "netGone", unfollowed := true, recurses := true, apart := false, narrowed := true }
def NetGoneUptoSaid : Prop := netGoneUptoRow.holds Try.pinned (OpenSpec.upto netGoneSpec)

/-- 'squinchlaw17.NetFull', WHERE WHAT IT READS IS OF BULK AT MOST 1048576: true; the input reads as it did. -/
def netFullUptoRow : OpenClaim := { program := "ytplkjhoadnjkmaa", sum := "bf5dff4ec4f9fba4eb1aa926c2e6b23b937fa611d2623996c45b07b2ef7e85ee", func := "squinch/squinchlaw17.NetFull", spec := "netFull", unfollowed := true, recurses := true, apart := false, narrowed := true }
def NetFullUptoSaid : Prop := netFullUptoRow.holds Try.pinned (OpenSpec.upto netFullSpec)

/-- 'squinchlaw17.NetPlays', WHERE WHAT IT READS IS OF BULK AT MOST 1048576: true; the input reads as it did. -/
def netPlaysUptoRow : OpenClaim := { program := "ytplkjhoadnjkmaa", sum := "bf5dff4ec4f9fba4eb1aa926c2e6b23b937fa611d2623996c45b07b2ef7e85ee", func := "squinch/squinchlaw17.NetPlays", spec := "netPlays", unfollowed := true, recurses := true, apart := false, narrowed := true }
def NetPlaysUptoSaid : Prop := netPlaysUptoRow.holds Try.pinned (OpenSpec.upto netPlaysSpec)

/-- 'squinchlaw17.NetOnly', WHERE WHAT IT READS IS OF BULK AT MOST 1048576: true; the input reads as it did. -/
def netOnlyUptoRow : OpenClaim := { program := "ytplkjhoadnjkmaa", sum := "bf5dff4ec4f9fba4eb1aa926c2e6b23b937fa611d2623996c45b07b2ef7e85ee", func := "squinch/squinchlaw17.NetOnly", spec := "netOnly", unfollowed := true, recurses := true, apart := false, narrowed := true }
def NetOnlyUptoSaid : Prop := netOnlyUptoRow.holds Try.pinned (OpenSpec.upto netOnlySpec)

/-- 'squinchlaw17.NetCopies', WHERE WHAT IT READS IS OF BULK AT MOST 1048576: true; the input reads as it did. -/
def netCopiesUptoRow : OpenClaim := { program := "ytplkjhoadnjkmaa", sum := "bf5dff4ec4f9fba4eb1aa926c2e6b23b937fa611d2623996c45b07b2ef7e85ee", func := "squinch/squinchlaw17.NetCopies", spec := "netCopies", unfollowed := true, recurses := true, apart := false, narrowed := true }
def NetCopiesUptoSaid : Prop := netCopiesUptoRow.holds Try.pinned (OpenSpec.upto netCopiesSpec)

end Rows
end Go.Proofs.Ytplkjhoadnjkmaa
