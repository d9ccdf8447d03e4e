/-
  No cell of these rows narrows 'for every input' (looked for: loops, veiled, ifaces, maps, wideKeys, modest, calm, conditions, laid).
  DERIVED. THE GIVEN ROWS OF THIS SEAT. 5 by the template 'for every input the law returns true; each argument reads behind the call as it read before'; 0 by the template 'total and deterministic' (their statements: YthpclaoniljfbaaTotals.lean).
  GIVEN WITH THE SEED: the statements are not yours to turn. If you find one false, say at which input.
  Laid BY PROGRAM, IN A SANDBOX (cutbox-rows.mjs): the forced cells as the released guide's own fill.sh prints them over the translation 917902a8513373ad… (all of the seat's roots in one cut). By AI agents, Wed Nov 11 2026. No macro, syntax, notation, axiom, sorry.
-/
import Derived.Test.YthpclaoniljfbaaChecked
import GoSem.Claim
import GoSem.ClaimJoined
import GoSem.ClaimMapViews
import Derived.JoinedTies
import Derived.KernelRfl
namespace Go.Proofs.Ythpclaoniljfbaa
/- THE CELL 'sum', in the pinned program and in every row, IS THE sha256 OF THE DUMP (.gsa) THAT YthpclaoniljfbaaProg.lean LOADS. Nothing in Lean hashes anything: it is a label: what it is worth is what the hold of that sum in a sandbox is worth. -/
noncomputable def Try.pinned : Pinned := { name := "ythpclaoniljfbaa", sum := "917902a8513373ad2473ab01d36342fecb0af4955474f2bc457fa66765867395", checked := Try.checked }
namespace Rows
def none {H : Type} : Left H := { results := [], args := [] }

/-- 'squinchlaw16.ServerPlays': WHATEVER THE INPUT: true; the input reads as it did. -/
def serverPlaysSpec : ChangeSpec := { name := "serverPlays", fn := fun _ => fun
  | [d1, d2] => { results := [.lit (.bool true)], args := [d1, d2] }
  | _ => none }
def serverPlaysRow : OpenClaim := { program := "ythpclaoniljfbaa", sum := "917902a8513373ad2473ab01d36342fecb0af4955474f2bc457fa66765867395", func := "squinch/squinchlaw16.ServerPlays", spec := "serverPlays", unfollowed := true, recurses := true, apart := false }
def ServerPlaysSaid : Prop := serverPlaysRow.holds Try.pinned (OpenSpec.ofChange serverPlaysSpec)

/-- ITS FALSE NEIGHBOUR: 'it returns false'. Refute it at one input. -/
def serverPlaysWrong : ChangeSpec := { name := "serverPlays", fn := fun _ => fun
  | [d1, d2] => { results := [.lit (.bool false)], args := [d1, d2] }
  | _ => none }
def ServerPlaysWrongFalsely : Prop := serverPlaysRow.holds Try.pinned (OpenSpec.ofChange serverPlaysWrong)

/-- 'squinchlaw16.ServerKeeps': WHATEVER THE INPUT: true; the input reads as it did. -/
def serverKeepsSpec : ChangeSpec := { name := "serverKeeps", fn := fun _ => fun
  | [d1, d2] => { results := [.lit (.bool true)], args := [d1, d2] }
  | _ => none }
def serverKeepsRow : OpenClaim := { program := "ythpclaoniljfbaa", sum := "917902a8513373ad2473ab01d36342fecb0af4955474f2bc457fa66765867395", func := "squinch/squinchlaw16.ServerKeeps", spec := "serverKeeps", unfollowed := true, recurses := true, apart := false }
def ServerKeepsSaid : Prop := serverKeepsRow.holds Try.pinned (OpenSpec.ofChange serverKeepsSpec)

/-- ITS FALSE NEIGHBOUR: 'it returns false'. Refute it at one input. -/
def serverKeepsWrong : ChangeSpec := { name := "serverKeeps", fn := fun _ => fun
  | [d1, d2] => { results := [.lit (.bool false)], args := [d1, d2] }
  | _ => none }
def ServerKeepsWrongFalsely : Prop := serverKeepsRow.holds Try.pinned (OpenSpec.ofChange serverKeepsWrong)

/-- 'squinchlaw16.ServerAgain': WHATEVER THE INPUT: true; the input reads as it did. -/
def serverAgainSpec : ChangeSpec := { name := "serverAgain", fn := fun _ => fun
  | [d1, d2, d3, d4, d5] => { results := [.lit (.bool true)], args := [d1, d2, d3, d4, d5] }
  | _ => none }
def serverAgainRow : OpenClaim := { program := "ythpclaoniljfbaa", sum := "917902a8513373ad2473ab01d36342fecb0af4955474f2bc457fa66765867395", func := "squinch/squinchlaw16.ServerAgain", spec := "serverAgain", unfollowed := true, recurses := true, apart := false }
def ServerAgainSaid : Prop := serverAgainRow.holds Try.pinned (OpenSpec.ofChange serverAgainSpec)

/-- ITS FALSE NEIGHBOUR: 'it returns false'. Refute it at one input. -/
def serverAgainWrong : ChangeSpec := { name := "serverAgain", fn := fun _ => fun
  | [d1, d2, d3, d4, d5] => { results := [.lit (.bool false)], args := [d1, d2, d3, d4, d5] }
  | _ => none }
def ServerAgainWrongFalsely : Prop := serverAgainRow.holds Try.pinned (OpenSpec.ofChange serverAgainWrong)

/-- 'squinchlaw16.ServerNew': WHATEVER THE INPUT: true; the input reads as it did. -/
def serverNewSpec : ChangeSpec := { name := "serverNew", fn := fun _ => fun
  | [d1, d2, d3] => { results := [.lit (.bool true)], args := [d1, d2, d3] }
  | _ => none }
def serverNewRow : OpenClaim := { program := "ythpclaoniljfbaa", sum := "917902a8513373ad2473ab01d36342fecb0af4955474f2bc457fa66765867395", func := "squinch/squinchlaw16.ServerNew", spec := "serverNew", unfollowed := true, recurses := true, apart := false }
def ServerNewSaid : Prop := serverNewRow.holds Try.pinned (OpenSpec.ofChange serverNewSpec)

/-- ITS FALSE NEIGHBOUR: 'it returns false'. Refute it at one input. -/
def serverNewWrong : ChangeSpec := { name := "serverNew", fn := fun _ => fun
  | [d1, d2, d3] => { results := [.lit (.bool false)], args := [d1, d2, d3] }
  | _ => none }
def ServerNewWrongFalsely : Prop := serverNewRow.holds Try.pinned (OpenSpec.ofChange serverNewWrong)

/-- 'squinchlaw16.ServerFull': WHATEVER THE INPUT: true; the input reads as it did. -/
def serverFullSpec : ChangeSpec := { name := "serverFull", fn := fun _ => fun
  | [d1, d2] => { results := [.lit (.bool true)], args := [d1, d2] }
  | _ => none }
def serverFullRow : OpenClaim := { program := "ythpclaoniljfbaa", sum := "917902a8513373ad2473ab01d36342fecb0af4955474f2bc457fa66765867395", func := "squinch/squinchlaw16.ServerFull", spec := "serverFull", unfollowed := true, recurses := true, apart := false }
def ServerFullSaid : Prop := serverFullRow.holds Try.pinned (OpenSpec.ofChange serverFullSpec)

/-- ITS FALSE NEIGHBOUR: 'it returns false'. Refute it at one input. -/
def serverFullWrong : ChangeSpec := { name := "serverFull", fn := fun _ => fun
  | [d1, d2] => { results := [.lit (.bool false)], args := [d1, d2] }
  | _ => none }
def ServerFullWrongFalsely : Prop := serverFullRow.holds Try.pinned (OpenSpec.ofChange serverFullWrong)

/- THE SECOND FORM. 'bulk': how many values and letters a reading holds, each counted each time it is reached (what is shared counts as often as it is met; a slice's spare places count too). A statement '..UptoSaid' is the law's where the arguments, and the package variables that the reading takes, are together of bulk at most 1048576: NARROWER than '..Said'. Prove '..Said' where nothing that the law and all that it calls make is longer than what came in: it says more and counts as full. Else prove '..UptoSaid'. A law counts once. -/
mutual
def uptoBulk {H : Type} : DataW H → Nat
  | .lit (.string bytes) => bytes.length + 1
  | .lit _ => 1
  | .nil => 1
  | .ptr d => uptoBulk d + 1
  | .slice elems spare => uptoBulkAll elems + uptoBulkAll spare + 1
  | .agg parts => uptoBulkAll parts + 1
  | .iface _ d => uptoBulk d + 1
  | .map entries => uptoBulkEntries entries + 1
  | .held _ => 1
def uptoBulkAll {H : Type} : List (DataW H) → Nat
  | [] => 0
  | d :: r => uptoBulk d + uptoBulkAll r
def uptoBulkEntries {H : Type} : List (Lit × DataW H) → Nat
  | [] => 0
  | x :: r => uptoBulkEntry x + uptoBulkEntries r
def uptoBulkEntry {H : Type} : Lit × DataW H → Nat
  | (.string bytes, d) => bytes.length + uptoBulk d + 1
  | (_, d) => uptoBulk d + 1
 end
def uptoSmall : (H : Type) → List (DataW H) → Bool := fun _ ds => decide (uptoBulkAll ds ≤ 1048576)
def OpenSpec.upto (s : _root_.Go.ChangeSpec) : _root_.Go.OpenSpec := { _root_.Go.OpenSpec.ofChange s with cond := some uptoSmall }

/-- 'squinchlaw16.ServerPlays', WHERE WHAT IT READS IS OF BULK AT MOST 1048576: true; the input reads as it did. -/
def serverPlaysUptoRow : OpenClaim := { program := "ythpclaoniljfbaa", sum := "917902a8513373ad2473ab01d36342fecb0af4955474f2bc457fa66765867395", func := "squinch/squinchlaw16.ServerPlays", spec := "serverPlays", unfollowed := true, recurses := true, apart := false, narrowed := true }
def ServerPlaysUptoSaid : Prop := serverPlaysUptoRow.holds Try.pinned (OpenSpec.upto serverPlaysSpec)

/-- 'squinchlaw16.ServerKeeps', WHERE WHAT IT READS IS OF BULK AT MOST 1048576: true; the input reads as it did. -/
def serverKeepsUptoRow : OpenClaim := { program := "ythpclaoniljfbaa", sum := "917902a8513373ad2473ab01d36342fecb0af4955474f2bc457fa66765867395", func := "squinch/squinchlaw16.ServerKeeps", spec := "serverKeeps", unfollowed := true, recurses := true, apart := false, narrowed := true }
def ServerKeepsUptoSaid : Prop := serverKeepsUptoRow.holds Try.pinned (OpenSpec.upto serverKeepsSpec)

/-- 'squinchlaw16.ServerAgain', WHERE WHAT IT READS IS OF BULK AT MOST 1048576: true; the input reads as it did. -/
def serverAgainUptoRow : OpenClaim := { program := "ythpclaoniljfbaa", sum := "917902a8513373ad2473ab01d36342fecb0af4955474f2bc457fa66765867395", func := "squinch/squinchlaw16.ServerAgain", spec := "serverAgain", unfollowed := true, recurses := true, apart := false, narrowed := true }
def ServerAgainUptoSaid : Prop := serverAgainUptoRow.holds Try.pinned (OpenSpec.upto serverAgainSpec)

/-- 'squinchlaw16.ServerNew', WHERE WHAT IT READS IS OF BULK AT MOST 1048576: true; the input reads as it did. -/
def serverNewUptoRow : OpenClaim := { program := "ythpclaoniljfbaa", sum := "917902a8513373ad2473ab01d36342fecb0af4955474f2bc457fa66765867395", func := "squinch/squinchlaw16.ServerNew", spec := "serverNew", unfollowed := true, recurses := true, apart := false, narrowed := true }
def ServerNewUptoSaid : Prop := serverNewUptoRow.holds Try.pinned (OpenSpec.upto serverNewSpec)

/-- 'squinchlaw16.ServerFull', WHERE WHAT IT READS IS OF BULK AT MOST 1048576: true; the input reads as it did. -/
def serverFullUptoRow : OpenClaim := { program := "ythpclaoniljfbaa", sum := "917902a8513373ad2473ab01d36342fecb0af4955474f2bc457fa66765867395", func := "squinch/squinchlaw16.ServerFull", spec := "serverFull", unfollowed := true, recurses := true, apart := false, narrowed := true }
def ServerFullUptoSaid : Prop := serverFullUptoRow.holds Try.pinned (OpenSpec.upto serverFullSpec)

end Rows
end Go.Proofs.Ythpclaoniljfbaa
