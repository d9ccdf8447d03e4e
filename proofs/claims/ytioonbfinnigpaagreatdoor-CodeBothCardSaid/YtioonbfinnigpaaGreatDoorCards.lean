/-
  DERIVED. GIVEN WITH THE SEED: THE CARDS: each row of YtioonbfinnigpaaGreatDoorRows.lean that lists a variable, with what it lists TIED to the program's text (the seventh form; the later family's looks); each row that meets fmt, with fmt's text TOLD by the authors' own Lean function (tested against real Go, not proved from fmt's source: count such statements apart). THE CARD IS WHAT COUNTS. Prove the row's statement (the work); the ties are given (YtioonbfinnigpaaGreatDoorTie.lean); close each card by the builder's one call (the guide's Derived/Test/ToyasCard.lean, 'card_holds'). Laid BY PROGRAM, IN A SANDBOX (cutbox-door.mjs). By AI agents, Wed Nov 11 2026. No macro, syntax, notation, axiom, sorry.
-/
import Derived.Test.YtioonbfinnigpaaGreatDoorRows
import GoSem.ClaimSeven
namespace Go.Proofs.YtioonbfinnigpaaGreatDoor
namespace Rows

/-- THE TIED CARD OF 'squinchlaw04.CodeTakes'. -/
def codeTakesCard : Claim7 := { stood := { row := codeTakesRow, standIns := [], harness := (true, "7083ff95c19ece906ce933429e37e83e4c13c2fe8fe3fae14df3598bd608bd71"), looks := true }, kinds := [], alts := [], laidByText := true, laidKinds := [.data, .data, .data, .data, .widerDeep, .pinned], laidTests := true, laidLooks := .later }
def CodeTakesCardSaid : Prop := Claim7.holds Tryz.pinned (.plain (OpenSpec.ofChange codeTakesSpec)) codeTakesCard

/-- THE TIED CARD OF 'squinchlaw04.CodePuts'. -/
def codePutsCard : Claim7 := { stood := { row := codePutsRow, standIns := [], harness := (true, "7083ff95c19ece906ce933429e37e83e4c13c2fe8fe3fae14df3598bd608bd71"), looks := true }, kinds := [], alts := [], laidByText := true, laidKinds := [.data, .data, .data, .data, .widerDeep, .pinned], laidTests := true, laidLooks := .later }
def CodePutsCardSaid : Prop := Claim7.holds Tryz.pinned (.plain (OpenSpec.ofChange codePutsSpec)) codePutsCard

/-- THE TIED CARD OF 'squinchlaw04.CodeBoth'. -/
def codeBothCard : Claim7 := { stood := { row := codeBothRow, standIns := [], harness := (true, "7083ff95c19ece906ce933429e37e83e4c13c2fe8fe3fae14df3598bd608bd71"), looks := true }, kinds := [], alts := [], laidByText := true, laidKinds := [.data, .data, .data, .data, .sentinel, .sentinel, .widerDeep, .pinned], laidTests := true, laidLooks := .later }
def CodeBothCardSaid : Prop := Claim7.holds Tryz.pinned (.plain (OpenSpec.ofChange codeBothSpec)) codeBothCard

/-- THE SECOND FORM's CARD OF 'squinchlaw04.CodeTakes'. -/
def codeTakesUptoCard : Claim7 := { stood := { row := codeTakesUptoRow, standIns := [], harness := (true, "7083ff95c19ece906ce933429e37e83e4c13c2fe8fe3fae14df3598bd608bd71"), looks := true }, kinds := [], alts := [], laidByText := true, laidKinds := [.data, .data, .data, .data, .widerDeep, .pinned], laidTests := true, laidLooks := .later }
def CodeTakesUptoCardSaid : Prop := Claim7.holds Tryz.pinned (.plain (OpenSpec.upto codeTakesSpec)) codeTakesUptoCard

/-- THE SECOND FORM's CARD OF 'squinchlaw04.CodePuts'. -/
def codePutsUptoCard : Claim7 := { stood := { row := codePutsUptoRow, standIns := [], harness := (true, "7083ff95c19ece906ce933429e37e83e4c13c2fe8fe3fae14df3598bd608bd71"), looks := true }, kinds := [], alts := [], laidByText := true, laidKinds := [.data, .data, .data, .data, .widerDeep, .pinned], laidTests := true, laidLooks := .later }
def CodePutsUptoCardSaid : Prop := Claim7.holds Tryz.pinned (.plain (OpenSpec.upto codePutsSpec)) codePutsUptoCard

/-- THE SECOND FORM's CARD OF 'squinchlaw04.CodeBoth'. -/
def codeBothUptoCard : Claim7 := { stood := { row := codeBothUptoRow, standIns := [], harness := (true, "7083ff95c19ece906ce933429e37e83e4c13c2fe8fe3fae14df3598bd608bd71"), looks := true }, kinds := [], alts := [], laidByText := true, laidKinds := [.data, .data, .data, .data, .sentinel, .sentinel, .widerDeep, .pinned], laidTests := true, laidLooks := .later }
def CodeBothUptoCardSaid : Prop := Claim7.holds Tryz.pinned (.plain (OpenSpec.upto codeBothSpec)) codeBothUptoCard
end Rows
end Go.Proofs.YtioonbfinnigpaaGreatDoor
