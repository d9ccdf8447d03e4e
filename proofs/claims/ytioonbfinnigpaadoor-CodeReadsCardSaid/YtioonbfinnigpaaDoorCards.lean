/-
  DERIVED. GIVEN WITH THE SEED: THE CARDS: each row of YtioonbfinnigpaaDoorRows.lean that lists a variable, with what it lists TIED to the program's text (the seventh form; the later family's looks); each row that meets fmt, with fmt's text TOLD by the authors' own Lean function (tested against real Go, not proved from fmt's source: count such statements apart). THE CARD IS WHAT COUNTS. Prove the row's statement (the work); the ties are given (YtioonbfinnigpaaDoorTie.lean); close each card by the builder's one call (the guide's Derived/Test/ToyasCard.lean, 'card_holds'). Laid BY PROGRAM, IN A SANDBOX (cutbox-door.mjs). By AI agents, Wed Nov 11 2026. No macro, syntax, notation, axiom, sorry.
-/
import Derived.Test.YtioonbfinnigpaaDoorRows
import GoSem.ClaimSeven
namespace Go.Proofs.YtioonbfinnigpaaDoor
namespace Rows

/-- THE TIED CARD OF 'squinchlaw04.CodeChecks'. -/
def codeChecksCard : Claim7 := { stood := { row := codeChecksRow, standIns := [], harness := (true, "fd809332679d8cd17cf0d32fa048cb415d0803c95a5d8225190feda4e6c52f35"), looks := true }, kinds := [], alts := [], laidByText := true, laidKinds := [.data, .data, .data, .data, .widerDeep, .pinned], laidTests := true, laidLooks := .later }
def CodeChecksCardSaid : Prop := Claim7.holds Tryd.pinned (.plain (OpenSpec.ofChange codeChecksSpec)) codeChecksCard

/-- THE TIED CARD OF 'squinchlaw04.CodeOps'. -/
def codeOpsCard : Claim7 := { stood := { row := codeOpsRow, standIns := [], harness := (true, "fd809332679d8cd17cf0d32fa048cb415d0803c95a5d8225190feda4e6c52f35"), looks := true }, kinds := [], alts := [], laidByText := true, laidKinds := [.data, .data, .data, .data, .widerDeep, .pinned], laidTests := true, laidLooks := .later }
def CodeOpsCardSaid : Prop := Claim7.holds Tryd.pinned (.plain (OpenSpec.ofChange codeOpsSpec)) codeOpsCard

/-- THE TIED CARD OF 'squinchlaw04.CodeGets'. -/
def codeGetsCard : Claim7 := { stood := { row := codeGetsRow, standIns := [], harness := (true, "fd809332679d8cd17cf0d32fa048cb415d0803c95a5d8225190feda4e6c52f35"), looks := true }, kinds := [], alts := [], laidByText := true, laidKinds := [.data, .data, .data, .data, .widerDeep, .pinned], laidTests := true, laidLooks := .later }
def CodeGetsCardSaid : Prop := Claim7.holds Tryd.pinned (.plain (OpenSpec.ofChange codeGetsSpec)) codeGetsCard

/-- THE TIED CARD OF 'squinchlaw04.CodeReads'. -/
def codeReadsCard : Claim7 := { stood := { row := codeReadsRow, standIns := [], harness := (true, "fd809332679d8cd17cf0d32fa048cb415d0803c95a5d8225190feda4e6c52f35"), looks := true }, kinds := [], alts := [], laidByText := true, laidKinds := [.data, .data, .data, .data, .sentinel, .sentinel, .widerDeep, .pinned], laidTests := true, laidLooks := .later }
def CodeReadsCardSaid : Prop := Claim7.holds Tryd.pinned (.plain (OpenSpec.ofChange codeReadsSpec)) codeReadsCard

/-- THE SECOND FORM's CARD OF 'squinchlaw04.CodeChecks'. -/
def codeChecksUptoCard : Claim7 := { stood := { row := codeChecksUptoRow, standIns := [], harness := (true, "fd809332679d8cd17cf0d32fa048cb415d0803c95a5d8225190feda4e6c52f35"), looks := true }, kinds := [], alts := [], laidByText := true, laidKinds := [.data, .data, .data, .data, .widerDeep, .pinned], laidTests := true, laidLooks := .later }
def CodeChecksUptoCardSaid : Prop := Claim7.holds Tryd.pinned (.plain (OpenSpec.upto codeChecksSpec)) codeChecksUptoCard

/-- THE SECOND FORM's CARD OF 'squinchlaw04.CodeOps'. -/
def codeOpsUptoCard : Claim7 := { stood := { row := codeOpsUptoRow, standIns := [], harness := (true, "fd809332679d8cd17cf0d32fa048cb415d0803c95a5d8225190feda4e6c52f35"), looks := true }, kinds := [], alts := [], laidByText := true, laidKinds := [.data, .data, .data, .data, .widerDeep, .pinned], laidTests := true, laidLooks := .later }
def CodeOpsUptoCardSaid : Prop := Claim7.holds Tryd.pinned (.plain (OpenSpec.upto codeOpsSpec)) codeOpsUptoCard

/-- THE SECOND FORM's CARD OF 'squinchlaw04.CodeGets'. -/
def codeGetsUptoCard : Claim7 := { stood := { row := codeGetsUptoRow, standIns := [], harness := (true, "fd809332679d8cd17cf0d32fa048cb415d0803c95a5d8225190feda4e6c52f35"), looks := true }, kinds := [], alts := [], laidByText := true, laidKinds := [.data, .data, .data, .data, .widerDeep, .pinned], laidTests := true, laidLooks := .later }
def CodeGetsUptoCardSaid : Prop := Claim7.holds Tryd.pinned (.plain (OpenSpec.upto codeGetsSpec)) codeGetsUptoCard

/-- THE SECOND FORM's CARD OF 'squinchlaw04.CodeReads'. -/
def codeReadsUptoCard : Claim7 := { stood := { row := codeReadsUptoRow, standIns := [], harness := (true, "fd809332679d8cd17cf0d32fa048cb415d0803c95a5d8225190feda4e6c52f35"), looks := true }, kinds := [], alts := [], laidByText := true, laidKinds := [.data, .data, .data, .data, .sentinel, .sentinel, .widerDeep, .pinned], laidTests := true, laidLooks := .later }
def CodeReadsUptoCardSaid : Prop := Claim7.holds Tryd.pinned (.plain (OpenSpec.upto codeReadsSpec)) codeReadsUptoCard
end Rows
end Go.Proofs.YtioonbfinnigpaaDoor
