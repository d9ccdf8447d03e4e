/-
  DERIVED. GIVEN WITH THE SEED: THE CARDS: each row of YtgmeojpekdekeaaGreatDoorRows.lean that lists a variable, with what it lists TIED to the program's text (the seventh form; the later family's looks); each row that meets fmt, with fmt's text TOLD by the authors' own Lean function (tested against real Go, not proved from fmt's source: count such statements apart). THE CARD IS WHAT COUNTS. Prove the row's statement (the work); the ties are given (YtgmeojpekdekeaaGreatDoorTie.lean); close each card by the builder's one call (the guide's Derived/Test/ToyasCard.lean, 'card_holds'). Laid BY PROGRAM, IN A SANDBOX (cutbox-door.mjs). By AI agents, Wed Nov 11 2026. No macro, syntax, notation, axiom, sorry.
-/
import Derived.Test.YtgmeojpekdekeaaGreatDoorRows
import GoSem.ClaimSeven
namespace Go.Proofs.YtgmeojpekdekeaaGreatDoor
namespace Rows

/-- THE TIED CARD OF 'squinchlaw20.ScriptShows'. -/
def scriptShowsCard : Claim7 := { stood := { row := scriptShowsRow, standIns := [], harness := (true, "027bc2501c9b7fc2f6573e24c2def712dc546c752ed64297e15c9b74d423cd3f"), looks := true }, kinds := [], alts := [], laidByText := true, laidKinds := [.data, .data, .data, .data, .sentinel, .sentinel, .widerDeep, .pinned], laidTests := true, laidLooks := .later }
def ScriptShowsCardSaid : Prop := Claim7.holds Tryz.pinned (.plain (OpenSpec.ofChange scriptShowsSpec)) scriptShowsCard

/-- THE TIED CARD OF 'squinchlaw20.ScriptReads'. -/
def scriptReadsCard : Claim7 := { stood := { row := scriptReadsRow, standIns := [], harness := (true, "027bc2501c9b7fc2f6573e24c2def712dc546c752ed64297e15c9b74d423cd3f"), looks := true }, kinds := [], alts := [], laidByText := true, laidKinds := [.data, .data, .data, .data, .sentinel, .sentinel, .widerDeep, .pinned], laidTests := true, laidLooks := .later }
def ScriptReadsCardSaid : Prop := Claim7.holds Tryz.pinned (.plain (OpenSpec.ofChange scriptReadsSpec)) scriptReadsCard

/-- THE TIED CARD OF 'squinchlaw20.ScriptLine'. -/
def scriptLineCard : Claim7 := { stood := { row := scriptLineRow, standIns := [], harness := (true, "027bc2501c9b7fc2f6573e24c2def712dc546c752ed64297e15c9b74d423cd3f"), looks := true }, kinds := [], alts := [], laidByText := true, laidKinds := [.data, .data, .data, .data, .sentinel, .sentinel, .widerDeep, .pinned], laidTests := true, laidLooks := .later }
def ScriptLineCardSaid : Prop := Claim7.holds Tryz.pinned (.plain (OpenSpec.ofChange scriptLineSpec)) scriptLineCard

/-- THE TIED CARD OF 'squinchlaw20.ScriptJoins'. -/
def scriptJoinsCard : Claim7 := { stood := { row := scriptJoinsRow, standIns := [], harness := (true, "027bc2501c9b7fc2f6573e24c2def712dc546c752ed64297e15c9b74d423cd3f"), looks := true }, kinds := [], alts := [], laidByText := true, laidKinds := [.data, .data, .data, .data, .sentinel, .sentinel, .widerDeep, .pinned], laidTests := true, laidLooks := .later }
def ScriptJoinsCardSaid : Prop := Claim7.holds Tryz.pinned (.plain (OpenSpec.ofChange scriptJoinsSpec)) scriptJoinsCard

/-- THE TIED CARD OF 'squinchlaw20.ScriptReports'. -/
def scriptReportsCard : Claim7 := { stood := { row := scriptReportsRow, standIns := [], harness := (true, "027bc2501c9b7fc2f6573e24c2def712dc546c752ed64297e15c9b74d423cd3f"), looks := true }, kinds := [], alts := [], laidByText := true, laidKinds := [.data, .data, .data, .data, .sentinel, .sentinel, .widerDeep, .pinned], laidTests := true, laidLooks := .later }
def ScriptReportsCardSaid : Prop := Claim7.holds Tryz.pinned (.plain (OpenSpec.ofChange scriptReportsSpec)) scriptReportsCard

/-- THE SECOND FORM's CARD OF 'squinchlaw20.ScriptShows'. -/
def scriptShowsUptoCard : Claim7 := { stood := { row := scriptShowsUptoRow, standIns := [], harness := (true, "027bc2501c9b7fc2f6573e24c2def712dc546c752ed64297e15c9b74d423cd3f"), looks := true }, kinds := [], alts := [], laidByText := true, laidKinds := [.data, .data, .data, .data, .sentinel, .sentinel, .widerDeep, .pinned], laidTests := true, laidLooks := .later }
def ScriptShowsUptoCardSaid : Prop := Claim7.holds Tryz.pinned (.plain (OpenSpec.upto scriptShowsSpec)) scriptShowsUptoCard

/-- THE SECOND FORM's CARD OF 'squinchlaw20.ScriptReads'. -/
def scriptReadsUptoCard : Claim7 := { stood := { row := scriptReadsUptoRow, standIns := [], harness := (true, "027bc2501c9b7fc2f6573e24c2def712dc546c752ed64297e15c9b74d423cd3f"), looks := true }, kinds := [], alts := [], laidByText := true, laidKinds := [.data, .data, .data, .data, .sentinel, .sentinel, .widerDeep, .pinned], laidTests := true, laidLooks := .later }
def ScriptReadsUptoCardSaid : Prop := Claim7.holds Tryz.pinned (.plain (OpenSpec.upto scriptReadsSpec)) scriptReadsUptoCard

/-- THE SECOND FORM's CARD OF 'squinchlaw20.ScriptLine'. -/
def scriptLineUptoCard : Claim7 := { stood := { row := scriptLineUptoRow, standIns := [], harness := (true, "027bc2501c9b7fc2f6573e24c2def712dc546c752ed64297e15c9b74d423cd3f"), looks := true }, kinds := [], alts := [], laidByText := true, laidKinds := [.data, .data, .data, .data, .sentinel, .sentinel, .widerDeep, .pinned], laidTests := true, laidLooks := .later }
def ScriptLineUptoCardSaid : Prop := Claim7.holds Tryz.pinned (.plain (OpenSpec.upto scriptLineSpec)) scriptLineUptoCard

/-- THE SECOND FORM's CARD OF 'squinchlaw20.ScriptJoins'. -/
def scriptJoinsUptoCard : Claim7 := { stood := { row := scriptJoinsUptoRow, standIns := [], harness := (true, "027bc2501c9b7fc2f6573e24c2def712dc546c752ed64297e15c9b74d423cd3f"), looks := true }, kinds := [], alts := [], laidByText := true, laidKinds := [.data, .data, .data, .data, .sentinel, .sentinel, .widerDeep, .pinned], laidTests := true, laidLooks := .later }
def ScriptJoinsUptoCardSaid : Prop := Claim7.holds Tryz.pinned (.plain (OpenSpec.upto scriptJoinsSpec)) scriptJoinsUptoCard

/-- THE SECOND FORM's CARD OF 'squinchlaw20.ScriptReports'. -/
def scriptReportsUptoCard : Claim7 := { stood := { row := scriptReportsUptoRow, standIns := [], harness := (true, "027bc2501c9b7fc2f6573e24c2def712dc546c752ed64297e15c9b74d423cd3f"), looks := true }, kinds := [], alts := [], laidByText := true, laidKinds := [.data, .data, .data, .data, .sentinel, .sentinel, .widerDeep, .pinned], laidTests := true, laidLooks := .later }
def ScriptReportsUptoCardSaid : Prop := Claim7.holds Tryz.pinned (.plain (OpenSpec.upto scriptReportsSpec)) scriptReportsUptoCard
end Rows
end Go.Proofs.YtgmeojpekdekeaaGreatDoor
