/-
  DERIVED. GIVEN WITH THE SEED: THE CARDS: each row of YtikpcphlmlgojaaDoorRows.lean that lists a variable, with what it lists TIED to the program's text (the seventh form; the later family's looks); each row that meets fmt, with fmt's text TOLD by the authors' own Lean function (tested against real Go, not proved from fmt's source: count such statements apart). THE CARD IS WHAT COUNTS. Prove the row's statement (the work); the ties are given (YtikpcphlmlgojaaDoorTie.lean); close each card by the builder's one call (the guide's Derived/Test/ToyasCard.lean, 'card_holds'). Laid BY PROGRAM, IN A SANDBOX (cutbox-door.mjs). By AI agents, Wed Nov 11 2026. No macro, syntax, notation, axiom, sorry.
-/
import Derived.Test.YtikpcphlmlgojaaDoorRows
import GoSem.ClaimSeven
namespace Go.Proofs.YtikpcphlmlgojaaDoor
namespace Rows

/-- THE TIED CARD OF 'squinchlaw01.PackZigs'. -/
def packZigsCard : Claim7 := { stood := { row := packZigsRow, standIns := [], harness := (true, "7ea4b042cc132dc1499c0a958023faffa63d67e635b124f531d9d74b825c3a5b"), looks := false }, kinds := [], alts := [], laidByText := true, laidKinds := [.data, .pinned], laidTests := true, laidLooks := .later }
def PackZigsCardSaid : Prop := Claim7.holds Tryd.pinned (.plain (OpenSpec.ofChange packZigsSpec)) packZigsCard

/-- THE TIED CARD OF 'squinchlaw01.PackOrder'. -/
def packOrderCard : Claim7 := { stood := { row := packOrderRow, standIns := [], harness := (true, "7ea4b042cc132dc1499c0a958023faffa63d67e635b124f531d9d74b825c3a5b"), looks := false }, kinds := [], alts := [], laidByText := true, laidKinds := [.data, .pinned], laidTests := true, laidLooks := .later }
def PackOrderCardSaid : Prop := Claim7.holds Tryd.pinned (.plain (OpenSpec.ofChange packOrderSpec)) packOrderCard

/-- THE TIED CARD OF 'squinchlaw01.PackWrites'. -/
def packWritesCard : Claim7 := { stood := { row := packWritesRow, standIns := [], harness := (true, "7ea4b042cc132dc1499c0a958023faffa63d67e635b124f531d9d74b825c3a5b"), looks := false }, kinds := [], alts := [], laidByText := true, laidKinds := [.data, .pinned], laidTests := true, laidLooks := .later }
def PackWritesCardSaid : Prop := Claim7.holds Tryd.pinned (.plain (OpenSpec.ofChange packWritesSpec)) packWritesCard

/-- THE TIED CARD OF 'squinchlaw01.PackBack'. -/
def packBackCard : Claim7 := { stood := { row := packBackRow, standIns := [], harness := (true, "7ea4b042cc132dc1499c0a958023faffa63d67e635b124f531d9d74b825c3a5b"), looks := false }, kinds := [], alts := [], laidByText := true, laidKinds := [.data, .pinned], laidTests := true, laidLooks := .later }
def PackBackCardSaid : Prop := Claim7.holds Tryd.pinned (.plain (OpenSpec.ofChange packBackSpec)) packBackCard

/-- THE TIED CARD OF 'squinchlaw01.PackTexts'. -/
def packTextsCard : Claim7 := { stood := { row := packTextsRow, standIns := [], harness := (true, "7ea4b042cc132dc1499c0a958023faffa63d67e635b124f531d9d74b825c3a5b"), looks := false }, kinds := [], alts := [], laidByText := true, laidKinds := [.data, .pinned], laidTests := true, laidLooks := .later }
def PackTextsCardSaid : Prop := Claim7.holds Tryd.pinned (.plain (OpenSpec.ofChange packTextsSpec)) packTextsCard

/-- THE TIED CARD OF 'squinchlaw01.PackJoins'. -/
def packJoinsCard : Claim7 := { stood := { row := packJoinsRow, standIns := [], harness := (true, "7ea4b042cc132dc1499c0a958023faffa63d67e635b124f531d9d74b825c3a5b"), looks := false }, kinds := [], alts := [], laidByText := true, laidKinds := [.data, .pinned], laidTests := true, laidLooks := .later }
def PackJoinsCardSaid : Prop := Claim7.holds Tryd.pinned (.plain (OpenSpec.ofChange packJoinsSpec)) packJoinsCard

/-- THE TIED CARD OF 'squinchlaw01.PackReads'. -/
def packReadsCard : Claim7 := { stood := { row := packReadsRow, standIns := [], harness := (true, "7ea4b042cc132dc1499c0a958023faffa63d67e635b124f531d9d74b825c3a5b"), looks := false }, kinds := [], alts := [], laidByText := true, laidKinds := [.data, .pinned], laidTests := true, laidLooks := .later }
def PackReadsCardSaid : Prop := Claim7.holds Tryd.pinned (.plain (OpenSpec.ofChange packReadsSpec)) packReadsCard

/-- THE TIED CARD OF 'squinchlaw01.PackStops'. -/
def packStopsCard : Claim7 := { stood := { row := packStopsRow, standIns := [], harness := (true, "7ea4b042cc132dc1499c0a958023faffa63d67e635b124f531d9d74b825c3a5b"), looks := false }, kinds := [], alts := [], laidByText := true, laidKinds := [.data, .pinned], laidTests := true, laidLooks := .later }
def PackStopsCardSaid : Prop := Claim7.holds Tryd.pinned (.plain (OpenSpec.ofChange packStopsSpec)) packStopsCard

/-- THE SECOND FORM's CARD OF 'squinchlaw01.PackZigs'. -/
def packZigsUptoCard : Claim7 := { stood := { row := packZigsUptoRow, standIns := [], harness := (true, "7ea4b042cc132dc1499c0a958023faffa63d67e635b124f531d9d74b825c3a5b"), looks := false }, kinds := [], alts := [], laidByText := true, laidKinds := [.data, .pinned], laidTests := true, laidLooks := .later }
def PackZigsUptoCardSaid : Prop := Claim7.holds Tryd.pinned (.plain (OpenSpec.upto packZigsSpec)) packZigsUptoCard

/-- THE SECOND FORM's CARD OF 'squinchlaw01.PackOrder'. -/
def packOrderUptoCard : Claim7 := { stood := { row := packOrderUptoRow, standIns := [], harness := (true, "7ea4b042cc132dc1499c0a958023faffa63d67e635b124f531d9d74b825c3a5b"), looks := false }, kinds := [], alts := [], laidByText := true, laidKinds := [.data, .pinned], laidTests := true, laidLooks := .later }
def PackOrderUptoCardSaid : Prop := Claim7.holds Tryd.pinned (.plain (OpenSpec.upto packOrderSpec)) packOrderUptoCard

/-- THE SECOND FORM's CARD OF 'squinchlaw01.PackWrites'. -/
def packWritesUptoCard : Claim7 := { stood := { row := packWritesUptoRow, standIns := [], harness := (true, "7ea4b042cc132dc1499c0a958023faffa63d67e635b124f531d9d74b825c3a5b"), looks := false }, kinds := [], alts := [], laidByText := true, laidKinds := [.data, .pinned], laidTests := true, laidLooks := .later }
def PackWritesUptoCardSaid : Prop := Claim7.holds Tryd.pinned (.plain (OpenSpec.upto packWritesSpec)) packWritesUptoCard

/-- THE SECOND FORM's CARD OF 'squinchlaw01.PackBack'. -/
def packBackUptoCard : Claim7 := { stood := { row := packBackUptoRow, standIns := [], harness := (true, "7ea4b042cc132dc1499c0a958023faffa63d67e635b124f531d9d74b825c3a5b"), looks := false }, kinds := [], alts := [], laidByText := true, laidKinds := [.data, .pinned], laidTests := true, laidLooks := .later }
def PackBackUptoCardSaid : Prop := Claim7.holds Tryd.pinned (.plain (OpenSpec.upto packBackSpec)) packBackUptoCard

/-- THE SECOND FORM's CARD OF 'squinchlaw01.PackTexts'. -/
def packTextsUptoCard : Claim7 := { stood := { row := packTextsUptoRow, standIns := [], harness := (true, "7ea4b042cc132dc1499c0a958023faffa63d67e635b124f531d9d74b825c3a5b"), looks := false }, kinds := [], alts := [], laidByText := true, laidKinds := [.data, .pinned], laidTests := true, laidLooks := .later }
def PackTextsUptoCardSaid : Prop := Claim7.holds Tryd.pinned (.plain (OpenSpec.upto packTextsSpec)) packTextsUptoCard

/-- THE SECOND FORM's CARD OF 'squinchlaw01.PackJoins'. -/
def packJoinsUptoCard : Claim7 := { stood := { row := packJoinsUptoRow, standIns := [], harness := (true, "7ea4b042cc132dc1499c0a958023faffa63d67e635b124f531d9d74b825c3a5b"), looks := false }, kinds := [], alts := [], laidByText := true, laidKinds := [.data, .pinned], laidTests := true, laidLooks := .later }
def PackJoinsUptoCardSaid : Prop := Claim7.holds Tryd.pinned (.plain (OpenSpec.upto packJoinsSpec)) packJoinsUptoCard

/-- THE SECOND FORM's CARD OF 'squinchlaw01.PackReads'. -/
def packReadsUptoCard : Claim7 := { stood := { row := packReadsUptoRow, standIns := [], harness := (true, "7ea4b042cc132dc1499c0a958023faffa63d67e635b124f531d9d74b825c3a5b"), looks := false }, kinds := [], alts := [], laidByText := true, laidKinds := [.data, .pinned], laidTests := true, laidLooks := .later }
def PackReadsUptoCardSaid : Prop := Claim7.holds Tryd.pinned (.plain (OpenSpec.upto packReadsSpec)) packReadsUptoCard

/-- THE SECOND FORM's CARD OF 'squinchlaw01.PackStops'. -/
def packStopsUptoCard : Claim7 := { stood := { row := packStopsUptoRow, standIns := [], harness := (true, "7ea4b042cc132dc1499c0a958023faffa63d67e635b124f531d9d74b825c3a5b"), looks := false }, kinds := [], alts := [], laidByText := true, laidKinds := [.data, .pinned], laidTests := true, laidLooks := .later }
def PackStopsUptoCardSaid : Prop := Claim7.holds Tryd.pinned (.plain (OpenSpec.upto packStopsSpec)) packStopsUptoCard
end Rows
end Go.Proofs.YtikpcphlmlgojaaDoor
