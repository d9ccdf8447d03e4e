/-
  DERIVED. GIVEN WITH THE SEED: THE CARDS: each row of YthpknpfhpkkheaaGreatDoorRows.lean that lists a variable, with what it lists TIED to the program's text (the seventh form; the later family's looks); each row that meets fmt, with fmt's text TOLD by the authors' own Lean function (tested against real Go, not proved from fmt's source: count such statements apart). THE CARD IS WHAT COUNTS. Prove the row's statement (the work); the ties are given (YthpknpfhpkkheaaGreatDoorTie.lean); close each card by the builder's one call (the guide's Derived/Test/ToyasCard.lean, 'card_holds'). Laid BY PROGRAM, IN A SANDBOX (cutbox-door.mjs). By AI agents, Wed Nov 11 2026. No macro, syntax, notation, axiom, sorry.
-/
import Derived.Test.YthpknpfhpkkheaaGreatDoorRows
import GoSem.ClaimSeven
namespace Go.Proofs.YthpknpfhpkkheaaGreatDoor
namespace Rows

/-- THE TIED CARD OF 'squinchlaw05.ClassChecks'. -/
def classChecksCard : Claim7 := { stood := { row := classChecksRow, standIns := [], harness := (true, "d72fd896d8b025723136439bb44ea5b87c5b73116a45efe885e709df1288d065"), looks := false }, kinds := [], alts := [], laidByText := true, laidKinds := [.data, .widerDeep, .pinned], laidTests := true, laidLooks := .later }
def ClassChecksCardSaid : Prop := Claim7.holds Tryz.pinned (.plain (OpenSpec.ofChange classChecksSpec)) classChecksCard

/-- THE TIED CARD OF 'squinchlaw05.ClassPuts'. -/
def classPutsCard : Claim7 := { stood := { row := classPutsRow, standIns := [], harness := (true, "d72fd896d8b025723136439bb44ea5b87c5b73116a45efe885e709df1288d065"), looks := false }, kinds := [], alts := [], laidByText := true, laidKinds := [.data, .widerDeep, .pinned], laidTests := true, laidLooks := .later }
def ClassPutsCardSaid : Prop := Claim7.holds Tryz.pinned (.plain (OpenSpec.ofChange classPutsSpec)) classPutsCard

/-- THE TIED CARD OF 'squinchlaw05.ClassGets'. -/
def classGetsCard : Claim7 := { stood := { row := classGetsRow, standIns := [], harness := (true, "d72fd896d8b025723136439bb44ea5b87c5b73116a45efe885e709df1288d065"), looks := false }, kinds := [], alts := [], laidByText := true, laidKinds := [.data, .widerDeep, .pinned], laidTests := true, laidLooks := .later }
def ClassGetsCardSaid : Prop := Claim7.holds Tryz.pinned (.plain (OpenSpec.ofChange classGetsSpec)) classGetsCard

/-- THE TIED CARD OF 'squinchlaw05.ClassSame'. -/
def classSameCard : Claim7 := { stood := { row := classSameRow, standIns := [], harness := (true, "d72fd896d8b025723136439bb44ea5b87c5b73116a45efe885e709df1288d065"), looks := false }, kinds := [], alts := [], laidByText := true, laidKinds := [.data, .widerDeep, .pinned], laidTests := true, laidLooks := .later }
def ClassSameCardSaid : Prop := Claim7.holds Tryz.pinned (.plain (OpenSpec.ofChange classSameSpec)) classSameCard

/-- THE TIED CARD OF 'squinchlaw05.ClassSigns'. -/
def classSignsCard : Claim7 := { stood := { row := classSignsRow, standIns := [], harness := (true, "d72fd896d8b025723136439bb44ea5b87c5b73116a45efe885e709df1288d065"), looks := false }, kinds := [], alts := [], laidByText := true, laidKinds := [.data, .widerDeep, .pinned], laidTests := true, laidLooks := .later }
def ClassSignsCardSaid : Prop := Claim7.holds Tryz.pinned (.plain (OpenSpec.ofChange classSignsSpec)) classSignsCard

/-- THE TIED CARD OF 'squinchlaw05.ClassUnpacks'. -/
def classUnpacksCard : Claim7 := { stood := { row := classUnpacksRow, standIns := [], harness := (true, "d72fd896d8b025723136439bb44ea5b87c5b73116a45efe885e709df1288d065"), looks := false }, kinds := [], alts := [], laidByText := true, laidKinds := [.data, .widerDeep, .pinned], laidTests := true, laidLooks := .later }
def ClassUnpacksCardSaid : Prop := Claim7.holds Tryz.pinned (.plain (OpenSpec.ofChange classUnpacksSpec)) classUnpacksCard

/-- THE TIED CARD OF 'squinchlaw05.ClassLists'. -/
def classListsCard : Claim7 := { stood := { row := classListsRow, standIns := [], harness := (true, "d72fd896d8b025723136439bb44ea5b87c5b73116a45efe885e709df1288d065"), looks := false }, kinds := [], alts := [], laidByText := true, laidKinds := [.data, .widerDeep, .pinned], laidTests := true, laidLooks := .later }
def ClassListsCardSaid : Prop := Claim7.holds Tryz.pinned (.plain (OpenSpec.ofChange classListsSpec)) classListsCard

/-- THE TIED CARD OF 'squinchlaw05.ClassPacks'. -/
def classPacksCard : Claim7 := { stood := { row := classPacksRow, standIns := [], harness := (true, "d72fd896d8b025723136439bb44ea5b87c5b73116a45efe885e709df1288d065"), looks := false }, kinds := [], alts := [], laidByText := true, laidKinds := [.data, .widerDeep, .pinned], laidTests := true, laidLooks := .later }
def ClassPacksCardSaid : Prop := Claim7.holds Tryz.pinned (.plain (OpenSpec.ofChange classPacksSpec)) classPacksCard

/-- THE SECOND FORM's CARD OF 'squinchlaw05.ClassChecks'. -/
def classChecksUptoCard : Claim7 := { stood := { row := classChecksUptoRow, standIns := [], harness := (true, "d72fd896d8b025723136439bb44ea5b87c5b73116a45efe885e709df1288d065"), looks := false }, kinds := [], alts := [], laidByText := true, laidKinds := [.data, .widerDeep, .pinned], laidTests := true, laidLooks := .later }
def ClassChecksUptoCardSaid : Prop := Claim7.holds Tryz.pinned (.plain (OpenSpec.upto classChecksSpec)) classChecksUptoCard

/-- THE SECOND FORM's CARD OF 'squinchlaw05.ClassPuts'. -/
def classPutsUptoCard : Claim7 := { stood := { row := classPutsUptoRow, standIns := [], harness := (true, "d72fd896d8b025723136439bb44ea5b87c5b73116a45efe885e709df1288d065"), looks := false }, kinds := [], alts := [], laidByText := true, laidKinds := [.data, .widerDeep, .pinned], laidTests := true, laidLooks := .later }
def ClassPutsUptoCardSaid : Prop := Claim7.holds Tryz.pinned (.plain (OpenSpec.upto classPutsSpec)) classPutsUptoCard

/-- THE SECOND FORM's CARD OF 'squinchlaw05.ClassGets'. -/
def classGetsUptoCard : Claim7 := { stood := { row := classGetsUptoRow, standIns := [], harness := (true, "d72fd896d8b025723136439bb44ea5b87c5b73116a45efe885e709df1288d065"), looks := false }, kinds := [], alts := [], laidByText := true, laidKinds := [.data, .widerDeep, .pinned], laidTests := true, laidLooks := .later }
def ClassGetsUptoCardSaid : Prop := Claim7.holds Tryz.pinned (.plain (OpenSpec.upto classGetsSpec)) classGetsUptoCard

/-- THE SECOND FORM's CARD OF 'squinchlaw05.ClassSame'. -/
def classSameUptoCard : Claim7 := { stood := { row := classSameUptoRow, standIns := [], harness := (true, "d72fd896d8b025723136439bb44ea5b87c5b73116a45efe885e709df1288d065"), looks := false }, kinds := [], alts := [], laidByText := true, laidKinds := [.data, .widerDeep, .pinned], laidTests := true, laidLooks := .later }
def ClassSameUptoCardSaid : Prop := Claim7.holds Tryz.pinned (.plain (OpenSpec.upto classSameSpec)) classSameUptoCard

/-- THE SECOND FORM's CARD OF 'squinchlaw05.ClassSigns'. -/
def classSignsUptoCard : Claim7 := { stood := { row := classSignsUptoRow, standIns := [], harness := (true, "d72fd896d8b025723136439bb44ea5b87c5b73116a45efe885e709df1288d065"), looks := false }, kinds := [], alts := [], laidByText := true, laidKinds := [.data, .widerDeep, .pinned], laidTests := true, laidLooks := .later }
def ClassSignsUptoCardSaid : Prop := Claim7.holds Tryz.pinned (.plain (OpenSpec.upto classSignsSpec)) classSignsUptoCard

/-- THE SECOND FORM's CARD OF 'squinchlaw05.ClassUnpacks'. -/
def classUnpacksUptoCard : Claim7 := { stood := { row := classUnpacksUptoRow, standIns := [], harness := (true, "d72fd896d8b025723136439bb44ea5b87c5b73116a45efe885e709df1288d065"), looks := false }, kinds := [], alts := [], laidByText := true, laidKinds := [.data, .widerDeep, .pinned], laidTests := true, laidLooks := .later }
def ClassUnpacksUptoCardSaid : Prop := Claim7.holds Tryz.pinned (.plain (OpenSpec.upto classUnpacksSpec)) classUnpacksUptoCard

/-- THE SECOND FORM's CARD OF 'squinchlaw05.ClassLists'. -/
def classListsUptoCard : Claim7 := { stood := { row := classListsUptoRow, standIns := [], harness := (true, "d72fd896d8b025723136439bb44ea5b87c5b73116a45efe885e709df1288d065"), looks := false }, kinds := [], alts := [], laidByText := true, laidKinds := [.data, .widerDeep, .pinned], laidTests := true, laidLooks := .later }
def ClassListsUptoCardSaid : Prop := Claim7.holds Tryz.pinned (.plain (OpenSpec.upto classListsSpec)) classListsUptoCard

/-- THE SECOND FORM's CARD OF 'squinchlaw05.ClassPacks'. -/
def classPacksUptoCard : Claim7 := { stood := { row := classPacksUptoRow, standIns := [], harness := (true, "d72fd896d8b025723136439bb44ea5b87c5b73116a45efe885e709df1288d065"), looks := false }, kinds := [], alts := [], laidByText := true, laidKinds := [.data, .widerDeep, .pinned], laidTests := true, laidLooks := .later }
def ClassPacksUptoCardSaid : Prop := Claim7.holds Tryz.pinned (.plain (OpenSpec.upto classPacksSpec)) classPacksUptoCard
end Rows
end Go.Proofs.YthpknpfhpkkheaaGreatDoor
