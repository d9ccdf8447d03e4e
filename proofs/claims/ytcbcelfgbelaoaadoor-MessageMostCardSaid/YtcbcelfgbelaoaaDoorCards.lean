/-
  DERIVED. GIVEN WITH THE SEED: THE CARDS: each row of YtcbcelfgbelaoaaDoorRows.lean that lists a variable, with what it lists TIED to the program's text (the seventh form; the later family's looks); each row that meets fmt, with fmt's text TOLD by the authors' own Lean function (tested against real Go, not proved from fmt's source: count such statements apart). THE CARD IS WHAT COUNTS. Prove the row's statement (the work); the ties are given (YtcbcelfgbelaoaaDoorTie.lean); close each card by the builder's one call (the guide's Derived/Test/ToyasCard.lean, 'card_holds'). Laid BY PROGRAM, IN A SANDBOX (cutbox-door.mjs). By AI agents, Wed Nov 11 2026. No macro, syntax, notation, axiom, sorry.
-/
import Derived.Test.YtcbcelfgbelaoaaDoorRows
import GoSem.ClaimSeven
namespace Go.Proofs.YtcbcelfgbelaoaaDoor
namespace Rows

/-- THE TIED CARD OF 'squinchlaw14.MessagePuts'. -/
def messagePutsCard : Claim7 := { stood := { row := messagePutsRow, standIns := [], harness := (true, "86369b0b3b6c196762e1ac4671674b85770db969f8934d5ddd3c673901001e72"), looks := false }, kinds := [], alts := [], laidByText := true, laidKinds := [.data, .pinned], laidTests := true, laidLooks := .later }
def MessagePutsCardSaid : Prop := Claim7.holds Tryd.pinned (.plain (OpenSpec.ofChange messagePutsSpec)) messagePutsCard

/-- THE TIED CARD OF 'squinchlaw14.MessageGets'. -/
def messageGetsCard : Claim7 := { stood := { row := messageGetsRow, standIns := [], harness := (true, "86369b0b3b6c196762e1ac4671674b85770db969f8934d5ddd3c673901001e72"), looks := false }, kinds := [], alts := [], laidByText := true, laidKinds := [.data, .pinned], laidTests := true, laidLooks := .later }
def MessageGetsCardSaid : Prop := Claim7.holds Tryd.pinned (.plain (OpenSpec.ofChange messageGetsSpec)) messageGetsCard

/-- THE TIED CARD OF 'squinchlaw14.MessageReplies'. -/
def messageRepliesCard : Claim7 := { stood := { row := messageRepliesRow, standIns := [], harness := (true, "86369b0b3b6c196762e1ac4671674b85770db969f8934d5ddd3c673901001e72"), looks := false }, kinds := [], alts := [], laidByText := true, laidKinds := [.data, .pinned], laidTests := true, laidLooks := .later }
def MessageRepliesCardSaid : Prop := Claim7.holds Tryd.pinned (.plain (OpenSpec.ofChange messageRepliesSpec)) messageRepliesCard

/-- THE TIED CARD OF 'squinchlaw14.MessageTurned'. -/
def messageTurnedCard : Claim7 := { stood := { row := messageTurnedRow, standIns := [], harness := (true, "86369b0b3b6c196762e1ac4671674b85770db969f8934d5ddd3c673901001e72"), looks := false }, kinds := [], alts := [], laidByText := true, laidKinds := [.data, .pinned], laidTests := true, laidLooks := .later }
def MessageTurnedCardSaid : Prop := Claim7.holds Tryd.pinned (.plain (OpenSpec.ofChange messageTurnedSpec)) messageTurnedCard

/-- THE TIED CARD OF 'squinchlaw14.MessageApart'. -/
def messageApartCard : Claim7 := { stood := { row := messageApartRow, standIns := [], harness := (true, "86369b0b3b6c196762e1ac4671674b85770db969f8934d5ddd3c673901001e72"), looks := false }, kinds := [], alts := [], laidByText := true, laidKinds := [.data, .pinned], laidTests := true, laidLooks := .later }
def MessageApartCardSaid : Prop := Claim7.holds Tryd.pinned (.plain (OpenSpec.ofChange messageApartSpec)) messageApartCard

/-- THE TIED CARD OF 'squinchlaw14.MessageMost'. -/
def messageMostCard : Claim7 := { stood := { row := messageMostRow, standIns := [], harness := (true, "86369b0b3b6c196762e1ac4671674b85770db969f8934d5ddd3c673901001e72"), looks := false }, kinds := [], alts := [], laidByText := true, laidKinds := [.data, .pinned], laidTests := true, laidLooks := .later }
def MessageMostCardSaid : Prop := Claim7.holds Tryd.pinned (.plain (OpenSpec.ofChange messageMostSpec)) messageMostCard

/-- THE SECOND FORM's CARD OF 'squinchlaw14.MessagePuts'. -/
def messagePutsUptoCard : Claim7 := { stood := { row := messagePutsUptoRow, standIns := [], harness := (true, "86369b0b3b6c196762e1ac4671674b85770db969f8934d5ddd3c673901001e72"), looks := false }, kinds := [], alts := [], laidByText := true, laidKinds := [.data, .pinned], laidTests := true, laidLooks := .later }
def MessagePutsUptoCardSaid : Prop := Claim7.holds Tryd.pinned (.plain (OpenSpec.upto messagePutsSpec)) messagePutsUptoCard

/-- THE SECOND FORM's CARD OF 'squinchlaw14.MessageGets'. -/
def messageGetsUptoCard : Claim7 := { stood := { row := messageGetsUptoRow, standIns := [], harness := (true, "86369b0b3b6c196762e1ac4671674b85770db969f8934d5ddd3c673901001e72"), looks := false }, kinds := [], alts := [], laidByText := true, laidKinds := [.data, .pinned], laidTests := true, laidLooks := .later }
def MessageGetsUptoCardSaid : Prop := Claim7.holds Tryd.pinned (.plain (OpenSpec.upto messageGetsSpec)) messageGetsUptoCard

/-- THE SECOND FORM's CARD OF 'squinchlaw14.MessageReplies'. -/
def messageRepliesUptoCard : Claim7 := { stood := { row := messageRepliesUptoRow, standIns := [], harness := (true, "86369b0b3b6c196762e1ac4671674b85770db969f8934d5ddd3c673901001e72"), looks := false }, kinds := [], alts := [], laidByText := true, laidKinds := [.data, .pinned], laidTests := true, laidLooks := .later }
def MessageRepliesUptoCardSaid : Prop := Claim7.holds Tryd.pinned (.plain (OpenSpec.upto messageRepliesSpec)) messageRepliesUptoCard

/-- THE SECOND FORM's CARD OF 'squinchlaw14.MessageTurned'. -/
def messageTurnedUptoCard : Claim7 := { stood := { row := messageTurnedUptoRow, standIns := [], harness := (true, "86369b0b3b6c196762e1ac4671674b85770db969f8934d5ddd3c673901001e72"), looks := false }, kinds := [], alts := [], laidByText := true, laidKinds := [.data, .pinned], laidTests := true, laidLooks := .later }
def MessageTurnedUptoCardSaid : Prop := Claim7.holds Tryd.pinned (.plain (OpenSpec.upto messageTurnedSpec)) messageTurnedUptoCard

/-- THE SECOND FORM's CARD OF 'squinchlaw14.MessageApart'. -/
def messageApartUptoCard : Claim7 := { stood := { row := messageApartUptoRow, standIns := [], harness := (true, "86369b0b3b6c196762e1ac4671674b85770db969f8934d5ddd3c673901001e72"), looks := false }, kinds := [], alts := [], laidByText := true, laidKinds := [.data, .pinned], laidTests := true, laidLooks := .later }
def MessageApartUptoCardSaid : Prop := Claim7.holds Tryd.pinned (.plain (OpenSpec.upto messageApartSpec)) messageApartUptoCard

/-- THE SECOND FORM's CARD OF 'squinchlaw14.MessageMost'. -/
def messageMostUptoCard : Claim7 := { stood := { row := messageMostUptoRow, standIns := [], harness := (true, "86369b0b3b6c196762e1ac4671674b85770db969f8934d5ddd3c673901001e72"), looks := false }, kinds := [], alts := [], laidByText := true, laidKinds := [.data, .pinned], laidTests := true, laidLooks := .later }
def MessageMostUptoCardSaid : Prop := Claim7.holds Tryd.pinned (.plain (OpenSpec.upto messageMostSpec)) messageMostUptoCard
end Rows
end Go.Proofs.YtcbcelfgbelaoaaDoor
