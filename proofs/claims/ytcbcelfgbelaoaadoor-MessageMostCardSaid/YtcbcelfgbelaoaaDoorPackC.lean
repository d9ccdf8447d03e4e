/- What the rows' laid tables give the walks; a world for the witness. -/
import Derived.Test.YtcbcelfgbelaoaaDoorPackE
import Derived.Test.YtcbcelfgbelaoaaDoorCards
import Derived.Lib.LaidIn
import Derived.Lib.LaidU8T
import Derived.Lib.ValidU
import Derived.ProofKit
import Derived.LaidMore
namespace Go.Proofs.YtcbcelfgbelaoaaDoor
open Go Go.RowKit Go.Lib
set_option linter.unusedVariables false
/-- What every row of this seat lists. -/
noncomputable def laidL : List (String × DataW Unit) := Rows.messagePutsRow.laid
theorem accept_eq : (Rows.laid_unicode_utf8_acceptRanges : DataW Unit) = Lib.acceptData := by kernel_rfl
theorem first_eq : Rows.laid_unicode_utf8_first = Lib.firstData := by kernel_rfl
theorem laidL_eq : laidL = [("unicode/utf8.acceptRanges", Lib.acceptData), ("unicode/utf8.first", Lib.firstData)] := by
  show [("unicode/utf8.acceptRanges", _), ("unicode/utf8.first", _)] = _
  rw [accept_eq, first_eq]
theorem laid_plain (W : World) : laidMetH Tryd.prog laidL W = laidMet Tryd.prog laidL W := MakeChecks.laidMetH_plain _ _ _ (by kernel_rfl)
/-- The tables' reading, for the walks. -/
theorem tabs_of {W : World} (h : laidMetH Tryd.prog laidL W) : Tabs W.heap.size W := by
  rw [laid_plain, laidL_eq] at h
  have ht : Lib.Utf8Tabs (Tryd.laysValid_ren.g 3) (Tryd.laysValid_ren.g 4) W :=
    utf8Tabs_of_readsT (U8Types.of196 Tryd.laysValid) ⟨by kernel_rfl, by kernel_rfl, by kernel_rfl, by kernel_rfl, by kernel_rfl, by kernel_rfl, by kernel_rfl⟩ (Lib.laidMet.reads h (.tail _ (.head _))) (Lib.laidMet.reads h (.head _))
  have lt : ∀ {a : Addr} {v : Value}, W.cell? a = some v → a.block < W.heap.size := fun {a v} hc => by
    rcases Nat.lt_or_ge a.block W.heap.size with h' | h'
    · exact h'
    · simp [World.cell?, Array.getElem?_eq_none h'] at hc
  exact ⟨ht, lt (ht.1 0 (by decide)), lt (ht.2 0 (by decide)).1⟩
/-- The settled world, the two variables holding what their initialisers lay. -/
noncomputable def laidWorld (os : Os) : World :=
  let w0 := World.holding Tryd.prog os ⟨#[], #[], []⟩
  let put (h : Array Obj) (g : Nat) (cs : Array Value) : Array Obj := h.modify g fun
    | .cells _ t frozen => .cells cs t frozen
    | o => o
  let h1 := put w0.heap 0 (Lib.firstTab.map fun z => Value.int .u8 z).toArray
  let h2 := put h1 1 ((List.range 16).flatMap fun i => [Value.int .u8 (Lib.accLo i), Value.int .u8 (Lib.accHi i)]).toArray
  { w0 with heap := h2 }
theorem laid_met (os : Os) (args : Array Value) : laidMetH Tryd.prog laidL ((laidWorld os).forCall (fun _ _ => 0) ⟨#[], args, []⟩).memory := by
  rw [laid_plain, laidL_eq]
  exact (LaidIn.of_run (l := [("unicode/utf8.acceptRanges", Lib.acceptData), ("unicode/utf8.first", Lib.firstData)]) [0, 1] 8 (by kernel_rfl) (by kernel_rfl) (by kernel_rfl) (by kernel_rfl)).met
theorem laid_shaped (os : Os) (args : Array Value) : ((laidWorld os).forCall (fun _ _ => 0) ⟨#[], args, []⟩).Shaped Tryd.prog := World.shaped_of_RefB (by kernel_rfl) (by kernel_rfl)
end Go.Proofs.YtcbcelfgbelaoaaDoor

