/- The library's ValidString, laid at this program; its two tables. -/
import Derived.Test.YtioonbfinnigpaaGreatDoorPackR
import Derived.Test.YtioonbfinnigpaaGreatDoorShelf
namespace Go.Proofs
open Go Go.RowKit Go.Shelf Go.Lib
namespace YtioonbfinnigpaaGreatDoor
set_option linter.unusedVariables false
set_option maxRecDepth 100000
/-- The two tables are as they are laid, and lie below. -/
structure Tabs (base : Nat) (w : World) : Prop where
  tab : Lib.Utf8Tabs (Tryz.laysValid_ren.g 3) (Tryz.laysValid_ren.g 4) w
  lt3 : Tryz.laysValid_ren.g 3 < base
  lt4 : Tryz.laysValid_ren.g 4 < base
theorem cell_blk {w w' : World} {g i : Nat} (h : w'.heap[g]? = w.heap[g]?) : w'.cell? ⟨g, i, none⟩ = w.cell? ⟨g, i, none⟩ := by
  simp only [World.cell?, h]
theorem Tabs.ch {base : Nat} {w w' : World} {T : Nat → Prop} (h : Tabs base w) (c : Ch T w w') (hb : base ≤ w.heap.size) (hT : ∀ i, T i → base ≤ i) : Tabs base w' := by
  have h3 := c.blk (Tryz.laysValid_ren.g 3) (by have := h.lt3; omega) (fun x => by have := hT _ x; have := h.lt3; omega)
  have h4 := c.blk (Tryz.laysValid_ren.g 4) (by have := h.lt4; omega) (fun x => by have := hT _ x; have := h.lt4; omega)
  exact ⟨⟨fun k hk => (cell_blk h3).trans (h.tab.1 k hk), fun i hi => ⟨(cell_blk h4).trans (h.tab.2 i hi).1, (cell_blk h4).trans (h.tab.2 i hi).2⟩⟩, h.lt3, h.lt4⟩
theorem Tabs.nw {base : Nat} {w w' : World} (h : Tabs base w) (c : Nw w w') (hb : base ≤ w.heap.size) : Tabs base w' := h.ch c hb fun _ x => x.elim
theorem valid_walk (base : Nat) (s : ByteArray) (w : World) (hT : Tabs base w) (hs : s.size ≤ 9223372036854775807) :
    Does Tryz.prog 73 #[.string s] w fun r w' => r = .bool (Lib.validD s.data.toList) ∧ Nw w w' :=
  Calls.mono (Any.utf8_ValidString Tryz.laysValid s w hs hT.tab) fun _ _ ⟨e, b⟩ => ⟨_, e, rfl, Ch.of_below b⟩
end YtioonbfinnigpaaGreatDoor
end Go.Proofs

