/- The chapter's example, walked; and the statements' own functions. -/
import Derived.Test.YtcbcelfgbelaoaaDoorFrameR
namespace Go.Proofs.YtcbcelfgbelaoaaDoor
open Go Go.RowKit
set_option linter.unusedVariables false
set_option linter.unusedSimpArgs false
theorem turn_length (l : List UInt8) (a : Int) (b : List UInt8) : (turn l a b).length = l.length := turnK_length _ _ _ _
theorem turn_by {w : World} {base : Nat} {r : Value} {l b : List UInt8} {a : Int} (h : w.ownsRow base 5 1 r l.length ((turn l a b).map b8)) : By w r (turn l a b) := by
  unfold By
  rw [turn_length]
  exact Sl.own h
theorem own_by {w : World} {base : Nat} {r : Value} {l : List UInt8} {n : Nat} (h : w.ownsRow base 5 1 r n (l.map b8)) (hn : n = l.length) : By w r l := by
  subst hn; exact Sl.own h
theorem sum_nine : more 0 [49, 50, 51, 52, 53, 54, 55, 56, 57] = 3421780262 := by decide +kernel
theorem sum_none : more 0 [] = 0 := by decide +kernel
theorem turn_three : sb (turn [1, 2, 3] 1 [255]) = sb [1, 253, 3] := by decide +kernel

end Go.Proofs.YtcbcelfgbelaoaaDoor

