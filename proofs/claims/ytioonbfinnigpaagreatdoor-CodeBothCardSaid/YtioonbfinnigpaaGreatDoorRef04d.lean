/- Instructions that bytes begin with, by the document; walked. -/
import Derived.Test.YtioonbfinnigpaaGreatDoorRef04b
import Derived.Test.YtioonbfinnigpaaGreatDoorPackG
import Derived.Test.YtioonbfinnigpaaGreatDoorCode6
namespace Go.Proofs.YtioonbfinnigpaaGreatDoor
open Go Go.RowKit
set_option linter.unusedVariables false
set_option linter.unusedSimpArgs false
set_option maxRecDepth 100000
theorem tk_rowB : ((List.range 42).all fun k => decide (takesF (opT.getD k default).1 = ((opT.getD k default).2.1, (opT.getD k default).2.2, true))) = true := by decide +kernel
theorem tk_row {k : Nat} (hk : k < 42) : takesF (opT.getD k default).1 = ((opT.getD k default).2.1, (opT.getD k default).2.2, true) := of_decide_eq_true (List.all_eq_true.1 tk_rowB k (List.mem_range.2 hk))
theorem nmL_at {k : Nat} (hk : k < 42) : nmL[k]? = some (.string (opT.getD k default).1) := by
  have h : k < opT.length := by rw [opT_len]; exact hk
  show (opT.map fun o => Value.string o.1)[k]? = _
  rw [List.getElem?_map, List.getD_eq_getElem?_getD, List.getElem?_eq_getElem h]; rfl
/-- An instruction's rest: the number or the text, ahead of what is behind. -/
def rRest (o : ByteArray × Bool × Bool) (m : List UInt8) : Option (Ins × List UInt8) :=
  if rtI (o.2.1, o.2.2, true) = 1 then (if (rdF 1 0 m).1 ≠ 0 then none else some (⟨o.1, (rdF 1 0 m).2.1.i, { data := #[] }⟩, m.drop (rdF 1 0 m).2.2))
  else if rtI (o.2.1, o.2.2, true) = 2 then (if (rdF 4 0 m).1 ≠ 0 then none else some (⟨o.1, 0, (rdF 4 0 m).2.1.s⟩, m.drop (rdF 4 0 m).2.2))
  else some (⟨o.1, 0, { data := #[] }⟩, m)
def rChk : Option (Ins × List UInt8) → Option (Ins × List UInt8)
  | none => none
  | some (x, m) => if checkI x ≠ 0 then none else some (x, m)
def rItem (m : List UInt8) : Option (Ins × List UInt8) :=
  if (numL 0 m).1 ≠ 0 ∨ 42 ≤ (numL 0 m).2.1 then none else rChk (rRest (opT.getD (numL 0 m).2.1 default) (m.drop (numL 0 m).2.2))
def rItems : Nat → List UInt8 → List Ins → Option (List Ins × List UInt8)
  | 0, m, out => some (out, m)
  | n + 1, m, out => match rItem m with
    | none => none
    | some (x, m') => rItems n m' (out ++ [x])
/-- What the document takes of bytes. -/
def rTake (l : List UInt8) : Option (List Ins × List UInt8) := if (countR 200 l).1 ≠ 0 then none else rItems (countR 200 l).2.1 (l.drop (countR 200 l).2.2) []
theorem rd_count_n {most : Int} {m : List UInt8} (h : (rdF 2 most m).1 = 0) : (countR most m).1 = 0 ∧ (rdF 2 most m).2.1.n = (countR most m).2.1 ∧ (rdF 2 most m).2.2 = (countR most m).2.2 := by
  rw [rk_2 rfl] at h ⊢
  exact ⟨h, rfl, rfl⟩
theorem rd_count_e {most : Int} {m : List UInt8} : (rdF 2 most m).1 = (countR most m).1 := by rw [rk_2 rfl]
theorem rItem_bad {m : List UInt8} (h : (numL 0 m).1 ≠ 0 ∨ 42 ≤ (numL 0 m).2.1) : rItem m = none := if_pos h
theorem rItem_on {m : List UInt8} (h : ¬ ((numL 0 m).1 ≠ 0 ∨ 42 ≤ (numL 0 m).2.1)) : rItem m = rChk (rRest (opT.getD (numL 0 m).2.1 default) (m.drop (numL 0 m).2.2)) := if_neg h
theorem rItems_bad {n : Nat} {m : List UInt8} {out : List Ins} (h0 : 0 < n) (h : rItem m = none) : rItems n m out = none := by
  cases n with
  | zero => omega
  | succ n => unfold rItems; rw [h]
theorem rItems_on {n : Nat} {m m' : List UInt8} {out : List Ins} {x : Ins} (h0 : 0 < n) (h : rItem m = some (x, m')) : rItems n m out = rItems (n - 1) m' (out ++ [x]) := by
  cases n with
  | zero => omega
  | succ n => conv => lhs; unfold rItems
              rw [h]; rfl
theorem textR_ln (m : List UInt8) : (rdF 4 0 m).2.1.s.size ≤ 4096 := by
  have e : rdF 4 0 m = ((textR m).1, { Fld.none 4 0 with s := sb (textR m).2.1 }, (textR m).2.2) := rd_t (by decide) (by decide) (by decide) (by decide)
  rw [e]
  show (sb (textR m).2.1).size ≤ _
  rw [sb_size]
  unfold textR
  split
  · exact Nat.zero_le _
  · split
    · exact Nat.zero_le _
    · split
      · exact Nat.zero_le _
      · split
        · show (List.take _ _).length ≤ _
          rw [List.length_take]; omega
        · exact Nat.zero_le _
end Go.Proofs.YtioonbfinnigpaaGreatDoor

