/- A part of the proof. -/
import Derived.Test.YthpknpfhpkkheaaGreatDoorMGj
import Derived.Test.YthpknpfhpkkheaaGreatDoorClsL6
namespace Go.Proofs.YthpknpfhpkkheaaGreatDoor
open Go Go.RowKit
set_option linter.unusedVariables false
set_option maxRecDepth 100000
set_option linter.unusedSimpArgs false
theorem bulk_one {H : Type} (d : DataW H) : 1 ≤ Rows.uptoBulk d := by
  cases d with
  | lit l => cases l <;> simp [Rows.uptoBulk]
  | _ => simp [Rows.uptoBulk]
theorem bulk_part {H : Type} {d : DataW H} {l : List (DataW H)} (h : d ∈ l) : Rows.uptoBulk d ≤ Rows.uptoBulkAll l := by
  induction l with
  | nil => cases h
  | cons x r ih =>
    simp only [Rows.uptoBulkAll]
    cases List.mem_cons.1 h with
    | inl e => subst e; omega
    | inr e => have := ih e; omega
theorem bulk_len {H : Type} (l : List (DataW H)) : l.length ≤ Rows.uptoBulkAll l := by
  induction l with
  | nil => simp [Rows.uptoBulkAll]
  | cons x r ih => have := bulk_one x; simp only [Rows.uptoBulkAll, List.length_cons]; omega
theorem inh_bulk {H : Type} (P : Program) (R : Nat) : Inh (H := H) P (fun _ d => Rows.uptoBulk d ≤ R) R where
  st := by
    intro t fs parts hu h i f d hf hd
    have h1 := bulk_part (List.mem_of_getElem? hd)
    simp only [Rows.uptoBulk] at h
    omega
  sl := by
    intro t e l s hu h
    simp only [Rows.uptoBulk] at h
    exact ⟨fun d hd => by have := bulk_part hd; omega, fun _ => by have := bulk_len l; omega⟩
  str := by
    intro t b h
    simp only [Rows.uptoBulk] at h
    omega
theorem rdU_26 {H : Type} {enc : TypeId × Value → H} {W : World} {b0 : Nat} {v : Value} {d : DataW H} {p : List MemPlace}
    (hok : Value.okWide Tryz.prog W .any b0 26 v) (hw : Rows.uptoBulk d ≤ 1048576) (h : DataW.Trod enc Tryz.prog W 0 (fun _ => true) true 26 v d p) : ∃ c : CC, v = c.v ∧ cGood 1048576 W c :=
  rdG_C (by decide) hok (inh_bulk _ _) hw h
end Go.Proofs.YthpknpfhpkkheaaGreatDoor
