/- Package-level arrays, read; over any program. -/
import Derived.Test.YtioonbfinnigpaaGreatDoorApps
namespace Go.Proofs.YtioonbfinnigpaaGreatDoor
open Go Go.RowKit Go.Lib
set_option linter.unusedVariables false
set_option linter.unusedSimpArgs false
section
variable {P : Program} {w : World} {f : Fr} {dst : Option Tmp} {ty : TypeId} {pos : String} {af : Array Edge} {g : Option (Nat × Bool)}
/-- A place of a package-level variable is read. -/
theorem r_loadG {x : Operand} {t : TypeId} {b i : Nat} {v : Value} (ht : flat P t = true) (hx : ev f x = .pointer (some ⟨b, i, none⟩)) (hv : w.cell? ⟨b, i, none⟩ = some v) : (execOp (ev f) ⟨dst, .load t x, ty, pos, af, g⟩).run P w = .ok (.value v) w := r_load ht hx hv
theorem r_loadrowG {x : Operand} {t : TypeId} {b m : Nat} {us : List Value} {dd : TypeDesc} (hu : P.underlying t = some dd) (hd : (match dd with | .struct _ | .array _ _ => true | _ => false) = true) (hi : (P.info? t).map (·.size) = some m) (hm : us.length = m)
    (hx : ev f x = .pointer (some ⟨b, 0, none⟩)) (hv : ∀ (j : Nat) (u : Value), us[j]? = some u → w.cell? ⟨b, j, none⟩ = some u) : (execOp (ev f) ⟨dst, .load t x, ty, pos, af, g⟩).run P w = .ok (.value (.agg us.toArray)) w := by
  have hl : (loadCells ⟨b, 0, none⟩ m).run P w = .ok us.toArray w := by
    rw [← hm]
    exact run_loadCells_list w ⟨b, 0, none⟩ us (fun j u hj => by rw [add_lit, Nat.zero_add]; exact hv j u hj)
  have hagg : (isAgg t).run P w = .ok true w := by
    unfold isAgg
    rw [Sem.run_bind, run_underlying hu w]
    cases dd <;> simp_all
  obtain ⟨inf, hi1, hi2⟩ := Option.map_eq_some_iff.1 hi
  simp [execOp, hx, Instr.loadAt, Instr.sureAddr, loadVar, Sem.run_bind, hagg, sizeOf, typeInfo, hi1, hi2, hl]
theorem r_sliceG {x : Operand} {t e : TypeId} {n sz b : Nat} (hu : P.underlying t = some (.array n e)) (hz : (P.info? e).map (·.size) = some sz) (hx : ev f x = .pointer (some ⟨b, 0, none⟩)) :
    (execOp (ev f) ⟨dst, .slice t x none none none, ty, pos, af, g⟩).run P w = .ok (.value (.slice (some ⟨b, 0, none⟩) n n)) w := by
  obtain ⟨inf, hi1, hi2⟩ := Option.map_eq_some_iff.1 hz
  have he : P.elem t = e := by simp [Program.elem, hu]
  have hl : P.arrayLen t = n := by simp [Program.arrayLen, hu]
  simp [execOp, hx, run_sliceAt_array_all (ht := (by rw [he, hl]; exact hu : P.underlying t = some (.array (P.arrayLen t) (P.elem t)))), hl, he, sizeOf, typeInfo, hi1, hi2, slicedAt, sliced, add_lit]
theorem r_indexA {x y : Operand} {t e : TypeId} {n sz : Nat} {k : IntKind} {i : Int} {cs row : Array Value} {dd : TypeDesc} (hu : P.underlying t = some (.array n e)) (hz : (P.info? e).map (·.size) = some sz) (hue : P.underlying e = some dd) (hd : (match dd with | .struct _ | .array _ _ => true | _ => false) = true)
    (hx : ev f x = .agg cs) (hy : ev f y = .int k i) (h0 : 0 ≤ i) (h1 : i < n) (hr : cs.extract (i.toNat * sz) (i.toNat * sz + sz) = row) : (execOp (ev f) ⟨dst, .index t x y, ty, pos, af, g⟩).run P w = .ok (.value (.agg row)) w := by
  subst hr
  have hagg : (isAgg e).run P w = .ok true w := by
    unfold isAgg
    rw [Sem.run_bind, run_underlying hue w]
    cases dd <;> simp_all
  obtain ⟨inf, hi1, hi2⟩ := Option.map_eq_some_iff.1 hz
  simp [execOp, hx, hy, Instr.index, asIntOf, run_underlying hu, h0, h1, part, hagg, sizeOf, typeInfo, hi1, hi2]
end
end Go.Proofs.YtioonbfinnigpaaGreatDoor
