/- A struct stored into a row of one's own; over any program. -/
import Derived.Test.YtioonbfinnigpaaGreatDoorIter
namespace Go.Proofs.YtioonbfinnigpaaGreatDoor
open Go Go.RowKit Go.MapKept
set_option linter.unusedVariables false
set_option linter.unusedSimpArgs false
/-! ### a struct stored into a row of one's own -/
def sets : List Value → Nat → List Value → List Value
  | xs, _, [] => xs
  | xs, i, u :: us => sets (xs.set i u) (i + 1) us
theorem sets_length : ∀ (us xs : List Value) (i : Nat), (sets xs i us).length = xs.length
  | [], xs, i => rfl
  | u :: us, xs, i => by rw [sets, sets_length us]; simp
section
variable {P : Program} {k : Nat} {ops : Array Oper} {rest : List Oper} {N : Cn} {w : World} {f : Fr} {ty : TypeId} {pos : String} {af : Array Edge} {g : Option (Nat × Bool)} {v : Value} {n sz e base : Nat} {xs : List Value}
theorem setrow_run (i0 : Nat) : ∀ (us : List Value) (j : Nat) (xs : List Value) (w : World), Ow w base e sz v n xs → i0 + j + us.length ≤ xs.length → (∀ u ∈ us, u.oneCell' = true) →
    ∃ w', (storeCells (at_ v i0) us j).run P w = .ok () w' ∧ Ow w' base e sz v n (sets xs (i0 + j) us) ∧ w'.heap.size = w.heap.size ∧ Ch (fun j => v.ownBlock = some j) w w'
  | [], j, xs, w, h, _, _ => ⟨w, by simp [storeCells], h, rfl, Ch.refl w⟩
  | u :: us, j, xs, w, h, hl, h1 => by
    simp only [List.length_cons] at hl
    have hi : i0 + j < xs.length := by omega
    obtain ⟨b, cs, ha, hb, hbk, hlt⟩ := Ow.place h hi
    have hset := Ow.set h hi u
    obtain ⟨w', h2, h3, h4, h5⟩ := setrow_run i0 us (j + 1) (xs.set (i0 + j) u) (w.setCell (at_ v (i0 + j)) u) hset (by simp; omega) (fun y hy => h1 y (List.mem_cons_of_mem _ hy))
    have hcell : w.cell? ⟨b, i0 + j, none⟩ = some cs[i0 + j] := by rw [hbk.cell]; simp [hlt]
    refine ⟨w', ?_, by rw [sets, Nat.add_assoc]; exact h3, by rw [h4]; simp [World.setCell], ?_⟩
    · rw [ha] at h2
      simp [storeCells, Sem.run_bind, at_add, ha, run_store P w ⟨b, i0 + j, none⟩ u .plain (h1 u List.mem_cons_self), hcell, hbk.free hlt, h2]
    · refine Ch.trans ?_ h5
      rw [ha]
      refine (Ch.set w ⟨b, i0 + j, none⟩ u).mono fun q _ hq => ?_
      have hq2 : q = b := hq
      rw [hq2]; exact hb
theorem L_setOwrow {x y : Operand} {t : TypeId} {i : Nat} {us : List Value} (hw : Wants ops f ⟨none, .store t x y, ty, pos, af, g⟩) (hi : (P.info? t).map (·.size) = some us.length) (hx : ev f x = .pointer (some (at_ v i))) (hy : ev f y = .agg us.toArray) (h1 : us.all (·.oneCell') = true) (hown : Ow w base e sz v n xs) (hl : i + us.length ≤ xs.length)
    (h : ∀ w1, Ow w1 base e sz v n (sets xs i us) → w1.heap.size = w.heap.size → Ch (fun j => v.ownBlock = some j) w w1 → Wl P k ops rest N f w1) : Wl P k ops (⟨none, .store t x y, ty, pos, af, g⟩ :: rest) N f w := by
  obtain ⟨w', h2, h3, h4, h5⟩ := setrow_run (P := P) i us 0 xs w hown (by omega) (fun u hu => by rw [List.all_eq_true] at h1; exact h1 u hu)
  obtain ⟨inf, hi1, hi2⟩ := Option.map_eq_some_iff.1 hi
  refine L_do hw rfl ?_ (h w' h3 h4 h5)
  simp [execOp, hx, hy, Instr.storeAt, Instr.sureAddr, Sem.run_bind, storeVar, sizeOf, typeInfo, hi1, hi2, Value.cells, h2]
end
end Go.Proofs.YtioonbfinnigpaaGreatDoor
