/- Slices that are handed in: what they read; over any program. -/
import Derived.Test.YtioonbfinnigpaaGreatDoorRow
import Derived.Deep.Slices
import Derived.ChangeShapes
namespace Go.Proofs.YtioonbfinnigpaaGreatDoor
open Go Go.RowKit Go.Deep
set_option linter.unusedVariables false
set_option linter.unusedSimpArgs false
theorem flat_get {X : Type} (f : X → List Value) (sz : Nat) (hf : ∀ x, (f x).length = sz) : ∀ (z : List X) (k : Nat) (u : Value), (z.flatMap f)[k]? = some u → ∃ (i r : Nat) (hi : i < z.length), k = i * sz + r ∧ r < sz ∧ (f z[i])[r]? = some u
  | [], k, u, h => by simp at h
  | x :: z, k, u, h => by
    rw [List.flatMap_cons] at h
    by_cases hk : k < sz
    · rw [List.getElem?_append_left (by rw [hf]; exact hk)] at h
      exact ⟨0, k, by simp, by omega, hk, h⟩
    · rw [List.getElem?_append_right (by rw [hf]; omega), hf] at h
      obtain ⟨i, r, hi, h1, h2, h3⟩ := flat_get f sz hf z (k - sz) u h
      refine ⟨i + 1, r, by simpa using hi, ?_, h2, by simpa using h3⟩
      rw [Nat.add_mul]; omega
theorem flat_length {X : Type} (f : X → List Value) (sz : Nat) (hf : ∀ x, (f x).length = sz) : ∀ z : List X, (z.flatMap f).length = z.length * sz
  | [] => by simp
  | x :: z => by rw [List.flatMap_cons, List.length_append, hf, flat_length f sz hf z, List.length_cons, Nat.add_mul]; omega
theorem sl_arg {H : Type} {enc : TypeId × Value → H} {P : Program} {W : World} {b0 : Nat} {t e : TypeId} {v : Value} {d : DataW H} {p : List MemPlace} {X : Type} [Inhabited X] (f : X → List Value) (sz : Nat) (Q : X → Prop) (hf : ∀ x, (f x).length = sz)
    (ht : P.underlying t = some (.slice e)) (hc : P.cellsOf e = sz) (hel : ∀ n cs y, DataW.trod enc P W 0 (fun _ => true) true n e cs = some y → ∃ x : X, cs = f x ∧ Q x)
    (hok : Value.okWide P W .any b0 t v) (h : DataW.Trod enc P W 0 (fun _ => true) true t v d p) :
    ∃ z : List X, Sl W v sz z.length (z.flatMap f) ∧ ∀ x ∈ z, Q x := by
  have hok2 : Cell.ok P W .any b0 t v := by
    unfold Value.okWide at hok
    rw [ht] at hok
    unfold Cell.okWide at hok
    rw [ht] at hok
    exact hok
  obtain ⟨fuel, h⟩ := h
  unfold Cell.ok at hok2
  rw [ht] at hok2
  cases v <;> try (exact hok2.elim)
  case slice A len cap =>
  cases A with
  | none =>
    rcases open_slice ht h with ⟨h1, _⟩ | ⟨a, l, c, m, n, D, Pl, h1, _⟩
    · simp [Value.cells] at h1
      obtain ⟨rfl, rfl⟩ := h1
      exact ⟨[], Sl.nil _ _, by simp⟩
    · simp [Value.cells] at h1
  | some a =>
    have hok3 : len ≤ cap ∧ (cap : Int) ≤ IntKind.i64.max ∧ W.has P .any b0 a e cap := hok2
    obtain ⟨_, _, _, hspot, row, cells, hshape, _⟩ := hok3
    obtain ⟨b, o, sp⟩ := a
    simp only at hspot
    subst hspot
    obtain ⟨cs, fr, hb⟩ : ∃ cs fr, W.heap[b]? = some (.cells cs row fr) := by
      unfold World.shape? at hshape
      split at hshape
      · rename_i c el fr he
        injection hshape with hshape
        injection hshape with h1 h2
        subst h1
        exact ⟨c, fr, he⟩
      · cases hshape
    rcases open_slice ht h with ⟨h1, _⟩ | ⟨a, l, c, m, n, D, Pl, h1, _, hlc, _, hm, _, hx⟩
    · simp [Value.cells] at h1
    · simp [Value.cells] at h1
      obtain ⟨rfl, rfl, rfl⟩ := h1
      rw [hc] at hx
      have hm' : len ≤ m := by rw [hm]; split <;> omega
      have hch : ∀ i, ∃ x : X, i < len → Q x ∧ ∀ r, r < sz → W.cell? (((⟨b, o, none⟩ : Addr).add (i * sz)).add r) = (f x)[r]? := by
        intro i
        by_cases hi : i < len
        · obtain ⟨cs', h2, h3⟩ := hx i (by omega)
          obtain ⟨x, rfl, hq⟩ := hel _ _ _ h3
          obtain ⟨_, _, h4⟩ := World.cells?_some h2
          exact ⟨x, fun _ => ⟨hq, h4⟩⟩
        · exact ⟨default, fun hi' => absurd hi' hi⟩
      have hzl : ((List.range len).map fun i => Classical.choose (hch i)).length = len := by simp
      refine ⟨(List.range len).map fun i => Classical.choose (hch i), ?_, ?_⟩
      · rw [hzl]
        refine ⟨by rw [flat_length f sz hf, hzl], .inr ⟨b, o, cap, cs, row, rfl, hlc, ⟨fr, hb⟩, fun k u hk => ?_⟩⟩
        obtain ⟨i, r, hi, rfl, hr, hu⟩ := flat_get f sz hf _ k u hk
        rw [hzl] at hi
        have h5 := (Classical.choose_spec (hch i) hi).2 r hr
        simp only [List.getElem_map, List.getElem_range] at hu
        rw [hu, add_lit, add_lit, Rk.cell (cs := cs) (t := row) ⟨fr, hb⟩] at h5
        rw [← Nat.add_assoc]
        exact h5
      · intro x hx
        obtain ⟨i, hi, rfl⟩ := List.mem_map.1 hx
        exact (Classical.choose_spec (hch i) (List.mem_range.1 hi)).1
end Go.Proofs.YtioonbfinnigpaaGreatDoor
