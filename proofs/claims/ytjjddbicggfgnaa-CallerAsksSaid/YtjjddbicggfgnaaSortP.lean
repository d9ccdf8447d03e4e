/- Sorting, plainly: exchanges within a piece of a list of numbers; sorted pieces. -/
import Derived.Test.YtjjddbicggfgnaaRows
import Derived.Test.YtjjddbicggfgnaaSrow
namespace Go.Proofs.Ytjjddbicggfgnaa
open Go Go.RowKit
set_option linter.unusedVariables false
set_option linter.unusedSimpArgs false
def ucells (l : List Nat) : List Value := l.map fun (x : Nat) => .int .u64 (x : Int)
theorem ucells_get (l : List Nat) (i : Nat) (h : i < l.length) : (ucells l)[i]? = some (.int .u64 (l[i] : Int)) := by simp [ucells, h]
theorem ucells_length (l : List Nat) : (ucells l).length = l.length := by simp [ucells]
/-- The i-th. -/
def gt (X : List Nat) (i : Nat) : Nat := X.getD i 0
theorem gt_get {X : List Nat} {i : Nat} (h : i < X.length) : gt X i = X[i] := by unfold gt; rw [List.getD_eq_getElem?_getD, List.getElem?_eq_getElem h, Option.getD_some]
theorem ucells_gt (X : List Nat) (i : Nat) (h : i < X.length) : (ucells X)[i]? = some (.int .u64 (gt X i : Int)) := by rw [ucells_get X i h, gt_get h]
theorem gt_set (X : List Nat) (i k x : Nat) (h : i < X.length) : gt (X.set i x) k = if k = i then x else gt X k := by
  unfold gt
  rw [List.getD_eq_getElem?_getD, List.getD_eq_getElem?_getD]
  by_cases e : k = i
  · subst e
    rw [if_pos rfl, List.getElem?_set_self h]; rfl
  · rw [if_neg e, List.getElem?_set_ne (fun h' => e h'.symm)]
/-- Two of them exchanged. -/
def swp (X : List Nat) (i j : Nat) : List Nat := (X.set i (gt X j)).set j (gt X i)
theorem swp_length (X : List Nat) (i j : Nat) : (swp X i j).length = X.length := by simp [swp]
theorem gt_swp (X : List Nat) (i j k : Nat) (hi : i < X.length) (hj : j < X.length) : gt (swp X i j) k = if k = j then gt X i else if k = i then gt X j else gt X k := by
  unfold swp
  rw [gt_set _ _ _ _ (by simpa using hj), gt_set _ _ _ _ hi]
theorem ucells_set (X : List Nat) (i x : Nat) : (ucells X).set i (.int .u64 (x : Int)) = ucells (X.set i x) := by rw [ucells, ucells, List.map_set]
/-- Exchanges, from a on, below b. -/
inductive Rg (a b : Nat) (X : List Nat) : List Nat → Prop
  | refl : Rg a b X X
  | swap (X' : List Nat) (i j : Nat) (h : Rg a b X X') (h1 : a ≤ i) (h2 : i < b) (h3 : a ≤ j) (h4 : j < b) (hb : b ≤ X.length) : Rg a b X (swp X' i j)
theorem Rg.length {a b : Nat} {X Y : List Nat} (h : Rg a b X Y) : Y.length = X.length := by
  induction h with
  | refl => rfl
  | swap X' i j h h1 h2 h3 h4 hb ih => rw [swp_length, ih]
theorem Rg.trans {a b : Nat} {X Y Z : List Nat} (h : Rg a b X Y) (k : Rg a b Y Z) : Rg a b X Z := by
  induction k with
  | refl => exact h
  | swap X' i j k h1 h2 h3 h4 hb ih => exact Rg.swap X' i j ih h1 h2 h3 h4 (by rw [← h.length]; exact hb)
theorem Rg.mono {a b a' b' : Nat} {X Y : List Nat} (h : Rg a b X Y) (ha : a' ≤ a) (hb : b ≤ b') (hl : b' ≤ X.length) : Rg a' b' X Y := by
  induction h with
  | refl => exact Rg.refl
  | swap X' i j h h1 h2 h3 h4 _ ih => exact Rg.swap X' i j ih (by omega) (by omega) (by omega) (by omega) hl
theorem Rg.out {a b : Nat} {X Y : List Nat} (h : Rg a b X Y) (k : Nat) (hk : k < a ∨ b ≤ k) : gt Y k = gt X k := by
  induction h with
  | refl => rfl
  | swap X' i j h h1 h2 h3 h4 hb ih =>
    have hl := h.length
    rw [gt_swp _ _ _ _ (by omega) (by omega), if_neg (by omega), if_neg (by omega), ih]
/-- What holds of all of them there, still does. -/
theorem Rg.all {a b : Nat} {X Y : List Nat} (h : Rg a b X Y) (P : Nat → Prop) (hP : ∀ k, a ≤ k → k < b → P (gt X k)) : ∀ k, a ≤ k → k < b → P (gt Y k) := by
  induction h with
  | refl => exact hP
  | swap X' i j h h1 h2 h3 h4 hb ih =>
    intro k hk1 hk2
    have hl := h.length
    rw [gt_swp _ _ _ _ (by omega) (by omega)]
    split
    · exact ih i h1 h2
    · split
      · exact ih j h3 h4
      · exact ih k hk1 hk2
theorem swp_swp (X : List Nat) (i j : Nat) (hi : i < X.length) (hj : j < X.length) : swp (swp X i j) i j = X := by
  apply List.ext_getElem
  · rw [swp_length, swp_length]
  · intro k h1 h2
    rw [swp_length, swp_length] at h1
    have e1 : gt (swp (swp X i j) i j) k = gt X k := by
      rw [gt_swp _ _ _ _ (by rw [swp_length]; exact hi) (by rw [swp_length]; exact hj), gt_swp _ _ _ _ hi hj, gt_swp _ _ _ _ hi hj, gt_swp _ _ _ _ hi hj]
      by_cases e : k = j
      · rw [if_pos e]
        by_cases e2 : i = j
        · rw [if_pos e2, e, e2]
        · rw [if_neg e2, if_pos rfl, e]
      · rw [if_neg e]
        by_cases e2 : k = i
        · rw [if_pos e2, if_pos rfl, e2]
        · rw [if_neg e2, if_neg e, if_neg e2]
    rw [gt_get (by rw [swp_length, swp_length]; exact h1), gt_get h2] at e1
    exact e1
theorem swp_perm (X : List Nat) (i j : Nat) (hi : i < X.length) (hj : j < X.length) : (swp X i j).Perm X := by
  have h := Array.swap_perm (xs := X.toArray) (i := i) (j := j) (by simpa using hi) (by simpa using hj)
  have h2 := h.toList
  have e : (X.toArray.swap i j (by simpa using hi) (by simpa using hj)).toList = swp X i j := by
    simp [Array.swap_def, swp, gt_get hi, gt_get hj]
  rw [e] at h2
  simpa using h2
theorem Rg.perm {a b : Nat} {X Y : List Nat} (h : Rg a b X Y) : Y.Perm X := by
  induction h with
  | refl => exact List.Perm.refl _
  | swap X' i j h h1 h2 h3 h4 hb ih =>
    have hl := h.length
    exact (swp_perm X' i j (by omega) (by omega)).trans ih
/-- Sorted, from a on, below b. -/
def Srt (a b : Nat) (X : List Nat) : Prop := ∀ i j, a ≤ i → i < j → j < b → gt X i ≤ gt X j
/-- Sorted but for the j-th, from a on, up to the i-th. -/
def Ins (a i j : Nat) (X : List Nat) : Prop := ∀ p q, a ≤ p → p < q → q ≤ i → q ≠ j → gt X p ≤ gt X q
theorem ins_start {a i : Nat} {X : List Nat} (h : Srt a i X) : Ins a i i X := fun p q h1 h2 h3 h4 => h p q h1 h2 (by omega)
theorem ins_step {a i j : Nat} {X : List Nat} (h : Ins a i j X) (hj : a < j) (hji : j ≤ i) (hl : i < X.length) (hlt : gt X j < gt X (j - 1)) : Ins a i (j - 1) (swp X j (j - 1)) := by
  intro p q h1 h2 h3 h4
  rw [gt_swp _ _ _ _ (by omega) (by omega), gt_swp _ _ _ _ (by omega) (by omega), if_neg h4]
  by_cases e1 : q = j
  · rw [if_pos e1]
    by_cases e2 : p = j - 1
    · rw [if_pos e2]; omega
    · rw [if_neg e2, if_neg (by omega)]
      exact h p (j - 1) h1 (by omega) (by omega) (by omega)
  · rw [if_neg e1]
    by_cases e2 : p = j - 1
    · rw [if_pos e2]; exact h j q (by omega) (by omega) h3 e1
    · rw [if_neg e2]
      by_cases e3 : p = j
      · rw [if_pos e3]; exact h (j - 1) q (by omega) (by omega) h3 e1
      · rw [if_neg e3]; exact h p q h1 h2 h3 e1
theorem ins_done {a i j : Nat} {X : List Nat} (h : Ins a i j X) (hj : a ≤ j) (hji : j ≤ i) (hd : j = a ∨ gt X (j - 1) ≤ gt X j) : Srt a (i + 1) X := by
  intro p q h1 h2 h3
  by_cases e : q = j
  · rcases hd with hd | hd
    · omega
    · subst e
      by_cases e2 : p = q - 1
      · rw [e2]; exact hd
      · exact Nat.le_trans (h p (q - 1) h1 (by omega) (by omega) (by omega)) hd
  · exact h p q h1 h2 (by omega) e
end Go.Proofs.Ytjjddbicggfgnaa

