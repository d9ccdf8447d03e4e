/- The library's sort of numbers: pieces put together, plainly. -/
import Derived.Test.YtjjddbicggfgnaaSort9
namespace Go.Proofs.Ytjjddbicggfgnaa
open Go Go.RowKit
set_option linter.unusedVariables false
set_option linter.unusedSimpArgs false
/-- What is sorted already: ahead of a1 and from b1 on; between them is what is between. -/
structure Mid (a a1 b1 b : Nat) (X : List Nat) : Prop where
  l : Srt a a1 X
  r : Srt b1 b X
  le1 : ∀ p q, a ≤ p → p < a1 → a1 ≤ q → q < b → gt X p ≤ gt X q
  le2 : ∀ p q, a ≤ p → p < b1 → b1 ≤ q → q < b → gt X p ≤ gt X q
theorem Mid.start (a b : Nat) (X : List Nat) : Mid a a b b X :=
  ⟨fun p q h1 h2 h3 => by omega, fun p q h1 h2 h3 => by omega, fun p q h1 h2 h3 h4 => by omega, fun p q h1 h2 h3 h4 => by omega⟩
section
variable {a a1 b1 b m : Nat} {X Y : List Nat}
theorem Mid.rg (h : Mid a a1 b1 b X) (hR : Rg a1 b1 X Y) (h1 : a ≤ a1) (h2 : a1 ≤ b1) (h3 : b1 ≤ b) : Mid a a1 b1 b Y := by
  have o := hR.out
  refine ⟨?_, ?_, ?_, ?_⟩
  · intro p q k1 k2 k3
    rw [o p (by omega), o q (by omega)]; exact h.l p q k1 k2 k3
  · intro p q k1 k2 k3
    rw [o p (by omega), o q (by omega)]; exact h.r p q k1 k2 k3
  · intro p q k1 k2 k3 k4
    rw [o p (by omega)]
    by_cases e : q < b1
    · exact hR.all (fun x => gt X p ≤ x) (fun k k5 k6 => h.le1 p k k1 k2 k5 (by omega)) q k3 e
    · rw [o q (by omega)]; exact h.le1 p q k1 k2 k3 k4
  · intro p q k1 k2 k3 k4
    rw [o q (by omega)]
    by_cases e : p < a1
    · rw [o p (by omega)]; exact h.le2 p q k1 k2 k3 k4
    · exact hR.all (fun x => x ≤ gt X q) (fun k k5 k6 => h.le2 k q (by omega) k6 k3 k4) p (by omega) k2
theorem Mid.fin (h : Mid a a1 b1 b X) (hS : Srt a1 b1 X) (h1 : a ≤ a1) (h2 : a1 ≤ b1) (h3 : b1 ≤ b) : Srt a b X := by
  intro p q k1 k2 k3
  by_cases e1 : p < a1
  · by_cases e2 : q < a1
    · exact h.l p q k1 k2 e2
    · exact h.le1 p q k1 e1 (by omega) k3
  · by_cases e2 : q < b1
    · exact hS p q (by omega) k2 e2
    · by_cases e3 : p < b1
      · exact h.le2 p q k1 e3 (by omega) k3
      · exact h.r p q (by omega) k2 k3
theorem Mid.left (h : Mid a a1 b1 b X) (hC : Cut a1 b1 m X) (hm : a1 ≤ m) (hm2 : m < b1) (hR : Rg a1 m X Y) (hS : Srt a1 m Y) (h1 : a ≤ a1) (h3 : b1 ≤ b) (hl : b ≤ X.length) : Mid a (m + 1) b1 b Y := by
  have hY := h.rg (hR.mono (Nat.le_refl _) (by omega) (by omega) : Rg a1 b1 X Y) h1 (by omega) h3
  have o := hR.out
  have lo : ∀ k, a1 ≤ k → k < m → gt Y k ≤ gt X m := hR.all (fun x => x ≤ gt X m) hC.1
  refine ⟨?_, hY.r, ?_, hY.le2⟩
  · intro p q k1 k2 k3
    by_cases e1 : p < a1
    · by_cases e2 : q < a1
      · exact hY.l p q k1 k2 e2
      · exact hY.le1 p q k1 e1 (by omega) (by omega)
    · by_cases e2 : q < m
      · exact hS p q (by omega) k2 e2
      · have e3 : q = m := by omega
        rw [e3, o m (by omega)]
        exact lo p (by omega) (by omega)
  · intro p q k1 k2 k3 k4
    by_cases e1 : p < a1
    · exact hY.le1 p q k1 e1 (by omega) k4
    · by_cases e2 : q < b1
      · have h5 : gt X m ≤ gt Y q := by rw [o q (by omega)]; exact hC.2 q (by omega) e2
        refine Nat.le_trans ?_ h5
        by_cases e3 : p = m
        · rw [e3, o m (by omega)]; exact Nat.le_refl _
        · exact lo p (by omega) (by omega)
      · exact hY.le2 p q k1 (by omega) (by omega) k4
theorem Mid.right (h : Mid a a1 b1 b X) (hC : Cut a1 b1 m X) (hm : a1 ≤ m) (hm2 : m < b1) (hR : Rg (m + 1) b1 X Y) (hS : Srt (m + 1) b1 Y) (h1 : a ≤ a1) (h3 : b1 ≤ b) (hl : b ≤ X.length) : Mid a a1 m b Y := by
  have hY := h.rg (hR.mono (by omega) (Nat.le_refl _) (by omega) : Rg a1 b1 X Y) h1 (by omega) h3
  have o := hR.out
  have hi : ∀ k, m + 1 ≤ k → k < b1 → gt X m ≤ gt Y k := hR.all (fun x => gt X m ≤ x) (fun k k1 k2 => hC.2 k (by omega) k2)
  refine ⟨hY.l, ?_, hY.le1, ?_⟩
  · intro p q k1 k2 k3
    by_cases e1 : q < b1
    · by_cases e2 : p = m
      · rw [e2, o m (by omega)]; exact hi q (by omega) e1
      · exact hS p q (by omega) k2 e1
    · by_cases e2 : p < b1
      · exact hY.le2 p q (by omega) e2 (by omega) k3
      · exact hY.r p q (by omega) k2 k3
  · intro p q k1 k2 k3 k4
    by_cases e1 : p < a1
    · exact hY.le1 p q k1 e1 (by omega) k4
    · by_cases e2 : q < b1
      · have h5 : gt Y p ≤ gt X m := by rw [o p (by omega)]; exact hC.1 p (by omega) k2
        refine Nat.le_trans h5 ?_
        by_cases e3 : q = m
        · rw [e3, o m (by omega)]; exact Nat.le_refl _
        · exact hi q (by omega) e2
      · exact hY.le2 p q k1 (by omega) (by omega) k4
theorem Mid.eq {P : Nat} (h : Mid a a1 b1 b X) (h1 : a ≤ a1) (hm : a1 < m) (hm2 : m ≤ b1) (h3 : b1 ≤ b) (h4 : ∀ k, a1 ≤ k → k < m → gt X k ≤ P) (h5 : ∀ k, m ≤ k → k < b1 → P < gt X k) (h6 : ∀ k, a1 ≤ k → k < b1 → P ≤ gt X k) : Mid a m b1 b X := by
  refine ⟨?_, h.r, ?_, h.le2⟩
  · intro p q k1 k2 k3
    by_cases e1 : p < a1
    · by_cases e2 : q < a1
      · exact h.l p q k1 k2 e2
      · exact h.le1 p q k1 e1 (by omega) (by omega)
    · exact Nat.le_trans (h4 p (by omega) (by omega)) (h6 q (by omega) (by omega))
  · intro p q k1 k2 k3 k4
    by_cases e1 : p < a1
    · exact h.le1 p q k1 e1 (by omega) k4
    · by_cases e2 : q < b1
      · exact Nat.le_trans (h4 p (by omega) k2) (Nat.le_of_lt (h5 q k3 e2))
      · exact h.le2 p q k1 (by omega) (by omega) k4
theorem Mid.ahd (h : Mid a a1 b1 b X) (hA : Ahd a b X) (h1 : a ≤ a1) (h2 : a1 ≤ b1) (h3 : b1 ≤ b) : Ahd a1 b1 X := by
  intro h0 k k1 k2
  by_cases e : a1 = a
  · rw [e]; exact hA (by omega) k (by omega) (by omega)
  · exact h.le1 (a1 - 1) k (by omega) (by omega) k1 (by omega)
end
theorem Ahd.less {a b b' : Nat} {X : List Nat} (h : Ahd a b X) (hb : b' ≤ b) : Ahd a b' X := fun h0 k k1 k2 => h h0 k k1 (by omega)
theorem Cut.ahd {a b m : Nat} {X : List Nat} (h : Cut a b m X) : Ahd (m + 1) b X := fun h0 k k1 k2 => h.2 k (by omega) k2
end Go.Proofs.Ytjjddbicggfgnaa

