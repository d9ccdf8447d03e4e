/- Numbers and texts, plainly: what is read is what was written. -/
import Derived.Test.YtioonbfinnigpaaGreatDoorPackB
namespace Go.Proofs.YtioonbfinnigpaaGreatDoor
open Go Go.RowKit
set_option linter.unusedVariables false
set_option maxRecDepth 100000
set_option linter.unusedSimpArgs false
theorem numL_pos : ∀ (l : List UInt8) (i : Nat), 0 < i → (numL i l).1 = 0 → 0 < (numL i l).2.1
  | [], i, _, h => by simp [numL] at h
  | c :: t, i, hi, h => by
    unfold numL at h ⊢
    by_cases h1 : i = 9 ∧ 1 < c.toNat
    · rw [if_pos h1] at h; exact absurd h (by decide)
    · rw [if_neg h1] at h
      rw [if_neg h1]
      by_cases h2 : c.toNat < 128
      · rw [if_pos h2] at h
        rw [if_pos h2]
        by_cases h3 : c.toNat = 0 ∧ 0 < i
        · rw [if_pos h3] at h; exact absurd h (by decide)
        · rw [if_neg h3]
          show 0 < c.toNat
          omega
      · rw [if_neg h2] at h
        rw [if_neg h2]
        have := numL_pos t (i + 1) (by omega) h
        show 0 < c.toNat % 128 + 128 * _
        omega
/-- A number that is read is written so. -/
theorem numL_canon : ∀ (l : List UInt8) (i : Nat), (numL i l).1 = 0 → l = varL (numL i l).2.1 ++ l.drop (numL i l).2.2
  | [], i, h => by simp [numL] at h
  | c :: t, i, h => by
    unfold numL at h ⊢
    by_cases h1 : i = 9 ∧ 1 < c.toNat
    · rw [if_pos h1] at h; exact absurd h (by decide)
    · rw [if_neg h1] at h
      rw [if_neg h1]
      by_cases h2 : c.toNat < 128
      · rw [if_pos h2] at h
        rw [if_pos h2]
        by_cases h3 : c.toNat = 0 ∧ 0 < i
        · rw [if_pos h3] at h; exact absurd h (by decide)
        · rw [if_neg h3]
          show c :: t = varL c.toNat ++ t
          rw [varL_low h2, UInt8.ofNat_toNat]; rfl
      · rw [if_neg h2] at h
        rw [if_neg h2]
        have hp := numL_pos t (i + 1) (by omega) h
        have ih := numL_canon t (i + 1) h
        show c :: t = varL (c.toNat % 128 + 128 * (numL (i + 1) t).2.1) ++ t.drop (numL (i + 1) t).2.2
        rw [varL_high (by omega), show (c.toNat % 128 + 128 * (numL (i + 1) t).2.1) / 128 = (numL (i + 1) t).2.1 by omega, show (c.toNat % 128 + 128 * (numL (i + 1) t).2.1) % 128 + 128 = c.toNat by have := c.toNat_lt; omega, UInt8.ofNat_toNat, List.cons_append, ← ih]
/-- The state behind a number, the number. -/
def ns (l : List UInt8) (st : Nat × Int) : Nat × Int := nxt st (numL 0 (l.drop st.1)).1 (numL 0 (l.drop st.1)).2.2
def nm (l : List UInt8) (st : Nat × Int) : Nat := got st (numL 0 (l.drop st.1)).1 (numL 0 (l.drop st.1)).2.1 0
def ts (l : List UInt8) (st : Nat × Int) : Nat × Int := nxt st (textR (l.drop st.1)).1 (textR (l.drop st.1)).2.2
def tx (l : List UInt8) (st : Nat × Int) : List UInt8 := got st (textR (l.drop st.1)).1 (textR (l.drop st.1)).2.1 []
theorem ns_ok {l : List UInt8} {st : Nat × Int} (h : (ns l st).2 = 0) : st.2 = 0 ∧ l.drop st.1 = varL (nm l st) ++ l.drop (ns l st).1 := by
  obtain ⟨a, e⟩ := st
  by_cases he : e = 0
  · subst he
    by_cases hn : (numL 0 (l.drop a)).1 = 0
    · refine ⟨rfl, ?_⟩
      have hc := numL_canon (l.drop a) 0 hn
      unfold ns nm
      rw [nxt_ok hn, got, if_pos ⟨rfl, hn⟩]
      rw [List.drop_drop] at hc
      exact hc
    · unfold ns at h
      rw [nxt_err hn] at h
      exact absurd h hn
  · unfold ns at h
    rw [nxt_bad he] at h
    exact absurd h he
theorem ns_of {l rest : List UInt8} {a v : Nat} (hv : v ≤ 18446744073709551615) (h : l.drop a = varL v ++ rest) : nm l (a, 0) = v ∧ ns l (a, 0) = (a + (varL v).length, 0) := by
  unfold nm ns
  rw [h, numL_v v rest hv]
  exact ⟨rfl, rfl⟩
theorem nm_le (l : List UInt8) (st : Nat × Int) : nm l st ≤ 18446744073709551615 := by
  unfold nm got
  split
  · have h := numL_lt (l.drop st.1) 0 (by omega)
    have h2 : (numL 0 (l.drop st.1)).2.1 < 18446744073709551616 := h
    omega
  · omega
theorem ts_ok {l : List UInt8} {st : Nat × Int} (h : (ts l st).2 = 0) : st.2 = 0 ∧ l.drop st.1 = textL (sb (tx l st)) ++ l.drop (ts l st).1 := by
  obtain ⟨a, e⟩ := st
  by_cases he : e = 0
  · subst he
    by_cases hn : (textR (l.drop a)).1 = 0
    · refine ⟨rfl, ?_⟩
      unfold ts tx
      rw [nxt_ok hn, got, if_pos ⟨rfl, hn⟩]
      show l.drop a = textL (sb (textR (l.drop a)).2.1) ++ l.drop (a + (textR (l.drop a)).2.2)
      rw [← List.drop_drop]
      generalize l.drop a = m at hn ⊢
      by_cases h0 : (numL 0 m).1 ≠ 0
      · rw [textR_err h0] at hn; exact absurd hn h0
      · by_cases h1 : 4096 < (numL 0 m).2.1
        · rw [textR_big h0 h1] at hn; exact absurd hn (by decide)
        · by_cases h2 : m.length - (numL 0 m).2.2 < (numL 0 m).2.1
          · rw [textR_short h0 h1 h2] at hn; exact absurd hn (by decide)
          · by_cases h3 : Lib.validD ((m.drop (numL 0 m).2.2).take (numL 0 m).2.1) = true
            · rw [textR_good h0 h1 h2 h3]
              have hc := numL_canon m 0 (Classical.not_not.1 h0)
              have hl : ((m.drop (numL 0 m).2.2).take (numL 0 m).2.1).length = (numL 0 m).2.1 := by rw [List.length_take, List.length_drop]; omega
              show m = textL (sb ((m.drop (numL 0 m).2.2).take (numL 0 m).2.1)) ++ m.drop ((numL 0 m).2.2 + (numL 0 m).2.1)
              rw [textL, sb_size, bs_sb, hl, List.append_assoc, ← List.drop_drop, List.take_append_drop]
              exact hc
            · rw [textR_form h0 h1 h2 h3] at hn; exact absurd hn (by decide)
    · unfold ts at h
      rw [nxt_err hn] at h
      exact absurd h hn
  · unfold ts at h
    rw [nxt_bad he] at h
    exact absurd h he
theorem ts_of {l rest : List UInt8} {a : Nat} {s : ByteArray} (hs : s.size ≤ 4096) (hv : Lib.validD (bs s) = true) (h : l.drop a = textL s ++ rest) : tx l (a, 0) = bs s ∧ ts l (a, 0) = (a + (textL s).length, 0) := by
  have e := textR_of s rest (by omega)
  rw [if_neg (by omega), if_pos hv] at e
  unfold tx ts
  rw [h, e]
  exact ⟨rfl, rfl⟩
end Go.Proofs.YtioonbfinnigpaaGreatDoor

