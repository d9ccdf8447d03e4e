/- The reader, with numbers told; what was written, read. -/
import Derived.Test.YtioonbfinnigpaaGreatDoorPackE
namespace Go.Proofs.YtioonbfinnigpaaGreatDoor
open Go Go.RowKit
set_option linter.unusedVariables false
set_option maxRecDepth 100000
set_option linter.unusedSimpArgs false
theorem WrAt.lo {base : Nat} {w : World} {b : Nat} {A : List UInt8} (h : WrAt base w b A) : base ≤ b := by obtain ⟨_, _, h, _⟩ := h; exact h
theorem Tabs.mono {base base' : Nat} {w : World} (h : Tabs base w) (hb : base ≤ base') : Tabs base' w := ⟨h.tab, by have := h.lt3; omega, by have := h.lt4; omega⟩
section
variable {base b : Nat} {v : Value} {l : List UInt8} {a : Nat} {e : Int} {w : World}
theorem rdnum_to (hR : RdAt base w b v l a e) (hb : base ≤ w.heap.size) (x a' : Nat) (e' : Int) (hx : got (a, e) (numL 0 (l.drop a)).1 (numL 0 (l.drop a)).2.1 0 = x) (hn : nxt (a, e) (numL 0 (l.drop a)).1 (numL 0 (l.drop a)).2.2 = (a', e')) :
    Does Tryz.prog 13 #[.pointer (some ⟨b, 0, none⟩)] w fun r w' => r = .int .u64 (x : Int) ∧ RdAt base w' b v l a' e' ∧ Ch (fun j => j = b) w w' :=
  (rdnum_walk base b v l a e w hR hb).mono fun r w' ⟨h1, h2, h3⟩ => by
    rw [hx] at h1; rw [hn] at h2; exact ⟨h1, h2, h3⟩
theorem rdint_to (hR : RdAt base w b v l a e) (hb : base ≤ w.heap.size) (x : Int) (a' : Nat) (e' : Int) (hx : zagI (got (a, e) (numL 0 (l.drop a)).1 (numL 0 (l.drop a)).2.1 0 : Nat) = x) (hn : nxt (a, e) (numL 0 (l.drop a)).1 (numL 0 (l.drop a)).2.2 = (a', e')) :
    Does Tryz.prog 28 #[.pointer (some ⟨b, 0, none⟩)] w fun r w' => r = .int .i64 x ∧ RdAt base w' b v l a' e' ∧ Ch (fun j => j = b) w w' :=
  (rdint_walk base b v l a e w hR hb).mono fun r w' ⟨h1, h2, h3⟩ => by
    rw [hx] at h1; rw [hn] at h2; exact ⟨h1, h2, h3⟩
theorem rdtext_to (hR : RdAt base w b v l a e) (hT : Tabs base w) (hb : base ≤ w.heap.size) (x : List UInt8) (a' : Nat) (e' : Int) (hx : got (a, e) (textR (l.drop a)).1 (textR (l.drop a)).2.1 [] = x) (hn : nxt (a, e) (textR (l.drop a)).1 (textR (l.drop a)).2.2 = (a', e')) :
    Does Tryz.prog 29 #[.pointer (some ⟨b, 0, none⟩)] w fun r w' => r = .string (sb x) ∧ RdAt base w' b v l a' e' ∧ Ch (fun j => j = b) w w' :=
  (rdtext_walk base b v l a e w hR hT hb).mono fun r w' ⟨h1, h2, h3⟩ => by
    rw [hx] at h1; rw [hn] at h2; exact ⟨h1, h2, h3⟩
end
theorem numL_var (rest : List UInt8) : ∀ (n v i : Nat), v < n → v * 128 ^ i ≤ 18446744073709551615 → i ≤ 9 → (v = 0 → i = 0) → numL i (varL v ++ rest) = (0, v, (varL v).length)
  | 0, v, i, hn, _, _, _ => absurd hn (by omega)
  | n + 1, v, i, hn, h, h9, h0 => by
    have hv9 : i = 9 → v ≤ 1 := by
      intro e; subst e
      have e2 : (128 : Nat) ^ 9 = 9223372036854775808 := by decide
      rw [e2] at h; omega
    by_cases hv : v < 128
    · rw [varL_low hv]
      have ec : (UInt8.ofNat v).toNat = v := by rw [UInt8.toNat_ofNat']; omega
      show numL i (UInt8.ofNat v :: rest) = _
      rw [numL, ec, if_neg (by omega), if_pos hv, if_neg (by omega)]
      rfl
    · rw [varL_high hv]
      have ec : (UInt8.ofNat (v % 128 + 128)).toNat = v % 128 + 128 := by rw [UInt8.toNat_ofNat']; omega
      have hi : i ≠ 9 := fun e => by have := hv9 e; omega
      have h2 : v / 128 * 128 ^ (i + 1) ≤ 18446744073709551615 := by
        rw [Nat.pow_succ, ← Nat.mul_assoc, Nat.mul_right_comm]
        exact Nat.le_trans (Nat.mul_le_mul_right _ (Nat.div_mul_le_self v 128)) h
      have ih := numL_var rest n (v / 128) (i + 1) (by omega) h2 (by omega) (by omega)
      show numL i (UInt8.ofNat (v % 128 + 128) :: (varL (v / 128) ++ rest)) = _
      rw [numL_step i _ _ (by omega) (by omega), ih, ec]
      simp only [List.length_cons]
      congr 2
      omega
theorem numL_v (v : Nat) (rest : List UInt8) (h : v ≤ 18446744073709551615) : numL 0 (varL v ++ rest) = (0, v, (varL v).length) := numL_var rest (v + 1) v 0 (by omega) (by omega) (by omega) (fun _ => rfl)
/-- What reading a text comes to, where it was written. -/
theorem textR_of (s : ByteArray) (rest : List UInt8) (hs : s.size ≤ 100000000) : textR (textL s ++ rest) = if 4096 < s.size then (12, [], 0) else if Lib.validD (bs s) = true then (0, bs s, (textL s).length) else (11, [], 0) := by
  have e : numL 0 (textL s ++ rest) = (0, s.size, (varL s.size).length) := by rw [textL, List.append_assoc]; exact numL_v _ _ (by omega)
  have ed : (textL s ++ rest).drop (varL s.size).length = bs s ++ rest := by rw [textL, List.append_assoc, List.drop_left]
  have et : (bs s ++ rest).take s.size = bs s := by rw [← bs_length, List.take_left]
  have el : (textL s ++ rest).length - (varL s.size).length = s.size + rest.length := by rw [textL, List.length_append, List.length_append, bs_length]; omega
  have el2 : (textL s).length = (varL s.size).length + s.size := by rw [textL, List.length_append, bs_length]
  rw [textR, e]
  simp only [ne_eq, not_true_eq_false, if_false, ed, et, el, el2]
  rw [if_neg (show ¬ s.size + rest.length < s.size by omega)]
theorem RdAt.down {base base' : Nat} {w : World} {b : Nat} {v : Value} {l : List UInt8} {a : Nat} {e : Int} (h : RdAt base w b v l a e) (hb : base' ≤ base) : RdAt base' w b v l a e := ⟨h.bk, Nat.le_trans hb h.hb, Ow.mono h.ow hb, h.ha, h.hl⟩
section
variable {l m rest : List UInt8} {a : Nat}
theorem drop_more (h : l.drop a = m ++ rest) : l.drop (a + m.length) = rest := by
  rw [← List.drop_drop, h, List.drop_left]
end
end Go.Proofs.YtioonbfinnigpaaGreatDoor

