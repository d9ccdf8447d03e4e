/- A number, a field: the document's, walked. -/
import Derived.Test.YtioonbfinnigpaaGreatDoorRef01b
namespace Go.Proofs.YtioonbfinnigpaaGreatDoor
open Go Go.RowKit
set_option linter.unusedVariables false
set_option maxRecDepth 100000
set_option linter.unusedSimpArgs false
def valN : Nat → List UInt8 → Nat
  | 0, _ => 0
  | _ + 1, [] => 0
  | n + 1, c :: t => c.toNat % 128 + 128 * valN n t
theorem numL_skip : ∀ (n i : Nat) (l : List UInt8), (∀ j, j < n → 128 ≤ (l.getD j 0).toNat) → n ≤ l.length → i + n ≤ 9 → numL i l = ((numL (i + n) (l.drop n)).1, valN n l + 128 ^ n * (numL (i + n) (l.drop n)).2.1, (numL (i + n) (l.drop n)).2.2 + n)
  | 0, i, l, _, _, _ => by simp [valN]
  | n + 1, i, [], _, hl, _ => absurd hl (by simp)
  | n + 1, i, c :: t, h, hl, hi => by
    have h0 : 128 ≤ c.toNat := h 0 (by omega)
    have ih := numL_skip n (i + 1) t (fun j hj => h (j + 1) (by omega)) (by simpa using hl) (by omega)
    have e : i + 1 + n = i + (n + 1) := by omega
    rw [e] at ih
    rw [numL_step i c t (by omega) (by omega), ih, List.drop_succ_cons]
    simp only [valN]
    refine Prod.ext rfl (Prod.ext ?_ ?_)
    · show c.toNat % 128 + 128 * (valN n t + 128 ^ n * _) = _
      rw [Nat.mul_add, ← Nat.mul_assoc, Nat.pow_succ, Nat.mul_comm 128 (128 ^ n)]
      simp only [Nat.add_assoc]
    · show _ + n + 1 = _ + (n + 1)
      omega
theorem valN_succ : ∀ (n : Nat) (l : List UInt8), n < l.length → valN (n + 1) l = valN n l + 128 ^ n * ((l.getD n 0).toNat % 128)
  | _, [], h => absurd h (by simp)
  | 0, c :: t, _ => by simp [valN]
  | n + 1, c :: t, h => by
    have ih := valN_succ n t (by simpa using h)
    rw [valN, ih, valN, List.getD_cons_succ, Nat.mul_add, ← Nat.mul_assoc, Nat.pow_succ, Nat.mul_comm 128 (128 ^ n), Nat.add_assoc]
theorem valN_step (l : List UInt8) (k m : Nat) (h : k < l.length) : valN (m + 1) (l.drop k) = 128 * valN m (l.drop (k + 1)) + (l.getD k 0).toNat % 128 := by
  rw [List.drop_eq_getElem_cons h, valN, Nat.add_comm, List.getD_eq_getElem?_getD, List.getElem?_eq_getElem h, Option.getD_some]
theorem valN_drop : ∀ (k n : Nat) (l : List UInt8), valN n (l.drop k) ≤ valN (n + k) l
  | 0, n, l => by simp
  | k + 1, n, [] => by cases n <;> simp [valN]
  | k + 1, n, c :: t => by
    have := valN_drop k n t
    rw [List.drop_succ_cons, ← Nat.add_assoc, valN]
    omega
section
variable {n : Nat} {l : List UInt8}
theorem at_drop (h : n < l.length) : l.drop n = l[n] :: l.drop (n + 1) := List.drop_eq_getElem_cons h
theorem get_at (h : n < l.length) : l.getD n 0 = l[n] := by rw [List.getD_eq_getElem?_getD, List.getElem?_eq_getElem h, Option.getD_some]
theorem num_a (h : ∀ j, j < n → 128 ≤ (l.getD j 0).toNat) (h1 : n = l.length) (h2 : n < 10) : (numL 0 l).1 = 10 := by
  rw [numL_skip n 0 l h (by omega) (by omega), h1, List.drop_length]; rfl
theorem num_c (h : ∀ j, j < 9 → 128 ≤ (l.getD j 0).toNat) (h1 : 9 < l.length) (h2 : 1 < (l.getD 9 0).toNat) : (numL 0 l).1 = 11 := by
  rw [numL_skip 9 0 l h (by omega) (by omega), at_drop h1, numL, if_pos ⟨rfl, by rw [← get_at h1]; exact h2⟩]
theorem num_d (h : ∀ j, j < n → 128 ≤ (l.getD j 0).toNat) (h1 : n < l.length) (h9 : n ≤ 9) (h2 : (l.getD n 0).toNat = 0) (h3 : 0 < n) : (numL 0 l).1 = 11 := by
  have e : l[n].toNat = 0 := by rw [← get_at h1]; exact h2
  rw [numL_skip n 0 l h (by omega) (by omega), at_drop h1, numL, if_neg (by omega), if_pos (by omega), if_pos ⟨e, by omega⟩]
theorem num_e (h : ∀ j, j < n → 128 ≤ (l.getD j 0).toNat) (h1 : n < l.length) (h9 : n ≤ 9) (h2 : (l.getD n 0).toNat < 128) (h3 : ¬ (n = 9 ∧ 1 < (l.getD n 0).toNat)) (h4 : ¬ (0 < n ∧ (l.getD n 0).toNat = 0)) : numL 0 l = (0, valN (n + 1) l, n + 1) := by
  have e := get_at h1
  rw [numL_skip n 0 l h (by omega) (by omega), valN_succ n l h1, at_drop h1, e, numL, if_neg (by rw [← e]; omega), if_pos (by rw [← e]; exact h2), if_neg (by rw [← e]; omega)]
  refine Prod.ext rfl (Prod.ext ?_ ?_)
  · show valN n l + 128 ^ n * l[n].toNat = _
    rw [Nat.mod_eq_of_lt (by rw [← e]; exact h2)]
  · show 1 + n = n + 1
    omega
end
/-- What the document's number gives. -/
def numV (s : ByteArray) : Value := if (numL 0 (bs s)).1 = 0 then .tuple #[.int .u64 ((numL 0 (bs s)).2.1 : Nat), .string (s.extract (numL 0 (bs s)).2.2 s.size), .int .i64 0] else .tuple #[.int .u64 0, .string s, .int .i64 (numL 0 (bs s)).1]
theorem numV_err (s : ByteArray) {e : Int} (h : (numL 0 (bs s)).1 = e) (he : e ≠ 0) : Value.tuple #[.int .u64 0, .string s, .int .i64 e] = numV s := by rw [numV, h, if_neg he]
theorem num_bad {s : ByteArray} {n : Nat} (hn : n ≤ s.size) (hn10 : n ≤ 10) (hall : ∀ j, j < n → 128 ≤ ((bs s).getD j 0).toNat) (h31 : ¬ (n = s.size ∧ n < 10)) (h53 : n = 10 ∨ n = 9 ∧ 1 < (bat s 9).toNat ∨ 0 < n ∧ (bat s n).toNat = 0) : (numL 0 (bs s)).1 = 11 := by
  have hbl := bs_length s
  rcases h53 with h | h | h
  · exact num_c (fun j hj => hall j (by omega)) (by omega) (by have := hall 9 (by omega); omega)
  · exact num_c (fun j hj => hall j (by omega)) (by omega) h.2
  · by_cases h9 : n ≤ 9
    · exact num_d hall (by omega) h9 h.2 h.1
    · exact num_c (fun j hj => hall j (by omega)) (by omega) (by have := hall 9 (by omega); omega)
end Go.Proofs.YtioonbfinnigpaaGreatDoor

