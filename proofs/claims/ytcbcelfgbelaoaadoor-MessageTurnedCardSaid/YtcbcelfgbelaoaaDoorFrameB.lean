/- Bursts, plainly. -/
import Derived.Test.YtcbcelfgbelaoaaDoorFrameQ
namespace Go.Proofs.YtcbcelfgbelaoaaDoor
open Go Go.RowKit
set_option linter.unusedVariables false
set_option linter.unusedSimpArgs false
/-! ### bursts -/
theorem bstep_c (y : BitVec 32) (c d : UInt8) : bstep y (c ^^^ d) = bstep y c ^^^ Sn 8 (c32 d) := by
  unfold bstep
  rw [c32_xor, ← BitVec.xor_assoc, Sn_xor]
theorem crc_turn : ∀ (l : List UInt8) (y z : BitVec 32), crc (y ^^^ z) l = crc y l ^^^ Sn (8 * l.length) z
  | [], y, z => rfl
  | c :: l, y, z => by
    have e : bstep (y ^^^ z) c = bstep y c ^^^ Sn 8 z := by
      unfold bstep
      rw [← Sn_xor]
      congr 1
      rw [BitVec.xor_assoc, BitVec.xor_comm z, ← BitVec.xor_assoc]
    show crc (bstep (y ^^^ z) c) l = crc (bstep y c) l ^^^ _
    rw [e, crc_turn l, ← Sn_add, List.length_cons, Nat.mul_succ]
theorem crc_set : ∀ (l : List UInt8) (j : Nat) (h : j < l.length) (d : UInt8) (x : BitVec 32), crc x (l.set j (l[j] ^^^ d)) = crc x l ^^^ Sn (8 * (l.length - j)) (c32 d)
  | c :: l, 0, _, d, x => by
    show crc (bstep x (c ^^^ d)) l = crc (bstep x c) l ^^^ _
    rw [bstep_c, crc_turn, ← Sn_add]
    rfl
  | c :: l, j + 1, h, d, x => by
    have ih := crc_set l j (by simpa using h) d (bstep x c)
    show crc (bstep x c) (l.set j (l[j]'(by simpa using h) ^^^ d)) = crc (bstep x c) l ^^^ _
    rw [ih]
    congr 2
    simp only [List.length_cons]
    omega
theorem c32_shift : ∀ m, m < 8 → c32 ((1 : UInt8) <<< (UInt8.ofNat m)) = BitVec.twoPow 32 m := by decide +kernel
/-- One bit of a list turned, bits counted from the first byte's lowest. -/
def bitAt (l : List UInt8) (i : Nat) : List UInt8 := l.set (i / 8) (l.getD (i / 8) 0 ^^^ ((1 : UInt8) <<< (UInt8.ofNat (i % 8))))
theorem bitAt_length (l : List UInt8) (i : Nat) : (bitAt l i).length = l.length := by simp [bitAt]
theorem crc_bit (l : List UInt8) (at_ k : Nat) (hk : k < 32) (h : at_ + k < 8 * l.length) (x : BitVec 32) : crc x (bitAt l (at_ + k)) = crc x l ^^^ Sn (8 * l.length - at_) (BitVec.twoPow 32 k) := by
  have hj : (at_ + k) / 8 < l.length := by omega
  unfold bitAt
  rw [List.getD_eq_getElem?_getD, List.getElem?_eq_getElem hj, Option.getD_some, crc_set _ _ hj, c32_shift _ (Nat.mod_lt _ (by omega))]
  congr 1
  have e1 := Sn_bit k hk true
  have e2 := Sn_bit ((at_ + k) % 8) (by omega) true
  simp only [if_true] at e1 e2
  have a1 := Sn_add (8 * l.length - at_ - k) k (BitVec.twoPow 32 k)
  have a2 := Sn_add (8 * l.length - at_ - k) ((at_ + k) % 8) (BitVec.twoPow 32 ((at_ + k) % 8))
  rw [e1, show 8 * l.length - at_ - k + k = 8 * l.length - at_ by omega] at a1
  rw [e2, show 8 * l.length - at_ - k + (at_ + k) % 8 = 8 * (l.length - (at_ + k) / 8) by omega] at a2
  rw [a1, a2]
theorem S1_ne (x : BitVec 32) (h : S1 x = 0#32) : x = 0#32 := by
  unfold S1 at h
  cases hb : x.getLsbD 0 with
  | false =>
    rw [hb] at h
    simp at h
    apply BitVec.eq_of_getLsbD_eq
    intro i hi
    cases i with
    | zero => rw [hb]; simp
    | succ i =>
      have := congrArg (fun y => y.getLsbD i) h
      simp only [BitVec.getLsbD_ushiftRight] at this
      rw [Nat.add_comm, this]; simp
  | true =>
    rw [hb] at h
    have := congrArg (fun y => y.getLsbD 31) h
    simp at this
theorem Sn_ne (k : Nat) (x : BitVec 32) (h : Sn k x = 0#32) : x = 0#32 := by
  induction k with
  | zero => exact h
  | succ k ih => exact ih (S1_ne _ h)
/-- What a frame's whole crc is: always the same. -/
theorem word4 (x : BitVec 32) (a b c d : UInt8) : crc x [a, b, c, d] = Sn 32 (x ^^^ (c32 a ^^^ (c32 b <<< 8) ^^^ (c32 c <<< 16) ^^^ (c32 d <<< 24))) := by
  have hs : ∀ (k : Nat) (z : BitVec 32) (c : UInt8), k ≤ 24 → Sn k (z ^^^ (c32 c <<< k)) = Sn k z ^^^ c32 c := by
    intro k z c hk
    rw [Sn_xor]
    congr 1
    have hc : (c32 c).toNat < 256 := by rw [c32_toNat]; exact c.toNat_lt
    rw [Sn_low k _ (fun i hi => by simp [BitVec.getLsbD_shiftLeft, hi])]
    apply BitVec.eq_of_toNat_eq
    have : 2 ^ k ≤ 2 ^ 24 := Nat.pow_le_pow_right (by omega) hk
    have h2 : (c32 c).toNat * 2 ^ k < 2 ^ 32 := by
      calc (c32 c).toNat * 2 ^ k ≤ (c32 c).toNat * 2 ^ 24 := Nat.mul_le_mul_left _ this
        _ < 256 * 2 ^ 24 := (Nat.mul_lt_mul_right (by decide)).2 hc
        _ = 2 ^ 32 := by decide
    simp only [BitVec.toNat_ushiftRight, BitVec.toNat_shiftLeft, Nat.shiftLeft_eq, Nat.shiftRight_eq_div_pow]
    rw [Nat.mod_eq_of_lt h2, Nat.mul_div_cancel _ (Nat.two_pow_pos k)]
  show bstep (bstep (bstep (bstep x a) b) c) d = _
  unfold bstep
  rw [← hs 8 (x ^^^ c32 a) b (by omega), ← Sn_add, ← hs 16 _ c (by omega), ← Sn_add, ← hs 24 _ d (by omega), ← Sn_add]
  congr 1
  simp only [BitVec.xor_assoc]
theorem m255 (i : Nat) : (255#32).getLsbD i = decide (i < 8) := by
  by_cases h : i < 32
  · revert h; revert i; decide +kernel
  · rw [BitVec.getLsbD_of_ge _ _ (by omega)]; simp; omega
theorem u8w_b (y : BitVec 32) (q : Nat) (i : Nat) : (c32 (u8w ((y.toNat : Int) / ((2 ^ q : Nat) : Int)))).getLsbD i = (y.getLsbD (q + i) && decide (i < 8)) := by
  have e : (c32 (u8w ((y.toNat : Int) / ((2 ^ q : Nat) : Int)))) = (y >>> q) &&& 255#32 := by
    apply BitVec.eq_of_toNat_eq
    rw [c32_toNat, BitVec.toNat_and, BitVec.toNat_ushiftRight, Nat.shiftRight_eq_div_pow, show (255#32).toNat = 2 ^ 8 - 1 from rfl, Nat.and_two_pow_sub_one_eq_mod]
    unfold u8w
    rw [← Int.natCast_ediv, show ((y.toNat / 2 ^ q : Nat) : Int) % 256 = ((y.toNat / 2 ^ q % 256 : Nat) : Int) from (Int.natCast_emod _ _).symm, Int.toNat_natCast, UInt8.toNat_ofNat']
    omega
  rw [e, BitVec.getLsbD_and, BitVec.getLsbD_ushiftRight, m255]
theorem le4_b (y : BitVec 32) : ∃ a b c d : UInt8, le4 (y.toNat : Int) = [a, b, c, d] ∧ c32 a ^^^ (c32 b <<< 8) ^^^ (c32 c <<< 16) ^^^ (c32 d <<< 24) = y := by
  refine ⟨_, _, _, _, rfl, ?_⟩
  apply BitVec.eq_of_getLsbD_eq
  intro i hi
  have e0 := u8w_b y 0
  have e1 := u8w_b y 8
  have e2 := u8w_b y 16
  have e3 := u8w_b y 24
  simp only [Nat.reducePow, Int.cast_ofNat_Int, Int.ediv_one] at e0 e1 e2 e3
  simp only [BitVec.getLsbD_xor, BitVec.getLsbD_shiftLeft, e0, e1, e2, e3, hi, decide_true, Bool.true_and]
  by_cases h1 : i < 8
  · simp [h1, show i < 16 by omega, show i < 24 by omega]
  · by_cases h2 : i < 16
    · simp [h1, h2, show i < 24 by omega, show i - 8 < 8 by omega, show 8 + (i - 8) = i by omega]
    · by_cases h3 : i < 24
      · simp [h1, h2, h3, show ¬ i - 8 < 8 by omega, show i - 16 < 8 by omega, show 16 + (i - 16) = i by omega]
      · simp [h1, h2, h3, show ¬ i - 8 < 8 by omega, show ¬ i - 16 < 8 by omega, show i - 24 < 8 by omega, show 24 + (i - 24) = i by omega]
theorem crc_le4 (x : BitVec 32) : crc x (le4 ((~~~x).toNat : Int)) = Sn 32 4294967295#32 := by
  obtain ⟨a, b, c, d, h1, h2⟩ := le4_b (~~~x)
  rw [h1, word4, h2]
  congr 1
  apply BitVec.eq_of_getLsbD_eq
  intro i hi
  have : (4294967295#32).getLsbD i = true := by revert hi; revert i; decide +kernel
  rw [this, BitVec.getLsbD_xor, BitVec.getLsbD_not]
  simp [hi]
theorem crc_get (l : List UInt8) (h : getB l) : crc 4294967295#32 l = Sn 32 4294967295#32 := by
  obtain ⟨h1, h2, h3⟩ := h
  conv => lhs; rw [← List.take_append_drop (l.length - 4) l]
  rw [crc_append, h3, sum_b]
  exact crc_le4 _
/-- The frame while its bits are being turned: the pattern p is what was turned so far, from at_ on. -/
def turned (l0 l : List UInt8) (at_ k : Nat) (p : BitVec 32) : Prop :=
  l.length = l0.length ∧ crc 4294967295#32 l = crc 4294967295#32 l0 ^^^ Sn (8 * l0.length - at_) p ∧ (∀ i, k ≤ i → p.getLsbD i = false) ∧ (p = 0#32 → l = l0)
theorem turned_zero (l0 : List UInt8) (at_ : Nat) : turned l0 l0 at_ 0 0#32 := ⟨rfl, by rw [Sn_zero, BitVec.xor_zero], by simp, fun _ => rfl⟩
theorem turned_skip {l0 l : List UInt8} {at_ k : Nat} {p : BitVec 32} (h : turned l0 l at_ k p) : turned l0 l at_ (k + 1) p := ⟨h.1, h.2.1, fun i hi => h.2.2.1 i (by omega), h.2.2.2⟩
theorem turned_bit {l0 l : List UInt8} {at_ k : Nat} {p : BitVec 32} (h : turned l0 l at_ k p) (hk : k < 32) (hb : at_ + k < 8 * l0.length) : turned l0 (bitAt l (at_ + k)) at_ (k + 1) (p ^^^ BitVec.twoPow 32 k) ∧ p ^^^ BitVec.twoPow 32 k ≠ 0#32 := by
  have hbit : (p ^^^ BitVec.twoPow 32 k).getLsbD k = true := by
    rw [BitVec.getLsbD_xor, h.2.2.1 k (Nat.le_refl _), BitVec.getLsbD_twoPow]; simp [hk]
  have hne : p ^^^ BitVec.twoPow 32 k ≠ 0#32 := by
    intro e; rw [e] at hbit; simp at hbit
  refine ⟨⟨?_, ?_, ?_, fun e => absurd e hne⟩, hne⟩
  · rw [bitAt_length, h.1]
  · rw [crc_bit _ _ _ hk (by rw [h.1]; exact hb), h.2.1, h.1, Sn_xor, BitVec.xor_assoc]
  · intro i hi
    rw [BitVec.getLsbD_xor, h.2.2.1 i (by omega), BitVec.getLsbD_twoPow]
    simp; omega
theorem turned_get {l0 l : List UInt8} {at_ k : Nat} {p : BitVec 32} (h : turned l0 l at_ k p) (h0 : getB l0) : getE l = if p = 0#32 then 0 else 20 := by
  by_cases hp : p = 0#32
  · rw [if_pos hp, h.2.2.2 hp]; unfold getE; rw [if_pos h0]
  · rw [if_neg hp]
    have hn : ¬ getB l := by
      intro hg
      have e := h.2.1
      rw [crc_get l hg, crc_get l0 h0] at e
      have e2 : Sn (8 * l0.length - at_) p = 0#32 := by
        have := congrArg (fun y => Sn 32 4294967295#32 ^^^ y) e
        simp only [BitVec.xor_self, ← BitVec.xor_assoc, BitVec.zero_xor] at this
        exact this.symm
      exact hp (Sn_ne _ _ e2)
    unfold getE
    have := h0.2.1
    rw [if_neg hn, if_neg (by rw [h.1]; omega)]
theorem shl_u8 : ∀ m, m < 8 → IntKind.u8.wrap (1 * 2 ^ min m 8) = (((1 : UInt8) <<< (UInt8.ofNat m)).toNat : Int) := by decide +kernel
theorem bitAt_row (l : List UInt8) (q : Int) (i : Nat) (h : q = i) : (l.map b8).set (q / 8).toNat (.int .u8 (bits .xor .u8 ((l.getD (q / 8).toNat 0).toNat : Int) (IntKind.u8.wrap (1 * 2 ^ min (q % 8).toNat IntKind.u8.bits)))) = (bitAt l i).map b8 := by
  subst h
  have e1 : ((i : Int) / 8).toNat = i / 8 := by omega
  have e2 : ((i : Int) % 8).toNat = i % 8 := by omega
  rw [e1, e2, show IntKind.u8.bits = 8 from rfl, shl_u8 _ (Nat.mod_lt _ (by omega)), b8_xor]
  unfold bitAt
  rw [List.map_set]
  rfl
theorem turned_same {l0 l : List UInt8} {at_ k : Nat} {p : BitVec 32} (h : turned l0 l at_ k p) (h0 : getB l0) : decide (getE l = 20) = decide (p ≠ 0#32) := by
  rw [turned_get h h0]
  by_cases hp : p = 0#32 <;> simp [hp]
end Go.Proofs.YtcbcelfgbelaoaaDoor

