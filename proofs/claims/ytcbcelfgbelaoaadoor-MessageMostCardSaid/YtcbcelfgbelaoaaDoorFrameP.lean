/- The sum, plainly: by bits, by bytes, by halves of bytes; over lists, without the program. -/
import Derived.Test.YtcbcelfgbelaoaaDoorFrameA
namespace Go.Proofs.YtcbcelfgbelaoaaDoor
open Go Go.RowKit
set_option linter.unusedVariables false
set_option linter.unusedSimpArgs false
def S1 (x : BitVec 32) : BitVec 32 := (x >>> 1) ^^^ (if x.getLsbD 0 then 3988292384#32 else 0#32)
def Sn : Nat → BitVec 32 → BitVec 32
  | 0, x => x
  | k + 1, x => S1 (Sn k x)
theorem Sn_add (a b : Nat) (x : BitVec 32) : Sn (a + b) x = Sn a (Sn b x) := by
  induction a with
  | zero => simp [Sn]
  | succ a ih => rw [Nat.succ_add]; simp only [Sn]; rw [ih]
theorem xor4 (a b c d : BitVec 32) : (a ^^^ b) ^^^ (c ^^^ d) = (a ^^^ c) ^^^ (b ^^^ d) := by
  rw [BitVec.xor_assoc, BitVec.xor_assoc, ← BitVec.xor_assoc b c d, BitVec.xor_comm b c, BitVec.xor_assoc c b d]
theorem S1_xor (x y : BitVec 32) : S1 (x ^^^ y) = S1 x ^^^ S1 y := by
  unfold S1
  rw [BitVec.ushiftRight_xor_distrib, xor4]
  congr 1
  rw [BitVec.getLsbD_xor]
  cases x.getLsbD 0 <;> cases y.getLsbD 0 <;> simp
theorem Sn_xor (k : Nat) (x y : BitVec 32) : Sn k (x ^^^ y) = Sn k x ^^^ Sn k y := by
  induction k with
  | zero => rfl
  | succ k ih => simp only [Sn]; rw [ih, S1_xor]
theorem S1_zero : S1 0#32 = 0#32 := by decide +kernel
theorem Sn_zero (k : Nat) : Sn k 0#32 = 0#32 := by
  induction k with
  | zero => rfl
  | succ k ih => simp only [Sn]; rw [ih, S1_zero]
theorem S1_even (x : BitVec 32) (h : x.getLsbD 0 = false) : S1 x = x >>> 1 := by unfold S1; rw [h]; simp
/-- k steps over what ends in k noughts. -/
theorem Sn_low : ∀ (k : Nat) (x : BitVec 32), (∀ i, i < k → x.getLsbD i = false) → Sn k x = x >>> k
  | 0, x, _ => by simp [Sn]
  | k + 1, x, h => by
    simp only [Sn]
    rw [Sn_low k x (fun i hi => h i (by omega)), S1_even _ (by rw [BitVec.getLsbD_ushiftRight]; exact h _ (by omega)), BitVec.shiftRight_add]
theorem ofInt_toNat (x : BitVec 32) : BitVec.ofInt 32 (x.toNat : Int) = x := by
  rw [BitVec.ofInt_natCast]; simp
theorem bxor (x y : BitVec 32) : bits .xor .u32 (x.toNat : Int) (y.toNat : Int) = ((x ^^^ y).toNat : Int) := by
  rw [bv32, ofInt_toNat, ofInt_toNat]
theorem stepN_S1 (x : BitVec 32) : stepN (x.toNat : Int) = ((S1 x).toNat : Int) := by
  unfold stepN S1
  have hx := ofInt_toNat x
  have h1 : bits .and .u32 (x.toNat : Int) 1 = ((x.toNat % 2 : Nat) : Int) := by
    rw [bv32]
    simp only [hx]
    congr 1
    have : BitVec.ofInt 32 1 = 1#32 := rfl
    rw [this, BitVec.toNat_and]
    simp [Nat.and_one_is_mod]
  have hb : x.getLsbD 0 = decide (x.toNat % 2 = 1) := by
    rw [BitVec.getLsbD, Nat.testBit_zero]
  have hs : ((x >>> 1).toNat : Int) = (x.toNat : Int) / 2 := by
    rw [BitVec.toNat_ushiftRight, Nat.shiftRight_eq_div_pow]; omega
  rw [h1, hb]
  by_cases h : x.toNat % 2 = 1
  · rw [if_pos (by omega), decide_eq_true h, ← hs]
    exact bxor (x >>> 1) 3988292384#32
  · rw [if_neg (by omega), decide_eq_false h, ← hs]
    simp
theorem stepK_Sn (k : Nat) (x : BitVec 32) : stepK k (x.toNat : Int) = ((Sn k x).toNat : Int) := by
  induction k with
  | zero => rfl
  | succ k ih => simp only [stepK, Sn]; rw [ih, stepN_S1]
def c32 (c : UInt8) : BitVec 32 := BitVec.ofNat 32 c.toNat
theorem c32_toNat (c : UInt8) : (c32 c).toNat = c.toNat := by
  have := c.toNat_lt
  unfold c32
  rw [BitVec.toNat_ofNat]
  exact Nat.mod_eq_of_lt (Nat.lt_of_lt_of_le this (by decide))
/-- A byte into a sum. -/
def bstep (x : BitVec 32) (c : UInt8) : BitVec 32 := Sn 8 (x ^^^ c32 c)
/-- A bit that stands at k comes down in k steps. -/
theorem Sn_bit (k : Nat) (hk : k < 32) (b : Bool) : Sn k (if b then BitVec.twoPow 32 k else 0#32) = if b then 1#32 else 0#32 := by
  cases b with
  | false => exact Sn_zero k
  | true =>
    simp only [if_true]
    rw [Sn_low k _ (fun i hi => by simp [BitVec.getLsbD_twoPow]; omega)]
    apply BitVec.eq_of_toNat_eq
    rw [BitVec.toNat_ushiftRight, BitVec.toNat_twoPow, Nat.mod_eq_of_lt (Nat.pow_lt_pow_right (by decide) hk), Nat.shiftRight_eq_div_pow, Nat.div_self (Nat.pow_pos (by decide))]
    rfl
/-- The bits of c below k. -/
def low (c : UInt8) (k : Nat) : BitVec 32 := c32 c &&& (BitVec.ofNat 32 (2 ^ k - 1))
theorem low_get (c : UInt8) (k i : Nat) (hk : k ≤ 31) : (low c k).getLsbD i = ((c32 c).getLsbD i && decide (i < k)) := by
  unfold low
  rw [BitVec.getLsbD_and]
  by_cases hi : i < 32
  · congr 1
    rw [BitVec.getLsbD_ofNat]
    simp [hi, Nat.testBit_two_pow_sub_one]
  · rw [BitVec.getLsbD_of_ge _ _ (by omega)]; simp
theorem low_succ (c : UInt8) (k : Nat) (hk : k < 31) : low c (k + 1) = low c k ^^^ (if (c32 c).getLsbD k then BitVec.twoPow 32 k else 0#32) := by
  apply BitVec.eq_of_getLsbD_eq
  intro i hi
  rw [BitVec.getLsbD_xor, low_get _ _ _ (by omega), low_get _ _ _ (by omega)]
  by_cases e : i = k
  · subst e
    cases h : (c32 c).getLsbD i <;> simp [BitVec.getLsbD_twoPow, hi]
  · have e1 : decide (i < k + 1) = decide (i < k) := by simp; omega
    rw [e1]
    cases h : (c32 c).getLsbD k <;> simp [BitVec.getLsbD_twoPow, Ne.symm e]
theorem refBit_S (c : UInt8) (k : Nat) (hk : k < 8) (x : BitVec 32) : refBit c k (x.toNat : Int) = ((S1 (x ^^^ (if (c32 c).getLsbD k then 1#32 else 0#32))).toNat : Int) := by
  have hb : ((c.toNat : Int) / 2 ^ min (k : Int).toNat IntKind.u32.bits) % 2 = if (c32 c).getLsbD k then 1 else 0 := by
    have e1 : min (k : Int).toNat IntKind.u32.bits = k := by
      have : IntKind.u32.bits = 32 := rfl
      rw [this]; simp; omega
    rw [e1]
    have e2 : (c32 c).getLsbD k = c.toNat.testBit k := by rw [BitVec.getLsbD, c32_toNat]
    rw [e2, Nat.testBit_eq_decide_div_mod_eq]
    have e3 : ((c.toNat : Int) / 2 ^ k) % 2 = ((c.toNat / 2 ^ k % 2 : Nat) : Int) := by simp
    rw [e3]
    by_cases h : c.toNat / 2 ^ k % 2 = 1
    · rw [h]; simp
    · have : c.toNat / 2 ^ k % 2 = 0 := by omega
      rw [this]; simp
  have hx : (x.toNat : Int) % 2 = if x.getLsbD 0 then 1 else 0 := by
    rw [BitVec.getLsbD, Nat.testBit_zero]
    by_cases h : x.toNat % 2 = 1
    · simp [h]; omega
    · have : x.toNat % 2 = 0 := by omega
      simp [this]; omega
  have hs : ((x >>> 1).toNat : Int) = (x.toNat : Int) / 2 := by
    rw [BitVec.toNat_ushiftRight, Nat.shiftRight_eq_div_pow]; omega
  unfold refBit
  rw [hb, hx, ← hs]
  have h1 : (1#32 : BitVec 32) >>> 1 = 0#32 := rfl
  unfold S1
  rw [BitVec.ushiftRight_xor_distrib, BitVec.getLsbD_xor]
  cases (c32 c).getLsbD k <;> cases x.getLsbD 0 <;> simp [h1]
  · exact bxor (x >>> 1) 3988292384#32
  · exact bxor (x >>> 1) 3988292384#32
theorem refByte_S (c : UInt8) (x : BitVec 32) : ∀ k, k ≤ 8 → refByte c k (x.toNat : Int) = ((Sn k (x ^^^ low c k)).toNat : Int)
  | 0, _ => by
    have : low c 0 = 0#32 := by unfold low; simp
    rw [this]; simp [refByte, Sn]
  | k + 1, hk => by
    simp only [refByte, Sn]
    rw [refByte_S c x k (by omega), refBit_S c k (by omega), low_succ c k (by omega), ← BitVec.xor_assoc, Sn_xor k (x ^^^ low c k), Sn_bit k (by omega)]
theorem low_8 (c : UInt8) : low c 8 = c32 c := by
  apply BitVec.eq_of_getLsbD_eq
  intro i hi
  rw [low_get _ _ _ (by omega)]
  by_cases h : i < 8
  · simp [h]
  · have : (c32 c).getLsbD i = false := by
      rw [BitVec.getLsbD, c32_toNat]
      exact Nat.testBit_lt_two_pow (Nat.lt_of_lt_of_le c.toNat_lt (Nat.pow_le_pow_right (by decide) (show 8 ≤ i by omega)))
    rw [this]; rfl
theorem refByte_8 (c : UInt8) (x : BitVec 32) : refByte c 8 (x.toNat : Int) = ((bstep x c).toNat : Int) := by
  rw [refByte_S c x 8 (Nat.le_refl _), low_8]; rfl
/-- Four steps, by the upper bits and the lower four. -/
theorem Sn_4 (y : BitVec 32) : Sn 4 y = (y >>> 4) ^^^ Sn 4 (y &&& 15#32) := by
  have e : y = ((y >>> 4) <<< 4) ^^^ (y &&& 15#32) := by
    apply BitVec.eq_of_getLsbD_eq
    intro i hi
    have h15 : (15#32 : BitVec 32).getLsbD i = decide (i < 4) := by
      have : (15#32 : BitVec 32) = BitVec.ofNat 32 (2 ^ 4 - 1) := rfl
      rw [this, BitVec.getLsbD_ofNat, Nat.testBit_two_pow_sub_one]
      simp [hi]
    rw [BitVec.getLsbD_xor, BitVec.getLsbD_shiftLeft, BitVec.getLsbD_ushiftRight, BitVec.getLsbD_and, h15]
    by_cases h : i < 4
    · simp [h]
    · simp [h, hi, show 4 + (i - 4) = i by omega]
  have h1 : Sn 4 ((y >>> 4) <<< 4) = y >>> 4 := by
    rw [Sn_low 4 _ (fun i hi => by simp [BitVec.getLsbD_shiftLeft, hi])]
    apply BitVec.eq_of_getLsbD_eq
    intro i hi
    rw [BitVec.getLsbD_ushiftRight, BitVec.getLsbD_shiftLeft, BitVec.getLsbD_ushiftRight]
    by_cases h : 4 + i < 32
    · simp [h]
    · have e2 : (y >>> 4).getLsbD i = false := by
        rw [BitVec.getLsbD_ushiftRight]; exact BitVec.getLsbD_of_ge y _ (by omega)
      rw [e2]; simp [h]
  calc Sn 4 y = Sn 4 (((y >>> 4) <<< 4) ^^^ (y &&& 15#32)) := by rw [← e]
    _ = _ := by rw [Sn_xor, h1]
theorem tab_S (x : BitVec 32) (d : BitVec 32) : bits .xor .u32 ((x.toNat : Int) / 16) (stepK 4 (bits .and .u32 (bits .xor .u32 (x.toNat : Int) (d.toNat : Int)) 15)) = (((x >>> 4) ^^^ Sn 4 ((x ^^^ d) &&& 15#32)).toNat : Int) := by
  have hs : ((x >>> 4).toNat : Int) = (x.toNat : Int) / 16 := by
    rw [BitVec.toNat_ushiftRight, Nat.shiftRight_eq_div_pow]; omega
  have ha : bits .and .u32 (((x ^^^ d).toNat : Nat) : Int) 15 = ((((x ^^^ d) &&& 15#32).toNat : Nat) : Int) := by
    rw [bv32, ofInt_toNat]; rfl
  rw [bxor, ha, stepK_Sn, ← hs, bxor]
theorem half (x d : BitVec 32) (hd : d >>> 4 = 0#32) : (x >>> 4) ^^^ Sn 4 ((x ^^^ d) &&& 15#32) = Sn 4 (x ^^^ d) := by
  rw [Sn_4 (x ^^^ d), BitVec.ushiftRight_xor_distrib, hd, BitVec.xor_zero]
/-- A byte's lower and upper half. -/
def lo4 (c : UInt8) : BitVec 32 := c32 c &&& 15#32
def hi4 (c : UInt8) : BitVec 32 := c32 c >>> 4
theorem c32_halves (c : UInt8) : c32 c = lo4 c ^^^ (hi4 c <<< 4) := by
  apply BitVec.eq_of_getLsbD_eq
  intro i hi
  have h15 : (15#32 : BitVec 32).getLsbD i = decide (i < 4) := by
    have : (15#32 : BitVec 32) = BitVec.ofNat 32 (2 ^ 4 - 1) := rfl
    rw [this, BitVec.getLsbD_ofNat, Nat.testBit_two_pow_sub_one]
    simp [hi]
  unfold lo4 hi4
  rw [BitVec.getLsbD_xor, BitVec.getLsbD_shiftLeft, BitVec.getLsbD_ushiftRight, BitVec.getLsbD_and, h15]
  by_cases h : i < 4
  · simp [h]
  · simp [h, hi, show 4 + (i - 4) = i by omega]
theorem hi4_toNat (c : UInt8) : ((hi4 c).toNat : Int) = (c.toNat : Int) / 16 := by
  unfold hi4
  rw [BitVec.toNat_ushiftRight, Nat.shiftRight_eq_div_pow, c32_toNat]; omega
theorem hi4_small (c : UInt8) : hi4 c >>> 4 = 0#32 := by
  apply BitVec.eq_of_toNat_eq
  have := hi4_toNat c
  have := c.toNat_lt
  rw [BitVec.toNat_ushiftRight, Nat.shiftRight_eq_div_pow]
  simp
  omega
theorem lo4_small (c : UInt8) : lo4 c >>> 4 = 0#32 := by
  apply BitVec.eq_of_toNat_eq
  unfold lo4
  rw [BitVec.toNat_ushiftRight, Nat.shiftRight_eq_div_pow, BitVec.toNat_and]
  have : (c32 c).toNat &&& (15#32).toNat ≤ 15 := Nat.and_le_right
  simp at this ⊢
  omega
theorem and_halves (x : BitVec 32) (c : UInt8) : (x ^^^ c32 c) &&& 15#32 = (x ^^^ lo4 c) &&& 15#32 := by
  unfold lo4
  apply BitVec.eq_of_getLsbD_eq
  intro i hi
  simp only [BitVec.getLsbD_and, BitVec.getLsbD_xor]
  cases (15#32 : BitVec 32).getLsbD i <;> simp
theorem Sn_shl4 (z : BitVec 32) (hz : z >>> 4 = 0#32) : Sn 4 (z <<< 4) = z := by
  rw [Sn_low 4 _ (fun i hi => by simp [BitVec.getLsbD_shiftLeft, hi])]
  apply BitVec.eq_of_getLsbD_eq
  intro i hi
  rw [BitVec.getLsbD_ushiftRight, BitVec.getLsbD_shiftLeft]
  by_cases h : 4 + i < 32
  · simp [h]
  · have e : (z >>> 4).getLsbD (i - 4) = false := by rw [hz]; simp
    rw [BitVec.getLsbD_ushiftRight, show 4 + (i - 4) = i by omega] at e
    rw [e]; simp [h]
theorem moreStep_b (x : BitVec 32) (c : UInt8) : moreStep (x.toNat : Int) c = ((bstep x c).toNat : Int) := by
  have h1 : bits .xor .u32 ((x.toNat : Int) / 16) (stepK 4 (bits .and .u32 (bits .xor .u32 (x.toNat : Int) (c.toNat : Int)) 15)) = ((Sn 4 (x ^^^ lo4 c)).toNat : Int) := by
    rw [← c32_toNat c, tab_S x (c32 c), and_halves, half x (lo4 c) (lo4_small c)]
  unfold moreStep
  rw [h1, ← hi4_toNat c, tab_S, half _ _ (hi4_small c)]
  unfold bstep
  have e : (8 : Nat) = 4 + 4 := rfl
  rw [e, Sn_add, c32_halves c, ← BitVec.xor_assoc, Sn_xor 4 (x ^^^ lo4 c), Sn_shl4 _ (hi4_small c)]
/-- The sum of bytes behind a state. -/
def crc (x : BitVec 32) (l : List UInt8) : BitVec 32 := l.foldl bstep x
theorem crc_append (x : BitVec 32) (l m : List UInt8) : crc x (l ++ m) = crc (crc x l) m := by simp [crc]
theorem fold_more (x : BitVec 32) (l : List UInt8) : l.foldl moreStep (x.toNat : Int) = ((crc x l).toNat : Int) := by
  induction l generalizing x with
  | nil => rfl
  | cons c l ih => simp only [List.foldl_cons]; rw [moreStep_b, ih]; rfl
theorem fold_ref (x : BitVec 32) (l : List UInt8) : l.foldl (fun v c => refByte c 8 v) (x.toNat : Int) = ((crc x l).toNat : Int) := by
  induction l generalizing x with
  | nil => rfl
  | cons c l ih => simp only [List.foldl_cons]; rw [refByte_8, ih]; rfl
theorem com_b (x : BitVec 32) : com (x.toNat : Int) = ((~~~x).toNat : Int) := by
  unfold com
  have h : (if IntKind.u32.signed then (-1 : Int) else IntKind.u32.max) = ((4294967295#32 : BitVec 32).toNat : Int) := rfl
  rw [h, bxor]
  congr 2
theorem more_b (x : BitVec 32) (l : List UInt8) : more (x.toNat : Int) l = ((~~~ (crc (~~~x) l)).toNat : Int) := by
  unfold more
  rw [com_b, fold_more, com_b]
theorem ref_b (l : List UInt8) : refSum l = ((~~~ (crc 4294967295#32 l)).toNat : Int) := by
  unfold refSum
  have h : (4294967295 : Int) = ((4294967295#32 : BitVec 32).toNat : Int) := rfl
  rw [h, fold_ref, BitVec.toNat_not]
  have := (crc 4294967295#32 l).isLt
  have h2 : (4294967295#32 : BitVec 32).toNat = 4294967295 := rfl
  rw [h2]
  omega
theorem sum_b (l : List UInt8) : more 0 l = ((~~~ (crc 4294967295#32 l)).toNat : Int) := by
  have := more_b 0#32 l
  have h : ~~~ (0#32) = 4294967295#32 := by decide +kernel
  rw [h] at this
  exact this
/-- The program's sum is the document's. -/
theorem sum_eq (l : List UInt8) : more 0 l = refSum l := by rw [sum_b, ref_b]
theorem more_more (l m : List UInt8) : more (more 0 l) m = more 0 (l ++ m) := by
  rw [sum_b l, more_b, sum_b, crc_append, BitVec.not_not]
theorem more_nil (l : List UInt8) : more (more 0 l) [] = more 0 l := by rw [more_more, List.append_nil]
end Go.Proofs.YtcbcelfgbelaoaaDoor

