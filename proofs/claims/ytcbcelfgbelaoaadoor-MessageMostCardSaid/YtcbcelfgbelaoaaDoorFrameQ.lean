/- The sum is linear; frames, plainly. -/
import Derived.Test.YtcbcelfgbelaoaaDoorFrameP
namespace Go.Proofs.YtcbcelfgbelaoaaDoor
open Go Go.RowKit
set_option linter.unusedVariables false
set_option linter.unusedSimpArgs false
theorem c32_xor (c d : UInt8) : c32 (c ^^^ d) = c32 c ^^^ c32 d := by
  apply BitVec.eq_of_toNat_eq
  rw [BitVec.toNat_xor, c32_toNat, c32_toNat, c32_toNat, UInt8.toNat_xor]
theorem bstep_xor (x y : BitVec 32) (c d : UInt8) : bstep (x ^^^ y) (c ^^^ d) = bstep x c ^^^ bstep y d := by
  unfold bstep
  rw [c32_xor, xor4, Sn_xor]
def zx (l m : List UInt8) : List UInt8 := List.zipWith (· ^^^ ·) l m
theorem crc_xor : ∀ (l m : List UInt8) (x y : BitVec 32), l.length = m.length → crc (x ^^^ y) (zx l m) = crc x l ^^^ crc y m
  | [], [], x, y, _ => rfl
  | c :: l, d :: m, x, y, h => by
    have ih := crc_xor l m (bstep x c) (bstep y d) (by simpa using h)
    simp only [zx, List.zipWith_cons_cons, crc, List.foldl_cons] at ih ⊢
    rw [bstep_xor]; exact ih
  | [], _ :: _, _, _, h => by simp at h
  | _ :: _, [], _, _, h => by simp at h
theorem zx_get (l m : List UInt8) (i : Nat) (h : i < l.length) (h' : i < m.length) : (zx l m)[i]? = some (l[i] ^^^ m[i]) := by
  simp [zx, List.getElem?_zipWith, h, h']
theorem turn_zx (l b : List UInt8) : turn l 0 b = zx l (turn (List.replicate l.length 0) 0 b) := by
  have hl : (List.replicate l.length (0 : UInt8)).length = l.length := by simp
  have h2 : (turn (List.replicate l.length 0) 0 b).length = l.length := by rw [turn_length, hl]
  apply List.ext_getElem?
  intro i
  by_cases h : i < l.length
  · rw [zx_get _ _ i h (by omega)]
    unfold turn
    rw [turnK_get _ _ _ _ _ h]
    have e := turnK_get (List.replicate l.length (0 : UInt8)).length (List.replicate l.length 0) 0 b i (by omega)
    have e2 : (turnK (List.replicate l.length (0 : UInt8)).length (List.replicate l.length 0) 0 b)[i]'(by rw [turnK_length]; omega) = if i < l.length ∧ (0 : Int) ≤ i ∧ (i : Int) - 0 < b.length then 0 ^^^ b.getD ((i : Int) - 0).toNat 0 else 0 := by
      apply Option.some.inj
      rw [← List.getElem?_eq_getElem, e]
      simp
    rw [e2]
    by_cases hc : i < l.length ∧ (0 : Int) ≤ i ∧ (i : Int) - 0 < b.length
    · rw [if_pos hc, if_pos hc, UInt8.zero_xor]
    · rw [if_neg hc, if_neg hc, UInt8.xor_zero]
  · rw [List.getElem?_eq_none (by rw [turn_length]; omega), List.getElem?_eq_none (by simp [zx]; omega)]
theorem zx_zero (m : List UInt8) : zx (List.replicate m.length 0) m = m := by
  apply List.ext_getElem?
  intro i
  by_cases h : i < m.length
  · rw [zx_get _ _ i (by simpa using h) h, List.getElem?_eq_getElem h]; simp
  · rw [List.getElem?_eq_none (by simp [zx]; omega), List.getElem?_eq_none (by omega)]
theorem sum_xor (l b : List UInt8) : bits .xor .u32 (more 0 (turn l 0 b)) (more 0 l) = bits .xor .u32 (more 0 (turn (List.replicate l.length 0) 0 b)) (more 0 (List.replicate l.length 0)) := by
  have key : ∀ l m : List UInt8, l.length = m.length → bits .xor .u32 (more 0 (zx l m)) (more 0 l) = ((crc 0#32 m).toNat : Int) := by
    intro l m h
    rw [sum_b, sum_b, bxor]
    congr 2
    have e := crc_xor l m 4294967295#32 0#32 h
    rw [BitVec.xor_zero] at e
    rw [e]
    apply BitVec.eq_of_getLsbD_eq
    intro i hi
    simp only [BitVec.getLsbD_xor, BitVec.getLsbD_not, hi, decide_true, Bool.true_and]
    cases (crc 4294967295#32 l).getLsbD i <;> cases (crc 0#32 m).getLsbD i <;> rfl
  have h2 : (turn (List.replicate l.length 0) 0 b).length = l.length := by rw [turn_length]; simp
  rw [turn_zx, key _ _ h2.symm]
  have e := zx_zero (turn (List.replicate l.length 0) 0 b)
  rw [h2] at e
  have e3 := key (List.replicate l.length 0) (turn (List.replicate l.length 0) 0 b) (by rw [h2]; simp)
  rw [e] at e3
  exact e3.symm
/-- What Get answers. -/
def getL (l : List UInt8) : List UInt8 := if getB l then l.take (l.length - 4) else []
def getE (l : List UInt8) : Int := if getB l then 0 else if 32772 < l.length then 21 else 20
theorem get_all (v : Value) (l : List UInt8) (w0 : World) (hv : By w0 v l) (hl : l.length ≤ 9223372036854775806) :
    Does Tryd.prog 25 #[v] w0 (fun r w' => ∃ v', r = .tuple #[v', .int .i64 (getE l)] ∧ By w' v' (getL l) ∧ Nw w0 w') := by
  by_cases h1 : l.length < 4
  · have hn : ¬ getB l := fun h => by unfold getB at h; omega
    refine (get_short v l w0 hv h1).mono ?_
    rintro r w' ⟨rfl, rfl⟩
    refine ⟨.slice none 0 0, ?_, ?_, Ch.refl _⟩
    · unfold getE; rw [if_neg hn, if_neg (by omega)]
    · unfold getL; rw [if_neg hn]; exact Sl.nil _ 1
  · by_cases h2 : 32772 < l.length
    · have hn : ¬ getB l := fun h => by unfold getB at h; omega
      refine (get_long v l w0 hv h2 (by omega)).mono ?_
      rintro r w' ⟨rfl, rfl⟩
      refine ⟨.slice none 0 0, ?_, ?_, Ch.refl _⟩
      · unfold getE; rw [if_neg hn, if_pos h2]
      · unfold getL; rw [if_neg hn]; exact Sl.nil _ 1
    · refine (get_walk v l w0 hv (by omega) (by omega)).mono ?_
      rintro r w' ⟨h3, h4, c⟩
      by_cases hg : getB l
      · obtain ⟨v', rfl, ho⟩ := h3 hg
        refine ⟨v', by unfold getE; rw [if_pos hg], ?_, c⟩
        unfold getL; rw [if_pos hg]
        exact own_by ho (by simp)
      · rw [h4 hg]
        refine ⟨.slice none 0 0, ?_, ?_, c⟩
        · unfold getE; rw [if_neg hg, if_neg h2]
        · unfold getL; rw [if_neg hg]; exact Sl.nil _ 1
theorem put_all (v : Value) (l : List UInt8) (w0 : World) (hv : By w0 v l) (hl : l.length ≤ 9223372036854775806) :
    Does Tryd.prog 21 #[v] w0 (fun r w' => ∃ v', r = .tuple #[v', .int .i64 (if l.length ≤ 32768 then 0 else 21)] ∧ Nw w0 w') := by
  by_cases h : l.length ≤ 32768
  · refine (put_walk v l w0 hv h).mono ?_
    rintro r w' ⟨v', rfl, _, c⟩
    exact ⟨v', by rw [if_pos h], c⟩
  · refine (put_long v l w0 hv (by omega) hl).mono ?_
    rintro r w' ⟨rfl, rfl⟩
    exact ⟨.slice none 0 0, by rw [if_neg h], Ch.refl _⟩
/-- What the document's Get answers. -/
def rgetS (s : ByteArray) : ByteArray := if 4 ≤ s.size ∧ s.size ≤ 32772 ∧ rput (s.extract 0 (s.size - 4)) = s then s.extract 0 (s.size - 4) else sb []
def rgetE (s : ByteArray) : Int := if 4 ≤ s.size ∧ s.size ≤ 32772 ∧ rput (s.extract 0 (s.size - 4)) = s then 0 else if 32772 < s.size then 21 else 20
theorem bs_extract (s : ByteArray) (n : Nat) : bs (s.extract 0 n) = (bs s).take n := by simp [bs]
theorem getB_rput (s : ByteArray) : getB (bs s) ↔ (4 ≤ s.size ∧ s.size ≤ 32772 ∧ rput (s.extract 0 (s.size - 4)) = s) := by
  unfold getB
  rw [bs_length]
  refine and_congr_right fun h1 => and_congr_right fun h2 => ?_
  unfold rput
  rw [← bs_inj, bs_append, bs_sb, bs_extract, sum_eq]
  constructor
  · intro h
    rw [← h, List.take_append_drop]
  · intro h
    have := congrArg (List.drop (s.size - 4)) h
    rw [List.drop_left' (by rw [List.length_take, bs_length]; omega)] at this
    exact this.symm
theorem get_same (s : ByteArray) : sb (getL (bs s)) = rgetS s ∧ getE (bs s) = rgetE s := by
  unfold getL getE rgetS rgetE
  by_cases h : getB (bs s)
  · have h' := (getB_rput s).1 h
    rw [if_pos h, if_pos h', if_pos h, if_pos h', bs_length, ← bs_extract, sb_bs]
    exact ⟨rfl, rfl⟩
  · have h' := fun x => h ((getB_rput s).2 x)
    rw [if_neg h, if_neg h', if_neg h, if_neg h', bs_length]
    exact ⟨rfl, rfl⟩
theorem put_length (l : List UInt8) : (put l).length = l.length + 4 := by simp [put, le4]
theorem getB_put (l : List UInt8) (h : l.length ≤ 32768) : getB (put l) := by
  unfold getB
  rw [put_length]
  refine ⟨by omega, by omega, ?_⟩
  rw [show l.length + 4 - 4 = l.length by omega]
  unfold put
  rw [List.drop_left, List.take_left]
theorem getL_put (l : List UInt8) (h : l.length ≤ 32768) : getL (put l) = l ∧ getE (put l) = 0 := by
  unfold getL getE
  rw [if_pos (getB_put l h), if_pos (getB_put l h), put_length, show l.length + 4 - 4 = l.length by omega]
  exact ⟨by unfold put; rw [List.take_left], rfl⟩
theorem sb_put (s : ByteArray) : sb (put (bs s)) = rput s := by
  unfold rput put
  rw [sb_append, sb_bs, sum_eq]
theorem by_zeros {w : World} {base : Nat} {v : Value} {n m : Nat} (h : w.ownsRow base 5 1 v n (List.replicate n (.int .u8 0))) (hm : n = m) : By w v (List.replicate m 0) := by
  subst hm
  have e : (List.replicate n (0 : UInt8)).map b8 = List.replicate n (.int .u8 0) := by rw [List.map_replicate]; rfl
  unfold By
  rw [e, List.length_replicate]
  exact Sl.own h
end Go.Proofs.YtcbcelfgbelaoaaDoor

