/- The walks of package frame. -/
import Derived.Test.YtcbcelfgbelaoaaDoorRow
import Derived.Test.YtcbcelfgbelaoaaDoorRows
namespace Go.Proofs.YtcbcelfgbelaoaaDoor
open Go Go.RowKit
set_option linter.unusedVariables false
set_option linter.unusedSimpArgs false
theorem bits_u32 (op : BinOp) (a b : Int) : 0 ≤ bits op IntKind.u32 a b ∧ bits op IntKind.u32 a b < 4294967296 := by
  simp only [bits, IntKind.wrap, IntKind.bits, IntKind.signed]
  simp; omega
def stepN (v : Int) : Int := if bits BinOp.and IntKind.u32 v 1 = 1 then bits BinOp.xor IntKind.u32 (v / 2) 3988292384 else v / 2
def stepK : Nat → Int → Int
  | 0, v => v
  | k + 1, v => stepN (stepK k v)
theorem stepN_bd (v : Int) (h : 0 ≤ v ∧ v < 4294967296) : 0 ≤ stepN v ∧ stepN v < 4294967296 := by
  unfold stepN; split
  · exact bits_u32 _ _ _
  · omega
theorem stepK_bd (k : Nat) (v : Int) (h : 0 ≤ v ∧ v < 4294967296) : 0 ≤ stepK k v ∧ stepK k v < 4294967296 := by
  induction k with
  | zero => exact h
  | succ k ih => exact stepN_bd _ ih
/-- the table after k rounds -/
def tabA (k : Nat) : Array Value := ((List.range 16).map fun j => Value.int .u32 (if j < k then stepK 4 j else 0)).toArray
theorem tabA_size (k : Nat) : (tabA k).size = 16 := by simp [tabA]
theorem tabA_get (k i : Nat) (h : i < 16) : (tabA k)[i]? = some (.int .u32 (if i < k then stepK 4 i else 0)) := by
  simp [tabA, h]
theorem tabA_set (k : Nat) : (tabA k).setIfInBounds k (.int .u32 (stepK 4 k)) = tabA (k + 1) := by
  apply Array.ext_getElem?
  intro i
  rw [Array.getElem?_setIfInBounds]
  by_cases h : i < 16
  · rw [tabA_get _ _ h, tabA_get _ _ h, tabA_size]
    by_cases e : k = i
    · subst e; simp [h]
    · rw [if_neg e]
      by_cases e2 : i < k
      · rw [if_pos e2, if_pos (by omega)]
      · rw [if_neg e2, if_neg (by omega)]
  · have e1 : (tabA k)[i]? = none := by simp [tabA]; omega
    have e2 : (tabA (k + 1))[i]? = none := by simp [tabA]; omega
    rw [e1, e2, tabA_size]
    by_cases e : k = i
    · subst e; simp [h]
    · simp [e]
theorem tabA_one (k : Nat) : (tabA k).all (·.oneCell') = true := by
  simp [tabA, Value.oneCell']

theorem step_walk (v : Int) (w0 : World) (h : 0 ≤ v ∧ v < 4294967296) : Does Tryd.prog 54 #[.int .u32 v] w0 (fun r w' => r = .int .u32 (stepN v) ∧ w0 = w') := by
  refine fn_of (n := 11) (args := [.int .u32 v]) Tryd.func54 rfl rfl rfl ?_
  refine W_seq ?_
  refine W_region ?_
  refine L_run (.plain rfl) rfl rfl (r_assign (v := .int _ _) rfl) ?_
  refine L_nil ?_
  refine W_seq ?_
  refine W_seq ?_
  refine W_region ?_
  refine L_run (.plain rfl) rfl rfl (r_move (v := .int _ _) rfl) ?_
  refine L_run (.plain rfl) rfl rfl (r_and rfl rfl) ?_
  refine L_run (.plain rfl) rfl rfl (r_eql rfl rfl) ?_
  refine L_nil ?_
  refine W_if rfl (fun h5 => ?_) (fun h5 => ?_)
  · refine W_seq ?_
    refine W_region ?_
    refine L_run (.plain rfl) rfl rfl (r_move (v := .int _ _) rfl) ?_
    refine L_run (.plain rfl) rfl rfl (r_shrc (q := 2) rfl rfl (by omega) (by decide)) ?_
    refine L_run (.plain rfl) rfl rfl (r_xor rfl rfl) ?_
    refine L_run (.plain rfl) rfl rfl (r_assign (v := .int _ _) rfl) ?_
    refine L_nil ?_
    refine W_ret ?_
    refine ret1 (v := .int _ _) rfl rfl ?_
    refine ⟨?_, rfl⟩
    unfold stepN
    first | rw [if_pos (by assumption)] | rw [if_neg (by assumption)]
  · refine W_skip ?_
    refine W_seq ?_
    refine W_region ?_
    refine L_run (.plain rfl) rfl rfl (r_move (v := .int _ _) rfl) ?_
    refine L_run (.plain rfl) rfl rfl (r_shrc (q := 2) rfl rfl (by omega) (by decide)) ?_
    refine L_run (.plain rfl) rfl rfl (r_assign (v := .int _ _) rfl) ?_
    refine L_nil ?_
    refine W_ret ?_
    refine ret1 (v := .int _ _) rfl rfl ?_
    refine ⟨?_, rfl⟩
    unfold stepN
    first | rw [if_pos (by assumption)] | rw [if_neg (by assumption)]

theorem sums_walk  (w0 : World) : Does Tryd.prog 52 #[] w0 (fun r w' => r = .agg (tabA 16) ∧ Nw w0 w') := by
  refine fn_of (n := 21) (args := []) Tryd.func52 rfl rfl rfl ?_
  refine W_seq ?_
  refine W_region ?_
  refine L_new (.plain rfl) rfl rfl (r_alloca rfl) (fun w1 b0 hb0 eb1 hs1 c1 => ?_)
  refine L_nil ?_
  refine W_seq ?_
  refine W_region ?_
  refine L_run (.plain rfl) rfl rfl (r_assign (by conv => lhs; whnf)) ?_
  refine L_nil ?_
  refine W_seq ?_
  refine W_region ?_
  refine L_new (.plain rfl) rfl rfl (r_alloca rfl) (fun w2 b2 hb2 eb2 hs2 c2 => ?_)
  refine L_nil ?_
  refine W_seq ?_
  refine W_seq ?_
  refine W_region ?_
  refine L_run (.plain rfl) rfl rfl (r_move (v := .int _ _) rfl) ?_
  refine L_nil ?_
  refine W_block ?_
  refine W_loopF [0, 1, 2] (fun mz_ f W => ∃ (k : Nat), f 5 = .int .i64 k ∧ (k ≤ 16 ∧ Bk W b2 (tabA k) 79 ∧ Bk W b0 (tabA 0) 79 ∧ Nw w0 W) ∧ mz_ = 16 - k) ?_ ?_
  · refine ⟨_, 0, rfl, ?_, rfl⟩
    exact ⟨by omega, hb2, hb0.ch c2 not_no, c1.trans c2⟩
  rintro m0 g0 w3 ⟨k, hf5, hR0, rfl⟩
  refine W_as 5 hf5 rfl ?_
  clear hf5
  obtain ⟨hk, hbk, hbz, hnw⟩ := hR0
  refine W_seq ?_
  refine W_region ?_
  refine L_run (.plain rfl) rfl rfl (r_lss rfl rfl) ?_
  refine L_nil ?_
  refine W_seq ?_
  refine W_if rfl (fun h6 => ?_) (fun h6 => ?_)
  · refine W_skip ?_
    refine W_seq ?_
    refine W_block ?_
    refine W_seq ?_
    refine W_region ?_
    refine L_run (.plain rfl) rfl rfl (r_move (v := .int _ _) rfl) ?_
    refine L_run (.plain rfl) rfl rfl (r_assign (v := .int _ _) rfl) ?_
    refine L_nil ?_
    refine W_seq ?_
    refine W_region ?_
    refine L_run (.plain rfl) rfl rfl (r_move (v := .int _ _) rfl) ?_
    refine L_run (.plain rfl) rfl rfl (r_conv Tryd.underlying3 Tryd.underlying41 rfl (by first | exact wr_u32 (by omega) | rfl)) ?_
    refine L_run (.plain rfl) rfl rfl (r_assign (v := .int _ _) rfl) ?_
    refine L_nil ?_
    refine W_seq ?_
    refine W_seq ?_
    refine W_region ?_
    refine L_run (.plain rfl) rfl rfl (r_move (v := .int _ _) rfl) ?_
    refine L_nil ?_
    refine W_block ?_
    refine W_loopF [0, 1, 2, 3, 5] (fun mz_ f W => ∃ (q : Nat), f 4 = .int .u32 (stepK q k) ∧ f 10 = .int .i64 q ∧ (q ≤ 4 ∧ W = w3) ∧ mz_ = 4 - q) ?_ ?_
    · refine ⟨_, 0, rfl, rfl, ?_, rfl⟩
      exact ⟨by omega, rfl⟩
    rintro m1 g1 w4 ⟨q, hf4, hf10, hR1, rfl⟩
    refine W_as 4 hf4 rfl ?_
    refine W_as 10 hf10 rfl ?_
    clear hf4 hf10
    obtain ⟨hq, rfl⟩ := hR1
    have hbd := stepK_bd q k (by omega)
    refine W_seq ?_
    refine W_region ?_
    refine L_run (.plain rfl) rfl rfl (r_lss rfl rfl) ?_
    refine L_nil ?_
    refine W_seq ?_
    refine W_if rfl (fun h11 => ?_) (fun h11 => ?_)
    · refine W_skip ?_
      refine W_seq ?_
      refine W_block ?_
      refine W_region ?_
      refine L_run (.plain rfl) rfl rfl (r_move (by conv => lhs; whnf)) ?_
      refine L_run (.plain rfl) rfl rfl (r_move (v := .int _ _) rfl) ?_
      refine L_call (.plain rfl) rfl rfl (r_call Tryd.func54 rfl rfl rfl (by rfl)) (step_walk _ _ hbd) ?_
      rintro v14 w5 ⟨rfl, rfl⟩
      refine L_run (.plain rfl) rfl rfl (r_assign (v := .int _ _) rfl) ?_
      refine L_nil ?_
      refine W_region ?_
      refine L_run (.plain rfl) rfl rfl (r_add rfl rfl (by first | exact wr_i64 (by omega) | rfl)) ?_
      refine L_run (.plain rfl) rfl rfl (r_move (v := .int _ _) rfl) ?_
      refine L_nil ?_
      refine ⟨⟨rfl, rfl, rfl, rfl, rfl, trivial⟩, _, ?_, q + 1, rfl, rfl, ?_, rfl⟩
      · omega
      exact ⟨by omega, rfl⟩
    · refine W_exit ?_
      repeat (first | refine blk_hit ?_ | refine blk_miss rfl ?_)
      refine W_region ?_
      refine L_run (.plain rfl) rfl rfl (r_move (v := .int _ _) rfl) ?_
      obtain rfl : q = 4 := by omega
      refine L_run (.plain rfl) rfl rfl (r_move (v := .int _ _) rfl) ?_
      refine L_run (.plain rfl) rfl rfl (r_idxarr Tryd.underlying79 (show _ = some 1 from rfl) rfl rfl (by omega) (by omega) (by conv => lhs; (try simp only [Nat.mul_one, Nat.zero_add, Int.toNat_natCast, Int.toNat_zero, Int.reduceToNat, Nat.reduceMul, Nat.reduceAdd]))) ?_
      refine L_set (.plain rfl) rfl (by (exact Bk.to (by assumption) (by (repeat (first | exact Sm.refl _ _ | (refine Sm.stepT (by assumption) (by intro hlt hsm; (intro he; have he2 : _ = _ := he; omega)) ?_)))))) (r_store (v := .int _ _) rfl rfl rfl rfl (by (exact Bk.to (by assumption) (by (repeat (first | exact Sm.refl _ _ | (refine Sm.stepT (by assumption) (by intro hlt hsm; (intro he; have he2 : _ = _ := he; omega)) ?_)))))) (by rw [tabA_size]; omega)) (fun w6 hb6 hs6 c6 => ?_)
      try simp only [List.setIfInBounds_toArray, List.set_cons_zero, List.set_cons_succ] at hb6
      refine L_nil ?_
      refine W_region ?_
      refine L_run (.plain rfl) rfl rfl (r_add rfl rfl (by first | exact wr_i64 (by omega) | rfl)) ?_
      refine L_run (.plain rfl) rfl rfl (r_move (v := .int _ _) rfl) ?_
      refine L_nil ?_
      refine ⟨⟨rfl, rfl, rfl, trivial⟩, _, ?_, k + 1, rfl, ?_, rfl⟩
      · omega
      refine ⟨by omega, ?_, by (exact Bk.to (by assumption) (by (repeat (first | exact Sm.refl _ _ | (refine Sm.stepT (by assumption) (by intro hlt hsm; (intro he; have he2 : _ = _ := he; omega)) ?_))))), by (repeat (first | exact Ch.refl _ | assumption | (refine Ch.fresh ?_ (by assumption) (by intro i hi he; (exfalso; have he2 : i = _ := he; omega)))))⟩
      rw [← tabA_set]; (exact Bk.to (by assumption) (by (repeat (first | exact Sm.refl _ _ | (refine Sm.stepT (by assumption) (by intro hlt hsm; (intro he; have he2 : _ = _ := he; omega)) ?_)))))
  · refine W_exit ?_
    repeat (first | refine blk_hit ?_ | refine blk_miss rfl ?_)
    refine W_seq ?_
    refine W_region ?_
    refine L_run (.plain rfl) rfl rfl (r_loadrow Tryd.underlying79 rfl rfl (by (exact Bk.to (by assumption) (by (repeat (first | exact Sm.refl _ _ | (refine Sm.stepT (by assumption) (by intro hlt hsm; (intro he; have he2 : _ = _ := he; omega)) ?_)))))) (by rw [tabA_size]; rfl)) ?_
    obtain rfl : k = 16 := by omega
    refine L_storerow (.plain rfl) rfl rfl (by (exact Bk.to (by assumption) (by (repeat (first | exact Sm.refl _ _ | (refine Sm.stepT (by assumption) (by intro hlt hsm; (intro he; have he2 : _ = _ := he; omega)) ?_)))))) (by rw [tabA_size, tabA_size]) (by rw [tabA_size]; rfl) (by exact tabA_one 16) (fun w7 hb7 hs7 c7 => ?_)
    refine L_nil ?_
    refine W_ret ?_
    refine r_ret_row rfl rfl Tryd.underlying79 rfl (by (exact Bk.to (by assumption) (by (repeat (first | exact Sm.refl _ _ | (refine Sm.stepT (by assumption) (by intro hlt hsm; (intro he; have he2 : _ = _ := he; omega)) ?_)))))) (by rw [tabA_size]; rfl) ?_
    exact ⟨rfl, by (repeat (first | exact Ch.refl _ | assumption | (refine Ch.fresh ?_ (by assumption) (by intro i hi he; (exfalso; have he2 : i = _ := he; omega)))))⟩

theorem bv32 (op : BinOp) (a b : Int) : bits op .u32 a b = ((match op with
    | .and => BitVec.ofInt 32 a &&& BitVec.ofInt 32 b
    | .or => BitVec.ofInt 32 a ||| BitVec.ofInt 32 b
    | .xor => BitVec.ofInt 32 a ^^^ BitVec.ofInt 32 b
    | _ => BitVec.ofInt 32 a &&& ~~~BitVec.ofInt 32 b).toNat : Int) := by
  refine wr_u32 ?_
  have : ∀ x : BitVec 32, 0 ≤ (x.toNat : Int) ∧ (x.toNat : Int) ≤ 4294967295 := fun x => by have := x.isLt; omega
  exact this _
theorem bits_and15 (a : Int) : 0 ≤ bits .and .u32 a 15 ∧ bits .and .u32 a 15 < 16 := by
  rw [bv32]
  have : (BitVec.ofInt 32 a &&& BitVec.ofInt 32 15).toNat < 16 := by
    rw [BitVec.toNat_and]
    exact Nat.lt_of_le_of_lt Nat.and_le_right (by decide)
  simp only
  omega
def moreStep (s : Int) (c : UInt8) : Int :=
  bits .xor .u32 (bits .xor .u32 (s / 16) (stepK 4 (bits .and .u32 (bits .xor .u32 s c.toNat) 15)) / 16)
    (stepK 4 (bits .and .u32 (bits .xor .u32 (bits .xor .u32 (s / 16) (stepK 4 (bits .and .u32 (bits .xor .u32 s c.toNat) 15))) ((c.toNat : Int) / 16)) 15))
def com (a : Int) : Int := bits .xor .u32 (if IntKind.u32.signed then -1 else IntKind.u32.max) a
def more (s : Int) (l : List UInt8) : Int := com (l.foldl moreStep (com s))
theorem tabA_16 (i : Int) (h : 0 ≤ i ∧ i < 16) : (tabA 16)[i.toNat]? = some (.int .u32 (stepK 4 i)) := by
  rw [tabA_get 16 i.toNat (by omega), if_pos (by omega), show ((i.toNat : Nat) : Int) = i by omega]
theorem u8_bd (c : UInt8) : 0 ≤ (c.toNat : Int) ∧ (c.toNat : Int) ≤ 255 := by
  have := c.toNat_lt; omega
theorem u32_bd (op : BinOp) (a b : Int) : 0 ≤ bits op IntKind.u32 a b ∧ bits op IntKind.u32 a b ≤ 4294967295 := by
  have := bits_u32 op a b; omega

theorem more_walk (s : Int) (v : Value) (l : List UInt8) (w0 : World) (hv : By w0 v l) (hl : l.length ≤ 9223372036854775806) : Does Tryd.prog 46 #[.int .u32 s, v] w0 (fun r w' => r = .int .u32 (more s l) ∧ Nw w0 w') := by
  refine fn_of (n := 42) (args := [.int .u32 s, v]) Tryd.func46 rfl rfl rfl ?_
  refine W_seq ?_
  refine W_region ?_
  refine L_run (.plain rfl) rfl rfl (r_assign (v := .int _ _) rfl) ?_
  refine L_nil ?_
  refine W_seq ?_
  refine W_region ?_
  refine L_call (.plain rfl) rfl rfl (r_call Tryd.func52 rfl rfl rfl (by rfl)) (sums_walk _) ?_
  rintro v9 w1 ⟨rfl, c1⟩
  have hz1 := c1.size
  refine L_new (.plain rfl) rfl rfl (r_alloca rfl) (fun w2 b5 hb5 eb2 hs2 c2 => ?_)
  refine L_storerow (.plain rfl) rfl rfl (by (exact Bk.to (by assumption) (by (repeat (first | exact Sm.refl _ _ | (refine Sm.stepT (by assumption) (by intro hlt hsm; first | exact not_no | (intro he; have he2 : _ = _ := he; omega)) ?_)))))) (by rfl) (by rfl) (by exact tabA_one 16) (fun w3 hb3 hs3 c3 => ?_)
  refine L_nil ?_
  refine W_seq ?_
  refine W_region ?_
  refine L_run (.plain rfl) rfl rfl (r_move (v := .int _ _) rfl) ?_
  refine L_run (.plain rfl) rfl rfl (r_com rfl) ?_
  refine L_run (.plain rfl) rfl rfl (r_assign (v := .int _ _) rfl) ?_
  refine L_nil ?_
  refine W_seq ?_
  refine W_seq ?_
  refine W_region ?_
  refine L_run (.plain rfl) rfl rfl (r_move (by conv => lhs; whnf)) ?_
  refine L_run (.plain rfl) rfl rfl (r_lenSl Tryd.underlying26 (by conv => lhs; whnf) (by (exact Sl.to (by first | assumption | exact Sl.own (by assumption) | exact Mu.sl (by assumption) | exact Ow.sl (by assumption)) (fun i hi => by (repeat (first | exact Sm.refl _ _ | (refine Sm.stepT (by assumption) (by intro hlt hsm; first | exact not_no | (intro he; have he2 : _ = _ := he; omega)) ?_))))))) ?_
  refine L_run (.plain rfl) rfl rfl (r_move (v := .int _ _) rfl) ?_
  refine L_nil ?_
  refine W_block ?_
  refine W_loopF [5, 12, 13] (fun mz_ f W => ∃ (k : Nat), f 6 = .int .u32 ((l.take k).foldl moreStep (com s)) ∧ f 14 = .int .i64 k ∧ (k ≤ l.length ∧ W = w3) ∧ mz_ = l.length - k) ?_ ?_
  · refine ⟨_, 0, rfl, rfl, ?_, rfl⟩
    exact ⟨by omega, rfl⟩
  rintro m0 g0 w4 ⟨k, hf6, hf14, hR0, rfl⟩
  refine W_as 6 hf6 rfl ?_
  refine W_as 14 hf14 rfl ?_
  clear hf6 hf14
  obtain ⟨hk, rfl⟩ := hR0
  refine W_seq ?_
  refine W_region ?_
  refine L_run (.plain rfl) rfl rfl (r_lss rfl rfl) ?_
  refine L_nil ?_
  refine W_seq ?_
  refine W_if rfl (fun h15 => ?_) (fun h15 => ?_)
  · have hlt : k < l.length := by omega
    have hb8 := u8_bd l[k]
    refine W_skip ?_
    refine W_seq ?_
    refine W_block ?_
    refine W_seq ?_
    refine W_region ?_
    refine L_run (.plain rfl) rfl rfl (r_idxSl Tryd.underlying26 (show _ = some 1 from rfl) (by conv => lhs; whnf) rfl (by (exact Sl.to (by first | assumption | exact Sl.own (by assumption) | exact Mu.sl (by assumption) | exact Ow.sl (by assumption)) (fun i hi => by (repeat (first | exact Sm.refl _ _ | (refine Sm.stepT (by assumption) (by intro hlt hsm; first | exact not_no | (intro he; have he2 : _ = _ := he; omega)) ?_)))))) (by first | omega | exact (bits_and15 _).1 | exact (bits_and15 _).2) (by first | omega | exact (bits_and15 _).1 | exact (bits_and15 _).2) (by conv => lhs; (try simp only [Nat.mul_one, Nat.zero_add, Int.toNat_natCast, Int.toNat_zero, Int.reduceToNat, Nat.reduceMul, Nat.reduceAdd]))) ?_
    refine L_run (.plain rfl) rfl rfl (r_loadSl rfl rfl (by (exact Sl.to (by first | assumption | exact Sl.own (by assumption) | exact Mu.sl (by assumption) | exact Ow.sl (by assumption)) (fun i hi => by (repeat (first | exact Sm.refl _ _ | (refine Sm.stepT (by assumption) (by intro hlt hsm; first | exact not_no | (intro he; have he2 : _ = _ := he; omega)) ?_)))))) (by exact (by rw [List.getElem?_map, List.getElem?_eq_getElem hlt]; rfl))) ?_
    refine L_run (.plain rfl) rfl rfl (r_assign (v := .int _ _) rfl) ?_
    refine L_nil ?_
    refine W_seq ?_
    refine W_region ?_
    refine L_run (.plain rfl) rfl rfl (r_move (v := .int _ _) rfl) ?_
    refine L_run (.plain rfl) rfl rfl (r_shrc (q := 16) rfl rfl (by omega) (by decide)) ?_
    refine L_run (.plain rfl) rfl rfl (r_move (v := .int _ _) rfl) ?_
    refine L_run (.plain rfl) rfl rfl (r_move (v := .int _ _) rfl) ?_
    refine L_run (.plain rfl) rfl rfl (r_conv Tryd.underlying5 Tryd.underlying41 rfl (by first | exact wr_u32 (by omega) | rfl)) ?_
    refine L_run (.plain rfl) rfl rfl (r_xor rfl rfl) ?_
    refine L_run (.plain rfl) rfl rfl (r_and rfl rfl) ?_
    refine L_run (.plain rfl) rfl rfl (r_idxarr Tryd.underlying79 (show _ = some 1 from rfl) rfl rfl (by first | omega | exact (bits_and15 _).1 | exact (bits_and15 _).2) (by first | omega | exact (bits_and15 _).1 | exact (bits_and15 _).2) (by conv => lhs; (try simp only [Nat.mul_one, Nat.zero_add, Int.toNat_natCast, Int.toNat_zero, Int.reduceToNat, Nat.reduceMul, Nat.reduceAdd]))) ?_
    refine L_run (.plain rfl) rfl rfl (r_loadb rfl rfl (by (exact Bk.to (by assumption) (by (repeat (first | exact Sm.refl _ _ | (refine Sm.stepT (by assumption) (by intro hlt hsm; first | exact not_no | (intro he; have he2 : _ = _ := he; omega)) ?_)))))) (by exact tabA_16 _ (bits_and15 _))) ?_
    refine L_run (.plain rfl) rfl rfl (r_xor rfl rfl) ?_
    refine L_run (.plain rfl) rfl rfl (r_assign (v := .int _ _) rfl) ?_
    refine L_nil ?_
    refine W_region ?_
    refine L_run (.plain rfl) rfl rfl (r_move (v := .int _ _) rfl) ?_
    refine L_run (.plain rfl) rfl rfl (r_shrc (q := 16) rfl rfl (by omega) (by decide)) ?_
    refine L_run (.plain rfl) rfl rfl (r_move (v := .int _ _) rfl) ?_
    refine L_run (.plain rfl) rfl rfl (r_move (v := .int _ _) rfl) ?_
    refine L_run (.plain rfl) rfl rfl (r_shrc (q := 16) rfl rfl (by omega) (by decide)) ?_
    refine L_run (.plain rfl) rfl rfl (r_conv Tryd.underlying5 Tryd.underlying41 rfl (by first | exact wr_u32 (by omega) | rfl)) ?_
    refine L_run (.plain rfl) rfl rfl (r_xor rfl rfl) ?_
    refine L_run (.plain rfl) rfl rfl (r_and rfl rfl) ?_
    refine L_run (.plain rfl) rfl rfl (r_idxarr Tryd.underlying79 (show _ = some 1 from rfl) rfl rfl (by first | omega | exact (bits_and15 _).1 | exact (bits_and15 _).2) (by first | omega | exact (bits_and15 _).1 | exact (bits_and15 _).2) (by conv => lhs; (try simp only [Nat.mul_one, Nat.zero_add, Int.toNat_natCast, Int.toNat_zero, Int.reduceToNat, Nat.reduceMul, Nat.reduceAdd]))) ?_
    refine L_run (.plain rfl) rfl rfl (r_loadb rfl rfl (by (exact Bk.to (by assumption) (by (repeat (first | exact Sm.refl _ _ | (refine Sm.stepT (by assumption) (by intro hlt hsm; first | exact not_no | (intro he; have he2 : _ = _ := he; omega)) ?_)))))) (by exact tabA_16 _ (bits_and15 _))) ?_
    refine L_run (.plain rfl) rfl rfl (r_xor rfl rfl) ?_
    refine L_run (.plain rfl) rfl rfl (r_assign (v := .int _ _) rfl) ?_
    refine L_nil ?_
    refine W_region ?_
    refine L_run (.plain rfl) rfl rfl (r_add rfl rfl (by first | exact wr_i64 (by omega) | rfl)) ?_
    refine L_run (.plain rfl) rfl rfl (r_move (v := .int _ _) rfl) ?_
    refine L_nil ?_
    refine ⟨⟨rfl, rfl, rfl, trivial⟩, _, ?_, k + 1, (by conv => {lhs; whnf}; rw [List.take_add_one, List.getElem?_eq_getElem hlt, List.foldl_append]; simp only [Option.toList_some, List.foldl_cons, List.foldl_nil, moreStep]), rfl, ?_, rfl⟩
    · omega
    exact ⟨by omega, rfl⟩
  · refine W_exit ?_
    repeat (first | refine blk_hit ?_ | refine blk_miss rfl ?_)
    refine W_seq ?_
    refine W_region ?_
    obtain rfl : k = l.length := by omega
    refine L_run (.plain rfl) rfl rfl (r_move (v := .int _ _) rfl) ?_
    refine L_run (.plain rfl) rfl rfl (r_com rfl) ?_
    refine L_run (.plain rfl) rfl rfl (r_assign (v := .int _ _) rfl) ?_
    refine L_nil ?_
    refine W_ret ?_
    refine ret1 (v := .int _ _) rfl rfl ?_
    refine ⟨?_, by (repeat (first | exact Ch.refl _ | assumption | (refine Ch.fresh ?_ (by assumption) (by intro i hi he; first | exact he | (exfalso; have he2 : i = _ := he; omega)))))⟩
    rw [List.take_length]; rfl

theorem sum_walk (v : Value) (l : List UInt8) (w0 : World) (hv : By w0 v l) (hl : l.length ≤ 9223372036854775806) : Does Tryd.prog 36 #[v] w0 (fun r w' => r = .int .u32 (more 0 l) ∧ Nw w0 w') := by
  refine fn_of (n := 5) (args := [v]) Tryd.func36 rfl rfl rfl ?_
  refine W_seq ?_
  refine W_region ?_
  refine L_run (.plain rfl) rfl rfl (r_assign (v := .int _ _) rfl) ?_
  refine L_nil ?_
  refine W_seq ?_
  refine W_region ?_
  refine L_run (.plain rfl) rfl rfl (r_move (by conv => lhs; whnf)) ?_
  refine L_call (.plain rfl) rfl rfl (r_call Tryd.func46 rfl rfl rfl (by rfl)) (more_walk 0 v l _ (by (exact Sl.to (by first | assumption | exact Sl.own (by assumption) | exact Mu.sl (by assumption) | exact Ow.sl (by assumption)) (fun i hi => by (repeat (first | exact Sm.refl _ _ | (refine Sm.stepT (by assumption) (by intro hlt hsm; exact not_no) ?_)))))) hl) ?_
  rintro v4 w1 ⟨rfl, c1⟩
  have hz1 := c1.size
  refine L_run (.plain rfl) rfl rfl (r_assign (v := .int _ _) rfl) ?_
  refine L_nil ?_
  refine W_ret ?_
  refine ret1 (v := .int _ _) rfl rfl ?_
  exact ⟨rfl, by (repeat (first | exact Ch.refl _ | assumption | (refine Ch.fresh ?_ (by assumption) (by intro i hi he; exact (not_no he).elim))))⟩
/-- What is turned, up to a byte. -/
def turnK (k : Nat) (l : List UInt8) (a : Int) (by_ : List UInt8) : List UInt8 :=
  l.mapIdx fun i c => if i < k ∧ a ≤ i ∧ i - a < by_.length then c ^^^ by_.getD (i - a).toNat 0 else c
def turn (l : List UInt8) (a : Int) (by_ : List UInt8) : List UInt8 := turnK l.length l a by_
theorem turnK_length (k : Nat) (l : List UInt8) (a : Int) (by_ : List UInt8) : (turnK k l a by_).length = l.length := by simp [turnK]
theorem turnK_get (k : Nat) (l : List UInt8) (a : Int) (by_ : List UInt8) (i : Nat) (h : i < l.length) : (turnK k l a by_)[i]? = some (if i < k ∧ a ≤ i ∧ i - a < by_.length then l[i] ^^^ by_.getD (i - a).toNat 0 else l[i]) := by
  simp [turnK, h]
theorem turnK_zero (l : List UInt8) (a : Int) (by_ : List UInt8) : turnK 0 l a by_ = l := by
  apply List.ext_getElem?
  intro i
  by_cases h : i < l.length
  · rw [turnK_get _ _ _ _ _ h, if_neg (by omega), List.getElem?_eq_getElem h]
  · rw [List.getElem?_eq_none (by rw [turnK_length]; omega), List.getElem?_eq_none (by omega)]
theorem turnK_skip (k : Nat) (l : List UInt8) (a : Int) (by_ : List UInt8) (h : ¬ (a ≤ k ∧ k - a < by_.length)) : turnK (k + 1) l a by_ = turnK k l a by_ := by
  apply List.ext_getElem?
  intro i
  by_cases h : i < l.length
  · rw [turnK_get _ _ _ _ _ h, turnK_get _ _ _ _ _ h]
    by_cases e : i = k
    · subst e; rw [if_neg (by omega), if_neg (by omega)]
    · by_cases e2 : i < k ∧ a ≤ i ∧ i - a < by_.length
      · rw [if_pos e2, if_pos (by omega)]
      · rw [if_neg e2, if_neg (by omega)]
  · rw [List.getElem?_eq_none (by rw [turnK_length]; omega), List.getElem?_eq_none (by rw [turnK_length]; omega)]
theorem turnK_step (k : Nat) (l : List UInt8) (a : Int) (by_ : List UInt8) (h : a ≤ k ∧ k - a < by_.length) (hk : k < l.length) : turnK (k + 1) l a by_ = (turnK k l a by_).set k (l[k] ^^^ by_.getD (k - a).toNat 0) := by
  apply List.ext_getElem?
  intro i
  rw [List.getElem?_set]
  by_cases h : i < l.length
  · rw [turnK_get _ _ _ _ _ h, turnK_get _ _ _ _ _ h, turnK_length]
    by_cases e : k = i
    · subst e; rw [if_pos rfl, if_pos hk, if_pos (by omega)]
    · rw [if_neg e]
      by_cases e2 : i < k ∧ a ≤ i ∧ i - a < by_.length
      · rw [if_pos e2, if_pos (by omega)]
      · rw [if_neg e2, if_neg (by omega)]
  · rw [List.getElem?_eq_none (by rw [turnK_length]; omega), if_neg (by omega), List.getElem?_eq_none (by rw [turnK_length]; omega)]
theorem b8_xor (a b : UInt8) : bits .xor .u8 a.toNat b.toNat = ((a ^^^ b).toNat : Int) := by
  have h : bits .xor .u8 a.toNat b.toNat = ((BitVec.ofInt 8 a.toNat ^^^ BitVec.ofInt 8 b.toNat).toNat : Int) := by
    refine wr_u8 ?_
    have : ∀ x : BitVec 8, 0 ≤ (x.toNat : Int) ∧ (x.toNat : Int) ≤ 255 := fun x => by have := x.isLt; omega
    exact this _
  rw [h]
  congr 1
  rw [BitVec.toNat_xor, UInt8.toNat_xor]
  simp
theorem turnK_at (k : Nat) (l : List UInt8) (a : Int) (by_ : List UInt8) (h : k < l.length) : (turnK k l a by_).getD k 0 = l[k] := by
  rw [List.getD_eq_getElem?_getD, turnK_get _ _ _ _ _ h, if_neg (by omega)]; rfl
theorem bytes_info : (Tryd.prog.info? 5).map (fun i => (i.zero, i.size, i.bytes)) = some (some (.int .u8 0), 1, 1) := rfl


def u8w (x : Int) : UInt8 := UInt8.ofNat (x % 256).toNat
theorem u8w_val (x : Int) : Value.int .u8 (IntKind.u8.wrap x) = b8 (u8w x) := by
  have h : IntKind.u8.wrap x = x % 256 := by simp [IntKind.wrap, IntKind.bits, IntKind.signed]
  unfold b8 u8w
  rw [h]
  congr 1
  simp
  omega
def le4 (s : Int) : List UInt8 := [u8w s, u8w (s / 256), u8w (s / 65536), u8w (s / 16777216)]
theorem le4_val (s : Int) : [Value.int .u8 (IntKind.u8.wrap s), .int .u8 (IntKind.u8.wrap (s / 256)), .int .u8 (IntKind.u8.wrap (s / 65536)), .int .u8 (IntKind.u8.wrap (s / 16777216))] = (le4 s).map b8 := by
  simp only [u8w_val]; rfl
def put (l : List UInt8) : List UInt8 := l ++ le4 (more 0 l)

theorem put_walk (v : Value) (l : List UInt8) (w0 : World) (hv : By w0 v l) (hl : l.length ≤ 32768) : Does Tryd.prog 21 #[v] w0 (fun r w' => ∃ v', r = .tuple #[v', .int .i64 0] ∧ w'.ownsRow w0.heap.size 5 1 v' (l.length + 4) ((put l).map b8) ∧ Nw w0 w') := by
  refine fn_of (n := 29) (args := [v]) Tryd.func21 rfl rfl rfl ?_
  refine W_seq ?_
  refine W_region ?_
  refine L_run (.plain rfl) rfl rfl (r_assign (by conv => lhs; whnf)) ?_
  refine L_run (.plain rfl) rfl rfl (r_assign (v := .int _ _) rfl) ?_
  refine L_nil ?_
  refine W_seq ?_
  refine W_seq ?_
  refine W_region ?_
  refine L_run (.plain rfl) rfl rfl (r_move (by conv => lhs; whnf)) ?_
  refine L_run (.plain rfl) rfl rfl (r_lenSl Tryd.underlying26 (by conv => lhs; whnf) (by (exact Sl.to (by first | assumption | exact Sl.own (by assumption) | exact Mu.sl (by assumption) | exact Ow.sl (by assumption)) (fun i hi => by (repeat (first | exact Sm.refl _ _ | (refine Sm.stepT (by assumption) (by intro hlt hsm; exact not_no) ?_))))))) ?_
  refine L_run (.plain rfl) rfl rfl (r_gtr rfl rfl) ?_
  refine L_nil ?_
  refine W_if rfl (fun h7 => ?_) (fun h7 => ?_)
  · omega
  · refine W_skip ?_
    refine W_seq ?_
    refine W_region ?_
    refine L_run (.plain rfl) rfl rfl (r_move (by conv => lhs; whnf)) ?_
    refine L_call (.plain rfl) rfl rfl (r_call Tryd.func36 rfl rfl rfl (by rfl)) (sum_walk v l _ (by (exact Sl.to (by first | assumption | exact Sl.own (by assumption) | exact Mu.sl (by assumption) | exact Ow.sl (by assumption)) (fun i hi => by (repeat (first | exact Sm.refl _ _ | (refine Sm.stepT (by assumption) (by intro hlt hsm; exact not_no) ?_)))))) (by omega)) ?_
    rintro v9 w1 ⟨rfl, c1⟩
    have hz1 := c1.size
    refine L_run (.plain rfl) rfl rfl (r_assign (v := .int _ _) rfl) ?_
    refine L_nil ?_
    refine W_seq ?_
    refine W_region ?_
    refine L_run (.plain rfl) rfl rfl (r_move (by conv => lhs; whnf)) ?_
    refine L_run (.plain rfl) rfl rfl (r_move (by conv => lhs; whnf)) ?_
    refine L_run (.plain rfl) rfl rfl (r_lenSl Tryd.underlying26 (by conv => lhs; whnf) (by (exact Sl.to (by first | assumption | exact Sl.own (by assumption) | exact Mu.sl (by assumption) | exact Ow.sl (by assumption)) (fun i hi => by (repeat (first | exact Sm.refl _ _ | (refine Sm.stepT (by assumption) (by intro hlt hsm; exact not_no) ?_))))))) ?_
    refine L_run (.plain rfl) rfl rfl (r_move (by conv => lhs; whnf)) ?_
    refine L_run (.plain rfl) rfl rfl (r_lenSl Tryd.underlying26 (by conv => lhs; whnf) (by (exact Sl.to (by first | assumption | exact Sl.own (by assumption) | exact Mu.sl (by assumption) | exact Ow.sl (by assumption)) (fun i hi => by (repeat (first | exact Sm.refl _ _ | (refine Sm.stepT (by assumption) (by intro hlt hsm; exact not_no) ?_))))))) ?_
    refine L_pure (.plain rfl) rfl rfl (cut_hm (w := w1) Tryd.underlying26 (show _ = some 1 from rfl) (by conv => lhs; whnf) (by (exact Sl.to (by first | assumption | exact Sl.own (by assumption) | exact Mu.sl (by assumption) | exact Ow.sl (by assumption)) (fun i hi => by (repeat (first | exact Sm.refl _ _ | (refine Sm.stepT (by assumption) (by intro hlt hsm; exact not_no) ?_)))))) rfl rfl (by omega) (by omega) (by omega)) ?_
    rintro v15 ⟨hA15, hv15, ho15⟩
    refine L_run (.plain rfl) rfl rfl (r_move (v := .int _ _) rfl) ?_
    refine L_run (.plain rfl) rfl rfl (r_conv Tryd.underlying41 Tryd.underlying5 rfl (by first | exact wr_u8 (by omega) | rfl)) ?_
    refine L_run (.plain rfl) rfl rfl (r_move (v := .int _ _) rfl) ?_
    refine L_run (.plain rfl) rfl rfl (r_shrc (q := 256) rfl rfl (by omega) (by decide)) ?_
    refine L_run (.plain rfl) rfl rfl (r_conv Tryd.underlying41 Tryd.underlying5 rfl (by first | exact wr_u8 (by omega) | rfl)) ?_
    refine L_run (.plain rfl) rfl rfl (r_move (v := .int _ _) rfl) ?_
    refine L_run (.plain rfl) rfl rfl (r_shrc (q := 65536) rfl rfl (by omega) (by decide)) ?_
    refine L_run (.plain rfl) rfl rfl (r_conv Tryd.underlying41 Tryd.underlying5 rfl (by first | exact wr_u8 (by omega) | rfl)) ?_
    refine L_run (.plain rfl) rfl rfl (r_move (v := .int _ _) rfl) ?_
    refine L_run (.plain rfl) rfl rfl (r_shrc (q := 16777216) rfl rfl (by omega) (by decide)) ?_
    refine L_run (.plain rfl) rfl rfl (r_conv Tryd.underlying41 Tryd.underlying5 rfl (by first | exact wr_u8 (by omega) | rfl)) ?_
    refine L_build1 [.int _ _, .int _ _, .int _ _, .int _ _] Tryd.underlying26 rfl rfl rfl (.plain rfl) rfl (by rfl) (by rfl) (by rfl) (fun b27 w2 hb27 hv27 eb2 hs2 c2 => ?_)
    obtain ⟨A15, rfl⟩ := hA15
    refine L_apfull Tryd.underlying26 bytes_info rfl (by decide) (by decide) (.plain rfl) rfl rfl rfl (by (exact Sl.to (by first | assumption | exact Sl.own (by assumption) | exact Mu.sl (by assumption) | exact Ow.sl (by assumption)) (fun i hi => by (repeat (first | exact Sm.refl _ _ | (refine Sm.stepT (by assumption) (by intro hlt hsm; exact not_no) ?_)))))) (by simp) (by (exact Sl.to (by first | assumption | exact Sl.own (by assumption) | exact Mu.sl (by assumption) | exact Ow.sl (by assumption)) (fun i hi => by (repeat (first | exact Sm.refl _ _ | (refine Sm.stepT (by assumption) (by intro hlt hsm; exact not_no) ?_)))))) (by decide) (by rw [List.take_of_length_le (by simp)]; exact b8_oneCell l) (by rw [le4_val]; exact b8_oneCell _) (by unfold maxLen; simp; omega) (by simp; omega) (fun v28 w3 ho28 c3 => ?_)
    refine L_run (.plain rfl) rfl rfl (r_assign (by conv => lhs; whnf)) ?_
    refine L_run (.plain rfl) rfl rfl (r_assign (v := .int _ _) rfl) ?_
    refine L_nil ?_
    refine W_ret ?_
    refine ret2 (v := .int _ _) rfl (by conv => lhs; whnf) rfl ?_
    refine ⟨v28, rfl, ?_, by (repeat (first | exact Ch.refl _ | assumption | (refine Ch.fresh ?_ (by assumption) (by intro i hi he; exact he))))⟩
    have h := own_mono (b := w0.heap.size) ho28 (by omega)
    rw [le4_val, List.take_of_length_le (by simp), ← List.map_append] at h
    simpa [put] using h
theorem put_long (v : Value) (l : List UInt8) (w0 : World) (hv : By w0 v l) (hl : 32768 < l.length) (hl2 : l.length ≤ 9223372036854775806) : Does Tryd.prog 21 #[v] w0 (fun r w' => r = .tuple #[.slice none 0 0, .int .i64 21] ∧ w0 = w') := by
  refine fn_of (n := 29) (args := [v]) Tryd.func21 rfl rfl rfl ?_
  refine W_seq ?_
  refine W_region ?_
  refine L_run (.plain rfl) rfl rfl (r_assign (by conv => lhs; whnf)) ?_
  refine L_run (.plain rfl) rfl rfl (r_assign (v := .int _ _) rfl) ?_
  refine L_nil ?_
  refine W_seq ?_
  refine W_seq ?_
  refine W_region ?_
  refine L_run (.plain rfl) rfl rfl (r_move (by conv => lhs; whnf)) ?_
  refine L_run (.plain rfl) rfl rfl (r_lenSl Tryd.underlying26 (by conv => lhs; whnf) (by (exact Sl.to (by first | assumption | exact Sl.own (by assumption) | exact Mu.sl (by assumption) | exact Ow.sl (by assumption)) (fun i hi => by (repeat (first | exact Sm.refl _ _ | (refine Sm.stepT (by assumption) (by intro hlt hsm; exact not_no) ?_))))))) ?_
  refine L_run (.plain rfl) rfl rfl (r_gtr rfl rfl) ?_
  refine L_nil ?_
  refine W_if rfl (fun h7 => ?_) (fun h7 => ?_)
  · refine W_seq ?_
    refine W_region ?_
    refine L_run (.plain rfl) rfl rfl (r_assign (by conv => lhs; whnf)) ?_
    refine L_run (.plain rfl) rfl rfl (r_assign (v := .int _ _) rfl) ?_
    refine L_nil ?_
    refine W_ret ?_
    refine ret2 (v := .int _ _) rfl (by conv => lhs; whnf) rfl ?_
    exact ⟨rfl, rfl⟩
  · omega

/-- The bytes ahead of a sum that is theirs, if it is. -/
def getB (l : List UInt8) : Prop := 4 ≤ l.length ∧ l.length ≤ 32772 ∧ l.drop (l.length - 4) = le4 (more 0 (l.take (l.length - 4)))
instance (l : List UInt8) : Decidable (getB l) := by unfold getB; infer_instance
theorem le4_drop (l : List UInt8) (m : Nat) (hm : m + 4 = l.length) (s : Int) : l.drop m = le4 s ↔ (l.getD m 0 = u8w s ∧ l.getD (m + 1) 0 = u8w (s / 256) ∧ l.getD (m + 2) 0 = u8w (s / 65536) ∧ l.getD (m + 3) 0 = u8w (s / 16777216)) := by
  have e : l.drop m = [l.getD m 0, l.getD (m + 1) 0, l.getD (m + 2) 0, l.getD (m + 3) 0] := by
    apply List.ext_getElem?
    intro i
    rw [List.getElem?_drop]
    rcases i with _ | _ | _ | _ | i
    · simp [List.getD, show m < l.length by omega]
    · simp [List.getD, show m + 1 < l.length by omega]
    · simp [List.getD, show m + 2 < l.length by omega]
    · simp [List.getD, show m + 3 < l.length by omega]
    · rw [List.getElem?_eq_none (by omega)]; simp
  rw [e]; simp [le4]
theorem u8_eq (a : UInt8) (x : Int) : ((a.toNat : Int) = IntKind.u8.wrap x) ↔ a = u8w x := by
  have h : IntKind.u8.wrap x = x % 256 := by simp [IntKind.wrap, IntKind.bits, IntKind.signed]
  rw [h]
  unfold u8w
  constructor
  · intro h2
    apply UInt8.toNat_inj.1
    simp
    omega
  · rintro rfl
    simp
    omega

theorem get_key (l : List UInt8) (hl : 4 ≤ l.length) (hl2 : l.length ≤ 32772) : getB l ↔
    (((l.getD (l.length - 4 : Int).toNat 0).toNat : Int) = IntKind.u8.wrap (more 0 (List.take (l.length - 4) l)) ∧
     ((l.getD (l.length - 4 + 1 : Int).toNat 0).toNat : Int) = IntKind.u8.wrap (more 0 (List.take (l.length - 4) l) / 256) ∧
     ((l.getD (l.length - 4 + 2 : Int).toNat 0).toNat : Int) = IntKind.u8.wrap (more 0 (List.take (l.length - 4) l) / 65536) ∧
     ((l.getD (l.length - 4 + 3 : Int).toNat 0).toNat : Int) = IntKind.u8.wrap (more 0 (List.take (l.length - 4) l) / 16777216)) := by
  unfold getB
  rw [le4_drop l (l.length - 4) (by omega), u8_eq, u8_eq, u8_eq, u8_eq, show (l.length - 4 : Int).toNat = l.length - 4 by omega, show (l.length - 4 + 1 : Int).toNat = l.length - 4 + 1 by omega, show (l.length - 4 + 2 : Int).toNat = l.length - 4 + 2 by omega, show (l.length - 4 + 3 : Int).toNat = l.length - 4 + 3 by omega]
  exact ⟨fun h => h.2.2, fun h => ⟨hl, hl2, h⟩⟩
theorem by_take {w : World} {v v' : Value} {l : List UInt8} {j : Nat} (hj : j ≤ l.length) (h : Sl w v' 1 j ((l.map b8).take (j * 1))) : By w v' (l.take j) := by
  have e : (l.take j).length = j := by simp; omega
  unfold By
  rw [e, List.map_take]
  simpa using h

theorem get_walk (v : Value) (l : List UInt8) (w0 : World) (hv : By w0 v l) (hl : 4 ≤ l.length) (hl2 : l.length ≤ 32772) : Does Tryd.prog 25 #[v] w0 (fun r w' => (getB l → ∃ v', r = .tuple #[v', .int .i64 0] ∧ w'.ownsRow w0.heap.size 5 1 v' (l.length - 4) ((l.take (l.length - 4)).map b8)) ∧ (¬ getB l → r = .tuple #[.slice none 0 0, .int .i64 20]) ∧ Nw w0 w') := by
  refine fn_of (n := 63) (args := [v]) Tryd.func25 rfl rfl rfl ?_
  refine W_seq ?_
  refine W_region ?_
  refine L_run (.plain rfl) rfl rfl (r_assign (by conv => lhs; whnf)) ?_
  refine L_run (.plain rfl) rfl rfl (r_assign (v := .int _ _) rfl) ?_
  refine L_nil ?_
  refine W_seq ?_
  refine W_region ?_
  refine L_run (.plain rfl) rfl rfl (r_move (by conv => lhs; whnf)) ?_
  refine L_run (.plain rfl) rfl rfl (r_lenSl Tryd.underlying26 (by conv => lhs; whnf) (by (exact Sl.to (by first | assumption | exact Sl.own (by assumption) | exact Mu.sl (by assumption) | exact Ow.sl (by assumption)) (fun i hi => by (repeat (first | exact Sm.refl _ _ | (refine Sm.stepT (by assumption) (by intro hlt hsm; exact not_no) ?_))))))) ?_
  refine L_run (.plain rfl) rfl rfl (r_sub rfl rfl (by first | exact wr_i64 (by omega) | rfl)) ?_
  refine L_run (.plain rfl) rfl rfl (r_assign (v := .int _ _) rfl) ?_
  refine L_nil ?_
  refine W_seq ?_
  refine W_block ?_
  refine W_seq ?_
  refine W_region ?_
  refine L_run (.plain rfl) rfl rfl (r_move (v := .int _ _) rfl) ?_
  refine L_run (.plain rfl) rfl rfl (r_gtr rfl rfl) ?_
  refine L_run (.plain rfl) rfl rfl (r_assign (v := .bool _) rfl) ?_
  refine L_nil ?_
  refine W_if rfl (fun h9 => ?_) (fun h9 => ?_)
  · omega
  · refine W_seq ?_
    refine W_region ?_
    refine L_run (.plain rfl) rfl rfl (r_move (v := .int _ _) rfl) ?_
    refine L_run (.plain rfl) rfl rfl (r_lss rfl rfl) ?_
    refine L_run (.plain rfl) rfl rfl (r_assign (v := .bool _) rfl) ?_
    refine L_nil ?_
    refine W_if rfl (fun h12 => ?_) (fun h12 => ?_)
    · omega
    · refine W_skip ?_
      refine W_seq ?_
      refine W_region ?_
      refine L_run (.plain rfl) rfl rfl (r_move (by conv => lhs; whnf)) ?_
      refine L_run (.plain rfl) rfl rfl (r_move (v := .int _ _) rfl) ?_
      refine L_pure (.plain rfl) rfl rfl (cut_h (w := w0) Tryd.underlying26 (show _ = some 1 from rfl) (by conv => lhs; whnf) (by (exact Sl.to (by first | assumption | exact Sl.own (by assumption) | exact Mu.sl (by assumption) | exact Ow.sl (by assumption)) (fun i hi => by (repeat (first | exact Sm.refl _ _ | (refine Sm.stepT (by assumption) (by intro hlt hsm; exact not_no) ?_)))))) rfl (by omega) (by omega)) ?_
      rintro v17 ⟨hv17, ho17⟩
      have hn : (l.length - 4 : Int).toNat = l.length - 4 := by omega
      rw [hn] at hv17
      have hv17 := by_take (v := v) (by omega) hv17
      refine L_call (.plain rfl) rfl rfl (r_call Tryd.func36 rfl rfl rfl (by rfl)) (sum_walk v17 (l.take (l.length - 4)) _ (by (exact Sl.to (by first | assumption | exact Sl.own (by assumption) | exact Mu.sl (by assumption) | exact Ow.sl (by assumption)) (fun i hi => by (repeat (first | exact Sm.refl _ _ | (refine Sm.stepT (by assumption) (by intro hlt hsm; exact not_no) ?_)))))) (by simp; omega)) ?_
      rintro v18 w1 ⟨rfl, c1⟩
      have hz1 := c1.size
      refine L_run (.plain rfl) rfl rfl (r_assign (v := .int _ _) rfl) ?_
      refine L_nil ?_
      refine W_seq ?_
      refine W_cutF [0, 4] (fun f W => f 58 = .bool (decide (¬ getB l)) ∧ (W = w1)) ?_ ?_
      · refine W_region ?_
        refine L_run (.plain rfl) rfl rfl (r_move (by conv => lhs; whnf)) ?_
        refine L_run (.plain rfl) rfl rfl (r_move (v := .int _ _) rfl) ?_
        refine L_run (.plain rfl) rfl rfl (r_idxSl Tryd.underlying26 (show _ = some 1 from rfl) (by conv => lhs; whnf) rfl (by (exact Sl.to (by first | assumption | exact Sl.own (by assumption) | exact Mu.sl (by assumption) | exact Ow.sl (by assumption)) (fun i hi => by (repeat (first | exact Sm.refl _ _ | (refine Sm.stepT (by assumption) (by intro hlt hsm; exact not_no) ?_)))))) (by omega) (by omega) (by conv => lhs; (try simp only [Nat.mul_one, Nat.zero_add, Int.toNat_natCast, Int.toNat_zero, Int.reduceToNat, Nat.reduceMul, Nat.reduceAdd]))) ?_
        refine L_run (.plain rfl) rfl rfl (r_loadSl rfl rfl (by (exact Sl.to (by first | assumption | exact Sl.own (by assumption) | exact Mu.sl (by assumption) | exact Ow.sl (by assumption)) (fun i hi => by (repeat (first | exact Sm.refl _ _ | (refine Sm.stepT (by assumption) (by intro hlt hsm; exact not_no) ?_)))))) (by exact map_b8 _ _ (by omega))) ?_
        refine L_run (.plain rfl) rfl rfl (r_move (v := .int _ _) rfl) ?_
        refine L_run (.plain rfl) rfl rfl (r_conv Tryd.underlying41 Tryd.underlying5 rfl (by first | exact wr_u8 (by omega) | rfl)) ?_
        refine L_run (.plain rfl) rfl rfl (r_neq rfl rfl) ?_
        refine L_run (.plain rfl) rfl rfl (r_move (v := .bool _) rfl) ?_
        refine L_case (d := 26) rfl (fun h26 => ?_) (fun h26 => ?_)
        · refine L_pass rfl rfl rfl rfl rfl ?_
          refine L_pass rfl rfl rfl rfl rfl ?_
          refine L_pass rfl rfl rfl rfl rfl ?_
          refine L_pass rfl rfl rfl rfl rfl ?_
          refine L_pass rfl rfl rfl rfl rfl ?_
          refine L_pass rfl rfl rfl rfl rfl ?_
          refine L_pass rfl rfl rfl rfl rfl ?_
          refine L_pass rfl rfl rfl rfl rfl ?_
          refine L_pass rfl rfl rfl rfl rfl ?_
          refine L_run (.plain rfl) rfl rfl (r_pick_t (v := .bool _) rfl rfl) ?_
          refine L_run (.plain rfl) rfl rfl (r_move (v := .bool _) rfl) ?_
          refine L_pass rfl rfl rfl rfl rfl ?_
          refine L_pass rfl rfl rfl rfl rfl ?_
          refine L_pass rfl rfl rfl rfl rfl ?_
          refine L_pass rfl rfl rfl rfl rfl ?_
          refine L_pass rfl rfl rfl rfl rfl ?_
          refine L_pass rfl rfl rfl rfl rfl ?_
          refine L_pass rfl rfl rfl rfl rfl ?_
          refine L_pass rfl rfl rfl rfl rfl ?_
          refine L_pass rfl rfl rfl rfl rfl ?_
          refine L_run (.plain rfl) rfl rfl (r_pick_t (v := .bool _) rfl rfl) ?_
          refine L_run (.plain rfl) rfl rfl (r_move (v := .bool _) rfl) ?_
          refine L_pass rfl rfl rfl rfl rfl ?_
          refine L_pass rfl rfl rfl rfl rfl ?_
          refine L_pass rfl rfl rfl rfl rfl ?_
          refine L_pass rfl rfl rfl rfl rfl ?_
          refine L_pass rfl rfl rfl rfl rfl ?_
          refine L_pass rfl rfl rfl rfl rfl ?_
          refine L_pass rfl rfl rfl rfl rfl ?_
          refine L_pass rfl rfl rfl rfl rfl ?_
          refine L_pass rfl rfl rfl rfl rfl ?_
          refine L_run (.plain rfl) rfl rfl (r_pick_t (v := .bool _) rfl rfl) ?_
          refine L_nil ?_
          refine ⟨⟨rfl, rfl, trivial⟩, (dec_t (by rw [get_key l hl hl2]; first | exact fun g => h26 g.1 | exact fun g => h37 g.2.1 | exact fun g => h48 g.2.2.1 | exact ⟨fun h g => h g.2.2.2, fun g h => g ⟨by simpa using h26, by simpa using h37, by simpa using h48, h⟩⟩)), ?_⟩
          rfl
        · refine L_run (.yes 7 false rfl rfl) rfl rfl (r_move (by conv => lhs; whnf)) ?_
          refine L_run (.yes 7 false rfl rfl) rfl rfl (r_move (v := .int _ _) rfl) ?_
          refine L_run (.yes 7 false rfl rfl) rfl rfl (r_add rfl rfl (by first | exact wr_i64 (by omega) | rfl)) ?_
          refine L_run (.yes 7 false rfl rfl) rfl rfl (r_idxSl Tryd.underlying26 (show _ = some 1 from rfl) (by conv => lhs; whnf) rfl (by (exact Sl.to (by first | assumption | exact Sl.own (by assumption) | exact Mu.sl (by assumption) | exact Ow.sl (by assumption)) (fun i hi => by (repeat (first | exact Sm.refl _ _ | (refine Sm.stepT (by assumption) (by intro hlt hsm; exact not_no) ?_)))))) (by omega) (by omega) (by conv => lhs; (try simp only [Nat.mul_one, Nat.zero_add, Int.toNat_natCast, Int.toNat_zero, Int.reduceToNat, Nat.reduceMul, Nat.reduceAdd]))) ?_
          refine L_run (.yes 7 false rfl rfl) rfl rfl (r_loadSl rfl rfl (by (exact Sl.to (by first | assumption | exact Sl.own (by assumption) | exact Mu.sl (by assumption) | exact Ow.sl (by assumption)) (fun i hi => by (repeat (first | exact Sm.refl _ _ | (refine Sm.stepT (by assumption) (by intro hlt hsm; exact not_no) ?_)))))) (by exact map_b8 _ _ (by omega))) ?_
          refine L_run (.yes 7 false rfl rfl) rfl rfl (r_move (v := .int _ _) rfl) ?_
          refine L_run (.yes 7 false rfl rfl) rfl rfl (r_shrc (q := 256) rfl rfl (by omega) (by decide)) ?_
          refine L_run (.yes 7 false rfl rfl) rfl rfl (r_conv Tryd.underlying41 Tryd.underlying5 rfl (by first | exact wr_u8 (by omega) | rfl)) ?_
          refine L_run (.yes 7 false rfl rfl) rfl rfl (r_neq rfl rfl) ?_
          refine L_run (.plain rfl) rfl rfl (r_pick_f (v := .bool _) rfl rfl) ?_
          refine L_run (.plain rfl) rfl rfl (r_move (v := .bool _) rfl) ?_
          refine L_case (d := 37) rfl (fun h37 => ?_) (fun h37 => ?_)
          · refine L_pass rfl rfl rfl rfl rfl ?_
            refine L_pass rfl rfl rfl rfl rfl ?_
            refine L_pass rfl rfl rfl rfl rfl ?_
            refine L_pass rfl rfl rfl rfl rfl ?_
            refine L_pass rfl rfl rfl rfl rfl ?_
            refine L_pass rfl rfl rfl rfl rfl ?_
            refine L_pass rfl rfl rfl rfl rfl ?_
            refine L_pass rfl rfl rfl rfl rfl ?_
            refine L_pass rfl rfl rfl rfl rfl ?_
            refine L_run (.plain rfl) rfl rfl (r_pick_t (v := .bool _) rfl rfl) ?_
            refine L_run (.plain rfl) rfl rfl (r_move (v := .bool _) rfl) ?_
            refine L_pass rfl rfl rfl rfl rfl ?_
            refine L_pass rfl rfl rfl rfl rfl ?_
            refine L_pass rfl rfl rfl rfl rfl ?_
            refine L_pass rfl rfl rfl rfl rfl ?_
            refine L_pass rfl rfl rfl rfl rfl ?_
            refine L_pass rfl rfl rfl rfl rfl ?_
            refine L_pass rfl rfl rfl rfl rfl ?_
            refine L_pass rfl rfl rfl rfl rfl ?_
            refine L_pass rfl rfl rfl rfl rfl ?_
            refine L_run (.plain rfl) rfl rfl (r_pick_t (v := .bool _) rfl rfl) ?_
            refine L_nil ?_
            refine ⟨⟨rfl, rfl, trivial⟩, (dec_t (by rw [get_key l hl hl2]; first | exact fun g => h26 g.1 | exact fun g => h37 g.2.1 | exact fun g => h48 g.2.2.1 | exact ⟨fun h g => h g.2.2.2, fun g h => g ⟨by simpa using h26, by simpa using h37, by simpa using h48, h⟩⟩)), ?_⟩
            rfl
          · refine L_run (.yes 18 false rfl rfl) rfl rfl (r_move (by conv => lhs; whnf)) ?_
            refine L_run (.yes 18 false rfl rfl) rfl rfl (r_move (v := .int _ _) rfl) ?_
            refine L_run (.yes 18 false rfl rfl) rfl rfl (r_add rfl rfl (by first | exact wr_i64 (by omega) | rfl)) ?_
            refine L_run (.yes 18 false rfl rfl) rfl rfl (r_idxSl Tryd.underlying26 (show _ = some 1 from rfl) (by conv => lhs; whnf) rfl (by (exact Sl.to (by first | assumption | exact Sl.own (by assumption) | exact Mu.sl (by assumption) | exact Ow.sl (by assumption)) (fun i hi => by (repeat (first | exact Sm.refl _ _ | (refine Sm.stepT (by assumption) (by intro hlt hsm; exact not_no) ?_)))))) (by omega) (by omega) (by conv => lhs; (try simp only [Nat.mul_one, Nat.zero_add, Int.toNat_natCast, Int.toNat_zero, Int.reduceToNat, Nat.reduceMul, Nat.reduceAdd]))) ?_
            refine L_run (.yes 18 false rfl rfl) rfl rfl (r_loadSl rfl rfl (by (exact Sl.to (by first | assumption | exact Sl.own (by assumption) | exact Mu.sl (by assumption) | exact Ow.sl (by assumption)) (fun i hi => by (repeat (first | exact Sm.refl _ _ | (refine Sm.stepT (by assumption) (by intro hlt hsm; exact not_no) ?_)))))) (by exact map_b8 _ _ (by omega))) ?_
            refine L_run (.yes 18 false rfl rfl) rfl rfl (r_move (v := .int _ _) rfl) ?_
            refine L_run (.yes 18 false rfl rfl) rfl rfl (r_shrc (q := 65536) rfl rfl (by omega) (by decide)) ?_
            refine L_run (.yes 18 false rfl rfl) rfl rfl (r_conv Tryd.underlying41 Tryd.underlying5 rfl (by first | exact wr_u8 (by omega) | rfl)) ?_
            refine L_run (.yes 18 false rfl rfl) rfl rfl (r_neq rfl rfl) ?_
            refine L_run (.plain rfl) rfl rfl (r_pick_f (v := .bool _) rfl rfl) ?_
            refine L_run (.plain rfl) rfl rfl (r_move (v := .bool _) rfl) ?_
            refine L_case (d := 48) rfl (fun h48 => ?_) (fun h48 => ?_)
            · refine L_pass rfl rfl rfl rfl rfl ?_
              refine L_pass rfl rfl rfl rfl rfl ?_
              refine L_pass rfl rfl rfl rfl rfl ?_
              refine L_pass rfl rfl rfl rfl rfl ?_
              refine L_pass rfl rfl rfl rfl rfl ?_
              refine L_pass rfl rfl rfl rfl rfl ?_
              refine L_pass rfl rfl rfl rfl rfl ?_
              refine L_pass rfl rfl rfl rfl rfl ?_
              refine L_pass rfl rfl rfl rfl rfl ?_
              refine L_run (.plain rfl) rfl rfl (r_pick_t (v := .bool _) rfl rfl) ?_
              refine L_nil ?_
              refine ⟨⟨rfl, rfl, trivial⟩, (dec_t (by rw [get_key l hl hl2]; first | exact fun g => h26 g.1 | exact fun g => h37 g.2.1 | exact fun g => h48 g.2.2.1 | exact ⟨fun h g => h g.2.2.2, fun g h => g ⟨by simpa using h26, by simpa using h37, by simpa using h48, h⟩⟩)), ?_⟩
              rfl
            · refine L_run (.yes 29 false rfl rfl) rfl rfl (r_move (by conv => lhs; whnf)) ?_
              refine L_run (.yes 29 false rfl rfl) rfl rfl (r_move (v := .int _ _) rfl) ?_
              refine L_run (.yes 29 false rfl rfl) rfl rfl (r_add rfl rfl (by first | exact wr_i64 (by omega) | rfl)) ?_
              refine L_run (.yes 29 false rfl rfl) rfl rfl (r_idxSl Tryd.underlying26 (show _ = some 1 from rfl) (by conv => lhs; whnf) rfl (by (exact Sl.to (by first | assumption | exact Sl.own (by assumption) | exact Mu.sl (by assumption) | exact Ow.sl (by assumption)) (fun i hi => by (repeat (first | exact Sm.refl _ _ | (refine Sm.stepT (by assumption) (by intro hlt hsm; exact not_no) ?_)))))) (by omega) (by omega) (by conv => lhs; (try simp only [Nat.mul_one, Nat.zero_add, Int.toNat_natCast, Int.toNat_zero, Int.reduceToNat, Nat.reduceMul, Nat.reduceAdd]))) ?_
              refine L_run (.yes 29 false rfl rfl) rfl rfl (r_loadSl rfl rfl (by (exact Sl.to (by first | assumption | exact Sl.own (by assumption) | exact Mu.sl (by assumption) | exact Ow.sl (by assumption)) (fun i hi => by (repeat (first | exact Sm.refl _ _ | (refine Sm.stepT (by assumption) (by intro hlt hsm; exact not_no) ?_)))))) (by exact map_b8 _ _ (by omega))) ?_
              refine L_run (.yes 29 false rfl rfl) rfl rfl (r_move (v := .int _ _) rfl) ?_
              refine L_run (.yes 29 false rfl rfl) rfl rfl (r_shrc (q := 16777216) rfl rfl (by omega) (by decide)) ?_
              refine L_run (.yes 29 false rfl rfl) rfl rfl (r_conv Tryd.underlying41 Tryd.underlying5 rfl (by first | exact wr_u8 (by omega) | rfl)) ?_
              refine L_run (.yes 29 false rfl rfl) rfl rfl (r_neq rfl rfl) ?_
              refine L_run (.plain rfl) rfl rfl (r_pick_f (v := .bool _) rfl rfl) ?_
              refine L_nil ?_
              refine ⟨⟨rfl, rfl, trivial⟩, (dec_i (by rw [get_key l hl hl2]; first | exact fun g => h26 g.1 | exact fun g => h37 g.2.1 | exact fun g => h48 g.2.2.1 | exact ⟨fun h g => h g.2.2.2, fun g h => g ⟨by simpa using h26, by simpa using h37, by simpa using h48, h⟩⟩)), ?_⟩
              rfl
      rintro gcr7 w2 ⟨hf58, hCr7⟩
      refine W_as 58 hf58 rfl ?_
      clear hf58
      subst hCr7
      refine W_if rfl (fun h58 => ?_) (fun h58 => ?_)
      · refine W_seq ?_
        refine W_region ?_
        refine L_run (.plain rfl) rfl rfl (r_assign (by conv => lhs; whnf)) ?_
        refine L_run (.plain rfl) rfl rfl (r_assign (v := .int _ _) rfl) ?_
        refine L_nil ?_
        refine W_ret ?_
        refine ret2 (v := .int _ _) rfl (by conv => lhs; whnf) rfl ?_
        first
          | exact ⟨fun h => absurd h h58, fun _ => rfl, by (repeat (first | exact Ch.refl _ | assumption | (refine Ch.fresh ?_ (by assumption) (by intro i hi he; exact he))))⟩
          | (have hg : getB l := Classical.byContradiction h58
             refine ⟨fun _ => ⟨v62, rfl, ?_⟩, fun h => absurd hg h, by (repeat (first | exact Ch.refl _ | assumption | (refine Ch.fresh ?_ (by assumption) (by intro i hi he; exact he))))⟩
             have h := own_mono (b := w0.heap.size) ho62 (by omega)
             simpa using h)
      · refine W_skip ?_
        refine W_seq ?_
        refine W_region ?_
        refine L_run (.plain rfl) rfl rfl (r_move (by conv => lhs; whnf)) ?_
        refine L_run (.plain rfl) rfl rfl (r_move (v := .int _ _) rfl) ?_
        refine L_pure (.plain rfl) rfl rfl (cut_h (w := w2) Tryd.underlying26 (show _ = some 1 from rfl) (by conv => lhs; whnf) (by (exact Sl.to (by first | assumption | exact Sl.own (by assumption) | exact Mu.sl (by assumption) | exact Ow.sl (by assumption)) (fun i hi => by (repeat (first | exact Sm.refl _ _ | (refine Sm.stepT (by assumption) (by intro hlt hsm; exact not_no) ?_)))))) rfl (by omega) (by omega)) ?_
        rintro v61 ⟨hv61, ho61⟩
        rw [hn] at hv61
        have hv61 := by_take (v := v) (by omega) hv61
        refine L_apnil Tryd.underlying26 bytes_info rfl (by decide) (.plain rfl) rfl rfl (by conv => lhs; whnf) hv61 (b8_oneCell _) (by unfold maxLen; simp; omega) (by simp; omega) (fun v62 w3 ho62 c3 => ?_)
        have hz3 := c3.size
        refine L_run (.plain rfl) rfl rfl (r_assign (by conv => lhs; whnf)) ?_
        refine L_run (.plain rfl) rfl rfl (r_assign (v := .int _ _) rfl) ?_
        refine L_nil ?_
        refine W_ret ?_
        refine ret2 (v := .int _ _) rfl (by conv => lhs; whnf) rfl ?_
        first
          | exact ⟨fun h => absurd h h58, fun _ => rfl, by (repeat (first | exact Ch.refl _ | assumption | (refine Ch.fresh ?_ (by assumption) (by intro i hi he; exact he))))⟩
          | (have hg : getB l := Classical.byContradiction h58
             refine ⟨fun _ => ⟨v62, rfl, ?_⟩, fun h => absurd hg h, by (repeat (first | exact Ch.refl _ | assumption | (refine Ch.fresh ?_ (by assumption) (by intro i hi he; exact he))))⟩
             have h := own_mono (b := w0.heap.size) ho62 (by omega)
             simpa using h)
end Go.Proofs.YtcbcelfgbelaoaaDoor

