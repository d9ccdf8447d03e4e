/- The walks of the reference of layer 2. -/
import Derived.Test.YtcbcelfgbelaoaaDoorFrame
namespace Go.Proofs.YtcbcelfgbelaoaaDoor
open Go Go.RowKit
set_option linter.unusedVariables false
set_option linter.unusedSimpArgs false

theorem get_short (v : Value) (l : List UInt8) (w0 : World) (hv : By w0 v l) (hl : l.length < 4) : Does Tryd.prog 25 #[v] w0 (fun r w' => r = .tuple #[.slice none 0 0, .int .i64 20] ∧ w0 = w') := by
  refine fn_of (n := 63) (args := [v]) Tryd.func25 rfl rfl rfl ?_
  refine W_seq ?_
  refine W_region ?_
  refine L_run (.plain rfl) rfl rfl (r_assign (by conv => lhs; whnf)) ?_
  refine L_run (.plain rfl) rfl rfl (r_assign (v := .int _ _) rfl) ?_
  refine L_nil ?_
  refine W_seq ?_
  refine W_region ?_
  refine L_run (.plain rfl) rfl rfl (r_move (by conv => lhs; whnf)) ?_
  refine L_run (.plain rfl) rfl rfl (r_lenSl Tryd.underlying26 (by conv => lhs; whnf) (by (exact Sl.to (by first | assumption | exact Sl.own (by assumption) | exact Mu.sl (by assumption) | exact Ow.sl (by assumption)) (fun i hi => by (repeat (first | exact Sm.refl _ _ | (refine Sm.stepT (by assumption) (by intro hlt hsm; first | exact not_no | (intro he; have he2 : _ = some _ := he; have := own_base (by assumption) he2; omega) | (intro he; have he2 : _ = _ := he; omega) | (intro he; have he2 : _ = some _ := he; have := ow_base (by assumption) he2; omega) | (intro he; have := he.1; omega) | exact bk_not (by assumption) hsm rfl | exact mp_not (by assumption) hsm | exact bkm_not (by assumption) hsm rfl | exact ownm_not (by assumption) hi hsm rfl | exact owm_not (by assumption) hi hsm rfl | exact own_not (by assumption) hi hsm rfl | exact ow_not (by assumption) hi hsm rfl | (intro he; have he2 : _ = some _ := he; have := Ow.lt (by assumption) he2; omega) | (intro he; have he2 : _ = some _ := he; have := Ow.lt (by assumption) he2; have := own_base (by assumption) hi; omega) | (intro he; have he2 : _ = some _ := he; have := Ow.lt how he2; first | omega | (have := own_base (by assumption) hi; omega)) | (intro he; have he2 : _ = _ := he; have := Ow.lt how hi; omega) | (intro he; have he2 : _ = _ := he; have := own_base (by assumption) hi; omega) | (intro he; have he2 : _ = _ := he; have := ow_base (by assumption) hi; omega) | (intro he; have he2 : _ = _ := he; rw [he2] at hi; exact absurd hi (by assumption)) | (intro he; have he2 : _ = some _ := he; have h3 := own_lt (by assumption) he2; first | omega | (have h4 : _ = some _ := hi; simp [Value.ownBlock] at h4; omega)) | (intro he; have he2 : _ = some _ := he; have h3 := ow_base (by assumption) he2; have h4 : _ = some _ := hi; simp [Value.ownBlock] at h4; omega) | (intro he; have he2 : _ = some _ := he; exact absurd he2 (hsep _ hi)) | (intro he; have he2 : _ = _ := he; have := hlo _ hi; omega) | (intro he; have he2 : _ = some _ := he; have := hlo _ he2; omega) | (intro he; first | exact absurd he (by assumption) | exact absurd he.symm (by assumption)) | (intro he; have he2 : _ = _ ∨ _ = _ := he; omega)) ?_))))))) ?_
  refine L_run (.plain rfl) rfl rfl (r_sub rfl rfl (by first | exact wr_i64 (by omega) | rfl)) ?_
  refine L_run (.plain rfl) rfl rfl (r_assign (v := .int _ _) rfl) ?_
  refine L_nil ?_
  refine W_seq ?_
  refine W_block ?_
  refine W_seq ?_
  refine W_region ?_
  refine L_run (.plain rfl) rfl rfl (r_move (v := .int _ _) rfl) ?_
  refine L_run (.plain rfl) rfl rfl (r_gtr rfl rfl) ?_
  refine L_run (.plain rfl) rfl rfl (r_assign (v := .bool _) rfl) ?_
  refine L_nil ?_
  refine W_if rfl (fun h9 => ?_) (fun h9 => ?_)
  · omega
  · refine W_seq ?_
    refine W_region ?_
    refine L_run (.plain rfl) rfl rfl (r_move (v := .int _ _) rfl) ?_
    refine L_run (.plain rfl) rfl rfl (r_lss rfl rfl) ?_
    refine L_run (.plain rfl) rfl rfl (r_assign (v := .bool _) rfl) ?_
    refine L_nil ?_
    refine W_if rfl (fun h12 => ?_) (fun h12 => ?_)
    · refine W_seq ?_
      refine W_region ?_
      refine L_run (.plain rfl) rfl rfl (r_assign (by conv => lhs; whnf)) ?_
      refine L_run (.plain rfl) rfl rfl (r_assign (v := .int _ _) rfl) ?_
      refine L_nil ?_
      refine W_ret ?_
      refine ret2 (v := .int _ _) rfl (by conv => lhs; whnf) rfl ?_
      exact ⟨rfl, rfl⟩
    · omega
theorem get_long (v : Value) (l : List UInt8) (w0 : World) (hv : By w0 v l) (hl : 32772 < l.length) (hl2 : l.length ≤ 9223372036854775807) : Does Tryd.prog 25 #[v] w0 (fun r w' => r = .tuple #[.slice none 0 0, .int .i64 21] ∧ w0 = w') := by
  refine fn_of (n := 63) (args := [v]) Tryd.func25 rfl rfl rfl ?_
  refine W_seq ?_
  refine W_region ?_
  refine L_run (.plain rfl) rfl rfl (r_assign (by conv => lhs; whnf)) ?_
  refine L_run (.plain rfl) rfl rfl (r_assign (v := .int _ _) rfl) ?_
  refine L_nil ?_
  refine W_seq ?_
  refine W_region ?_
  refine L_run (.plain rfl) rfl rfl (r_move (by conv => lhs; whnf)) ?_
  refine L_run (.plain rfl) rfl rfl (r_lenSl Tryd.underlying26 (by conv => lhs; whnf) (by (exact Sl.to (by first | assumption | exact Sl.own (by assumption) | exact Mu.sl (by assumption) | exact Ow.sl (by assumption)) (fun i hi => by (repeat (first | exact Sm.refl _ _ | (refine Sm.stepT (by assumption) (by intro hlt hsm; first | exact not_no | (intro he; have he2 : _ = some _ := he; have := own_base (by assumption) he2; omega) | (intro he; have he2 : _ = _ := he; omega) | (intro he; have he2 : _ = some _ := he; have := ow_base (by assumption) he2; omega) | (intro he; have := he.1; omega) | exact bk_not (by assumption) hsm rfl | exact mp_not (by assumption) hsm | exact bkm_not (by assumption) hsm rfl | exact ownm_not (by assumption) hi hsm rfl | exact owm_not (by assumption) hi hsm rfl | exact own_not (by assumption) hi hsm rfl | exact ow_not (by assumption) hi hsm rfl | (intro he; have he2 : _ = some _ := he; have := Ow.lt (by assumption) he2; omega) | (intro he; have he2 : _ = some _ := he; have := Ow.lt (by assumption) he2; have := own_base (by assumption) hi; omega) | (intro he; have he2 : _ = some _ := he; have := Ow.lt how he2; first | omega | (have := own_base (by assumption) hi; omega)) | (intro he; have he2 : _ = _ := he; have := Ow.lt how hi; omega) | (intro he; have he2 : _ = _ := he; have := own_base (by assumption) hi; omega) | (intro he; have he2 : _ = _ := he; have := ow_base (by assumption) hi; omega) | (intro he; have he2 : _ = _ := he; rw [he2] at hi; exact absurd hi (by assumption)) | (intro he; have he2 : _ = some _ := he; have h3 := own_lt (by assumption) he2; first | omega | (have h4 : _ = some _ := hi; simp [Value.ownBlock] at h4; omega)) | (intro he; have he2 : _ = some _ := he; have h3 := ow_base (by assumption) he2; have h4 : _ = some _ := hi; simp [Value.ownBlock] at h4; omega) | (intro he; have he2 : _ = some _ := he; exact absurd he2 (hsep _ hi)) | (intro he; have he2 : _ = _ := he; have := hlo _ hi; omega) | (intro he; have he2 : _ = some _ := he; have := hlo _ he2; omega) | (intro he; first | exact absurd he (by assumption) | exact absurd he.symm (by assumption)) | (intro he; have he2 : _ = _ ∨ _ = _ := he; omega)) ?_))))))) ?_
  refine L_run (.plain rfl) rfl rfl (r_sub rfl rfl (by first | exact wr_i64 (by omega) | rfl)) ?_
  refine L_run (.plain rfl) rfl rfl (r_assign (v := .int _ _) rfl) ?_
  refine L_nil ?_
  refine W_seq ?_
  refine W_block ?_
  refine W_seq ?_
  refine W_region ?_
  refine L_run (.plain rfl) rfl rfl (r_move (v := .int _ _) rfl) ?_
  refine L_run (.plain rfl) rfl rfl (r_gtr rfl rfl) ?_
  refine L_run (.plain rfl) rfl rfl (r_assign (v := .bool _) rfl) ?_
  refine L_nil ?_
  refine W_if rfl (fun h9 => ?_) (fun h9 => ?_)
  · refine W_seq ?_
    refine W_region ?_
    refine L_run (.plain rfl) rfl rfl (r_assign (by conv => lhs; whnf)) ?_
    refine L_run (.plain rfl) rfl rfl (r_assign (v := .int _ _) rfl) ?_
    refine L_nil ?_
    refine W_ret ?_
    refine ret2 (v := .int _ _) rfl (by conv => lhs; whnf) rfl ?_
    exact ⟨rfl, rfl⟩
  · omega
/-- One bit of a byte, into a sum. -/
def refBit (c : UInt8) (k : Nat) (v : Int) : Int :=
  if ((c.toNat : Int) / 2 ^ min (k : Int).toNat IntKind.u32.bits) % 2 ≠ v % 2 then bits .xor .u32 (v / 2) 3988292384 else v / 2
def refByte (c : UInt8) : Nat → Int → Int
  | 0, v => v
  | k + 1, v => refBit c k (refByte c k v)
def refSum (l : List UInt8) : Int := 4294967295 - l.foldl (fun v c => refByte c 8 v) 4294967295
theorem refBit_bd (c : UInt8) (k : Nat) (v : Int) (h : 0 ≤ v ∧ v ≤ 4294967295) : 0 ≤ refBit c k v ∧ refBit c k v ≤ 4294967295 := by
  unfold refBit; split
  · exact u32_bd _ _ _
  · omega
theorem refByte_bd (c : UInt8) (k : Nat) (v : Int) (h : 0 ≤ v ∧ v ≤ 4294967295) : 0 ≤ refByte c k v ∧ refByte c k v ≤ 4294967295 := by
  induction k with
  | zero => exact h
  | succ k ih => exact refBit_bd _ _ _ ih
theorem refFold_bd (l : List UInt8) (v : Int) (h : 0 ≤ v ∧ v ≤ 4294967295) : 0 ≤ l.foldl (fun v c => refByte c 8 v) v ∧ l.foldl (fun v c => refByte c 8 v) v ≤ 4294967295 := by
  induction l generalizing v with
  | nil => exact h
  | cons c l ih => exact ih _ (refByte_bd c 8 v h)
theorem refSum_bd (l : List UInt8) : 0 ≤ refSum l ∧ refSum l ≤ 4294967295 := by
  have := refFold_bd l 4294967295 (by omega)
  unfold refSum; omega

theorem rsum_walk (s : ByteArray) (w0 : World) (hl : s.size ≤ 9223372036854775806) : Does Tryd.prog 34 #[.string s] w0 (fun r w' => r = .int .u32 (refSum (bs s)) ∧ w0 = w') := by
  refine fn_of (n := 37) (args := [.string s]) Tryd.func34 rfl rfl rfl ?_
  refine W_seq ?_
  refine W_region ?_
  refine L_run (.plain rfl) rfl rfl (r_assign (v := .int _ _) rfl) ?_
  refine L_nil ?_
  refine W_seq ?_
  refine W_region ?_
  refine L_run (.plain rfl) rfl rfl (r_assign (v := .int _ _) rfl) ?_
  refine L_nil ?_
  refine W_seq ?_
  refine W_seq ?_
  refine W_region ?_
  refine L_run (.plain rfl) rfl rfl (r_assign (v := .int _ _) rfl) ?_
  refine L_nil ?_
  refine W_block ?_
  refine W_loopF [0] (fun mz_ f W => ∃ (k : Nat), f 3 = .int .u32 (((bs s).take k).foldl (fun v c => refByte c 8 v) 4294967295) ∧ f 4 = .int .i64 k ∧ (k ≤ s.size ∧ W = w0) ∧ mz_ = s.size - k) ?_ ?_
  · refine ⟨_, 0, rfl, rfl, ?_, rfl⟩
    exact ⟨by omega, rfl⟩
  rintro m0 g0 w1 ⟨k, hf3, hf4, hR0, rfl⟩
  refine W_as 3 hf3 rfl ?_
  refine W_as 4 hf4 rfl ?_
  clear hf3 hf4
  obtain ⟨hk, rfl⟩ := hR0
  have hbd0 := refFold_bd ((bs s).take k) 4294967295 (by omega)
  refine W_seq ?_
  refine W_seq ?_
  refine W_region ?_
  refine L_run (.plain rfl) rfl rfl (r_move (v := .int _ _) rfl) ?_
  refine L_run (.plain rfl) rfl rfl (r_move (v := .string _) rfl) ?_
  refine L_run (.plain rfl) rfl rfl (r_lens Tryd.underlying9 rfl) ?_
  refine L_run (.plain rfl) rfl rfl (r_lss rfl rfl) ?_
  refine L_nil ?_
  refine W_if rfl (fun h11 => ?_) (fun h11 => ?_)
  · have hlt : k < s.size := by omega
    have hbat : bat s k = (bs s)[k]'(by rw [bs_length]; exact hlt) := by simp [bat, bs_length, hlt]
    have hb8 := u8_bd (bat s k)
    refine W_skip ?_
    refine W_seq ?_
    refine W_block ?_
    refine W_seq ?_
    refine W_region ?_
    refine L_run (.plain rfl) rfl rfl (r_assign (v := .int _ _) rfl) ?_
    refine L_nil ?_
    refine W_block ?_
    refine W_loopF [0, 4] (fun mz_ f W => ∃ (q : Nat), f 3 = .int .u32 (refByte (bat s k) q (((bs s).take k).foldl (fun v c => refByte c 8 v) 4294967295)) ∧ f 5 = .int .i64 q ∧ (q ≤ 8 ∧ W = w1) ∧ mz_ = 8 - q) ?_ ?_
    · refine ⟨_, 0, rfl, rfl, ?_, rfl⟩
      exact ⟨by omega, rfl⟩
    rintro m1 g1 w2 ⟨q, hf3, hf5, hR1, rfl⟩
    refine W_as 3 hf3 rfl ?_
    refine W_as 5 hf5 rfl ?_
    clear hf3 hf5
    obtain ⟨hq, rfl⟩ := hR1
    have hbd := refByte_bd (bat s k) q _ hbd0
    have hsh : (0 : Int) ≤ ((bat s k).toNat : Int) / 2 ^ min ((q : Int)).toNat IntKind.u32.bits := Int.ediv_nonneg (by omega) (Int.pow_nonneg (by decide))
    refine W_seq ?_
    refine W_seq ?_
    refine W_region ?_
    refine L_run (.plain rfl) rfl rfl (r_move (v := .int _ _) rfl) ?_
    refine L_run (.plain rfl) rfl rfl (r_lss rfl rfl) ?_
    refine L_nil ?_
    refine W_if rfl (fun h15 => ?_) (fun h15 => ?_)
    · refine W_skip ?_
      refine W_seq ?_
      refine W_block ?_
      refine W_seq ?_
      refine W_region ?_
      refine L_run (.plain rfl) rfl rfl (r_move (v := .string _) rfl) ?_
      refine L_run (.plain rfl) rfl rfl (r_move (v := .int _ _) rfl) ?_
      refine L_run (.plain rfl) rfl rfl (r_indexs Tryd.underlying9 rfl rfl (by omega) (by omega) (by conv => lhs; (try simp only [Nat.mul_one, Nat.zero_add, Int.toNat_natCast, Int.toNat_zero, Int.reduceToNat, Nat.reduceMul, Nat.reduceAdd]))) ?_
      refine L_run (.plain rfl) rfl rfl (r_conv Tryd.underlying5 Tryd.underlying41 rfl (by first | exact wr_u32 (by omega) | rfl)) ?_
      refine L_run (.plain rfl) rfl rfl (r_move (v := .int _ _) rfl) ?_
      refine L_run (.plain rfl) rfl rfl (r_conv Tryd.underlying3 Tryd.underlying42 rfl (by first | exact wr_u64 (by omega) | rfl)) ?_
      refine L_run (.plain rfl) rfl rfl (r_shr rfl rfl (by omega) rfl) ?_
      refine L_run (.plain rfl) rfl rfl (r_remn rfl rfl (by omega) (by omega)) ?_
      refine L_run (.plain rfl) rfl rfl (r_assign (v := .int _ _) rfl) ?_
      refine L_nil ?_
      refine W_seq ?_
      refine W_region ?_
      refine L_run (.plain rfl) rfl rfl (r_move (v := .int _ _) rfl) ?_
      refine L_run (.plain rfl) rfl rfl (r_remn rfl rfl (by omega) (by omega)) ?_
      refine L_run (.plain rfl) rfl rfl (r_assign (v := .int _ _) rfl) ?_
      refine L_nil ?_
      refine W_seq ?_
      refine W_region ?_
      refine L_run (.plain rfl) rfl rfl (r_move (v := .int _ _) rfl) ?_
      refine L_run (.plain rfl) rfl rfl (r_quon rfl rfl (by omega) (by omega) (by first | exact wr_u32 (by omega) | rfl)) ?_
      refine L_run (.plain rfl) rfl rfl (r_assign (v := .int _ _) rfl) ?_
      refine L_nil ?_
      refine W_seq ?_
      refine W_region ?_
      refine L_run (.plain rfl) rfl rfl (r_move (v := .int _ _) rfl) ?_
      refine L_run (.plain rfl) rfl rfl (r_move (v := .int _ _) rfl) ?_
      refine L_run (.plain rfl) rfl rfl (r_neq rfl rfl) ?_
      refine L_nil ?_
      refine W_if rfl (fun h32 => ?_) (fun h32 => ?_)
      · refine W_region ?_
        refine L_run (.plain rfl) rfl rfl (r_move (v := .int _ _) rfl) ?_
        refine L_run (.plain rfl) rfl rfl (r_xor rfl rfl) ?_
        refine L_run (.plain rfl) rfl rfl (r_assign (v := .int _ _) rfl) ?_
        refine L_nil ?_
        refine W_region ?_
        refine L_run (.plain rfl) rfl rfl (r_move (v := .int _ _) rfl) ?_
        refine L_run (.plain rfl) rfl rfl (r_add rfl rfl (by first | exact wr_i64 (by omega) | rfl)) ?_
        refine L_run (.plain rfl) rfl rfl (r_assign (v := .int _ _) rfl) ?_
        refine L_nil ?_
        refine ⟨⟨rfl, rfl, trivial⟩, _, ?_, q + 1, (by conv => {lhs; whnf}; first | (show _ = Value.int .u32 (refBit _ _ _); unfold refBit; rw [if_pos (by assumption)]) | (show _ = Value.int .u32 (refBit _ _ _); unfold refBit; rw [if_neg (by assumption)])), rfl, ?_, rfl⟩
        · omega
        exact ⟨by omega, rfl⟩
      · refine W_skip ?_
        refine W_region ?_
        refine L_run (.plain rfl) rfl rfl (r_move (v := .int _ _) rfl) ?_
        refine L_run (.plain rfl) rfl rfl (r_add rfl rfl (by first | exact wr_i64 (by omega) | rfl)) ?_
        refine L_run (.plain rfl) rfl rfl (r_assign (v := .int _ _) rfl) ?_
        refine L_nil ?_
        refine ⟨⟨rfl, rfl, trivial⟩, _, ?_, q + 1, (by conv => {lhs; whnf}; first | (show _ = Value.int .u32 (refBit _ _ _); unfold refBit; rw [if_pos (by assumption)]) | (show _ = Value.int .u32 (refBit _ _ _); unfold refBit; rw [if_neg (by assumption)])), rfl, ?_, rfl⟩
        · omega
        exact ⟨by omega, rfl⟩
    · refine W_exit ?_
      repeat (first | refine blk_hit ?_ | refine blk_miss rfl ?_)
      refine W_region ?_
      obtain rfl : q = 8 := by omega
      refine L_run (.plain rfl) rfl rfl (r_move (v := .int _ _) rfl) ?_
      refine L_run (.plain rfl) rfl rfl (r_add rfl rfl (by first | exact wr_i64 (by omega) | rfl)) ?_
      refine L_run (.plain rfl) rfl rfl (r_assign (v := .int _ _) rfl) ?_
      refine L_nil ?_
      refine ⟨⟨rfl, trivial⟩, _, ?_, k + 1, (by conv => {lhs; whnf}; rw [List.take_add_one, List.getElem?_eq_getElem (by rw [bs_length]; exact hlt), List.foldl_append]; simp only [Option.toList_some, List.foldl_cons, List.foldl_nil, hbat]), rfl, ?_, rfl⟩
      · omega
      exact ⟨by omega, rfl⟩
  · refine W_exit ?_
    repeat (first | refine blk_hit ?_ | refine blk_miss rfl ?_)
    refine W_seq ?_
    refine W_region ?_
    obtain rfl : k = s.size := by omega
    refine L_run (.plain rfl) rfl rfl (r_move (v := .int _ _) rfl) ?_
    refine L_run (.plain rfl) rfl rfl (r_sub rfl rfl (by first | exact wr_u32 (by omega) | rfl)) ?_
    refine L_run (.plain rfl) rfl rfl (r_assign (v := .int _ _) rfl) ?_
    refine L_nil ?_
    refine W_ret ?_
    refine ret1 (v := .int _ _) rfl rfl ?_
    refine ⟨?_, rfl⟩
    rw [List.take_of_length_le (by rw [bs_length]; exact Nat.le_refl _)]; rfl

theorem le4_val2 (v : Int) (h : 0 ≤ v ∧ v ≤ 4294967295) : [Value.int .u8 (v % 256), .int .u8 (v / 256 % 256), .int .u8 (v / 65536 % 256), .int .u8 (v / 16777216)] = (le4 v).map b8 := by
  rw [← le4_val]
  have e : ∀ x : Int, IntKind.u8.wrap x = x % 256 := fun x => by simp [IntKind.wrap, IntKind.bits, IntKind.signed]
  rw [e, e, e, e, show v / 16777216 % 256 = v / 16777216 by omega]
def rput (s : ByteArray) : ByteArray := s ++ sb (le4 (refSum (bs s)))

theorem rput_walk (s : ByteArray) (w0 : World) (hl : s.size ≤ 1000000) : Does Tryd.prog 15 #[.string s] w0 (fun r w' => r = .string (rput s) ∧ Nw w0 w') := by
  refine fn_of (n := 24) (args := [.string s]) Tryd.func15 rfl rfl rfl ?_
  refine W_seq ?_
  refine W_region ?_
  refine L_run (.plain rfl) rfl rfl (r_assign (v := .string _) rfl) ?_
  refine L_nil ?_
  refine W_seq ?_
  refine W_region ?_
  refine L_run (.plain rfl) rfl rfl (r_move (v := .string _) rfl) ?_
  refine L_call (.plain rfl) rfl rfl (r_call Tryd.func34 rfl rfl rfl (by rfl)) (rsum_walk s _ (by omega)) ?_
  rintro v5 w1 ⟨rfl, rfl⟩
  have hbd := refSum_bd (bs s)
  refine L_run (.plain rfl) rfl rfl (r_assign (v := .int _ _) rfl) ?_
  refine L_nil ?_
  refine W_seq ?_
  refine W_region ?_
  refine L_run (.plain rfl) rfl rfl (r_move (v := .string _) rfl) ?_
  refine L_run (.plain rfl) rfl rfl (r_move (v := .int _ _) rfl) ?_
  refine L_run (.plain rfl) rfl rfl (r_remn rfl rfl (by omega) (by omega)) ?_
  refine L_run (.plain rfl) rfl rfl (r_conv Tryd.underlying41 Tryd.underlying5 rfl (by first | exact wr_u8 (by omega) | rfl)) ?_
  refine L_run (.plain rfl) rfl rfl (r_move (v := .int _ _) rfl) ?_
  refine L_run (.plain rfl) rfl rfl (r_quon rfl rfl (by omega) (by omega) (by first | exact wr_u32 (by omega) | rfl)) ?_
  refine L_run (.plain rfl) rfl rfl (r_remn rfl rfl (by omega) (by omega)) ?_
  refine L_run (.plain rfl) rfl rfl (r_conv Tryd.underlying41 Tryd.underlying5 rfl (by first | exact wr_u8 (by omega) | rfl)) ?_
  refine L_run (.plain rfl) rfl rfl (r_move (v := .int _ _) rfl) ?_
  refine L_run (.plain rfl) rfl rfl (r_quon rfl rfl (by omega) (by omega) (by first | exact wr_u32 (by omega) | rfl)) ?_
  refine L_run (.plain rfl) rfl rfl (r_remn rfl rfl (by omega) (by omega)) ?_
  refine L_run (.plain rfl) rfl rfl (r_conv Tryd.underlying41 Tryd.underlying5 rfl (by first | exact wr_u8 (by omega) | rfl)) ?_
  refine L_run (.plain rfl) rfl rfl (r_move (v := .int _ _) rfl) ?_
  refine L_run (.plain rfl) rfl rfl (r_quon rfl rfl (by omega) (by omega) (by first | exact wr_u32 (by omega) | rfl)) ?_
  refine L_run (.plain rfl) rfl rfl (r_conv Tryd.underlying41 Tryd.underlying5 rfl (by first | exact wr_u8 (by omega) | rfl)) ?_
  refine L_build1 [.int _ _, .int _ _, .int _ _, .int _ _] Tryd.underlying26 rfl rfl rfl (.plain rfl) rfl (by rfl) (by rfl) (by rfl) (fun b21 w2 hb21 hv21 eb2 hs2 c2 => ?_)
  rw [le4_val2 _ hbd] at hv21
  have hv21 : By _ _ (le4 (refSum (bs s))) := hv21
  refine L_run (.plain rfl) rfl rfl (r_bstr Tryd.underlying26 Tryd.underlying5 Tryd.underlying9 (by conv => lhs; whnf) (by (exact Sl.to (by first | assumption | exact Sl.own (by assumption) | exact Mu.sl (by assumption) | exact Ow.sl (by assumption)) (fun i hi => by (repeat (first | exact Sm.refl _ _ | (refine Sm.stepT (by assumption) (by intro hlt hsm; first | exact not_no | (intro he; have he2 : _ = some _ := he; have := own_base (by assumption) he2; omega) | (intro he; have he2 : _ = _ := he; omega) | (intro he; have he2 : _ = some _ := he; have := ow_base (by assumption) he2; omega) | (intro he; have := he.1; omega) | exact bk_not (by assumption) hsm rfl | exact mp_not (by assumption) hsm | exact bkm_not (by assumption) hsm rfl | exact ownm_not (by assumption) hi hsm rfl | exact owm_not (by assumption) hi hsm rfl | exact own_not (by assumption) hi hsm rfl | exact ow_not (by assumption) hi hsm rfl | (intro he; have he2 : _ = some _ := he; have := Ow.lt (by assumption) he2; omega) | (intro he; have he2 : _ = some _ := he; have := Ow.lt (by assumption) he2; have := own_base (by assumption) hi; omega) | (intro he; have he2 : _ = some _ := he; have := Ow.lt how he2; first | omega | (have := own_base (by assumption) hi; omega)) | (intro he; have he2 : _ = _ := he; have := Ow.lt how hi; omega) | (intro he; have he2 : _ = _ := he; have := own_base (by assumption) hi; omega) | (intro he; have he2 : _ = _ := he; have := ow_base (by assumption) hi; omega) | (intro he; have he2 : _ = _ := he; rw [he2] at hi; exact absurd hi (by assumption)) | (intro he; have he2 : _ = some _ := he; have h3 := own_lt (by assumption) he2; first | omega | (have h4 : _ = some _ := hi; simp [Value.ownBlock] at h4; omega)) | (intro he; have he2 : _ = some _ := he; have h3 := ow_base (by assumption) he2; have h4 : _ = some _ := hi; simp [Value.ownBlock] at h4; omega) | (intro he; have he2 : _ = some _ := he; exact absurd he2 (hsep _ hi)) | (intro he; have he2 : _ = _ := he; have := hlo _ hi; omega) | (intro he; have he2 : _ = some _ := he; have := hlo _ he2; omega) | (intro he; first | exact absurd he (by assumption) | exact absurd he.symm (by assumption)) | (intro he; have he2 : _ = _ ∨ _ = _ := he; omega)) ?_))))))) ?_
  refine L_run (.plain rfl) rfl rfl (r_adds rfl rfl (by show s.size + 4 ≤ _; omega)) ?_
  refine L_run (.plain rfl) rfl rfl (r_assign (v := .string _) rfl) ?_
  refine L_nil ?_
  refine W_ret ?_
  refine ret1 (v := .string _) rfl rfl ?_
  exact ⟨rfl, by (repeat (first | exact Ch.refl _ | assumption | (refine Ch.fresh ?_ (by assumption) (by intro i hi he; first | exact he | exact (not_no he).elim | exact Or.inl he | exact Or.inr (Or.inl he) | exact Or.inr (Or.inr he) | (exfalso; have he2 : _ = some i := he; have := own_base (by assumption) he2; omega) | (exfalso; have he2 : i = _ := he; omega) | (exfalso; have he2 : _ = some i := he; have := ow_base (by assumption) he2; omega) | (exfalso; have := he.1; omega) | (exfalso; have he2 : _ = some i := he; have := hlo _ he2; omega) | exact Or.inr he | (rcases he with he | he <;> (first | exact he | exact Or.inl he | exact Or.inr he | (exfalso; have he2 : i = _ := he; omega)))))))⟩

/-- What is turned, while k bytes of 'by' are done, and of the next one the places below i. -/
def turnR (k i : Nat) (l : List UInt8) (a : Int) (by_ : List UInt8) : List UInt8 :=
  l.mapIdx fun j c => if a ≤ j ∧ (j - a < k ∨ (j - a = k ∧ j < i)) then c ^^^ by_.getD (j - a).toNat 0 else c
theorem turnR_length (k i : Nat) (l : List UInt8) (a : Int) (by_ : List UInt8) : (turnR k i l a by_).length = l.length := by simp [turnR]
theorem turnR_get (k i : Nat) (l : List UInt8) (a : Int) (by_ : List UInt8) (j : Nat) (h : j < l.length) : (turnR k i l a by_)[j]? = some (if a ≤ j ∧ (j - a < k ∨ (j - a = k ∧ j < i)) then l[j] ^^^ by_.getD (j - a).toNat 0 else l[j]) := by
  simp [turnR, h]
theorem turnR_none (k i : Nat) (l : List UInt8) (a : Int) (by_ : List UInt8) (j : Nat) (h : ¬ j < l.length) : (turnR k i l a by_)[j]? = none := List.getElem?_eq_none (by rw [turnR_length]; omega)
theorem ite_same {α : Type} {p q : Prop} [Decidable p] [Decidable q] (h : p ↔ q) (x y : α) : (if p then x else y) = if q then x else y := by
  by_cases hp : p
  · rw [if_pos hp, if_pos (h.1 hp)]
  · rw [if_neg hp, if_neg (fun hq => hp (h.2 hq))]
theorem turnR_start (l : List UInt8) (a : Int) (by_ : List UInt8) : turnR 0 0 l a by_ = l := by
  apply List.ext_getElem?
  intro j
  by_cases h : j < l.length
  · rw [turnR_get _ _ _ _ _ _ h, if_neg (by omega), List.getElem?_eq_getElem h]
  · rw [turnR_none _ _ _ _ _ _ h, List.getElem?_eq_none (by omega)]
theorem turnR_row (k : Nat) (l : List UInt8) (a : Int) (by_ : List UInt8) : turnR k l.length l a by_ = turnR (k + 1) 0 l a by_ := by
  apply List.ext_getElem?
  intro j
  by_cases h : j < l.length
  · rw [turnR_get _ _ _ _ _ _ h, turnR_get _ _ _ _ _ _ h]; exact congrArg some (ite_same (by omega) _ _)
  · rw [turnR_none _ _ _ _ _ _ h, turnR_none _ _ _ _ _ _ h]
theorem turnR_skip (k i : Nat) (l : List UInt8) (a : Int) (by_ : List UInt8) (hn : ¬ (a ≤ i ∧ i - a = k)) : turnR k (i + 1) l a by_ = turnR k i l a by_ := by
  apply List.ext_getElem?
  intro j
  by_cases h : j < l.length
  · rw [turnR_get _ _ _ _ _ _ h, turnR_get _ _ _ _ _ _ h]; exact congrArg some (ite_same (by omega) _ _)
  · rw [turnR_none _ _ _ _ _ _ h, turnR_none _ _ _ _ _ _ h]
theorem turnR_at (k i : Nat) (l : List UInt8) (a : Int) (by_ : List UInt8) (hi : i < l.length) (hn : a ≤ i ∧ i - a = k) : (turnR k i l a by_).getD i 0 = l[i] := by
  rw [List.getD_eq_getElem?_getD, turnR_get _ _ _ _ _ _ hi, if_neg (by omega)]; rfl
theorem turnR_step (k i : Nat) (l : List UInt8) (a : Int) (by_ : List UInt8) (hi : i < l.length) (hn : a ≤ i ∧ i - a = k) : turnR k (i + 1) l a by_ = (turnR k i l a by_).set i (l[i] ^^^ by_.getD k 0) := by
  apply List.ext_getElem?
  intro j
  rw [List.getElem?_set]
  by_cases h : j < l.length
  · rw [turnR_get _ _ _ _ _ _ h, turnR_get _ _ _ _ _ _ h, turnR_length]
    by_cases e : i = j
    · subst e; rw [if_pos rfl, if_pos hi, if_pos (by omega), show (i - a).toNat = k by omega]
    · rw [if_neg e]; exact congrArg some (ite_same (by omega) _ _)
  · rw [turnR_none _ _ _ _ _ _ h, turnR_none _ _ _ _ _ _ h, if_neg (by omega)]
theorem turnR_end (l : List UInt8) (a : Int) (by_ : List UInt8) : turnR by_.length 0 l a by_ = turn l a by_ := by
  apply List.ext_getElem?
  intro j
  unfold turn
  by_cases h : j < l.length
  · rw [turnR_get _ _ _ _ _ _ h, turnK_get _ _ _ _ _ h]; exact congrArg some (ite_same (by omega) _ _)
  · rw [turnR_none _ _ _ _ _ _ h, List.getElem?_eq_none (by rw [turnK_length]; omega)]
theorem bat_getD (s : ByteArray) (i : Nat) : bat s i = (bs s).getD i 0 := rfl

end Go.Proofs.YtcbcelfgbelaoaaDoor

