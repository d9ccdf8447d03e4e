/- Numbers without their signs, and as bytes: the program's and the document's, walked. -/
import Derived.Test.YtioonbfinnigpaaGreatDoorRows
import Derived.Test.YtioonbfinnigpaaGreatDoorApps
import Derived.Test.YtioonbfinnigpaaGreatDoorArgs
import Derived.Lib.Zigzag
import Derived.Laws.BitsAllLaws
namespace Go.Proofs.YtioonbfinnigpaaGreatDoor
open Go Go.RowKit
set_option linter.unusedVariables false
set_option maxRecDepth 100000
set_option linter.unusedSimpArgs false
def zigI (n : Int) : Int := if 0 ≤ n then 2 * n else -(2 * n) - 1
def zagI (v : Int) : Int := if v % 2 = 0 then v / 2 else -(v / 2) - 1
theorem zig_eq (n : Int) (h : -9223372036854775808 ≤ n ∧ n ≤ 9223372036854775807) : bits .xor .u64 (IntKind.u64.wrap (IntKind.i64.wrap (n * 2))) (IntKind.u64.wrap (n / 9223372036854775808)) = zigI n := by
  have e1 : IntKind.u64.wrap (IntKind.i64.wrap (n * 2)) = (((2 * n) % 18446744073709551616).toNat : Nat) := by
    rw [IntKind.wrap_u64, IntKind.wrap_i64]; omega
  unfold zigI
  by_cases h0 : 0 ≤ n
  · have e2 : IntKind.u64.wrap (n / 9223372036854775808) = ((0 : Nat) : Int) := by rw [IntKind.wrap_u64]; omega
    rw [e1, e2, bits_xor_u64_nat _ _ (by omega) (by decide), if_pos h0, Nat.xor_zero]
    omega
  · have e2 : IntKind.u64.wrap (n / 9223372036854775808) = ((2 ^ 64 - 1 : Nat) : Int) := by rw [IntKind.wrap_u64]; omega
    rw [e1, e2, bits_xor_u64_nat _ _ (by omega) (by decide), Nat.xor_comm, Lib.xor_ones64 _ (by omega), if_neg h0]
    omega
theorem xor_swap (a b : Int) : bits .xor .i64 a b = bits .xor .i64 b a := by
  show IntKind.i64.wrap ((BitVec.ofInt 64 a ^^^ BitVec.ofInt 64 b).toNat : Int) = IntKind.i64.wrap ((BitVec.ofInt 64 b ^^^ BitVec.ofInt 64 a).toNat : Int)
  rw [BitVec.xor_comm]
theorem xor_zero_i64 (a : Int) (h : 0 ≤ a ∧ a < 9223372036854775808) : bits .xor .i64 a 0 = a := by
  show IntKind.i64.wrap ((BitVec.ofInt 64 a ^^^ BitVec.ofInt 64 0).toNat : Int) = a
  obtain ⟨n, rfl⟩ : ∃ n : Nat, a = n := ⟨a.toNat, by omega⟩
  have h2 : (BitVec.ofInt 64 (n : Int)).toNat = n := by
    rw [BitVec.ofInt_natCast, BitVec.toNat_ofNat]; exact Nat.mod_eq_of_lt (by omega)
  rw [BitVec.toNat_xor, h2, show (BitVec.ofInt 64 0).toNat = 0 by decide, Nat.xor_zero, IntKind.wrap_i64]
  omega
theorem zag_eq (v : Int) (h : 0 ≤ v ∧ v ≤ 18446744073709551615) : bits .xor .i64 (v / 2) (IntKind.i64.wrap (0 - IntKind.i64.wrap (bits .and .u64 v 1))) = zagI v := by
  rw [Lib.u64_and1 v h.1 (by omega)]
  unfold zagI
  by_cases h0 : v % 2 = 0
  · rw [h0, if_pos rfl, show IntKind.i64.wrap (0 - IntKind.i64.wrap 0) = 0 by decide, xor_zero_i64 _ (by omega)]
  · have h1 : v % 2 = 1 := by omega
    rw [if_neg h0, h1, show IntKind.i64.wrap (0 - IntKind.i64.wrap 1) = -1 by decide, xor_swap]
    have := Lib.i64_not (v / 2).toNat (by omega)
    rw [show (((v / 2).toNat : Nat) : Int) = v / 2 by omega] at this
    rw [this]
theorem zig_walk (n : Int) (w0 : World) (h : -9223372036854775808 ≤ n ∧ n ≤ 9223372036854775807) : Does Tryz.prog 63 #[.int .i64 n] w0 (fun r w' => r = .int .u64 (zigI n) ∧ w' = w0) := by
  refine fn_of (n := 10) (args := [.int .i64 n]) Tryz.func63 rfl rfl rfl ?_
  refine W_seq ?_
  refine W_region ?_
  refine L_r (r_ai rfl) ?_
  refine L_nil ?_
  refine W_seq ?_
  refine W_region ?_
  refine L_r (r_mi rfl) ?_
  refine L_r (r_shlc (q := 2) rfl rfl (by omega) (by decide) (by first | exact wr_i64 (by omega) | rfl)) ?_
  refine L_r (r_conv Tryz.underlying2 Tryz.underlying23 rfl (by first | exact wr_u64 (by omega) | rfl)) ?_
  refine L_r (r_mi rfl) ?_
  refine L_r (r_shrc (q := 9223372036854775808) rfl rfl (by omega) (by decide)) ?_
  refine L_r (r_conv Tryz.underlying2 Tryz.underlying23 rfl (by first | exact wr_u64 (by omega) | rfl)) ?_
  refine L_r (r_xor rfl rfl) ?_
  refine L_r (r_ai rfl) ?_
  refine L_nil ?_
  refine W_ret ?_
  refine ret1 (v := .int _ _) rfl rfl ?_
  exact ⟨by rw [← zig_eq n h], rfl⟩
theorem zag_walk (v : Int) (w0 : World) (h : 0 ≤ v ∧ v ≤ 18446744073709551615) : Does Tryz.prog 57 #[.int .u64 v] w0 (fun r w' => r = .int .i64 (zagI v) ∧ w' = w0) := by
  refine fn_of (n := 11) (args := [.int .u64 v]) Tryz.func57 rfl rfl rfl ?_
  refine W_seq ?_
  refine W_region ?_
  refine L_r (r_ai rfl) ?_
  refine L_nil ?_
  refine W_seq ?_
  refine W_region ?_
  refine L_r (r_mi rfl) ?_
  refine L_r (r_shrc (q := 2) rfl rfl (by omega) (by decide)) ?_
  refine L_r (r_conv Tryz.underlying23 Tryz.underlying2 rfl (by first | exact wr_i64 (by omega) | rfl)) ?_
  refine L_r (r_mi rfl) ?_
  refine L_r (r_and rfl rfl) ?_
  refine L_r (r_conv Tryz.underlying23 Tryz.underlying2 rfl (by first | exact wr_i64 (by omega) | rfl)) ?_
  refine L_r (r_neg rfl (by first | exact wr_i64 (by omega) | rfl)) ?_
  refine L_r (r_xor rfl rfl) ?_
  refine L_r (r_ai rfl) ?_
  refine L_nil ?_
  refine W_ret ?_
  refine ret1 (v := .int _ _) rfl rfl ?_
  exact ⟨by rw [← zag_eq v h], rfl⟩
theorem rzig_walk (n : Int) (w0 : World) (h : -9223372036854775808 ≤ n ∧ n ≤ 9223372036854775807) : Does Tryz.prog 55 #[.int .i64 n] w0 (fun r w' => r = .int .u64 (zigI n) ∧ w' = w0) := by
  refine fn_of (n := 14) (args := [.int .i64 n]) Tryz.func55 rfl rfl rfl ?_
  refine W_seq ?_
  refine W_region ?_
  refine L_r (r_ai rfl) ?_
  refine L_nil ?_
  refine W_seq ?_
  refine W_seq ?_
  refine W_region ?_
  refine L_r (r_mi rfl) ?_
  refine L_r (r_geq rfl rfl) ?_
  refine L_nil ?_
  refine W_if rfl (fun h4 => ?_) (fun h4 => ?_)
  · refine W_seq ?_
    refine W_region ?_
    refine L_r (r_mi rfl) ?_
    refine L_r (r_conv Tryz.underlying2 Tryz.underlying23 rfl (by first | exact wr_u64 (by omega) | rfl)) ?_
    refine L_r (r_mul rfl rfl (by first | exact wr_u64 (by omega) | rfl)) ?_
    refine L_r (r_ai rfl) ?_
    refine L_nil ?_
    refine W_ret ?_
    refine ret1 (v := .int _ _) rfl rfl ?_
    refine ⟨?_, rfl⟩
    unfold zigI
    first
      | (rw [if_pos (by assumption)])
      | (rw [if_neg (by assumption)]; congr 1; omega)
  · refine W_skip ?_
    refine W_seq ?_
    refine W_region ?_
    refine L_r (r_mi rfl) ?_
    refine L_r (r_add rfl rfl (by first | exact wr_i64 (by omega) | rfl)) ?_
    refine L_r (r_neg rfl (by first | exact wr_i64 (by omega) | rfl)) ?_
    refine L_r (r_conv Tryz.underlying2 Tryz.underlying23 rfl (by first | exact wr_u64 (by omega) | rfl)) ?_
    refine L_r (r_mul rfl rfl (by first | exact wr_u64 (by omega) | rfl)) ?_
    refine L_r (r_add rfl rfl (by first | exact wr_u64 (by omega) | rfl)) ?_
    refine L_r (r_ai rfl) ?_
    refine L_nil ?_
    refine W_ret ?_
    refine ret1 (v := .int _ _) rfl rfl ?_
    refine ⟨?_, rfl⟩
    unfold zigI
    first
      | (rw [if_pos (by assumption)])
      | (rw [if_neg (by assumption)]; congr 1; omega)
/-- A number as few bytes. -/
def varL (v : Nat) : List UInt8 := if v < 128 then [UInt8.ofNat v] else UInt8.ofNat (v % 128 + 128) :: varL (v / 128)
termination_by v
decreasing_by omega
theorem varL_low {v : Nat} (h : v < 128) : varL v = [UInt8.ofNat v] := by rw [varL, if_pos h]
theorem varL_high {v : Nat} (h : ¬ v < 128) : varL v = UInt8.ofNat (v % 128 + 128) :: varL (v / 128) := by rw [varL, if_neg h]
theorem varL_le : ∀ (k v : Nat), v < 128 ^ (k + 1) → (varL v).length ≤ k + 1
  | 0, v, h => by rw [varL_low (by simpa using h)]; simp
  | k + 1, v, h => by
    by_cases h0 : v < 128
    · rw [varL_low h0]; simp
    · rw [varL_high h0, List.length_cons]
      have := varL_le k (v / 128) (by rw [Nat.pow_succ] at h; omega)
      omega
theorem varL_ten {v : Nat} (h : v ≤ 18446744073709551615) : (varL v).length ≤ 10 := varL_le 9 v (by omega)
theorem varL_pos (v : Nat) : 0 < (varL v).length := by
  by_cases h0 : v < 128
  · rw [varL_low h0]; simp
  · rw [varL_high h0]; simp
theorem or_128 : ∀ y : Fin 256, y.val ||| 128 = y.val % 128 + 128 := by decide +kernel
theorem or_eq (x : Nat) : bits .or .u8 (IntKind.u8.wrap (x : Int)) 128 = ((UInt8.ofNat (x % 128 + 128)).toNat : Int) := by
  have e1 : IntKind.u8.wrap (x : Int) = ((x % 256 : Nat) : Int) := by rw [IntKind.wrap_u8]; omega
  have h := u8_or_nat (x % 256) 128 (by omega) (by decide)
  rw [e1]
  refine h.trans ?_
  rw [or_128 ⟨x % 256, by omega⟩]
  show ((x % 256 % 128 + 128 : Nat) : Int) = _
  rw [UInt8.toNat_ofNat']
  omega
theorem bytes_info : (Tryz.prog.info? 5).map (fun i => (i.zero, i.size, i.bytes)) = some (some (.int .u8 0), 1, 1) := rfl
theorem var_walk (x : Nat) (w0 : World) (h : x ≤ 18446744073709551615) : Does Tryz.prog 60 #[.int .u64 x] w0 (fun r w' => ∃ v', r = v' ∧ Ow w' w0.heap.size 5 1 v' (varL x).length ((varL x).map b8) ∧ Nw w0 w') := by
  have hten := varL_ten h
  refine fn_of (n := 19) (args := [.int .u64 x]) Tryz.func60 rfl rfl rfl ?_
  refine W_seq ?_
  refine W_region ?_
  refine L_r (r_av) ?_
  refine L_nil ?_
  refine W_seq ?_
  refine W_region ?_
  refine L_r (r_av) ?_
  refine L_nil ?_
  refine W_seq ?_
  refine W_block ?_
  refine W_loopF [] (fun mz_ f W => ∃ (y : Nat) (A : List UInt8) (v3 : Value), f 0 = .int .u64 y ∧ f 3 = v3 ∧ (y ≤ 18446744073709551615 ∧ A ++ varL y = varL x ∧ Ow W w0.heap.size 5 1 v3 A.length (A.map b8) ∧ Nw w0 W) ∧ mz_ = y + 1) ?_ ?_
  · refine ⟨_, x, [], .slice none 0 0, rfl, rfl, ?_, rfl⟩
    exact ⟨h, rfl, Ow.nil _ _ _ _, Ch.au⟩
  rintro m0 g0 w1 ⟨y, A, v3, hf0, hf3, hR0, rfl⟩
  refine W_as 0 hf0 rfl ?_
  refine W_as 3 hf3 rfl ?_
  clear hf0 hf3
  obtain ⟨hy, hA, hO, hnw⟩ := hR0
  have hz := hnw.size
  have hAl := congrArg List.length hA
  rw [List.length_append] at hAl
  have hyp := varL_pos y
  refine W_seq ?_
  refine W_seq ?_
  refine W_region ?_
  refine L_r (r_mi rfl) ?_
  refine L_r (r_geq rfl rfl) ?_
  refine L_nil ?_
  refine W_if rfl (fun h5 => ?_) (fun h5 => ?_)
  · refine W_skip ?_
    refine W_seq ?_
    refine W_block ?_
    refine W_region ?_
    refine L_r (r_mv) ?_
    refine L_r (r_mi rfl) ?_
    refine L_r (r_conv Tryz.underlying23 Tryz.underlying5 rfl (by first | exact wr_u8 (by omega) | rfl)) ?_
    refine L_r (r_or rfl rfl) ?_
    refine L_build1 [.int _ _] Tryz.underlying30 rfl rfl rfl (.plain rfl) rfl (by rfl) (by rfl) (by rfl) (fun b12 w2 hb12 hv12 eb2 hs2 c2 => ?_)
    have hB12 : Sl w2 (.slice (some ⟨b12, 0, none⟩) 1 1) 1 1 ([UInt8.ofNat (y % 128 + 128)].map b8) := by
      have e : ([UInt8.ofNat (y % 128 + 128)].map b8) = [.int .u8 (bits .or .u8 (IntKind.u8.wrap (y : Int)) 128)] := by rw [or_eq]; rfl
      rw [e]; exact hv12
    refine L_apow Tryz.underlying30 bytes_info rfl (by decide) (.plain rfl) rfl (by conv => lhs; whnf) (by conv => lhs; whnf) Ow.au Sl.au (b8_oneCell _) (by unfold maxLen; omega) (by omega) (by omega) (fun v13 w3 ho13 c3 hob13 => ?_)
    have hz3 := c3.size
    refine L_r (r_av) ?_
    refine L_nil ?_
    refine W_region ?_
    refine L_r (r_mi rfl) ?_
    refine L_r (r_shrc (q := 128) rfl rfl (by omega) (by decide)) ?_
    refine L_r (r_ai rfl) ?_
    refine L_nil ?_
    refine ⟨trivial, _, ?_, y / 128, A ++ [UInt8.ofNat (y % 128 + 128)], v13, (by exact congrArg (Value.int _) (by omega)), rfl, ?_, rfl⟩
    · omega
    refine ⟨by omega, by rw [List.append_assoc, ← hA, varL_high (v := y) (by omega)]; rfl, ?_, Ch.au⟩
    rw [List.length_append, List.map_append]
    assumption
  · refine W_exit ?_
    repeat (first | refine blk_hit ?_ | refine blk_miss rfl ?_)
    refine W_seq ?_
    refine W_region ?_
    refine L_r (r_mv) ?_
    refine L_r (r_mi rfl) ?_
    refine L_r (r_conv Tryz.underlying23 Tryz.underlying5 rfl (by first | exact wr_u8 (by omega) | rfl)) ?_
    refine L_build1 [.int _ _] Tryz.underlying30 rfl rfl rfl (.plain rfl) rfl (by rfl) (by rfl) (by rfl) (fun b17 w4 hb17 hv17 eb4 hs4 c4 => ?_)
    have hB17 : Sl w4 (.slice (some ⟨b17, 0, none⟩) 1 1) 1 1 ([UInt8.ofNat y].map b8) := by
      have e : ([UInt8.ofNat y].map b8) = [.int .u8 (y : Int)] := by
        show [Value.int .u8 ((UInt8.ofNat y).toNat : Int)] = _
        rw [UInt8.toNat_ofNat']
        congr 2
        omega
      rw [e]; exact hv17
    refine L_apow Tryz.underlying30 bytes_info rfl (by decide) (.plain rfl) rfl (by conv => lhs; whnf) (by conv => lhs; whnf) Ow.au Sl.au (b8_oneCell _) (by unfold maxLen; omega) (by omega) (by omega) (fun v18 w5 ho18 c5 hob18 => ?_)
    have hz5 := c5.size
    refine L_r (r_av) ?_
    refine L_nil ?_
    refine W_ret ?_
    refine ret1 rfl (by conv => lhs; whnf) ?_
    refine ⟨_, rfl, ?_, Ch.au⟩
    rw [← hA, varL_low (v := y) (by omega), List.length_append, List.map_append]
    assumption
theorem rvar_walk (x : Nat) (w0 : World) (h : x ≤ 18446744073709551615) : Does Tryz.prog 11 #[.int .u64 x] w0 (fun r w' => r = .string (sb (varL x)) ∧ Nw w0 w') := by
  have hten := varL_ten h
  refine fn_of (n := 22) (args := [.int .u64 x]) Tryz.func11 rfl rfl rfl ?_
  refine W_seq ?_
  refine W_region ?_
  refine L_r (r_as rfl) ?_
  refine L_nil ?_
  refine W_seq ?_
  refine W_region ?_
  refine L_r (r_as rfl) ?_
  refine L_nil ?_
  refine W_seq ?_
  refine W_block ?_
  refine W_loopF [] (fun mz_ f W => ∃ (y : Nat) (A : List UInt8), f 0 = .int .u64 y ∧ f 3 = .string (sb A) ∧ (y ≤ 18446744073709551615 ∧ A ++ varL y = varL x ∧ Nw w0 W) ∧ mz_ = y + 1) ?_ ?_
  · refine ⟨_, x, [], rfl, rfl, ?_, rfl⟩
    exact ⟨h, rfl, Ch.au⟩
  rintro m0 g0 w1 ⟨y, A, hf0, hf3, hR0, rfl⟩
  refine W_as 0 hf0 rfl ?_
  refine W_as 3 hf3 rfl ?_
  clear hf0 hf3
  obtain ⟨hy, hA, hnw⟩ := hR0
  have hz := hnw.size
  have hAl := congrArg List.length hA
  rw [List.length_append] at hAl
  have hyp := varL_pos y
  have hsz := sb_size A
  refine W_seq ?_
  refine W_seq ?_
  refine W_region ?_
  refine L_r (r_mi rfl) ?_
  refine L_r (r_geq rfl rfl) ?_
  refine L_nil ?_
  refine W_if rfl (fun h5 => ?_) (fun h5 => ?_)
  · refine W_skip ?_
    refine W_block ?_
    refine W_seq ?_
    refine W_region ?_
    refine L_r (r_ms rfl) ?_
    refine L_r (r_mi rfl) ?_
    refine L_r (r_remn rfl rfl (by omega) (by omega)) ?_
    refine L_r (r_add rfl rfl (by first | exact wr_u64 (by omega) | rfl)) ?_
    refine L_r (r_conv Tryz.underlying23 Tryz.underlying5 rfl (by first | exact wr_u8 (by omega) | rfl)) ?_
    refine L_build1 [.int _ _] Tryz.underlying30 rfl rfl rfl (.plain rfl) rfl (by rfl) (by rfl) (by rfl) (fun b11 w2 hb11 hv11 eb2 hs2 c2 => ?_)
    have hB11 : By w2 (.slice (some ⟨b11, 0, none⟩) 1 1) [UInt8.ofNat (y % 128 + 128)] := by
      have e : ([UInt8.ofNat (y % 128 + 128)].map b8) = [.int .u8 ((y : Int) % 128 + 128)] := by
        show [Value.int .u8 ((UInt8.ofNat (y % 128 + 128)).toNat : Int)] = _
        rw [UInt8.toNat_ofNat']
        congr 2
        omega
      show Sl _ _ 1 1 ([UInt8.ofNat (y % 128 + 128)].map b8)
      rw [e]; exact hv11
    refine L_r (r_bstr Tryz.underlying30 Tryz.underlying5 Tryz.underlying9 (by conv => lhs; whnf) Sl.au) ?_
    refine L_r (r_adds rfl rfl (by first | omega | (simp only [ByteArray.size_append, sb_size, List.length_cons, List.length_nil]; omega))) ?_
    refine L_r (r_as rfl) ?_
    refine L_nil ?_
    refine W_region ?_
    refine L_r (r_mi rfl) ?_
    refine L_r (r_quon rfl rfl (by omega) (by omega) (by first | exact wr_u64 (by omega) | rfl)) ?_
    refine L_r (r_ai rfl) ?_
    refine L_nil ?_
    refine ⟨trivial, _, ?_, y / 128, A ++ [UInt8.ofNat (y % 128 + 128)], (by exact congrArg (Value.int _) (by omega)), (by exact congrArg Value.string (sb_append _ _).symm), ?_, rfl⟩
    · omega
    exact ⟨by omega, by rw [List.append_assoc, ← hA, varL_high (v := y) (by omega)]; rfl, Ch.au⟩
  · refine W_exit ?_
    repeat (first | refine blk_hit ?_ | refine blk_miss rfl ?_)
    refine W_seq ?_
    refine W_region ?_
    refine L_r (r_ms rfl) ?_
    refine L_r (r_mi rfl) ?_
    refine L_r (r_conv Tryz.underlying23 Tryz.underlying5 rfl (by first | exact wr_u8 (by omega) | rfl)) ?_
    refine L_build1 [.int _ _] Tryz.underlying30 rfl rfl rfl (.plain rfl) rfl (by rfl) (by rfl) (by rfl) (fun b19 w3 hb19 hv19 eb3 hs3 c3 => ?_)
    have hB19 : By w3 (.slice (some ⟨b19, 0, none⟩) 1 1) [UInt8.ofNat y] := by
      have e : ([UInt8.ofNat y].map b8) = [.int .u8 (y : Int)] := by
        show [Value.int .u8 ((UInt8.ofNat y).toNat : Int)] = _
        rw [UInt8.toNat_ofNat']
        congr 2
        omega
      show Sl _ _ 1 1 ([UInt8.ofNat y].map b8)
      rw [e]; exact hv19
    refine L_r (r_bstr Tryz.underlying30 Tryz.underlying5 Tryz.underlying9 (by conv => lhs; whnf) Sl.au) ?_
    refine L_r (r_adds rfl rfl (by first | omega | (simp only [ByteArray.size_append, sb_size, List.length_cons, List.length_nil]; omega))) ?_
    refine L_r (r_as rfl) ?_
    refine L_nil ?_
    refine W_ret ?_
    refine ret1 (v := .string _) rfl rfl ?_
    exact ⟨by rw [← hA, varL_low (v := y) (by omega), sb_append], Ch.au⟩
theorem rint_walk (n : Int) (w0 : World) (h : -9223372036854775808 ≤ n ∧ n ≤ 9223372036854775807) : Does Tryz.prog 25 #[.int .i64 n] w0 (fun r w' => r = .string (sb (varL (zigI n).toNat)) ∧ Nw w0 w') := by
  have hzg : 0 ≤ zigI n ∧ zigI n ≤ 18446744073709551615 := by unfold zigI; split <;> omega
  obtain ⟨q, hq⟩ : ∃ q : Nat, zigI n = q := ⟨(zigI n).toNat, by omega⟩
  refine fn_of (n := 6) (args := [.int .i64 n]) Tryz.func25 rfl rfl rfl ?_
  refine W_seq ?_
  refine W_region ?_
  refine L_r (r_as rfl) ?_
  refine L_nil ?_
  refine W_seq ?_
  refine W_region ?_
  refine L_r (r_mi rfl) ?_
  refine L_call (.plain rfl) rfl rfl (r_call Tryz.func55 rfl rfl rfl (by rfl)) (rzig_walk n _ h) ?_
  rintro v4 w1 ⟨rfl, rfl⟩
  rw [hq]
  refine L_call (.plain rfl) rfl rfl (r_call Tryz.func11 rfl rfl rfl (by rfl)) (rvar_walk q _ (by omega)) ?_
  rintro v5 w2 ⟨rfl, c2⟩
  have hz2 := c2.size
  refine L_r (r_as rfl) ?_
  refine L_nil ?_
  refine W_ret ?_
  refine ret1 (v := .string _) rfl rfl ?_
  exact ⟨rfl, Ch.au⟩
def flagL (b : Bool) : List UInt8 := if b then [1] else [0]
theorem rtext_walk (s : ByteArray) (w0 : World) (hs : s.size ≤ 1000000000) : Does Tryz.prog 26 #[.string s] w0 (fun r w' => r = .string (sb (varL s.size) ++ s) ∧ Nw w0 w') := by
  have hten := varL_ten (v := s.size) (by omega)
  have hsz := sb_size (varL s.size)
  refine fn_of (n := 9) (args := [.string s]) Tryz.func26 rfl rfl rfl ?_
  refine W_seq ?_
  refine W_region ?_
  refine L_r (r_as rfl) ?_
  refine L_nil ?_
  refine W_seq ?_
  refine W_region ?_
  refine L_r (r_ms rfl) ?_
  refine L_r (r_lens Tryz.underlying9 rfl) ?_
  refine L_r (r_conv Tryz.underlying3 Tryz.underlying23 rfl (by first | exact wr_u64 (by omega) | rfl)) ?_
  refine L_call (.plain rfl) rfl rfl (r_call Tryz.func11 rfl rfl rfl (by rfl)) (rvar_walk s.size _ (by omega)) ?_
  rintro v6 w1 ⟨rfl, c1⟩
  have hz1 := c1.size
  refine L_r (r_ms rfl) ?_
  refine L_r (r_adds rfl rfl (by first | omega | (simp only [ByteArray.size_append]; omega))) ?_
  refine L_r (r_as rfl) ?_
  refine L_nil ?_
  refine W_ret ?_
  refine ret1 (v := .string _) rfl rfl ?_
  exact ⟨rfl, Ch.au⟩
end Go.Proofs.YtioonbfinnigpaaGreatDoor

