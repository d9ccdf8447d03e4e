/- The library's sort of numbers, walked: patterns are broken. -/
import Derived.Test.YtjjddbicggfgnaaSort3
import Derived.Laws.BitsAllLaws
namespace Go.Proofs.Ytjjddbicggfgnaa
open Go Go.RowKit
set_option linter.unusedVariables false
set_option linter.unusedSimpArgs false
theorem u64_bd (op : BinOp) (a b : Int) : 0 ≤ bits op IntKind.u64 a b ∧ bits op IntKind.u64 a b ≤ 18446744073709551615 := by
  simp only [bits, IntKind.wrap, IntKind.bits, IntKind.signed]
  simp; omega
theorem xs_any {w : World} {p : Nat} {t : TypeId} {a b : Int} (h : Bk w p #[.int .u64 (bits .xor .u64 a b)] t) : ∃ s : Nat, Bk w p #[.int .u64 (s : Int)] t ∧ s ≤ 18446744073709551615 := by
  have hb := u64_bd .xor a b
  refine ⟨(bits .xor .u64 a b).toNat, ?_, by omega⟩
  rw [Int.toNat_of_nonneg hb.1]; exact h
set_option maxRecDepth 100000 in
theorem pow2_walk (x : Nat) (w0 : World) (hx : x ≤ 60000) (h0 : 0 < x) : Does Try.prog 60 #[.int .i64 x] w0 (fun r w' => ∃ M : Nat, r = .int .u64 (M : Int) ∧ 0 < M ∧ M ≤ 2 * x ∧ Nw w0 w') := by
  refine fn_of (n := 7) (args := [.int .i64 x]) Try.func60 rfl rfl rfl ?_
  refine W_seq ?_
  refine W_region ?_
  refine L_r (r_ai rfl) ?_
  refine L_nil ?_
  refine W_seq ?_
  refine W_region ?_
  refine L_r (r_mi rfl) ?_
  refine L_r (r_conv Try.underlying3 Try.underlying85 rfl (by first | exact wr_u64 (by omega) | rfl)) ?_
  refine L_call (.plain rfl) rfl rfl (r_call Try.func42 rfl rfl rfl (by rfl)) (len_walk x _ hx) ?_
  rintro v5 w1 ⟨k, rfl, hk, hk2, c1⟩
  have hz1 := c1.size
  refine L_r (r_shl rfl rfl (by omega) rfl) ?_
  refine L_r (r_ai rfl) ?_
  refine L_nil ?_
  refine W_ret ?_
  refine ret1 (v := .int _ _) rfl rfl ?_
  refine ⟨2 ^ k, ?_, Nat.two_pow_pos k, (hk2 h0).1, Ch.au⟩
  have e1 : min ((k : Int)).toNat 64 = k := by omega
  have e2 : 2 ^ k ≤ 2 ^ 16 := Nat.pow_le_pow_right (by decide) hk
  show Value.int .u64 (IntKind.u64.wrap (1 * 2 ^ min ((k : Int)).toNat 64)) = _
  rw [e1, Int.one_mul, show ((2 : Int) ^ k) = ((2 ^ k : Nat) : Int) by simp, wr_u64 (by omega)]
set_option maxRecDepth 100000 in
theorem next_walk (p s : Nat) (w0 : World) (hp : Bk w0 p #[.int .u64 s] 100) (hs : s ≤ 18446744073709551615) : Does Try.prog 61 #[.pointer (some ⟨p, 0, none⟩)] w0 (fun r w' => ∃ s' : Nat, r = .int .u64 (s' : Int) ∧ Bk w' p #[.int .u64 (s' : Int)] 100 ∧ s' ≤ 18446744073709551615 ∧ Ch (fun j => j = p) w0 w') := by
  refine fn_of (n := 33) (args := [.pointer (some ⟨p, 0, none⟩)]) Try.func61 rfl rfl rfl ?_
  refine W_seq ?_
  refine W_region ?_
  refine L_r (r_ai rfl) ?_
  refine L_nil ?_
  refine W_seq ?_
  refine W_draw (fun W => Bk W p #[.int .u64 s] 100) 9 (m := 10) (by kernel_rfl) rfl (fun w1 c1 hs1 => ?_)
  refine held Bk.au (fun hS => ?_)
  refine D_t 0 rfl (fun W hW => r_mp rfl) ?_
  refine D_t 1 rfl (fun W hW => r_nilCheck rfl) ?_
  refine D_t 2 rfl (fun W hW => r_loadb rfl rfl (by exact hW) (by first | assumption | (conv => lhs; simp only [List.getElem?_toArray, List.getElem?_cons_succ, List.getElem?_cons_zero]))) ?_
  refine D_t 3 rfl (fun W hW => r_mp rfl) ?_
  refine D_t 4 rfl (fun W hW => r_nilCheck rfl) ?_
  refine D_t 5 rfl (fun W hW => r_loadb rfl rfl (by exact hW) (by first | assumption | (conv => lhs; simp only [List.getElem?_toArray, List.getElem?_cons_succ, List.getElem?_cons_zero]))) ?_
  refine D_t 6 rfl (fun W hW => r_shlc (q := 8192) rfl rfl (by omega) (by decide) (by first | exact wr_u64 (by omega) | rfl)) ?_
  refine D_t 7 rfl (fun W hW => r_xor rfl rfl) ?_
  refine D_t 8 rfl (fun W hW => r_nilCheck rfl) ?_
  refine D_ev 9 (by kernel_rfl) rfl ?_
  refine L_set (.plain rfl) rfl Bk.au (r_store (v := .int _ _) rfl rfl rfl rfl Bk.au (by first | decide | (simp; done) | omega)) (fun w2 hb2 hs2 c2 => ?_)
  try simp only [List.setIfInBounds_toArray, List.set_cons_zero, List.set_cons_succ] at hb2
  refine L_nil ?_
  refine heldL ?_
  refine D_done (by kernel_rfl) ?_
  refine W_seq ?_
  obtain ⟨s1, hp1, hs1⟩ := xs_any (by assumption : Bk w2 p #[.int .u64 (bits .xor .u64 _ _)] 100)
  refine W_draw (fun W => Bk W p #[.int .u64 s1] 100) 9 (m := 10) (by kernel_rfl) rfl (fun w3 c3 hs3 => ?_)
  refine held Bk.au (fun hS => ?_)
  refine D_t 0 rfl (fun W hW => r_mp rfl) ?_
  refine D_t 1 rfl (fun W hW => r_nilCheck rfl) ?_
  refine D_t 2 rfl (fun W hW => r_loadb rfl rfl (by exact hW) (by first | assumption | (conv => lhs; simp only [List.getElem?_toArray, List.getElem?_cons_succ, List.getElem?_cons_zero]))) ?_
  refine D_t 3 rfl (fun W hW => r_mp rfl) ?_
  refine D_t 4 rfl (fun W hW => r_nilCheck rfl) ?_
  refine D_t 5 rfl (fun W hW => r_loadb rfl rfl (by exact hW) (by first | assumption | (conv => lhs; simp only [List.getElem?_toArray, List.getElem?_cons_succ, List.getElem?_cons_zero]))) ?_
  refine D_t 6 rfl (fun W hW => r_shrc (q := 128) rfl rfl (by omega) (by decide)) ?_
  refine D_t 7 rfl (fun W hW => r_xor rfl rfl) ?_
  refine D_t 8 rfl (fun W hW => r_nilCheck rfl) ?_
  refine D_ev 9 (by kernel_rfl) rfl ?_
  refine L_set (.plain rfl) rfl Bk.au (r_store (v := .int _ _) rfl rfl rfl rfl Bk.au (by first | decide | (simp; done) | omega)) (fun w4 hb4 hs4 c4 => ?_)
  try simp only [List.setIfInBounds_toArray, List.set_cons_zero, List.set_cons_succ] at hb4
  refine L_nil ?_
  refine heldL ?_
  refine D_done (by kernel_rfl) ?_
  refine W_seq ?_
  obtain ⟨s2, hp2, hs2⟩ := xs_any (by assumption : Bk w4 p #[.int .u64 (bits .xor .u64 _ _)] 100)
  refine W_draw (fun W => Bk W p #[.int .u64 s2] 100) 9 (m := 10) (by kernel_rfl) rfl (fun w5 c5 hs5 => ?_)
  refine held Bk.au (fun hS => ?_)
  refine D_t 0 rfl (fun W hW => r_mp rfl) ?_
  refine D_t 1 rfl (fun W hW => r_nilCheck rfl) ?_
  refine D_t 2 rfl (fun W hW => r_loadb rfl rfl (by exact hW) (by first | assumption | (conv => lhs; simp only [List.getElem?_toArray, List.getElem?_cons_succ, List.getElem?_cons_zero]))) ?_
  refine D_t 3 rfl (fun W hW => r_mp rfl) ?_
  refine D_t 4 rfl (fun W hW => r_nilCheck rfl) ?_
  refine D_t 5 rfl (fun W hW => r_loadb rfl rfl (by exact hW) (by first | assumption | (conv => lhs; simp only [List.getElem?_toArray, List.getElem?_cons_succ, List.getElem?_cons_zero]))) ?_
  refine D_t 6 rfl (fun W hW => r_shlc (q := 131072) rfl rfl (by omega) (by decide) (by first | exact wr_u64 (by omega) | rfl)) ?_
  refine D_t 7 rfl (fun W hW => r_xor rfl rfl) ?_
  refine D_t 8 rfl (fun W hW => r_nilCheck rfl) ?_
  refine D_ev 9 (by kernel_rfl) rfl ?_
  refine L_set (.plain rfl) rfl Bk.au (r_store (v := .int _ _) rfl rfl rfl rfl Bk.au (by first | decide | (simp; done) | omega)) (fun w6 hb6 hs6 c6 => ?_)
  try simp only [List.setIfInBounds_toArray, List.set_cons_zero, List.set_cons_succ] at hb6
  refine L_nil ?_
  refine heldL ?_
  refine D_done (by kernel_rfl) ?_
  refine W_seq ?_
  obtain ⟨s3, hp3, hs3⟩ := xs_any (by assumption : Bk w6 p #[.int .u64 (bits .xor .u64 _ _)] 100)
  refine W_region ?_
  refine L_r (r_mp rfl) ?_
  refine L_r (r_nilCheck rfl) ?_
  refine L_r (r_lb rfl rfl) ?_
  refine L_r (r_ai rfl) ?_
  refine L_nil ?_
  refine W_ret ?_
  refine ret1 (v := .int _ _) rfl rfl ?_
  exact ⟨s3, rfl, hp3, hs3, Ch.au⟩
theorem and_le (x M : Nat) (hx : x ≤ 18446744073709551615) (h0 : 0 < M) (hM : M ≤ 200000) : ∃ y : Nat, bits .and .u64 (x : Int) ((M : Int) - 1) = (y : Int) ∧ y < M := by
  refine ⟨x &&& (M - 1), ?_, ?_⟩
  · rw [show (M : Int) - 1 = ((M - 1 : Nat) : Int) by omega]
    exact u64_and_nat x (M - 1) (by omega) (by omega)
  · have := Nat.and_le_right (n := x) (m := M - 1)
    omega
set_option maxHeartbeats 1000000 in
set_option maxRecDepth 100000 in
theorem break_walk (base : Nat) (v : Value) (X : List Nat) (a b : Nat) (w0 : World) (hv : Dt base w0 v X) (hab : a + 12 < b) (hb : b ≤ X.length) (hl : X.length ≤ 60000) : Does Try.prog 50 #[v, .int .i64 a, .int .i64 b] w0 (fun r w' => r = .tuple #[] ∧ (∃ Y, Dt base w' v Y ∧ Rg a b X Y) ∧ DtC v w0 w') := by
  have how := hv
  obtain ⟨q, hq⟩ : ∃ q : Nat, q = (b - a) / 4 := ⟨_, rfl⟩
  refine fn_of (n := 65) (args := [v, .int .i64 a, .int .i64 b]) Try.func50 rfl rfl rfl ?_
  refine W_seq ?_
  refine W_region ?_
  refine L_r (r_mi rfl) ?_
  refine L_r (r_mi rfl) ?_
  refine L_r (r_sub rfl rfl (by first | exact wr_i64 (by omega) | rfl)) ?_
  rw [show (b : Int) - (a : Int) = ((b - a : Nat) : Int) by omega]
  refine L_r (r_ai rfl) ?_
  refine L_nil ?_
  refine W_seq ?_
  refine W_region ?_
  refine L_r (r_mi rfl) ?_
  refine L_r (r_geq rfl rfl) ?_
  refine L_nil ?_
  refine W_if rfl (fun h15 => ?_) (fun h15 => ?_)
  · refine W_seq ?_
    refine W_region ?_
    refine L_r (r_mi rfl) ?_
    refine L_r (r_conv Try.underlying3 Try.underlying100 rfl (by first | exact wr_u64 (by omega) | rfl)) ?_
    refine L_new (.plain rfl) rfl rfl (r_alloc1 rfl rfl) (fun w1 b7 hb7 eb1 hs1 c1 => ?_)
    refine L_set (.plain rfl) rfl Bk.au (r_store (v := .int _ _) rfl rfl rfl rfl Bk.au (by first | omega | (simp only [List.length_set, ucells_length]; omega) | (simp; done))) (fun w2 hb2 hs2 c2 => ?_)
    try simp only [List.setIfInBounds_toArray, List.set_cons_zero, List.set_cons_succ] at hb2
    refine L_nil ?_
    refine W_seq ?_
    refine W_region ?_
    refine L_r (r_mi rfl) ?_
    refine L_call (.plain rfl) rfl rfl (r_call Try.func60 rfl rfl rfl (by rfl)) (pow2_walk (b - a) _ (by omega) (by omega)) ?_
    rintro v19 w3 ⟨M, rfl, hM0, hM, c3⟩
    have hz3 := c3.size
    refine L_r (r_ai rfl) ?_
    refine L_nil ?_
    refine W_seq ?_
    refine W_region ?_
    refine L_r (r_mi rfl) ?_
    refine L_r (r_mi rfl) ?_
    refine L_r (r_quon rfl rfl (by omega) (by omega) (by first | exact wr_i64 (by omega) | rfl)) ?_
    refine L_r (r_mul rfl rfl (by first | exact wr_i64 (by omega) | rfl)) ?_
    refine L_r (r_add rfl rfl (by first | exact wr_i64 (by omega) | rfl)) ?_
    refine L_r (r_sub rfl rfl (by first | exact wr_i64 (by omega) | rfl)) ?_
    rw [show (a : Int) + ((b - a : Nat) : Int) / 4 * 2 - 1 = ((a + q * 2 - 1 : Nat) : Int) by omega]
    refine L_r (r_ai rfl) ?_
    refine L_nil ?_
    refine W_block ?_
    refine W_loopF [0, 1, 6, 7, 8] (fun mz_ f W => ∃ (i : Nat) (s : Nat) (Z : List Nat), f 9 = .int .i64 i ∧ (a + q * 2 - 1 ≤ i ∧ i ≤ a + q * 2 + 2 ∧ Bk W b7 #[.int .u64 s] 100 ∧ s ≤ 18446744073709551615 ∧ Dt base W v Z ∧ Rg a b X Z ∧ DtC v w0 W) ∧ mz_ = a + q * 2 + 3 - i) ?_ ?_
    · refine ⟨_, a + q * 2 - 1, b - a, X, rfl, ?_, rfl⟩
      exact ⟨by omega, by omega, Bk.au, by omega, Ow.au, Rg.refl, Ch.au⟩
    rintro m0 g0 w4 ⟨i, s, Z, hf9, hR0, rfl⟩
    refine W_as 9 hf9 rfl ?_
    clear hf9
    obtain ⟨hi1, hi2, hb7s, hs, hZ, hR, hc⟩ := hR0
    have hz := hc.size
    have hlz := hR.length
    refine W_seq ?_
    refine W_seq ?_
    refine W_region ?_
    refine L_r (r_mi rfl) ?_
    refine L_r (r_mi rfl) ?_
    refine L_r (r_mi rfl) ?_
    refine L_r (r_quon rfl rfl (by omega) (by omega) (by first | exact wr_i64 (by omega) | rfl)) ?_
    refine L_r (r_mul rfl rfl (by first | exact wr_i64 (by omega) | rfl)) ?_
    refine L_r (r_add rfl rfl (by first | exact wr_i64 (by omega) | rfl)) ?_
    refine L_r (r_add rfl rfl (by first | exact wr_i64 (by omega) | rfl)) ?_
    refine L_r (r_leq rfl rfl) ?_
    refine L_nil ?_
    refine W_if rfl (fun h33 => ?_) (fun h33 => ?_)
    · have hiq : i ≤ a + q * 2 + 1 := by omega
      refine W_skip ?_
      refine W_seq ?_
      refine W_block ?_
      refine W_seq ?_
      refine W_region ?_
      refine L_call (.plain rfl) rfl rfl (r_call Try.func61 rfl rfl rfl (by rfl)) (next_walk b7 s _ hb7s hs) ?_
      rintro v36 w5 ⟨s1, rfl, hb7n, hs1, c5⟩
      have hz5 := c5.size
      obtain ⟨y0, hy0, hy1⟩ := and_le s1 M hs1 hM0 (by omega)
      refine L_r (r_mi rfl) ?_
      refine L_r (r_sub rfl rfl (by first | exact wr_u64 (by omega) | rfl)) ?_
      refine L_r (r_and rfl rfl) ?_
      rw [hy0]
      refine L_r (r_conv Try.underlying85 Try.underlying3 rfl (by first | exact wr_i64 (by omega) | rfl)) ?_
      refine L_r (r_ai rfl) ?_
      refine L_nil ?_
      refine W_seq ?_
      refine W_seq ?_
      refine W_region ?_
      refine L_r (r_mi rfl) ?_
      refine L_r (r_mi rfl) ?_
      refine L_r (r_geq rfl rfl) ?_
      refine L_nil ?_
      refine W_endF [0, 1, 6, 7, 8, 9] (fun f W => ∃ (y : Nat), f 10 = .int .i64 y ∧ (y < b - a ∧ W = w5)) ?_ ?_
      · refine W_if rfl (fun h43 => ?_) (fun h43 => ?_)
        · refine W_region ?_
          refine L_r (r_mi rfl) ?_
          refine L_r (r_mi rfl) ?_
          refine L_r (r_sub rfl rfl (by first | exact wr_i64 (by omega) | rfl)) ?_
          refine L_r (r_ai rfl) ?_
          refine L_nil ?_
          refine ⟨⟨rfl, rfl, rfl, rfl, rfl, rfl, trivial⟩, if b - a ≤ y0 then y0 - (b - a) else y0, (by first
| exact congrArg (Value.int .i64) (by rw [if_pos (by omega)]; omega)
| exact congrArg (Value.int .i64) (by rw [if_neg (by omega)])), ?_⟩
          exact ⟨by split <;> omega, rfl⟩
        · refine W_skip ?_
          refine ⟨⟨rfl, rfl, rfl, rfl, rfl, rfl, trivial⟩, if b - a ≤ y0 then y0 - (b - a) else y0, (by first
| exact congrArg (Value.int .i64) (by rw [if_pos (by omega)]; omega)
| exact congrArg (Value.int .i64) (by rw [if_neg (by omega)])), ?_⟩
          exact ⟨by split <;> omega, rfl⟩
      rintro gct43 w6 ⟨y, hf10, hCt43⟩
      refine W_as 10 hf10 rfl ?_
      clear hf10
      obtain ⟨hy, rfl⟩ := hCt43
      refine W_draw (fun W => ∃ xs, Sl W v 1 Z.length xs) 19 (m := 20) (by kernel_rfl) rfl (fun w7 c7 hs7 => ?_)
      refine held (by exact ⟨_, Sl.au⟩) (fun hS => ?_)
      refine D_t 0 rfl (fun W hW => r_mv) ?_
      refine D_t 1 rfl (fun W hW => r_mi rfl) ?_
      refine D_t 2 rfl (fun W hW => r_mv) ?_
      refine D_t 3 rfl (fun W hW => r_mi rfl) ?_
      refine D_t 4 rfl (fun W hW => r_mi rfl) ?_
      refine D_t 5 rfl (fun W hW => r_add rfl rfl (by first | exact wr_i64 (by omega) | rfl)) ?_
      refine D_t 6 rfl (fun W hW => r_mv) ?_
      refine D_t 7 rfl (fun W hW => r_mi rfl) ?_
      refine D_t 8 rfl (fun W hW => r_mi rfl) ?_
      refine D_t 9 rfl (fun W hW => r_add rfl rfl (by first | exact wr_i64 (by omega) | rfl)) ?_
      refine D_t 10 rfl (fun W hW => r_ix Try.underlying80 (show _ = some 1 from rfl) (by conv => lhs; whnf) rfl (by exact hW.choose_spec)) ?_
      refine D_t 12 rfl (fun W hW => r_mv) ?_
      refine D_t 13 rfl (fun W hW => r_mi rfl) ?_
      refine D_t 14 rfl (fun W hW => r_ix Try.underlying80 (show _ = some 1 from rfl) (by conv => lhs; whnf) rfl (by exact hW.choose_spec)) ?_
      refine D_ev2 11 15 (by kernel_rfl) rfl rfl ?_ ?_
      · refine L_r (r_loadSl rfl rfl Sl.au (by first | assumption | exact ucells_gt Z _ (by omega) | (conv => lhs; simp only [List.getElem?_toArray, List.getElem?_cons_succ, List.getElem?_cons_zero]))) ?_
        refine L_nil ?_
        refine heldK (by exact ⟨_, Sl.au⟩) (fun hS => ?_)
        refine D_ev 15 (by kernel_rfl) rfl ?_
        refine L_r (r_loadSl rfl rfl Sl.au (by first | assumption | exact ucells_gt Z _ (by omega) | (conv => lhs; simp only [List.getElem?_toArray, List.getElem?_cons_succ, List.getElem?_cons_zero]))) ?_
        refine L_nil ?_
        refine heldK (by exact ⟨_, Sl.au⟩) (fun hS => ?_)
        refine D_t 16 rfl (fun W hW => r_ix Try.underlying80 (show _ = some 1 from rfl) (by conv => lhs; whnf) rfl (by exact hW.choose_spec)) ?_
        refine D_ev 17 (by kernel_rfl) rfl ?_
        refine L_setOw (.plain rfl) rfl rfl (u := .int _ _) rfl rfl Ow.au (by first | omega | (simp only [List.length_set, ucells_length]; omega) | (simp; done)) (fun w8 hb8 hs8 c8 => ?_)
        refine L_nil ?_
        refine heldK (by exact ⟨_, Sl.au⟩) (fun hS => ?_)
        refine D_t 18 rfl (fun W hW => r_ix Try.underlying80 (show _ = some 1 from rfl) (by conv => lhs; whnf) rfl (by exact hW.choose_spec)) ?_
        refine D_ev 19 (by kernel_rfl) rfl ?_
        refine L_setOw (.plain rfl) rfl rfl (u := .int _ _) rfl rfl Ow.au (by first | omega | (simp only [List.length_set, ucells_length]; omega) | (simp; done)) (fun w9 hb9 hs9 c9 => ?_)
        refine L_nil ?_
        refine heldL ?_
        refine D_done (by kernel_rfl) ?_
        refine W_region ?_
        refine L_r (r_mi rfl) ?_
        refine L_r (r_add rfl rfl (by first | exact wr_i64 (by omega) | rfl)) ?_
        refine L_r (r_ai rfl) ?_
        refine L_nil ?_
        refine ⟨⟨rfl, rfl, rfl, rfl, rfl, trivial⟩, _, ?_, i + 1, s1, swp Z i (a + y), rfl, ?_, rfl⟩
        · omega
        have e : ((a : Int) + (y : Int)).toNat = a + y := by omega
        have hB : Ow w9 base 26 1 v Z.length (((ucells Z).set i (.int .u64 (gt Z ((a : Int) + (y : Int)).toNat : Int))).set ((a : Int) + (y : Int)).toNat (.int .u64 (gt Z i : Int))) := by assumption
        rw [e] at hB
        exact ⟨by omega, by omega, Bk.au, hs1, dt_swp hB, Rg.swap Z i (a + y) hR (by omega) (by omega) (by omega) (by omega) hb, Ch.au⟩
      · refine L_r (r_loadSl rfl rfl Sl.au (by first | assumption | exact ucells_gt Z _ (by omega) | (conv => lhs; simp only [List.getElem?_toArray, List.getElem?_cons_succ, List.getElem?_cons_zero]))) ?_
        refine L_nil ?_
        refine heldK (by exact ⟨_, Sl.au⟩) (fun hS => ?_)
        refine D_ev 11 (by kernel_rfl) rfl ?_
        refine L_r (r_loadSl rfl rfl Sl.au (by first | assumption | exact ucells_gt Z _ (by omega) | (conv => lhs; simp only [List.getElem?_toArray, List.getElem?_cons_succ, List.getElem?_cons_zero]))) ?_
        refine L_nil ?_
        refine heldK (by exact ⟨_, Sl.au⟩) (fun hS => ?_)
        refine D_t 16 rfl (fun W hW => r_ix Try.underlying80 (show _ = some 1 from rfl) (by conv => lhs; whnf) rfl (by exact hW.choose_spec)) ?_
        refine D_ev 17 (by kernel_rfl) rfl ?_
        refine L_setOw (.plain rfl) rfl rfl (u := .int _ _) rfl rfl Ow.au (by first | omega | (simp only [List.length_set, ucells_length]; omega) | (simp; done)) (fun w10 hb10 hs10 c10 => ?_)
        refine L_nil ?_
        refine heldK (by exact ⟨_, Sl.au⟩) (fun hS => ?_)
        refine D_t 18 rfl (fun W hW => r_ix Try.underlying80 (show _ = some 1 from rfl) (by conv => lhs; whnf) rfl (by exact hW.choose_spec)) ?_
        refine D_ev 19 (by kernel_rfl) rfl ?_
        refine L_setOw (.plain rfl) rfl rfl (u := .int _ _) rfl rfl Ow.au (by first | omega | (simp only [List.length_set, ucells_length]; omega) | (simp; done)) (fun w11 hb11 hs11 c11 => ?_)
        refine L_nil ?_
        refine heldL ?_
        refine D_done (by kernel_rfl) ?_
        refine W_region ?_
        refine L_r (r_mi rfl) ?_
        refine L_r (r_add rfl rfl (by first | exact wr_i64 (by omega) | rfl)) ?_
        refine L_r (r_ai rfl) ?_
        refine L_nil ?_
        refine ⟨⟨rfl, rfl, rfl, rfl, rfl, trivial⟩, _, ?_, i + 1, s1, swp Z i (a + y), rfl, ?_, rfl⟩
        · omega
        have e : ((a : Int) + (y : Int)).toNat = a + y := by omega
        have hB : Ow w11 base 26 1 v Z.length (((ucells Z).set i (.int .u64 (gt Z ((a : Int) + (y : Int)).toNat : Int))).set ((a : Int) + (y : Int)).toNat (.int .u64 (gt Z i : Int))) := by assumption
        rw [e] at hB
        exact ⟨by omega, by omega, Bk.au, hs1, dt_swp hB, Rg.swap Z i (a + y) hR (by omega) (by omega) (by omega) (by omega) hb, Ch.au⟩
    · refine W_exit ?_
      repeat (first | refine blk_hit ?_ | refine blk_miss rfl ?_)
      refine ret0 rfl  ?_
      exact ⟨rfl, ⟨Z, Ow.au, hR⟩, Ch.au⟩
  · omega
end Go.Proofs.Ytjjddbicggfgnaa

