/- The library's sort of numbers, walked: a pivot is chosen; a number's length. -/
import Derived.Test.YtjjddbicggfgnaaSort2
namespace Go.Proofs.Ytjjddbicggfgnaa
open Go Go.RowKit
set_option linter.unusedVariables false
set_option linter.unusedSimpArgs false
set_option maxHeartbeats 1000000 in
set_option maxRecDepth 100000 in
theorem pivot_walk (base : Nat) (v : Value) (X : List Nat) (a b : Nat) (w0 : World) (hv : Dt base w0 v X) (hab : a + 12 < b) (hb : b ≤ X.length) (hl : X.length ≤ 1000000) : Does Try.prog 51 #[v, .int .i64 a, .int .i64 b] w0 (fun r w' => ∃ (x : Nat) (h : Int), r = .tuple #[.int .i64 (x : Int), .int .i64 h] ∧ a ≤ x ∧ x < b ∧ Nw w0 w') := by
  have how := hv
  obtain ⟨q, hq⟩ : ∃ q : Nat, q = (b - a) / 4 := ⟨_, rfl⟩
  have eq4 : ((b : Int) - (a : Int)) / 4 = (q : Int) := by omega
  refine fn_of (n := 57) (args := [v, .int .i64 a, .int .i64 b]) Try.func51 rfl rfl rfl ?_
  refine W_seq ?_
  refine W_region ?_
  refine L_r (r_ai rfl) ?_
  refine L_r (r_ai rfl) ?_
  refine L_nil ?_
  refine W_seq ?_
  refine W_region ?_
  refine L_r (r_mi rfl) ?_
  refine L_r (r_mi rfl) ?_
  refine L_r (r_sub rfl rfl (by first | exact wr_i64 (by omega) | rfl)) ?_
  refine L_r (r_ai rfl) ?_
  refine L_nil ?_
  refine W_seq ?_
  refine W_region ?_
  refine L_new (.plain rfl) rfl rfl (r_alloc1 rfl rfl) (fun w1 b9 hb9 eb1 hs1 c1 => ?_)
  refine L_nil ?_
  refine W_seq ?_
  refine W_region ?_
  refine L_r (r_mi rfl) ?_
  refine L_r (r_mi rfl) ?_
  refine L_r (r_quon rfl rfl (by omega) (by omega) (by first | exact wr_i64 (by omega) | rfl)) ?_
  rw [eq4]
  refine L_r (r_mul rfl rfl (by first | exact wr_i64 (by omega) | rfl)) ?_
  refine L_r (r_add rfl rfl (by first | exact wr_i64 (by omega) | rfl)) ?_
  rw [show (a : Int) + (q : Int) * 1 = ((a + q : Nat) : Int) by omega]
  refine L_r (r_ai rfl) ?_
  refine L_nil ?_
  refine W_seq ?_
  refine W_region ?_
  refine L_r (r_mi rfl) ?_
  refine L_r (r_mi rfl) ?_
  refine L_r (r_quon rfl rfl (by omega) (by omega) (by first | exact wr_i64 (by omega) | rfl)) ?_
  rw [eq4]
  refine L_r (r_mul rfl rfl (by first | exact wr_i64 (by omega) | rfl)) ?_
  refine L_r (r_add rfl rfl (by first | exact wr_i64 (by omega) | rfl)) ?_
  rw [show (a : Int) + (q : Int) * 2 = ((a + q * 2 : Nat) : Int) by omega]
  refine L_r (r_ai rfl) ?_
  refine L_nil ?_
  refine W_seq ?_
  refine W_region ?_
  refine L_r (r_mi rfl) ?_
  refine L_r (r_mi rfl) ?_
  refine L_r (r_quon rfl rfl (by omega) (by omega) (by first | exact wr_i64 (by omega) | rfl)) ?_
  rw [eq4]
  refine L_r (r_mul rfl rfl (by first | exact wr_i64 (by omega) | rfl)) ?_
  refine L_r (r_add rfl rfl (by first | exact wr_i64 (by omega) | rfl)) ?_
  rw [show (a : Int) + (q : Int) * 3 = ((a + q * 3 : Nat) : Int) by omega]
  have hz9 : Bk w1 b9 #[.int .i64 ((0 : Nat) : Int)] 3 := hb9
  refine L_r (r_ai rfl) ?_
  refine L_nil ?_
  refine W_seq ?_
  refine W_seq ?_
  refine W_region ?_
  refine L_r (r_mi rfl) ?_
  refine L_r (r_geq rfl rfl) ?_
  refine L_nil ?_
  refine W_if rfl (fun h32 => ?_) (fun h32 => ?_)
  · refine W_seq ?_
    refine W_seq ?_
    refine W_region ?_
    refine L_r (r_mi rfl) ?_
    refine L_r (r_geq rfl rfl) ?_
    refine L_nil ?_
    refine W_endF [0, 9] (fun f W => ∃ (x10 : Nat) (x11 : Nat) (x12 : Nat), f 10 = .int .i64 x10 ∧ f 11 = .int .i64 x11 ∧ f 12 = .int .i64 x12 ∧ ((a ≤ x10 ∧ x10 < b) ∧ (a ≤ x11 ∧ x11 < b) ∧ (a ≤ x12 ∧ x12 < b) ∧ (∃ s : Nat, s ≤ 9 ∧ Bk W b9 #[.int .i64 (s : Int)] 3) ∧ Nw w0 W)) ?_ ?_
    · refine W_if rfl (fun h34 => ?_) (fun h34 => ?_)
      · refine W_seq ?_
        refine W_region ?_
        refine L_r (r_mv) ?_
        refine L_r (r_mi rfl) ?_
        refine L_call (.plain rfl) rfl rfl (r_call Try.func62 rfl rfl rfl (by rfl)) (medadj_walk base b9 v X (a + q) 0 _ Ow.au (by omega) (by omega) hl hz9 (by omega)) ?_
        rintro v37 w2 ⟨y1, s1, rfl, hy1, hp1, hs1, c2⟩
        have hz2 := c2.size
        refine L_r (r_ai rfl) ?_
        refine L_nil ?_
        refine W_seq ?_
        refine W_region ?_
        refine L_r (r_mv) ?_
        refine L_r (r_mi rfl) ?_
        refine L_call (.plain rfl) rfl rfl (r_call Try.func62 rfl rfl rfl (by rfl)) (medadj_walk base b9 v X (a + q * 2) s1 _ Ow.au (by omega) (by omega) hl hp1 (by omega)) ?_
        rintro v40 w3 ⟨y2, s2, rfl, hy2, hp2, hs2, c3⟩
        have hz3 := c3.size
        refine L_r (r_ai rfl) ?_
        refine L_nil ?_
        refine W_region ?_
        refine L_r (r_mv) ?_
        refine L_r (r_mi rfl) ?_
        refine L_call (.plain rfl) rfl rfl (r_call Try.func62 rfl rfl rfl (by rfl)) (medadj_walk base b9 v X (a + q * 3) s2 _ Ow.au (by omega) (by omega) hl hp2 (by omega)) ?_
        rintro v43 w4 ⟨y3, s3, rfl, hy3, hp3, hs3, c4⟩
        have hz4 := c4.size
        refine L_r (r_ai rfl) ?_
        refine L_nil ?_
        refine ⟨⟨rfl, rfl, trivial⟩, _, _, _, rfl, rfl, rfl, ?_⟩
        first
        | exact ⟨by omega, by omega, by omega, ⟨s3, by omega, hp3⟩, Ch.au⟩
        | exact ⟨by omega, by omega, by omega, ⟨0, by omega, hz9⟩, Ch.au⟩
      · refine W_skip ?_
        refine ⟨⟨rfl, rfl, trivial⟩, _, _, _, rfl, rfl, rfl, ?_⟩
        first
        | exact ⟨by omega, by omega, by omega, ⟨s3, by omega, hp3⟩, Ch.au⟩
        | exact ⟨by omega, by omega, by omega, ⟨0, by omega, hz9⟩, Ch.au⟩
    rintro gct34 w5 ⟨x10, x11, x12, hf10, hf11, hf12, hCt34⟩
    refine W_as 10 hf10 rfl ?_
    refine W_as 11 hf11 rfl ?_
    refine W_as 12 hf12 rfl ?_
    clear hf10 hf11 hf12
    obtain ⟨h10, h11, h12, ⟨s, hs, hb9c⟩, hnw⟩ := hCt34
    have hz := hnw.size
    refine W_region ?_
    refine L_r (r_mv) ?_
    refine L_r (r_mi rfl) ?_
    refine L_r (r_mi rfl) ?_
    refine L_r (r_mi rfl) ?_
    refine L_call (.plain rfl) rfl rfl (r_call Try.func63 rfl rfl rfl (by rfl)) (median_walk base b9 v X x10 x11 x12 s _ Ow.au (by omega) (by omega) (by omega) hl hb9c (by omega)) ?_
    rintro v48 w6 ⟨y4, s4, rfl, hy4, hp4, hs4, c6⟩
    have hz6 := c6.size
    refine L_r (r_ai rfl) ?_
    refine L_nil ?_
    refine W_seq ?_
    refine W_region ?_
    refine L_r (r_lb rfl rfl) ?_
    refine L_nil ?_
    refine W_block ?_
    refine W_seq ?_
    refine W_region ?_
    refine L_r (r_eql rfl rfl) ?_
    refine L_r (r_ab rfl) ?_
    refine L_nil ?_
    refine W_if rfl (fun h51 => ?_) (fun h51 => ?_)
    · refine W_seq ?_
      refine W_region ?_
      refine L_r (r_mi rfl) ?_
      refine L_r (r_ai rfl) ?_
      refine L_r (r_ai rfl) ?_
      refine L_nil ?_
      refine W_ret ?_
      refine ret2 (u := .int _ _) (v := .int _ _) rfl rfl rfl ?_
      exact ⟨y4, _, rfl, by omega, by omega, Ch.au⟩
    · refine W_seq ?_
      refine W_region ?_
      refine L_r (r_eql rfl rfl) ?_
      refine L_r (r_ab rfl) ?_
      refine L_nil ?_
      refine W_if rfl (fun h54 => ?_) (fun h54 => ?_)
      · refine W_seq ?_
        refine W_region ?_
        refine L_r (r_mi rfl) ?_
        refine L_r (r_ai rfl) ?_
        refine L_r (r_ai rfl) ?_
        refine L_nil ?_
        refine W_ret ?_
        refine ret2 (u := .int _ _) (v := .int _ _) rfl rfl rfl ?_
        exact ⟨y4, _, rfl, by omega, by omega, Ch.au⟩
      · refine W_seq ?_
        refine W_region ?_
        refine L_r (r_mi rfl) ?_
        refine L_r (r_ai rfl) ?_
        refine L_r (r_ai rfl) ?_
        refine L_nil ?_
        refine W_ret ?_
        refine ret2 (u := .int _ _) (v := .int _ _) rfl rfl rfl ?_
        exact ⟨y4, _, rfl, by omega, by omega, Ch.au⟩
  · omega
def tab8 : ByteArray := { data := #[0, 1, 2, 2, 3, 3, 3, 3, 4, 4, 4, 4, 4, 4, 4, 4, 5, 5, 5, 5, 5, 5, 5, 5, 5, 5, 5, 5, 5, 5, 5, 5, 6, 6, 6, 6, 6, 6, 6, 6, 6, 6, 6, 6, 6, 6, 6, 6, 6, 6, 6, 6, 6, 6, 6, 6, 6, 6, 6, 6, 6, 6, 6, 6, 7, 7, 7, 7, 7, 7, 7, 7, 7, 7, 7, 7, 7, 7, 7, 7, 7, 7, 7, 7, 7, 7, 7, 7, 7, 7, 7, 7, 7, 7, 7, 7, 7, 7, 7, 7, 7, 7, 7, 7, 7, 7, 7, 7, 7, 7, 7, 7, 7, 7, 7, 7, 7, 7, 7, 7, 7, 7, 7, 7, 7, 7, 7, 7, 8, 8, 8, 8, 8, 8, 8, 8, 8, 8, 8, 8, 8, 8, 8, 8, 8, 8, 8, 8, 8, 8, 8, 8, 8, 8, 8, 8, 8, 8, 8, 8, 8, 8, 8, 8, 8, 8, 8, 8, 8, 8, 8, 8, 8, 8, 8, 8, 8, 8, 8, 8, 8, 8, 8, 8, 8, 8, 8, 8, 8, 8, 8, 8, 8, 8, 8, 8, 8, 8, 8, 8, 8, 8, 8, 8, 8, 8, 8, 8, 8, 8, 8, 8, 8, 8, 8, 8, 8, 8, 8, 8, 8, 8, 8, 8, 8, 8, 8, 8, 8, 8, 8, 8, 8, 8, 8, 8, 8, 8, 8, 8, 8, 8, 8, 8, 8, 8, 8, 8, 8, 8, 8, 8, 8, 8, 8, 8] }
theorem tab8_at : ∀ i : Fin 256, (bat tab8 i.val).toNat ≤ 8 ∧ (0 < i.val → 2 ^ (bat tab8 i.val).toNat ≤ 2 * i.val ∧ i.val < 2 ^ (bat tab8 i.val).toNat) := by decide +kernel
set_option maxRecDepth 100000 in
theorem len64_walk (x : Nat) (w0 : World) (hx : x ≤ 60000) : Does Try.prog 58 #[.int .u64 x] w0 (fun r w' => ∃ k : Nat, r = .int .i64 (k : Int) ∧ k ≤ 16 ∧ (0 < x → 2 ^ k ≤ 2 * x ∧ x < 2 ^ k) ∧ w' = w0) := by
  refine fn_of (n := 25) (args := [.int .u64 x]) Try.func58 rfl rfl rfl ?_
  refine W_seq ?_
  refine W_region ?_
  refine L_r (r_ai rfl) ?_
  refine L_nil ?_
  refine W_seq ?_
  refine W_seq ?_
  refine W_region ?_
  refine L_r (r_mi rfl) ?_
  refine L_r (r_geq rfl rfl) ?_
  refine L_nil ?_
  refine W_if rfl (fun h4 => ?_) (fun h4 => ?_)
  · omega
  · refine W_skip ?_
    refine W_seq ?_
    refine W_seq ?_
    refine W_region ?_
    refine L_r (r_mi rfl) ?_
    refine L_r (r_geq rfl rfl) ?_
    refine L_nil ?_
    refine W_if rfl (fun h8 => ?_) (fun h8 => ?_)
    · omega
    · refine W_skip ?_
      refine W_seq ?_
      refine W_seq ?_
      refine W_region ?_
      refine L_r (r_mi rfl) ?_
      refine L_r (r_geq rfl rfl) ?_
      refine L_nil ?_
      refine W_if rfl (fun h14 => ?_) (fun h14 => ?_)
      · refine W_seq ?_
        refine W_region ?_
        refine L_r (r_mi rfl) ?_
        refine L_r (r_shrc (q := 256) rfl rfl (by omega) (by decide)) ?_
        refine L_r (r_ai rfl) ?_
        refine L_nil ?_
        refine W_region ?_
        refine L_r (r_mi rfl) ?_
        refine L_r (r_add rfl rfl (by first | exact wr_i64 (by omega) | rfl)) ?_
        refine L_r (r_ai rfl) ?_
        refine L_nil ?_
        refine W_seq ?_
        refine W_region ?_
        refine L_r (r_mi rfl) ?_
        refine L_r (r_mi rfl) ?_
        refine L_r (r_conv Try.underlying26 Try.underlying5 rfl (by first | exact wr_u8 (by omega) | rfl)) ?_
        refine L_r (r_indexs Try.underlying9 rfl rfl (by first | omega | (show (_ : Nat) < 256; omega)) (by first | omega | (show (_ : Nat) < 256; omega)) (by conv => lhs; (try simp only [Nat.mul_one, Nat.zero_add, Int.toNat_natCast, Int.toNat_zero, Int.reduceToNat, Nat.reduceMul, Nat.reduceAdd]))) ?_
        refine L_r (r_conv Try.underlying5 Try.underlying3 rfl (by first | exact wr_i64 (by omega) | rfl)) ?_
        refine L_r (r_add rfl rfl (by first | exact wr_i64 (by omega) | rfl)) ?_
        refine L_r (r_ai rfl) ?_
        refine L_nil ?_
        refine W_ret ?_
        refine ret1 (v := .int _ _) rfl rfl ?_
        first
        | (obtain ⟨h1, h2⟩ := tab8_at ⟨x / 256, by omega⟩
           obtain ⟨k, hk⟩ : ∃ k : Nat, k = (bat tab8 (x / 256)).toNat := ⟨_, rfl⟩
           simp only at h1 h2
           rw [← hk] at h1 h2
           obtain ⟨h3, h4⟩ := h2 (by omega)
           have ex : ((x : Int) / 256).toNat = x / 256 := by omega
           refine ⟨8 + k, ?_, by omega, fun _ => ?_, rfl⟩
           · rw [ex]
             show Value.int .i64 (IntKind.i64.wrap (0 + 8 + IntKind.i64.wrap ((bat tab8 (x / 256)).toNat : Int))) = _
             rw [← hk, wr_i64 (z := (k : Int)) (by omega), wr_i64 (by omega)]
             exact congrArg (Value.int .i64) (by omega)
           · have e : 2 ^ (8 + k) = 256 * 2 ^ k := by rw [Nat.pow_add]
             rw [e]
             exact ⟨by omega, by omega⟩)
        | (obtain ⟨h1, h2⟩ := tab8_at ⟨x, by omega⟩
           obtain ⟨k, hk⟩ : ∃ k : Nat, k = (bat tab8 x).toNat := ⟨_, rfl⟩
           simp only at h1 h2
           rw [← hk] at h1 h2
           refine ⟨k, ?_, by omega, h2, rfl⟩
           show Value.int .i64 (IntKind.i64.wrap (0 + IntKind.i64.wrap ((bat tab8 x).toNat : Int))) = _
           rw [← hk, wr_i64 (z := (k : Int)) (by omega), wr_i64 (by omega)]
           exact congrArg (Value.int .i64) (by omega))
      · refine W_skip ?_
        refine W_seq ?_
        refine W_region ?_
        refine L_r (r_mi rfl) ?_
        refine L_r (r_mi rfl) ?_
        refine L_r (r_conv Try.underlying26 Try.underlying5 rfl (by first | exact wr_u8 (by omega) | rfl)) ?_
        refine L_r (r_indexs Try.underlying9 rfl rfl (by first | omega | (show (_ : Nat) < 256; omega)) (by first | omega | (show (_ : Nat) < 256; omega)) (by conv => lhs; (try simp only [Nat.mul_one, Nat.zero_add, Int.toNat_natCast, Int.toNat_zero, Int.reduceToNat, Nat.reduceMul, Nat.reduceAdd]))) ?_
        refine L_r (r_conv Try.underlying5 Try.underlying3 rfl (by first | exact wr_i64 (by omega) | rfl)) ?_
        refine L_r (r_add rfl rfl (by first | exact wr_i64 (by omega) | rfl)) ?_
        refine L_r (r_ai rfl) ?_
        refine L_nil ?_
        refine W_ret ?_
        refine ret1 (v := .int _ _) rfl rfl ?_
        first
        | (obtain ⟨h1, h2⟩ := tab8_at ⟨x / 256, by omega⟩
           obtain ⟨k, hk⟩ : ∃ k : Nat, k = (bat tab8 (x / 256)).toNat := ⟨_, rfl⟩
           simp only at h1 h2
           rw [← hk] at h1 h2
           obtain ⟨h3, h4⟩ := h2 (by omega)
           have ex : ((x : Int) / 256).toNat = x / 256 := by omega
           refine ⟨8 + k, ?_, by omega, fun _ => ?_, rfl⟩
           · rw [ex]
             show Value.int .i64 (IntKind.i64.wrap (0 + 8 + IntKind.i64.wrap ((bat tab8 (x / 256)).toNat : Int))) = _
             rw [← hk, wr_i64 (z := (k : Int)) (by omega), wr_i64 (by omega)]
             exact congrArg (Value.int .i64) (by omega)
           · have e : 2 ^ (8 + k) = 256 * 2 ^ k := by rw [Nat.pow_add]
             rw [e]
             exact ⟨by omega, by omega⟩)
        | (obtain ⟨h1, h2⟩ := tab8_at ⟨x, by omega⟩
           obtain ⟨k, hk⟩ : ∃ k : Nat, k = (bat tab8 x).toNat := ⟨_, rfl⟩
           simp only at h1 h2
           rw [← hk] at h1 h2
           refine ⟨k, ?_, by omega, h2, rfl⟩
           show Value.int .i64 (IntKind.i64.wrap (0 + IntKind.i64.wrap ((bat tab8 x).toNat : Int))) = _
           rw [← hk, wr_i64 (z := (k : Int)) (by omega), wr_i64 (by omega)]
           exact congrArg (Value.int .i64) (by omega))
theorem len_walk (x : Nat) (w0 : World) (hx : x ≤ 60000) : Does Try.prog 42 #[.int .u64 x] w0 (fun r w' => ∃ k : Nat, r = .int .i64 (k : Int) ∧ k ≤ 16 ∧ (0 < x → 2 ^ k ≤ 2 * x ∧ x < 2 ^ k) ∧ Nw w0 w') := by
  refine fn_of (n := 8) (args := [.int .u64 x]) Try.func42 rfl rfl rfl ?_
  refine W_seq ?_
  refine W_region ?_
  refine L_r (r_ai rfl) ?_
  refine L_nil ?_
  refine W_seq ?_
  refine W_false rfl ?_
  refine W_skip ?_
  refine W_seq ?_
  refine W_region ?_
  refine L_r (r_mi rfl) ?_
  refine L_call (.plain rfl) rfl rfl (r_call Try.func58 rfl rfl rfl (by rfl)) (len64_walk x _ hx) ?_
  rintro v7 w1 ⟨k, rfl, hk, hk2, rfl⟩
  refine L_r (r_ai rfl) ?_
  refine L_nil ?_
  refine W_ret ?_
  refine ret1 (v := .int _ _) rfl rfl ?_
  exact ⟨k, rfl, hk, hk2, Ch.au⟩
end Go.Proofs.Ytjjddbicggfgnaa

