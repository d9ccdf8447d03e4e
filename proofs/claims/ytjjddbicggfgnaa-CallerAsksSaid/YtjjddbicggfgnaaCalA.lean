/- CallerAsks, walked. -/
import Derived.Test.YtjjddbicggfgnaaCalN
namespace Go.Proofs.Ytjjddbicggfgnaa
open Go Go.RowKit
set_option linter.unusedVariables false
set_option linter.unusedSimpArgs false
set_option maxRecDepth 100000
abbrev akM (body : ByteArray) : Msg := ⟨0, 3, 1, 1, 5, { data := #[103, 111] }, 0, body⟩
abbrev akC (w n : Nat) (body : ByteArray) (v q : Nat) (out : List Msg) : Cal := ⟨3, w, n, 1, [(1, ⟨akM body, v, (q : Int) + 1⟩)], out, []⟩
abbrev akE (w n : Nat) : Cal := ⟨3, w, n, 1, [], [], [⟨1, 3, { data := #[] }⟩]⟩
theorem ak_check {body : ByteArray} (h : body.size ≤ 300) : checkC (akM body) = 0 := by
  unfold checkC
  rw [if_neg (by show ¬ 8192 < body.size; omega), if_pos]
  refine ⟨by show (3 : Int) ≠ 0; decide, by show (1 : Int) ≠ 0; decide, .inl ⟨rfl, by show (0 : Int) < 1; decide, by show (1 : Int) ≤ 1; decide, ?_, ?_, rfl⟩⟩
  · show nameP ({ data := #[103, 111] } : ByteArray); decide +kernel
  · show ¬ classP ({ data := #[103, 111] } : ByteArray); decide +kernel
theorem ak_call {w n : Nat} {body : ByteArray} (h : body.size ≤ 300) : callC (cal0 3 w n) 5 { data := #[103, 111] } body = (akC w n body 0 0 [akM body], 1, 0) := by
  have hc := ak_check h
  rw [callC_ok (C := cal0 3 w n) (by show ¬ 1024 ≤ 0; omega) hc]
  rfl
theorem ak_wait {w n v q : Nat} {body : ByteArray} (h : v + 1 < w) : tick (akC w n body v q []) = akC w n body (v + 1) q [] := by
  show tick1 (akC w n body v q []) 1 = _
  rw [tick1_wait (o := ⟨akM body, v, (q : Int) + 1⟩) rfl (by show (v : Int) + 1 < (w : Int); omega)]
  show ({ akC w n body v q [] with op := [if (1 : Int) = 1 then _ else _] } : Cal) = _
  rw [if_pos rfl]
  show (⟨3, w, n, 1, [(1, ⟨akM body, (v : Int) + 1, (q : Int) + 1⟩)], [], []⟩ : Cal) = ⟨3, w, n, 1, [(1, ⟨akM body, ((v + 1 : Nat) : Int), (q : Int) + 1⟩)], [], []⟩
  rw [Int.natCast_add]; rfl
theorem ak_ask {w n v q : Nat} {body : ByteArray} (h : v + 1 = w) (hq : q + 1 < n) : tick (akC w n body v q []) = akC w n body 0 (q + 1) [akM body] := by
  show tick1 (akC w n body v q []) 1 = _
  rw [tick1_ask (o := ⟨akM body, v, (q : Int) + 1⟩) rfl (by show ¬ (v : Int) + 1 < (w : Int); omega) (by show ¬ (n : Int) ≤ (q : Int) + 1; omega)]
  show ({ akC w n body v q [] with op := [if (1 : Int) = 1 then _ else _], out := _ } : Cal) = _
  rw [if_pos rfl]
  show (⟨3, w, n, 1, [(1, ⟨akM body, 0, (q : Int) + 1 + 1⟩)], [akM body], []⟩ : Cal) = ⟨3, w, n, 1, [(1, ⟨akM body, ((0 : Nat) : Int), ((q + 1 : Nat) : Int) + 1⟩)], [akM body], []⟩
  rw [Int.natCast_add]; rfl
theorem ak_end {w n v q : Nat} {body : ByteArray} (h : v + 1 = w) (hq : q + 1 = n) : tick (akC w n body v q []) = akE w n := by
  show tick1 (akC w n body v q []) 1 = _
  rw [tick1_end (o := ⟨akM body, v, (q : Int) + 1⟩) rfl (by show ¬ (v : Int) + 1 < (w : Int); omega) (by show (n : Int) ≤ (q : Int) + 1; omega)]
  rfl
/-- How it stands ahead of what is taken at the i-th time; K is w n. -/
def AkSt (w n K : Nat) (body : ByteArray) (i k : Nat) (C : Cal) : Prop :=
  (∃ q v, i = q * w + v ∧ v < w ∧ q < n ∧ C = akC w n body v q (if v = 0 then [akM body] else []) ∧ k = (if v = 0 then q else q + 1)) ∨ (K ≤ i ∧ C = akE w n ∧ k = n)
theorem ak_lt {w n K q v i : Nat} (hK : K = w * n) (hi : i = q * w + v) (hv : v < w) (hq : q < n) : i < K := by
  have h1 : (q + 1) * w ≤ n * w := Nat.mul_le_mul_right w hq
  have h2 : (q + 1) * w = q * w + w := by rw [Nat.add_mul, Nat.one_mul]
  rw [hK, Nat.mul_comm w n]; omega
theorem ak_next {w n K q v i : Nat} {body : ByteArray} (hK : K = w * n) (hw : 1 ≤ w) (hi : i = q * w + v) (hv : v < w) (hq : q < n) : AkSt w n K body (i + 1) (q + 1) (tick (akC w n body v q [])) := by
  by_cases h1 : v + 1 < w
  · left
    exact ⟨q, v + 1, by omega, h1, hq, by rw [ak_wait h1, if_neg (by omega)], by rw [if_neg (by omega)]⟩
  · have h2 : v + 1 = w := by omega
    have h3 : (q + 1) * w = q * w + w := by rw [Nat.add_mul, Nat.one_mul]
    by_cases h4 : q + 1 < n
    · left
      exact ⟨q + 1, 0, by omega, by omega, h4, by rw [ak_ask h2 h4, if_pos rfl], by rw [if_pos rfl]⟩
    · right
      have h5 : q + 1 = n := by omega
      refine ⟨?_, ak_end h2 h5, h5⟩
      rw [hK, Nat.mul_comm w n, ← h5]; omega
theorem ak_tickE (w n : Nat) : tick (akE w n) = akE w n := rfl
theorem ak_lim {w n : Nat} (body : ByteArray) (v q : Nat) (out : List Msg) (h : out.length ≤ 1) : (akC w n body v q out).Lim 1 := ⟨Int.le_refl _, Nat.le_refl _, by show out.length ≤ _; omega, Nat.zero_le _⟩
theorem ak_limE (w n : Nat) : (akE w n).Lim 1 := ⟨Int.le_refl _, Nat.zero_le _, Nat.zero_le _, by show 1 ≤ 800; omega⟩
theorem AkSt.lim {w n K i k : Nat} {body : ByteArray} {C : Cal} (h : AkSt w n K body i k C) (hK : K = w * n) (hw : 1 ≤ w) : C.Lim 1 ∧ C.out.length ≤ 1 ∧ k ≤ i + 1 ∧ k ≤ n ∧ C.res.length ≤ 1 := by
  rcases h with ⟨q, v, h1, h2, h3, rfl, h5⟩ | ⟨h1, rfl, h3⟩
  · have h6 : q ≤ q * w := by
      have : q * 1 ≤ q * w := Nat.mul_le_mul_left q (by omega)
      omega
    have h7 : (if v = 0 then [akM body] else []).length ≤ 1 := by split <;> simp
    refine ⟨ak_lim body v q _ h7, h7, ?_, ?_, Nat.zero_le _⟩
    · rw [h5]; split <;> omega
    · rw [h5]; split <;> omega
  · have h6 : 1 * n ≤ w * n := Nat.mul_le_mul_right n hw
    exact ⟨ak_limE w n, Nat.zero_le _, by omega, by omega, Nat.le_refl _⟩
theorem AkSt.step {w n K i k : Nat} {body : ByteArray} {C : Cal} (h : AkSt w n K body i k C) (hK : K = w * n) (hw : 1 ≤ w) :
    AkSt w n K body (i + 1) (k + C.out.length) (tick { C with out := [] }) ∧ (0 < C.res.length ↔ K ≤ i) ∧ (0 < C.out.length → C.out = [akM body] ∧ i = k * w) := by
  rcases h with ⟨q, v, h1, h2, h3, rfl, h5⟩ | ⟨h1, rfl, h3⟩
  · have hlt := ak_lt hK h1 h2 h3
    have e : k + (akC w n body v q (if v = 0 then [akM body] else [])).out.length = q + 1 := by
      rw [h5]
      show _ + (if v = 0 then [akM body] else []).length = _
      split <;> simp
    rw [e]
    refine ⟨ak_next hK hw h1 h2 h3, ⟨fun h => absurd h (Nat.lt_irrefl 0), fun h => by omega⟩, fun h => ?_⟩
    have h' : 0 < (if v = 0 then [akM body] else []).length := h
    by_cases hv : v = 0
    · rw [if_pos hv] at h5
      exact ⟨if_pos hv, by rw [h5, h1, hv]; rfl⟩
    · rw [if_neg hv] at h'; exact absurd h' (Nat.lt_irrefl 0)
  · refine ⟨.inr ⟨by omega, rfl, h3⟩, ⟨fun _ => h1, fun _ => Nat.one_pos⟩, fun h => absurd h (Nat.lt_irrefl 0)⟩
theorem AkSt.fin {w n K i k : Nat} {body : ByteArray} {C : Cal} (h : AkSt w n K body i k C) (hK : K = w * n) (hi : K ≤ i) : k = n := by
  rcases h with ⟨q, v, h1, h2, h3, _, _⟩ | ⟨_, _, h3⟩
  · have := ak_lt hK h1 h2 h3; omega
  · exact h3
theorem prod20 {a b : Int} (ha : 0 ≤ a) (hb : 0 ≤ b) : ∃ w n K : Nat, (w : Int) = 1 + a % 20 ∧ (n : Int) = 1 + b % 20 ∧ (K : Int) = (1 + a % 20) * (1 + b % 20) ∧ K = w * n ∧ K ≤ 400 ∧ 1 ≤ w ∧ w ≤ 20 ∧ 1 ≤ n ∧ n ≤ 20 := by
  have h1 : 1 ≤ 1 + a % 20 ∧ 1 + a % 20 ≤ 20 := by omega
  have h2 : 1 ≤ 1 + b % 20 ∧ 1 + b % 20 ≤ 20 := by omega
  generalize 1 + a % 20 = x at *
  generalize 1 + b % 20 = y at *
  have h3 : x * y ≤ 20 * 20 := Int.mul_le_mul h1.2 h2.2 (by omega) (by omega)
  have e : ((x.toNat * y.toNat : Nat) : Int) = x * y := by rw [Int.natCast_mul, Int.toNat_of_nonneg (by omega), Int.toNat_of_nonneg (by omega)]
  exact ⟨x.toNat, y.toNat, x.toNat * y.toNat, by omega, by omega, e, rfl, by omega, by omega, by omega, by omega, by omega⟩
theorem asks_out (a0 a1 : Int) (body : ByteArray) (w0 : World) (x0 : 0 ≤ a0 ∧ a0 ≤ 255) (x1 : 0 ≤ a1 ∧ a1 ≤ 255) (hn : 300 < body.size) : Does Try.prog 3 #[.int .u8 a0, .int .u8 a1, .string body] w0 (fun r w' => r = .bool true ∧ Nw w0 w') := by
  refine fn_of (n := 103) (args := [.int .u8 a0, .int .u8 a1, .string body]) Try.func3 rfl rfl rfl ?_
  refine W_seq ?_
  refine W_region ?_
  refine L_r (r_ab rfl) ?_
  refine L_nil ?_
  refine W_seq ?_
  refine W_region ?_
  refine L_r (r_mi rfl) ?_
  refine L_r (r_remn rfl rfl (by omega) (by omega)) ?_
  refine L_r (r_conv Try.underlying5 Try.underlying3 rfl (by first | exact wr_i64 (by omega) | rfl)) ?_
  refine L_r (r_add rfl rfl (by first | exact wr_i64 (by omega) | rfl)) ?_
  refine L_r (r_mi rfl) ?_
  refine L_r (r_remn rfl rfl (by omega) (by omega)) ?_
  refine L_r (r_conv Try.underlying5 Try.underlying3 rfl (by first | exact wr_i64 (by omega) | rfl)) ?_
  refine L_r (r_add rfl rfl (by first | exact wr_i64 (by omega) | rfl)) ?_
  refine L_r (r_ai rfl) ?_
  refine L_r (r_ai rfl) ?_
  refine L_nil ?_
  refine W_seq ?_
  refine W_region ?_
  refine L_r (r_mi rfl) ?_
  refine L_r (r_mi rfl) ?_
  refine L_call (.plain rfl) rfl rfl (r_call Try.func9 rfl rfl rfl (by rfl)) (new_use 3 (1 + a0 % 20) (1 + a1 % 20) _ (by omega)) ?_
  rintro v28 w1 ⟨b, F0, rfl, hX0, hF0, c1⟩
  have hz1 := c1.size
  refine L_r (r_mv) ?_
  refine L_r (r_ext2_0 rfl) ?_
  refine L_r (r_ext2_1 rfl) ?_
  refine L_r (r_ap rfl) ?_
  refine L_r (r_ai rfl) ?_
  refine L_nil ?_
  refine W_seq ?_
  refine W_seq ?_
  refine W_region ?_
  refine L_call (.plain rfl) rfl rfl (r_call Try.func10 rfl rfl rfl (by rfl)) (awake_walk _) ?_
  rintro v31 w2 ⟨rfl, c2⟩
  have hz2 := c2.size
  refine L_as (v := .bool _) (v' := .bool true) 31 rfl (congrArg Value.bool (by rfl)) ?_
  refine L_r (r_not rfl) ?_
  refine L_r (r_mb rfl) ?_
  refine L_g (r_mi rfl) ?_
  refine L_g (r_neq rfl rfl) ?_
  refine L_as (v := .bool _) (v' := .bool false) 35 rfl (dec_f (by simp)).symm ?_
  refine L_r (r_pf rfl rfl) ?_
  refine L_r (r_mb rfl) ?_
  refine L_g (r_mp rfl) ?_
  refine L_g (r_eqpnil Try.underlying22 rfl rfl) ?_
  refine L_as (v := .bool _) (v' := .bool false) 39 rfl (congrArg Value.bool (by simp)) ?_
  refine L_r (r_pf rfl rfl) ?_
  refine L_r (r_mb rfl) ?_
  refine L_g (r_ms rfl) ?_
  refine L_g (r_lens Try.underlying9 rfl) ?_
  refine L_g (r_gtr rfl rfl) ?_
  refine L_r (r_pf rfl rfl) ?_
  refine L_nil ?_
  refine W_if rfl (fun h45 => ?_) (fun h45 => ?_)
  · refine W_seq ?_
    refine W_region ?_
    refine L_call (.plain rfl) rfl rfl (r_call Try.func10 rfl rfl rfl (by rfl)) (awake_walk _) ?_
    rintro v46 w3 ⟨rfl, c3⟩
    have hz3 := c3.size
    refine L_r (r_ab rfl) ?_
    refine L_nil ?_
    refine W_ret ?_
    refine ret1 (v := .bool _) rfl rfl ?_
    exact ⟨rfl, Ch.au⟩
  · omega
set_option maxHeartbeats 8000000 in
theorem asks_in (a0 a1 : Int) (body : ByteArray) (w0 : World) (x0 : 0 ≤ a0 ∧ a0 ≤ 255) (x1 : 0 ≤ a1 ∧ a1 ≤ 255) (hn : body.size ≤ 300) : Does Try.prog 3 #[.int .u8 a0, .int .u8 a1, .string body] w0 (fun r w' => r = .bool true ∧ Nw w0 w') := by
  obtain ⟨w, n, K, hw, hnn, hKE, hK, hK4, hw1, hw2, hn1, hn2⟩ := prod20 x0.1 x1.1
  rw [← hw, ← hnn] at hKE
  refine fn_of (n := 103) (args := [.int .u8 a0, .int .u8 a1, .string body]) Try.func3 rfl rfl rfl ?_
  refine W_seq ?_
  refine W_region ?_
  refine L_r (r_ab rfl) ?_
  refine L_nil ?_
  refine W_seq ?_
  refine W_region ?_
  refine L_r (r_mi rfl) ?_
  refine L_r (r_remn rfl rfl (by omega) (by omega)) ?_
  refine L_r (r_conv Try.underlying5 Try.underlying3 rfl (by first | exact wr_i64 (by omega) | rfl)) ?_
  refine L_r (r_add rfl rfl (by first | exact wr_i64 (by omega) | rfl)) ?_
  rw [← hw]
  refine L_r (r_mi rfl) ?_
  refine L_r (r_remn rfl rfl (by omega) (by omega)) ?_
  refine L_r (r_conv Try.underlying5 Try.underlying3 rfl (by first | exact wr_i64 (by omega) | rfl)) ?_
  refine L_r (r_add rfl rfl (by first | exact wr_i64 (by omega) | rfl)) ?_
  rw [← hnn]
  refine L_r (r_ai rfl) ?_
  refine L_r (r_ai rfl) ?_
  refine L_nil ?_
  refine W_seq ?_
  refine W_region ?_
  refine L_r (r_mi rfl) ?_
  refine L_r (r_mi rfl) ?_
  refine L_call (.plain rfl) rfl rfl (r_call Try.func9 rfl rfl rfl (by rfl)) (new_use 3 w n _ (by omega)) ?_
  rintro v28 w1 ⟨b, F0, rfl, hX0, hF0, c1⟩
  have hz1 := c1.size
  refine L_r (r_mv) ?_
  refine L_r (r_ext2_0 rfl) ?_
  refine L_r (r_ext2_1 rfl) ?_
  refine L_r (r_ap rfl) ?_
  refine L_r (r_ai rfl) ?_
  refine L_nil ?_
  refine W_seq ?_
  refine W_seq ?_
  refine W_region ?_
  refine L_call (.plain rfl) rfl rfl (r_call Try.func10 rfl rfl rfl (by rfl)) (awake_walk _) ?_
  rintro v31 w2 ⟨rfl, c2⟩
  have hz2 := c2.size
  refine L_as (v := .bool _) (v' := .bool true) 31 rfl (congrArg Value.bool (by rfl)) ?_
  refine L_r (r_not rfl) ?_
  refine L_r (r_mb rfl) ?_
  refine L_g (r_mi rfl) ?_
  refine L_g (r_neq rfl rfl) ?_
  refine L_as (v := .bool _) (v' := .bool false) 35 rfl (dec_f (by simp)).symm ?_
  refine L_r (r_pf rfl rfl) ?_
  refine L_r (r_mb rfl) ?_
  refine L_g (r_mp rfl) ?_
  refine L_g (r_eqpnil Try.underlying22 rfl rfl) ?_
  refine L_as (v := .bool _) (v' := .bool false) 39 rfl (congrArg Value.bool (by simp)) ?_
  refine L_r (r_pf rfl rfl) ?_
  refine L_r (r_mb rfl) ?_
  refine L_g (r_ms rfl) ?_
  refine L_g (r_lens Try.underlying9 rfl) ?_
  refine L_g (r_gtr rfl rfl) ?_
  refine L_r (r_pf rfl rfl) ?_
  refine L_nil ?_
  refine W_if rfl (fun h45 => ?_) (fun h45 => ?_)
  · omega
  · refine W_skip ?_
    refine W_seq ?_
    refine W_seq ?_
    refine W_region ?_
    refine L_r (r_mp rfl) ?_
    refine L_r (r_ms rfl) ?_
    refine L_call (.plain rfl) rfl rfl (r_call Try.func11 rfl rfl rfl (by rfl)) (call_use _ F0 b 0 (cal0 3 w n) 5 { data := #[103, 111] } body _ (hX0.nw Ch.au) (lim0 _ _ _) (by omega) (by omega)) ?_
    rintro v50 w3 ⟨F1, rfl, hX1, hl1, hF1, c3⟩
    have hz3 := c3.size
    rw [ak_call hn] at hX1 hl1 ⊢
    refine L_r (r_mv) ?_
    refine L_r (r_ext2_0 rfl) ?_
    refine L_r (r_ext2_1 rfl) ?_
    refine L_r (r_ai rfl) ?_
    refine L_r (r_ai rfl) ?_
    refine L_nil ?_
    refine W_seq ?_
    refine W_region ?_
    refine L_r (r_mi rfl) ?_
    refine L_r (r_neq rfl rfl) ?_
    refine L_as (v := .bool _) (v' := .bool false) 54 rfl (dec_f (by simp)).symm ?_
    refine L_nil ?_
    refine W_false rfl ?_
    refine W_skip ?_
    refine W_seq ?_
    refine W_region ?_
    refine L_r (r_ai rfl) ?_
    refine L_nil ?_
    refine W_seq ?_
    refine W_seq ?_
    refine W_region ?_
    refine L_r (r_ai rfl) ?_
    refine L_nil ?_
    refine W_block ?_
    refine W_loopF [2, 7, 8, 9] (fun mz_ f W => ∃ (i k : Nat) (F : Nat → Prop) (C : Cal), f 14 = .int .i64 i ∧ f 13 = .int .i64 k ∧ (i ≤ K + 11 ∧ CalX w0.heap.size F W b C ∧ AkSt w n K body i k C ∧ Nw w0 W) ∧ mz_ = K + 11 - i) ?_ ?_
    · refine ⟨_, 0, 0, F1, akC w n body 0 0 [akM body], rfl, rfl, ?_, rfl⟩
      exact ⟨by omega, hX1.nw Ch.au, .inl ⟨0, 0, by omega, by omega, by omega, rfl, rfl⟩, Ch.au⟩
    rintro m0 g0 w4 ⟨i, k, F, C, hf14, hf13, hR0, rfl⟩
    refine W_as 14 hf14 rfl ?_
    refine W_as 13 hf13 rfl ?_
    clear hf14 hf13
    obtain ⟨hi, hX, hA, hnw⟩ := hR0
    have hz := hnw.size
    obtain ⟨hL, hol, hk1, hk2, hrl⟩ := hA.lim hK hw1
    obtain ⟨hnx, hres, hout⟩ := hA.step hK hw1
    refine W_seq ?_
    refine W_seq ?_
    refine W_region ?_
    refine L_r (r_mi rfl) ?_
    refine L_r (r_mi rfl) ?_
    refine L_r (r_mi rfl) ?_
    refine L_r (r_mul rfl rfl (by first | exact wr_i64 (by omega) | rfl)) ?_
    rw [← hKE]
    refine L_r (r_add rfl rfl (by first | exact wr_i64 (by omega) | rfl)) ?_
    refine L_r (r_leq rfl rfl) ?_
    refine L_nil ?_
    refine W_if rfl (fun h60 => ?_) (fun h60 => ?_)
    · refine W_skip ?_
      refine W_seq ?_
      refine W_block ?_
      refine W_seq ?_
      refine W_region ?_
      refine L_r (r_mp rfl) ?_
      refine L_call (.plain rfl) rfl rfl (r_call Try.func12 rfl rfl rfl (by rfl)) (out_use _ F b C _ (hX.nw Ch.au)) ?_
      rintro v64 w5 ⟨v5, F3, rfl, hv5, hX3, hF3, hd3, c5⟩
      have hz5 := c5.size
      have hsl5 := hv5.sl
      refine L_r (r_av) ?_
      refine L_nil ?_
      refine W_seq ?_
      refine W_seq ?_
      refine W_region ?_
      refine L_r (r_ai rfl) ?_
      refine L_nil ?_
      refine W_block ?_
      refine W_loopF [2, 7, 8, 9, 14, 15] (fun mz_ f W => ∃ (j : Nat), f 16 = .int .i64 j ∧ f 13 = .int .i64 ((k + j : Nat) : Int) ∧ (j ≤ C.out.length ∧ CalX w0.heap.size F3 W b { C with out := [] } ∧ Sl W v64 8 C.out.length (cellsM C.out) ∧ Nw w0 W) ∧ mz_ = C.out.length - j) ?_ ?_
      · refine ⟨_, 0, rfl, rfl, ?_, rfl⟩
        exact ⟨by omega, hX3.nw Ch.au, Sl.au, Ch.au⟩
      rintro m1 g1 w6 ⟨j, hf16, hf13, hR1, rfl⟩
      refine W_as 16 hf16 rfl ?_
      refine W_as 13 hf13 rfl ?_
      clear hf16 hf13
      obtain ⟨hj, hXj, hsj, hnj⟩ := hR1
      clear hsl5 hv5
      have hzj := hnj.size
      refine W_seq ?_
      refine W_seq ?_
      refine W_region ?_
      refine L_r (r_mi rfl) ?_
      refine L_r (r_mv) ?_
      refine L_r (r_lenSl Try.underlying30 (by conv => lhs; whnf) Sl.au) ?_
      refine L_r (r_lss rfl rfl) ?_
      refine L_nil ?_
      refine W_if rfl (fun h68 => ?_) (fun h68 => ?_)
      · have hj0 : j = 0 := by omega
        obtain ⟨ho1, ho2⟩ := hout (by omega)
        have hrow := cellsM_row C.out j (by omega)
        have hg : C.out[j]'(by omega) = akM body := by { subst hj0; simp [ho1] }
        rw [hg] at hrow
        have hkw : (k : Int) * (w : Int) = (i : Int) := by { rw [ho2]; exact (Int.natCast_mul k w).symm }
        refine W_skip ?_
        refine W_seq ?_
        refine W_block ?_
        refine W_seq ?_
        refine W_region ?_
        refine L_r (r_mi rfl) ?_
        refine L_r (r_add rfl rfl (by first | exact wr_i64 (by omega) | rfl)) ?_
        refine L_r (r_ai rfl) ?_
        refine L_nil ?_
        refine W_seq ?_
        refine W_region ?_
        refine L_r (r_mv) ?_
        refine L_r (r_mi rfl) ?_
        refine L_r (r_ix Try.underlying30 (show _ = some 8 from rfl) (by conv => lhs; whnf) rfl Sl.au) ?_
        refine L_r (r_loadSlrow (us := [.int .i64 0, .int .u64 3, .int .u64 1, .int .u64 1, .int .u64 5, .string { data := #[103, 111] }, .int .i64 0, .string body]) Try.underlying33 rfl rfl rfl rfl Sl.au (by exact hrow)) ?_
        refine L_r (r_ms rfl) ?_
        refine L_r (r_build1 (pl := [(0, 1), (1, 1), (2, 1), (3, 1), (4, 1), (5, 1), (6, 1), (7, 1)]) (vs := [(1, .int _ _), (2, .int _ _), (3, .int _ _), (4, .int _ _), (5, .string _), (7, .string _)]) (cells := [_, _, _, _, _, _, _, _]) Try.underlying33 rfl rfl (by rfl) rfl (by rfl)) ?_
        refine L_r (r_neqR (xs := #[.int _ _, .int _ _, .int _ _, .int _ _, .int _ _, .string _, .int _ _, .string _]) (ys := #[.int _ _, .int _ _, .int _ _, .int _ _, .int _ _, .string _, .int _ _, .string _]) rfl rfl (by kernel_rfl) (eqMsg _ _ _ _ _ _ _ _ _ _ _ _ _ _ _ _ _)) ?_
        refine L_r (r_mb rfl) ?_
        refine L_case (d := 80) rfl (fun h80 => ?_) (fun h80 => ?_)
        · exact absurd ⟨rfl, rfl, rfl, rfl, rfl, rfl, rfl, rfl⟩ h80
        · refine L_g (r_mi rfl) ?_
          refine L_g (r_mi rfl) ?_
          refine L_g (r_sub rfl rfl (by first | exact wr_i64 (by omega) | rfl)) ?_
          rw [show ((k + j : Nat) : Int) + 1 - 1 = (k : Int) by omega]
          refine L_g (r_mi rfl) ?_
          refine L_g (r_mul rfl rfl (by first | exact wr_i64 (by omega) | rfl)) ?_
          rw [hkw]
          refine L_g (r_neq rfl rfl) ?_
          refine L_r (r_pf rfl rfl) ?_
          refine L_nil ?_
          refine W_if rfl (fun h87 => ?_) (fun h87 => ?_)
          · exact absurd rfl h87
          · refine W_skip ?_
            refine W_region ?_
            refine L_r (r_mi rfl) ?_
            refine L_r (r_add rfl rfl (by first | exact wr_i64 (by omega) | rfl)) ?_
            refine L_r (r_ai rfl) ?_
            refine L_nil ?_
            refine ⟨⟨fx2, fx2, fx2, fx2, fx2, fx2, trivial⟩, _, ?_, j + 1, rfl, rfl, ?_, rfl⟩
            · omega
            exact ⟨by omega, hXj.nw Ch.au, Sl.au, Ch.au⟩
      · refine W_exit ?_
        repeat (first | refine blk_hit ?_ | refine blk_miss rfl ?_)
        refine W_seq ?_
        refine W_seq ?_
        refine W_region ?_
        refine L_r (r_mp rfl) ?_
        refine L_call (.plain rfl) rfl rfl (r_call Try.func13 rfl rfl rfl (by rfl)) (results_use _ F3 b { C with out := [] } _ (hXj.nw Ch.au) (by show C.res.length ≤ _; omega)) ?_
        rintro v89 w7 ⟨v6, rfl, hv6, c7⟩
        have hz7 := c7.size
        have hsl6 : Sl w7 v89 3 C.res.length (cellsT C.res) := hv6.sl
        refine L_r (r_lenSl Try.underlying34 (by conv => lhs; whnf) Sl.au) ?_
        refine L_r (r_gtr rfl rfl) ?_
        refine L_r (r_mi rfl) ?_
        refine L_r (r_mi rfl) ?_
        refine L_r (r_mi rfl) ?_
        refine L_r (r_mul rfl rfl (by first | exact wr_i64 (by omega) | rfl)) ?_
        rw [← hKE]
        refine L_r (r_geq rfl rfl) ?_
        refine L_r (r_neqb Try.underlying4 rfl rfl) ?_
        refine L_nil ?_
        refine W_if rfl (fun h97 => ?_) (fun h97 => ?_)
        · (refine absurd ?_ h97; exact decide_eq_decide.2 ⟨fun h => by have := hres.1 (by omega); omega, fun h => by have := hres.2 (by omega); omega⟩)
        · refine W_skip ?_
          refine W_region ?_
          refine L_r (r_mp rfl) ?_
          refine L_call (.plain rfl) rfl rfl (r_call Try.func14 rfl rfl rfl (by rfl)) (tick_use _ F3 b 1 { C with out := [] } _ (hXj.nw Ch.au) hL.out0 (by omega) (by omega)) ?_
          rintro v99 w8 ⟨F4, rfl, hX4, hl4, hF4, c8⟩
          have hz8 := c8.size
          refine L_nil ?_
          refine W_region ?_
          refine L_r (r_mi rfl) ?_
          refine L_r (r_add rfl rfl (by first | exact wr_i64 (by omega) | rfl)) ?_
          refine L_r (r_ai rfl) ?_
          refine L_nil ?_
          refine ⟨⟨fx2, fx2, fx2, fx2, trivial⟩, _, ?_, i + 1, k + C.out.length, F4, tick { C with out := [] }, rfl, (by exact congrArg (Value.int .i64) (by show ((k + j : Nat) : Int) = ((k + C.out.length : Nat) : Int); omega)), ?_, rfl⟩
          · omega
          exact ⟨by omega, hX4.nw Ch.au, hnx, Ch.au⟩
    · refine W_exit ?_
      repeat (first | refine blk_hit ?_ | refine blk_miss rfl ?_)
      refine W_seq ?_
      have hfin := hA.fin hK (by omega)
      refine W_region ?_
      refine L_r (r_mi rfl) ?_
      refine L_r (r_mi rfl) ?_
      refine L_r (r_eql rfl rfl) ?_
      refine L_as (v := .bool _) (v' := .bool true) 102 rfl (dec_t (by omega)).symm ?_
      refine L_r (r_ab rfl) ?_
      refine L_nil ?_
      refine W_ret ?_
      refine ret1 (v := .bool _) rfl rfl ?_
      exact ⟨rfl, Ch.au⟩
theorem CallerAsks_walk (a0 a1 : Int) (body : ByteArray) (w0 : World) (x0 : 0 ≤ a0 ∧ a0 ≤ 255) (x1 : 0 ≤ a1 ∧ a1 ≤ 255) (_ : body.size ≤ 140737488351232) :
    Does Try.prog 3 #[.int .u8 a0, .int .u8 a1, .string body] w0 (fun r w' => r = .bool true ∧ Nw w0 w') := by
  by_cases hn : 300 < body.size
  · exact asks_out a0 a1 body w0 x0 x1 hn
  · exact asks_in a0 a1 body w0 x0 x1 (by omega)
end Go.Proofs.Ytjjddbicggfgnaa

