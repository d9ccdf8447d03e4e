/- The library's sort of numbers, walked: turning a piece round, choosing a pivot. -/
import Derived.Test.YtjjddbicggfgnaaSort
namespace Go.Proofs.Ytjjddbicggfgnaa
open Go Go.RowKit
set_option linter.unusedVariables false
set_option linter.unusedSimpArgs false
theorem dt_swp {base : Nat} {w : World} {v : Value} {Z : List Nat} {i j : Nat} (h : Ow w base 26 1 v Z.length (((ucells Z).set i (.int .u64 (gt Z j : Int))).set j (.int .u64 (gt Z i : Int)))) : Dt base w v (swp Z i j) := by
  rw [ucells_set, ucells_set] at h
  show Ow _ _ _ _ _ (swp Z i j).length _
  rw [swp_length]; exact h
set_option maxHeartbeats 1000000 in
set_option maxRecDepth 100000 in
theorem reverse_walk (base : Nat) (v : Value) (X : List Nat) (a b : Nat) (w0 : World) (hv : Dt base w0 v X) (hab : a < b) (hb : b ≤ X.length) (hl : X.length ≤ 1000000) : Does Try.prog 52 #[v, .int .i64 a, .int .i64 b] w0 (fun r w' => r = .tuple #[] ∧ (∃ Y, Dt base w' v Y ∧ Rg a b X Y) ∧ DtC v w0 w') := by
  refine fn_of (n := 32) (args := [v, .int .i64 a, .int .i64 b]) Try.func52 rfl rfl rfl ?_
  refine W_seq ?_
  refine W_region ?_
  refine L_r (r_mi rfl) ?_
  refine L_r (r_ai rfl) ?_
  refine L_nil ?_
  refine W_seq ?_
  refine W_region ?_
  refine L_r (r_mi rfl) ?_
  refine L_r (r_sub rfl rfl (by first | exact wr_i64 (by omega) | rfl)) ?_
  refine L_r (r_ai rfl) ?_
  refine L_nil ?_
  refine W_block ?_
  refine W_loopF [0] (fun mz_ f W => ∃ (i : Nat) (j : Nat) (Z : List Nat), f 6 = .int .i64 i ∧ f 7 = .int .i64 j ∧ (a ≤ i ∧ i ≤ b ∧ j < b ∧ Dt base W v Z ∧ Rg a b X Z ∧ DtC v w0 W) ∧ mz_ = j + 1 - i) ?_ ?_
  · refine ⟨_, a, b - 1, X, rfl, (by exact congrArg (Value.int .i64) (by omega)), ?_, rfl⟩
    exact ⟨by omega, by omega, by omega, Ow.au, Rg.refl, Ch.au⟩
  rintro m0 g0 w1 ⟨i, j, Z, hf6, hf7, hR0, rfl⟩
  refine W_as 6 hf6 rfl ?_
  refine W_as 7 hf7 rfl ?_
  clear hf6 hf7
  obtain ⟨hai, hib, hjb, hZ, hR, hc⟩ := hR0
  have hz := hc.size
  have hlz := hR.length
  refine W_seq ?_
  refine W_seq ?_
  refine W_region ?_
  refine L_r (r_mi rfl) ?_
  refine L_r (r_mi rfl) ?_
  refine L_r (r_lss rfl rfl) ?_
  refine L_nil ?_
  refine W_if rfl (fun h13 => ?_) (fun h13 => ?_)
  · refine W_skip ?_
    refine W_block ?_
    refine W_seq ?_
    refine W_draw (fun W => ∃ xs, Sl W v 1 Z.length xs) 15 (m := 16) (by kernel_rfl) rfl (fun w2 c2 hs2 => ?_)
    refine held (by exact ⟨_, Sl.au⟩) (fun hS => ?_)
    refine D_t 0 rfl (fun W hW => r_mv) ?_
    refine D_t 1 rfl (fun W hW => r_mi rfl) ?_
    refine D_t 2 rfl (fun W hW => r_mv) ?_
    refine D_t 3 rfl (fun W hW => r_mi rfl) ?_
    refine D_t 4 rfl (fun W hW => r_mv) ?_
    refine D_t 5 rfl (fun W hW => r_mi rfl) ?_
    refine D_t 6 rfl (fun W hW => r_ix Try.underlying80 (show _ = some 1 from rfl) (by conv => lhs; whnf) rfl (by exact hW.choose_spec)) ?_
    refine D_t 8 rfl (fun W hW => r_mv) ?_
    refine D_t 9 rfl (fun W hW => r_mi rfl) ?_
    refine D_t 10 rfl (fun W hW => r_ix Try.underlying80 (show _ = some 1 from rfl) (by conv => lhs; whnf) rfl (by exact hW.choose_spec)) ?_
    refine D_ev2 7 11 (by kernel_rfl) rfl rfl ?_ ?_
    · refine L_r (r_loadSl rfl rfl Sl.au (by first | assumption | exact ucells_gt Z _ (by omega) | (conv => lhs; simp only [List.getElem?_toArray, List.getElem?_cons_succ, List.getElem?_cons_zero]))) ?_
      refine L_nil ?_
      refine heldK (by exact ⟨_, Sl.au⟩) (fun hS => ?_)
      refine D_ev 11 (by kernel_rfl) rfl ?_
      refine L_r (r_loadSl rfl rfl Sl.au (by first | assumption | exact ucells_gt Z _ (by omega) | (conv => lhs; simp only [List.getElem?_toArray, List.getElem?_cons_succ, List.getElem?_cons_zero]))) ?_
      refine L_nil ?_
      refine heldK (by exact ⟨_, Sl.au⟩) (fun hS => ?_)
      refine D_t 12 rfl (fun W hW => r_ix Try.underlying80 (show _ = some 1 from rfl) (by conv => lhs; whnf) rfl (by exact hW.choose_spec)) ?_
      refine D_ev 13 (by kernel_rfl) rfl ?_
      refine L_setOw (.plain rfl) rfl rfl (u := .int _ _) rfl rfl Ow.au (by simp only [List.length_set, ucells_length]; omega) (fun w3 hb3 hs3 c3 => ?_)
      refine L_nil ?_
      refine heldK (by exact ⟨_, Sl.au⟩) (fun hS => ?_)
      refine D_t 14 rfl (fun W hW => r_ix Try.underlying80 (show _ = some 1 from rfl) (by conv => lhs; whnf) rfl (by exact hW.choose_spec)) ?_
      refine D_ev 15 (by kernel_rfl) rfl ?_
      refine L_setOw (.plain rfl) rfl rfl (u := .int _ _) rfl rfl Ow.au (by simp only [List.length_set, ucells_length]; omega) (fun w4 hb4 hs4 c4 => ?_)
      refine L_nil ?_
      refine heldL ?_
      refine D_done (by kernel_rfl) ?_
      refine W_seq ?_
      refine W_region ?_
      refine L_r (r_mi rfl) ?_
      refine L_r (r_add rfl rfl (by first | exact wr_i64 (by omega) | rfl)) ?_
      refine L_r (r_ai rfl) ?_
      refine L_nil ?_
      refine W_region ?_
      refine L_r (r_mi rfl) ?_
      refine L_r (r_sub rfl rfl (by first | exact wr_i64 (by omega) | rfl)) ?_
      refine L_r (r_ai rfl) ?_
      refine L_nil ?_
      refine ⟨⟨rfl, trivial⟩, _, ?_, i + 1, j - 1, swp Z i j, rfl, (by exact congrArg (Value.int .i64) (by omega)), ?_, rfl⟩
      · omega
      exact ⟨by omega, by omega, by omega, dt_swp (by assumption), Rg.swap Z i j hR (by omega) (by omega) (by omega) (by omega) hb, Ch.au⟩
    · refine L_r (r_loadSl rfl rfl Sl.au (by first | assumption | exact ucells_gt Z _ (by omega) | (conv => lhs; simp only [List.getElem?_toArray, List.getElem?_cons_succ, List.getElem?_cons_zero]))) ?_
      refine L_nil ?_
      refine heldK (by exact ⟨_, Sl.au⟩) (fun hS => ?_)
      refine D_ev 7 (by kernel_rfl) rfl ?_
      refine L_r (r_loadSl rfl rfl Sl.au (by first | assumption | exact ucells_gt Z _ (by omega) | (conv => lhs; simp only [List.getElem?_toArray, List.getElem?_cons_succ, List.getElem?_cons_zero]))) ?_
      refine L_nil ?_
      refine heldK (by exact ⟨_, Sl.au⟩) (fun hS => ?_)
      refine D_t 12 rfl (fun W hW => r_ix Try.underlying80 (show _ = some 1 from rfl) (by conv => lhs; whnf) rfl (by exact hW.choose_spec)) ?_
      refine D_ev 13 (by kernel_rfl) rfl ?_
      refine L_setOw (.plain rfl) rfl rfl (u := .int _ _) rfl rfl Ow.au (by simp only [List.length_set, ucells_length]; omega) (fun w5 hb5 hs5 c5 => ?_)
      refine L_nil ?_
      refine heldK (by exact ⟨_, Sl.au⟩) (fun hS => ?_)
      refine D_t 14 rfl (fun W hW => r_ix Try.underlying80 (show _ = some 1 from rfl) (by conv => lhs; whnf) rfl (by exact hW.choose_spec)) ?_
      refine D_ev 15 (by kernel_rfl) rfl ?_
      refine L_setOw (.plain rfl) rfl rfl (u := .int _ _) rfl rfl Ow.au (by simp only [List.length_set, ucells_length]; omega) (fun w6 hb6 hs6 c6 => ?_)
      refine L_nil ?_
      refine heldL ?_
      refine D_done (by kernel_rfl) ?_
      refine W_seq ?_
      refine W_region ?_
      refine L_r (r_mi rfl) ?_
      refine L_r (r_add rfl rfl (by first | exact wr_i64 (by omega) | rfl)) ?_
      refine L_r (r_ai rfl) ?_
      refine L_nil ?_
      refine W_region ?_
      refine L_r (r_mi rfl) ?_
      refine L_r (r_sub rfl rfl (by first | exact wr_i64 (by omega) | rfl)) ?_
      refine L_r (r_ai rfl) ?_
      refine L_nil ?_
      refine ⟨⟨rfl, trivial⟩, _, ?_, i + 1, j - 1, swp Z i j, rfl, (by exact congrArg (Value.int .i64) (by omega)), ?_, rfl⟩
      · omega
      exact ⟨by omega, by omega, by omega, dt_swp (by assumption), Rg.swap Z i j hR (by omega) (by omega) (by omega) (by omega) hb, Ch.au⟩
  · refine W_exit ?_
    repeat (first | refine blk_hit ?_ | refine blk_miss rfl ?_)
    refine ret0 rfl  ?_
    exact ⟨rfl, ⟨Z, Ow.au, hR⟩, Ch.au⟩
theorem ow_nbk {w : World} {b1 b e t s1 n1 : Nat} {v : Value} {xs : List Value} {cs : Array Value} (h : Ow w b1 e s1 v n1 xs) (h' : Bk w b cs t) (hne : e ≠ t := by decide) : v.ownBlock ≠ some b := by
  intro h1
  obtain ⟨_, k1⟩ := h.bk h1
  exact Bk.ne k1 h' hne rfl
set_option maxRecDepth 100000 in
theorem order2_walk (base p : Nat) (v : Value) (X : List Nat) (a b s : Nat) (w0 : World) (hv : Dt base w0 v X) (ha : a < X.length) (hb : b < X.length) (hl : X.length ≤ 1000000) (hp : Bk w0 p #[.int .i64 s] 3) (hs : s ≤ 1000) : Does Try.prog 65 #[v, .int .i64 a, .int .i64 b, .pointer (some ⟨p, 0, none⟩)] w0 (fun r w' => ∃ x y s' : Nat, r = .tuple #[.int .i64 (x : Int), .int .i64 (y : Int)] ∧ (x = a ∨ x = b) ∧ (y = a ∨ y = b) ∧ Bk w' p #[.int .i64 (s' : Int)] 3 ∧ s' ≤ s + 1 ∧ Ch (fun j => j = p) w0 w') := by
  have hpv := ow_nbk hv hp
  refine fn_of (n := 28) (args := [v, .int .i64 a, .int .i64 b, .pointer (some ⟨p, 0, none⟩)]) Try.func65 rfl rfl rfl ?_
  refine W_seq ?_
  refine W_region ?_
  refine L_r (r_ai rfl) ?_
  refine L_r (r_ai rfl) ?_
  refine L_nil ?_
  refine W_seq ?_
  refine W_seq ?_
  refine W_draw (fun W => Dt base W v X) 9 (m := 9) (by kernel_rfl) rfl (fun w1 c1 hs1 => ?_)
  refine held Ow.au (fun hS => ?_)
  refine D_t 0 rfl (fun W hW => r_mv) ?_
  refine D_t 1 rfl (fun W hW => r_mi rfl) ?_
  refine D_t 2 rfl (fun W hW => r_ix Try.underlying80 (show _ = some 1 from rfl) (by conv => lhs; whnf) rfl (by (first | exact hW.sl | exact hW))) ?_
  refine D_t 3 rfl (fun W hW => r_loadSl rfl rfl (by (first | exact hW.sl | exact hW)) (by first | assumption | exact ucells_gt X _ (by omega) | (conv => lhs; simp only [List.getElem?_toArray, List.getElem?_cons_succ, List.getElem?_cons_zero]))) ?_
  refine D_t 4 rfl (fun W hW => r_mv) ?_
  refine D_t 5 rfl (fun W hW => r_mi rfl) ?_
  refine D_t 6 rfl (fun W hW => r_ix Try.underlying80 (show _ = some 1 from rfl) (by conv => lhs; whnf) rfl (by (first | exact hW.sl | exact hW))) ?_
  refine D_t 7 rfl (fun W hW => r_loadSl rfl rfl (by (first | exact hW.sl | exact hW)) (by first | assumption | exact ucells_gt X _ (by omega) | (conv => lhs; simp only [List.getElem?_toArray, List.getElem?_cons_succ, List.getElem?_cons_zero]))) ?_
  refine D_ev 8 (by kernel_rfl) rfl ?_
  refine L_call (.plain rfl) rfl rfl (r_call Try.func54 rfl rfl rfl (by rfl)) (less_walk (gt X b) (gt X a) _) ?_
  rintro v18 w2 ⟨rfl, c2⟩
  have hz2 := c2.size
  refine L_nil ?_
  refine heldK Ow.au (fun hS => ?_)
  refine D_done (by kernel_rfl) ?_
  refine W_bool rfl (fun h18 => ?_) (fun h18 => ?_)
  · refine W_seq ?_
    refine W_region ?_
    refine L_r (r_mp rfl) ?_
    refine L_r (r_nilCheck rfl) ?_
    refine L_r (r_lb rfl rfl) ?_
    refine L_r (r_add rfl rfl (by first | exact wr_i64 (by omega) | rfl)) ?_
    refine L_r (r_nilCheck rfl) ?_
    refine L_set (.plain rfl) rfl Bk.au (r_store (v := .int _ _) rfl rfl rfl rfl Bk.au (by first | decide | (simp; done) | omega)) (fun w3 hb3 hs3 c3 => ?_)
    try simp only [List.setIfInBounds_toArray, List.set_cons_zero, List.set_cons_succ] at hb3
    refine L_nil ?_
    refine W_seq ?_
    refine W_region ?_
    refine L_r (r_mi rfl) ?_
    refine L_r (r_mi rfl) ?_
    refine L_r (r_ai rfl) ?_
    refine L_r (r_ai rfl) ?_
    refine L_nil ?_
    refine W_ret ?_
    refine ret2 (u := .int _ _) (v := .int _ _) rfl rfl rfl ?_
    first
    | (have h : Bk w3 p #[.int .i64 ((s : Int) + 1)] 3 := Bk.au
       exact ⟨b, a, s + 1, rfl, .inr rfl, .inl rfl, h, by omega, Ch.au⟩)
    | exact ⟨a, b, s, rfl, .inl rfl, .inr rfl, Bk.au, by omega, Ch.au⟩
  · refine W_skip ?_
    refine W_seq ?_
    refine W_region ?_
    refine L_r (r_mi rfl) ?_
    refine L_r (r_mi rfl) ?_
    refine L_r (r_ai rfl) ?_
    refine L_r (r_ai rfl) ?_
    refine L_nil ?_
    refine W_ret ?_
    refine ret2 (u := .int _ _) (v := .int _ _) rfl rfl rfl ?_
    first
    | (have h : Bk w2 p #[.int .i64 ((s : Int) + 1)] 3 := Bk.au
       exact ⟨b, a, s + 1, rfl, .inr rfl, .inl rfl, h, by omega, Ch.au⟩)
    | exact ⟨a, b, s, rfl, .inl rfl, .inr rfl, Bk.au, by omega, Ch.au⟩
set_option maxRecDepth 100000 in
theorem median_walk (base p : Nat) (v : Value) (X : List Nat) (a b c s : Nat) (w0 : World) (hv : Dt base w0 v X) (ha : a < X.length) (hb : b < X.length) (hc : c < X.length) (hl : X.length ≤ 1000000) (hp : Bk w0 p #[.int .i64 s] 3) (hs : s ≤ 900) : Does Try.prog 63 #[v, .int .i64 a, .int .i64 b, .int .i64 c, .pointer (some ⟨p, 0, none⟩)] w0 (fun r w' => ∃ x s' : Nat, r = .int .i64 (x : Int) ∧ (x = a ∨ x = b ∨ x = c) ∧ Bk w' p #[.int .i64 (s' : Int)] 3 ∧ s' ≤ s + 3 ∧ Ch (fun j => j = p) w0 w') := by
  have hpv := ow_nbk hv hp
  refine fn_of (n := 36) (args := [v, .int .i64 a, .int .i64 b, .int .i64 c, .pointer (some ⟨p, 0, none⟩)]) Try.func63 rfl rfl rfl ?_
  refine W_seq ?_
  refine W_region ?_
  refine L_r (r_ai rfl) ?_
  refine L_nil ?_
  refine W_seq ?_
  refine W_region ?_
  refine L_r (r_mv) ?_
  refine L_r (r_mi rfl) ?_
  refine L_r (r_mi rfl) ?_
  refine L_r (r_mp rfl) ?_
  refine L_call (.plain rfl) rfl rfl (r_call Try.func65 rfl rfl rfl (by rfl)) (order2_walk base p v X a b s _ hv ha hb hl hp (by omega)) ?_
  rintro v16 w1 ⟨x1, y1, s1, rfl, hx1, hy1, hp1, hs1, c1⟩
  have hz1 := c1.size
  have hv1 : Dt base w1 v X := Ow.au
  refine L_r (r_mv) ?_
  refine L_r (r_ext2_0 rfl) ?_
  refine L_r (r_ext2_1 rfl) ?_
  refine L_r (r_ai rfl) ?_
  refine L_r (r_ai rfl) ?_
  refine L_nil ?_
  refine W_seq ?_
  refine W_region ?_
  refine L_r (r_mv) ?_
  refine L_r (r_mi rfl) ?_
  refine L_r (r_mi rfl) ?_
  refine L_r (r_mp rfl) ?_
  refine L_call (.plain rfl) rfl rfl (r_call Try.func65 rfl rfl rfl (by rfl)) (order2_walk base p v X y1 c s1 _ hv1 (by omega) hc hl hp1 (by omega)) ?_
  rintro v24 w2 ⟨x2, y2, s2, rfl, hx2, hy2, hp2, hs2, c2⟩
  have hz2 := c2.size
  have hv2 : Dt base w2 v X := Ow.au
  refine L_r (r_mv) ?_
  refine L_r (r_ext2_0 rfl) ?_
  refine L_r (r_ext2_1 rfl) ?_
  refine L_r (r_ai rfl) ?_
  refine L_r (r_ai rfl) ?_
  refine L_nil ?_
  refine W_seq ?_
  refine W_region ?_
  refine L_r (r_mv) ?_
  refine L_r (r_mi rfl) ?_
  refine L_r (r_mi rfl) ?_
  refine L_r (r_mp rfl) ?_
  refine L_call (.plain rfl) rfl rfl (r_call Try.func65 rfl rfl rfl (by rfl)) (order2_walk base p v X x1 x2 s2 _ hv2 (by omega) (by omega) hl hp2 (by omega)) ?_
  rintro v32 w3 ⟨x3, y3, s3, rfl, hx3, hy3, hp3, hs3, c3⟩
  have hz3 := c3.size
  refine L_r (r_mv) ?_
  refine L_r (r_ext2_0 rfl) ?_
  refine L_r (r_ext2_1 rfl) ?_
  refine L_r (r_ai rfl) ?_
  refine L_r (r_ai rfl) ?_
  refine L_nil ?_
  refine W_seq ?_
  refine W_region ?_
  refine L_r (r_mi rfl) ?_
  refine L_r (r_ai rfl) ?_
  refine L_nil ?_
  refine W_ret ?_
  refine ret1 (v := .int _ _) rfl rfl ?_
  exact ⟨y3, s3, rfl, by omega, Bk.au, by omega, Ch.au⟩
theorem medadj_walk (base p : Nat) (v : Value) (X : List Nat) (a s : Nat) (w0 : World) (hv : Dt base w0 v X) (ha0 : 1 ≤ a) (ha : a + 1 < X.length) (hl : X.length ≤ 1000000) (hp : Bk w0 p #[.int .i64 s] 3) (hs : s ≤ 900) : Does Try.prog 62 #[v, .int .i64 a, .pointer (some ⟨p, 0, none⟩)] w0 (fun r w' => ∃ x s' : Nat, r = .int .i64 (x : Int) ∧ (x = a - 1 ∨ x = a ∨ x = a + 1) ∧ Bk w' p #[.int .i64 (s' : Int)] 3 ∧ s' ≤ s + 3 ∧ Ch (fun j => j = p) w0 w') := by
  refine fn_of (n := 15) (args := [v, .int .i64 a, .pointer (some ⟨p, 0, none⟩)]) Try.func62 rfl rfl rfl ?_
  refine W_seq ?_
  refine W_region ?_
  refine L_r (r_ai rfl) ?_
  refine L_nil ?_
  refine W_seq ?_
  refine W_region ?_
  refine L_r (r_mv) ?_
  refine L_r (r_mi rfl) ?_
  refine L_r (r_sub rfl rfl (by first | exact wr_i64 (by omega) | rfl)) ?_
  rw [show (a : Int) - 1 = ((a - 1 : Nat) : Int) by omega]
  refine L_r (r_mi rfl) ?_
  refine L_r (r_mi rfl) ?_
  refine L_r (r_add rfl rfl (by first | exact wr_i64 (by omega) | rfl)) ?_
  refine L_r (r_mp rfl) ?_
  refine L_call (.plain rfl) rfl rfl (r_call Try.func63 rfl rfl rfl (by rfl)) (median_walk base p v X (a - 1) a (a + 1) s _ hv (by omega) (by omega) (by omega) hl hp (by omega)) ?_
  rintro v14 w1 ⟨x1, s1, rfl, hx1, hp1, hs1, c1⟩
  have hz1 := c1.size
  refine L_r (r_ai rfl) ?_
  refine L_nil ?_
  refine W_ret ?_
  refine ret1 (v := .int _ _) rfl rfl ?_
  exact ⟨x1, s1, rfl, hx1, hp1, hs1, Ch.au⟩
end Go.Proofs.Ytjjddbicggfgnaa

