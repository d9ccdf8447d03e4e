/- The library's sort of numbers, walked: what is nearly sorted. -/
import Derived.Test.YtjjddbicggfgnaaSort4
namespace Go.Proofs.Ytjjddbicggfgnaa
open Go Go.RowKit
set_option linter.unusedVariables false
set_option linter.unusedSimpArgs false
/-- What stands ahead of a piece isn't greater than what is in it. -/
def Ahd (a b : Nat) (X : List Nat) : Prop := 0 < a → ∀ k, a ≤ k → k < b → gt X (a - 1) ≤ gt X k
theorem Ahd.rg {a b : Nat} {X Y : List Nat} (h : Ahd a b X) (r : Rg a b X Y) : Ahd a b Y := by
  intro h0
  have e := r.out (a - 1) (by omega)
  rw [e]
  exact r.all (fun x => gt X (a - 1) ≤ x) (h h0)
theorem srt_next {a i : Nat} {X : List Nat} (h : Srt a i X) (hi : a < i) (h2 : ¬ gt X i < gt X (i - 1)) : Srt a (i + 1) X := by
  intro p q h3 h4 h5
  by_cases e : q = i
  · subst e
    by_cases e2 : p = q - 1
    · rw [e2]; omega
    · have := h p (q - 1) h3 (by omega) (by omega)
      omega
  · exact h p q h3 h4 (by omega)
theorem srt_out {a i j k : Nat} {X : List Nat} (h : Srt a i X) (hj : i ≤ j) (hk : i ≤ k) (hjl : j < X.length) (hkl : k < X.length) : Srt a i (swp X j k) := by
  intro p q h3 h4 h5
  rw [gt_swp _ _ _ _ hjl hkl, gt_swp _ _ _ _ hjl hkl, if_neg (by omega), if_neg (by omega), if_neg (by omega), if_neg (by omega)]
  exact h p q h3 h4 h5
theorem ins_swp {a i : Nat} {X : List Nat} (h : Srt a i X) (hi : a < i) (hl : i < X.length) : Ins a (i - 1) (i - 1) (swp X i (i - 1)) := by
  intro p q h1 h2 h3 h4
  rw [gt_swp _ _ _ _ hl (by omega), gt_swp _ _ _ _ hl (by omega), if_neg (by omega), if_neg (by omega), if_neg (by omega), if_neg (by omega)]
  exact h p q h1 h2 (by omega)
set_option maxHeartbeats 2000000 in
set_option maxRecDepth 100000 in
theorem partial_walk (base : Nat) (v : Value) (X : List Nat) (a b : Nat) (w0 : World) (hv : Dt base w0 v X) (hab : a + 12 < b) (hb : b ≤ X.length) (hl : X.length ≤ 60000) (hA : Ahd a b X) : Does Try.prog 53 #[v, .int .i64 a, .int .i64 b] w0 (fun r w' => ∃ f : Bool, r = .bool f ∧ (∃ Y, Dt base w' v Y ∧ Rg a b X Y ∧ (f = true → Srt a b Y)) ∧ DtC v w0 w') := by
  refine fn_of (n := 133) (args := [v, .int .i64 a, .int .i64 b]) Try.func53 rfl rfl rfl ?_
  refine W_seq ?_
  refine W_region ?_
  refine L_r (r_ab rfl) ?_
  refine L_nil ?_
  refine W_seq ?_
  refine W_region ?_
  refine L_r (r_mi rfl) ?_
  refine L_r (r_add rfl rfl (by first | exact wr_i64 (by omega) | rfl)) ?_
  refine L_r (r_ai rfl) ?_
  refine L_nil ?_
  refine W_seq ?_
  refine W_seq ?_
  refine W_region ?_
  refine L_r (r_ai rfl) ?_
  refine L_nil ?_
  refine W_block ?_
  refine W_loopF [0, 1, 2] (fun mz_ f W => ∃ (n : Nat) (i0 : Nat) (Y0 : List Nat), f 7 = .int .i64 i0 ∧ f 8 = .int .i64 n ∧ ((a < i0 ∧ i0 ≤ b) ∧ n ≤ 5 ∧ Dt base W v Y0 ∧ Rg a b X Y0 ∧ Srt a i0 Y0 ∧ DtC v w0 W) ∧ mz_ = 5 - n) ?_ ?_
  · refine ⟨_, 0, a + 1, X, rfl, rfl, ?_, rfl⟩
    exact ⟨by omega, by omega, Ow.au, Rg.refl, fun p q h1 h2 h3 => by omega, Ch.au⟩
  rintro m0 g0 w1 ⟨n, i0, Y0, hf7, hf8, hR0, rfl⟩
  refine W_as 7 hf7 rfl ?_
  refine W_as 8 hf8 rfl ?_
  clear hf7 hf8
  obtain ⟨hi0, hn, hY0, hR0, hS0, hc⟩ := hR0
  have hz := hc.size
  have hl0 := hR0.length
  refine W_seq ?_
  refine W_seq ?_
  refine W_region ?_
  refine L_r (r_mi rfl) ?_
  refine L_r (r_lss rfl rfl) ?_
  refine L_nil ?_
  refine W_if rfl (fun h14 => ?_) (fun h14 => ?_)
  · refine W_skip ?_
    refine W_seq ?_
    refine W_block ?_
    refine W_seq ?_
    refine W_block ?_
    refine W_loopF [0, 1, 2, 8] (fun mz_ f W => ∃ (i : Nat), f 7 = .int .i64 i ∧ ((a < i ∧ i ≤ b) ∧ Dt base W v Y0 ∧ Srt a i Y0 ∧ DtC v w0 W) ∧ mz_ = b - i) ?_ ?_
    · refine ⟨_, i0, rfl, ?_, rfl⟩
      exact ⟨by omega, Ow.au, hS0, Ch.au⟩
    rintro m1 g1 w2 ⟨i, hf7, hR1, rfl⟩
    refine W_as 7 hf7 rfl ?_
    clear hf7
    obtain ⟨hi, hY, hSr, hc⟩ := hR1
    have hz := hc.size
    refine W_seq ?_
    refine W_seq ?_
    refine W_draw (fun W => Dt base W v Y0) 16 (m := 16) (by kernel_rfl) rfl (fun w3 c3 hs3 => ?_)
    refine held Ow.au (fun hS => ?_)
    refine D_t 0 rfl (fun W hW => r_mi rfl) ?_
    refine D_t 1 rfl (fun W hW => r_mi rfl) ?_
    refine D_t 2 rfl (fun W hW => r_lss rfl rfl) ?_
    refine D_t 3 rfl (fun W hW => r_mb rfl) ?_
    refine D_case (d := 20) rfl (fun h20 => ?_) (fun h20 => ?_)
    · have ei : ((i : Int) - 1).toNat = i - 1 := by omega
      refine D_g 4 rfl (fun W hW => r_mv) ?_
      refine D_g 5 rfl (fun W hW => r_mi rfl) ?_
      refine D_g 6 rfl (fun W hW => r_ix Try.underlying80 (show _ = some 1 from rfl) (by conv => lhs; whnf) rfl (by (first | exact hW.sl | exact hW))) ?_
      refine D_g 7 rfl (fun W hW => r_loadSl rfl rfl (by (first | exact hW.sl | exact hW)) (by first | assumption | exact ucells_gt _ _ (by omega) | (conv => lhs; simp only [List.getElem?_toArray, List.getElem?_cons_succ, List.getElem?_cons_zero]))) ?_
      refine D_g 8 rfl (fun W hW => r_mv) ?_
      refine D_g 9 rfl (fun W hW => r_mi rfl) ?_
      refine D_g 10 rfl (fun W hW => r_sub rfl rfl (by first | exact wr_i64 (by omega) | rfl)) ?_
      refine D_g 11 rfl (fun W hW => r_ix Try.underlying80 (show _ = some 1 from rfl) (by conv => lhs; whnf) rfl (by (first | exact hW.sl | exact hW))) ?_
      refine D_g 12 rfl (fun W hW => r_loadSl rfl rfl (by (first | exact hW.sl | exact hW)) (by first | assumption | exact ucells_gt _ _ (by omega) | (conv => lhs; simp only [List.getElem?_toArray, List.getElem?_cons_succ, List.getElem?_cons_zero]))) ?_
      refine D_ev 13 (by kernel_rfl) rfl ?_
      refine L_call (.yes 3 true rfl rfl) rfl rfl (r_call Try.func54 rfl rfl rfl (by rfl)) (less_walk (gt Y0 i) (gt Y0 ((i : Int) - 1).toNat) _) ?_
      rintro v30 w4 ⟨rfl, c4⟩
      have hz4 := c4.size
      rw [ei]
      refine L_nil ?_
      refine heldK Ow.au (fun hS => ?_)
      refine D_g 14 rfl (fun W hW => r_not rfl) ?_
      refine D_t 15 rfl (fun W hW => r_pt rfl rfl) ?_
      refine D_done (by kernel_rfl) ?_
      refine W_bool rfl (fun h32 => ?_) (fun h32 => ?_)
      · replace h32 : ¬ gt Y0 i < gt Y0 (i - 1) := by simpa using h32
        refine W_skip ?_
        refine W_block ?_
        refine W_region ?_
        refine L_r (r_mi rfl) ?_
        refine L_r (r_add rfl rfl (by first | exact wr_i64 (by omega) | rfl)) ?_
        refine L_r (r_ai rfl) ?_
        refine L_nil ?_
        refine ⟨⟨rfl, rfl, rfl, rfl, trivial⟩, _, ?_, i + 1, rfl, ?_, rfl⟩
        · omega
        exact ⟨by omega, Ow.au, srt_next hSr hi.1 h32, Ch.au⟩
      · refine W_exit ?_
        repeat (first | refine blk_hit ?_ | refine blk_miss rfl ?_)
        refine W_seq ?_
        refine W_seq ?_
        refine W_region ?_
        refine L_r (r_mi rfl) ?_
        refine L_r (r_mi rfl) ?_
        refine L_r (r_eql rfl rfl) ?_
        refine L_nil ?_
        refine W_if rfl (fun h37 => ?_) (fun h37 => ?_)
        · refine W_seq ?_
          refine W_region ?_
          refine L_r (r_ab rfl) ?_
          refine L_nil ?_
          refine W_ret ?_
          refine ret1 (v := .bool _) rfl rfl ?_
          first
          | (refine ⟨true, rfl, ⟨Y0, Ow.au, hR0, fun _ => ?_⟩, Ch.au⟩
             have e : i = b := by omega
             rw [← e]; exact hSr)
          | exact ⟨false, rfl, ⟨Y0, Ow.au, hR0, fun h => by cases h⟩, Ch.au⟩
        · refine W_skip ?_
          refine W_seq ?_
          refine W_seq ?_
          refine W_region ?_
          refine L_r (r_mi rfl) ?_
          refine L_r (r_mi rfl) ?_
          refine L_r (r_sub rfl rfl (by first | exact wr_i64 (by omega) | rfl)) ?_
          refine L_r (r_lss rfl rfl) ?_
          refine L_nil ?_
          refine W_if rfl (fun h41 => ?_) (fun h41 => ?_)
          · refine W_seq ?_
            refine W_region ?_
            refine L_r (r_ab rfl) ?_
            refine L_nil ?_
            refine W_ret ?_
            refine ret1 (v := .bool _) rfl rfl ?_
            first
            | (refine ⟨true, rfl, ⟨Y0, Ow.au, hR0, fun _ => ?_⟩, Ch.au⟩
               have e : i = b := by omega
               rw [← e]; exact hSr)
            | exact ⟨false, rfl, ⟨Y0, Ow.au, hR0, fun h => by cases h⟩, Ch.au⟩
          · refine W_skip ?_
            refine W_seq ?_
            refine W_draw (fun W => ∃ xs, Sl W v 1 Y0.length xs) 17 (m := 18) (by kernel_rfl) rfl (fun w5 c5 hs5 => ?_)
            refine held (by exact ⟨_, Sl.au⟩) (fun hS => ?_)
            refine D_t 0 rfl (fun W hW => r_mv) ?_
            refine D_t 1 rfl (fun W hW => r_mi rfl) ?_
            refine D_t 2 rfl (fun W hW => r_mv) ?_
            refine D_t 3 rfl (fun W hW => r_mi rfl) ?_
            refine D_t 4 rfl (fun W hW => r_sub rfl rfl (by first | exact wr_i64 (by omega) | rfl)) ?_
            refine D_t 5 rfl (fun W hW => r_mv) ?_
            refine D_t 6 rfl (fun W hW => r_mi rfl) ?_
            refine D_t 7 rfl (fun W hW => r_sub rfl rfl (by first | exact wr_i64 (by omega) | rfl)) ?_
            refine D_t 8 rfl (fun W hW => r_ix Try.underlying80 (show _ = some 1 from rfl) (by conv => lhs; whnf) rfl (by exact hW.choose_spec)) ?_
            refine D_t 10 rfl (fun W hW => r_mv) ?_
            refine D_t 11 rfl (fun W hW => r_mi rfl) ?_
            refine D_t 12 rfl (fun W hW => r_ix Try.underlying80 (show _ = some 1 from rfl) (by conv => lhs; whnf) rfl (by exact hW.choose_spec)) ?_
            refine D_ev2 9 13 (by kernel_rfl) rfl rfl ?_ ?_
            · refine L_r (r_loadSl rfl rfl Sl.au (by first | assumption | exact ucells_gt _ _ (by omega) | (conv => lhs; simp only [List.getElem?_toArray, List.getElem?_cons_succ, List.getElem?_cons_zero]))) ?_
              refine L_nil ?_
              refine heldK (by exact ⟨_, Sl.au⟩) (fun hS => ?_)
              refine D_ev 13 (by kernel_rfl) rfl ?_
              refine L_r (r_loadSl rfl rfl Sl.au (by first | assumption | exact ucells_gt _ _ (by omega) | (conv => lhs; simp only [List.getElem?_toArray, List.getElem?_cons_succ, List.getElem?_cons_zero]))) ?_
              refine L_nil ?_
              refine heldK (by exact ⟨_, Sl.au⟩) (fun hS => ?_)
              refine D_t 14 rfl (fun W hW => r_ix Try.underlying80 (show _ = some 1 from rfl) (by conv => lhs; whnf) rfl (by exact hW.choose_spec)) ?_
              refine D_ev 15 (by kernel_rfl) rfl ?_
              refine L_setOw (.plain rfl) rfl rfl (u := .int _ _) rfl rfl Ow.au (by first | omega | (simp only [List.length_set, ucells_length]; omega) | (simp; done)) (fun w6 hb6 hs6 c6 => ?_)
              refine L_nil ?_
              refine heldK (by exact ⟨_, Sl.au⟩) (fun hS => ?_)
              refine D_t 16 rfl (fun W hW => r_ix Try.underlying80 (show _ = some 1 from rfl) (by conv => lhs; whnf) rfl (by exact hW.choose_spec)) ?_
              refine D_ev 17 (by kernel_rfl) rfl ?_
              refine L_setOw (.plain rfl) rfl rfl (u := .int _ _) rfl rfl Ow.au (by first | omega | (simp only [List.length_set, ucells_length]; omega) | (simp; done)) (fun w7 hb7 hs7 c7 => ?_)
              refine L_nil ?_
              refine heldL ?_
              refine D_done (by kernel_rfl) ?_
              refine W_seq ?_
              refine W_seq ?_
              have ei : ((i : Int) - 1).toNat = i - 1 := by omega
              have hB : Ow w7 base 26 1 v Y0.length (((ucells Y0).set i (.int .u64 (gt Y0 ((i : Int) - 1).toNat : Int))).set ((i : Int) - 1).toNat (.int .u64 (gt Y0 i : Int))) := by assumption
              rw [ei] at hB
              have hD1 := dt_swp hB
              clear hB
              have hR1 : Rg a b X (swp Y0 i (i - 1)) := Rg.swap Y0 i (i - 1) hR0 (by omega) (by omega) (by omega) (by omega) hb
              have hI1 := ins_swp hSr (by omega) (by omega : i < Y0.length)
              obtain ⟨Z1, hZ1⟩ : ∃ x, x = swp Y0 i (i - 1) := ⟨_, rfl⟩
              rw [← hZ1] at hD1 hR1 hI1
              have hl1 := hR1.length
              refine W_region ?_
              refine L_r (r_mi rfl) ?_
              refine L_r (r_mi rfl) ?_
              refine L_r (r_sub rfl rfl (by first | exact wr_i64 (by omega) | rfl)) ?_
              refine L_r (r_geq rfl rfl) ?_
              refine L_nil ?_
              refine W_endF [0, 1, 2, 7, 8] (fun f W => ∃ (Z2 : List Nat), True ∧ (Dt base W v Z2 ∧ Rg a b X Z2 ∧ Srt a i Z2 ∧ DtC v w0 W)) ?_ ?_
              · refine W_if rfl (fun h61 => ?_) (fun h61 => ?_)
                · refine W_seq ?_
                  refine W_region ?_
                  refine L_r (r_mi rfl) ?_
                  refine L_r (r_sub rfl rfl (by first | exact wr_i64 (by omega) | rfl)) ?_
                  refine L_r (r_ai rfl) ?_
                  refine L_nil ?_
                  refine W_block ?_
                  refine W_loopF [0, 1, 2, 7, 8] (fun mz_ f W => ∃ (j : Nat) (Z1 : List Nat), f 9 = .int .i64 j ∧ ((a ≤ j ∧ j ≤ i - 1) ∧ Dt base W v Z1 ∧ Rg a b X Z1 ∧ Ins a (i - 1) j Z1 ∧ DtC v w0 W) ∧ mz_ = j + 1) ?_ ?_
                  · refine ⟨_, i - 1, Z1, (by exact congrArg (Value.int .i64) (by omega)), ?_, rfl⟩
                    exact ⟨by omega, Ow.au, hR1, hI1, Ch.au⟩
                  rintro m2 g2 w8 ⟨j, Z1, hf9, hR2, rfl⟩
                  refine W_as 9 hf9 rfl ?_
                  clear hf9
                  obtain ⟨hj, hD1, hR1, hI1, hc⟩ := hR2
                  have hz := hc.size
                  have hl1 := hR1.length
                  have hA1 := hA.rg hR1
                  refine W_seq ?_
                  refine W_seq ?_
                  refine W_region ?_
                  refine L_r (r_mi rfl) ?_
                  refine L_r (r_geq rfl rfl) ?_
                  refine L_nil ?_
                  refine W_if rfl (fun h65 => ?_) (fun h65 => ?_)
                  · have ej : ((j : Int) - 1).toNat = j - 1 := by omega
                    refine W_skip ?_
                    refine W_seq ?_
                    refine W_block ?_
                    refine W_seq ?_
                    refine W_seq ?_
                    refine W_draw (fun W => Dt base W v Z1) 11 (m := 11) (by kernel_rfl) rfl (fun w9 c9 hs9 => ?_)
                    refine held Ow.au (fun hS => ?_)
                    refine D_t 0 rfl (fun W hW => r_mv) ?_
                    refine D_t 1 rfl (fun W hW => r_mi rfl) ?_
                    refine D_t 2 rfl (fun W hW => r_ix Try.underlying80 (show _ = some 1 from rfl) (by conv => lhs; whnf) rfl (by (first | exact hW.sl | exact hW))) ?_
                    refine D_t 3 rfl (fun W hW => r_loadSl rfl rfl (by (first | exact hW.sl | exact hW)) (by first | assumption | exact ucells_gt _ _ (by omega) | (conv => lhs; simp only [List.getElem?_toArray, List.getElem?_cons_succ, List.getElem?_cons_zero]))) ?_
                    refine D_t 4 rfl (fun W hW => r_mv) ?_
                    refine D_t 5 rfl (fun W hW => r_mi rfl) ?_
                    refine D_t 6 rfl (fun W hW => r_sub rfl rfl (by first | exact wr_i64 (by omega) | rfl)) ?_
                    refine D_t 7 rfl (fun W hW => r_ix Try.underlying80 (show _ = some 1 from rfl) (by conv => lhs; whnf) rfl (by (first | exact hW.sl | exact hW))) ?_
                    refine D_t 8 rfl (fun W hW => r_loadSl rfl rfl (by (first | exact hW.sl | exact hW)) (by first | assumption | exact ucells_gt _ _ (by omega) | (conv => lhs; simp only [List.getElem?_toArray, List.getElem?_cons_succ, List.getElem?_cons_zero]))) ?_
                    refine D_ev 9 (by kernel_rfl) rfl ?_
                    refine L_call (.plain rfl) rfl rfl (r_call Try.func54 rfl rfl rfl (by rfl)) (less_walk (gt Z1 j) (gt Z1 ((j : Int) - 1).toNat) _) ?_
                    rintro v77 w10 ⟨rfl, c10⟩
                    have hz10 := c10.size
                    rw [ej]
                    refine L_nil ?_
                    refine heldK Ow.au (fun hS => ?_)
                    refine D_t 10 rfl (fun W hW => r_not rfl) ?_
                    refine D_done (by kernel_rfl) ?_
                    refine W_bool rfl (fun h78 => ?_) (fun h78 => ?_)
                    · replace h78 : ¬ gt Z1 j < gt Z1 (j - 1) := by simpa using h78
                      refine W_exit ?_
                      repeat (first | refine blk_hit ?_ | refine blk_miss rfl ?_)
                      refine ⟨⟨rfl, rfl, rfl, rfl, rfl, trivial⟩, Z1, trivial, ?_⟩
                      first
                      | exact ⟨Ow.au, hR1, (by have h := ins_done hI1 hj.1 hj.2 (.inl (by omega)); rw [Nat.sub_add_cancel (by omega)] at h; exact h), Ch.au⟩
                      | exact ⟨Ow.au, hR1, (by have h := ins_done hI1 hj.1 hj.2 (.inr (by omega)); rw [Nat.sub_add_cancel (by omega)] at h; exact h), Ch.au⟩
                      | exact ⟨Ow.au, hR1, fun p q h1 h2 h3 => by omega, Ch.au⟩
                    · replace h78 : gt Z1 j < gt Z1 (j - 1) := by simpa using h78
                      have haj : a < j := by
                        rcases Nat.lt_or_ge a j with h | h
                        · exact h
                        · have e : j = a := by omega
                          subst e
                          have := hA1 (by omega) j (by omega) (by omega)
                          omega
                      refine W_skip ?_
                      refine W_draw (fun W => ∃ xs, Sl W v 1 Z1.length xs) 17 (m := 18) (by kernel_rfl) rfl (fun w11 c11 hs11 => ?_)
                      refine held (by exact ⟨_, Sl.au⟩) (fun hS => ?_)
                      refine D_t 0 rfl (fun W hW => r_mv) ?_
                      refine D_t 1 rfl (fun W hW => r_mi rfl) ?_
                      refine D_t 2 rfl (fun W hW => r_mv) ?_
                      refine D_t 3 rfl (fun W hW => r_mi rfl) ?_
                      refine D_t 4 rfl (fun W hW => r_sub rfl rfl (by first | exact wr_i64 (by omega) | rfl)) ?_
                      refine D_t 5 rfl (fun W hW => r_mv) ?_
                      refine D_t 6 rfl (fun W hW => r_mi rfl) ?_
                      refine D_t 7 rfl (fun W hW => r_sub rfl rfl (by first | exact wr_i64 (by omega) | rfl)) ?_
                      refine D_t 8 rfl (fun W hW => r_ix Try.underlying80 (show _ = some 1 from rfl) (by conv => lhs; whnf) rfl (by exact hW.choose_spec)) ?_
                      refine D_t 10 rfl (fun W hW => r_mv) ?_
                      refine D_t 11 rfl (fun W hW => r_mi rfl) ?_
                      refine D_t 12 rfl (fun W hW => r_ix Try.underlying80 (show _ = some 1 from rfl) (by conv => lhs; whnf) rfl (by exact hW.choose_spec)) ?_
                      refine D_ev2 9 13 (by kernel_rfl) rfl rfl ?_ ?_
                      · refine L_r (r_loadSl rfl rfl Sl.au (by first | assumption | exact ucells_gt _ _ (by omega) | (conv => lhs; simp only [List.getElem?_toArray, List.getElem?_cons_succ, List.getElem?_cons_zero]))) ?_
                        refine L_nil ?_
                        refine heldK (by exact ⟨_, Sl.au⟩) (fun hS => ?_)
                        refine D_ev 13 (by kernel_rfl) rfl ?_
                        refine L_r (r_loadSl rfl rfl Sl.au (by first | assumption | exact ucells_gt _ _ (by omega) | (conv => lhs; simp only [List.getElem?_toArray, List.getElem?_cons_succ, List.getElem?_cons_zero]))) ?_
                        refine L_nil ?_
                        refine heldK (by exact ⟨_, Sl.au⟩) (fun hS => ?_)
                        refine D_t 14 rfl (fun W hW => r_ix Try.underlying80 (show _ = some 1 from rfl) (by conv => lhs; whnf) rfl (by exact hW.choose_spec)) ?_
                        refine D_ev 15 (by kernel_rfl) rfl ?_
                        refine L_setOw (.plain rfl) rfl rfl (u := .int _ _) rfl rfl Ow.au (by first | omega | (simp only [List.length_set, ucells_length]; omega) | (simp; done)) (fun w12 hb12 hs12 c12 => ?_)
                        refine L_nil ?_
                        refine heldK (by exact ⟨_, Sl.au⟩) (fun hS => ?_)
                        refine D_t 16 rfl (fun W hW => r_ix Try.underlying80 (show _ = some 1 from rfl) (by conv => lhs; whnf) rfl (by exact hW.choose_spec)) ?_
                        refine D_ev 17 (by kernel_rfl) rfl ?_
                        refine L_setOw (.plain rfl) rfl rfl (u := .int _ _) rfl rfl Ow.au (by first | omega | (simp only [List.length_set, ucells_length]; omega) | (simp; done)) (fun w13 hb13 hs13 c13 => ?_)
                        refine L_nil ?_
                        refine heldL ?_
                        refine D_done (by kernel_rfl) ?_
                        refine W_region ?_
                        refine L_r (r_mi rfl) ?_
                        refine L_r (r_sub rfl rfl (by first | exact wr_i64 (by omega) | rfl)) ?_
                        refine L_r (r_ai rfl) ?_
                        refine L_nil ?_
                        refine ⟨⟨rfl, rfl, rfl, rfl, rfl, trivial⟩, _, ?_, j - 1, swp Z1 j (j - 1), (by exact congrArg (Value.int .i64) (by omega)), ?_, rfl⟩
                        · omega
                        have hB : Ow w13 base 26 1 v Z1.length (((ucells Z1).set j (.int .u64 (gt Z1 ((j : Int) - 1).toNat : Int))).set ((j : Int) - 1).toNat (.int .u64 (gt Z1 j : Int))) := by assumption
                        rw [ej] at hB
                        exact ⟨by omega, dt_swp hB, Rg.swap Z1 j (j - 1) hR1 (by omega) (by omega) (by omega) (by omega) hb, ins_step hI1 (by omega) (by omega) (by omega) h78, Ch.au⟩
                      · refine L_r (r_loadSl rfl rfl Sl.au (by first | assumption | exact ucells_gt _ _ (by omega) | (conv => lhs; simp only [List.getElem?_toArray, List.getElem?_cons_succ, List.getElem?_cons_zero]))) ?_
                        refine L_nil ?_
                        refine heldK (by exact ⟨_, Sl.au⟩) (fun hS => ?_)
                        refine D_ev 9 (by kernel_rfl) rfl ?_
                        refine L_r (r_loadSl rfl rfl Sl.au (by first | assumption | exact ucells_gt _ _ (by omega) | (conv => lhs; simp only [List.getElem?_toArray, List.getElem?_cons_succ, List.getElem?_cons_zero]))) ?_
                        refine L_nil ?_
                        refine heldK (by exact ⟨_, Sl.au⟩) (fun hS => ?_)
                        refine D_t 14 rfl (fun W hW => r_ix Try.underlying80 (show _ = some 1 from rfl) (by conv => lhs; whnf) rfl (by exact hW.choose_spec)) ?_
                        refine D_ev 15 (by kernel_rfl) rfl ?_
                        refine L_setOw (.plain rfl) rfl rfl (u := .int _ _) rfl rfl Ow.au (by first | omega | (simp only [List.length_set, ucells_length]; omega) | (simp; done)) (fun w14 hb14 hs14 c14 => ?_)
                        refine L_nil ?_
                        refine heldK (by exact ⟨_, Sl.au⟩) (fun hS => ?_)
                        refine D_t 16 rfl (fun W hW => r_ix Try.underlying80 (show _ = some 1 from rfl) (by conv => lhs; whnf) rfl (by exact hW.choose_spec)) ?_
                        refine D_ev 17 (by kernel_rfl) rfl ?_
                        refine L_setOw (.plain rfl) rfl rfl (u := .int _ _) rfl rfl Ow.au (by first | omega | (simp only [List.length_set, ucells_length]; omega) | (simp; done)) (fun w15 hb15 hs15 c15 => ?_)
                        refine L_nil ?_
                        refine heldL ?_
                        refine D_done (by kernel_rfl) ?_
                        refine W_region ?_
                        refine L_r (r_mi rfl) ?_
                        refine L_r (r_sub rfl rfl (by first | exact wr_i64 (by omega) | rfl)) ?_
                        refine L_r (r_ai rfl) ?_
                        refine L_nil ?_
                        refine ⟨⟨rfl, rfl, rfl, rfl, rfl, trivial⟩, _, ?_, j - 1, swp Z1 j (j - 1), (by exact congrArg (Value.int .i64) (by omega)), ?_, rfl⟩
                        · omega
                        have hB : Ow w15 base 26 1 v Z1.length (((ucells Z1).set j (.int .u64 (gt Z1 ((j : Int) - 1).toNat : Int))).set ((j : Int) - 1).toNat (.int .u64 (gt Z1 j : Int))) := by assumption
                        rw [ej] at hB
                        exact ⟨by omega, dt_swp hB, Rg.swap Z1 j (j - 1) hR1 (by omega) (by omega) (by omega) (by omega) hb, ins_step hI1 (by omega) (by omega) (by omega) h78, Ch.au⟩
                  · refine W_exit ?_
                    repeat (first | refine blk_hit ?_ | refine blk_miss rfl ?_)
                    refine ⟨⟨rfl, rfl, rfl, rfl, rfl, trivial⟩, Z1, trivial, ?_⟩
                    first
                    | exact ⟨Ow.au, hR1, (by have h := ins_done hI1 hj.1 hj.2 (.inl (by omega)); rw [Nat.sub_add_cancel (by omega)] at h; exact h), Ch.au⟩
                    | exact ⟨Ow.au, hR1, (by have h := ins_done hI1 hj.1 hj.2 (.inr (by omega)); rw [Nat.sub_add_cancel (by omega)] at h; exact h), Ch.au⟩
                    | exact ⟨Ow.au, hR1, fun p q h1 h2 h3 => by omega, Ch.au⟩
                · refine W_skip ?_
                  refine ⟨⟨rfl, rfl, rfl, rfl, rfl, trivial⟩, Z1, trivial, ?_⟩
                  first
                  | exact ⟨Ow.au, hR1, (by have h := ins_done hI1 hj.1 hj.2 (.inl (by omega)); rw [Nat.sub_add_cancel (by omega)] at h; exact h), Ch.au⟩
                  | exact ⟨Ow.au, hR1, (by have h := ins_done hI1 hj.1 hj.2 (.inr (by omega)); rw [Nat.sub_add_cancel (by omega)] at h; exact h), Ch.au⟩
                  | exact ⟨Ow.au, hR1, fun p q h1 h2 h3 => by omega, Ch.au⟩
              rintro gct61 w16 ⟨Z2, -, hCt61⟩
              obtain ⟨hD2, hR2, hS2, hc⟩ := hCt61
              have hz := hc.size
              have hl2 := hR2.length
              refine W_seq ?_
              refine W_region ?_
              refine L_r (r_mi rfl) ?_
              refine L_r (r_mi rfl) ?_
              refine L_r (r_sub rfl rfl (by first | exact wr_i64 (by omega) | rfl)) ?_
              refine L_r (r_geq rfl rfl) ?_
              refine L_nil ?_
              refine W_endF [0, 1, 2, 7, 8] (fun f W => ∃ (Z3 : List Nat), True ∧ (Dt base W v Z3 ∧ Rg a b X Z3 ∧ Srt a i Z3 ∧ DtC v w0 W)) ?_ ?_
              · refine W_if rfl (fun h98 => ?_) (fun h98 => ?_)
                · refine W_seq ?_
                  refine W_region ?_
                  refine L_r (r_mi rfl) ?_
                  refine L_r (r_add rfl rfl (by first | exact wr_i64 (by omega) | rfl)) ?_
                  refine L_r (r_ai rfl) ?_
                  refine L_nil ?_
                  refine W_block ?_
                  refine W_loopF [0, 1, 2, 7, 8] (fun mz_ f W => ∃ (k : Nat) (Z2 : List Nat), f 10 = .int .i64 k ∧ ((i < k ∧ k ≤ b) ∧ Dt base W v Z2 ∧ Rg a b X Z2 ∧ Srt a i Z2 ∧ DtC v w0 W) ∧ mz_ = b - k) ?_ ?_
                  · refine ⟨_, i + 1, Z2, rfl, ?_, rfl⟩
                    exact ⟨by omega, Ow.au, hR2, hS2, Ch.au⟩
                  rintro m3 g3 w17 ⟨k, Z2, hf10, hR3, rfl⟩
                  refine W_as 10 hf10 rfl ?_
                  clear hf10
                  obtain ⟨hk, hD2, hR2, hS2, hc⟩ := hR3
                  have hz := hc.size
                  have hl2 := hR2.length
                  refine W_seq ?_
                  refine W_seq ?_
                  refine W_region ?_
                  refine L_r (r_mi rfl) ?_
                  refine L_r (r_mi rfl) ?_
                  refine L_r (r_lss rfl rfl) ?_
                  refine L_nil ?_
                  refine W_if rfl (fun h103 => ?_) (fun h103 => ?_)
                  · have ek : ((k : Int) - 1).toNat = k - 1 := by omega
                    refine W_skip ?_
                    refine W_seq ?_
                    refine W_block ?_
                    refine W_seq ?_
                    refine W_seq ?_
                    refine W_draw (fun W => Dt base W v Z2) 11 (m := 11) (by kernel_rfl) rfl (fun w18 c18 hs18 => ?_)
                    refine held Ow.au (fun hS => ?_)
                    refine D_t 0 rfl (fun W hW => r_mv) ?_
                    refine D_t 1 rfl (fun W hW => r_mi rfl) ?_
                    refine D_t 2 rfl (fun W hW => r_ix Try.underlying80 (show _ = some 1 from rfl) (by conv => lhs; whnf) rfl (by (first | exact hW.sl | exact hW))) ?_
                    refine D_t 3 rfl (fun W hW => r_loadSl rfl rfl (by (first | exact hW.sl | exact hW)) (by first | assumption | exact ucells_gt _ _ (by omega) | (conv => lhs; simp only [List.getElem?_toArray, List.getElem?_cons_succ, List.getElem?_cons_zero]))) ?_
                    refine D_t 4 rfl (fun W hW => r_mv) ?_
                    refine D_t 5 rfl (fun W hW => r_mi rfl) ?_
                    refine D_t 6 rfl (fun W hW => r_sub rfl rfl (by first | exact wr_i64 (by omega) | rfl)) ?_
                    refine D_t 7 rfl (fun W hW => r_ix Try.underlying80 (show _ = some 1 from rfl) (by conv => lhs; whnf) rfl (by (first | exact hW.sl | exact hW))) ?_
                    refine D_t 8 rfl (fun W hW => r_loadSl rfl rfl (by (first | exact hW.sl | exact hW)) (by first | assumption | exact ucells_gt _ _ (by omega) | (conv => lhs; simp only [List.getElem?_toArray, List.getElem?_cons_succ, List.getElem?_cons_zero]))) ?_
                    refine D_ev 9 (by kernel_rfl) rfl ?_
                    refine L_call (.plain rfl) rfl rfl (r_call Try.func54 rfl rfl rfl (by rfl)) (less_walk (gt Z2 k) (gt Z2 ((k : Int) - 1).toNat) _) ?_
                    rintro v115 w19 ⟨rfl, c19⟩
                    have hz19 := c19.size
                    rw [ek]
                    refine L_nil ?_
                    refine heldK Ow.au (fun hS => ?_)
                    refine D_t 10 rfl (fun W hW => r_not rfl) ?_
                    refine D_done (by kernel_rfl) ?_
                    refine W_bool rfl (fun h116 => ?_) (fun h116 => ?_)
                    · refine W_exit ?_
                      repeat (first | refine blk_hit ?_ | refine blk_miss rfl ?_)
                      refine ⟨⟨rfl, rfl, rfl, rfl, rfl, trivial⟩, Z2, trivial, ?_⟩
                      exact ⟨Ow.au, hR2, hS2, Ch.au⟩
                    · refine W_skip ?_
                      refine W_draw (fun W => ∃ xs, Sl W v 1 Z2.length xs) 17 (m := 18) (by kernel_rfl) rfl (fun w20 c20 hs20 => ?_)
                      refine held (by exact ⟨_, Sl.au⟩) (fun hS => ?_)
                      refine D_t 0 rfl (fun W hW => r_mv) ?_
                      refine D_t 1 rfl (fun W hW => r_mi rfl) ?_
                      refine D_t 2 rfl (fun W hW => r_mv) ?_
                      refine D_t 3 rfl (fun W hW => r_mi rfl) ?_
                      refine D_t 4 rfl (fun W hW => r_sub rfl rfl (by first | exact wr_i64 (by omega) | rfl)) ?_
                      refine D_t 5 rfl (fun W hW => r_mv) ?_
                      refine D_t 6 rfl (fun W hW => r_mi rfl) ?_
                      refine D_t 7 rfl (fun W hW => r_sub rfl rfl (by first | exact wr_i64 (by omega) | rfl)) ?_
                      refine D_t 8 rfl (fun W hW => r_ix Try.underlying80 (show _ = some 1 from rfl) (by conv => lhs; whnf) rfl (by exact hW.choose_spec)) ?_
                      refine D_t 10 rfl (fun W hW => r_mv) ?_
                      refine D_t 11 rfl (fun W hW => r_mi rfl) ?_
                      refine D_t 12 rfl (fun W hW => r_ix Try.underlying80 (show _ = some 1 from rfl) (by conv => lhs; whnf) rfl (by exact hW.choose_spec)) ?_
                      refine D_ev2 9 13 (by kernel_rfl) rfl rfl ?_ ?_
                      · refine L_r (r_loadSl rfl rfl Sl.au (by first | assumption | exact ucells_gt _ _ (by omega) | (conv => lhs; simp only [List.getElem?_toArray, List.getElem?_cons_succ, List.getElem?_cons_zero]))) ?_
                        refine L_nil ?_
                        refine heldK (by exact ⟨_, Sl.au⟩) (fun hS => ?_)
                        refine D_ev 13 (by kernel_rfl) rfl ?_
                        refine L_r (r_loadSl rfl rfl Sl.au (by first | assumption | exact ucells_gt _ _ (by omega) | (conv => lhs; simp only [List.getElem?_toArray, List.getElem?_cons_succ, List.getElem?_cons_zero]))) ?_
                        refine L_nil ?_
                        refine heldK (by exact ⟨_, Sl.au⟩) (fun hS => ?_)
                        refine D_t 14 rfl (fun W hW => r_ix Try.underlying80 (show _ = some 1 from rfl) (by conv => lhs; whnf) rfl (by exact hW.choose_spec)) ?_
                        refine D_ev 15 (by kernel_rfl) rfl ?_
                        refine L_setOw (.plain rfl) rfl rfl (u := .int _ _) rfl rfl Ow.au (by first | omega | (simp only [List.length_set, ucells_length]; omega) | (simp; done)) (fun w21 hb21 hs21 c21 => ?_)
                        refine L_nil ?_
                        refine heldK (by exact ⟨_, Sl.au⟩) (fun hS => ?_)
                        refine D_t 16 rfl (fun W hW => r_ix Try.underlying80 (show _ = some 1 from rfl) (by conv => lhs; whnf) rfl (by exact hW.choose_spec)) ?_
                        refine D_ev 17 (by kernel_rfl) rfl ?_
                        refine L_setOw (.plain rfl) rfl rfl (u := .int _ _) rfl rfl Ow.au (by first | omega | (simp only [List.length_set, ucells_length]; omega) | (simp; done)) (fun w22 hb22 hs22 c22 => ?_)
                        refine L_nil ?_
                        refine heldL ?_
                        refine D_done (by kernel_rfl) ?_
                        refine W_region ?_
                        refine L_r (r_mi rfl) ?_
                        refine L_r (r_add rfl rfl (by first | exact wr_i64 (by omega) | rfl)) ?_
                        refine L_r (r_ai rfl) ?_
                        refine L_nil ?_
                        refine ⟨⟨rfl, rfl, rfl, rfl, rfl, trivial⟩, _, ?_, k + 1, swp Z2 k (k - 1), rfl, ?_, rfl⟩
                        · omega
                        have hB : Ow w22 base 26 1 v Z2.length (((ucells Z2).set k (.int .u64 (gt Z2 ((k : Int) - 1).toNat : Int))).set ((k : Int) - 1).toNat (.int .u64 (gt Z2 k : Int))) := by assumption
                        rw [ek] at hB
                        exact ⟨by omega, dt_swp hB, Rg.swap Z2 k (k - 1) hR2 (by omega) (by omega) (by omega) (by omega) hb, srt_out hS2 (by omega) (by omega) (by omega) (by omega), Ch.au⟩
                      · refine L_r (r_loadSl rfl rfl Sl.au (by first | assumption | exact ucells_gt _ _ (by omega) | (conv => lhs; simp only [List.getElem?_toArray, List.getElem?_cons_succ, List.getElem?_cons_zero]))) ?_
                        refine L_nil ?_
                        refine heldK (by exact ⟨_, Sl.au⟩) (fun hS => ?_)
                        refine D_ev 9 (by kernel_rfl) rfl ?_
                        refine L_r (r_loadSl rfl rfl Sl.au (by first | assumption | exact ucells_gt _ _ (by omega) | (conv => lhs; simp only [List.getElem?_toArray, List.getElem?_cons_succ, List.getElem?_cons_zero]))) ?_
                        refine L_nil ?_
                        refine heldK (by exact ⟨_, Sl.au⟩) (fun hS => ?_)
                        refine D_t 14 rfl (fun W hW => r_ix Try.underlying80 (show _ = some 1 from rfl) (by conv => lhs; whnf) rfl (by exact hW.choose_spec)) ?_
                        refine D_ev 15 (by kernel_rfl) rfl ?_
                        refine L_setOw (.plain rfl) rfl rfl (u := .int _ _) rfl rfl Ow.au (by first | omega | (simp only [List.length_set, ucells_length]; omega) | (simp; done)) (fun w23 hb23 hs23 c23 => ?_)
                        refine L_nil ?_
                        refine heldK (by exact ⟨_, Sl.au⟩) (fun hS => ?_)
                        refine D_t 16 rfl (fun W hW => r_ix Try.underlying80 (show _ = some 1 from rfl) (by conv => lhs; whnf) rfl (by exact hW.choose_spec)) ?_
                        refine D_ev 17 (by kernel_rfl) rfl ?_
                        refine L_setOw (.plain rfl) rfl rfl (u := .int _ _) rfl rfl Ow.au (by first | omega | (simp only [List.length_set, ucells_length]; omega) | (simp; done)) (fun w24 hb24 hs24 c24 => ?_)
                        refine L_nil ?_
                        refine heldL ?_
                        refine D_done (by kernel_rfl) ?_
                        refine W_region ?_
                        refine L_r (r_mi rfl) ?_
                        refine L_r (r_add rfl rfl (by first | exact wr_i64 (by omega) | rfl)) ?_
                        refine L_r (r_ai rfl) ?_
                        refine L_nil ?_
                        refine ⟨⟨rfl, rfl, rfl, rfl, rfl, trivial⟩, _, ?_, k + 1, swp Z2 k (k - 1), rfl, ?_, rfl⟩
                        · omega
                        have hB : Ow w24 base 26 1 v Z2.length (((ucells Z2).set k (.int .u64 (gt Z2 ((k : Int) - 1).toNat : Int))).set ((k : Int) - 1).toNat (.int .u64 (gt Z2 k : Int))) := by assumption
                        rw [ek] at hB
                        exact ⟨by omega, dt_swp hB, Rg.swap Z2 k (k - 1) hR2 (by omega) (by omega) (by omega) (by omega) hb, srt_out hS2 (by omega) (by omega) (by omega) (by omega), Ch.au⟩
                  · refine W_exit ?_
                    repeat (first | refine blk_hit ?_ | refine blk_miss rfl ?_)
                    refine ⟨⟨rfl, rfl, rfl, rfl, rfl, trivial⟩, Z2, trivial, ?_⟩
                    exact ⟨Ow.au, hR2, hS2, Ch.au⟩
                · refine W_skip ?_
                  refine ⟨⟨rfl, rfl, rfl, rfl, rfl, trivial⟩, Z2, trivial, ?_⟩
                  exact ⟨Ow.au, hR2, hS2, Ch.au⟩
              rintro gct98 w25 ⟨Z3, -, hCt98⟩
              obtain ⟨hD3, hR3, hS3, hc⟩ := hCt98
              have hz := hc.size
              refine W_region ?_
              refine L_r (r_mi rfl) ?_
              refine L_r (r_add rfl rfl (by first | exact wr_i64 (by omega) | rfl)) ?_
              refine L_r (r_ai rfl) ?_
              refine L_nil ?_
              refine ⟨⟨rfl, rfl, rfl, trivial⟩, _, ?_, n + 1, i, Z3, rfl, rfl, ?_, rfl⟩
              · omega
              exact ⟨by omega, by omega, Ow.au, hR3, hS3, Ch.au⟩
            · refine L_r (r_loadSl rfl rfl Sl.au (by first | assumption | exact ucells_gt _ _ (by omega) | (conv => lhs; simp only [List.getElem?_toArray, List.getElem?_cons_succ, List.getElem?_cons_zero]))) ?_
              refine L_nil ?_
              refine heldK (by exact ⟨_, Sl.au⟩) (fun hS => ?_)
              refine D_ev 9 (by kernel_rfl) rfl ?_
              refine L_r (r_loadSl rfl rfl Sl.au (by first | assumption | exact ucells_gt _ _ (by omega) | (conv => lhs; simp only [List.getElem?_toArray, List.getElem?_cons_succ, List.getElem?_cons_zero]))) ?_
              refine L_nil ?_
              refine heldK (by exact ⟨_, Sl.au⟩) (fun hS => ?_)
              refine D_t 14 rfl (fun W hW => r_ix Try.underlying80 (show _ = some 1 from rfl) (by conv => lhs; whnf) rfl (by exact hW.choose_spec)) ?_
              refine D_ev 15 (by kernel_rfl) rfl ?_
              refine L_setOw (.plain rfl) rfl rfl (u := .int _ _) rfl rfl Ow.au (by first | omega | (simp only [List.length_set, ucells_length]; omega) | (simp; done)) (fun w26 hb26 hs26 c26 => ?_)
              refine L_nil ?_
              refine heldK (by exact ⟨_, Sl.au⟩) (fun hS => ?_)
              refine D_t 16 rfl (fun W hW => r_ix Try.underlying80 (show _ = some 1 from rfl) (by conv => lhs; whnf) rfl (by exact hW.choose_spec)) ?_
              refine D_ev 17 (by kernel_rfl) rfl ?_
              refine L_setOw (.plain rfl) rfl rfl (u := .int _ _) rfl rfl Ow.au (by first | omega | (simp only [List.length_set, ucells_length]; omega) | (simp; done)) (fun w27 hb27 hs27 c27 => ?_)
              refine L_nil ?_
              refine heldL ?_
              refine D_done (by kernel_rfl) ?_
              refine W_seq ?_
              refine W_seq ?_
              have ei : ((i : Int) - 1).toNat = i - 1 := by omega
              have hB : Ow w27 base 26 1 v Y0.length (((ucells Y0).set i (.int .u64 (gt Y0 ((i : Int) - 1).toNat : Int))).set ((i : Int) - 1).toNat (.int .u64 (gt Y0 i : Int))) := by assumption
              rw [ei] at hB
              have hD1 := dt_swp hB
              clear hB
              have hR1 : Rg a b X (swp Y0 i (i - 1)) := Rg.swap Y0 i (i - 1) hR0 (by omega) (by omega) (by omega) (by omega) hb
              have hI1 := ins_swp hSr (by omega) (by omega : i < Y0.length)
              obtain ⟨Z1, hZ1⟩ : ∃ x, x = swp Y0 i (i - 1) := ⟨_, rfl⟩
              rw [← hZ1] at hD1 hR1 hI1
              have hl1 := hR1.length
              refine W_region ?_
              refine L_r (r_mi rfl) ?_
              refine L_r (r_mi rfl) ?_
              refine L_r (r_sub rfl rfl (by first | exact wr_i64 (by omega) | rfl)) ?_
              refine L_r (r_geq rfl rfl) ?_
              refine L_nil ?_
              refine W_endF [0, 1, 2, 7, 8] (fun f W => ∃ (Z2 : List Nat), True ∧ (Dt base W v Z2 ∧ Rg a b X Z2 ∧ Srt a i Z2 ∧ DtC v w0 W)) ?_ ?_
              · refine W_if rfl (fun h61 => ?_) (fun h61 => ?_)
                · refine W_seq ?_
                  refine W_region ?_
                  refine L_r (r_mi rfl) ?_
                  refine L_r (r_sub rfl rfl (by first | exact wr_i64 (by omega) | rfl)) ?_
                  refine L_r (r_ai rfl) ?_
                  refine L_nil ?_
                  refine W_block ?_
                  refine W_loopF [0, 1, 2, 7, 8] (fun mz_ f W => ∃ (j : Nat) (Z1 : List Nat), f 9 = .int .i64 j ∧ ((a ≤ j ∧ j ≤ i - 1) ∧ Dt base W v Z1 ∧ Rg a b X Z1 ∧ Ins a (i - 1) j Z1 ∧ DtC v w0 W) ∧ mz_ = j + 1) ?_ ?_
                  · refine ⟨_, i - 1, Z1, (by exact congrArg (Value.int .i64) (by omega)), ?_, rfl⟩
                    exact ⟨by omega, Ow.au, hR1, hI1, Ch.au⟩
                  rintro m2 g2 w28 ⟨j, Z1, hf9, hR2, rfl⟩
                  refine W_as 9 hf9 rfl ?_
                  clear hf9
                  obtain ⟨hj, hD1, hR1, hI1, hc⟩ := hR2
                  have hz := hc.size
                  have hl1 := hR1.length
                  have hA1 := hA.rg hR1
                  refine W_seq ?_
                  refine W_seq ?_
                  refine W_region ?_
                  refine L_r (r_mi rfl) ?_
                  refine L_r (r_geq rfl rfl) ?_
                  refine L_nil ?_
                  refine W_if rfl (fun h65 => ?_) (fun h65 => ?_)
                  · have ej : ((j : Int) - 1).toNat = j - 1 := by omega
                    refine W_skip ?_
                    refine W_seq ?_
                    refine W_block ?_
                    refine W_seq ?_
                    refine W_seq ?_
                    refine W_draw (fun W => Dt base W v Z1) 11 (m := 11) (by kernel_rfl) rfl (fun w29 c29 hs29 => ?_)
                    refine held Ow.au (fun hS => ?_)
                    refine D_t 0 rfl (fun W hW => r_mv) ?_
                    refine D_t 1 rfl (fun W hW => r_mi rfl) ?_
                    refine D_t 2 rfl (fun W hW => r_ix Try.underlying80 (show _ = some 1 from rfl) (by conv => lhs; whnf) rfl (by (first | exact hW.sl | exact hW))) ?_
                    refine D_t 3 rfl (fun W hW => r_loadSl rfl rfl (by (first | exact hW.sl | exact hW)) (by first | assumption | exact ucells_gt _ _ (by omega) | (conv => lhs; simp only [List.getElem?_toArray, List.getElem?_cons_succ, List.getElem?_cons_zero]))) ?_
                    refine D_t 4 rfl (fun W hW => r_mv) ?_
                    refine D_t 5 rfl (fun W hW => r_mi rfl) ?_
                    refine D_t 6 rfl (fun W hW => r_sub rfl rfl (by first | exact wr_i64 (by omega) | rfl)) ?_
                    refine D_t 7 rfl (fun W hW => r_ix Try.underlying80 (show _ = some 1 from rfl) (by conv => lhs; whnf) rfl (by (first | exact hW.sl | exact hW))) ?_
                    refine D_t 8 rfl (fun W hW => r_loadSl rfl rfl (by (first | exact hW.sl | exact hW)) (by first | assumption | exact ucells_gt _ _ (by omega) | (conv => lhs; simp only [List.getElem?_toArray, List.getElem?_cons_succ, List.getElem?_cons_zero]))) ?_
                    refine D_ev 9 (by kernel_rfl) rfl ?_
                    refine L_call (.plain rfl) rfl rfl (r_call Try.func54 rfl rfl rfl (by rfl)) (less_walk (gt Z1 j) (gt Z1 ((j : Int) - 1).toNat) _) ?_
                    rintro v77 w30 ⟨rfl, c30⟩
                    have hz30 := c30.size
                    rw [ej]
                    refine L_nil ?_
                    refine heldK Ow.au (fun hS => ?_)
                    refine D_t 10 rfl (fun W hW => r_not rfl) ?_
                    refine D_done (by kernel_rfl) ?_
                    refine W_bool rfl (fun h78 => ?_) (fun h78 => ?_)
                    · replace h78 : ¬ gt Z1 j < gt Z1 (j - 1) := by simpa using h78
                      refine W_exit ?_
                      repeat (first | refine blk_hit ?_ | refine blk_miss rfl ?_)
                      refine ⟨⟨rfl, rfl, rfl, rfl, rfl, trivial⟩, Z1, trivial, ?_⟩
                      first
                      | exact ⟨Ow.au, hR1, (by have h := ins_done hI1 hj.1 hj.2 (.inl (by omega)); rw [Nat.sub_add_cancel (by omega)] at h; exact h), Ch.au⟩
                      | exact ⟨Ow.au, hR1, (by have h := ins_done hI1 hj.1 hj.2 (.inr (by omega)); rw [Nat.sub_add_cancel (by omega)] at h; exact h), Ch.au⟩
                      | exact ⟨Ow.au, hR1, fun p q h1 h2 h3 => by omega, Ch.au⟩
                    · replace h78 : gt Z1 j < gt Z1 (j - 1) := by simpa using h78
                      have haj : a < j := by
                        rcases Nat.lt_or_ge a j with h | h
                        · exact h
                        · have e : j = a := by omega
                          subst e
                          have := hA1 (by omega) j (by omega) (by omega)
                          omega
                      refine W_skip ?_
                      refine W_draw (fun W => ∃ xs, Sl W v 1 Z1.length xs) 17 (m := 18) (by kernel_rfl) rfl (fun w31 c31 hs31 => ?_)
                      refine held (by exact ⟨_, Sl.au⟩) (fun hS => ?_)
                      refine D_t 0 rfl (fun W hW => r_mv) ?_
                      refine D_t 1 rfl (fun W hW => r_mi rfl) ?_
                      refine D_t 2 rfl (fun W hW => r_mv) ?_
                      refine D_t 3 rfl (fun W hW => r_mi rfl) ?_
                      refine D_t 4 rfl (fun W hW => r_sub rfl rfl (by first | exact wr_i64 (by omega) | rfl)) ?_
                      refine D_t 5 rfl (fun W hW => r_mv) ?_
                      refine D_t 6 rfl (fun W hW => r_mi rfl) ?_
                      refine D_t 7 rfl (fun W hW => r_sub rfl rfl (by first | exact wr_i64 (by omega) | rfl)) ?_
                      refine D_t 8 rfl (fun W hW => r_ix Try.underlying80 (show _ = some 1 from rfl) (by conv => lhs; whnf) rfl (by exact hW.choose_spec)) ?_
                      refine D_t 10 rfl (fun W hW => r_mv) ?_
                      refine D_t 11 rfl (fun W hW => r_mi rfl) ?_
                      refine D_t 12 rfl (fun W hW => r_ix Try.underlying80 (show _ = some 1 from rfl) (by conv => lhs; whnf) rfl (by exact hW.choose_spec)) ?_
                      refine D_ev2 9 13 (by kernel_rfl) rfl rfl ?_ ?_
                      · refine L_r (r_loadSl rfl rfl Sl.au (by first | assumption | exact ucells_gt _ _ (by omega) | (conv => lhs; simp only [List.getElem?_toArray, List.getElem?_cons_succ, List.getElem?_cons_zero]))) ?_
                        refine L_nil ?_
                        refine heldK (by exact ⟨_, Sl.au⟩) (fun hS => ?_)
                        refine D_ev 13 (by kernel_rfl) rfl ?_
                        refine L_r (r_loadSl rfl rfl Sl.au (by first | assumption | exact ucells_gt _ _ (by omega) | (conv => lhs; simp only [List.getElem?_toArray, List.getElem?_cons_succ, List.getElem?_cons_zero]))) ?_
                        refine L_nil ?_
                        refine heldK (by exact ⟨_, Sl.au⟩) (fun hS => ?_)
                        refine D_t 14 rfl (fun W hW => r_ix Try.underlying80 (show _ = some 1 from rfl) (by conv => lhs; whnf) rfl (by exact hW.choose_spec)) ?_
                        refine D_ev 15 (by kernel_rfl) rfl ?_
                        refine L_setOw (.plain rfl) rfl rfl (u := .int _ _) rfl rfl Ow.au (by first | omega | (simp only [List.length_set, ucells_length]; omega) | (simp; done)) (fun w32 hb32 hs32 c32 => ?_)
                        refine L_nil ?_
                        refine heldK (by exact ⟨_, Sl.au⟩) (fun hS => ?_)
                        refine D_t 16 rfl (fun W hW => r_ix Try.underlying80 (show _ = some 1 from rfl) (by conv => lhs; whnf) rfl (by exact hW.choose_spec)) ?_
                        refine D_ev 17 (by kernel_rfl) rfl ?_
                        refine L_setOw (.plain rfl) rfl rfl (u := .int _ _) rfl rfl Ow.au (by first | omega | (simp only [List.length_set, ucells_length]; omega) | (simp; done)) (fun w33 hb33 hs33 c33 => ?_)
                        refine L_nil ?_
                        refine heldL ?_
                        refine D_done (by kernel_rfl) ?_
                        refine W_region ?_
                        refine L_r (r_mi rfl) ?_
                        refine L_r (r_sub rfl rfl (by first | exact wr_i64 (by omega) | rfl)) ?_
                        refine L_r (r_ai rfl) ?_
                        refine L_nil ?_
                        refine ⟨⟨rfl, rfl, rfl, rfl, rfl, trivial⟩, _, ?_, j - 1, swp Z1 j (j - 1), (by exact congrArg (Value.int .i64) (by omega)), ?_, rfl⟩
                        · omega
                        have hB : Ow w33 base 26 1 v Z1.length (((ucells Z1).set j (.int .u64 (gt Z1 ((j : Int) - 1).toNat : Int))).set ((j : Int) - 1).toNat (.int .u64 (gt Z1 j : Int))) := by assumption
                        rw [ej] at hB
                        exact ⟨by omega, dt_swp hB, Rg.swap Z1 j (j - 1) hR1 (by omega) (by omega) (by omega) (by omega) hb, ins_step hI1 (by omega) (by omega) (by omega) h78, Ch.au⟩
                      · refine L_r (r_loadSl rfl rfl Sl.au (by first | assumption | exact ucells_gt _ _ (by omega) | (conv => lhs; simp only [List.getElem?_toArray, List.getElem?_cons_succ, List.getElem?_cons_zero]))) ?_
                        refine L_nil ?_
                        refine heldK (by exact ⟨_, Sl.au⟩) (fun hS => ?_)
                        refine D_ev 9 (by kernel_rfl) rfl ?_
                        refine L_r (r_loadSl rfl rfl Sl.au (by first | assumption | exact ucells_gt _ _ (by omega) | (conv => lhs; simp only [List.getElem?_toArray, List.getElem?_cons_succ, List.getElem?_cons_zero]))) ?_
                        refine L_nil ?_
                        refine heldK (by exact ⟨_, Sl.au⟩) (fun hS => ?_)
                        refine D_t 14 rfl (fun W hW => r_ix Try.underlying80 (show _ = some 1 from rfl) (by conv => lhs; whnf) rfl (by exact hW.choose_spec)) ?_
                        refine D_ev 15 (by kernel_rfl) rfl ?_
                        refine L_setOw (.plain rfl) rfl rfl (u := .int _ _) rfl rfl Ow.au (by first | omega | (simp only [List.length_set, ucells_length]; omega) | (simp; done)) (fun w34 hb34 hs34 c34 => ?_)
                        refine L_nil ?_
                        refine heldK (by exact ⟨_, Sl.au⟩) (fun hS => ?_)
                        refine D_t 16 rfl (fun W hW => r_ix Try.underlying80 (show _ = some 1 from rfl) (by conv => lhs; whnf) rfl (by exact hW.choose_spec)) ?_
                        refine D_ev 17 (by kernel_rfl) rfl ?_
                        refine L_setOw (.plain rfl) rfl rfl (u := .int _ _) rfl rfl Ow.au (by first | omega | (simp only [List.length_set, ucells_length]; omega) | (simp; done)) (fun w35 hb35 hs35 c35 => ?_)
                        refine L_nil ?_
                        refine heldL ?_
                        refine D_done (by kernel_rfl) ?_
                        refine W_region ?_
                        refine L_r (r_mi rfl) ?_
                        refine L_r (r_sub rfl rfl (by first | exact wr_i64 (by omega) | rfl)) ?_
                        refine L_r (r_ai rfl) ?_
                        refine L_nil ?_
                        refine ⟨⟨rfl, rfl, rfl, rfl, rfl, trivial⟩, _, ?_, j - 1, swp Z1 j (j - 1), (by exact congrArg (Value.int .i64) (by omega)), ?_, rfl⟩
                        · omega
                        have hB : Ow w35 base 26 1 v Z1.length (((ucells Z1).set j (.int .u64 (gt Z1 ((j : Int) - 1).toNat : Int))).set ((j : Int) - 1).toNat (.int .u64 (gt Z1 j : Int))) := by assumption
                        rw [ej] at hB
                        exact ⟨by omega, dt_swp hB, Rg.swap Z1 j (j - 1) hR1 (by omega) (by omega) (by omega) (by omega) hb, ins_step hI1 (by omega) (by omega) (by omega) h78, Ch.au⟩
                  · refine W_exit ?_
                    repeat (first | refine blk_hit ?_ | refine blk_miss rfl ?_)
                    refine ⟨⟨rfl, rfl, rfl, rfl, rfl, trivial⟩, Z1, trivial, ?_⟩
                    first
                    | exact ⟨Ow.au, hR1, (by have h := ins_done hI1 hj.1 hj.2 (.inl (by omega)); rw [Nat.sub_add_cancel (by omega)] at h; exact h), Ch.au⟩
                    | exact ⟨Ow.au, hR1, (by have h := ins_done hI1 hj.1 hj.2 (.inr (by omega)); rw [Nat.sub_add_cancel (by omega)] at h; exact h), Ch.au⟩
                    | exact ⟨Ow.au, hR1, fun p q h1 h2 h3 => by omega, Ch.au⟩
                · refine W_skip ?_
                  refine ⟨⟨rfl, rfl, rfl, rfl, rfl, trivial⟩, Z1, trivial, ?_⟩
                  first
                  | exact ⟨Ow.au, hR1, (by have h := ins_done hI1 hj.1 hj.2 (.inl (by omega)); rw [Nat.sub_add_cancel (by omega)] at h; exact h), Ch.au⟩
                  | exact ⟨Ow.au, hR1, (by have h := ins_done hI1 hj.1 hj.2 (.inr (by omega)); rw [Nat.sub_add_cancel (by omega)] at h; exact h), Ch.au⟩
                  | exact ⟨Ow.au, hR1, fun p q h1 h2 h3 => by omega, Ch.au⟩
              rintro gct61 w36 ⟨Z2, -, hCt61⟩
              obtain ⟨hD2, hR2, hS2, hc⟩ := hCt61
              have hz := hc.size
              have hl2 := hR2.length
              refine W_seq ?_
              refine W_region ?_
              refine L_r (r_mi rfl) ?_
              refine L_r (r_mi rfl) ?_
              refine L_r (r_sub rfl rfl (by first | exact wr_i64 (by omega) | rfl)) ?_
              refine L_r (r_geq rfl rfl) ?_
              refine L_nil ?_
              refine W_endF [0, 1, 2, 7, 8] (fun f W => ∃ (Z3 : List Nat), True ∧ (Dt base W v Z3 ∧ Rg a b X Z3 ∧ Srt a i Z3 ∧ DtC v w0 W)) ?_ ?_
              · refine W_if rfl (fun h98 => ?_) (fun h98 => ?_)
                · refine W_seq ?_
                  refine W_region ?_
                  refine L_r (r_mi rfl) ?_
                  refine L_r (r_add rfl rfl (by first | exact wr_i64 (by omega) | rfl)) ?_
                  refine L_r (r_ai rfl) ?_
                  refine L_nil ?_
                  refine W_block ?_
                  refine W_loopF [0, 1, 2, 7, 8] (fun mz_ f W => ∃ (k : Nat) (Z2 : List Nat), f 10 = .int .i64 k ∧ ((i < k ∧ k ≤ b) ∧ Dt base W v Z2 ∧ Rg a b X Z2 ∧ Srt a i Z2 ∧ DtC v w0 W) ∧ mz_ = b - k) ?_ ?_
                  · refine ⟨_, i + 1, Z2, rfl, ?_, rfl⟩
                    exact ⟨by omega, Ow.au, hR2, hS2, Ch.au⟩
                  rintro m3 g3 w37 ⟨k, Z2, hf10, hR3, rfl⟩
                  refine W_as 10 hf10 rfl ?_
                  clear hf10
                  obtain ⟨hk, hD2, hR2, hS2, hc⟩ := hR3
                  have hz := hc.size
                  have hl2 := hR2.length
                  refine W_seq ?_
                  refine W_seq ?_
                  refine W_region ?_
                  refine L_r (r_mi rfl) ?_
                  refine L_r (r_mi rfl) ?_
                  refine L_r (r_lss rfl rfl) ?_
                  refine L_nil ?_
                  refine W_if rfl (fun h103 => ?_) (fun h103 => ?_)
                  · have ek : ((k : Int) - 1).toNat = k - 1 := by omega
                    refine W_skip ?_
                    refine W_seq ?_
                    refine W_block ?_
                    refine W_seq ?_
                    refine W_seq ?_
                    refine W_draw (fun W => Dt base W v Z2) 11 (m := 11) (by kernel_rfl) rfl (fun w38 c38 hs38 => ?_)
                    refine held Ow.au (fun hS => ?_)
                    refine D_t 0 rfl (fun W hW => r_mv) ?_
                    refine D_t 1 rfl (fun W hW => r_mi rfl) ?_
                    refine D_t 2 rfl (fun W hW => r_ix Try.underlying80 (show _ = some 1 from rfl) (by conv => lhs; whnf) rfl (by (first | exact hW.sl | exact hW))) ?_
                    refine D_t 3 rfl (fun W hW => r_loadSl rfl rfl (by (first | exact hW.sl | exact hW)) (by first | assumption | exact ucells_gt _ _ (by omega) | (conv => lhs; simp only [List.getElem?_toArray, List.getElem?_cons_succ, List.getElem?_cons_zero]))) ?_
                    refine D_t 4 rfl (fun W hW => r_mv) ?_
                    refine D_t 5 rfl (fun W hW => r_mi rfl) ?_
                    refine D_t 6 rfl (fun W hW => r_sub rfl rfl (by first | exact wr_i64 (by omega) | rfl)) ?_
                    refine D_t 7 rfl (fun W hW => r_ix Try.underlying80 (show _ = some 1 from rfl) (by conv => lhs; whnf) rfl (by (first | exact hW.sl | exact hW))) ?_
                    refine D_t 8 rfl (fun W hW => r_loadSl rfl rfl (by (first | exact hW.sl | exact hW)) (by first | assumption | exact ucells_gt _ _ (by omega) | (conv => lhs; simp only [List.getElem?_toArray, List.getElem?_cons_succ, List.getElem?_cons_zero]))) ?_
                    refine D_ev 9 (by kernel_rfl) rfl ?_
                    refine L_call (.plain rfl) rfl rfl (r_call Try.func54 rfl rfl rfl (by rfl)) (less_walk (gt Z2 k) (gt Z2 ((k : Int) - 1).toNat) _) ?_
                    rintro v115 w39 ⟨rfl, c39⟩
                    have hz39 := c39.size
                    rw [ek]
                    refine L_nil ?_
                    refine heldK Ow.au (fun hS => ?_)
                    refine D_t 10 rfl (fun W hW => r_not rfl) ?_
                    refine D_done (by kernel_rfl) ?_
                    refine W_bool rfl (fun h116 => ?_) (fun h116 => ?_)
                    · refine W_exit ?_
                      repeat (first | refine blk_hit ?_ | refine blk_miss rfl ?_)
                      refine ⟨⟨rfl, rfl, rfl, rfl, rfl, trivial⟩, Z2, trivial, ?_⟩
                      exact ⟨Ow.au, hR2, hS2, Ch.au⟩
                    · refine W_skip ?_
                      refine W_draw (fun W => ∃ xs, Sl W v 1 Z2.length xs) 17 (m := 18) (by kernel_rfl) rfl (fun w40 c40 hs40 => ?_)
                      refine held (by exact ⟨_, Sl.au⟩) (fun hS => ?_)
                      refine D_t 0 rfl (fun W hW => r_mv) ?_
                      refine D_t 1 rfl (fun W hW => r_mi rfl) ?_
                      refine D_t 2 rfl (fun W hW => r_mv) ?_
                      refine D_t 3 rfl (fun W hW => r_mi rfl) ?_
                      refine D_t 4 rfl (fun W hW => r_sub rfl rfl (by first | exact wr_i64 (by omega) | rfl)) ?_
                      refine D_t 5 rfl (fun W hW => r_mv) ?_
                      refine D_t 6 rfl (fun W hW => r_mi rfl) ?_
                      refine D_t 7 rfl (fun W hW => r_sub rfl rfl (by first | exact wr_i64 (by omega) | rfl)) ?_
                      refine D_t 8 rfl (fun W hW => r_ix Try.underlying80 (show _ = some 1 from rfl) (by conv => lhs; whnf) rfl (by exact hW.choose_spec)) ?_
                      refine D_t 10 rfl (fun W hW => r_mv) ?_
                      refine D_t 11 rfl (fun W hW => r_mi rfl) ?_
                      refine D_t 12 rfl (fun W hW => r_ix Try.underlying80 (show _ = some 1 from rfl) (by conv => lhs; whnf) rfl (by exact hW.choose_spec)) ?_
                      refine D_ev2 9 13 (by kernel_rfl) rfl rfl ?_ ?_
                      · refine L_r (r_loadSl rfl rfl Sl.au (by first | assumption | exact ucells_gt _ _ (by omega) | (conv => lhs; simp only [List.getElem?_toArray, List.getElem?_cons_succ, List.getElem?_cons_zero]))) ?_
                        refine L_nil ?_
                        refine heldK (by exact ⟨_, Sl.au⟩) (fun hS => ?_)
                        refine D_ev 13 (by kernel_rfl) rfl ?_
                        refine L_r (r_loadSl rfl rfl Sl.au (by first | assumption | exact ucells_gt _ _ (by omega) | (conv => lhs; simp only [List.getElem?_toArray, List.getElem?_cons_succ, List.getElem?_cons_zero]))) ?_
                        refine L_nil ?_
                        refine heldK (by exact ⟨_, Sl.au⟩) (fun hS => ?_)
                        refine D_t 14 rfl (fun W hW => r_ix Try.underlying80 (show _ = some 1 from rfl) (by conv => lhs; whnf) rfl (by exact hW.choose_spec)) ?_
                        refine D_ev 15 (by kernel_rfl) rfl ?_
                        refine L_setOw (.plain rfl) rfl rfl (u := .int _ _) rfl rfl Ow.au (by first | omega | (simp only [List.length_set, ucells_length]; omega) | (simp; done)) (fun w41 hb41 hs41 c41 => ?_)
                        refine L_nil ?_
                        refine heldK (by exact ⟨_, Sl.au⟩) (fun hS => ?_)
                        refine D_t 16 rfl (fun W hW => r_ix Try.underlying80 (show _ = some 1 from rfl) (by conv => lhs; whnf) rfl (by exact hW.choose_spec)) ?_
                        refine D_ev 17 (by kernel_rfl) rfl ?_
                        refine L_setOw (.plain rfl) rfl rfl (u := .int _ _) rfl rfl Ow.au (by first | omega | (simp only [List.length_set, ucells_length]; omega) | (simp; done)) (fun w42 hb42 hs42 c42 => ?_)
                        refine L_nil ?_
                        refine heldL ?_
                        refine D_done (by kernel_rfl) ?_
                        refine W_region ?_
                        refine L_r (r_mi rfl) ?_
                        refine L_r (r_add rfl rfl (by first | exact wr_i64 (by omega) | rfl)) ?_
                        refine L_r (r_ai rfl) ?_
                        refine L_nil ?_
                        refine ⟨⟨rfl, rfl, rfl, rfl, rfl, trivial⟩, _, ?_, k + 1, swp Z2 k (k - 1), rfl, ?_, rfl⟩
                        · omega
                        have hB : Ow w42 base 26 1 v Z2.length (((ucells Z2).set k (.int .u64 (gt Z2 ((k : Int) - 1).toNat : Int))).set ((k : Int) - 1).toNat (.int .u64 (gt Z2 k : Int))) := by assumption
                        rw [ek] at hB
                        exact ⟨by omega, dt_swp hB, Rg.swap Z2 k (k - 1) hR2 (by omega) (by omega) (by omega) (by omega) hb, srt_out hS2 (by omega) (by omega) (by omega) (by omega), Ch.au⟩
                      · refine L_r (r_loadSl rfl rfl Sl.au (by first | assumption | exact ucells_gt _ _ (by omega) | (conv => lhs; simp only [List.getElem?_toArray, List.getElem?_cons_succ, List.getElem?_cons_zero]))) ?_
                        refine L_nil ?_
                        refine heldK (by exact ⟨_, Sl.au⟩) (fun hS => ?_)
                        refine D_ev 9 (by kernel_rfl) rfl ?_
                        refine L_r (r_loadSl rfl rfl Sl.au (by first | assumption | exact ucells_gt _ _ (by omega) | (conv => lhs; simp only [List.getElem?_toArray, List.getElem?_cons_succ, List.getElem?_cons_zero]))) ?_
                        refine L_nil ?_
                        refine heldK (by exact ⟨_, Sl.au⟩) (fun hS => ?_)
                        refine D_t 14 rfl (fun W hW => r_ix Try.underlying80 (show _ = some 1 from rfl) (by conv => lhs; whnf) rfl (by exact hW.choose_spec)) ?_
                        refine D_ev 15 (by kernel_rfl) rfl ?_
                        refine L_setOw (.plain rfl) rfl rfl (u := .int _ _) rfl rfl Ow.au (by first | omega | (simp only [List.length_set, ucells_length]; omega) | (simp; done)) (fun w43 hb43 hs43 c43 => ?_)
                        refine L_nil ?_
                        refine heldK (by exact ⟨_, Sl.au⟩) (fun hS => ?_)
                        refine D_t 16 rfl (fun W hW => r_ix Try.underlying80 (show _ = some 1 from rfl) (by conv => lhs; whnf) rfl (by exact hW.choose_spec)) ?_
                        refine D_ev 17 (by kernel_rfl) rfl ?_
                        refine L_setOw (.plain rfl) rfl rfl (u := .int _ _) rfl rfl Ow.au (by first | omega | (simp only [List.length_set, ucells_length]; omega) | (simp; done)) (fun w44 hb44 hs44 c44 => ?_)
                        refine L_nil ?_
                        refine heldL ?_
                        refine D_done (by kernel_rfl) ?_
                        refine W_region ?_
                        refine L_r (r_mi rfl) ?_
                        refine L_r (r_add rfl rfl (by first | exact wr_i64 (by omega) | rfl)) ?_
                        refine L_r (r_ai rfl) ?_
                        refine L_nil ?_
                        refine ⟨⟨rfl, rfl, rfl, rfl, rfl, trivial⟩, _, ?_, k + 1, swp Z2 k (k - 1), rfl, ?_, rfl⟩
                        · omega
                        have hB : Ow w44 base 26 1 v Z2.length (((ucells Z2).set k (.int .u64 (gt Z2 ((k : Int) - 1).toNat : Int))).set ((k : Int) - 1).toNat (.int .u64 (gt Z2 k : Int))) := by assumption
                        rw [ek] at hB
                        exact ⟨by omega, dt_swp hB, Rg.swap Z2 k (k - 1) hR2 (by omega) (by omega) (by omega) (by omega) hb, srt_out hS2 (by omega) (by omega) (by omega) (by omega), Ch.au⟩
                  · refine W_exit ?_
                    repeat (first | refine blk_hit ?_ | refine blk_miss rfl ?_)
                    refine ⟨⟨rfl, rfl, rfl, rfl, rfl, trivial⟩, Z2, trivial, ?_⟩
                    exact ⟨Ow.au, hR2, hS2, Ch.au⟩
                · refine W_skip ?_
                  refine ⟨⟨rfl, rfl, rfl, rfl, rfl, trivial⟩, Z2, trivial, ?_⟩
                  exact ⟨Ow.au, hR2, hS2, Ch.au⟩
              rintro gct98 w45 ⟨Z3, -, hCt98⟩
              obtain ⟨hD3, hR3, hS3, hc⟩ := hCt98
              have hz := hc.size
              refine W_region ?_
              refine L_r (r_mi rfl) ?_
              refine L_r (r_add rfl rfl (by first | exact wr_i64 (by omega) | rfl)) ?_
              refine L_r (r_ai rfl) ?_
              refine L_nil ?_
              refine ⟨⟨rfl, rfl, rfl, trivial⟩, _, ?_, n + 1, i, Z3, rfl, rfl, ?_, rfl⟩
              · omega
              exact ⟨by omega, by omega, Ow.au, hR3, hS3, Ch.au⟩
    · refine D_ps 4 rfl ?_
      refine D_ps 5 rfl ?_
      refine D_ps 6 rfl ?_
      refine D_ps 7 rfl ?_
      refine D_ps 8 rfl ?_
      refine D_ps 9 rfl ?_
      refine D_ps 10 rfl ?_
      refine D_ps 11 rfl ?_
      refine D_ps 12 rfl ?_
      refine D_ps 13 rfl ?_
      refine D_ps 14 rfl ?_
      refine D_t 15 rfl (fun W hW => r_pf rfl rfl) ?_
      refine D_done (by kernel_rfl) ?_
      refine W_false rfl ?_
      refine W_exit ?_
      repeat (first | refine blk_hit ?_ | refine blk_miss rfl ?_)
      refine W_seq ?_
      refine W_seq ?_
      refine W_region ?_
      refine L_r (r_mi rfl) ?_
      refine L_r (r_mi rfl) ?_
      refine L_r (r_eql rfl rfl) ?_
      refine L_nil ?_
      refine W_if rfl (fun h37 => ?_) (fun h37 => ?_)
      · refine W_seq ?_
        refine W_region ?_
        refine L_r (r_ab rfl) ?_
        refine L_nil ?_
        refine W_ret ?_
        refine ret1 (v := .bool _) rfl rfl ?_
        first
        | (refine ⟨true, rfl, ⟨Y0, Ow.au, hR0, fun _ => ?_⟩, Ch.au⟩
           have e : i = b := by omega
           rw [← e]; exact hSr)
        | exact ⟨false, rfl, ⟨Y0, Ow.au, hR0, fun h => by cases h⟩, Ch.au⟩
      · refine W_skip ?_
        refine W_seq ?_
        refine W_seq ?_
        refine W_region ?_
        refine L_r (r_mi rfl) ?_
        refine L_r (r_mi rfl) ?_
        refine L_r (r_sub rfl rfl (by first | exact wr_i64 (by omega) | rfl)) ?_
        refine L_r (r_lss rfl rfl) ?_
        refine L_nil ?_
        refine W_if rfl (fun h41 => ?_) (fun h41 => ?_)
        · refine W_seq ?_
          refine W_region ?_
          refine L_r (r_ab rfl) ?_
          refine L_nil ?_
          refine W_ret ?_
          refine ret1 (v := .bool _) rfl rfl ?_
          first
          | (refine ⟨true, rfl, ⟨Y0, Ow.au, hR0, fun _ => ?_⟩, Ch.au⟩
             have e : i = b := by omega
             rw [← e]; exact hSr)
          | exact ⟨false, rfl, ⟨Y0, Ow.au, hR0, fun h => by cases h⟩, Ch.au⟩
        · refine W_skip ?_
          refine W_seq ?_
          refine W_draw (fun W => ∃ xs, Sl W v 1 Y0.length xs) 17 (m := 18) (by kernel_rfl) rfl (fun w46 c46 hs46 => ?_)
          refine held (by exact ⟨_, Sl.au⟩) (fun hS => ?_)
          refine D_t 0 rfl (fun W hW => r_mv) ?_
          refine D_t 1 rfl (fun W hW => r_mi rfl) ?_
          refine D_t 2 rfl (fun W hW => r_mv) ?_
          refine D_t 3 rfl (fun W hW => r_mi rfl) ?_
          refine D_t 4 rfl (fun W hW => r_sub rfl rfl (by first | exact wr_i64 (by omega) | rfl)) ?_
          refine D_t 5 rfl (fun W hW => r_mv) ?_
          refine D_t 6 rfl (fun W hW => r_mi rfl) ?_
          refine D_t 7 rfl (fun W hW => r_sub rfl rfl (by first | exact wr_i64 (by omega) | rfl)) ?_
          refine D_t 8 rfl (fun W hW => r_ix Try.underlying80 (show _ = some 1 from rfl) (by conv => lhs; whnf) rfl (by exact hW.choose_spec)) ?_
          refine D_t 10 rfl (fun W hW => r_mv) ?_
          refine D_t 11 rfl (fun W hW => r_mi rfl) ?_
          refine D_t 12 rfl (fun W hW => r_ix Try.underlying80 (show _ = some 1 from rfl) (by conv => lhs; whnf) rfl (by exact hW.choose_spec)) ?_
          refine D_ev2 9 13 (by kernel_rfl) rfl rfl ?_ ?_
          · refine L_r (r_loadSl rfl rfl Sl.au (by first | assumption | exact ucells_gt _ _ (by omega) | (conv => lhs; simp only [List.getElem?_toArray, List.getElem?_cons_succ, List.getElem?_cons_zero]))) ?_
            refine L_nil ?_
            refine heldK (by exact ⟨_, Sl.au⟩) (fun hS => ?_)
            refine D_ev 13 (by kernel_rfl) rfl ?_
            refine L_r (r_loadSl rfl rfl Sl.au (by first | assumption | exact ucells_gt _ _ (by omega) | (conv => lhs; simp only [List.getElem?_toArray, List.getElem?_cons_succ, List.getElem?_cons_zero]))) ?_
            refine L_nil ?_
            refine heldK (by exact ⟨_, Sl.au⟩) (fun hS => ?_)
            refine D_t 14 rfl (fun W hW => r_ix Try.underlying80 (show _ = some 1 from rfl) (by conv => lhs; whnf) rfl (by exact hW.choose_spec)) ?_
            refine D_ev 15 (by kernel_rfl) rfl ?_
            refine L_setOw (.plain rfl) rfl rfl (u := .int _ _) rfl rfl Ow.au (by first | omega | (simp only [List.length_set, ucells_length]; omega) | (simp; done)) (fun w47 hb47 hs47 c47 => ?_)
            refine L_nil ?_
            refine heldK (by exact ⟨_, Sl.au⟩) (fun hS => ?_)
            refine D_t 16 rfl (fun W hW => r_ix Try.underlying80 (show _ = some 1 from rfl) (by conv => lhs; whnf) rfl (by exact hW.choose_spec)) ?_
            refine D_ev 17 (by kernel_rfl) rfl ?_
            refine L_setOw (.plain rfl) rfl rfl (u := .int _ _) rfl rfl Ow.au (by first | omega | (simp only [List.length_set, ucells_length]; omega) | (simp; done)) (fun w48 hb48 hs48 c48 => ?_)
            refine L_nil ?_
            refine heldL ?_
            refine D_done (by kernel_rfl) ?_
            refine W_seq ?_
            refine W_seq ?_
            have ei : ((i : Int) - 1).toNat = i - 1 := by omega
            have hB : Ow w48 base 26 1 v Y0.length (((ucells Y0).set i (.int .u64 (gt Y0 ((i : Int) - 1).toNat : Int))).set ((i : Int) - 1).toNat (.int .u64 (gt Y0 i : Int))) := by assumption
            rw [ei] at hB
            have hD1 := dt_swp hB
            clear hB
            have hR1 : Rg a b X (swp Y0 i (i - 1)) := Rg.swap Y0 i (i - 1) hR0 (by omega) (by omega) (by omega) (by omega) hb
            have hI1 := ins_swp hSr (by omega) (by omega : i < Y0.length)
            obtain ⟨Z1, hZ1⟩ : ∃ x, x = swp Y0 i (i - 1) := ⟨_, rfl⟩
            rw [← hZ1] at hD1 hR1 hI1
            have hl1 := hR1.length
            refine W_region ?_
            refine L_r (r_mi rfl) ?_
            refine L_r (r_mi rfl) ?_
            refine L_r (r_sub rfl rfl (by first | exact wr_i64 (by omega) | rfl)) ?_
            refine L_r (r_geq rfl rfl) ?_
            refine L_nil ?_
            refine W_endF [0, 1, 2, 7, 8] (fun f W => ∃ (Z2 : List Nat), True ∧ (Dt base W v Z2 ∧ Rg a b X Z2 ∧ Srt a i Z2 ∧ DtC v w0 W)) ?_ ?_
            · refine W_if rfl (fun h61 => ?_) (fun h61 => ?_)
              · refine W_seq ?_
                refine W_region ?_
                refine L_r (r_mi rfl) ?_
                refine L_r (r_sub rfl rfl (by first | exact wr_i64 (by omega) | rfl)) ?_
                refine L_r (r_ai rfl) ?_
                refine L_nil ?_
                refine W_block ?_
                refine W_loopF [0, 1, 2, 7, 8] (fun mz_ f W => ∃ (j : Nat) (Z1 : List Nat), f 9 = .int .i64 j ∧ ((a ≤ j ∧ j ≤ i - 1) ∧ Dt base W v Z1 ∧ Rg a b X Z1 ∧ Ins a (i - 1) j Z1 ∧ DtC v w0 W) ∧ mz_ = j + 1) ?_ ?_
                · refine ⟨_, i - 1, Z1, (by exact congrArg (Value.int .i64) (by omega)), ?_, rfl⟩
                  exact ⟨by omega, Ow.au, hR1, hI1, Ch.au⟩
                rintro m2 g2 w49 ⟨j, Z1, hf9, hR2, rfl⟩
                refine W_as 9 hf9 rfl ?_
                clear hf9
                obtain ⟨hj, hD1, hR1, hI1, hc⟩ := hR2
                have hz := hc.size
                have hl1 := hR1.length
                have hA1 := hA.rg hR1
                refine W_seq ?_
                refine W_seq ?_
                refine W_region ?_
                refine L_r (r_mi rfl) ?_
                refine L_r (r_geq rfl rfl) ?_
                refine L_nil ?_
                refine W_if rfl (fun h65 => ?_) (fun h65 => ?_)
                · have ej : ((j : Int) - 1).toNat = j - 1 := by omega
                  refine W_skip ?_
                  refine W_seq ?_
                  refine W_block ?_
                  refine W_seq ?_
                  refine W_seq ?_
                  refine W_draw (fun W => Dt base W v Z1) 11 (m := 11) (by kernel_rfl) rfl (fun w50 c50 hs50 => ?_)
                  refine held Ow.au (fun hS => ?_)
                  refine D_t 0 rfl (fun W hW => r_mv) ?_
                  refine D_t 1 rfl (fun W hW => r_mi rfl) ?_
                  refine D_t 2 rfl (fun W hW => r_ix Try.underlying80 (show _ = some 1 from rfl) (by conv => lhs; whnf) rfl (by (first | exact hW.sl | exact hW))) ?_
                  refine D_t 3 rfl (fun W hW => r_loadSl rfl rfl (by (first | exact hW.sl | exact hW)) (by first | assumption | exact ucells_gt _ _ (by omega) | (conv => lhs; simp only [List.getElem?_toArray, List.getElem?_cons_succ, List.getElem?_cons_zero]))) ?_
                  refine D_t 4 rfl (fun W hW => r_mv) ?_
                  refine D_t 5 rfl (fun W hW => r_mi rfl) ?_
                  refine D_t 6 rfl (fun W hW => r_sub rfl rfl (by first | exact wr_i64 (by omega) | rfl)) ?_
                  refine D_t 7 rfl (fun W hW => r_ix Try.underlying80 (show _ = some 1 from rfl) (by conv => lhs; whnf) rfl (by (first | exact hW.sl | exact hW))) ?_
                  refine D_t 8 rfl (fun W hW => r_loadSl rfl rfl (by (first | exact hW.sl | exact hW)) (by first | assumption | exact ucells_gt _ _ (by omega) | (conv => lhs; simp only [List.getElem?_toArray, List.getElem?_cons_succ, List.getElem?_cons_zero]))) ?_
                  refine D_ev 9 (by kernel_rfl) rfl ?_
                  refine L_call (.plain rfl) rfl rfl (r_call Try.func54 rfl rfl rfl (by rfl)) (less_walk (gt Z1 j) (gt Z1 ((j : Int) - 1).toNat) _) ?_
                  rintro v77 w51 ⟨rfl, c51⟩
                  have hz51 := c51.size
                  rw [ej]
                  refine L_nil ?_
                  refine heldK Ow.au (fun hS => ?_)
                  refine D_t 10 rfl (fun W hW => r_not rfl) ?_
                  refine D_done (by kernel_rfl) ?_
                  refine W_bool rfl (fun h78 => ?_) (fun h78 => ?_)
                  · replace h78 : ¬ gt Z1 j < gt Z1 (j - 1) := by simpa using h78
                    refine W_exit ?_
                    repeat (first | refine blk_hit ?_ | refine blk_miss rfl ?_)
                    refine ⟨⟨rfl, rfl, rfl, rfl, rfl, trivial⟩, Z1, trivial, ?_⟩
                    first
                    | exact ⟨Ow.au, hR1, (by have h := ins_done hI1 hj.1 hj.2 (.inl (by omega)); rw [Nat.sub_add_cancel (by omega)] at h; exact h), Ch.au⟩
                    | exact ⟨Ow.au, hR1, (by have h := ins_done hI1 hj.1 hj.2 (.inr (by omega)); rw [Nat.sub_add_cancel (by omega)] at h; exact h), Ch.au⟩
                    | exact ⟨Ow.au, hR1, fun p q h1 h2 h3 => by omega, Ch.au⟩
                  · replace h78 : gt Z1 j < gt Z1 (j - 1) := by simpa using h78
                    have haj : a < j := by
                      rcases Nat.lt_or_ge a j with h | h
                      · exact h
                      · have e : j = a := by omega
                        subst e
                        have := hA1 (by omega) j (by omega) (by omega)
                        omega
                    refine W_skip ?_
                    refine W_draw (fun W => ∃ xs, Sl W v 1 Z1.length xs) 17 (m := 18) (by kernel_rfl) rfl (fun w52 c52 hs52 => ?_)
                    refine held (by exact ⟨_, Sl.au⟩) (fun hS => ?_)
                    refine D_t 0 rfl (fun W hW => r_mv) ?_
                    refine D_t 1 rfl (fun W hW => r_mi rfl) ?_
                    refine D_t 2 rfl (fun W hW => r_mv) ?_
                    refine D_t 3 rfl (fun W hW => r_mi rfl) ?_
                    refine D_t 4 rfl (fun W hW => r_sub rfl rfl (by first | exact wr_i64 (by omega) | rfl)) ?_
                    refine D_t 5 rfl (fun W hW => r_mv) ?_
                    refine D_t 6 rfl (fun W hW => r_mi rfl) ?_
                    refine D_t 7 rfl (fun W hW => r_sub rfl rfl (by first | exact wr_i64 (by omega) | rfl)) ?_
                    refine D_t 8 rfl (fun W hW => r_ix Try.underlying80 (show _ = some 1 from rfl) (by conv => lhs; whnf) rfl (by exact hW.choose_spec)) ?_
                    refine D_t 10 rfl (fun W hW => r_mv) ?_
                    refine D_t 11 rfl (fun W hW => r_mi rfl) ?_
                    refine D_t 12 rfl (fun W hW => r_ix Try.underlying80 (show _ = some 1 from rfl) (by conv => lhs; whnf) rfl (by exact hW.choose_spec)) ?_
                    refine D_ev2 9 13 (by kernel_rfl) rfl rfl ?_ ?_
                    · refine L_r (r_loadSl rfl rfl Sl.au (by first | assumption | exact ucells_gt _ _ (by omega) | (conv => lhs; simp only [List.getElem?_toArray, List.getElem?_cons_succ, List.getElem?_cons_zero]))) ?_
                      refine L_nil ?_
                      refine heldK (by exact ⟨_, Sl.au⟩) (fun hS => ?_)
                      refine D_ev 13 (by kernel_rfl) rfl ?_
                      refine L_r (r_loadSl rfl rfl Sl.au (by first | assumption | exact ucells_gt _ _ (by omega) | (conv => lhs; simp only [List.getElem?_toArray, List.getElem?_cons_succ, List.getElem?_cons_zero]))) ?_
                      refine L_nil ?_
                      refine heldK (by exact ⟨_, Sl.au⟩) (fun hS => ?_)
                      refine D_t 14 rfl (fun W hW => r_ix Try.underlying80 (show _ = some 1 from rfl) (by conv => lhs; whnf) rfl (by exact hW.choose_spec)) ?_
                      refine D_ev 15 (by kernel_rfl) rfl ?_
                      refine L_setOw (.plain rfl) rfl rfl (u := .int _ _) rfl rfl Ow.au (by first | omega | (simp only [List.length_set, ucells_length]; omega) | (simp; done)) (fun w53 hb53 hs53 c53 => ?_)
                      refine L_nil ?_
                      refine heldK (by exact ⟨_, Sl.au⟩) (fun hS => ?_)
                      refine D_t 16 rfl (fun W hW => r_ix Try.underlying80 (show _ = some 1 from rfl) (by conv => lhs; whnf) rfl (by exact hW.choose_spec)) ?_
                      refine D_ev 17 (by kernel_rfl) rfl ?_
                      refine L_setOw (.plain rfl) rfl rfl (u := .int _ _) rfl rfl Ow.au (by first | omega | (simp only [List.length_set, ucells_length]; omega) | (simp; done)) (fun w54 hb54 hs54 c54 => ?_)
                      refine L_nil ?_
                      refine heldL ?_
                      refine D_done (by kernel_rfl) ?_
                      refine W_region ?_
                      refine L_r (r_mi rfl) ?_
                      refine L_r (r_sub rfl rfl (by first | exact wr_i64 (by omega) | rfl)) ?_
                      refine L_r (r_ai rfl) ?_
                      refine L_nil ?_
                      refine ⟨⟨rfl, rfl, rfl, rfl, rfl, trivial⟩, _, ?_, j - 1, swp Z1 j (j - 1), (by exact congrArg (Value.int .i64) (by omega)), ?_, rfl⟩
                      · omega
                      have hB : Ow w54 base 26 1 v Z1.length (((ucells Z1).set j (.int .u64 (gt Z1 ((j : Int) - 1).toNat : Int))).set ((j : Int) - 1).toNat (.int .u64 (gt Z1 j : Int))) := by assumption
                      rw [ej] at hB
                      exact ⟨by omega, dt_swp hB, Rg.swap Z1 j (j - 1) hR1 (by omega) (by omega) (by omega) (by omega) hb, ins_step hI1 (by omega) (by omega) (by omega) h78, Ch.au⟩
                    · refine L_r (r_loadSl rfl rfl Sl.au (by first | assumption | exact ucells_gt _ _ (by omega) | (conv => lhs; simp only [List.getElem?_toArray, List.getElem?_cons_succ, List.getElem?_cons_zero]))) ?_
                      refine L_nil ?_
                      refine heldK (by exact ⟨_, Sl.au⟩) (fun hS => ?_)
                      refine D_ev 9 (by kernel_rfl) rfl ?_
                      refine L_r (r_loadSl rfl rfl Sl.au (by first | assumption | exact ucells_gt _ _ (by omega) | (conv => lhs; simp only [List.getElem?_toArray, List.getElem?_cons_succ, List.getElem?_cons_zero]))) ?_
                      refine L_nil ?_
                      refine heldK (by exact ⟨_, Sl.au⟩) (fun hS => ?_)
                      refine D_t 14 rfl (fun W hW => r_ix Try.underlying80 (show _ = some 1 from rfl) (by conv => lhs; whnf) rfl (by exact hW.choose_spec)) ?_
                      refine D_ev 15 (by kernel_rfl) rfl ?_
                      refine L_setOw (.plain rfl) rfl rfl (u := .int _ _) rfl rfl Ow.au (by first | omega | (simp only [List.length_set, ucells_length]; omega) | (simp; done)) (fun w55 hb55 hs55 c55 => ?_)
                      refine L_nil ?_
                      refine heldK (by exact ⟨_, Sl.au⟩) (fun hS => ?_)
                      refine D_t 16 rfl (fun W hW => r_ix Try.underlying80 (show _ = some 1 from rfl) (by conv => lhs; whnf) rfl (by exact hW.choose_spec)) ?_
                      refine D_ev 17 (by kernel_rfl) rfl ?_
                      refine L_setOw (.plain rfl) rfl rfl (u := .int _ _) rfl rfl Ow.au (by first | omega | (simp only [List.length_set, ucells_length]; omega) | (simp; done)) (fun w56 hb56 hs56 c56 => ?_)
                      refine L_nil ?_
                      refine heldL ?_
                      refine D_done (by kernel_rfl) ?_
                      refine W_region ?_
                      refine L_r (r_mi rfl) ?_
                      refine L_r (r_sub rfl rfl (by first | exact wr_i64 (by omega) | rfl)) ?_
                      refine L_r (r_ai rfl) ?_
                      refine L_nil ?_
                      refine ⟨⟨rfl, rfl, rfl, rfl, rfl, trivial⟩, _, ?_, j - 1, swp Z1 j (j - 1), (by exact congrArg (Value.int .i64) (by omega)), ?_, rfl⟩
                      · omega
                      have hB : Ow w56 base 26 1 v Z1.length (((ucells Z1).set j (.int .u64 (gt Z1 ((j : Int) - 1).toNat : Int))).set ((j : Int) - 1).toNat (.int .u64 (gt Z1 j : Int))) := by assumption
                      rw [ej] at hB
                      exact ⟨by omega, dt_swp hB, Rg.swap Z1 j (j - 1) hR1 (by omega) (by omega) (by omega) (by omega) hb, ins_step hI1 (by omega) (by omega) (by omega) h78, Ch.au⟩
                · refine W_exit ?_
                  repeat (first | refine blk_hit ?_ | refine blk_miss rfl ?_)
                  refine ⟨⟨rfl, rfl, rfl, rfl, rfl, trivial⟩, Z1, trivial, ?_⟩
                  first
                  | exact ⟨Ow.au, hR1, (by have h := ins_done hI1 hj.1 hj.2 (.inl (by omega)); rw [Nat.sub_add_cancel (by omega)] at h; exact h), Ch.au⟩
                  | exact ⟨Ow.au, hR1, (by have h := ins_done hI1 hj.1 hj.2 (.inr (by omega)); rw [Nat.sub_add_cancel (by omega)] at h; exact h), Ch.au⟩
                  | exact ⟨Ow.au, hR1, fun p q h1 h2 h3 => by omega, Ch.au⟩
              · refine W_skip ?_
                refine ⟨⟨rfl, rfl, rfl, rfl, rfl, trivial⟩, Z1, trivial, ?_⟩
                first
                | exact ⟨Ow.au, hR1, (by have h := ins_done hI1 hj.1 hj.2 (.inl (by omega)); rw [Nat.sub_add_cancel (by omega)] at h; exact h), Ch.au⟩
                | exact ⟨Ow.au, hR1, (by have h := ins_done hI1 hj.1 hj.2 (.inr (by omega)); rw [Nat.sub_add_cancel (by omega)] at h; exact h), Ch.au⟩
                | exact ⟨Ow.au, hR1, fun p q h1 h2 h3 => by omega, Ch.au⟩
            rintro gct61 w57 ⟨Z2, -, hCt61⟩
            obtain ⟨hD2, hR2, hS2, hc⟩ := hCt61
            have hz := hc.size
            have hl2 := hR2.length
            refine W_seq ?_
            refine W_region ?_
            refine L_r (r_mi rfl) ?_
            refine L_r (r_mi rfl) ?_
            refine L_r (r_sub rfl rfl (by first | exact wr_i64 (by omega) | rfl)) ?_
            refine L_r (r_geq rfl rfl) ?_
            refine L_nil ?_
            refine W_endF [0, 1, 2, 7, 8] (fun f W => ∃ (Z3 : List Nat), True ∧ (Dt base W v Z3 ∧ Rg a b X Z3 ∧ Srt a i Z3 ∧ DtC v w0 W)) ?_ ?_
            · refine W_if rfl (fun h98 => ?_) (fun h98 => ?_)
              · refine W_seq ?_
                refine W_region ?_
                refine L_r (r_mi rfl) ?_
                refine L_r (r_add rfl rfl (by first | exact wr_i64 (by omega) | rfl)) ?_
                refine L_r (r_ai rfl) ?_
                refine L_nil ?_
                refine W_block ?_
                refine W_loopF [0, 1, 2, 7, 8] (fun mz_ f W => ∃ (k : Nat) (Z2 : List Nat), f 10 = .int .i64 k ∧ ((i < k ∧ k ≤ b) ∧ Dt base W v Z2 ∧ Rg a b X Z2 ∧ Srt a i Z2 ∧ DtC v w0 W) ∧ mz_ = b - k) ?_ ?_
                · refine ⟨_, i + 1, Z2, rfl, ?_, rfl⟩
                  exact ⟨by omega, Ow.au, hR2, hS2, Ch.au⟩
                rintro m3 g3 w58 ⟨k, Z2, hf10, hR3, rfl⟩
                refine W_as 10 hf10 rfl ?_
                clear hf10
                obtain ⟨hk, hD2, hR2, hS2, hc⟩ := hR3
                have hz := hc.size
                have hl2 := hR2.length
                refine W_seq ?_
                refine W_seq ?_
                refine W_region ?_
                refine L_r (r_mi rfl) ?_
                refine L_r (r_mi rfl) ?_
                refine L_r (r_lss rfl rfl) ?_
                refine L_nil ?_
                refine W_if rfl (fun h103 => ?_) (fun h103 => ?_)
                · have ek : ((k : Int) - 1).toNat = k - 1 := by omega
                  refine W_skip ?_
                  refine W_seq ?_
                  refine W_block ?_
                  refine W_seq ?_
                  refine W_seq ?_
                  refine W_draw (fun W => Dt base W v Z2) 11 (m := 11) (by kernel_rfl) rfl (fun w59 c59 hs59 => ?_)
                  refine held Ow.au (fun hS => ?_)
                  refine D_t 0 rfl (fun W hW => r_mv) ?_
                  refine D_t 1 rfl (fun W hW => r_mi rfl) ?_
                  refine D_t 2 rfl (fun W hW => r_ix Try.underlying80 (show _ = some 1 from rfl) (by conv => lhs; whnf) rfl (by (first | exact hW.sl | exact hW))) ?_
                  refine D_t 3 rfl (fun W hW => r_loadSl rfl rfl (by (first | exact hW.sl | exact hW)) (by first | assumption | exact ucells_gt _ _ (by omega) | (conv => lhs; simp only [List.getElem?_toArray, List.getElem?_cons_succ, List.getElem?_cons_zero]))) ?_
                  refine D_t 4 rfl (fun W hW => r_mv) ?_
                  refine D_t 5 rfl (fun W hW => r_mi rfl) ?_
                  refine D_t 6 rfl (fun W hW => r_sub rfl rfl (by first | exact wr_i64 (by omega) | rfl)) ?_
                  refine D_t 7 rfl (fun W hW => r_ix Try.underlying80 (show _ = some 1 from rfl) (by conv => lhs; whnf) rfl (by (first | exact hW.sl | exact hW))) ?_
                  refine D_t 8 rfl (fun W hW => r_loadSl rfl rfl (by (first | exact hW.sl | exact hW)) (by first | assumption | exact ucells_gt _ _ (by omega) | (conv => lhs; simp only [List.getElem?_toArray, List.getElem?_cons_succ, List.getElem?_cons_zero]))) ?_
                  refine D_ev 9 (by kernel_rfl) rfl ?_
                  refine L_call (.plain rfl) rfl rfl (r_call Try.func54 rfl rfl rfl (by rfl)) (less_walk (gt Z2 k) (gt Z2 ((k : Int) - 1).toNat) _) ?_
                  rintro v115 w60 ⟨rfl, c60⟩
                  have hz60 := c60.size
                  rw [ek]
                  refine L_nil ?_
                  refine heldK Ow.au (fun hS => ?_)
                  refine D_t 10 rfl (fun W hW => r_not rfl) ?_
                  refine D_done (by kernel_rfl) ?_
                  refine W_bool rfl (fun h116 => ?_) (fun h116 => ?_)
                  · refine W_exit ?_
                    repeat (first | refine blk_hit ?_ | refine blk_miss rfl ?_)
                    refine ⟨⟨rfl, rfl, rfl, rfl, rfl, trivial⟩, Z2, trivial, ?_⟩
                    exact ⟨Ow.au, hR2, hS2, Ch.au⟩
                  · refine W_skip ?_
                    refine W_draw (fun W => ∃ xs, Sl W v 1 Z2.length xs) 17 (m := 18) (by kernel_rfl) rfl (fun w61 c61 hs61 => ?_)
                    refine held (by exact ⟨_, Sl.au⟩) (fun hS => ?_)
                    refine D_t 0 rfl (fun W hW => r_mv) ?_
                    refine D_t 1 rfl (fun W hW => r_mi rfl) ?_
                    refine D_t 2 rfl (fun W hW => r_mv) ?_
                    refine D_t 3 rfl (fun W hW => r_mi rfl) ?_
                    refine D_t 4 rfl (fun W hW => r_sub rfl rfl (by first | exact wr_i64 (by omega) | rfl)) ?_
                    refine D_t 5 rfl (fun W hW => r_mv) ?_
                    refine D_t 6 rfl (fun W hW => r_mi rfl) ?_
                    refine D_t 7 rfl (fun W hW => r_sub rfl rfl (by first | exact wr_i64 (by omega) | rfl)) ?_
                    refine D_t 8 rfl (fun W hW => r_ix Try.underlying80 (show _ = some 1 from rfl) (by conv => lhs; whnf) rfl (by exact hW.choose_spec)) ?_
                    refine D_t 10 rfl (fun W hW => r_mv) ?_
                    refine D_t 11 rfl (fun W hW => r_mi rfl) ?_
                    refine D_t 12 rfl (fun W hW => r_ix Try.underlying80 (show _ = some 1 from rfl) (by conv => lhs; whnf) rfl (by exact hW.choose_spec)) ?_
                    refine D_ev2 9 13 (by kernel_rfl) rfl rfl ?_ ?_
                    · refine L_r (r_loadSl rfl rfl Sl.au (by first | assumption | exact ucells_gt _ _ (by omega) | (conv => lhs; simp only [List.getElem?_toArray, List.getElem?_cons_succ, List.getElem?_cons_zero]))) ?_
                      refine L_nil ?_
                      refine heldK (by exact ⟨_, Sl.au⟩) (fun hS => ?_)
                      refine D_ev 13 (by kernel_rfl) rfl ?_
                      refine L_r (r_loadSl rfl rfl Sl.au (by first | assumption | exact ucells_gt _ _ (by omega) | (conv => lhs; simp only [List.getElem?_toArray, List.getElem?_cons_succ, List.getElem?_cons_zero]))) ?_
                      refine L_nil ?_
                      refine heldK (by exact ⟨_, Sl.au⟩) (fun hS => ?_)
                      refine D_t 14 rfl (fun W hW => r_ix Try.underlying80 (show _ = some 1 from rfl) (by conv => lhs; whnf) rfl (by exact hW.choose_spec)) ?_
                      refine D_ev 15 (by kernel_rfl) rfl ?_
                      refine L_setOw (.plain rfl) rfl rfl (u := .int _ _) rfl rfl Ow.au (by first | omega | (simp only [List.length_set, ucells_length]; omega) | (simp; done)) (fun w62 hb62 hs62 c62 => ?_)
                      refine L_nil ?_
                      refine heldK (by exact ⟨_, Sl.au⟩) (fun hS => ?_)
                      refine D_t 16 rfl (fun W hW => r_ix Try.underlying80 (show _ = some 1 from rfl) (by conv => lhs; whnf) rfl (by exact hW.choose_spec)) ?_
                      refine D_ev 17 (by kernel_rfl) rfl ?_
                      refine L_setOw (.plain rfl) rfl rfl (u := .int _ _) rfl rfl Ow.au (by first | omega | (simp only [List.length_set, ucells_length]; omega) | (simp; done)) (fun w63 hb63 hs63 c63 => ?_)
                      refine L_nil ?_
                      refine heldL ?_
                      refine D_done (by kernel_rfl) ?_
                      refine W_region ?_
                      refine L_r (r_mi rfl) ?_
                      refine L_r (r_add rfl rfl (by first | exact wr_i64 (by omega) | rfl)) ?_
                      refine L_r (r_ai rfl) ?_
                      refine L_nil ?_
                      refine ⟨⟨rfl, rfl, rfl, rfl, rfl, trivial⟩, _, ?_, k + 1, swp Z2 k (k - 1), rfl, ?_, rfl⟩
                      · omega
                      have hB : Ow w63 base 26 1 v Z2.length (((ucells Z2).set k (.int .u64 (gt Z2 ((k : Int) - 1).toNat : Int))).set ((k : Int) - 1).toNat (.int .u64 (gt Z2 k : Int))) := by assumption
                      rw [ek] at hB
                      exact ⟨by omega, dt_swp hB, Rg.swap Z2 k (k - 1) hR2 (by omega) (by omega) (by omega) (by omega) hb, srt_out hS2 (by omega) (by omega) (by omega) (by omega), Ch.au⟩
                    · refine L_r (r_loadSl rfl rfl Sl.au (by first | assumption | exact ucells_gt _ _ (by omega) | (conv => lhs; simp only [List.getElem?_toArray, List.getElem?_cons_succ, List.getElem?_cons_zero]))) ?_
                      refine L_nil ?_
                      refine heldK (by exact ⟨_, Sl.au⟩) (fun hS => ?_)
                      refine D_ev 9 (by kernel_rfl) rfl ?_
                      refine L_r (r_loadSl rfl rfl Sl.au (by first | assumption | exact ucells_gt _ _ (by omega) | (conv => lhs; simp only [List.getElem?_toArray, List.getElem?_cons_succ, List.getElem?_cons_zero]))) ?_
                      refine L_nil ?_
                      refine heldK (by exact ⟨_, Sl.au⟩) (fun hS => ?_)
                      refine D_t 14 rfl (fun W hW => r_ix Try.underlying80 (show _ = some 1 from rfl) (by conv => lhs; whnf) rfl (by exact hW.choose_spec)) ?_
                      refine D_ev 15 (by kernel_rfl) rfl ?_
                      refine L_setOw (.plain rfl) rfl rfl (u := .int _ _) rfl rfl Ow.au (by first | omega | (simp only [List.length_set, ucells_length]; omega) | (simp; done)) (fun w64 hb64 hs64 c64 => ?_)
                      refine L_nil ?_
                      refine heldK (by exact ⟨_, Sl.au⟩) (fun hS => ?_)
                      refine D_t 16 rfl (fun W hW => r_ix Try.underlying80 (show _ = some 1 from rfl) (by conv => lhs; whnf) rfl (by exact hW.choose_spec)) ?_
                      refine D_ev 17 (by kernel_rfl) rfl ?_
                      refine L_setOw (.plain rfl) rfl rfl (u := .int _ _) rfl rfl Ow.au (by first | omega | (simp only [List.length_set, ucells_length]; omega) | (simp; done)) (fun w65 hb65 hs65 c65 => ?_)
                      refine L_nil ?_
                      refine heldL ?_
                      refine D_done (by kernel_rfl) ?_
                      refine W_region ?_
                      refine L_r (r_mi rfl) ?_
                      refine L_r (r_add rfl rfl (by first | exact wr_i64 (by omega) | rfl)) ?_
                      refine L_r (r_ai rfl) ?_
                      refine L_nil ?_
                      refine ⟨⟨rfl, rfl, rfl, rfl, rfl, trivial⟩, _, ?_, k + 1, swp Z2 k (k - 1), rfl, ?_, rfl⟩
                      · omega
                      have hB : Ow w65 base 26 1 v Z2.length (((ucells Z2).set k (.int .u64 (gt Z2 ((k : Int) - 1).toNat : Int))).set ((k : Int) - 1).toNat (.int .u64 (gt Z2 k : Int))) := by assumption
                      rw [ek] at hB
                      exact ⟨by omega, dt_swp hB, Rg.swap Z2 k (k - 1) hR2 (by omega) (by omega) (by omega) (by omega) hb, srt_out hS2 (by omega) (by omega) (by omega) (by omega), Ch.au⟩
                · refine W_exit ?_
                  repeat (first | refine blk_hit ?_ | refine blk_miss rfl ?_)
                  refine ⟨⟨rfl, rfl, rfl, rfl, rfl, trivial⟩, Z2, trivial, ?_⟩
                  exact ⟨Ow.au, hR2, hS2, Ch.au⟩
              · refine W_skip ?_
                refine ⟨⟨rfl, rfl, rfl, rfl, rfl, trivial⟩, Z2, trivial, ?_⟩
                exact ⟨Ow.au, hR2, hS2, Ch.au⟩
            rintro gct98 w66 ⟨Z3, -, hCt98⟩
            obtain ⟨hD3, hR3, hS3, hc⟩ := hCt98
            have hz := hc.size
            refine W_region ?_
            refine L_r (r_mi rfl) ?_
            refine L_r (r_add rfl rfl (by first | exact wr_i64 (by omega) | rfl)) ?_
            refine L_r (r_ai rfl) ?_
            refine L_nil ?_
            refine ⟨⟨rfl, rfl, rfl, trivial⟩, _, ?_, n + 1, i, Z3, rfl, rfl, ?_, rfl⟩
            · omega
            exact ⟨by omega, by omega, Ow.au, hR3, hS3, Ch.au⟩
          · refine L_r (r_loadSl rfl rfl Sl.au (by first | assumption | exact ucells_gt _ _ (by omega) | (conv => lhs; simp only [List.getElem?_toArray, List.getElem?_cons_succ, List.getElem?_cons_zero]))) ?_
            refine L_nil ?_
            refine heldK (by exact ⟨_, Sl.au⟩) (fun hS => ?_)
            refine D_ev 9 (by kernel_rfl) rfl ?_
            refine L_r (r_loadSl rfl rfl Sl.au (by first | assumption | exact ucells_gt _ _ (by omega) | (conv => lhs; simp only [List.getElem?_toArray, List.getElem?_cons_succ, List.getElem?_cons_zero]))) ?_
            refine L_nil ?_
            refine heldK (by exact ⟨_, Sl.au⟩) (fun hS => ?_)
            refine D_t 14 rfl (fun W hW => r_ix Try.underlying80 (show _ = some 1 from rfl) (by conv => lhs; whnf) rfl (by exact hW.choose_spec)) ?_
            refine D_ev 15 (by kernel_rfl) rfl ?_
            refine L_setOw (.plain rfl) rfl rfl (u := .int _ _) rfl rfl Ow.au (by first | omega | (simp only [List.length_set, ucells_length]; omega) | (simp; done)) (fun w67 hb67 hs67 c67 => ?_)
            refine L_nil ?_
            refine heldK (by exact ⟨_, Sl.au⟩) (fun hS => ?_)
            refine D_t 16 rfl (fun W hW => r_ix Try.underlying80 (show _ = some 1 from rfl) (by conv => lhs; whnf) rfl (by exact hW.choose_spec)) ?_
            refine D_ev 17 (by kernel_rfl) rfl ?_
            refine L_setOw (.plain rfl) rfl rfl (u := .int _ _) rfl rfl Ow.au (by first | omega | (simp only [List.length_set, ucells_length]; omega) | (simp; done)) (fun w68 hb68 hs68 c68 => ?_)
            refine L_nil ?_
            refine heldL ?_
            refine D_done (by kernel_rfl) ?_
            refine W_seq ?_
            refine W_seq ?_
            have ei : ((i : Int) - 1).toNat = i - 1 := by omega
            have hB : Ow w68 base 26 1 v Y0.length (((ucells Y0).set i (.int .u64 (gt Y0 ((i : Int) - 1).toNat : Int))).set ((i : Int) - 1).toNat (.int .u64 (gt Y0 i : Int))) := by assumption
            rw [ei] at hB
            have hD1 := dt_swp hB
            clear hB
            have hR1 : Rg a b X (swp Y0 i (i - 1)) := Rg.swap Y0 i (i - 1) hR0 (by omega) (by omega) (by omega) (by omega) hb
            have hI1 := ins_swp hSr (by omega) (by omega : i < Y0.length)
            obtain ⟨Z1, hZ1⟩ : ∃ x, x = swp Y0 i (i - 1) := ⟨_, rfl⟩
            rw [← hZ1] at hD1 hR1 hI1
            have hl1 := hR1.length
            refine W_region ?_
            refine L_r (r_mi rfl) ?_
            refine L_r (r_mi rfl) ?_
            refine L_r (r_sub rfl rfl (by first | exact wr_i64 (by omega) | rfl)) ?_
            refine L_r (r_geq rfl rfl) ?_
            refine L_nil ?_
            refine W_endF [0, 1, 2, 7, 8] (fun f W => ∃ (Z2 : List Nat), True ∧ (Dt base W v Z2 ∧ Rg a b X Z2 ∧ Srt a i Z2 ∧ DtC v w0 W)) ?_ ?_
            · refine W_if rfl (fun h61 => ?_) (fun h61 => ?_)
              · refine W_seq ?_
                refine W_region ?_
                refine L_r (r_mi rfl) ?_
                refine L_r (r_sub rfl rfl (by first | exact wr_i64 (by omega) | rfl)) ?_
                refine L_r (r_ai rfl) ?_
                refine L_nil ?_
                refine W_block ?_
                refine W_loopF [0, 1, 2, 7, 8] (fun mz_ f W => ∃ (j : Nat) (Z1 : List Nat), f 9 = .int .i64 j ∧ ((a ≤ j ∧ j ≤ i - 1) ∧ Dt base W v Z1 ∧ Rg a b X Z1 ∧ Ins a (i - 1) j Z1 ∧ DtC v w0 W) ∧ mz_ = j + 1) ?_ ?_
                · refine ⟨_, i - 1, Z1, (by exact congrArg (Value.int .i64) (by omega)), ?_, rfl⟩
                  exact ⟨by omega, Ow.au, hR1, hI1, Ch.au⟩
                rintro m2 g2 w69 ⟨j, Z1, hf9, hR2, rfl⟩
                refine W_as 9 hf9 rfl ?_
                clear hf9
                obtain ⟨hj, hD1, hR1, hI1, hc⟩ := hR2
                have hz := hc.size
                have hl1 := hR1.length
                have hA1 := hA.rg hR1
                refine W_seq ?_
                refine W_seq ?_
                refine W_region ?_
                refine L_r (r_mi rfl) ?_
                refine L_r (r_geq rfl rfl) ?_
                refine L_nil ?_
                refine W_if rfl (fun h65 => ?_) (fun h65 => ?_)
                · have ej : ((j : Int) - 1).toNat = j - 1 := by omega
                  refine W_skip ?_
                  refine W_seq ?_
                  refine W_block ?_
                  refine W_seq ?_
                  refine W_seq ?_
                  refine W_draw (fun W => Dt base W v Z1) 11 (m := 11) (by kernel_rfl) rfl (fun w70 c70 hs70 => ?_)
                  refine held Ow.au (fun hS => ?_)
                  refine D_t 0 rfl (fun W hW => r_mv) ?_
                  refine D_t 1 rfl (fun W hW => r_mi rfl) ?_
                  refine D_t 2 rfl (fun W hW => r_ix Try.underlying80 (show _ = some 1 from rfl) (by conv => lhs; whnf) rfl (by (first | exact hW.sl | exact hW))) ?_
                  refine D_t 3 rfl (fun W hW => r_loadSl rfl rfl (by (first | exact hW.sl | exact hW)) (by first | assumption | exact ucells_gt _ _ (by omega) | (conv => lhs; simp only [List.getElem?_toArray, List.getElem?_cons_succ, List.getElem?_cons_zero]))) ?_
                  refine D_t 4 rfl (fun W hW => r_mv) ?_
                  refine D_t 5 rfl (fun W hW => r_mi rfl) ?_
                  refine D_t 6 rfl (fun W hW => r_sub rfl rfl (by first | exact wr_i64 (by omega) | rfl)) ?_
                  refine D_t 7 rfl (fun W hW => r_ix Try.underlying80 (show _ = some 1 from rfl) (by conv => lhs; whnf) rfl (by (first | exact hW.sl | exact hW))) ?_
                  refine D_t 8 rfl (fun W hW => r_loadSl rfl rfl (by (first | exact hW.sl | exact hW)) (by first | assumption | exact ucells_gt _ _ (by omega) | (conv => lhs; simp only [List.getElem?_toArray, List.getElem?_cons_succ, List.getElem?_cons_zero]))) ?_
                  refine D_ev 9 (by kernel_rfl) rfl ?_
                  refine L_call (.plain rfl) rfl rfl (r_call Try.func54 rfl rfl rfl (by rfl)) (less_walk (gt Z1 j) (gt Z1 ((j : Int) - 1).toNat) _) ?_
                  rintro v77 w71 ⟨rfl, c71⟩
                  have hz71 := c71.size
                  rw [ej]
                  refine L_nil ?_
                  refine heldK Ow.au (fun hS => ?_)
                  refine D_t 10 rfl (fun W hW => r_not rfl) ?_
                  refine D_done (by kernel_rfl) ?_
                  refine W_bool rfl (fun h78 => ?_) (fun h78 => ?_)
                  · replace h78 : ¬ gt Z1 j < gt Z1 (j - 1) := by simpa using h78
                    refine W_exit ?_
                    repeat (first | refine blk_hit ?_ | refine blk_miss rfl ?_)
                    refine ⟨⟨rfl, rfl, rfl, rfl, rfl, trivial⟩, Z1, trivial, ?_⟩
                    first
                    | exact ⟨Ow.au, hR1, (by have h := ins_done hI1 hj.1 hj.2 (.inl (by omega)); rw [Nat.sub_add_cancel (by omega)] at h; exact h), Ch.au⟩
                    | exact ⟨Ow.au, hR1, (by have h := ins_done hI1 hj.1 hj.2 (.inr (by omega)); rw [Nat.sub_add_cancel (by omega)] at h; exact h), Ch.au⟩
                    | exact ⟨Ow.au, hR1, fun p q h1 h2 h3 => by omega, Ch.au⟩
                  · replace h78 : gt Z1 j < gt Z1 (j - 1) := by simpa using h78
                    have haj : a < j := by
                      rcases Nat.lt_or_ge a j with h | h
                      · exact h
                      · have e : j = a := by omega
                        subst e
                        have := hA1 (by omega) j (by omega) (by omega)
                        omega
                    refine W_skip ?_
                    refine W_draw (fun W => ∃ xs, Sl W v 1 Z1.length xs) 17 (m := 18) (by kernel_rfl) rfl (fun w72 c72 hs72 => ?_)
                    refine held (by exact ⟨_, Sl.au⟩) (fun hS => ?_)
                    refine D_t 0 rfl (fun W hW => r_mv) ?_
                    refine D_t 1 rfl (fun W hW => r_mi rfl) ?_
                    refine D_t 2 rfl (fun W hW => r_mv) ?_
                    refine D_t 3 rfl (fun W hW => r_mi rfl) ?_
                    refine D_t 4 rfl (fun W hW => r_sub rfl rfl (by first | exact wr_i64 (by omega) | rfl)) ?_
                    refine D_t 5 rfl (fun W hW => r_mv) ?_
                    refine D_t 6 rfl (fun W hW => r_mi rfl) ?_
                    refine D_t 7 rfl (fun W hW => r_sub rfl rfl (by first | exact wr_i64 (by omega) | rfl)) ?_
                    refine D_t 8 rfl (fun W hW => r_ix Try.underlying80 (show _ = some 1 from rfl) (by conv => lhs; whnf) rfl (by exact hW.choose_spec)) ?_
                    refine D_t 10 rfl (fun W hW => r_mv) ?_
                    refine D_t 11 rfl (fun W hW => r_mi rfl) ?_
                    refine D_t 12 rfl (fun W hW => r_ix Try.underlying80 (show _ = some 1 from rfl) (by conv => lhs; whnf) rfl (by exact hW.choose_spec)) ?_
                    refine D_ev2 9 13 (by kernel_rfl) rfl rfl ?_ ?_
                    · refine L_r (r_loadSl rfl rfl Sl.au (by first | assumption | exact ucells_gt _ _ (by omega) | (conv => lhs; simp only [List.getElem?_toArray, List.getElem?_cons_succ, List.getElem?_cons_zero]))) ?_
                      refine L_nil ?_
                      refine heldK (by exact ⟨_, Sl.au⟩) (fun hS => ?_)
                      refine D_ev 13 (by kernel_rfl) rfl ?_
                      refine L_r (r_loadSl rfl rfl Sl.au (by first | assumption | exact ucells_gt _ _ (by omega) | (conv => lhs; simp only [List.getElem?_toArray, List.getElem?_cons_succ, List.getElem?_cons_zero]))) ?_
                      refine L_nil ?_
                      refine heldK (by exact ⟨_, Sl.au⟩) (fun hS => ?_)
                      refine D_t 14 rfl (fun W hW => r_ix Try.underlying80 (show _ = some 1 from rfl) (by conv => lhs; whnf) rfl (by exact hW.choose_spec)) ?_
                      refine D_ev 15 (by kernel_rfl) rfl ?_
                      refine L_setOw (.plain rfl) rfl rfl (u := .int _ _) rfl rfl Ow.au (by first | omega | (simp only [List.length_set, ucells_length]; omega) | (simp; done)) (fun w73 hb73 hs73 c73 => ?_)
                      refine L_nil ?_
                      refine heldK (by exact ⟨_, Sl.au⟩) (fun hS => ?_)
                      refine D_t 16 rfl (fun W hW => r_ix Try.underlying80 (show _ = some 1 from rfl) (by conv => lhs; whnf) rfl (by exact hW.choose_spec)) ?_
                      refine D_ev 17 (by kernel_rfl) rfl ?_
                      refine L_setOw (.plain rfl) rfl rfl (u := .int _ _) rfl rfl Ow.au (by first | omega | (simp only [List.length_set, ucells_length]; omega) | (simp; done)) (fun w74 hb74 hs74 c74 => ?_)
                      refine L_nil ?_
                      refine heldL ?_
                      refine D_done (by kernel_rfl) ?_
                      refine W_region ?_
                      refine L_r (r_mi rfl) ?_
                      refine L_r (r_sub rfl rfl (by first | exact wr_i64 (by omega) | rfl)) ?_
                      refine L_r (r_ai rfl) ?_
                      refine L_nil ?_
                      refine ⟨⟨rfl, rfl, rfl, rfl, rfl, trivial⟩, _, ?_, j - 1, swp Z1 j (j - 1), (by exact congrArg (Value.int .i64) (by omega)), ?_, rfl⟩
                      · omega
                      have hB : Ow w74 base 26 1 v Z1.length (((ucells Z1).set j (.int .u64 (gt Z1 ((j : Int) - 1).toNat : Int))).set ((j : Int) - 1).toNat (.int .u64 (gt Z1 j : Int))) := by assumption
                      rw [ej] at hB
                      exact ⟨by omega, dt_swp hB, Rg.swap Z1 j (j - 1) hR1 (by omega) (by omega) (by omega) (by omega) hb, ins_step hI1 (by omega) (by omega) (by omega) h78, Ch.au⟩
                    · refine L_r (r_loadSl rfl rfl Sl.au (by first | assumption | exact ucells_gt _ _ (by omega) | (conv => lhs; simp only [List.getElem?_toArray, List.getElem?_cons_succ, List.getElem?_cons_zero]))) ?_
                      refine L_nil ?_
                      refine heldK (by exact ⟨_, Sl.au⟩) (fun hS => ?_)
                      refine D_ev 9 (by kernel_rfl) rfl ?_
                      refine L_r (r_loadSl rfl rfl Sl.au (by first | assumption | exact ucells_gt _ _ (by omega) | (conv => lhs; simp only [List.getElem?_toArray, List.getElem?_cons_succ, List.getElem?_cons_zero]))) ?_
                      refine L_nil ?_
                      refine heldK (by exact ⟨_, Sl.au⟩) (fun hS => ?_)
                      refine D_t 14 rfl (fun W hW => r_ix Try.underlying80 (show _ = some 1 from rfl) (by conv => lhs; whnf) rfl (by exact hW.choose_spec)) ?_
                      refine D_ev 15 (by kernel_rfl) rfl ?_
                      refine L_setOw (.plain rfl) rfl rfl (u := .int _ _) rfl rfl Ow.au (by first | omega | (simp only [List.length_set, ucells_length]; omega) | (simp; done)) (fun w75 hb75 hs75 c75 => ?_)
                      refine L_nil ?_
                      refine heldK (by exact ⟨_, Sl.au⟩) (fun hS => ?_)
                      refine D_t 16 rfl (fun W hW => r_ix Try.underlying80 (show _ = some 1 from rfl) (by conv => lhs; whnf) rfl (by exact hW.choose_spec)) ?_
                      refine D_ev 17 (by kernel_rfl) rfl ?_
                      refine L_setOw (.plain rfl) rfl rfl (u := .int _ _) rfl rfl Ow.au (by first | omega | (simp only [List.length_set, ucells_length]; omega) | (simp; done)) (fun w76 hb76 hs76 c76 => ?_)
                      refine L_nil ?_
                      refine heldL ?_
                      refine D_done (by kernel_rfl) ?_
                      refine W_region ?_
                      refine L_r (r_mi rfl) ?_
                      refine L_r (r_sub rfl rfl (by first | exact wr_i64 (by omega) | rfl)) ?_
                      refine L_r (r_ai rfl) ?_
                      refine L_nil ?_
                      refine ⟨⟨rfl, rfl, rfl, rfl, rfl, trivial⟩, _, ?_, j - 1, swp Z1 j (j - 1), (by exact congrArg (Value.int .i64) (by omega)), ?_, rfl⟩
                      · omega
                      have hB : Ow w76 base 26 1 v Z1.length (((ucells Z1).set j (.int .u64 (gt Z1 ((j : Int) - 1).toNat : Int))).set ((j : Int) - 1).toNat (.int .u64 (gt Z1 j : Int))) := by assumption
                      rw [ej] at hB
                      exact ⟨by omega, dt_swp hB, Rg.swap Z1 j (j - 1) hR1 (by omega) (by omega) (by omega) (by omega) hb, ins_step hI1 (by omega) (by omega) (by omega) h78, Ch.au⟩
                · refine W_exit ?_
                  repeat (first | refine blk_hit ?_ | refine blk_miss rfl ?_)
                  refine ⟨⟨rfl, rfl, rfl, rfl, rfl, trivial⟩, Z1, trivial, ?_⟩
                  first
                  | exact ⟨Ow.au, hR1, (by have h := ins_done hI1 hj.1 hj.2 (.inl (by omega)); rw [Nat.sub_add_cancel (by omega)] at h; exact h), Ch.au⟩
                  | exact ⟨Ow.au, hR1, (by have h := ins_done hI1 hj.1 hj.2 (.inr (by omega)); rw [Nat.sub_add_cancel (by omega)] at h; exact h), Ch.au⟩
                  | exact ⟨Ow.au, hR1, fun p q h1 h2 h3 => by omega, Ch.au⟩
              · refine W_skip ?_
                refine ⟨⟨rfl, rfl, rfl, rfl, rfl, trivial⟩, Z1, trivial, ?_⟩
                first
                | exact ⟨Ow.au, hR1, (by have h := ins_done hI1 hj.1 hj.2 (.inl (by omega)); rw [Nat.sub_add_cancel (by omega)] at h; exact h), Ch.au⟩
                | exact ⟨Ow.au, hR1, (by have h := ins_done hI1 hj.1 hj.2 (.inr (by omega)); rw [Nat.sub_add_cancel (by omega)] at h; exact h), Ch.au⟩
                | exact ⟨Ow.au, hR1, fun p q h1 h2 h3 => by omega, Ch.au⟩
            rintro gct61 w77 ⟨Z2, -, hCt61⟩
            obtain ⟨hD2, hR2, hS2, hc⟩ := hCt61
            have hz := hc.size
            have hl2 := hR2.length
            refine W_seq ?_
            refine W_region ?_
            refine L_r (r_mi rfl) ?_
            refine L_r (r_mi rfl) ?_
            refine L_r (r_sub rfl rfl (by first | exact wr_i64 (by omega) | rfl)) ?_
            refine L_r (r_geq rfl rfl) ?_
            refine L_nil ?_
            refine W_endF [0, 1, 2, 7, 8] (fun f W => ∃ (Z3 : List Nat), True ∧ (Dt base W v Z3 ∧ Rg a b X Z3 ∧ Srt a i Z3 ∧ DtC v w0 W)) ?_ ?_
            · refine W_if rfl (fun h98 => ?_) (fun h98 => ?_)
              · refine W_seq ?_
                refine W_region ?_
                refine L_r (r_mi rfl) ?_
                refine L_r (r_add rfl rfl (by first | exact wr_i64 (by omega) | rfl)) ?_
                refine L_r (r_ai rfl) ?_
                refine L_nil ?_
                refine W_block ?_
                refine W_loopF [0, 1, 2, 7, 8] (fun mz_ f W => ∃ (k : Nat) (Z2 : List Nat), f 10 = .int .i64 k ∧ ((i < k ∧ k ≤ b) ∧ Dt base W v Z2 ∧ Rg a b X Z2 ∧ Srt a i Z2 ∧ DtC v w0 W) ∧ mz_ = b - k) ?_ ?_
                · refine ⟨_, i + 1, Z2, rfl, ?_, rfl⟩
                  exact ⟨by omega, Ow.au, hR2, hS2, Ch.au⟩
                rintro m3 g3 w78 ⟨k, Z2, hf10, hR3, rfl⟩
                refine W_as 10 hf10 rfl ?_
                clear hf10
                obtain ⟨hk, hD2, hR2, hS2, hc⟩ := hR3
                have hz := hc.size
                have hl2 := hR2.length
                refine W_seq ?_
                refine W_seq ?_
                refine W_region ?_
                refine L_r (r_mi rfl) ?_
                refine L_r (r_mi rfl) ?_
                refine L_r (r_lss rfl rfl) ?_
                refine L_nil ?_
                refine W_if rfl (fun h103 => ?_) (fun h103 => ?_)
                · have ek : ((k : Int) - 1).toNat = k - 1 := by omega
                  refine W_skip ?_
                  refine W_seq ?_
                  refine W_block ?_
                  refine W_seq ?_
                  refine W_seq ?_
                  refine W_draw (fun W => Dt base W v Z2) 11 (m := 11) (by kernel_rfl) rfl (fun w79 c79 hs79 => ?_)
                  refine held Ow.au (fun hS => ?_)
                  refine D_t 0 rfl (fun W hW => r_mv) ?_
                  refine D_t 1 rfl (fun W hW => r_mi rfl) ?_
                  refine D_t 2 rfl (fun W hW => r_ix Try.underlying80 (show _ = some 1 from rfl) (by conv => lhs; whnf) rfl (by (first | exact hW.sl | exact hW))) ?_
                  refine D_t 3 rfl (fun W hW => r_loadSl rfl rfl (by (first | exact hW.sl | exact hW)) (by first | assumption | exact ucells_gt _ _ (by omega) | (conv => lhs; simp only [List.getElem?_toArray, List.getElem?_cons_succ, List.getElem?_cons_zero]))) ?_
                  refine D_t 4 rfl (fun W hW => r_mv) ?_
                  refine D_t 5 rfl (fun W hW => r_mi rfl) ?_
                  refine D_t 6 rfl (fun W hW => r_sub rfl rfl (by first | exact wr_i64 (by omega) | rfl)) ?_
                  refine D_t 7 rfl (fun W hW => r_ix Try.underlying80 (show _ = some 1 from rfl) (by conv => lhs; whnf) rfl (by (first | exact hW.sl | exact hW))) ?_
                  refine D_t 8 rfl (fun W hW => r_loadSl rfl rfl (by (first | exact hW.sl | exact hW)) (by first | assumption | exact ucells_gt _ _ (by omega) | (conv => lhs; simp only [List.getElem?_toArray, List.getElem?_cons_succ, List.getElem?_cons_zero]))) ?_
                  refine D_ev 9 (by kernel_rfl) rfl ?_
                  refine L_call (.plain rfl) rfl rfl (r_call Try.func54 rfl rfl rfl (by rfl)) (less_walk (gt Z2 k) (gt Z2 ((k : Int) - 1).toNat) _) ?_
                  rintro v115 w80 ⟨rfl, c80⟩
                  have hz80 := c80.size
                  rw [ek]
                  refine L_nil ?_
                  refine heldK Ow.au (fun hS => ?_)
                  refine D_t 10 rfl (fun W hW => r_not rfl) ?_
                  refine D_done (by kernel_rfl) ?_
                  refine W_bool rfl (fun h116 => ?_) (fun h116 => ?_)
                  · refine W_exit ?_
                    repeat (first | refine blk_hit ?_ | refine blk_miss rfl ?_)
                    refine ⟨⟨rfl, rfl, rfl, rfl, rfl, trivial⟩, Z2, trivial, ?_⟩
                    exact ⟨Ow.au, hR2, hS2, Ch.au⟩
                  · refine W_skip ?_
                    refine W_draw (fun W => ∃ xs, Sl W v 1 Z2.length xs) 17 (m := 18) (by kernel_rfl) rfl (fun w81 c81 hs81 => ?_)
                    refine held (by exact ⟨_, Sl.au⟩) (fun hS => ?_)
                    refine D_t 0 rfl (fun W hW => r_mv) ?_
                    refine D_t 1 rfl (fun W hW => r_mi rfl) ?_
                    refine D_t 2 rfl (fun W hW => r_mv) ?_
                    refine D_t 3 rfl (fun W hW => r_mi rfl) ?_
                    refine D_t 4 rfl (fun W hW => r_sub rfl rfl (by first | exact wr_i64 (by omega) | rfl)) ?_
                    refine D_t 5 rfl (fun W hW => r_mv) ?_
                    refine D_t 6 rfl (fun W hW => r_mi rfl) ?_
                    refine D_t 7 rfl (fun W hW => r_sub rfl rfl (by first | exact wr_i64 (by omega) | rfl)) ?_
                    refine D_t 8 rfl (fun W hW => r_ix Try.underlying80 (show _ = some 1 from rfl) (by conv => lhs; whnf) rfl (by exact hW.choose_spec)) ?_
                    refine D_t 10 rfl (fun W hW => r_mv) ?_
                    refine D_t 11 rfl (fun W hW => r_mi rfl) ?_
                    refine D_t 12 rfl (fun W hW => r_ix Try.underlying80 (show _ = some 1 from rfl) (by conv => lhs; whnf) rfl (by exact hW.choose_spec)) ?_
                    refine D_ev2 9 13 (by kernel_rfl) rfl rfl ?_ ?_
                    · refine L_r (r_loadSl rfl rfl Sl.au (by first | assumption | exact ucells_gt _ _ (by omega) | (conv => lhs; simp only [List.getElem?_toArray, List.getElem?_cons_succ, List.getElem?_cons_zero]))) ?_
                      refine L_nil ?_
                      refine heldK (by exact ⟨_, Sl.au⟩) (fun hS => ?_)
                      refine D_ev 13 (by kernel_rfl) rfl ?_
                      refine L_r (r_loadSl rfl rfl Sl.au (by first | assumption | exact ucells_gt _ _ (by omega) | (conv => lhs; simp only [List.getElem?_toArray, List.getElem?_cons_succ, List.getElem?_cons_zero]))) ?_
                      refine L_nil ?_
                      refine heldK (by exact ⟨_, Sl.au⟩) (fun hS => ?_)
                      refine D_t 14 rfl (fun W hW => r_ix Try.underlying80 (show _ = some 1 from rfl) (by conv => lhs; whnf) rfl (by exact hW.choose_spec)) ?_
                      refine D_ev 15 (by kernel_rfl) rfl ?_
                      refine L_setOw (.plain rfl) rfl rfl (u := .int _ _) rfl rfl Ow.au (by first | omega | (simp only [List.length_set, ucells_length]; omega) | (simp; done)) (fun w82 hb82 hs82 c82 => ?_)
                      refine L_nil ?_
                      refine heldK (by exact ⟨_, Sl.au⟩) (fun hS => ?_)
                      refine D_t 16 rfl (fun W hW => r_ix Try.underlying80 (show _ = some 1 from rfl) (by conv => lhs; whnf) rfl (by exact hW.choose_spec)) ?_
                      refine D_ev 17 (by kernel_rfl) rfl ?_
                      refine L_setOw (.plain rfl) rfl rfl (u := .int _ _) rfl rfl Ow.au (by first | omega | (simp only [List.length_set, ucells_length]; omega) | (simp; done)) (fun w83 hb83 hs83 c83 => ?_)
                      refine L_nil ?_
                      refine heldL ?_
                      refine D_done (by kernel_rfl) ?_
                      refine W_region ?_
                      refine L_r (r_mi rfl) ?_
                      refine L_r (r_add rfl rfl (by first | exact wr_i64 (by omega) | rfl)) ?_
                      refine L_r (r_ai rfl) ?_
                      refine L_nil ?_
                      refine ⟨⟨rfl, rfl, rfl, rfl, rfl, trivial⟩, _, ?_, k + 1, swp Z2 k (k - 1), rfl, ?_, rfl⟩
                      · omega
                      have hB : Ow w83 base 26 1 v Z2.length (((ucells Z2).set k (.int .u64 (gt Z2 ((k : Int) - 1).toNat : Int))).set ((k : Int) - 1).toNat (.int .u64 (gt Z2 k : Int))) := by assumption
                      rw [ek] at hB
                      exact ⟨by omega, dt_swp hB, Rg.swap Z2 k (k - 1) hR2 (by omega) (by omega) (by omega) (by omega) hb, srt_out hS2 (by omega) (by omega) (by omega) (by omega), Ch.au⟩
                    · refine L_r (r_loadSl rfl rfl Sl.au (by first | assumption | exact ucells_gt _ _ (by omega) | (conv => lhs; simp only [List.getElem?_toArray, List.getElem?_cons_succ, List.getElem?_cons_zero]))) ?_
                      refine L_nil ?_
                      refine heldK (by exact ⟨_, Sl.au⟩) (fun hS => ?_)
                      refine D_ev 9 (by kernel_rfl) rfl ?_
                      refine L_r (r_loadSl rfl rfl Sl.au (by first | assumption | exact ucells_gt _ _ (by omega) | (conv => lhs; simp only [List.getElem?_toArray, List.getElem?_cons_succ, List.getElem?_cons_zero]))) ?_
                      refine L_nil ?_
                      refine heldK (by exact ⟨_, Sl.au⟩) (fun hS => ?_)
                      refine D_t 14 rfl (fun W hW => r_ix Try.underlying80 (show _ = some 1 from rfl) (by conv => lhs; whnf) rfl (by exact hW.choose_spec)) ?_
                      refine D_ev 15 (by kernel_rfl) rfl ?_
                      refine L_setOw (.plain rfl) rfl rfl (u := .int _ _) rfl rfl Ow.au (by first | omega | (simp only [List.length_set, ucells_length]; omega) | (simp; done)) (fun w84 hb84 hs84 c84 => ?_)
                      refine L_nil ?_
                      refine heldK (by exact ⟨_, Sl.au⟩) (fun hS => ?_)
                      refine D_t 16 rfl (fun W hW => r_ix Try.underlying80 (show _ = some 1 from rfl) (by conv => lhs; whnf) rfl (by exact hW.choose_spec)) ?_
                      refine D_ev 17 (by kernel_rfl) rfl ?_
                      refine L_setOw (.plain rfl) rfl rfl (u := .int _ _) rfl rfl Ow.au (by first | omega | (simp only [List.length_set, ucells_length]; omega) | (simp; done)) (fun w85 hb85 hs85 c85 => ?_)
                      refine L_nil ?_
                      refine heldL ?_
                      refine D_done (by kernel_rfl) ?_
                      refine W_region ?_
                      refine L_r (r_mi rfl) ?_
                      refine L_r (r_add rfl rfl (by first | exact wr_i64 (by omega) | rfl)) ?_
                      refine L_r (r_ai rfl) ?_
                      refine L_nil ?_
                      refine ⟨⟨rfl, rfl, rfl, rfl, rfl, trivial⟩, _, ?_, k + 1, swp Z2 k (k - 1), rfl, ?_, rfl⟩
                      · omega
                      have hB : Ow w85 base 26 1 v Z2.length (((ucells Z2).set k (.int .u64 (gt Z2 ((k : Int) - 1).toNat : Int))).set ((k : Int) - 1).toNat (.int .u64 (gt Z2 k : Int))) := by assumption
                      rw [ek] at hB
                      exact ⟨by omega, dt_swp hB, Rg.swap Z2 k (k - 1) hR2 (by omega) (by omega) (by omega) (by omega) hb, srt_out hS2 (by omega) (by omega) (by omega) (by omega), Ch.au⟩
                · refine W_exit ?_
                  repeat (first | refine blk_hit ?_ | refine blk_miss rfl ?_)
                  refine ⟨⟨rfl, rfl, rfl, rfl, rfl, trivial⟩, Z2, trivial, ?_⟩
                  exact ⟨Ow.au, hR2, hS2, Ch.au⟩
              · refine W_skip ?_
                refine ⟨⟨rfl, rfl, rfl, rfl, rfl, trivial⟩, Z2, trivial, ?_⟩
                exact ⟨Ow.au, hR2, hS2, Ch.au⟩
            rintro gct98 w86 ⟨Z3, -, hCt98⟩
            obtain ⟨hD3, hR3, hS3, hc⟩ := hCt98
            have hz := hc.size
            refine W_region ?_
            refine L_r (r_mi rfl) ?_
            refine L_r (r_add rfl rfl (by first | exact wr_i64 (by omega) | rfl)) ?_
            refine L_r (r_ai rfl) ?_
            refine L_nil ?_
            refine ⟨⟨rfl, rfl, rfl, trivial⟩, _, ?_, n + 1, i, Z3, rfl, rfl, ?_, rfl⟩
            · omega
            exact ⟨by omega, by omega, Ow.au, hR3, hS3, Ch.au⟩
  · refine W_exit ?_
    repeat (first | refine blk_hit ?_ | refine blk_miss rfl ?_)
    refine W_seq ?_
    refine W_region ?_
    refine L_r (r_ab rfl) ?_
    refine L_nil ?_
    refine W_ret ?_
    refine ret1 (v := .bool _) rfl rfl ?_
    first
    | (refine ⟨true, rfl, ⟨Y0, Ow.au, hR0, fun _ => ?_⟩, Ch.au⟩
       have e : i = b := by omega
       rw [← e]; exact hSr)
    | exact ⟨false, rfl, ⟨Y0, Ow.au, hR0, fun h => by cases h⟩, Ch.au⟩
end Go.Proofs.Ytjjddbicggfgnaa

