/- The library's sort of numbers, walked: its small pieces. -/
import Derived.Test.YtjjddbicggfgnaaSortP
namespace Go.Proofs.Ytjjddbicggfgnaa
open Go Go.RowKit
set_option linter.unusedVariables false
set_option linter.unusedSimpArgs false
theorem nan_walk (x : Nat) (w0 : World) : Does Try.prog 64 #[.int .u64 x] w0 (fun r w' => r = .bool false ∧ Nw w0 w') := by
  refine fn_of (n := 6) (args := [.int .u64 x]) Try.func64 rfl rfl rfl ?_
  refine W_seq ?_
  refine W_region ?_
  refine L_r (r_ab rfl) ?_
  refine L_nil ?_
  refine W_seq ?_
  refine W_region ?_
  refine L_r (r_mi rfl) ?_
  refine L_r (r_mi rfl) ?_
  refine L_r (r_neq rfl rfl) ?_
  refine L_r (r_ab rfl) ?_
  refine L_nil ?_
  refine W_ret ?_
  refine ret1 (v := .bool _) rfl rfl ?_
  exact ⟨congrArg Value.bool (decide_eq_false (fun h => h rfl)), Ch.au⟩
theorem less_walk (x y : Nat) (w0 : World) : Does Try.prog 54 #[.int .u64 x, .int .u64 y] w0 (fun r w' => r = .bool (decide (x < y)) ∧ Nw w0 w') := by
  refine fn_of (n := 17) (args := [.int .u64 x, .int .u64 y]) Try.func54 rfl rfl rfl ?_
  refine W_seq ?_
  refine W_region ?_
  refine L_r (r_ab rfl) ?_
  refine L_nil ?_
  refine W_seq ?_
  refine W_region ?_
  refine L_r (r_mi rfl) ?_
  refine L_call (.plain rfl) rfl rfl (r_call Try.func64 rfl rfl rfl (by rfl)) (nan_walk x _) ?_
  rintro v6 w1 ⟨rfl, c1⟩
  have hz1 := c1.size
  refine L_r (r_mb rfl) ?_
  refine L_as (v := .bool _) (v' := .bool false) 7 rfl (congrArg Value.bool (by simp)) ?_
  refine L_ps ?_
  refine L_ps ?_
  refine L_ps ?_
  refine L_r (r_pf rfl rfl) ?_
  refine L_r (r_mb rfl) ?_
  refine L_g (r_mi rfl) ?_
  refine L_g (r_mi rfl) ?_
  refine L_g (r_lss rfl rfl) ?_
  refine L_r (r_pf rfl rfl) ?_
  refine L_r (r_ab rfl) ?_
  refine L_nil ?_
  refine W_ret ?_
  refine ret1 (v := .bool _) rfl rfl ?_
  exact ⟨congrArg Value.bool (decide_eq_decide.2 (by omega)), Ch.au⟩
/-- A row of numbers of one's own, sorted in. -/
abbrev Dt (base : Nat) (w : World) (v : Value) (X : List Nat) : Prop := Ow w base 26 1 v X.length (ucells X)
abbrev DtC (v : Value) (w w' : World) : Prop := Ch (fun j => v.ownBlock = some j) w w'
set_option maxHeartbeats 1000000 in
set_option maxRecDepth 100000 in
theorem insert_walk (base : Nat) (v : Value) (X : List Nat) (a b : Nat) (w0 : World) (hv : Dt base w0 v X) (hab : a ≤ b) (hb : b ≤ X.length) (hl : X.length ≤ 1000000) : Does Try.prog 48 #[v, .int .i64 a, .int .i64 b] w0 (fun r w' => r = .tuple #[] ∧ (∃ Y, Dt base w' v Y ∧ Rg a b X Y ∧ Srt a b Y) ∧ DtC v w0 w') := by
  refine fn_of (n := 49) (args := [v, .int .i64 a, .int .i64 b]) Try.func48 rfl rfl rfl ?_
  refine W_seq ?_
  refine W_region ?_
  refine L_r (r_mi rfl) ?_
  refine L_r (r_add rfl rfl (by first | exact wr_i64 (by omega) | rfl)) ?_
  refine L_r (r_ai rfl) ?_
  refine L_nil ?_
  refine W_block ?_
  refine W_loopF [0, 1, 2] (fun mz_ f W => ∃ (i : Nat) (Y : List Nat), f 6 = .int .i64 i ∧ (a < i ∧ (i ≤ b ∨ i = a + 1) ∧ Dt base W v Y ∧ Rg a b X Y ∧ Srt a i Y ∧ DtC v w0 W) ∧ mz_ = b - i) ?_ ?_
  · refine ⟨_, a + 1, X, rfl, ?_, rfl⟩
    exact ⟨by omega, .inr rfl, Ow.au, Rg.refl, fun p q h1 h2 h3 => by omega, Ch.au⟩
  rintro m0 g0 w1 ⟨i, Y, hf6, hR0, rfl⟩
  refine W_as 6 hf6 rfl ?_
  clear hf6
  obtain ⟨hai, hib, hY, hR, hS, hc⟩ := hR0
  have hz := hc.size
  have hlen := hR.length
  refine W_seq ?_
  refine W_seq ?_
  refine W_region ?_
  refine L_r (r_mi rfl) ?_
  refine L_r (r_mi rfl) ?_
  refine L_r (r_lss rfl rfl) ?_
  refine L_nil ?_
  refine W_if rfl (fun h12 => ?_) (fun h12 => ?_)
  · refine W_skip ?_
    refine W_seq ?_
    refine W_block ?_
    refine W_seq ?_
    refine W_region ?_
    refine L_r (r_mi rfl) ?_
    refine L_r (r_ai rfl) ?_
    refine L_nil ?_
    refine W_block ?_
    refine W_loopF [0, 1, 2, 6] (fun mz_ f W => ∃ (j : Nat) (Z : List Nat), f 7 = .int .i64 j ∧ (a ≤ j ∧ j ≤ i ∧ Dt base W v Z ∧ Rg a b X Z ∧ Ins a i j Z ∧ DtC v w0 W) ∧ mz_ = j + 1) ?_ ?_
    · refine ⟨_, i, Y, rfl, ?_, rfl⟩
      exact ⟨by omega, by omega, Ow.au, hR, ins_start hS, Ch.au⟩
    rintro m1 g1 w2 ⟨j, Z, hf7, hR1, rfl⟩
    refine W_as 7 hf7 rfl ?_
    clear hf7
    obtain ⟨haj, hji, hZ, hRz, hI, hcz⟩ := hR1
    have hzz := hcz.size
    have hlz := hRz.length
    refine W_seq ?_
    refine W_seq ?_
    refine W_draw (fun W => Dt base W v Z) 15 (m := 15) (by kernel_rfl) rfl (fun w3 c3 hs3 => ?_)
    refine held Ow.au (fun hS => ?_)
    refine D_t 0 rfl (fun W hW => r_mi rfl) ?_
    refine D_t 1 rfl (fun W hW => r_mi rfl) ?_
    refine D_t 2 rfl (fun W hW => r_gtr rfl rfl) ?_
    refine D_t 3 rfl (fun W hW => r_mb rfl) ?_
    refine D_case (d := 19) rfl (fun h19 => ?_) (fun h19 => ?_)
    · have ej : ((j : Int) - 1).toNat = j - 1 := by omega
      refine D_g 4 rfl (fun W hW => r_mv) ?_
      refine D_g 5 rfl (fun W hW => r_mi rfl) ?_
      refine D_g 6 rfl (fun W hW => r_ix Try.underlying80 (show _ = some 1 from rfl) (by conv => lhs; whnf) rfl (by (first | exact hW.sl | exact hW))) ?_
      refine D_g 7 rfl (fun W hW => r_loadSl rfl rfl (by (first | exact hW.sl | exact hW)) (by first | assumption | exact ucells_gt Z _ (by omega) | (conv => lhs; simp only [List.getElem?_toArray, List.getElem?_cons_succ, List.getElem?_cons_zero]))) ?_
      refine D_g 8 rfl (fun W hW => r_mv) ?_
      refine D_g 9 rfl (fun W hW => r_mi rfl) ?_
      refine D_g 10 rfl (fun W hW => r_sub rfl rfl (by first | exact wr_i64 (by omega) | rfl)) ?_
      refine D_g 11 rfl (fun W hW => r_ix Try.underlying80 (show _ = some 1 from rfl) (by conv => lhs; whnf) rfl (by (first | exact hW.sl | exact hW))) ?_
      refine D_g 12 rfl (fun W hW => r_loadSl rfl rfl (by (first | exact hW.sl | exact hW)) (by first | assumption | exact ucells_gt Z _ (by omega) | (conv => lhs; simp only [List.getElem?_toArray, List.getElem?_cons_succ, List.getElem?_cons_zero]))) ?_
      refine D_ev 13 (by kernel_rfl) rfl ?_
      refine L_call (.yes 3 true rfl rfl) rfl rfl (r_call Try.func54 rfl rfl rfl (by rfl)) (less_walk (gt Z j) (gt Z ((j : Int) - 1).toNat) _) ?_
      rintro v29 w4 ⟨rfl, c4⟩
      have hz4 := c4.size
      rw [ej]
      refine L_nil ?_
      refine heldK Ow.au (fun hS => ?_)
      refine D_t 14 rfl (fun W hW => r_pt rfl rfl) ?_
      refine D_done (by kernel_rfl) ?_
      refine W_bool rfl (fun h30 => ?_) (fun h30 => ?_)
      · replace h30 := of_decide_eq_true h30
        refine W_skip ?_
        refine W_seq ?_
        refine W_block ?_
        refine W_draw (fun W => ∃ xs, Sl W v 1 Z.length xs) 17 (m := 18) (by kernel_rfl) rfl (fun w5 c5 hs5 => ?_)
        refine held (by exact ⟨_, Sl.au⟩) (fun hS => ?_)
        refine D_t 0 rfl (fun W hW => r_mv) ?_
        refine D_t 1 rfl (fun W hW => r_mi rfl) ?_
        refine D_t 2 rfl (fun W hW => r_mv) ?_
        refine D_t 3 rfl (fun W hW => r_mi rfl) ?_
        refine D_t 4 rfl (fun W hW => r_sub rfl rfl (by first | exact wr_i64 (by omega) | rfl)) ?_
        refine D_t 5 rfl (fun W hW => r_mv) ?_
        refine D_t 6 rfl (fun W hW => r_mi rfl) ?_
        refine D_t 7 rfl (fun W hW => r_sub rfl rfl (by first | exact wr_i64 (by omega) | rfl)) ?_
        refine D_t 8 rfl (fun W hW => r_ix Try.underlying80 (show _ = some 1 from rfl) (by conv => lhs; whnf) rfl (by exact hW.choose_spec)) ?_
        refine D_t 10 rfl (fun W hW => r_mv) ?_
        refine D_t 11 rfl (fun W hW => r_mi rfl) ?_
        refine D_t 12 rfl (fun W hW => r_ix Try.underlying80 (show _ = some 1 from rfl) (by conv => lhs; whnf) rfl (by exact hW.choose_spec)) ?_
        refine D_ev2 9 13 (by kernel_rfl) rfl rfl ?_ ?_
        · refine L_r (r_loadSl rfl rfl Sl.au (by first | assumption | exact ucells_gt Z _ (by omega) | (conv => lhs; simp only [List.getElem?_toArray, List.getElem?_cons_succ, List.getElem?_cons_zero]))) ?_
          refine L_nil ?_
          refine heldK (by exact ⟨_, Sl.au⟩) (fun hS => ?_)
          refine D_ev 13 (by kernel_rfl) rfl ?_
          refine L_r (r_loadSl rfl rfl Sl.au (by first | assumption | exact ucells_gt Z _ (by omega) | (conv => lhs; simp only [List.getElem?_toArray, List.getElem?_cons_succ, List.getElem?_cons_zero]))) ?_
          refine L_nil ?_
          refine heldK (by exact ⟨_, Sl.au⟩) (fun hS => ?_)
          refine D_t 14 rfl (fun W hW => r_ix Try.underlying80 (show _ = some 1 from rfl) (by conv => lhs; whnf) rfl (by exact hW.choose_spec)) ?_
          refine D_ev 15 (by kernel_rfl) rfl ?_
          refine L_setOw (.plain rfl) rfl rfl (u := .int _ _) rfl rfl Ow.au (by simp only [List.length_set, ucells_length]; omega) (fun w6 hb6 hs6 c6 => ?_)
          refine L_nil ?_
          refine heldK (by exact ⟨_, Sl.au⟩) (fun hS => ?_)
          refine D_t 16 rfl (fun W hW => r_ix Try.underlying80 (show _ = some 1 from rfl) (by conv => lhs; whnf) rfl (by exact hW.choose_spec)) ?_
          refine D_ev 17 (by kernel_rfl) rfl ?_
          refine L_setOw (.plain rfl) rfl rfl (u := .int _ _) rfl rfl Ow.au (by simp only [List.length_set, ucells_length]; omega) (fun w7 hb7 hs7 c7 => ?_)
          refine L_nil ?_
          refine heldL ?_
          refine D_done (by kernel_rfl) ?_
          refine W_region ?_
          refine L_r (r_mi rfl) ?_
          refine L_r (r_sub rfl rfl (by first | exact wr_i64 (by omega) | rfl)) ?_
          refine L_r (r_ai rfl) ?_
          refine L_nil ?_
          refine ⟨⟨rfl, rfl, rfl, rfl, trivial⟩, _, ?_, j - 1, swp Z j (j - 1), (by exact congrArg (Value.int .i64) (by omega)), ?_, rfl⟩
          · omega
          have hB : Ow w7 base 26 1 v Z.length (((ucells Z).set j (.int .u64 (gt Z ((j : Int) - 1).toNat : Int))).set ((j : Int) - 1).toNat (.int .u64 (gt Z j : Int))) := by assumption
          rw [ej, ucells_set, ucells_set] at hB
          refine ⟨by omega, by omega, ?_, Rg.swap Z j (j - 1) hRz (by omega) (by omega) (by omega) (by omega) hb, ins_step hI (by omega) hji (by omega) h30, Ch.au⟩
          show Ow _ _ _ _ _ (swp Z j (j - 1)).length _
          rw [swp_length]; exact hB
        · refine L_r (r_loadSl rfl rfl Sl.au (by first | assumption | exact ucells_gt Z _ (by omega) | (conv => lhs; simp only [List.getElem?_toArray, List.getElem?_cons_succ, List.getElem?_cons_zero]))) ?_
          refine L_nil ?_
          refine heldK (by exact ⟨_, Sl.au⟩) (fun hS => ?_)
          refine D_ev 9 (by kernel_rfl) rfl ?_
          refine L_r (r_loadSl rfl rfl Sl.au (by first | assumption | exact ucells_gt Z _ (by omega) | (conv => lhs; simp only [List.getElem?_toArray, List.getElem?_cons_succ, List.getElem?_cons_zero]))) ?_
          refine L_nil ?_
          refine heldK (by exact ⟨_, Sl.au⟩) (fun hS => ?_)
          refine D_t 14 rfl (fun W hW => r_ix Try.underlying80 (show _ = some 1 from rfl) (by conv => lhs; whnf) rfl (by exact hW.choose_spec)) ?_
          refine D_ev 15 (by kernel_rfl) rfl ?_
          refine L_setOw (.plain rfl) rfl rfl (u := .int _ _) rfl rfl Ow.au (by simp only [List.length_set, ucells_length]; omega) (fun w8 hb8 hs8 c8 => ?_)
          refine L_nil ?_
          refine heldK (by exact ⟨_, Sl.au⟩) (fun hS => ?_)
          refine D_t 16 rfl (fun W hW => r_ix Try.underlying80 (show _ = some 1 from rfl) (by conv => lhs; whnf) rfl (by exact hW.choose_spec)) ?_
          refine D_ev 17 (by kernel_rfl) rfl ?_
          refine L_setOw (.plain rfl) rfl rfl (u := .int _ _) rfl rfl Ow.au (by simp only [List.length_set, ucells_length]; omega) (fun w9 hb9 hs9 c9 => ?_)
          refine L_nil ?_
          refine heldL ?_
          refine D_done (by kernel_rfl) ?_
          refine W_region ?_
          refine L_r (r_mi rfl) ?_
          refine L_r (r_sub rfl rfl (by first | exact wr_i64 (by omega) | rfl)) ?_
          refine L_r (r_ai rfl) ?_
          refine L_nil ?_
          refine ⟨⟨rfl, rfl, rfl, rfl, trivial⟩, _, ?_, j - 1, swp Z j (j - 1), (by exact congrArg (Value.int .i64) (by omega)), ?_, rfl⟩
          · omega
          have hB : Ow w9 base 26 1 v Z.length (((ucells Z).set j (.int .u64 (gt Z ((j : Int) - 1).toNat : Int))).set ((j : Int) - 1).toNat (.int .u64 (gt Z j : Int))) := by assumption
          rw [ej, ucells_set, ucells_set] at hB
          refine ⟨by omega, by omega, ?_, Rg.swap Z j (j - 1) hRz (by omega) (by omega) (by omega) (by omega) hb, ins_step hI (by omega) hji (by omega) h30, Ch.au⟩
          show Ow _ _ _ _ _ (swp Z j (j - 1)).length _
          rw [swp_length]; exact hB
      · try (replace h30 := of_decide_eq_false h30)
        refine W_exit ?_
        repeat (first | refine blk_hit ?_ | refine blk_miss rfl ?_)
        refine W_region ?_
        refine L_r (r_mi rfl) ?_
        refine L_r (r_add rfl rfl (by first | exact wr_i64 (by omega) | rfl)) ?_
        refine L_r (r_ai rfl) ?_
        refine L_nil ?_
        refine ⟨⟨rfl, rfl, rfl, trivial⟩, _, ?_, i + 1, Z, rfl, ?_, rfl⟩
        · omega
        first
        | exact ⟨by omega, .inl (by omega), Ow.au, hRz, ins_done hI haj hji (.inl (by omega)), Ch.au⟩
        | exact ⟨by omega, .inl (by omega), Ow.au, hRz, ins_done hI haj hji (.inr (by omega)), Ch.au⟩
    · refine D_ps 4 rfl ?_
      refine D_ps 5 rfl ?_
      refine D_ps 6 rfl ?_
      refine D_ps 7 rfl ?_
      refine D_ps 8 rfl ?_
      refine D_ps 9 rfl ?_
      refine D_ps 10 rfl ?_
      refine D_ps 11 rfl ?_
      refine D_ps 12 rfl ?_
      refine D_ps 13 rfl ?_
      refine D_t 14 rfl (fun W hW => r_pf rfl rfl) ?_
      refine D_done (by kernel_rfl) ?_
      refine W_false rfl ?_
      refine W_exit ?_
      repeat (first | refine blk_hit ?_ | refine blk_miss rfl ?_)
      refine W_region ?_
      refine L_r (r_mi rfl) ?_
      refine L_r (r_add rfl rfl (by first | exact wr_i64 (by omega) | rfl)) ?_
      refine L_r (r_ai rfl) ?_
      refine L_nil ?_
      refine ⟨⟨rfl, rfl, rfl, trivial⟩, _, ?_, i + 1, Z, rfl, ?_, rfl⟩
      · omega
      first
      | exact ⟨by omega, .inl (by omega), Ow.au, hRz, ins_done hI haj hji (.inl (by omega)), Ch.au⟩
      | exact ⟨by omega, .inl (by omega), Ow.au, hRz, ins_done hI haj hji (.inr (by omega)), Ch.au⟩
  · refine W_exit ?_
    repeat (first | refine blk_hit ?_ | refine blk_miss rfl ?_)
    refine ret0 rfl  ?_
    refine ⟨rfl, ⟨Y, Ow.au, hR, ?_⟩, Ch.au⟩
    rcases hib with h | h
    · have e : i = b := by omega
      subst e; exact hS
    · intro p q h1 h2 h3
      omega
end Go.Proofs.Ytjjddbicggfgnaa

