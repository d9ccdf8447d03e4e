/- The library's sort of numbers, walked: what is equal is parted off. -/
import Derived.Test.YtjjddbicggfgnaaSort6
namespace Go.Proofs.Ytjjddbicggfgnaa
open Go Go.RowKit
set_option linter.unusedVariables false
set_option linter.unusedSimpArgs false
/-- Parted so far: below i they aren't greater than the first, behind j they are. -/
structure Pre (a b i j P : Nat) (X : List Nat) : Prop where
  piv : gt X a = P
  lo : ∀ k, a < k → k < i → gt X k ≤ P
  hi : ∀ k, j < k → k < b → P < gt X k
theorem Pre.swap {a b i j P : Nat} {X : List Nat} (h : Pre a b i j P X) (hi : a < i) (hij : i ≤ j) (hj : j < b) (hb : b ≤ X.length) (h1 : P < gt X i) (h2 : ¬ P < gt X j) : Pre a b (i + 1) (j - 1) P (swp X i j) ∧ i < j := by
  have hne : i ≠ j := by rintro rfl; omega
  have e : ∀ k, gt (swp X i j) k = if k = j then gt X i else if k = i then gt X j else gt X k := fun k => gt_swp _ _ _ _ (by omega) (by omega)
  refine ⟨⟨?_, ?_, ?_⟩, by omega⟩
  · rw [e, if_neg (by omega), if_neg (by omega)]; exact h.piv
  · intro k k1 k2
    rw [e, if_neg (by omega)]
    split
    · omega
    · exact h.lo k k1 (by omega)
  · intro k k1 k2
    rw [e]
    split
    · exact h1
    · rw [if_neg (by omega)]; exact h.hi k (by omega) k2
set_option maxHeartbeats 2000000 in
set_option maxRecDepth 100000 in
theorem parteq_walk (base : Nat) (v : Value) (X : List Nat) (a b p : Nat) (w0 : World) (hv : Dt base w0 v X) (hap : a ≤ p) (hpb : p < b) (hb : b ≤ X.length) (hl : X.length ≤ 60000) : Does Try.prog 55 #[v, .int .i64 a, .int .i64 b, .int .i64 p] w0 (fun r w' => ∃ m : Nat, r = .int .i64 (m : Int) ∧ a < m ∧ m ≤ b ∧ (∃ Y, Dt base w' v Y ∧ Rg a b X Y ∧ (∀ k, a ≤ k → k < m → gt Y k ≤ gt X p) ∧ (∀ k, m ≤ k → k < b → gt X p < gt Y k)) ∧ DtC v w0 w') := by
  refine fn_of (n := 84) (args := [v, .int .i64 a, .int .i64 b, .int .i64 p]) Try.func55 rfl rfl rfl ?_
  refine W_seq ?_
  refine W_region ?_
  refine L_r (r_ai rfl) ?_
  refine L_nil ?_
  refine W_seq ?_
  refine W_draw (fun W => ∃ xs, Sl W v 1 X.length xs) 15 (m := 16) (by kernel_rfl) rfl (fun w1 c1 hs1 => ?_)
  refine held (by exact ⟨_, Sl.au⟩) (fun hS => ?_)
  refine D_t 0 rfl (fun W hW => r_mv) ?_
  refine D_t 1 rfl (fun W hW => r_mi rfl) ?_
  refine D_t 2 rfl (fun W hW => r_mv) ?_
  refine D_t 3 rfl (fun W hW => r_mi rfl) ?_
  refine D_t 4 rfl (fun W hW => r_mv) ?_
  refine D_t 5 rfl (fun W hW => r_mi rfl) ?_
  refine D_t 6 rfl (fun W hW => r_ix Try.underlying80 (show _ = some 1 from rfl) (by conv => lhs; whnf) rfl (by exact hW.choose_spec)) ?_
  refine D_t 8 rfl (fun W hW => r_mv) ?_
  refine D_t 9 rfl (fun W hW => r_mi rfl) ?_
  refine D_t 10 rfl (fun W hW => r_ix Try.underlying80 (show _ = some 1 from rfl) (by conv => lhs; whnf) rfl (by exact hW.choose_spec)) ?_
  refine D_ev2 7 11 (by kernel_rfl) rfl rfl ?_ ?_
  · refine L_r (r_loadSl rfl rfl Sl.au (by first | assumption | exact ucells_gt _ _ (by omega) | (conv => lhs; simp only [List.getElem?_toArray, List.getElem?_cons_succ, List.getElem?_cons_zero]))) ?_
    refine L_nil ?_
    refine heldK (by exact ⟨_, Sl.au⟩) (fun hS => ?_)
    refine D_ev 11 (by kernel_rfl) rfl ?_
    refine L_r (r_loadSl rfl rfl Sl.au (by first | assumption | exact ucells_gt _ _ (by omega) | (conv => lhs; simp only [List.getElem?_toArray, List.getElem?_cons_succ, List.getElem?_cons_zero]))) ?_
    refine L_nil ?_
    refine heldK (by exact ⟨_, Sl.au⟩) (fun hS => ?_)
    refine D_t 12 rfl (fun W hW => r_ix Try.underlying80 (show _ = some 1 from rfl) (by conv => lhs; whnf) rfl (by exact hW.choose_spec)) ?_
    refine D_ev 13 (by kernel_rfl) rfl ?_
    refine L_setOw (.plain rfl) rfl rfl (u := .int _ _) rfl rfl Ow.au (by first | omega | (simp only [List.length_set, ucells_length]; omega) | (simp; done)) (fun w2 hb2 hs2 c2 => ?_)
    refine L_nil ?_
    refine heldK (by exact ⟨_, Sl.au⟩) (fun hS => ?_)
    refine D_t 14 rfl (fun W hW => r_ix Try.underlying80 (show _ = some 1 from rfl) (by conv => lhs; whnf) rfl (by exact hW.choose_spec)) ?_
    refine D_ev 15 (by kernel_rfl) rfl ?_
    refine L_setOw (.plain rfl) rfl rfl (u := .int _ _) rfl rfl Ow.au (by first | omega | (simp only [List.length_set, ucells_length]; omega) | (simp; done)) (fun w3 hb3 hs3 c3 => ?_)
    refine L_nil ?_
    refine heldL ?_
    refine D_done (by kernel_rfl) ?_
    refine W_seq ?_
    have hD1 := dt_swp (by assumption : Ow w3 base 26 1 v X.length (((ucells X).set a (.int .u64 (gt X p : Int))).set p (.int .u64 (gt X a : Int))))
    have hR1 : Rg a b X (swp X a p) := Rg.swap X a p Rg.refl (by omega) (by omega) (by omega) (by omega) hb
    have hpv : gt (swp X a p) a = gt X p := by
      rw [gt_swp _ _ _ _ (by omega) (by omega)]
      split
      · rename_i h; rw [← h]
      · rw [if_pos rfl]
    obtain ⟨Y, hY⟩ : ∃ x, x = swp X a p := ⟨_, rfl⟩
    rw [← hY] at hD1 hR1 hpv
    have hl1 := hR1.length
    obtain ⟨P, hP⟩ : ∃ x, x = gt X p := ⟨_, rfl⟩
    rw [← hP] at hpv
    refine W_region ?_
    refine L_r (r_mi rfl) ?_
    refine L_r (r_add rfl rfl (by first | exact wr_i64 (by omega) | rfl)) ?_
    refine L_r (r_mi rfl) ?_
    refine L_r (r_sub rfl rfl (by first | exact wr_i64 (by omega) | rfl)) ?_
    rw [show (b : Int) - 1 = ((b - 1 : Nat) : Int) by omega]
    refine L_r (r_ai rfl) ?_
    refine L_r (r_ai rfl) ?_
    refine L_nil ?_
    refine W_seq ?_
    refine W_block ?_
    refine W_loopF [0, 1] (fun mz_ f W => ∃ (i2 : Nat) (j2 : Nat) (Z : List Nat), f 9 = .int .i64 i2 ∧ f 10 = .int .i64 j2 ∧ (a < i2 ∧ i2 ≤ j2 + 1 ∧ j2 < b ∧ Pre a b i2 j2 P Z ∧ Dt base W v Z ∧ Rg a b X Z ∧ DtC v w0 W) ∧ mz_ = j2 + 2 - i2) ?_ ?_
    · refine ⟨_, a + 1, b - 1, Y, rfl, rfl, ?_, rfl⟩
      exact ⟨by omega, by omega, by omega, ⟨hpv, fun k k1 k2 => by omega, fun k k1 k2 => by omega⟩, Ow.au, hR1, Ch.au⟩
    rintro m0 g0 w4 ⟨i2, j2, Z, hf9, hf10, hR0, rfl⟩
    refine W_as 9 hf9 rfl ?_
    refine W_as 10 hf10 rfl ?_
    clear hf9 hf10
    obtain ⟨ha2, hij2, hjb2, hP2, hD2, hR2, hc⟩ := hR0
    have hz := hc.size
    have hl2 := hR2.length
    refine W_block ?_
    refine W_cutF [0, 1, 10] (fun f W => ∃ (i3 : Nat), f 9 = .int .i64 i3 ∧ ((a < i3 ∧ i2 ≤ i3) ∧ i3 ≤ j2 + 1 ∧ Pre a b i3 j2 P Z ∧ (i3 ≤ j2 → P < gt Z i3) ∧ Dt base W v Z ∧ DtC v w0 W)) ?_ ?_
    · refine W_block ?_
      refine W_loopF [0, 1, 10] (fun mz_ f W => ∃ (i3 : Nat), f 9 = .int .i64 i3 ∧ ((a < i3 ∧ i2 ≤ i3) ∧ i3 ≤ j2 + 1 ∧ Pre a b i3 j2 P Z ∧ Dt base W v Z ∧ DtC v w0 W) ∧ mz_ = j2 + 1 - i3) ?_ ?_
      · refine ⟨_, i2, rfl, ?_, rfl⟩
        exact ⟨by omega, by omega, hP2, Ow.au, Ch.au⟩
      rintro m1 g1 w5 ⟨i3, hf9, hR1, rfl⟩
      refine W_as 9 hf9 rfl ?_
      clear hf9
      obtain ⟨ha3, hi3, hP2, hD2, hc⟩ := hR1
      have hz := hc.size
      refine W_seq ?_
      refine W_seq ?_
      refine W_draw (fun W => Dt base W v Z) 15 (m := 15) (by kernel_rfl) rfl (fun w6 c6 hs6 => ?_)
      refine held Ow.au (fun hS => ?_)
      refine D_t 0 rfl (fun W hW => r_mi rfl) ?_
      refine D_t 1 rfl (fun W hW => r_mi rfl) ?_
      refine D_t 2 rfl (fun W hW => r_leq rfl rfl) ?_
      refine D_t 3 rfl (fun W hW => r_mb rfl) ?_
      refine D_case (d := 32) rfl (fun h32 => ?_) (fun h32 => ?_)
      · refine D_g 4 rfl (fun W hW => r_mv) ?_
        refine D_g 5 rfl (fun W hW => r_mi rfl) ?_
        refine D_g 6 rfl (fun W hW => r_ix Try.underlying80 (show _ = some 1 from rfl) (by conv => lhs; whnf) rfl (by (first | exact hW.sl | exact hW))) ?_
        refine D_g 7 rfl (fun W hW => r_loadSl rfl rfl (by (first | exact hW.sl | exact hW)) (by first | assumption | exact ucells_gt _ _ (by omega) | (conv => lhs; simp only [List.getElem?_toArray, List.getElem?_cons_succ, List.getElem?_cons_zero]))) ?_
        refine D_g 8 rfl (fun W hW => r_mv) ?_
        refine D_g 9 rfl (fun W hW => r_mi rfl) ?_
        refine D_g 10 rfl (fun W hW => r_ix Try.underlying80 (show _ = some 1 from rfl) (by conv => lhs; whnf) rfl (by (first | exact hW.sl | exact hW))) ?_
        refine D_g 11 rfl (fun W hW => r_loadSl rfl rfl (by (first | exact hW.sl | exact hW)) (by first | assumption | exact ucells_gt _ _ (by omega) | (conv => lhs; simp only [List.getElem?_toArray, List.getElem?_cons_succ, List.getElem?_cons_zero]))) ?_
        refine D_ev 12 (by kernel_rfl) rfl ?_
        refine L_call (.yes 3 true rfl rfl) rfl rfl (r_call Try.func54 rfl rfl rfl (by rfl)) (less_walk (gt Z a) (gt Z i3) _) ?_
        rintro v41 w7 ⟨rfl, c7⟩
        have hz7 := c7.size
        rw [hP2.piv]
        refine L_nil ?_
        refine heldK Ow.au (fun hS => ?_)
        refine D_g 13 rfl (fun W hW => r_not rfl) ?_
        refine D_t 14 rfl (fun W hW => r_pt rfl rfl) ?_
        refine D_done (by kernel_rfl) ?_
        refine W_bool rfl (fun h43 => ?_) (fun h43 => ?_)
        · replace h43 : ¬ P < gt Z i3 := by simpa using h43
          refine W_skip ?_
          refine W_block ?_
          refine W_region ?_
          refine L_r (r_mi rfl) ?_
          refine L_r (r_add rfl rfl (by first | exact wr_i64 (by omega) | rfl)) ?_
          refine L_r (r_ai rfl) ?_
          refine L_nil ?_
          refine ⟨⟨rfl, rfl, rfl, trivial⟩, _, ?_, i3 + 1, rfl, ?_, rfl⟩
          · omega
          exact ⟨by omega, by omega, ⟨hP2.piv, fun k k1 k2 => by rcases Nat.lt_or_ge k i3 with h | h; exact hP2.lo k k1 h; (have e : k = i3 := by omega); rw [e]; omega, hP2.hi⟩, Ow.au, Ch.au⟩
        · try (replace h43 : P < gt Z i3 := by simpa using h43)
          refine W_exit ?_
          repeat (first | refine blk_hit ?_ | refine blk_miss rfl ?_)
          refine ⟨⟨rfl, rfl, rfl, trivial⟩, i3, rfl, ?_⟩
          first
          | exact ⟨ha3, hi3, hP2, fun h => by omega, Ow.au, Ch.au⟩
          | exact ⟨ha3, hi3, hP2, fun h => h43, Ow.au, Ch.au⟩
      · refine D_ps 4 rfl ?_
        refine D_ps 5 rfl ?_
        refine D_ps 6 rfl ?_
        refine D_ps 7 rfl ?_
        refine D_ps 8 rfl ?_
        refine D_ps 9 rfl ?_
        refine D_ps 10 rfl ?_
        refine D_ps 11 rfl ?_
        refine D_ps 12 rfl ?_
        refine D_ps 13 rfl ?_
        refine D_t 14 rfl (fun W hW => r_pf rfl rfl) ?_
        refine D_done (by kernel_rfl) ?_
        refine W_false rfl ?_
        refine W_exit ?_
        repeat (first | refine blk_hit ?_ | refine blk_miss rfl ?_)
        refine ⟨⟨rfl, rfl, rfl, trivial⟩, i3, rfl, ?_⟩
        first
        | exact ⟨ha3, hi3, hP2, fun h => by omega, Ow.au, Ch.au⟩
        | exact ⟨ha3, hi3, hP2, fun h => h43, Ow.au, Ch.au⟩
    rintro gcb2 w8 ⟨i3, hf9, hCb2⟩
    refine W_as 9 hf9 rfl ?_
    clear hf9
    obtain ⟨ha3, hi3, hP2, hni3, hD2, hc⟩ := hCb2
    have hz := hc.size
    refine W_cutF [0, 1, 9] (fun f W => ∃ (j3 : Nat), f 10 = .int .i64 j3 ∧ (i3 ≤ j3 + 1 ∧ j3 ≤ j2 ∧ Pre a b i3 j3 P Z ∧ (i3 ≤ j3 → ¬ P < gt Z j3) ∧ Dt base W v Z ∧ DtC v w0 W)) ?_ ?_
    · refine W_block ?_
      refine W_loopF [0, 1, 9] (fun mz_ f W => ∃ (j3 : Nat), f 10 = .int .i64 j3 ∧ (i3 ≤ j3 + 1 ∧ j3 ≤ j2 ∧ Pre a b i3 j3 P Z ∧ Dt base W v Z ∧ DtC v w0 W) ∧ mz_ = j3 + 1) ?_ ?_
      · refine ⟨_, j2, rfl, ?_, rfl⟩
        exact ⟨by omega, by omega, hP2, Ow.au, Ch.au⟩
      rintro m2 g2 w9 ⟨j3, hf10, hR2, rfl⟩
      refine W_as 10 hf10 rfl ?_
      clear hf10
      obtain ⟨hij3, hjb3, hPj, hD2, hc⟩ := hR2
      have hz := hc.size
      refine W_seq ?_
      refine W_seq ?_
      refine W_draw (fun W => Dt base W v Z) 14 (m := 14) (by kernel_rfl) rfl (fun w10 c10 hs10 => ?_)
      refine held Ow.au (fun hS => ?_)
      refine D_t 0 rfl (fun W hW => r_mi rfl) ?_
      refine D_t 1 rfl (fun W hW => r_mi rfl) ?_
      refine D_t 2 rfl (fun W hW => r_leq rfl rfl) ?_
      refine D_t 3 rfl (fun W hW => r_mb rfl) ?_
      refine D_case (d := 49) rfl (fun h49 => ?_) (fun h49 => ?_)
      · refine D_g 4 rfl (fun W hW => r_mv) ?_
        refine D_g 5 rfl (fun W hW => r_mi rfl) ?_
        refine D_g 6 rfl (fun W hW => r_ix Try.underlying80 (show _ = some 1 from rfl) (by conv => lhs; whnf) rfl (by (first | exact hW.sl | exact hW))) ?_
        refine D_g 7 rfl (fun W hW => r_loadSl rfl rfl (by (first | exact hW.sl | exact hW)) (by first | assumption | exact ucells_gt _ _ (by omega) | (conv => lhs; simp only [List.getElem?_toArray, List.getElem?_cons_succ, List.getElem?_cons_zero]))) ?_
        refine D_g 8 rfl (fun W hW => r_mv) ?_
        refine D_g 9 rfl (fun W hW => r_mi rfl) ?_
        refine D_g 10 rfl (fun W hW => r_ix Try.underlying80 (show _ = some 1 from rfl) (by conv => lhs; whnf) rfl (by (first | exact hW.sl | exact hW))) ?_
        refine D_g 11 rfl (fun W hW => r_loadSl rfl rfl (by (first | exact hW.sl | exact hW)) (by first | assumption | exact ucells_gt _ _ (by omega) | (conv => lhs; simp only [List.getElem?_toArray, List.getElem?_cons_succ, List.getElem?_cons_zero]))) ?_
        refine D_ev 12 (by kernel_rfl) rfl ?_
        refine L_call (.yes 3 true rfl rfl) rfl rfl (r_call Try.func54 rfl rfl rfl (by rfl)) (less_walk (gt Z a) (gt Z j3) _) ?_
        rintro v58 w11 ⟨rfl, c11⟩
        have hz11 := c11.size
        rw [hPj.piv]
        refine L_nil ?_
        refine heldK Ow.au (fun hS => ?_)
        refine D_t 13 rfl (fun W hW => r_pt rfl rfl) ?_
        refine D_done (by kernel_rfl) ?_
        refine W_bool rfl (fun h59 => ?_) (fun h59 => ?_)
        · replace h59 := of_decide_eq_true h59
          refine W_skip ?_
          refine W_block ?_
          refine W_region ?_
          refine L_r (r_mi rfl) ?_
          refine L_r (r_sub rfl rfl (by first | exact wr_i64 (by omega) | rfl)) ?_
          refine L_r (r_ai rfl) ?_
          refine L_nil ?_
          refine ⟨⟨rfl, rfl, rfl, trivial⟩, _, ?_, j3 - 1, (by exact congrArg (Value.int .i64) (by omega)), ?_, rfl⟩
          · omega
          exact ⟨by omega, by omega, ⟨hPj.piv, hPj.lo, fun k k1 k2 => by rcases Nat.lt_or_ge j3 k with h | h; exact hPj.hi k h k2; (have e : k = j3 := by omega); rw [e]; omega⟩, Ow.au, Ch.au⟩
        · try (replace h59 := of_decide_eq_false h59)
          refine W_exit ?_
          repeat (first | refine blk_hit ?_ | refine blk_miss rfl ?_)
          refine ⟨⟨rfl, rfl, rfl, trivial⟩, j3, rfl, ?_⟩
          first
          | exact ⟨hij3, hjb3, hPj, fun h => by omega, Ow.au, Ch.au⟩
          | exact ⟨hij3, hjb3, hPj, fun h => h59, Ow.au, Ch.au⟩
      · refine D_ps 4 rfl ?_
        refine D_ps 5 rfl ?_
        refine D_ps 6 rfl ?_
        refine D_ps 7 rfl ?_
        refine D_ps 8 rfl ?_
        refine D_ps 9 rfl ?_
        refine D_ps 10 rfl ?_
        refine D_ps 11 rfl ?_
        refine D_ps 12 rfl ?_
        refine D_t 13 rfl (fun W hW => r_pf rfl rfl) ?_
        refine D_done (by kernel_rfl) ?_
        refine W_false rfl ?_
        refine W_exit ?_
        repeat (first | refine blk_hit ?_ | refine blk_miss rfl ?_)
        refine ⟨⟨rfl, rfl, rfl, trivial⟩, j3, rfl, ?_⟩
        first
        | exact ⟨hij3, hjb3, hPj, fun h => by omega, Ow.au, Ch.au⟩
        | exact ⟨hij3, hjb3, hPj, fun h => h59, Ow.au, Ch.au⟩
    rintro gcb4 w12 ⟨j3, hf10, hCb4⟩
    refine W_as 10 hf10 rfl ?_
    clear hf10
    obtain ⟨hij3, hjb3, hPj, hnj3, hD2, hc⟩ := hCb4
    have hz := hc.size
    refine W_seq ?_
    refine W_seq ?_
    refine W_region ?_
    refine L_r (r_mi rfl) ?_
    refine L_r (r_mi rfl) ?_
    refine L_r (r_gtr rfl rfl) ?_
    refine L_nil ?_
    refine W_if rfl (fun h64 => ?_) (fun h64 => ?_)
    · refine W_exit ?_
      repeat (first | refine blk_hit ?_ | refine blk_miss rfl ?_)
      refine W_seq ?_
      refine W_region ?_
      refine L_r (r_mi rfl) ?_
      refine L_r (r_ai rfl) ?_
      refine L_nil ?_
      refine W_ret ?_
      refine ret1 (v := .int _ _) rfl rfl ?_
      refine ⟨i3, rfl, by omega, by omega, ⟨Z, Ow.au, hR2, ?_, ?_⟩, Ch.au⟩
      · intro k k1 k2
        rw [← hP]
        rcases Nat.eq_or_lt_of_le k1 with h | h
        · rw [← h, hPj.piv]; omega
        · exact hPj.lo k h k2
      · intro k k1 k2
        rw [← hP]
        exact hPj.hi k (by omega) k2
    · refine W_skip ?_
      refine W_seq ?_
      refine W_draw (fun W => ∃ xs, Sl W v 1 Z.length xs) 15 (m := 16) (by kernel_rfl) rfl (fun w13 c13 hs13 => ?_)
      refine held (by exact ⟨_, Sl.au⟩) (fun hS => ?_)
      refine D_t 0 rfl (fun W hW => r_mv) ?_
      refine D_t 1 rfl (fun W hW => r_mi rfl) ?_
      refine D_t 2 rfl (fun W hW => r_mv) ?_
      refine D_t 3 rfl (fun W hW => r_mi rfl) ?_
      refine D_t 4 rfl (fun W hW => r_mv) ?_
      refine D_t 5 rfl (fun W hW => r_mi rfl) ?_
      refine D_t 6 rfl (fun W hW => r_ix Try.underlying80 (show _ = some 1 from rfl) (by conv => lhs; whnf) rfl (by exact hW.choose_spec)) ?_
      refine D_t 8 rfl (fun W hW => r_mv) ?_
      refine D_t 9 rfl (fun W hW => r_mi rfl) ?_
      refine D_t 10 rfl (fun W hW => r_ix Try.underlying80 (show _ = some 1 from rfl) (by conv => lhs; whnf) rfl (by exact hW.choose_spec)) ?_
      refine D_ev2 7 11 (by kernel_rfl) rfl rfl ?_ ?_
      · refine L_r (r_loadSl rfl rfl Sl.au (by first | assumption | exact ucells_gt _ _ (by omega) | (conv => lhs; simp only [List.getElem?_toArray, List.getElem?_cons_succ, List.getElem?_cons_zero]))) ?_
        refine L_nil ?_
        refine heldK (by exact ⟨_, Sl.au⟩) (fun hS => ?_)
        refine D_ev 11 (by kernel_rfl) rfl ?_
        refine L_r (r_loadSl rfl rfl Sl.au (by first | assumption | exact ucells_gt _ _ (by omega) | (conv => lhs; simp only [List.getElem?_toArray, List.getElem?_cons_succ, List.getElem?_cons_zero]))) ?_
        refine L_nil ?_
        refine heldK (by exact ⟨_, Sl.au⟩) (fun hS => ?_)
        refine D_t 12 rfl (fun W hW => r_ix Try.underlying80 (show _ = some 1 from rfl) (by conv => lhs; whnf) rfl (by exact hW.choose_spec)) ?_
        refine D_ev 13 (by kernel_rfl) rfl ?_
        refine L_setOw (.plain rfl) rfl rfl (u := .int _ _) rfl rfl Ow.au (by first | omega | (simp only [List.length_set, ucells_length]; omega) | (simp; done)) (fun w14 hb14 hs14 c14 => ?_)
        refine L_nil ?_
        refine heldK (by exact ⟨_, Sl.au⟩) (fun hS => ?_)
        refine D_t 14 rfl (fun W hW => r_ix Try.underlying80 (show _ = some 1 from rfl) (by conv => lhs; whnf) rfl (by exact hW.choose_spec)) ?_
        refine D_ev 15 (by kernel_rfl) rfl ?_
        refine L_setOw (.plain rfl) rfl rfl (u := .int _ _) rfl rfl Ow.au (by first | omega | (simp only [List.length_set, ucells_length]; omega) | (simp; done)) (fun w15 hb15 hs15 c15 => ?_)
        refine L_nil ?_
        refine heldL ?_
        refine D_done (by kernel_rfl) ?_
        refine W_seq ?_
        have hD3 := dt_swp (by assumption : Ow w15 base 26 1 v Z.length (((ucells Z).set i3 (.int .u64 (gt Z j3 : Int))).set j3 (.int .u64 (gt Z i3 : Int))))
        obtain ⟨hP3, hlt3⟩ := hPj.swap ha3.1 (by omega) (by omega) (by omega) (hni3 (by omega)) (hnj3 (by omega))
        have hR3 : Rg a b X (swp Z i3 j3) := hR2.trans (Rg.swap Z i3 j3 Rg.refl (by omega) (by omega) (by omega) (by omega) (by omega))
        obtain ⟨Z1, hZ1⟩ : ∃ x, x = swp Z i3 j3 := ⟨_, rfl⟩
        rw [← hZ1] at hD3 hP3 hR3
        refine W_region ?_
        refine L_r (r_mi rfl) ?_
        refine L_r (r_add rfl rfl (by first | exact wr_i64 (by omega) | rfl)) ?_
        refine L_r (r_ai rfl) ?_
        refine L_nil ?_
        refine W_region ?_
        refine L_r (r_mi rfl) ?_
        refine L_r (r_sub rfl rfl (by first | exact wr_i64 (by omega) | rfl)) ?_
        refine L_r (r_ai rfl) ?_
        refine L_nil ?_
        refine ⟨⟨rfl, rfl, trivial⟩, _, ?_, i3 + 1, j3 - 1, Z1, rfl, (by exact congrArg (Value.int .i64) (by omega)), ?_, rfl⟩
        · omega
        exact ⟨by omega, by omega, by omega, hP3, Ow.au, hR3, Ch.au⟩
      · refine L_r (r_loadSl rfl rfl Sl.au (by first | assumption | exact ucells_gt _ _ (by omega) | (conv => lhs; simp only [List.getElem?_toArray, List.getElem?_cons_succ, List.getElem?_cons_zero]))) ?_
        refine L_nil ?_
        refine heldK (by exact ⟨_, Sl.au⟩) (fun hS => ?_)
        refine D_ev 7 (by kernel_rfl) rfl ?_
        refine L_r (r_loadSl rfl rfl Sl.au (by first | assumption | exact ucells_gt _ _ (by omega) | (conv => lhs; simp only [List.getElem?_toArray, List.getElem?_cons_succ, List.getElem?_cons_zero]))) ?_
        refine L_nil ?_
        refine heldK (by exact ⟨_, Sl.au⟩) (fun hS => ?_)
        refine D_t 12 rfl (fun W hW => r_ix Try.underlying80 (show _ = some 1 from rfl) (by conv => lhs; whnf) rfl (by exact hW.choose_spec)) ?_
        refine D_ev 13 (by kernel_rfl) rfl ?_
        refine L_setOw (.plain rfl) rfl rfl (u := .int _ _) rfl rfl Ow.au (by first | omega | (simp only [List.length_set, ucells_length]; omega) | (simp; done)) (fun w16 hb16 hs16 c16 => ?_)
        refine L_nil ?_
        refine heldK (by exact ⟨_, Sl.au⟩) (fun hS => ?_)
        refine D_t 14 rfl (fun W hW => r_ix Try.underlying80 (show _ = some 1 from rfl) (by conv => lhs; whnf) rfl (by exact hW.choose_spec)) ?_
        refine D_ev 15 (by kernel_rfl) rfl ?_
        refine L_setOw (.plain rfl) rfl rfl (u := .int _ _) rfl rfl Ow.au (by first | omega | (simp only [List.length_set, ucells_length]; omega) | (simp; done)) (fun w17 hb17 hs17 c17 => ?_)
        refine L_nil ?_
        refine heldL ?_
        refine D_done (by kernel_rfl) ?_
        refine W_seq ?_
        have hD3 := dt_swp (by assumption : Ow w17 base 26 1 v Z.length (((ucells Z).set i3 (.int .u64 (gt Z j3 : Int))).set j3 (.int .u64 (gt Z i3 : Int))))
        obtain ⟨hP3, hlt3⟩ := hPj.swap ha3.1 (by omega) (by omega) (by omega) (hni3 (by omega)) (hnj3 (by omega))
        have hR3 : Rg a b X (swp Z i3 j3) := hR2.trans (Rg.swap Z i3 j3 Rg.refl (by omega) (by omega) (by omega) (by omega) (by omega))
        obtain ⟨Z1, hZ1⟩ : ∃ x, x = swp Z i3 j3 := ⟨_, rfl⟩
        rw [← hZ1] at hD3 hP3 hR3
        refine W_region ?_
        refine L_r (r_mi rfl) ?_
        refine L_r (r_add rfl rfl (by first | exact wr_i64 (by omega) | rfl)) ?_
        refine L_r (r_ai rfl) ?_
        refine L_nil ?_
        refine W_region ?_
        refine L_r (r_mi rfl) ?_
        refine L_r (r_sub rfl rfl (by first | exact wr_i64 (by omega) | rfl)) ?_
        refine L_r (r_ai rfl) ?_
        refine L_nil ?_
        refine ⟨⟨rfl, rfl, trivial⟩, _, ?_, i3 + 1, j3 - 1, Z1, rfl, (by exact congrArg (Value.int .i64) (by omega)), ?_, rfl⟩
        · omega
        exact ⟨by omega, by omega, by omega, hP3, Ow.au, hR3, Ch.au⟩
  · refine L_r (r_loadSl rfl rfl Sl.au (by first | assumption | exact ucells_gt _ _ (by omega) | (conv => lhs; simp only [List.getElem?_toArray, List.getElem?_cons_succ, List.getElem?_cons_zero]))) ?_
    refine L_nil ?_
    refine heldK (by exact ⟨_, Sl.au⟩) (fun hS => ?_)
    refine D_ev 7 (by kernel_rfl) rfl ?_
    refine L_r (r_loadSl rfl rfl Sl.au (by first | assumption | exact ucells_gt _ _ (by omega) | (conv => lhs; simp only [List.getElem?_toArray, List.getElem?_cons_succ, List.getElem?_cons_zero]))) ?_
    refine L_nil ?_
    refine heldK (by exact ⟨_, Sl.au⟩) (fun hS => ?_)
    refine D_t 12 rfl (fun W hW => r_ix Try.underlying80 (show _ = some 1 from rfl) (by conv => lhs; whnf) rfl (by exact hW.choose_spec)) ?_
    refine D_ev 13 (by kernel_rfl) rfl ?_
    refine L_setOw (.plain rfl) rfl rfl (u := .int _ _) rfl rfl Ow.au (by first | omega | (simp only [List.length_set, ucells_length]; omega) | (simp; done)) (fun w18 hb18 hs18 c18 => ?_)
    refine L_nil ?_
    refine heldK (by exact ⟨_, Sl.au⟩) (fun hS => ?_)
    refine D_t 14 rfl (fun W hW => r_ix Try.underlying80 (show _ = some 1 from rfl) (by conv => lhs; whnf) rfl (by exact hW.choose_spec)) ?_
    refine D_ev 15 (by kernel_rfl) rfl ?_
    refine L_setOw (.plain rfl) rfl rfl (u := .int _ _) rfl rfl Ow.au (by first | omega | (simp only [List.length_set, ucells_length]; omega) | (simp; done)) (fun w19 hb19 hs19 c19 => ?_)
    refine L_nil ?_
    refine heldL ?_
    refine D_done (by kernel_rfl) ?_
    refine W_seq ?_
    have hD1 := dt_swp (by assumption : Ow w19 base 26 1 v X.length (((ucells X).set a (.int .u64 (gt X p : Int))).set p (.int .u64 (gt X a : Int))))
    have hR1 : Rg a b X (swp X a p) := Rg.swap X a p Rg.refl (by omega) (by omega) (by omega) (by omega) hb
    have hpv : gt (swp X a p) a = gt X p := by
      rw [gt_swp _ _ _ _ (by omega) (by omega)]
      split
      · rename_i h; rw [← h]
      · rw [if_pos rfl]
    obtain ⟨Y, hY⟩ : ∃ x, x = swp X a p := ⟨_, rfl⟩
    rw [← hY] at hD1 hR1 hpv
    have hl1 := hR1.length
    obtain ⟨P, hP⟩ : ∃ x, x = gt X p := ⟨_, rfl⟩
    rw [← hP] at hpv
    refine W_region ?_
    refine L_r (r_mi rfl) ?_
    refine L_r (r_add rfl rfl (by first | exact wr_i64 (by omega) | rfl)) ?_
    refine L_r (r_mi rfl) ?_
    refine L_r (r_sub rfl rfl (by first | exact wr_i64 (by omega) | rfl)) ?_
    rw [show (b : Int) - 1 = ((b - 1 : Nat) : Int) by omega]
    refine L_r (r_ai rfl) ?_
    refine L_r (r_ai rfl) ?_
    refine L_nil ?_
    refine W_seq ?_
    refine W_block ?_
    refine W_loopF [0, 1] (fun mz_ f W => ∃ (i2 : Nat) (j2 : Nat) (Z : List Nat), f 9 = .int .i64 i2 ∧ f 10 = .int .i64 j2 ∧ (a < i2 ∧ i2 ≤ j2 + 1 ∧ j2 < b ∧ Pre a b i2 j2 P Z ∧ Dt base W v Z ∧ Rg a b X Z ∧ DtC v w0 W) ∧ mz_ = j2 + 2 - i2) ?_ ?_
    · refine ⟨_, a + 1, b - 1, Y, rfl, rfl, ?_, rfl⟩
      exact ⟨by omega, by omega, by omega, ⟨hpv, fun k k1 k2 => by omega, fun k k1 k2 => by omega⟩, Ow.au, hR1, Ch.au⟩
    rintro m0 g0 w20 ⟨i2, j2, Z, hf9, hf10, hR0, rfl⟩
    refine W_as 9 hf9 rfl ?_
    refine W_as 10 hf10 rfl ?_
    clear hf9 hf10
    obtain ⟨ha2, hij2, hjb2, hP2, hD2, hR2, hc⟩ := hR0
    have hz := hc.size
    have hl2 := hR2.length
    refine W_block ?_
    refine W_cutF [0, 1, 10] (fun f W => ∃ (i3 : Nat), f 9 = .int .i64 i3 ∧ ((a < i3 ∧ i2 ≤ i3) ∧ i3 ≤ j2 + 1 ∧ Pre a b i3 j2 P Z ∧ (i3 ≤ j2 → P < gt Z i3) ∧ Dt base W v Z ∧ DtC v w0 W)) ?_ ?_
    · refine W_block ?_
      refine W_loopF [0, 1, 10] (fun mz_ f W => ∃ (i3 : Nat), f 9 = .int .i64 i3 ∧ ((a < i3 ∧ i2 ≤ i3) ∧ i3 ≤ j2 + 1 ∧ Pre a b i3 j2 P Z ∧ Dt base W v Z ∧ DtC v w0 W) ∧ mz_ = j2 + 1 - i3) ?_ ?_
      · refine ⟨_, i2, rfl, ?_, rfl⟩
        exact ⟨by omega, by omega, hP2, Ow.au, Ch.au⟩
      rintro m1 g1 w21 ⟨i3, hf9, hR1, rfl⟩
      refine W_as 9 hf9 rfl ?_
      clear hf9
      obtain ⟨ha3, hi3, hP2, hD2, hc⟩ := hR1
      have hz := hc.size
      refine W_seq ?_
      refine W_seq ?_
      refine W_draw (fun W => Dt base W v Z) 15 (m := 15) (by kernel_rfl) rfl (fun w22 c22 hs22 => ?_)
      refine held Ow.au (fun hS => ?_)
      refine D_t 0 rfl (fun W hW => r_mi rfl) ?_
      refine D_t 1 rfl (fun W hW => r_mi rfl) ?_
      refine D_t 2 rfl (fun W hW => r_leq rfl rfl) ?_
      refine D_t 3 rfl (fun W hW => r_mb rfl) ?_
      refine D_case (d := 32) rfl (fun h32 => ?_) (fun h32 => ?_)
      · refine D_g 4 rfl (fun W hW => r_mv) ?_
        refine D_g 5 rfl (fun W hW => r_mi rfl) ?_
        refine D_g 6 rfl (fun W hW => r_ix Try.underlying80 (show _ = some 1 from rfl) (by conv => lhs; whnf) rfl (by (first | exact hW.sl | exact hW))) ?_
        refine D_g 7 rfl (fun W hW => r_loadSl rfl rfl (by (first | exact hW.sl | exact hW)) (by first | assumption | exact ucells_gt _ _ (by omega) | (conv => lhs; simp only [List.getElem?_toArray, List.getElem?_cons_succ, List.getElem?_cons_zero]))) ?_
        refine D_g 8 rfl (fun W hW => r_mv) ?_
        refine D_g 9 rfl (fun W hW => r_mi rfl) ?_
        refine D_g 10 rfl (fun W hW => r_ix Try.underlying80 (show _ = some 1 from rfl) (by conv => lhs; whnf) rfl (by (first | exact hW.sl | exact hW))) ?_
        refine D_g 11 rfl (fun W hW => r_loadSl rfl rfl (by (first | exact hW.sl | exact hW)) (by first | assumption | exact ucells_gt _ _ (by omega) | (conv => lhs; simp only [List.getElem?_toArray, List.getElem?_cons_succ, List.getElem?_cons_zero]))) ?_
        refine D_ev 12 (by kernel_rfl) rfl ?_
        refine L_call (.yes 3 true rfl rfl) rfl rfl (r_call Try.func54 rfl rfl rfl (by rfl)) (less_walk (gt Z a) (gt Z i3) _) ?_
        rintro v41 w23 ⟨rfl, c23⟩
        have hz23 := c23.size
        rw [hP2.piv]
        refine L_nil ?_
        refine heldK Ow.au (fun hS => ?_)
        refine D_g 13 rfl (fun W hW => r_not rfl) ?_
        refine D_t 14 rfl (fun W hW => r_pt rfl rfl) ?_
        refine D_done (by kernel_rfl) ?_
        refine W_bool rfl (fun h43 => ?_) (fun h43 => ?_)
        · replace h43 : ¬ P < gt Z i3 := by simpa using h43
          refine W_skip ?_
          refine W_block ?_
          refine W_region ?_
          refine L_r (r_mi rfl) ?_
          refine L_r (r_add rfl rfl (by first | exact wr_i64 (by omega) | rfl)) ?_
          refine L_r (r_ai rfl) ?_
          refine L_nil ?_
          refine ⟨⟨rfl, rfl, rfl, trivial⟩, _, ?_, i3 + 1, rfl, ?_, rfl⟩
          · omega
          exact ⟨by omega, by omega, ⟨hP2.piv, fun k k1 k2 => by rcases Nat.lt_or_ge k i3 with h | h; exact hP2.lo k k1 h; (have e : k = i3 := by omega); rw [e]; omega, hP2.hi⟩, Ow.au, Ch.au⟩
        · try (replace h43 : P < gt Z i3 := by simpa using h43)
          refine W_exit ?_
          repeat (first | refine blk_hit ?_ | refine blk_miss rfl ?_)
          refine ⟨⟨rfl, rfl, rfl, trivial⟩, i3, rfl, ?_⟩
          first
          | exact ⟨ha3, hi3, hP2, fun h => by omega, Ow.au, Ch.au⟩
          | exact ⟨ha3, hi3, hP2, fun h => h43, Ow.au, Ch.au⟩
      · refine D_ps 4 rfl ?_
        refine D_ps 5 rfl ?_
        refine D_ps 6 rfl ?_
        refine D_ps 7 rfl ?_
        refine D_ps 8 rfl ?_
        refine D_ps 9 rfl ?_
        refine D_ps 10 rfl ?_
        refine D_ps 11 rfl ?_
        refine D_ps 12 rfl ?_
        refine D_ps 13 rfl ?_
        refine D_t 14 rfl (fun W hW => r_pf rfl rfl) ?_
        refine D_done (by kernel_rfl) ?_
        refine W_false rfl ?_
        refine W_exit ?_
        repeat (first | refine blk_hit ?_ | refine blk_miss rfl ?_)
        refine ⟨⟨rfl, rfl, rfl, trivial⟩, i3, rfl, ?_⟩
        first
        | exact ⟨ha3, hi3, hP2, fun h => by omega, Ow.au, Ch.au⟩
        | exact ⟨ha3, hi3, hP2, fun h => h43, Ow.au, Ch.au⟩
    rintro gcb2 w24 ⟨i3, hf9, hCb2⟩
    refine W_as 9 hf9 rfl ?_
    clear hf9
    obtain ⟨ha3, hi3, hP2, hni3, hD2, hc⟩ := hCb2
    have hz := hc.size
    refine W_cutF [0, 1, 9] (fun f W => ∃ (j3 : Nat), f 10 = .int .i64 j3 ∧ (i3 ≤ j3 + 1 ∧ j3 ≤ j2 ∧ Pre a b i3 j3 P Z ∧ (i3 ≤ j3 → ¬ P < gt Z j3) ∧ Dt base W v Z ∧ DtC v w0 W)) ?_ ?_
    · refine W_block ?_
      refine W_loopF [0, 1, 9] (fun mz_ f W => ∃ (j3 : Nat), f 10 = .int .i64 j3 ∧ (i3 ≤ j3 + 1 ∧ j3 ≤ j2 ∧ Pre a b i3 j3 P Z ∧ Dt base W v Z ∧ DtC v w0 W) ∧ mz_ = j3 + 1) ?_ ?_
      · refine ⟨_, j2, rfl, ?_, rfl⟩
        exact ⟨by omega, by omega, hP2, Ow.au, Ch.au⟩
      rintro m2 g2 w25 ⟨j3, hf10, hR2, rfl⟩
      refine W_as 10 hf10 rfl ?_
      clear hf10
      obtain ⟨hij3, hjb3, hPj, hD2, hc⟩ := hR2
      have hz := hc.size
      refine W_seq ?_
      refine W_seq ?_
      refine W_draw (fun W => Dt base W v Z) 14 (m := 14) (by kernel_rfl) rfl (fun w26 c26 hs26 => ?_)
      refine held Ow.au (fun hS => ?_)
      refine D_t 0 rfl (fun W hW => r_mi rfl) ?_
      refine D_t 1 rfl (fun W hW => r_mi rfl) ?_
      refine D_t 2 rfl (fun W hW => r_leq rfl rfl) ?_
      refine D_t 3 rfl (fun W hW => r_mb rfl) ?_
      refine D_case (d := 49) rfl (fun h49 => ?_) (fun h49 => ?_)
      · refine D_g 4 rfl (fun W hW => r_mv) ?_
        refine D_g 5 rfl (fun W hW => r_mi rfl) ?_
        refine D_g 6 rfl (fun W hW => r_ix Try.underlying80 (show _ = some 1 from rfl) (by conv => lhs; whnf) rfl (by (first | exact hW.sl | exact hW))) ?_
        refine D_g 7 rfl (fun W hW => r_loadSl rfl rfl (by (first | exact hW.sl | exact hW)) (by first | assumption | exact ucells_gt _ _ (by omega) | (conv => lhs; simp only [List.getElem?_toArray, List.getElem?_cons_succ, List.getElem?_cons_zero]))) ?_
        refine D_g 8 rfl (fun W hW => r_mv) ?_
        refine D_g 9 rfl (fun W hW => r_mi rfl) ?_
        refine D_g 10 rfl (fun W hW => r_ix Try.underlying80 (show _ = some 1 from rfl) (by conv => lhs; whnf) rfl (by (first | exact hW.sl | exact hW))) ?_
        refine D_g 11 rfl (fun W hW => r_loadSl rfl rfl (by (first | exact hW.sl | exact hW)) (by first | assumption | exact ucells_gt _ _ (by omega) | (conv => lhs; simp only [List.getElem?_toArray, List.getElem?_cons_succ, List.getElem?_cons_zero]))) ?_
        refine D_ev 12 (by kernel_rfl) rfl ?_
        refine L_call (.yes 3 true rfl rfl) rfl rfl (r_call Try.func54 rfl rfl rfl (by rfl)) (less_walk (gt Z a) (gt Z j3) _) ?_
        rintro v58 w27 ⟨rfl, c27⟩
        have hz27 := c27.size
        rw [hPj.piv]
        refine L_nil ?_
        refine heldK Ow.au (fun hS => ?_)
        refine D_t 13 rfl (fun W hW => r_pt rfl rfl) ?_
        refine D_done (by kernel_rfl) ?_
        refine W_bool rfl (fun h59 => ?_) (fun h59 => ?_)
        · replace h59 := of_decide_eq_true h59
          refine W_skip ?_
          refine W_block ?_
          refine W_region ?_
          refine L_r (r_mi rfl) ?_
          refine L_r (r_sub rfl rfl (by first | exact wr_i64 (by omega) | rfl)) ?_
          refine L_r (r_ai rfl) ?_
          refine L_nil ?_
          refine ⟨⟨rfl, rfl, rfl, trivial⟩, _, ?_, j3 - 1, (by exact congrArg (Value.int .i64) (by omega)), ?_, rfl⟩
          · omega
          exact ⟨by omega, by omega, ⟨hPj.piv, hPj.lo, fun k k1 k2 => by rcases Nat.lt_or_ge j3 k with h | h; exact hPj.hi k h k2; (have e : k = j3 := by omega); rw [e]; omega⟩, Ow.au, Ch.au⟩
        · try (replace h59 := of_decide_eq_false h59)
          refine W_exit ?_
          repeat (first | refine blk_hit ?_ | refine blk_miss rfl ?_)
          refine ⟨⟨rfl, rfl, rfl, trivial⟩, j3, rfl, ?_⟩
          first
          | exact ⟨hij3, hjb3, hPj, fun h => by omega, Ow.au, Ch.au⟩
          | exact ⟨hij3, hjb3, hPj, fun h => h59, Ow.au, Ch.au⟩
      · refine D_ps 4 rfl ?_
        refine D_ps 5 rfl ?_
        refine D_ps 6 rfl ?_
        refine D_ps 7 rfl ?_
        refine D_ps 8 rfl ?_
        refine D_ps 9 rfl ?_
        refine D_ps 10 rfl ?_
        refine D_ps 11 rfl ?_
        refine D_ps 12 rfl ?_
        refine D_t 13 rfl (fun W hW => r_pf rfl rfl) ?_
        refine D_done (by kernel_rfl) ?_
        refine W_false rfl ?_
        refine W_exit ?_
        repeat (first | refine blk_hit ?_ | refine blk_miss rfl ?_)
        refine ⟨⟨rfl, rfl, rfl, trivial⟩, j3, rfl, ?_⟩
        first
        | exact ⟨hij3, hjb3, hPj, fun h => by omega, Ow.au, Ch.au⟩
        | exact ⟨hij3, hjb3, hPj, fun h => h59, Ow.au, Ch.au⟩
    rintro gcb4 w28 ⟨j3, hf10, hCb4⟩
    refine W_as 10 hf10 rfl ?_
    clear hf10
    obtain ⟨hij3, hjb3, hPj, hnj3, hD2, hc⟩ := hCb4
    have hz := hc.size
    refine W_seq ?_
    refine W_seq ?_
    refine W_region ?_
    refine L_r (r_mi rfl) ?_
    refine L_r (r_mi rfl) ?_
    refine L_r (r_gtr rfl rfl) ?_
    refine L_nil ?_
    refine W_if rfl (fun h64 => ?_) (fun h64 => ?_)
    · refine W_exit ?_
      repeat (first | refine blk_hit ?_ | refine blk_miss rfl ?_)
      refine W_seq ?_
      refine W_region ?_
      refine L_r (r_mi rfl) ?_
      refine L_r (r_ai rfl) ?_
      refine L_nil ?_
      refine W_ret ?_
      refine ret1 (v := .int _ _) rfl rfl ?_
      refine ⟨i3, rfl, by omega, by omega, ⟨Z, Ow.au, hR2, ?_, ?_⟩, Ch.au⟩
      · intro k k1 k2
        rw [← hP]
        rcases Nat.eq_or_lt_of_le k1 with h | h
        · rw [← h, hPj.piv]; omega
        · exact hPj.lo k h k2
      · intro k k1 k2
        rw [← hP]
        exact hPj.hi k (by omega) k2
    · refine W_skip ?_
      refine W_seq ?_
      refine W_draw (fun W => ∃ xs, Sl W v 1 Z.length xs) 15 (m := 16) (by kernel_rfl) rfl (fun w29 c29 hs29 => ?_)
      refine held (by exact ⟨_, Sl.au⟩) (fun hS => ?_)
      refine D_t 0 rfl (fun W hW => r_mv) ?_
      refine D_t 1 rfl (fun W hW => r_mi rfl) ?_
      refine D_t 2 rfl (fun W hW => r_mv) ?_
      refine D_t 3 rfl (fun W hW => r_mi rfl) ?_
      refine D_t 4 rfl (fun W hW => r_mv) ?_
      refine D_t 5 rfl (fun W hW => r_mi rfl) ?_
      refine D_t 6 rfl (fun W hW => r_ix Try.underlying80 (show _ = some 1 from rfl) (by conv => lhs; whnf) rfl (by exact hW.choose_spec)) ?_
      refine D_t 8 rfl (fun W hW => r_mv) ?_
      refine D_t 9 rfl (fun W hW => r_mi rfl) ?_
      refine D_t 10 rfl (fun W hW => r_ix Try.underlying80 (show _ = some 1 from rfl) (by conv => lhs; whnf) rfl (by exact hW.choose_spec)) ?_
      refine D_ev2 7 11 (by kernel_rfl) rfl rfl ?_ ?_
      · refine L_r (r_loadSl rfl rfl Sl.au (by first | assumption | exact ucells_gt _ _ (by omega) | (conv => lhs; simp only [List.getElem?_toArray, List.getElem?_cons_succ, List.getElem?_cons_zero]))) ?_
        refine L_nil ?_
        refine heldK (by exact ⟨_, Sl.au⟩) (fun hS => ?_)
        refine D_ev 11 (by kernel_rfl) rfl ?_
        refine L_r (r_loadSl rfl rfl Sl.au (by first | assumption | exact ucells_gt _ _ (by omega) | (conv => lhs; simp only [List.getElem?_toArray, List.getElem?_cons_succ, List.getElem?_cons_zero]))) ?_
        refine L_nil ?_
        refine heldK (by exact ⟨_, Sl.au⟩) (fun hS => ?_)
        refine D_t 12 rfl (fun W hW => r_ix Try.underlying80 (show _ = some 1 from rfl) (by conv => lhs; whnf) rfl (by exact hW.choose_spec)) ?_
        refine D_ev 13 (by kernel_rfl) rfl ?_
        refine L_setOw (.plain rfl) rfl rfl (u := .int _ _) rfl rfl Ow.au (by first | omega | (simp only [List.length_set, ucells_length]; omega) | (simp; done)) (fun w30 hb30 hs30 c30 => ?_)
        refine L_nil ?_
        refine heldK (by exact ⟨_, Sl.au⟩) (fun hS => ?_)
        refine D_t 14 rfl (fun W hW => r_ix Try.underlying80 (show _ = some 1 from rfl) (by conv => lhs; whnf) rfl (by exact hW.choose_spec)) ?_
        refine D_ev 15 (by kernel_rfl) rfl ?_
        refine L_setOw (.plain rfl) rfl rfl (u := .int _ _) rfl rfl Ow.au (by first | omega | (simp only [List.length_set, ucells_length]; omega) | (simp; done)) (fun w31 hb31 hs31 c31 => ?_)
        refine L_nil ?_
        refine heldL ?_
        refine D_done (by kernel_rfl) ?_
        refine W_seq ?_
        have hD3 := dt_swp (by assumption : Ow w31 base 26 1 v Z.length (((ucells Z).set i3 (.int .u64 (gt Z j3 : Int))).set j3 (.int .u64 (gt Z i3 : Int))))
        obtain ⟨hP3, hlt3⟩ := hPj.swap ha3.1 (by omega) (by omega) (by omega) (hni3 (by omega)) (hnj3 (by omega))
        have hR3 : Rg a b X (swp Z i3 j3) := hR2.trans (Rg.swap Z i3 j3 Rg.refl (by omega) (by omega) (by omega) (by omega) (by omega))
        obtain ⟨Z1, hZ1⟩ : ∃ x, x = swp Z i3 j3 := ⟨_, rfl⟩
        rw [← hZ1] at hD3 hP3 hR3
        refine W_region ?_
        refine L_r (r_mi rfl) ?_
        refine L_r (r_add rfl rfl (by first | exact wr_i64 (by omega) | rfl)) ?_
        refine L_r (r_ai rfl) ?_
        refine L_nil ?_
        refine W_region ?_
        refine L_r (r_mi rfl) ?_
        refine L_r (r_sub rfl rfl (by first | exact wr_i64 (by omega) | rfl)) ?_
        refine L_r (r_ai rfl) ?_
        refine L_nil ?_
        refine ⟨⟨rfl, rfl, trivial⟩, _, ?_, i3 + 1, j3 - 1, Z1, rfl, (by exact congrArg (Value.int .i64) (by omega)), ?_, rfl⟩
        · omega
        exact ⟨by omega, by omega, by omega, hP3, Ow.au, hR3, Ch.au⟩
      · refine L_r (r_loadSl rfl rfl Sl.au (by first | assumption | exact ucells_gt _ _ (by omega) | (conv => lhs; simp only [List.getElem?_toArray, List.getElem?_cons_succ, List.getElem?_cons_zero]))) ?_
        refine L_nil ?_
        refine heldK (by exact ⟨_, Sl.au⟩) (fun hS => ?_)
        refine D_ev 7 (by kernel_rfl) rfl ?_
        refine L_r (r_loadSl rfl rfl Sl.au (by first | assumption | exact ucells_gt _ _ (by omega) | (conv => lhs; simp only [List.getElem?_toArray, List.getElem?_cons_succ, List.getElem?_cons_zero]))) ?_
        refine L_nil ?_
        refine heldK (by exact ⟨_, Sl.au⟩) (fun hS => ?_)
        refine D_t 12 rfl (fun W hW => r_ix Try.underlying80 (show _ = some 1 from rfl) (by conv => lhs; whnf) rfl (by exact hW.choose_spec)) ?_
        refine D_ev 13 (by kernel_rfl) rfl ?_
        refine L_setOw (.plain rfl) rfl rfl (u := .int _ _) rfl rfl Ow.au (by first | omega | (simp only [List.length_set, ucells_length]; omega) | (simp; done)) (fun w32 hb32 hs32 c32 => ?_)
        refine L_nil ?_
        refine heldK (by exact ⟨_, Sl.au⟩) (fun hS => ?_)
        refine D_t 14 rfl (fun W hW => r_ix Try.underlying80 (show _ = some 1 from rfl) (by conv => lhs; whnf) rfl (by exact hW.choose_spec)) ?_
        refine D_ev 15 (by kernel_rfl) rfl ?_
        refine L_setOw (.plain rfl) rfl rfl (u := .int _ _) rfl rfl Ow.au (by first | omega | (simp only [List.length_set, ucells_length]; omega) | (simp; done)) (fun w33 hb33 hs33 c33 => ?_)
        refine L_nil ?_
        refine heldL ?_
        refine D_done (by kernel_rfl) ?_
        refine W_seq ?_
        have hD3 := dt_swp (by assumption : Ow w33 base 26 1 v Z.length (((ucells Z).set i3 (.int .u64 (gt Z j3 : Int))).set j3 (.int .u64 (gt Z i3 : Int))))
        obtain ⟨hP3, hlt3⟩ := hPj.swap ha3.1 (by omega) (by omega) (by omega) (hni3 (by omega)) (hnj3 (by omega))
        have hR3 : Rg a b X (swp Z i3 j3) := hR2.trans (Rg.swap Z i3 j3 Rg.refl (by omega) (by omega) (by omega) (by omega) (by omega))
        obtain ⟨Z1, hZ1⟩ : ∃ x, x = swp Z i3 j3 := ⟨_, rfl⟩
        rw [← hZ1] at hD3 hP3 hR3
        refine W_region ?_
        refine L_r (r_mi rfl) ?_
        refine L_r (r_add rfl rfl (by first | exact wr_i64 (by omega) | rfl)) ?_
        refine L_r (r_ai rfl) ?_
        refine L_nil ?_
        refine W_region ?_
        refine L_r (r_mi rfl) ?_
        refine L_r (r_sub rfl rfl (by first | exact wr_i64 (by omega) | rfl)) ?_
        refine L_r (r_ai rfl) ?_
        refine L_nil ?_
        refine ⟨⟨rfl, rfl, trivial⟩, _, ?_, i3 + 1, j3 - 1, Z1, rfl, (by exact congrArg (Value.int .i64) (by omega)), ?_, rfl⟩
        · omega
        exact ⟨by omega, by omega, by omega, hP3, Ow.au, hR3, Ch.au⟩
end Go.Proofs.Ytjjddbicggfgnaa

