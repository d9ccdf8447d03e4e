/- The library's sort of numbers, walked: by a heap. -/
import Derived.Test.YtjjddbicggfgnaaSort8
namespace Go.Proofs.Ytjjddbicggfgnaa
open Go Go.RowKit
set_option linter.unusedVariables false
set_option linter.unusedSimpArgs false
/-- A heap of k, and behind it what is greater, sorted. -/
structure Hs' (o k n : Nat) (X : List Nat) : Prop where
  heap : Hp o 0 k X
  srt : Srt (o + k) (o + n) X
  le : ∀ p r, p < k → k ≤ r → r < n → gt X (o + p) ≤ gt X (o + r)
theorem Hs'.pop {o k n : Nat} {X : List Nat} (h : Hs' o (k + 1) n X) (hk : k < n) (hl : o + n ≤ X.length) : Hp o 1 k (swp X o (o + k)) ∧ Srt (o + k) (o + n) (swp X o (o + k)) ∧ (∀ p r, p < k → k ≤ r → r < n → gt (swp X o (o + k)) (o + p) ≤ gt (swp X o (o + k)) (o + r)) := by
  have e : ∀ j, gt (swp X o (o + k)) j = if j = o + k then gt X o else if j = o then gt X (o + k) else gt X j := fun j => gt_swp _ _ _ _ (by omega) (by omega)
  have top : ∀ p, p < k + 1 → gt X (o + p) ≤ gt X o := fun p hp => h.heap.top p p (Nat.le_refl _) hp
  refine ⟨?_, ?_, ?_⟩
  · intro r c h1 h2 h3
    rw [e, e, if_neg (by omega), if_neg (by rcases h2 with h2 | h2 <;> omega), if_neg (by rcases h2 with h2 | h2 <;> omega), if_neg (by omega)]
    exact h.heap r c (by omega) h2 (by omega)
  · intro i j h1 h2 h3
    rw [e, e, if_neg (show ¬ j = o + k by omega), if_neg (show ¬ j = o by omega)]
    split
    · have := h.le 0 (j - o) (by omega) (by omega) (by omega)
      rw [Nat.add_zero, show o + (j - o) = j by omega] at this
      exact this
    · rw [if_neg (by omega)]
      exact h.srt i j (by omega) h2 h3
  · intro p r h1 h2 h3
    have hp : gt (swp X o (o + k)) (o + p) ≤ gt X o := by
      rw [e, if_neg (by omega)]
      split
      · exact top k (by omega)
      · exact top p (by omega)
    refine Nat.le_trans hp ?_
    rw [e]
    split
    · exact Nat.le_refl _
    · rw [if_neg (by omega)]
      have := h.le 0 r (by omega) (by omega) h3
      rw [Nat.add_zero] at this
      exact this
theorem pop_sift {o k n : Nat} {X Y : List Nat} (hk : k ≤ n) (h : Hp o 1 k X ∧ Srt (o + k) (o + n) X ∧ (∀ p r, p < k → k ≤ r → r < n → gt X (o + p) ≤ gt X (o + r))) (hR : Rg o (o + k) X Y) (hH : Hp o 0 k Y) : Hs' o k n Y := by
  obtain ⟨_, h2, h3⟩ := h
  refine ⟨hH, ?_, ?_⟩
  · intro i j h4 h5 h6
    rw [hR.out i (by omega), hR.out j (by omega)]
    exact h2 i j h4 h5 h6
  · intro p r h4 h5 h6
    rw [hR.out (o + r) (by omega)]
    refine hR.all (fun x => x ≤ gt X (o + r)) (fun q h7 h8 => ?_) (o + p) (by omega) (by omega)
    have := h3 (q - o) r (by omega) h5 h6
    rw [show o + (q - o) = q by omega] at this
    exact this
theorem hs_start {o k n : Nat} {X : List Nat} (h : Hp o k n X) (hk : k = 0) : Hs' o n n X := by
  subst hk
  exact ⟨h, fun i j h1 h2 h3 => by omega, fun p r h1 h2 h3 => by omega⟩
set_option maxHeartbeats 2000000 in
set_option maxRecDepth 100000 in
theorem heap_walk (base : Nat) (v : Value) (X : List Nat) (a n : Nat) (w0 : World) (hv : Dt base w0 v X) (hab : 0 < n) (hb : a + n ≤ X.length) (hl : X.length ≤ 60000) : Does Try.prog 49 #[v, .int .i64 a, .int .i64 ((a + n : Nat) : Int)] w0 (fun r w' => r = .tuple #[] ∧ (∃ Y, Dt base w' v Y ∧ Rg a (a + n) X Y ∧ Srt a (a + n) Y) ∧ DtC v w0 w') := by
  refine fn_of (n := 56) (args := [v, .int .i64 a, .int .i64 ((a + n : Nat) : Int)]) Try.func49 rfl rfl rfl ?_
  refine W_seq ?_
  refine W_region ?_
  refine L_r (r_mi rfl) ?_
  refine L_r (r_ai rfl) ?_
  refine L_nil ?_
  refine W_seq ?_
  refine W_region ?_
  refine L_r (r_ai rfl) ?_
  refine L_nil ?_
  refine W_seq ?_
  refine W_region ?_
  refine L_r (r_mi rfl) ?_
  refine L_r (r_mi rfl) ?_
  refine L_r (r_sub rfl rfl (by first | exact wr_i64 (by omega) | rfl)) ?_
  rw [show ((a + n : Nat) : Int) - (a : Int) = (n : Int) by omega]
  refine L_r (r_ai rfl) ?_
  refine L_nil ?_
  refine W_seq ?_
  refine W_seq ?_
  refine W_region ?_
  refine L_r (r_mi rfl) ?_
  refine L_r (r_sub rfl rfl (by first | exact wr_i64 (by omega) | rfl)) ?_
  refine L_r (r_quon rfl rfl (by omega) (by omega) (by first | exact wr_i64 (by omega) | rfl)) ?_
  refine L_r (r_ai rfl) ?_
  refine L_nil ?_
  refine W_block ?_
  refine W_loopF [0, 6, 7, 8] (fun mz_ f W => ∃ (k : Nat) (Z : List Nat), f 9 = .int .i64 ((k : Int) - 1) ∧ (k ≤ n ∧ Hp a k n Z ∧ Dt base W v Z ∧ Rg a (a + n) X Z ∧ DtC v w0 W) ∧ mz_ = k + 1) ?_ ?_
  · refine ⟨_, (n - 1) / 2 + 1, X, (by exact congrArg (Value.int .i64) (by omega)), ?_, rfl⟩
    exact ⟨by omega, fun r c h1 h2 h3 => by exfalso; rcases h2 with h | h <;> omega, Ow.au, Rg.refl, Ch.au⟩
  rintro m0 g0 w1 ⟨k, Z, hf9, hR0, rfl⟩
  refine W_as 9 hf9 rfl ?_
  clear hf9
  obtain ⟨hk, hH, hD, hR, hc⟩ := hR0
  have hz := hc.size
  have hlz := hR.length
  refine W_seq ?_
  refine W_seq ?_
  refine W_region ?_
  refine L_r (r_mi rfl) ?_
  refine L_r (r_geq rfl rfl) ?_
  refine L_nil ?_
  refine W_if rfl (fun h19 => ?_) (fun h19 => ?_)
  · have hk1 : 1 ≤ k := by omega
    have hH' : Hp a (k - 1 + 1) n Z := by rw [Nat.sub_add_cancel hk1]; exact hH
    refine W_skip ?_
    refine W_seq ?_
    refine W_block ?_
    refine W_region ?_
    refine L_r (r_mv) ?_
    refine L_r (r_mi rfl) ?_
    rw [show (k : Int) - 1 = ((k - 1 : Nat) : Int) by omega]
    refine L_r (r_mi rfl) ?_
    refine L_r (r_mi rfl) ?_
    refine L_call (.plain rfl) rfl rfl (r_call Try.func59 rfl rfl rfl (by rfl)) (sift_walk base v Z (k - 1) n a _ Ow.au (by omega) (by omega) (by omega) hH') ?_
    rintro v26 w2 ⟨rfl, ⟨Z1, hD1, hR1, hH1⟩, c2⟩
    have hz2 := c2.size
    refine L_nil ?_
    refine W_region ?_
    refine L_r (r_mi rfl) ?_
    refine L_r (r_sub rfl rfl (by first | exact wr_i64 (by omega) | rfl)) ?_
    refine L_r (r_ai rfl) ?_
    refine L_nil ?_
    refine ⟨⟨rfl, rfl, rfl, rfl, trivial⟩, _, ?_, k - 1, Z1, (by exact congrArg (Value.int .i64) (by omega)), ?_, rfl⟩
    · omega
    exact ⟨by omega, hH1, Ow.au, hR.trans hR1, Ch.au⟩
  · refine W_exit ?_
    repeat (first | refine blk_hit ?_ | refine blk_miss rfl ?_)
    refine W_seq ?_
    refine W_region ?_
    refine L_r (r_mi rfl) ?_
    refine L_r (r_sub rfl rfl (by first | exact wr_i64 (by omega) | rfl)) ?_
    refine L_r (r_ai rfl) ?_
    refine L_nil ?_
    refine W_block ?_
    refine W_loopF [0, 6, 7] (fun mz_ f W => ∃ (m : Nat) (Z : List Nat), f 10 = .int .i64 ((m : Int) - 1) ∧ (m ≤ n ∧ Hs' a m n Z ∧ Dt base W v Z ∧ Rg a (a + n) X Z ∧ DtC v w0 W) ∧ mz_ = m + 1) ?_ ?_
    · refine ⟨_, n, Z, rfl, ?_, rfl⟩
      exact ⟨by omega, hs_start hH (by omega), Ow.au, hR, Ch.au⟩
    rintro m1 g1 w3 ⟨m, Z, hf10, hR1, rfl⟩
    refine W_as 10 hf10 rfl ?_
    clear hf10
    obtain ⟨hm, hS1, hD, hR, hc⟩ := hR1
    have hz := hc.size
    have hlz := hR.length
    refine W_seq ?_
    refine W_seq ?_
    refine W_region ?_
    refine L_r (r_mi rfl) ?_
    refine L_r (r_geq rfl rfl) ?_
    refine L_nil ?_
    refine W_if rfl (fun h30 => ?_) (fun h30 => ?_)
    · have hm1 : 1 ≤ m := by omega
      have em : ((a : Int) + ((m : Int) - 1)).toNat = a + (m - 1) := by omega
      refine W_skip ?_
      refine W_seq ?_
      refine W_block ?_
      refine W_seq ?_
      refine W_draw (fun W => ∃ xs, Sl W v 1 Z.length xs) 19 (m := 20) (by kernel_rfl) rfl (fun w4 c4 hs4 => ?_)
      refine held (by exact ⟨_, Sl.au⟩) (fun hS => ?_)
      refine D_t 0 rfl (fun W hW => r_mv) ?_
      refine D_t 1 rfl (fun W hW => r_mi rfl) ?_
      refine D_t 2 rfl (fun W hW => r_mv) ?_
      refine D_t 3 rfl (fun W hW => r_mi rfl) ?_
      refine D_t 4 rfl (fun W hW => r_mi rfl) ?_
      refine D_t 5 rfl (fun W hW => r_add rfl rfl (by first | exact wr_i64 (by omega) | rfl)) ?_
      refine D_t 6 rfl (fun W hW => r_mv) ?_
      refine D_t 7 rfl (fun W hW => r_mi rfl) ?_
      refine D_t 8 rfl (fun W hW => r_mi rfl) ?_
      refine D_t 9 rfl (fun W hW => r_add rfl rfl (by first | exact wr_i64 (by omega) | rfl)) ?_
      refine D_t 10 rfl (fun W hW => r_ix Try.underlying80 (show _ = some 1 from rfl) (by conv => lhs; whnf) rfl (by exact hW.choose_spec)) ?_
      refine D_t 12 rfl (fun W hW => r_mv) ?_
      refine D_t 13 rfl (fun W hW => r_mi rfl) ?_
      refine D_t 14 rfl (fun W hW => r_ix Try.underlying80 (show _ = some 1 from rfl) (by conv => lhs; whnf) rfl (by exact hW.choose_spec)) ?_
      refine D_ev2 11 15 (by kernel_rfl) rfl rfl ?_ ?_
      · refine L_r (r_loadSl rfl rfl Sl.au (by first | assumption | exact ucells_gt _ _ (by omega) | (conv => lhs; simp only [List.getElem?_toArray, List.getElem?_cons_succ, List.getElem?_cons_zero]))) ?_
        refine L_nil ?_
        refine heldK (by exact ⟨_, Sl.au⟩) (fun hS => ?_)
        refine D_ev 15 (by kernel_rfl) rfl ?_
        refine L_r (r_loadSl rfl rfl Sl.au (by first | assumption | exact ucells_gt _ _ (by omega) | (conv => lhs; simp only [List.getElem?_toArray, List.getElem?_cons_succ, List.getElem?_cons_zero]))) ?_
        refine L_nil ?_
        refine heldK (by exact ⟨_, Sl.au⟩) (fun hS => ?_)
        refine D_t 16 rfl (fun W hW => r_ix Try.underlying80 (show _ = some 1 from rfl) (by conv => lhs; whnf) rfl (by exact hW.choose_spec)) ?_
        refine D_ev 17 (by kernel_rfl) rfl ?_
        refine L_setOw (.plain rfl) rfl rfl (u := .int _ _) rfl rfl Ow.au (by first | omega | (simp only [List.length_set, ucells_length]; omega) | (simp; done)) (fun w5 hb5 hs5 c5 => ?_)
        refine L_nil ?_
        refine heldK (by exact ⟨_, Sl.au⟩) (fun hS => ?_)
        refine D_t 18 rfl (fun W hW => r_ix Try.underlying80 (show _ = some 1 from rfl) (by conv => lhs; whnf) rfl (by exact hW.choose_spec)) ?_
        refine D_ev 19 (by kernel_rfl) rfl ?_
        refine L_setOw (.plain rfl) rfl rfl (u := .int _ _) rfl rfl Ow.au (by first | omega | (simp only [List.length_set, ucells_length]; omega) | (simp; done)) (fun w6 hb6 hs6 c6 => ?_)
        refine L_nil ?_
        refine heldL ?_
        refine D_done (by kernel_rfl) ?_
        have hB : Ow w6 base 26 1 v Z.length (((ucells Z).set a (.int .u64 (gt Z ((a : Int) + ((m : Int) - 1)).toNat : Int))).set ((a : Int) + ((m : Int) - 1)).toNat (.int .u64 (gt Z a : Int))) := by assumption
        rw [em] at hB
        have hD2 := dt_swp hB
        have hpop := Hs'.pop (k := m - 1) (by rw [Nat.sub_add_cancel hm1]; exact hS1) (by omega) (by omega)
        have hRs : Rg a (a + n) X (swp Z a (a + (m - 1))) := Rg.swap Z a (a + (m - 1)) hR (by omega) (by omega) (by omega) (by omega) hb
        refine W_region ?_
        refine L_r (r_mv) ?_
        refine L_r (r_mi rfl) ?_
        refine L_r (r_mi rfl) ?_
        rw [show (m : Int) - 1 = ((m - 1 : Nat) : Int) by omega]
        refine L_r (r_mi rfl) ?_
        refine L_call (.plain rfl) rfl rfl (r_call Try.func59 rfl rfl rfl (by rfl)) (sift_walk base v (swp Z a (a + (m - 1))) 0 (m - 1) a _ Ow.au (by omega) (by rw [swp_length]; omega) (by rw [swp_length]; omega) hpop.1) ?_
        rintro v55 w7 ⟨rfl, ⟨Z3, hD3, hR3, hH3⟩, c7⟩
        have hz7 := c7.size
        refine L_nil ?_
        refine W_region ?_
        refine L_r (r_mi rfl) ?_
        refine L_r (r_sub rfl rfl (by first | exact wr_i64 (by omega) | rfl)) ?_
        refine L_r (r_ai rfl) ?_
        refine L_nil ?_
        refine ⟨⟨rfl, rfl, rfl, trivial⟩, _, ?_, m - 1, Z3, (by exact congrArg (Value.int .i64) (by omega)), ?_, rfl⟩
        · omega
        exact ⟨by omega, pop_sift (by omega) hpop hR3 hH3, Ow.au, hRs.trans (hR3.mono (Nat.le_refl _) (by omega) (by rw [swp_length]; omega)), Ch.au⟩
      · refine L_r (r_loadSl rfl rfl Sl.au (by first | assumption | exact ucells_gt _ _ (by omega) | (conv => lhs; simp only [List.getElem?_toArray, List.getElem?_cons_succ, List.getElem?_cons_zero]))) ?_
        refine L_nil ?_
        refine heldK (by exact ⟨_, Sl.au⟩) (fun hS => ?_)
        refine D_ev 11 (by kernel_rfl) rfl ?_
        refine L_r (r_loadSl rfl rfl Sl.au (by first | assumption | exact ucells_gt _ _ (by omega) | (conv => lhs; simp only [List.getElem?_toArray, List.getElem?_cons_succ, List.getElem?_cons_zero]))) ?_
        refine L_nil ?_
        refine heldK (by exact ⟨_, Sl.au⟩) (fun hS => ?_)
        refine D_t 16 rfl (fun W hW => r_ix Try.underlying80 (show _ = some 1 from rfl) (by conv => lhs; whnf) rfl (by exact hW.choose_spec)) ?_
        refine D_ev 17 (by kernel_rfl) rfl ?_
        refine L_setOw (.plain rfl) rfl rfl (u := .int _ _) rfl rfl Ow.au (by first | omega | (simp only [List.length_set, ucells_length]; omega) | (simp; done)) (fun w8 hb8 hs8 c8 => ?_)
        refine L_nil ?_
        refine heldK (by exact ⟨_, Sl.au⟩) (fun hS => ?_)
        refine D_t 18 rfl (fun W hW => r_ix Try.underlying80 (show _ = some 1 from rfl) (by conv => lhs; whnf) rfl (by exact hW.choose_spec)) ?_
        refine D_ev 19 (by kernel_rfl) rfl ?_
        refine L_setOw (.plain rfl) rfl rfl (u := .int _ _) rfl rfl Ow.au (by first | omega | (simp only [List.length_set, ucells_length]; omega) | (simp; done)) (fun w9 hb9 hs9 c9 => ?_)
        refine L_nil ?_
        refine heldL ?_
        refine D_done (by kernel_rfl) ?_
        have hB : Ow w9 base 26 1 v Z.length (((ucells Z).set a (.int .u64 (gt Z ((a : Int) + ((m : Int) - 1)).toNat : Int))).set ((a : Int) + ((m : Int) - 1)).toNat (.int .u64 (gt Z a : Int))) := by assumption
        rw [em] at hB
        have hD2 := dt_swp hB
        have hpop := Hs'.pop (k := m - 1) (by rw [Nat.sub_add_cancel hm1]; exact hS1) (by omega) (by omega)
        have hRs : Rg a (a + n) X (swp Z a (a + (m - 1))) := Rg.swap Z a (a + (m - 1)) hR (by omega) (by omega) (by omega) (by omega) hb
        refine W_region ?_
        refine L_r (r_mv) ?_
        refine L_r (r_mi rfl) ?_
        refine L_r (r_mi rfl) ?_
        rw [show (m : Int) - 1 = ((m - 1 : Nat) : Int) by omega]
        refine L_r (r_mi rfl) ?_
        refine L_call (.plain rfl) rfl rfl (r_call Try.func59 rfl rfl rfl (by rfl)) (sift_walk base v (swp Z a (a + (m - 1))) 0 (m - 1) a _ Ow.au (by omega) (by rw [swp_length]; omega) (by rw [swp_length]; omega) hpop.1) ?_
        rintro v55 w10 ⟨rfl, ⟨Z3, hD3, hR3, hH3⟩, c10⟩
        have hz10 := c10.size
        refine L_nil ?_
        refine W_region ?_
        refine L_r (r_mi rfl) ?_
        refine L_r (r_sub rfl rfl (by first | exact wr_i64 (by omega) | rfl)) ?_
        refine L_r (r_ai rfl) ?_
        refine L_nil ?_
        refine ⟨⟨rfl, rfl, rfl, trivial⟩, _, ?_, m - 1, Z3, (by exact congrArg (Value.int .i64) (by omega)), ?_, rfl⟩
        · omega
        exact ⟨by omega, pop_sift (by omega) hpop hR3 hH3, Ow.au, hRs.trans (hR3.mono (Nat.le_refl _) (by omega) (by rw [swp_length]; omega)), Ch.au⟩
    · refine W_exit ?_
      repeat (first | refine blk_hit ?_ | refine blk_miss rfl ?_)
      refine ret0 rfl  ?_
      refine ⟨rfl, ⟨Z, Ow.au, hR, ?_⟩, Ch.au⟩
      have e : m = 0 := by omega
      have h := hS1.srt
      rw [e, Nat.add_zero] at h
      exact h
end Go.Proofs.Ytjjddbicggfgnaa

