/- The library's sort of numbers, walked: heaps. -/
import Derived.Test.YtjjddbicggfgnaaSort7
namespace Go.Proofs.Ytjjddbicggfgnaa
open Go Go.RowKit
set_option linter.unusedVariables false
set_option linter.unusedSimpArgs false
abbrev Kid (r c : Nat) : Prop := c = 2 * r + 1 ∨ c = 2 * r + 2
/-- A heap, from node lo on, below hi; the nodes stand from f on. -/
def Hp (f lo hi : Nat) (X : List Nat) : Prop := ∀ r c, lo ≤ r → Kid r c → c < hi → gt X (f + c) ≤ gt X (f + r)
/-- A heap but for one node. -/
structure Hpx (f lo hi q : Nat) (X : List Nat) : Prop where
  one : ∀ r c, lo ≤ r → r ≠ q → Kid r c → c < hi → gt X (f + c) ≤ gt X (f + r)
  two : ∀ p c, lo ≤ p → Kid p q → Kid q c → c < hi → gt X (f + c) ≤ gt X (f + p)
theorem Hp.start {f lo hi : Nat} {X : List Nat} (h : Hp f (lo + 1) hi X) : Hpx f lo hi lo X :=
  ⟨fun r c h1 h2 h3 h4 => h r c (by omega) h3 h4, fun p c h1 h2 h3 h4 => by rcases h2 with h2 | h2 <;> omega⟩
theorem Hpx.done {f lo hi q : Nat} {X : List Nat} (h : Hpx f lo hi q X) (hd : ∀ c, Kid q c → c < hi → gt X (f + c) ≤ gt X (f + q)) : Hp f lo hi X := by
  intro r c h1 h2 h3
  by_cases e : r = q
  · rw [e] at h2 ⊢; exact hd c h2 h3
  · exact h.one r c h1 e h2 h3
theorem Hpx.step {f lo hi q c : Nat} {X : List Nat} (h : Hpx f lo hi q X) (hq : lo ≤ q) (hk : Kid q c) (hc : c < hi) (hl : f + hi ≤ X.length) (hm : ∀ c', Kid q c' → c' < hi → gt X (f + c') ≤ gt X (f + c)) (hlt : gt X (f + q) < gt X (f + c)) : Hpx f lo hi c (swp X (f + q) (f + c)) := by
  have hqc : q < c := by rcases hk with h | h <;> omega
  have e : ∀ k, gt (swp X (f + q) (f + c)) k = if k = f + c then gt X (f + q) else if k = f + q then gt X (f + c) else gt X k := fun k => gt_swp _ _ _ _ (by omega) (by omega)
  constructor
  · intro r d h1 h2 h3 h4
    rw [e, e]
    by_cases er : r = q
    · subst er
      rw [if_neg (show ¬ f + r = f + c by omega), if_pos rfl]
      split
      · omega
      · rw [if_neg (by rcases h3 with h | h <;> omega)]
        exact hm d h3 h4
    · rw [if_neg (show ¬ f + r = f + c by omega), if_neg (show ¬ f + r = f + q by omega)]
      rw [if_neg (show ¬ f + d = f + c by
        intro h5
        have h6 : d = c := by omega
        subst h6
        rcases h3 with h | h <;> rcases hk with k | k <;> omega)]
      split
      · rename_i h5
        have h6 : d = q := by omega
        subst h6
        exact h.two r c h1 h3 hk hc
      · exact h.one r d h1 er h3 h4
  · intro p d h1 h2 h3 h4
    have ep : p = q := by rcases h2 with h | h <;> rcases hk with k | k <;> omega
    subst ep
    have hd : c < d := by rcases h3 with h | h <;> omega
    rw [e, e, if_neg (show ¬ f + d = f + c by omega), if_neg (show ¬ f + d = f + p by omega), if_neg (show ¬ f + p = f + c by omega), if_pos rfl]
    exact h.one c d (by omega) (by omega) h3 h4
theorem Hp.top {f hi : Nat} {X : List Nat} (h : Hp f 0 hi X) : ∀ (n p : Nat), p ≤ n → p < hi → gt X (f + p) ≤ gt X f
  | 0, p, h1, h2 => by have e : p = 0 := by omega
                       rw [e]; exact Nat.le_refl _
  | n + 1, p, h1, h2 => by
    rcases Nat.eq_zero_or_pos p with e | e
    · rw [e]; exact Nat.le_refl _
    · have h3 := h ((p - 1) / 2) p (by omega) (by rcases Nat.mod_two_eq_zero_or_one p with h | h; exact .inr (by omega); exact .inl (by omega)) h2
      exact Nat.le_trans h3 (Hp.top h n ((p - 1) / 2) (by omega) (by omega))
set_option maxHeartbeats 2000000 in
set_option maxRecDepth 100000 in
theorem sift_walk (base : Nat) (v : Value) (X : List Nat) (lo hi o : Nat) (w0 : World) (hv : Dt base w0 v X) (hlo : lo ≤ hi) (hb : o + hi ≤ X.length) (hl : X.length ≤ 60000) (hH : Hp o (lo + 1) hi X) : Does Try.prog 59 #[v, .int .i64 lo, .int .i64 hi, .int .i64 o] w0 (fun r w' => r = .tuple #[] ∧ (∃ Y, Dt base w' v Y ∧ Rg o (o + hi) X Y ∧ Hp o lo hi Y) ∧ DtC v w0 w') := by
  refine fn_of (n := 76) (args := [v, .int .i64 lo, .int .i64 hi, .int .i64 o]) Try.func59 rfl rfl rfl ?_
  refine W_seq ?_
  refine W_region ?_
  refine L_r (r_mi rfl) ?_
  refine L_r (r_ai rfl) ?_
  refine L_nil ?_
  refine W_block ?_
  refine W_loopF [0, 2, 3] (fun mz_ f W => ∃ (q : Nat) (Z : List Nat), f 8 = .int .i64 q ∧ (lo ≤ q ∧ q ≤ hi ∧ Hpx o lo hi q Z ∧ Dt base W v Z ∧ Rg o (o + hi) X Z ∧ DtC v w0 W) ∧ mz_ = hi - q) ?_ ?_
  · refine ⟨_, lo, X, rfl, ?_, rfl⟩
    exact ⟨by omega, hlo, hH.start, Ow.au, Rg.refl, Ch.au⟩
  rintro m0 g0 w1 ⟨q, Z, hf8, hR0, rfl⟩
  refine W_as 8 hf8 rfl ?_
  clear hf8
  obtain ⟨hq, hqh, hX, hD, hR, hc⟩ := hR0
  have hz := hc.size
  have hlz := hR.length
  refine W_block ?_
  refine W_seq ?_
  refine W_region ?_
  refine L_r (r_mi rfl) ?_
  refine L_r (r_mul rfl rfl (by first | exact wr_i64 (by omega) | rfl)) ?_
  refine L_r (r_add rfl rfl (by first | exact wr_i64 (by omega) | rfl)) ?_
  rw [show (2 : Int) * (q : Int) + 1 = ((2 * q + 1 : Nat) : Int) by omega]
  refine L_r (r_ai rfl) ?_
  refine L_nil ?_
  refine W_seq ?_
  refine W_seq ?_
  refine W_region ?_
  refine L_r (r_mi rfl) ?_
  refine L_r (r_mi rfl) ?_
  refine L_r (r_geq rfl rfl) ?_
  refine L_nil ?_
  refine W_if rfl (fun h16 => ?_) (fun h16 => ?_)
  · refine W_exit ?_
    repeat (first | refine blk_hit ?_ | refine blk_miss rfl ?_)
    refine ret0 rfl  ?_
    first
    | exact ⟨rfl, ⟨Z, Ow.au, hR, hX.done (fun c' h1 h2 => Nat.le_trans (hmx c' h1 h2) (by omega))⟩, Ch.au⟩
    | exact ⟨rfl, ⟨Z, Ow.au, hR, hX.done (fun c' h1 h2 => by exfalso; rcases h1 with h | h <;> omega)⟩, Ch.au⟩
  · have hc1 : 2 * q + 1 < hi := by omega
    refine W_skip ?_
    refine W_seq ?_
    refine W_seq ?_
    refine W_draw (fun W => Dt base W v Z) 20 (m := 20) (by kernel_rfl) rfl (fun w2 c2 hs2 => ?_)
    refine held Ow.au (fun hS => ?_)
    refine D_t 0 rfl (fun W hW => r_mi rfl) ?_
    refine D_t 1 rfl (fun W hW => r_add rfl rfl (by first | exact wr_i64 (by omega) | rfl)) ?_
    refine D_t 2 rfl (fun W hW => r_mi rfl) ?_
    refine D_t 3 rfl (fun W hW => r_lss rfl rfl) ?_
    refine D_t 4 rfl (fun W hW => r_mb rfl) ?_
    refine D_case (d := 21) rfl (fun h21 => ?_) (fun h21 => ?_)
    · have e1 : ((o : Int) + ((2 * q + 1 : Nat) : Int)).toNat = o + (2 * q + 1) := by omega
      have e2 : ((o : Int) + ((2 * q + 1 : Nat) : Int) + 1).toNat = o + (2 * q + 2) := by omega
      refine D_g 5 rfl (fun W hW => r_mv) ?_
      refine D_g 6 rfl (fun W hW => r_mi rfl) ?_
      refine D_g 7 rfl (fun W hW => r_mi rfl) ?_
      refine D_g 8 rfl (fun W hW => r_add rfl rfl (by first | exact wr_i64 (by omega) | rfl)) ?_
      refine D_g 9 rfl (fun W hW => r_ix Try.underlying80 (show _ = some 1 from rfl) (by conv => lhs; whnf) rfl (by (first | exact hW.sl | exact hW))) ?_
      refine D_g 10 rfl (fun W hW => r_loadSl rfl rfl (by (first | exact hW.sl | exact hW)) (by first | assumption | exact ucells_gt _ _ (by omega) | (conv => lhs; simp only [List.getElem?_toArray, List.getElem?_cons_succ, List.getElem?_cons_zero]))) ?_
      refine D_g 11 rfl (fun W hW => r_mv) ?_
      refine D_g 12 rfl (fun W hW => r_mi rfl) ?_
      refine D_g 13 rfl (fun W hW => r_mi rfl) ?_
      refine D_g 14 rfl (fun W hW => r_add rfl rfl (by first | exact wr_i64 (by omega) | rfl)) ?_
      refine D_g 15 rfl (fun W hW => r_add rfl rfl (by first | exact wr_i64 (by omega) | rfl)) ?_
      refine D_g 16 rfl (fun W hW => r_ix Try.underlying80 (show _ = some 1 from rfl) (by conv => lhs; whnf) rfl (by (first | exact hW.sl | exact hW))) ?_
      refine D_g 17 rfl (fun W hW => r_loadSl rfl rfl (by (first | exact hW.sl | exact hW)) (by first | assumption | exact ucells_gt _ _ (by omega) | (conv => lhs; simp only [List.getElem?_toArray, List.getElem?_cons_succ, List.getElem?_cons_zero]))) ?_
      refine D_ev 18 (by kernel_rfl) rfl ?_
      refine L_call (.yes 4 true rfl rfl) rfl rfl (r_call Try.func54 rfl rfl rfl (by rfl)) (less_walk (gt Z ((o : Int) + ((2 * q + 1 : Nat) : Int)).toNat) (gt Z ((o : Int) + ((2 * q + 1 : Nat) : Int) + 1).toNat) _) ?_
      rintro v35 w3 ⟨rfl, c3⟩
      have hz3 := c3.size
      rw [e1, e2]
      refine L_nil ?_
      refine heldK Ow.au (fun hS => ?_)
      refine D_t 19 rfl (fun W hW => r_pt rfl rfl) ?_
      refine D_done (by kernel_rfl) ?_
      refine W_endF [0, 2, 3, 8] (fun f W => ∃ (c : Nat), f 9 = .int .i64 c ∧ (Kid q c ∧ c < hi ∧ (∀ c', Kid q c' → c' < hi → gt Z (o + c') ≤ gt Z (o + c)) ∧ W = w3)) ?_ ?_
      · refine W_bool rfl (fun h36 => ?_) (fun h36 => ?_)
        · replace h36 := of_decide_eq_true h36
          obtain ⟨c0, hc0⟩ : ∃ x, x = 2 * q + 2 := ⟨_, rfl⟩
          refine W_region ?_
          refine L_r (r_mi rfl) ?_
          refine L_r (r_add rfl rfl (by first | exact wr_i64 (by omega) | rfl)) ?_
          refine L_r (r_ai rfl) ?_
          refine L_nil ?_
          refine ⟨⟨rfl, rfl, rfl, rfl, trivial⟩, c0, (by exact congrArg (Value.int .i64) (by omega)), ?_⟩
          first
          | (refine ⟨.inr hc0, by omega, fun c' h1 h2 => ?_, rfl⟩
             rcases h1 with h | h
             · rw [h, hc0]; omega
             · rw [h, hc0]; exact Nat.le_refl _)
          | (refine ⟨.inl hc0, by omega, fun c' h1 h2 => ?_, rfl⟩
             rcases h1 with h | h
             · rw [h, hc0]; exact Nat.le_refl _
             · rw [h, hc0]; omega)
        · replace h36 := of_decide_eq_false h36
          obtain ⟨c0, hc0⟩ : ∃ x, x = 2 * q + 1 := ⟨_, rfl⟩
          refine W_skip ?_
          refine ⟨⟨rfl, rfl, rfl, rfl, trivial⟩, c0, (by exact congrArg (Value.int .i64) (by omega)), ?_⟩
          first
          | (refine ⟨.inr hc0, by omega, fun c' h1 h2 => ?_, rfl⟩
             rcases h1 with h | h
             · rw [h, hc0]; omega
             · rw [h, hc0]; exact Nat.le_refl _)
          | (refine ⟨.inl hc0, by omega, fun c' h1 h2 => ?_, rfl⟩
             rcases h1 with h | h
             · rw [h, hc0]; exact Nat.le_refl _
             · rw [h, hc0]; omega)
      rintro gct36 w4 ⟨c, hf9, hCt36⟩
      refine W_as 9 hf9 rfl ?_
      clear hf9
      obtain ⟨hk, hch, hmx, rfl⟩ := hCt36
      have e3 : ((o : Int) + (q : Int)).toNat = o + q := by omega
      have e4 : ((o : Int) + (c : Int)).toNat = o + c := by omega
      have hqc : q < c := by rcases hk with h | h <;> omega
      refine W_seq ?_
      refine W_seq ?_
      refine W_draw (fun W => Dt base W v Z) 14 (m := 14) (by kernel_rfl) rfl (fun w5 c5 hs5 => ?_)
      refine held Ow.au (fun hS => ?_)
      refine D_t 0 rfl (fun W hW => r_mv) ?_
      refine D_t 1 rfl (fun W hW => r_mi rfl) ?_
      refine D_t 2 rfl (fun W hW => r_mi rfl) ?_
      refine D_t 3 rfl (fun W hW => r_add rfl rfl (by first | exact wr_i64 (by omega) | rfl)) ?_
      refine D_t 4 rfl (fun W hW => r_ix Try.underlying80 (show _ = some 1 from rfl) (by conv => lhs; whnf) rfl (by (first | exact hW.sl | exact hW))) ?_
      refine D_t 5 rfl (fun W hW => r_loadSl rfl rfl (by (first | exact hW.sl | exact hW)) (by first | assumption | exact ucells_gt _ _ (by omega) | (conv => lhs; simp only [List.getElem?_toArray, List.getElem?_cons_succ, List.getElem?_cons_zero]))) ?_
      refine D_t 6 rfl (fun W hW => r_mv) ?_
      refine D_t 7 rfl (fun W hW => r_mi rfl) ?_
      refine D_t 8 rfl (fun W hW => r_mi rfl) ?_
      refine D_t 9 rfl (fun W hW => r_add rfl rfl (by first | exact wr_i64 (by omega) | rfl)) ?_
      refine D_t 10 rfl (fun W hW => r_ix Try.underlying80 (show _ = some 1 from rfl) (by conv => lhs; whnf) rfl (by (first | exact hW.sl | exact hW))) ?_
      refine D_t 11 rfl (fun W hW => r_loadSl rfl rfl (by (first | exact hW.sl | exact hW)) (by first | assumption | exact ucells_gt _ _ (by omega) | (conv => lhs; simp only [List.getElem?_toArray, List.getElem?_cons_succ, List.getElem?_cons_zero]))) ?_
      refine D_ev 12 (by kernel_rfl) rfl ?_
      refine L_call (.plain rfl) rfl rfl (r_call Try.func54 rfl rfl rfl (by rfl)) (less_walk (gt Z ((o : Int) + (q : Int)).toNat) (gt Z ((o : Int) + (c : Int)).toNat) _) ?_
      rintro v51 w6 ⟨rfl, c6⟩
      have hz6 := c6.size
      rw [e3, e4]
      refine L_nil ?_
      refine heldK Ow.au (fun hS => ?_)
      refine D_t 13 rfl (fun W hW => r_not rfl) ?_
      refine D_done (by kernel_rfl) ?_
      refine W_bool rfl (fun h52 => ?_) (fun h52 => ?_)
      · replace h52 : ¬ gt Z (o + q) < gt Z (o + c) := by simpa using h52
        refine W_ret ?_
        refine ret0 rfl  ?_
        first
        | exact ⟨rfl, ⟨Z, Ow.au, hR, hX.done (fun c' h1 h2 => Nat.le_trans (hmx c' h1 h2) (by omega))⟩, Ch.au⟩
        | exact ⟨rfl, ⟨Z, Ow.au, hR, hX.done (fun c' h1 h2 => by exfalso; rcases h1 with h | h <;> omega)⟩, Ch.au⟩
      · replace h52 : gt Z (o + q) < gt Z (o + c) := by simpa using h52
        refine W_skip ?_
        refine W_seq ?_
        refine W_draw (fun W => ∃ xs, Sl W v 1 Z.length xs) 23 (m := 24) (by kernel_rfl) rfl (fun w7 c7 hs7 => ?_)
        refine held (by exact ⟨_, Sl.au⟩) (fun hS => ?_)
        refine D_t 0 rfl (fun W hW => r_mv) ?_
        refine D_t 1 rfl (fun W hW => r_mi rfl) ?_
        refine D_t 2 rfl (fun W hW => r_mi rfl) ?_
        refine D_t 3 rfl (fun W hW => r_add rfl rfl (by first | exact wr_i64 (by omega) | rfl)) ?_
        refine D_t 4 rfl (fun W hW => r_mv) ?_
        refine D_t 5 rfl (fun W hW => r_mi rfl) ?_
        refine D_t 6 rfl (fun W hW => r_mi rfl) ?_
        refine D_t 7 rfl (fun W hW => r_add rfl rfl (by first | exact wr_i64 (by omega) | rfl)) ?_
        refine D_t 8 rfl (fun W hW => r_mv) ?_
        refine D_t 9 rfl (fun W hW => r_mi rfl) ?_
        refine D_t 10 rfl (fun W hW => r_mi rfl) ?_
        refine D_t 11 rfl (fun W hW => r_add rfl rfl (by first | exact wr_i64 (by omega) | rfl)) ?_
        refine D_t 12 rfl (fun W hW => r_ix Try.underlying80 (show _ = some 1 from rfl) (by conv => lhs; whnf) rfl (by exact hW.choose_spec)) ?_
        refine D_t 14 rfl (fun W hW => r_mv) ?_
        refine D_t 15 rfl (fun W hW => r_mi rfl) ?_
        refine D_t 16 rfl (fun W hW => r_mi rfl) ?_
        refine D_t 17 rfl (fun W hW => r_add rfl rfl (by first | exact wr_i64 (by omega) | rfl)) ?_
        refine D_t 18 rfl (fun W hW => r_ix Try.underlying80 (show _ = some 1 from rfl) (by conv => lhs; whnf) rfl (by exact hW.choose_spec)) ?_
        refine D_ev2 13 19 (by kernel_rfl) rfl rfl ?_ ?_
        · refine L_r (r_loadSl rfl rfl Sl.au (by first | assumption | exact ucells_gt _ _ (by omega) | (conv => lhs; simp only [List.getElem?_toArray, List.getElem?_cons_succ, List.getElem?_cons_zero]))) ?_
          refine L_nil ?_
          refine heldK (by exact ⟨_, Sl.au⟩) (fun hS => ?_)
          refine D_ev 19 (by kernel_rfl) rfl ?_
          refine L_r (r_loadSl rfl rfl Sl.au (by first | assumption | exact ucells_gt _ _ (by omega) | (conv => lhs; simp only [List.getElem?_toArray, List.getElem?_cons_succ, List.getElem?_cons_zero]))) ?_
          refine L_nil ?_
          refine heldK (by exact ⟨_, Sl.au⟩) (fun hS => ?_)
          refine D_t 20 rfl (fun W hW => r_ix Try.underlying80 (show _ = some 1 from rfl) (by conv => lhs; whnf) rfl (by exact hW.choose_spec)) ?_
          refine D_ev 21 (by kernel_rfl) rfl ?_
          refine L_setOw (.plain rfl) rfl rfl (u := .int _ _) rfl rfl Ow.au (by first | omega | (simp only [List.length_set, ucells_length]; omega) | (simp; done)) (fun w8 hb8 hs8 c8 => ?_)
          refine L_nil ?_
          refine heldK (by exact ⟨_, Sl.au⟩) (fun hS => ?_)
          refine D_t 22 rfl (fun W hW => r_ix Try.underlying80 (show _ = some 1 from rfl) (by conv => lhs; whnf) rfl (by exact hW.choose_spec)) ?_
          refine D_ev 23 (by kernel_rfl) rfl ?_
          refine L_setOw (.plain rfl) rfl rfl (u := .int _ _) rfl rfl Ow.au (by first | omega | (simp only [List.length_set, ucells_length]; omega) | (simp; done)) (fun w9 hb9 hs9 c9 => ?_)
          refine L_nil ?_
          refine heldL ?_
          refine D_done (by kernel_rfl) ?_
          have hB : Ow w9 base 26 1 v Z.length (((ucells Z).set ((o : Int) + (q : Int)).toNat (.int .u64 (gt Z ((o : Int) + (c : Int)).toNat : Int))).set ((o : Int) + (c : Int)).toNat (.int .u64 (gt Z ((o : Int) + (q : Int)).toNat : Int))) := by assumption
          rw [e3, e4] at hB
          have hD1 := dt_swp hB
          have hR1 : Rg o (o + hi) X (swp Z (o + q) (o + c)) := Rg.swap Z (o + q) (o + c) hR (by omega) (by omega) (by omega) (by omega) hb
          have hX1 := hX.step hq hk hch (by omega) hmx h52
          obtain ⟨Z1, hZ1⟩ : ∃ x, x = swp Z (o + q) (o + c) := ⟨_, rfl⟩
          rw [← hZ1] at hD1 hR1 hX1
          refine W_region ?_
          refine L_r (r_mi rfl) ?_
          refine L_r (r_ai rfl) ?_
          refine L_nil ?_
          refine ⟨⟨rfl, rfl, rfl, trivial⟩, _, ?_, c, Z1, rfl, ?_, rfl⟩
          · omega
          exact ⟨by omega, by omega, hX1, Ow.au, hR1, Ch.au⟩
        · refine L_r (r_loadSl rfl rfl Sl.au (by first | assumption | exact ucells_gt _ _ (by omega) | (conv => lhs; simp only [List.getElem?_toArray, List.getElem?_cons_succ, List.getElem?_cons_zero]))) ?_
          refine L_nil ?_
          refine heldK (by exact ⟨_, Sl.au⟩) (fun hS => ?_)
          refine D_ev 13 (by kernel_rfl) rfl ?_
          refine L_r (r_loadSl rfl rfl Sl.au (by first | assumption | exact ucells_gt _ _ (by omega) | (conv => lhs; simp only [List.getElem?_toArray, List.getElem?_cons_succ, List.getElem?_cons_zero]))) ?_
          refine L_nil ?_
          refine heldK (by exact ⟨_, Sl.au⟩) (fun hS => ?_)
          refine D_t 20 rfl (fun W hW => r_ix Try.underlying80 (show _ = some 1 from rfl) (by conv => lhs; whnf) rfl (by exact hW.choose_spec)) ?_
          refine D_ev 21 (by kernel_rfl) rfl ?_
          refine L_setOw (.plain rfl) rfl rfl (u := .int _ _) rfl rfl Ow.au (by first | omega | (simp only [List.length_set, ucells_length]; omega) | (simp; done)) (fun w10 hb10 hs10 c10 => ?_)
          refine L_nil ?_
          refine heldK (by exact ⟨_, Sl.au⟩) (fun hS => ?_)
          refine D_t 22 rfl (fun W hW => r_ix Try.underlying80 (show _ = some 1 from rfl) (by conv => lhs; whnf) rfl (by exact hW.choose_spec)) ?_
          refine D_ev 23 (by kernel_rfl) rfl ?_
          refine L_setOw (.plain rfl) rfl rfl (u := .int _ _) rfl rfl Ow.au (by first | omega | (simp only [List.length_set, ucells_length]; omega) | (simp; done)) (fun w11 hb11 hs11 c11 => ?_)
          refine L_nil ?_
          refine heldL ?_
          refine D_done (by kernel_rfl) ?_
          have hB : Ow w11 base 26 1 v Z.length (((ucells Z).set ((o : Int) + (q : Int)).toNat (.int .u64 (gt Z ((o : Int) + (c : Int)).toNat : Int))).set ((o : Int) + (c : Int)).toNat (.int .u64 (gt Z ((o : Int) + (q : Int)).toNat : Int))) := by assumption
          rw [e3, e4] at hB
          have hD1 := dt_swp hB
          have hR1 : Rg o (o + hi) X (swp Z (o + q) (o + c)) := Rg.swap Z (o + q) (o + c) hR (by omega) (by omega) (by omega) (by omega) hb
          have hX1 := hX.step hq hk hch (by omega) hmx h52
          obtain ⟨Z1, hZ1⟩ : ∃ x, x = swp Z (o + q) (o + c) := ⟨_, rfl⟩
          rw [← hZ1] at hD1 hR1 hX1
          refine W_region ?_
          refine L_r (r_mi rfl) ?_
          refine L_r (r_ai rfl) ?_
          refine L_nil ?_
          refine ⟨⟨rfl, rfl, rfl, trivial⟩, _, ?_, c, Z1, rfl, ?_, rfl⟩
          · omega
          exact ⟨by omega, by omega, hX1, Ow.au, hR1, Ch.au⟩
    · obtain ⟨c0, hc0⟩ : ∃ x, x = 2 * q + 1 := ⟨_, rfl⟩
      refine D_ps 5 rfl ?_
      refine D_ps 6 rfl ?_
      refine D_ps 7 rfl ?_
      refine D_ps 8 rfl ?_
      refine D_ps 9 rfl ?_
      refine D_ps 10 rfl ?_
      refine D_ps 11 rfl ?_
      refine D_ps 12 rfl ?_
      refine D_ps 13 rfl ?_
      refine D_ps 14 rfl ?_
      refine D_ps 15 rfl ?_
      refine D_ps 16 rfl ?_
      refine D_ps 17 rfl ?_
      refine D_ps 18 rfl ?_
      refine D_t 19 rfl (fun W hW => r_pf rfl rfl) ?_
      refine D_done (by kernel_rfl) ?_
      refine W_endF [0, 2, 3, 8] (fun f W => ∃ (c : Nat), f 9 = .int .i64 c ∧ (Kid q c ∧ c < hi ∧ (∀ c', Kid q c' → c' < hi → gt Z (o + c') ≤ gt Z (o + c)) ∧ W = w2)) ?_ ?_
      · refine W_false rfl ?_
        refine W_skip ?_
        refine ⟨⟨rfl, rfl, rfl, rfl, trivial⟩, c0, (by exact congrArg (Value.int .i64) (by omega)), ?_⟩
        first
        | (refine ⟨.inr hc0, by omega, fun c' h1 h2 => ?_, rfl⟩
           rcases h1 with h | h
           · rw [h, hc0]; omega
           · rw [h, hc0]; exact Nat.le_refl _)
        | (refine ⟨.inl hc0, by omega, fun c' h1 h2 => ?_, rfl⟩
           rcases h1 with h | h
           · rw [h, hc0]; exact Nat.le_refl _
           · rw [h, hc0]; omega)
      rintro gct36 w12 ⟨c, hf9, hCt36⟩
      refine W_as 9 hf9 rfl ?_
      clear hf9
      obtain ⟨hk, hch, hmx, rfl⟩ := hCt36
      have e3 : ((o : Int) + (q : Int)).toNat = o + q := by omega
      have e4 : ((o : Int) + (c : Int)).toNat = o + c := by omega
      have hqc : q < c := by rcases hk with h | h <;> omega
      refine W_seq ?_
      refine W_seq ?_
      refine W_draw (fun W => Dt base W v Z) 14 (m := 14) (by kernel_rfl) rfl (fun w13 c13 hs13 => ?_)
      refine held Ow.au (fun hS => ?_)
      refine D_t 0 rfl (fun W hW => r_mv) ?_
      refine D_t 1 rfl (fun W hW => r_mi rfl) ?_
      refine D_t 2 rfl (fun W hW => r_mi rfl) ?_
      refine D_t 3 rfl (fun W hW => r_add rfl rfl (by first | exact wr_i64 (by omega) | rfl)) ?_
      refine D_t 4 rfl (fun W hW => r_ix Try.underlying80 (show _ = some 1 from rfl) (by conv => lhs; whnf) rfl (by (first | exact hW.sl | exact hW))) ?_
      refine D_t 5 rfl (fun W hW => r_loadSl rfl rfl (by (first | exact hW.sl | exact hW)) (by first | assumption | exact ucells_gt _ _ (by omega) | (conv => lhs; simp only [List.getElem?_toArray, List.getElem?_cons_succ, List.getElem?_cons_zero]))) ?_
      refine D_t 6 rfl (fun W hW => r_mv) ?_
      refine D_t 7 rfl (fun W hW => r_mi rfl) ?_
      refine D_t 8 rfl (fun W hW => r_mi rfl) ?_
      refine D_t 9 rfl (fun W hW => r_add rfl rfl (by first | exact wr_i64 (by omega) | rfl)) ?_
      refine D_t 10 rfl (fun W hW => r_ix Try.underlying80 (show _ = some 1 from rfl) (by conv => lhs; whnf) rfl (by (first | exact hW.sl | exact hW))) ?_
      refine D_t 11 rfl (fun W hW => r_loadSl rfl rfl (by (first | exact hW.sl | exact hW)) (by first | assumption | exact ucells_gt _ _ (by omega) | (conv => lhs; simp only [List.getElem?_toArray, List.getElem?_cons_succ, List.getElem?_cons_zero]))) ?_
      refine D_ev 12 (by kernel_rfl) rfl ?_
      refine L_call (.plain rfl) rfl rfl (r_call Try.func54 rfl rfl rfl (by rfl)) (less_walk (gt Z ((o : Int) + (q : Int)).toNat) (gt Z ((o : Int) + (c : Int)).toNat) _) ?_
      rintro v51 w14 ⟨rfl, c14⟩
      have hz14 := c14.size
      rw [e3, e4]
      refine L_nil ?_
      refine heldK Ow.au (fun hS => ?_)
      refine D_t 13 rfl (fun W hW => r_not rfl) ?_
      refine D_done (by kernel_rfl) ?_
      refine W_bool rfl (fun h52 => ?_) (fun h52 => ?_)
      · replace h52 : ¬ gt Z (o + q) < gt Z (o + c) := by simpa using h52
        refine W_ret ?_
        refine ret0 rfl  ?_
        first
        | exact ⟨rfl, ⟨Z, Ow.au, hR, hX.done (fun c' h1 h2 => Nat.le_trans (hmx c' h1 h2) (by omega))⟩, Ch.au⟩
        | exact ⟨rfl, ⟨Z, Ow.au, hR, hX.done (fun c' h1 h2 => by exfalso; rcases h1 with h | h <;> omega)⟩, Ch.au⟩
      · replace h52 : gt Z (o + q) < gt Z (o + c) := by simpa using h52
        refine W_skip ?_
        refine W_seq ?_
        refine W_draw (fun W => ∃ xs, Sl W v 1 Z.length xs) 23 (m := 24) (by kernel_rfl) rfl (fun w15 c15 hs15 => ?_)
        refine held (by exact ⟨_, Sl.au⟩) (fun hS => ?_)
        refine D_t 0 rfl (fun W hW => r_mv) ?_
        refine D_t 1 rfl (fun W hW => r_mi rfl) ?_
        refine D_t 2 rfl (fun W hW => r_mi rfl) ?_
        refine D_t 3 rfl (fun W hW => r_add rfl rfl (by first | exact wr_i64 (by omega) | rfl)) ?_
        refine D_t 4 rfl (fun W hW => r_mv) ?_
        refine D_t 5 rfl (fun W hW => r_mi rfl) ?_
        refine D_t 6 rfl (fun W hW => r_mi rfl) ?_
        refine D_t 7 rfl (fun W hW => r_add rfl rfl (by first | exact wr_i64 (by omega) | rfl)) ?_
        refine D_t 8 rfl (fun W hW => r_mv) ?_
        refine D_t 9 rfl (fun W hW => r_mi rfl) ?_
        refine D_t 10 rfl (fun W hW => r_mi rfl) ?_
        refine D_t 11 rfl (fun W hW => r_add rfl rfl (by first | exact wr_i64 (by omega) | rfl)) ?_
        refine D_t 12 rfl (fun W hW => r_ix Try.underlying80 (show _ = some 1 from rfl) (by conv => lhs; whnf) rfl (by exact hW.choose_spec)) ?_
        refine D_t 14 rfl (fun W hW => r_mv) ?_
        refine D_t 15 rfl (fun W hW => r_mi rfl) ?_
        refine D_t 16 rfl (fun W hW => r_mi rfl) ?_
        refine D_t 17 rfl (fun W hW => r_add rfl rfl (by first | exact wr_i64 (by omega) | rfl)) ?_
        refine D_t 18 rfl (fun W hW => r_ix Try.underlying80 (show _ = some 1 from rfl) (by conv => lhs; whnf) rfl (by exact hW.choose_spec)) ?_
        refine D_ev2 13 19 (by kernel_rfl) rfl rfl ?_ ?_
        · refine L_r (r_loadSl rfl rfl Sl.au (by first | assumption | exact ucells_gt _ _ (by omega) | (conv => lhs; simp only [List.getElem?_toArray, List.getElem?_cons_succ, List.getElem?_cons_zero]))) ?_
          refine L_nil ?_
          refine heldK (by exact ⟨_, Sl.au⟩) (fun hS => ?_)
          refine D_ev 19 (by kernel_rfl) rfl ?_
          refine L_r (r_loadSl rfl rfl Sl.au (by first | assumption | exact ucells_gt _ _ (by omega) | (conv => lhs; simp only [List.getElem?_toArray, List.getElem?_cons_succ, List.getElem?_cons_zero]))) ?_
          refine L_nil ?_
          refine heldK (by exact ⟨_, Sl.au⟩) (fun hS => ?_)
          refine D_t 20 rfl (fun W hW => r_ix Try.underlying80 (show _ = some 1 from rfl) (by conv => lhs; whnf) rfl (by exact hW.choose_spec)) ?_
          refine D_ev 21 (by kernel_rfl) rfl ?_
          refine L_setOw (.plain rfl) rfl rfl (u := .int _ _) rfl rfl Ow.au (by first | omega | (simp only [List.length_set, ucells_length]; omega) | (simp; done)) (fun w16 hb16 hs16 c16 => ?_)
          refine L_nil ?_
          refine heldK (by exact ⟨_, Sl.au⟩) (fun hS => ?_)
          refine D_t 22 rfl (fun W hW => r_ix Try.underlying80 (show _ = some 1 from rfl) (by conv => lhs; whnf) rfl (by exact hW.choose_spec)) ?_
          refine D_ev 23 (by kernel_rfl) rfl ?_
          refine L_setOw (.plain rfl) rfl rfl (u := .int _ _) rfl rfl Ow.au (by first | omega | (simp only [List.length_set, ucells_length]; omega) | (simp; done)) (fun w17 hb17 hs17 c17 => ?_)
          refine L_nil ?_
          refine heldL ?_
          refine D_done (by kernel_rfl) ?_
          have hB : Ow w17 base 26 1 v Z.length (((ucells Z).set ((o : Int) + (q : Int)).toNat (.int .u64 (gt Z ((o : Int) + (c : Int)).toNat : Int))).set ((o : Int) + (c : Int)).toNat (.int .u64 (gt Z ((o : Int) + (q : Int)).toNat : Int))) := by assumption
          rw [e3, e4] at hB
          have hD1 := dt_swp hB
          have hR1 : Rg o (o + hi) X (swp Z (o + q) (o + c)) := Rg.swap Z (o + q) (o + c) hR (by omega) (by omega) (by omega) (by omega) hb
          have hX1 := hX.step hq hk hch (by omega) hmx h52
          obtain ⟨Z1, hZ1⟩ : ∃ x, x = swp Z (o + q) (o + c) := ⟨_, rfl⟩
          rw [← hZ1] at hD1 hR1 hX1
          refine W_region ?_
          refine L_r (r_mi rfl) ?_
          refine L_r (r_ai rfl) ?_
          refine L_nil ?_
          refine ⟨⟨rfl, rfl, rfl, trivial⟩, _, ?_, c, Z1, rfl, ?_, rfl⟩
          · omega
          exact ⟨by omega, by omega, hX1, Ow.au, hR1, Ch.au⟩
        · refine L_r (r_loadSl rfl rfl Sl.au (by first | assumption | exact ucells_gt _ _ (by omega) | (conv => lhs; simp only [List.getElem?_toArray, List.getElem?_cons_succ, List.getElem?_cons_zero]))) ?_
          refine L_nil ?_
          refine heldK (by exact ⟨_, Sl.au⟩) (fun hS => ?_)
          refine D_ev 13 (by kernel_rfl) rfl ?_
          refine L_r (r_loadSl rfl rfl Sl.au (by first | assumption | exact ucells_gt _ _ (by omega) | (conv => lhs; simp only [List.getElem?_toArray, List.getElem?_cons_succ, List.getElem?_cons_zero]))) ?_
          refine L_nil ?_
          refine heldK (by exact ⟨_, Sl.au⟩) (fun hS => ?_)
          refine D_t 20 rfl (fun W hW => r_ix Try.underlying80 (show _ = some 1 from rfl) (by conv => lhs; whnf) rfl (by exact hW.choose_spec)) ?_
          refine D_ev 21 (by kernel_rfl) rfl ?_
          refine L_setOw (.plain rfl) rfl rfl (u := .int _ _) rfl rfl Ow.au (by first | omega | (simp only [List.length_set, ucells_length]; omega) | (simp; done)) (fun w18 hb18 hs18 c18 => ?_)
          refine L_nil ?_
          refine heldK (by exact ⟨_, Sl.au⟩) (fun hS => ?_)
          refine D_t 22 rfl (fun W hW => r_ix Try.underlying80 (show _ = some 1 from rfl) (by conv => lhs; whnf) rfl (by exact hW.choose_spec)) ?_
          refine D_ev 23 (by kernel_rfl) rfl ?_
          refine L_setOw (.plain rfl) rfl rfl (u := .int _ _) rfl rfl Ow.au (by first | omega | (simp only [List.length_set, ucells_length]; omega) | (simp; done)) (fun w19 hb19 hs19 c19 => ?_)
          refine L_nil ?_
          refine heldL ?_
          refine D_done (by kernel_rfl) ?_
          have hB : Ow w19 base 26 1 v Z.length (((ucells Z).set ((o : Int) + (q : Int)).toNat (.int .u64 (gt Z ((o : Int) + (c : Int)).toNat : Int))).set ((o : Int) + (c : Int)).toNat (.int .u64 (gt Z ((o : Int) + (q : Int)).toNat : Int))) := by assumption
          rw [e3, e4] at hB
          have hD1 := dt_swp hB
          have hR1 : Rg o (o + hi) X (swp Z (o + q) (o + c)) := Rg.swap Z (o + q) (o + c) hR (by omega) (by omega) (by omega) (by omega) hb
          have hX1 := hX.step hq hk hch (by omega) hmx h52
          obtain ⟨Z1, hZ1⟩ : ∃ x, x = swp Z (o + q) (o + c) := ⟨_, rfl⟩
          rw [← hZ1] at hD1 hR1 hX1
          refine W_region ?_
          refine L_r (r_mi rfl) ?_
          refine L_r (r_ai rfl) ?_
          refine L_nil ?_
          refine ⟨⟨rfl, rfl, rfl, trivial⟩, _, ?_, c, Z1, rfl, ?_, rfl⟩
          · omega
          exact ⟨by omega, by omega, hX1, Ow.au, hR1, Ch.au⟩
end Go.Proofs.Ytjjddbicggfgnaa

