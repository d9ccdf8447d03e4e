/- The library's sort of numbers, walked: a piece is parted. -/
import Derived.Test.YtjjddbicggfgnaaSort5
namespace Go.Proofs.Ytjjddbicggfgnaa
open Go Go.RowKit
set_option linter.unusedVariables false
set_option linter.unusedSimpArgs false
/-- Parted so far: below i they are less than the first, behind j they are not. -/
structure Prt (a b i j P : Nat) (X : List Nat) : Prop where
  piv : gt X a = P
  lo : ∀ k, a < k → k < i → gt X k < P
  hi : ∀ k, j < k → k < b → P ≤ gt X k
theorem Prt.swap {a b i j P : Nat} {X : List Nat} (h : Prt a b i j P X) (hi : a < i) (hij : i ≤ j) (hj : j < b) (hb : b ≤ X.length) (h1 : ¬ gt X i < P) (h2 : gt X j < P) : Prt a b (i + 1) (j - 1) P (swp X i j) ∧ i < j := by
  have hne : i ≠ j := by rintro rfl; omega
  have e : ∀ k, gt (swp X i j) k = if k = j then gt X i else if k = i then gt X j else gt X k := fun k => gt_swp _ _ _ _ (by omega) (by omega)
  refine ⟨⟨?_, ?_, ?_⟩, by omega⟩
  · rw [e, if_neg (by omega), if_neg (by omega)]; exact h.piv
  · intro k k1 k2
    rw [e, if_neg (by omega)]
    split
    · exact h2
    · exact h.lo k k1 (by omega)
  · intro k k1 k2
    rw [e]
    split
    · omega
    · rw [if_neg (by omega)]; exact h.hi k (by omega) k2
/-- Parted at m. -/
def Cut (a b m : Nat) (X : List Nat) : Prop := (∀ k, a ≤ k → k < m → gt X k ≤ gt X m) ∧ (∀ k, m < k → k < b → gt X m ≤ gt X k)
theorem Prt.done {a b i j P : Nat} {X : List Nat} (h : Prt a b i j P X) (hi : i = j + 1) (haj : a ≤ j) (hj : j < b) (hb : b ≤ X.length) : Cut a b j (swp X j a) := by
  have e : ∀ k, gt (swp X j a) k = if k = a then gt X j else if k = j then gt X a else gt X k := fun k => gt_swp _ _ _ _ (by omega) (by omega)
  have ej : gt (swp X j a) j = P := by
    rw [e]
    split
    · rename_i h1; rw [h1]; exact h.piv
    · rw [if_pos rfl]; exact h.piv
  refine ⟨fun k k1 k2 => ?_, fun k k1 k2 => ?_⟩
  · rw [ej, e]
    split
    · exact Nat.le_of_lt (h.lo j (by omega) (by omega))
    · rw [if_neg (by omega)]; exact Nat.le_of_lt (h.lo k (by omega) (by omega))
  · rw [ej, e, if_neg (by omega), if_neg (by omega)]
    exact h.hi k k1 k2
set_option maxHeartbeats 2000000 in
set_option maxRecDepth 100000 in
theorem partition_walk (base : Nat) (v : Value) (X : List Nat) (a b p : Nat) (w0 : World) (hv : Dt base w0 v X) (hap : a ≤ p) (hpb : p < b) (hb : b ≤ X.length) (hl : X.length ≤ 60000) : Does Try.prog 56 #[v, .int .i64 a, .int .i64 b, .int .i64 p] w0 (fun r w' => ∃ (m : Nat) (f : Bool), r = .tuple #[.int .i64 (m : Int), .bool f] ∧ a ≤ m ∧ m < b ∧ (∃ Y, Dt base w' v Y ∧ Rg a b X Y ∧ Cut a b m Y) ∧ DtC v w0 w') := by
  refine fn_of (n := 168) (args := [v, .int .i64 a, .int .i64 b, .int .i64 p]) Try.func56 rfl rfl rfl ?_
  refine W_seq ?_
  refine W_region ?_
  refine L_r (r_ai rfl) ?_
  refine L_r (r_ab rfl) ?_
  refine L_nil ?_
  refine W_seq ?_
  refine W_draw (fun W => ∃ xs, Sl W v 1 X.length xs) 15 (m := 16) (by kernel_rfl) rfl (fun w1 c1 hs1 => ?_)
  refine held (by exact ⟨_, Sl.au⟩) (fun hS => ?_)
  refine D_t 0 rfl (fun W hW => r_mv) ?_
  refine D_t 1 rfl (fun W hW => r_mi rfl) ?_
  refine D_t 2 rfl (fun W hW => r_mv) ?_
  refine D_t 3 rfl (fun W hW => r_mi rfl) ?_
  refine D_t 4 rfl (fun W hW => r_mv) ?_
  refine D_t 5 rfl (fun W hW => r_mi rfl) ?_
  refine D_t 6 rfl (fun W hW => r_ix Try.underlying80 (show _ = some 1 from rfl) (by conv => lhs; whnf) rfl (by exact hW.choose_spec)) ?_
  refine D_t 8 rfl (fun W hW => r_mv) ?_
  refine D_t 9 rfl (fun W hW => r_mi rfl) ?_
  refine D_t 10 rfl (fun W hW => r_ix Try.underlying80 (show _ = some 1 from rfl) (by conv => lhs; whnf) rfl (by exact hW.choose_spec)) ?_
  refine D_ev2 7 11 (by kernel_rfl) rfl rfl ?_ ?_
  · refine L_r (r_loadSl rfl rfl Sl.au (by first | assumption | exact ucells_gt _ _ (by omega) | (conv => lhs; simp only [List.getElem?_toArray, List.getElem?_cons_succ, List.getElem?_cons_zero]))) ?_
    refine L_nil ?_
    refine heldK (by exact ⟨_, Sl.au⟩) (fun hS => ?_)
    refine D_ev 11 (by kernel_rfl) rfl ?_
    refine L_r (r_loadSl rfl rfl Sl.au (by first | assumption | exact ucells_gt _ _ (by omega) | (conv => lhs; simp only [List.getElem?_toArray, List.getElem?_cons_succ, List.getElem?_cons_zero]))) ?_
    refine L_nil ?_
    refine heldK (by exact ⟨_, Sl.au⟩) (fun hS => ?_)
    refine D_t 12 rfl (fun W hW => r_ix Try.underlying80 (show _ = some 1 from rfl) (by conv => lhs; whnf) rfl (by exact hW.choose_spec)) ?_
    refine D_ev 13 (by kernel_rfl) rfl ?_
    refine L_setOw (.plain rfl) rfl rfl (u := .int _ _) rfl rfl Ow.au (by first | omega | (simp only [List.length_set, ucells_length]; omega) | (simp; done)) (fun w2 hb2 hs2 c2 => ?_)
    refine L_nil ?_
    refine heldK (by exact ⟨_, Sl.au⟩) (fun hS => ?_)
    refine D_t 14 rfl (fun W hW => r_ix Try.underlying80 (show _ = some 1 from rfl) (by conv => lhs; whnf) rfl (by exact hW.choose_spec)) ?_
    refine D_ev 15 (by kernel_rfl) rfl ?_
    refine L_setOw (.plain rfl) rfl rfl (u := .int _ _) rfl rfl Ow.au (by first | omega | (simp only [List.length_set, ucells_length]; omega) | (simp; done)) (fun w3 hb3 hs3 c3 => ?_)
    refine L_nil ?_
    refine heldL ?_
    refine D_done (by kernel_rfl) ?_
    refine W_seq ?_
    have hD1 := dt_swp (by assumption : Ow w3 base 26 1 v X.length (((ucells X).set a (.int .u64 (gt X p : Int))).set p (.int .u64 (gt X a : Int))))
    have hR1 : Rg a b X (swp X a p) := Rg.swap X a p Rg.refl (by omega) (by omega) (by omega) (by omega) hb
    obtain ⟨Y, hY⟩ : ∃ x, x = swp X a p := ⟨_, rfl⟩
    rw [← hY] at hD1 hR1
    have hl1 := hR1.length
    obtain ⟨P, hP⟩ : ∃ x, x = gt Y a := ⟨_, rfl⟩
    refine W_region ?_
    refine L_r (r_mi rfl) ?_
    refine L_r (r_add rfl rfl (by first | exact wr_i64 (by omega) | rfl)) ?_
    refine L_r (r_mi rfl) ?_
    refine L_r (r_sub rfl rfl (by first | exact wr_i64 (by omega) | rfl)) ?_
    rw [show (b : Int) - 1 = ((b - 1 : Nat) : Int) by omega]
    refine L_r (r_ai rfl) ?_
    refine L_r (r_ai rfl) ?_
    refine L_nil ?_
    refine W_cutF [0, 1, 11] (fun f W => ∃ (i : Nat), f 10 = .int .i64 i ∧ (a < i ∧ i ≤ b ∧ Prt a b i (b - 1) P Y ∧ (i < b → ¬ gt Y i < P) ∧ Dt base W v Y ∧ DtC v w0 W)) ?_ ?_
    · refine W_block ?_
      refine W_loopF [0, 1, 11] (fun mz_ f W => ∃ (i : Nat), f 10 = .int .i64 i ∧ (a < i ∧ i ≤ b ∧ Prt a b i (b - 1) P Y ∧ Dt base W v Y ∧ DtC v w0 W) ∧ mz_ = b - i) ?_ ?_
      · refine ⟨_, a + 1, rfl, ?_, rfl⟩
        exact ⟨by omega, by omega, ⟨hP.symm, fun k k1 k2 => by omega, fun k k1 k2 => by omega⟩, Ow.au, Ch.au⟩
      rintro m0 g0 w4 ⟨i, hf10, hR0, rfl⟩
      refine W_as 10 hf10 rfl ?_
      clear hf10
      obtain ⟨hai, hib, hPr, hD1, hc⟩ := hR0
      have hz := hc.size
      refine W_seq ?_
      refine W_seq ?_
      refine W_draw (fun W => Dt base W v Y) 14 (m := 14) (by kernel_rfl) rfl (fun w5 c5 hs5 => ?_)
      refine held Ow.au (fun hS => ?_)
      refine D_t 0 rfl (fun W hW => r_mi rfl) ?_
      refine D_t 1 rfl (fun W hW => r_mi rfl) ?_
      refine D_t 2 rfl (fun W hW => r_leq rfl rfl) ?_
      refine D_t 3 rfl (fun W hW => r_mb rfl) ?_
      refine D_case (d := 33) rfl (fun h33 => ?_) (fun h33 => ?_)
      · refine D_g 4 rfl (fun W hW => r_mv) ?_
        refine D_g 5 rfl (fun W hW => r_mi rfl) ?_
        refine D_g 6 rfl (fun W hW => r_ix Try.underlying80 (show _ = some 1 from rfl) (by conv => lhs; whnf) rfl (by (first | exact hW.sl | exact hW))) ?_
        refine D_g 7 rfl (fun W hW => r_loadSl rfl rfl (by (first | exact hW.sl | exact hW)) (by first | assumption | exact ucells_gt _ _ (by omega) | (conv => lhs; simp only [List.getElem?_toArray, List.getElem?_cons_succ, List.getElem?_cons_zero]))) ?_
        refine D_g 8 rfl (fun W hW => r_mv) ?_
        refine D_g 9 rfl (fun W hW => r_mi rfl) ?_
        refine D_g 10 rfl (fun W hW => r_ix Try.underlying80 (show _ = some 1 from rfl) (by conv => lhs; whnf) rfl (by (first | exact hW.sl | exact hW))) ?_
        refine D_g 11 rfl (fun W hW => r_loadSl rfl rfl (by (first | exact hW.sl | exact hW)) (by first | assumption | exact ucells_gt _ _ (by omega) | (conv => lhs; simp only [List.getElem?_toArray, List.getElem?_cons_succ, List.getElem?_cons_zero]))) ?_
        refine D_ev 12 (by kernel_rfl) rfl ?_
        refine L_call (.yes 3 true rfl rfl) rfl rfl (r_call Try.func54 rfl rfl rfl (by rfl)) (less_walk (gt Y i) (gt Y a) _) ?_
        rintro v42 w6 ⟨rfl, c6⟩
        have hz6 := c6.size
        rw [← hP]
        refine L_nil ?_
        refine heldK Ow.au (fun hS => ?_)
        refine D_t 13 rfl (fun W hW => r_pt rfl rfl) ?_
        refine D_done (by kernel_rfl) ?_
        refine W_bool rfl (fun h43 => ?_) (fun h43 => ?_)
        · replace h43 := of_decide_eq_true h43
          refine W_skip ?_
          refine W_block ?_
          refine W_region ?_
          refine L_r (r_mi rfl) ?_
          refine L_r (r_add rfl rfl (by first | exact wr_i64 (by omega) | rfl)) ?_
          refine L_r (r_ai rfl) ?_
          refine L_nil ?_
          refine ⟨⟨rfl, rfl, rfl, trivial⟩, _, ?_, i + 1, rfl, ?_, rfl⟩
          · omega
          exact ⟨by omega, by omega, ⟨hPr.piv, fun k k1 k2 => by rcases Nat.lt_or_ge k i with h | h; exact hPr.lo k k1 h; (have e : k = i := by omega); rw [e]; omega, hPr.hi⟩, Ow.au, Ch.au⟩
        · try (replace h43 := of_decide_eq_false h43)
          refine W_exit ?_
          repeat (first | refine blk_hit ?_ | refine blk_miss rfl ?_)
          refine ⟨⟨rfl, rfl, rfl, trivial⟩, i, rfl, ?_⟩
          first
          | exact ⟨hai, hib, hPr, fun h => by omega, Ow.au, Ch.au⟩
          | exact ⟨hai, hib, hPr, fun h => h43, Ow.au, Ch.au⟩
      · refine D_ps 4 rfl ?_
        refine D_ps 5 rfl ?_
        refine D_ps 6 rfl ?_
        refine D_ps 7 rfl ?_
        refine D_ps 8 rfl ?_
        refine D_ps 9 rfl ?_
        refine D_ps 10 rfl ?_
        refine D_ps 11 rfl ?_
        refine D_ps 12 rfl ?_
        refine D_t 13 rfl (fun W hW => r_pf rfl rfl) ?_
        refine D_done (by kernel_rfl) ?_
        refine W_false rfl ?_
        refine W_exit ?_
        repeat (first | refine blk_hit ?_ | refine blk_miss rfl ?_)
        refine ⟨⟨rfl, rfl, rfl, trivial⟩, i, rfl, ?_⟩
        first
        | exact ⟨hai, hib, hPr, fun h => by omega, Ow.au, Ch.au⟩
        | exact ⟨hai, hib, hPr, fun h => h43, Ow.au, Ch.au⟩
    rintro gcb0 w7 ⟨i, hf10, hCb0⟩
    refine W_as 10 hf10 rfl ?_
    clear hf10
    obtain ⟨hai, hib, hPr, hni, hD1, hc⟩ := hCb0
    have hz := hc.size
    refine W_cutF [0, 1, 10] (fun f W => ∃ (j : Nat), f 11 = .int .i64 j ∧ (i ≤ j + 1 ∧ j < b ∧ Prt a b i j P Y ∧ (i ≤ j → gt Y j < P) ∧ Dt base W v Y ∧ DtC v w0 W)) ?_ ?_
    · refine W_block ?_
      refine W_loopF [0, 1, 10] (fun mz_ f W => ∃ (j : Nat), f 11 = .int .i64 j ∧ (i ≤ j + 1 ∧ j < b ∧ Prt a b i j P Y ∧ Dt base W v Y ∧ DtC v w0 W) ∧ mz_ = j + 1) ?_ ?_
      · refine ⟨_, b - 1, rfl, ?_, rfl⟩
        exact ⟨by omega, by omega, hPr, Ow.au, Ch.au⟩
      rintro m1 g1 w8 ⟨j, hf11, hR1, rfl⟩
      refine W_as 11 hf11 rfl ?_
      clear hf11
      obtain ⟨hij, hjb, hPj, hD1, hc⟩ := hR1
      have hz := hc.size
      refine W_seq ?_
      refine W_seq ?_
      refine W_draw (fun W => Dt base W v Y) 15 (m := 15) (by kernel_rfl) rfl (fun w9 c9 hs9 => ?_)
      refine held Ow.au (fun hS => ?_)
      refine D_t 0 rfl (fun W hW => r_mi rfl) ?_
      refine D_t 1 rfl (fun W hW => r_mi rfl) ?_
      refine D_t 2 rfl (fun W hW => r_leq rfl rfl) ?_
      refine D_t 3 rfl (fun W hW => r_mb rfl) ?_
      refine D_case (d := 49) rfl (fun h49 => ?_) (fun h49 => ?_)
      · refine D_g 4 rfl (fun W hW => r_mv) ?_
        refine D_g 5 rfl (fun W hW => r_mi rfl) ?_
        refine D_g 6 rfl (fun W hW => r_ix Try.underlying80 (show _ = some 1 from rfl) (by conv => lhs; whnf) rfl (by (first | exact hW.sl | exact hW))) ?_
        refine D_g 7 rfl (fun W hW => r_loadSl rfl rfl (by (first | exact hW.sl | exact hW)) (by first | assumption | exact ucells_gt _ _ (by omega) | (conv => lhs; simp only [List.getElem?_toArray, List.getElem?_cons_succ, List.getElem?_cons_zero]))) ?_
        refine D_g 8 rfl (fun W hW => r_mv) ?_
        refine D_g 9 rfl (fun W hW => r_mi rfl) ?_
        refine D_g 10 rfl (fun W hW => r_ix Try.underlying80 (show _ = some 1 from rfl) (by conv => lhs; whnf) rfl (by (first | exact hW.sl | exact hW))) ?_
        refine D_g 11 rfl (fun W hW => r_loadSl rfl rfl (by (first | exact hW.sl | exact hW)) (by first | assumption | exact ucells_gt _ _ (by omega) | (conv => lhs; simp only [List.getElem?_toArray, List.getElem?_cons_succ, List.getElem?_cons_zero]))) ?_
        refine D_ev 12 (by kernel_rfl) rfl ?_
        refine L_call (.yes 3 true rfl rfl) rfl rfl (r_call Try.func54 rfl rfl rfl (by rfl)) (less_walk (gt Y j) (gt Y a) _) ?_
        rintro v58 w10 ⟨rfl, c10⟩
        have hz10 := c10.size
        rw [← hP]
        refine L_nil ?_
        refine heldK Ow.au (fun hS => ?_)
        refine D_g 13 rfl (fun W hW => r_not rfl) ?_
        refine D_t 14 rfl (fun W hW => r_pt rfl rfl) ?_
        refine D_done (by kernel_rfl) ?_
        refine W_bool rfl (fun h60 => ?_) (fun h60 => ?_)
        · replace h60 : ¬ gt Y j < P := by simpa using h60
          refine W_skip ?_
          refine W_block ?_
          refine W_region ?_
          refine L_r (r_mi rfl) ?_
          refine L_r (r_sub rfl rfl (by first | exact wr_i64 (by omega) | rfl)) ?_
          refine L_r (r_ai rfl) ?_
          refine L_nil ?_
          refine ⟨⟨rfl, rfl, rfl, trivial⟩, _, ?_, j - 1, (by exact congrArg (Value.int .i64) (by omega)), ?_, rfl⟩
          · omega
          exact ⟨by omega, by omega, ⟨hPj.piv, hPj.lo, fun k k1 k2 => by rcases Nat.lt_or_ge j k with h | h; exact hPj.hi k h k2; (have e : k = j := by omega); rw [e]; omega⟩, Ow.au, Ch.au⟩
        · try (replace h60 : gt Y j < P := by simpa using h60)
          refine W_exit ?_
          repeat (first | refine blk_hit ?_ | refine blk_miss rfl ?_)
          refine ⟨⟨rfl, rfl, rfl, trivial⟩, j, rfl, ?_⟩
          first
          | exact ⟨hij, hjb, hPj, fun h => by omega, Ow.au, Ch.au⟩
          | exact ⟨hij, hjb, hPj, fun h => h60, Ow.au, Ch.au⟩
      · refine D_ps 4 rfl ?_
        refine D_ps 5 rfl ?_
        refine D_ps 6 rfl ?_
        refine D_ps 7 rfl ?_
        refine D_ps 8 rfl ?_
        refine D_ps 9 rfl ?_
        refine D_ps 10 rfl ?_
        refine D_ps 11 rfl ?_
        refine D_ps 12 rfl ?_
        refine D_ps 13 rfl ?_
        refine D_t 14 rfl (fun W hW => r_pf rfl rfl) ?_
        refine D_done (by kernel_rfl) ?_
        refine W_false rfl ?_
        refine W_exit ?_
        repeat (first | refine blk_hit ?_ | refine blk_miss rfl ?_)
        refine ⟨⟨rfl, rfl, rfl, trivial⟩, j, rfl, ?_⟩
        first
        | exact ⟨hij, hjb, hPj, fun h => by omega, Ow.au, Ch.au⟩
        | exact ⟨hij, hjb, hPj, fun h => h60, Ow.au, Ch.au⟩
    rintro gcb2 w11 ⟨j, hf11, hCb2⟩
    refine W_as 11 hf11 rfl ?_
    clear hf11
    obtain ⟨hij, hjb, hPj, hnj, hD1, hc⟩ := hCb2
    have hz := hc.size
    refine W_seq ?_
    refine W_seq ?_
    refine W_region ?_
    refine L_r (r_mi rfl) ?_
    refine L_r (r_mi rfl) ?_
    refine L_r (r_gtr rfl rfl) ?_
    refine L_nil ?_
    refine W_if rfl (fun h65 => ?_) (fun h65 => ?_)
    · refine W_seq ?_
      refine W_draw (fun W => ∃ xs, Sl W v 1 Y.length xs) 15 (m := 16) (by kernel_rfl) rfl (fun w12 c12 hs12 => ?_)
      refine held (by exact ⟨_, Sl.au⟩) (fun hS => ?_)
      refine D_t 0 rfl (fun W hW => r_mv) ?_
      refine D_t 1 rfl (fun W hW => r_mi rfl) ?_
      refine D_t 2 rfl (fun W hW => r_mv) ?_
      refine D_t 3 rfl (fun W hW => r_mi rfl) ?_
      refine D_t 4 rfl (fun W hW => r_mv) ?_
      refine D_t 5 rfl (fun W hW => r_mi rfl) ?_
      refine D_t 6 rfl (fun W hW => r_ix Try.underlying80 (show _ = some 1 from rfl) (by conv => lhs; whnf) rfl (by exact hW.choose_spec)) ?_
      refine D_t 8 rfl (fun W hW => r_mv) ?_
      refine D_t 9 rfl (fun W hW => r_mi rfl) ?_
      refine D_t 10 rfl (fun W hW => r_ix Try.underlying80 (show _ = some 1 from rfl) (by conv => lhs; whnf) rfl (by exact hW.choose_spec)) ?_
      refine D_ev2 7 11 (by kernel_rfl) rfl rfl ?_ ?_
      · refine L_r (r_loadSl rfl rfl Sl.au (by first | assumption | exact ucells_gt _ _ (by omega) | (conv => lhs; simp only [List.getElem?_toArray, List.getElem?_cons_succ, List.getElem?_cons_zero]))) ?_
        refine L_nil ?_
        refine heldK (by exact ⟨_, Sl.au⟩) (fun hS => ?_)
        refine D_ev 11 (by kernel_rfl) rfl ?_
        refine L_r (r_loadSl rfl rfl Sl.au (by first | assumption | exact ucells_gt _ _ (by omega) | (conv => lhs; simp only [List.getElem?_toArray, List.getElem?_cons_succ, List.getElem?_cons_zero]))) ?_
        refine L_nil ?_
        refine heldK (by exact ⟨_, Sl.au⟩) (fun hS => ?_)
        refine D_t 12 rfl (fun W hW => r_ix Try.underlying80 (show _ = some 1 from rfl) (by conv => lhs; whnf) rfl (by exact hW.choose_spec)) ?_
        refine D_ev 13 (by kernel_rfl) rfl ?_
        refine L_setOw (.plain rfl) rfl rfl (u := .int _ _) rfl rfl Ow.au (by first | omega | (simp only [List.length_set, ucells_length]; omega) | (simp; done)) (fun w13 hb13 hs13 c13 => ?_)
        refine L_nil ?_
        refine heldK (by exact ⟨_, Sl.au⟩) (fun hS => ?_)
        refine D_t 14 rfl (fun W hW => r_ix Try.underlying80 (show _ = some 1 from rfl) (by conv => lhs; whnf) rfl (by exact hW.choose_spec)) ?_
        refine D_ev 15 (by kernel_rfl) rfl ?_
        refine L_setOw (.plain rfl) rfl rfl (u := .int _ _) rfl rfl Ow.au (by first | omega | (simp only [List.length_set, ucells_length]; omega) | (simp; done)) (fun w14 hb14 hs14 c14 => ?_)
        refine L_nil ?_
        refine heldL ?_
        refine D_done (by kernel_rfl) ?_
        refine W_seq ?_
        have hDf := dt_swp (by assumption : Ow w14 base 26 1 v Y.length (((ucells Y).set j (.int .u64 (gt Y a : Int))).set a (.int .u64 (gt Y j : Int))))
        have hRf : Rg a b X (swp Y j a) := hR1.trans (Rg.swap Y j a Rg.refl (by omega) (by omega) (by omega) (by omega) (by omega))
        have hCf := hPj.done (by omega) (by omega) hjb (by omega)
        refine W_region ?_
        refine L_r (r_mi rfl) ?_
        refine L_r (r_ai rfl) ?_
        refine L_r (r_ab rfl) ?_
        refine L_nil ?_
        refine W_ret ?_
        refine ret2 (u := .int _ _) (v := .bool _) rfl rfl rfl ?_
        first
        | exact ⟨j3, false, rfl, by omega, by omega, ⟨_, Ow.au, hRf, hCf⟩, Ch.au⟩
        | exact ⟨j, true, rfl, by omega, by omega, ⟨_, Ow.au, hRf, hCf⟩, Ch.au⟩
      · refine L_r (r_loadSl rfl rfl Sl.au (by first | assumption | exact ucells_gt _ _ (by omega) | (conv => lhs; simp only [List.getElem?_toArray, List.getElem?_cons_succ, List.getElem?_cons_zero]))) ?_
        refine L_nil ?_
        refine heldK (by exact ⟨_, Sl.au⟩) (fun hS => ?_)
        refine D_ev 7 (by kernel_rfl) rfl ?_
        refine L_r (r_loadSl rfl rfl Sl.au (by first | assumption | exact ucells_gt _ _ (by omega) | (conv => lhs; simp only [List.getElem?_toArray, List.getElem?_cons_succ, List.getElem?_cons_zero]))) ?_
        refine L_nil ?_
        refine heldK (by exact ⟨_, Sl.au⟩) (fun hS => ?_)
        refine D_t 12 rfl (fun W hW => r_ix Try.underlying80 (show _ = some 1 from rfl) (by conv => lhs; whnf) rfl (by exact hW.choose_spec)) ?_
        refine D_ev 13 (by kernel_rfl) rfl ?_
        refine L_setOw (.plain rfl) rfl rfl (u := .int _ _) rfl rfl Ow.au (by first | omega | (simp only [List.length_set, ucells_length]; omega) | (simp; done)) (fun w15 hb15 hs15 c15 => ?_)
        refine L_nil ?_
        refine heldK (by exact ⟨_, Sl.au⟩) (fun hS => ?_)
        refine D_t 14 rfl (fun W hW => r_ix Try.underlying80 (show _ = some 1 from rfl) (by conv => lhs; whnf) rfl (by exact hW.choose_spec)) ?_
        refine D_ev 15 (by kernel_rfl) rfl ?_
        refine L_setOw (.plain rfl) rfl rfl (u := .int _ _) rfl rfl Ow.au (by first | omega | (simp only [List.length_set, ucells_length]; omega) | (simp; done)) (fun w16 hb16 hs16 c16 => ?_)
        refine L_nil ?_
        refine heldL ?_
        refine D_done (by kernel_rfl) ?_
        refine W_seq ?_
        have hDf := dt_swp (by assumption : Ow w16 base 26 1 v Y.length (((ucells Y).set j (.int .u64 (gt Y a : Int))).set a (.int .u64 (gt Y j : Int))))
        have hRf : Rg a b X (swp Y j a) := hR1.trans (Rg.swap Y j a Rg.refl (by omega) (by omega) (by omega) (by omega) (by omega))
        have hCf := hPj.done (by omega) (by omega) hjb (by omega)
        refine W_region ?_
        refine L_r (r_mi rfl) ?_
        refine L_r (r_ai rfl) ?_
        refine L_r (r_ab rfl) ?_
        refine L_nil ?_
        refine W_ret ?_
        refine ret2 (u := .int _ _) (v := .bool _) rfl rfl rfl ?_
        first
        | exact ⟨j3, false, rfl, by omega, by omega, ⟨_, Ow.au, hRf, hCf⟩, Ch.au⟩
        | exact ⟨j, true, rfl, by omega, by omega, ⟨_, Ow.au, hRf, hCf⟩, Ch.au⟩
    · refine W_skip ?_
      refine W_seq ?_
      refine W_draw (fun W => ∃ xs, Sl W v 1 Y.length xs) 15 (m := 16) (by kernel_rfl) rfl (fun w17 c17 hs17 => ?_)
      refine held (by exact ⟨_, Sl.au⟩) (fun hS => ?_)
      refine D_t 0 rfl (fun W hW => r_mv) ?_
      refine D_t 1 rfl (fun W hW => r_mi rfl) ?_
      refine D_t 2 rfl (fun W hW => r_mv) ?_
      refine D_t 3 rfl (fun W hW => r_mi rfl) ?_
      refine D_t 4 rfl (fun W hW => r_mv) ?_
      refine D_t 5 rfl (fun W hW => r_mi rfl) ?_
      refine D_t 6 rfl (fun W hW => r_ix Try.underlying80 (show _ = some 1 from rfl) (by conv => lhs; whnf) rfl (by exact hW.choose_spec)) ?_
      refine D_t 8 rfl (fun W hW => r_mv) ?_
      refine D_t 9 rfl (fun W hW => r_mi rfl) ?_
      refine D_t 10 rfl (fun W hW => r_ix Try.underlying80 (show _ = some 1 from rfl) (by conv => lhs; whnf) rfl (by exact hW.choose_spec)) ?_
      refine D_ev2 7 11 (by kernel_rfl) rfl rfl ?_ ?_
      · refine L_r (r_loadSl rfl rfl Sl.au (by first | assumption | exact ucells_gt _ _ (by omega) | (conv => lhs; simp only [List.getElem?_toArray, List.getElem?_cons_succ, List.getElem?_cons_zero]))) ?_
        refine L_nil ?_
        refine heldK (by exact ⟨_, Sl.au⟩) (fun hS => ?_)
        refine D_ev 11 (by kernel_rfl) rfl ?_
        refine L_r (r_loadSl rfl rfl Sl.au (by first | assumption | exact ucells_gt _ _ (by omega) | (conv => lhs; simp only [List.getElem?_toArray, List.getElem?_cons_succ, List.getElem?_cons_zero]))) ?_
        refine L_nil ?_
        refine heldK (by exact ⟨_, Sl.au⟩) (fun hS => ?_)
        refine D_t 12 rfl (fun W hW => r_ix Try.underlying80 (show _ = some 1 from rfl) (by conv => lhs; whnf) rfl (by exact hW.choose_spec)) ?_
        refine D_ev 13 (by kernel_rfl) rfl ?_
        refine L_setOw (.plain rfl) rfl rfl (u := .int _ _) rfl rfl Ow.au (by first | omega | (simp only [List.length_set, ucells_length]; omega) | (simp; done)) (fun w18 hb18 hs18 c18 => ?_)
        refine L_nil ?_
        refine heldK (by exact ⟨_, Sl.au⟩) (fun hS => ?_)
        refine D_t 14 rfl (fun W hW => r_ix Try.underlying80 (show _ = some 1 from rfl) (by conv => lhs; whnf) rfl (by exact hW.choose_spec)) ?_
        refine D_ev 15 (by kernel_rfl) rfl ?_
        refine L_setOw (.plain rfl) rfl rfl (u := .int _ _) rfl rfl Ow.au (by first | omega | (simp only [List.length_set, ucells_length]; omega) | (simp; done)) (fun w19 hb19 hs19 c19 => ?_)
        refine L_nil ?_
        refine heldL ?_
        refine D_done (by kernel_rfl) ?_
        refine W_seq ?_
        have hD2 := dt_swp (by assumption : Ow w19 base 26 1 v Y.length (((ucells Y).set i (.int .u64 (gt Y j : Int))).set j (.int .u64 (gt Y i : Int))))
        obtain ⟨hP2, hlt2⟩ := hPj.swap hai (by omega) hjb (by omega) (hni (by omega)) (hnj (by omega))
        have hR2 : Rg a b X (swp Y i j) := hR1.trans (Rg.swap Y i j Rg.refl (by omega) (by omega) (by omega) (by omega) (by omega))
        obtain ⟨Z, hZ⟩ : ∃ x, x = swp Y i j := ⟨_, rfl⟩
        rw [← hZ] at hD2 hP2 hR2
        refine W_region ?_
        refine L_r (r_mi rfl) ?_
        refine L_r (r_add rfl rfl (by first | exact wr_i64 (by omega) | rfl)) ?_
        refine L_r (r_ai rfl) ?_
        refine L_nil ?_
        refine W_seq ?_
        refine W_region ?_
        refine L_r (r_mi rfl) ?_
        refine L_r (r_sub rfl rfl (by first | exact wr_i64 (by omega) | rfl)) ?_
        refine L_r (r_ai rfl) ?_
        refine L_nil ?_
        refine W_seq ?_
        refine W_block ?_
        refine W_loopF [0, 1] (fun mz_ f W => ∃ (i2 : Nat) (j2 : Nat) (Z : List Nat), f 10 = .int .i64 i2 ∧ f 11 = .int .i64 j2 ∧ (a < i2 ∧ i2 ≤ j2 + 1 ∧ j2 < b ∧ Prt a b i2 j2 P Z ∧ Dt base W v Z ∧ Rg a b X Z ∧ DtC v w0 W) ∧ mz_ = j2 + 2 - i2) ?_ ?_
        · refine ⟨_, i + 1, j - 1, Z, rfl, (by exact congrArg (Value.int .i64) (by omega)), ?_, rfl⟩
          exact ⟨by omega, by omega, by omega, hP2, Ow.au, hR2, Ch.au⟩
        rintro m2 g2 w20 ⟨i2, j2, Z, hf10, hf11, hR2, rfl⟩
        refine W_as 10 hf10 rfl ?_
        refine W_as 11 hf11 rfl ?_
        clear hf10 hf11
        obtain ⟨ha2, hij2, hjb2, hP2, hD2, hR2, hc⟩ := hR2
        have hz := hc.size
        have hl2 := hR2.length
        refine W_block ?_
        refine W_cutF [0, 1, 11] (fun f W => ∃ (i3 : Nat), f 10 = .int .i64 i3 ∧ ((a < i3 ∧ i2 ≤ i3) ∧ i3 ≤ j2 + 1 ∧ Prt a b i3 j2 P Z ∧ (i3 ≤ j2 → ¬ gt Z i3 < P) ∧ Dt base W v Z ∧ DtC v w0 W)) ?_ ?_
        · refine W_block ?_
          refine W_loopF [0, 1, 11] (fun mz_ f W => ∃ (i3 : Nat), f 10 = .int .i64 i3 ∧ ((a < i3 ∧ i2 ≤ i3) ∧ i3 ≤ j2 + 1 ∧ Prt a b i3 j2 P Z ∧ Dt base W v Z ∧ DtC v w0 W) ∧ mz_ = j2 + 1 - i3) ?_ ?_
          · refine ⟨_, i2, rfl, ?_, rfl⟩
            exact ⟨by omega, by omega, hP2, Ow.au, Ch.au⟩
          rintro m3 g3 w21 ⟨i3, hf10, hR3, rfl⟩
          refine W_as 10 hf10 rfl ?_
          clear hf10
          obtain ⟨ha3, hi3, hP2, hD2, hc⟩ := hR3
          have hz := hc.size
          refine W_seq ?_
          refine W_seq ?_
          refine W_draw (fun W => Dt base W v Z) 14 (m := 14) (by kernel_rfl) rfl (fun w22 c22 hs22 => ?_)
          refine held Ow.au (fun hS => ?_)
          refine D_t 0 rfl (fun W hW => r_mi rfl) ?_
          refine D_t 1 rfl (fun W hW => r_mi rfl) ?_
          refine D_t 2 rfl (fun W hW => r_leq rfl rfl) ?_
          refine D_t 3 rfl (fun W hW => r_mb rfl) ?_
          refine D_case (d := 102) rfl (fun h102 => ?_) (fun h102 => ?_)
          · refine D_g 4 rfl (fun W hW => r_mv) ?_
            refine D_g 5 rfl (fun W hW => r_mi rfl) ?_
            refine D_g 6 rfl (fun W hW => r_ix Try.underlying80 (show _ = some 1 from rfl) (by conv => lhs; whnf) rfl (by (first | exact hW.sl | exact hW))) ?_
            refine D_g 7 rfl (fun W hW => r_loadSl rfl rfl (by (first | exact hW.sl | exact hW)) (by first | assumption | exact ucells_gt _ _ (by omega) | (conv => lhs; simp only [List.getElem?_toArray, List.getElem?_cons_succ, List.getElem?_cons_zero]))) ?_
            refine D_g 8 rfl (fun W hW => r_mv) ?_
            refine D_g 9 rfl (fun W hW => r_mi rfl) ?_
            refine D_g 10 rfl (fun W hW => r_ix Try.underlying80 (show _ = some 1 from rfl) (by conv => lhs; whnf) rfl (by (first | exact hW.sl | exact hW))) ?_
            refine D_g 11 rfl (fun W hW => r_loadSl rfl rfl (by (first | exact hW.sl | exact hW)) (by first | assumption | exact ucells_gt _ _ (by omega) | (conv => lhs; simp only [List.getElem?_toArray, List.getElem?_cons_succ, List.getElem?_cons_zero]))) ?_
            refine D_ev 12 (by kernel_rfl) rfl ?_
            refine L_call (.yes 3 true rfl rfl) rfl rfl (r_call Try.func54 rfl rfl rfl (by rfl)) (less_walk (gt Z i3) (gt Z a) _) ?_
            rintro v111 w23 ⟨rfl, c23⟩
            have hz23 := c23.size
            rw [hP2.piv]
            refine L_nil ?_
            refine heldK Ow.au (fun hS => ?_)
            refine D_t 13 rfl (fun W hW => r_pt rfl rfl) ?_
            refine D_done (by kernel_rfl) ?_
            refine W_bool rfl (fun h112 => ?_) (fun h112 => ?_)
            · replace h112 := of_decide_eq_true h112
              refine W_skip ?_
              refine W_block ?_
              refine W_region ?_
              refine L_r (r_mi rfl) ?_
              refine L_r (r_add rfl rfl (by first | exact wr_i64 (by omega) | rfl)) ?_
              refine L_r (r_ai rfl) ?_
              refine L_nil ?_
              refine ⟨⟨rfl, rfl, rfl, trivial⟩, _, ?_, i3 + 1, rfl, ?_, rfl⟩
              · omega
              exact ⟨by omega, by omega, ⟨hP2.piv, fun k k1 k2 => by rcases Nat.lt_or_ge k i3 with h | h; exact hP2.lo k k1 h; (have e : k = i3 := by omega); rw [e]; omega, hP2.hi⟩, Ow.au, Ch.au⟩
            · try (replace h112 := of_decide_eq_false h112)
              refine W_exit ?_
              repeat (first | refine blk_hit ?_ | refine blk_miss rfl ?_)
              refine ⟨⟨rfl, rfl, rfl, trivial⟩, i3, rfl, ?_⟩
              first
              | exact ⟨ha3, hi3, hP2, fun h => by omega, Ow.au, Ch.au⟩
              | exact ⟨ha3, hi3, hP2, fun h => h112, Ow.au, Ch.au⟩
          · refine D_ps 4 rfl ?_
            refine D_ps 5 rfl ?_
            refine D_ps 6 rfl ?_
            refine D_ps 7 rfl ?_
            refine D_ps 8 rfl ?_
            refine D_ps 9 rfl ?_
            refine D_ps 10 rfl ?_
            refine D_ps 11 rfl ?_
            refine D_ps 12 rfl ?_
            refine D_t 13 rfl (fun W hW => r_pf rfl rfl) ?_
            refine D_done (by kernel_rfl) ?_
            refine W_false rfl ?_
            refine W_exit ?_
            repeat (first | refine blk_hit ?_ | refine blk_miss rfl ?_)
            refine ⟨⟨rfl, rfl, rfl, trivial⟩, i3, rfl, ?_⟩
            first
            | exact ⟨ha3, hi3, hP2, fun h => by omega, Ow.au, Ch.au⟩
            | exact ⟨ha3, hi3, hP2, fun h => h112, Ow.au, Ch.au⟩
        rintro gcb6 w24 ⟨i3, hf10, hCb6⟩
        refine W_as 10 hf10 rfl ?_
        clear hf10
        obtain ⟨ha3, hi3, hP2, hni3, hD2, hc⟩ := hCb6
        have hz := hc.size
        refine W_cutF [0, 1, 10] (fun f W => ∃ (j3 : Nat), f 11 = .int .i64 j3 ∧ (i3 ≤ j3 + 1 ∧ j3 ≤ j2 ∧ Prt a b i3 j3 P Z ∧ (i3 ≤ j3 → gt Z j3 < P) ∧ Dt base W v Z ∧ DtC v w0 W)) ?_ ?_
        · refine W_block ?_
          refine W_loopF [0, 1, 10] (fun mz_ f W => ∃ (j3 : Nat), f 11 = .int .i64 j3 ∧ (i3 ≤ j3 + 1 ∧ j3 ≤ j2 ∧ Prt a b i3 j3 P Z ∧ Dt base W v Z ∧ DtC v w0 W) ∧ mz_ = j3 + 1) ?_ ?_
          · refine ⟨_, j2, rfl, ?_, rfl⟩
            exact ⟨by omega, by omega, hP2, Ow.au, Ch.au⟩
          rintro m4 g4 w25 ⟨j3, hf11, hR4, rfl⟩
          refine W_as 11 hf11 rfl ?_
          clear hf11
          obtain ⟨hij3, hjb3, hPj, hD2, hc⟩ := hR4
          have hz := hc.size
          refine W_seq ?_
          refine W_seq ?_
          refine W_draw (fun W => Dt base W v Z) 15 (m := 15) (by kernel_rfl) rfl (fun w26 c26 hs26 => ?_)
          refine held Ow.au (fun hS => ?_)
          refine D_t 0 rfl (fun W hW => r_mi rfl) ?_
          refine D_t 1 rfl (fun W hW => r_mi rfl) ?_
          refine D_t 2 rfl (fun W hW => r_leq rfl rfl) ?_
          refine D_t 3 rfl (fun W hW => r_mb rfl) ?_
          refine D_case (d := 118) rfl (fun h118 => ?_) (fun h118 => ?_)
          · refine D_g 4 rfl (fun W hW => r_mv) ?_
            refine D_g 5 rfl (fun W hW => r_mi rfl) ?_
            refine D_g 6 rfl (fun W hW => r_ix Try.underlying80 (show _ = some 1 from rfl) (by conv => lhs; whnf) rfl (by (first | exact hW.sl | exact hW))) ?_
            refine D_g 7 rfl (fun W hW => r_loadSl rfl rfl (by (first | exact hW.sl | exact hW)) (by first | assumption | exact ucells_gt _ _ (by omega) | (conv => lhs; simp only [List.getElem?_toArray, List.getElem?_cons_succ, List.getElem?_cons_zero]))) ?_
            refine D_g 8 rfl (fun W hW => r_mv) ?_
            refine D_g 9 rfl (fun W hW => r_mi rfl) ?_
            refine D_g 10 rfl (fun W hW => r_ix Try.underlying80 (show _ = some 1 from rfl) (by conv => lhs; whnf) rfl (by (first | exact hW.sl | exact hW))) ?_
            refine D_g 11 rfl (fun W hW => r_loadSl rfl rfl (by (first | exact hW.sl | exact hW)) (by first | assumption | exact ucells_gt _ _ (by omega) | (conv => lhs; simp only [List.getElem?_toArray, List.getElem?_cons_succ, List.getElem?_cons_zero]))) ?_
            refine D_ev 12 (by kernel_rfl) rfl ?_
            refine L_call (.yes 3 true rfl rfl) rfl rfl (r_call Try.func54 rfl rfl rfl (by rfl)) (less_walk (gt Z j3) (gt Z a) _) ?_
            rintro v127 w27 ⟨rfl, c27⟩
            have hz27 := c27.size
            rw [hPj.piv]
            refine L_nil ?_
            refine heldK Ow.au (fun hS => ?_)
            refine D_g 13 rfl (fun W hW => r_not rfl) ?_
            refine D_t 14 rfl (fun W hW => r_pt rfl rfl) ?_
            refine D_done (by kernel_rfl) ?_
            refine W_bool rfl (fun h129 => ?_) (fun h129 => ?_)
            · replace h129 : ¬ gt Z j3 < P := by simpa using h129
              refine W_skip ?_
              refine W_block ?_
              refine W_region ?_
              refine L_r (r_mi rfl) ?_
              refine L_r (r_sub rfl rfl (by first | exact wr_i64 (by omega) | rfl)) ?_
              refine L_r (r_ai rfl) ?_
              refine L_nil ?_
              refine ⟨⟨rfl, rfl, rfl, trivial⟩, _, ?_, j3 - 1, (by exact congrArg (Value.int .i64) (by omega)), ?_, rfl⟩
              · omega
              exact ⟨by omega, by omega, ⟨hPj.piv, hPj.lo, fun k k1 k2 => by rcases Nat.lt_or_ge j3 k with h | h; exact hPj.hi k h k2; (have e : k = j3 := by omega); rw [e]; omega⟩, Ow.au, Ch.au⟩
            · try (replace h129 : gt Z j3 < P := by simpa using h129)
              refine W_exit ?_
              repeat (first | refine blk_hit ?_ | refine blk_miss rfl ?_)
              refine ⟨⟨rfl, rfl, rfl, trivial⟩, j3, rfl, ?_⟩
              first
              | exact ⟨hij3, hjb3, hPj, fun h => by omega, Ow.au, Ch.au⟩
              | exact ⟨hij3, hjb3, hPj, fun h => h129, Ow.au, Ch.au⟩
          · refine D_ps 4 rfl ?_
            refine D_ps 5 rfl ?_
            refine D_ps 6 rfl ?_
            refine D_ps 7 rfl ?_
            refine D_ps 8 rfl ?_
            refine D_ps 9 rfl ?_
            refine D_ps 10 rfl ?_
            refine D_ps 11 rfl ?_
            refine D_ps 12 rfl ?_
            refine D_ps 13 rfl ?_
            refine D_t 14 rfl (fun W hW => r_pf rfl rfl) ?_
            refine D_done (by kernel_rfl) ?_
            refine W_false rfl ?_
            refine W_exit ?_
            repeat (first | refine blk_hit ?_ | refine blk_miss rfl ?_)
            refine ⟨⟨rfl, rfl, rfl, trivial⟩, j3, rfl, ?_⟩
            first
            | exact ⟨hij3, hjb3, hPj, fun h => by omega, Ow.au, Ch.au⟩
            | exact ⟨hij3, hjb3, hPj, fun h => h129, Ow.au, Ch.au⟩
        rintro gcb8 w28 ⟨j3, hf11, hCb8⟩
        refine W_as 11 hf11 rfl ?_
        clear hf11
        obtain ⟨hij3, hjb3, hPj, hnj3, hD2, hc⟩ := hCb8
        have hz := hc.size
        refine W_seq ?_
        refine W_seq ?_
        refine W_region ?_
        refine L_r (r_mi rfl) ?_
        refine L_r (r_mi rfl) ?_
        refine L_r (r_gtr rfl rfl) ?_
        refine L_nil ?_
        refine W_if rfl (fun h134 => ?_) (fun h134 => ?_)
        · refine W_exit ?_
          repeat (first | refine blk_hit ?_ | refine blk_miss rfl ?_)
          refine W_seq ?_
          refine W_draw (fun W => ∃ xs, Sl W v 1 Z.length xs) 15 (m := 16) (by kernel_rfl) rfl (fun w29 c29 hs29 => ?_)
          refine held (by exact ⟨_, Sl.au⟩) (fun hS => ?_)
          refine D_t 0 rfl (fun W hW => r_mv) ?_
          refine D_t 1 rfl (fun W hW => r_mi rfl) ?_
          refine D_t 2 rfl (fun W hW => r_mv) ?_
          refine D_t 3 rfl (fun W hW => r_mi rfl) ?_
          refine D_t 4 rfl (fun W hW => r_mv) ?_
          refine D_t 5 rfl (fun W hW => r_mi rfl) ?_
          refine D_t 6 rfl (fun W hW => r_ix Try.underlying80 (show _ = some 1 from rfl) (by conv => lhs; whnf) rfl (by exact hW.choose_spec)) ?_
          refine D_t 8 rfl (fun W hW => r_mv) ?_
          refine D_t 9 rfl (fun W hW => r_mi rfl) ?_
          refine D_t 10 rfl (fun W hW => r_ix Try.underlying80 (show _ = some 1 from rfl) (by conv => lhs; whnf) rfl (by exact hW.choose_spec)) ?_
          refine D_ev2 7 11 (by kernel_rfl) rfl rfl ?_ ?_
          · refine L_r (r_loadSl rfl rfl Sl.au (by first | assumption | exact ucells_gt _ _ (by omega) | (conv => lhs; simp only [List.getElem?_toArray, List.getElem?_cons_succ, List.getElem?_cons_zero]))) ?_
            refine L_nil ?_
            refine heldK (by exact ⟨_, Sl.au⟩) (fun hS => ?_)
            refine D_ev 11 (by kernel_rfl) rfl ?_
            refine L_r (r_loadSl rfl rfl Sl.au (by first | assumption | exact ucells_gt _ _ (by omega) | (conv => lhs; simp only [List.getElem?_toArray, List.getElem?_cons_succ, List.getElem?_cons_zero]))) ?_
            refine L_nil ?_
            refine heldK (by exact ⟨_, Sl.au⟩) (fun hS => ?_)
            refine D_t 12 rfl (fun W hW => r_ix Try.underlying80 (show _ = some 1 from rfl) (by conv => lhs; whnf) rfl (by exact hW.choose_spec)) ?_
            refine D_ev 13 (by kernel_rfl) rfl ?_
            refine L_setOw (.plain rfl) rfl rfl (u := .int _ _) rfl rfl Ow.au (by first | omega | (simp only [List.length_set, ucells_length]; omega) | (simp; done)) (fun w30 hb30 hs30 c30 => ?_)
            refine L_nil ?_
            refine heldK (by exact ⟨_, Sl.au⟩) (fun hS => ?_)
            refine D_t 14 rfl (fun W hW => r_ix Try.underlying80 (show _ = some 1 from rfl) (by conv => lhs; whnf) rfl (by exact hW.choose_spec)) ?_
            refine D_ev 15 (by kernel_rfl) rfl ?_
            refine L_setOw (.plain rfl) rfl rfl (u := .int _ _) rfl rfl Ow.au (by first | omega | (simp only [List.length_set, ucells_length]; omega) | (simp; done)) (fun w31 hb31 hs31 c31 => ?_)
            refine L_nil ?_
            refine heldL ?_
            refine D_done (by kernel_rfl) ?_
            refine W_seq ?_
            have hDf := dt_swp (by assumption : Ow w31 base 26 1 v Z.length (((ucells Z).set j3 (.int .u64 (gt Z a : Int))).set a (.int .u64 (gt Z j3 : Int))))
            have hRf : Rg a b X (swp Z j3 a) := hR2.trans (Rg.swap Z j3 a Rg.refl (by omega) (by omega) (by omega) (by omega) (by omega))
            have hCf := hPj.done (by omega) (by omega) (by omega) (by omega)
            refine W_region ?_
            refine L_r (r_mi rfl) ?_
            refine L_r (r_ai rfl) ?_
            refine L_r (r_ab rfl) ?_
            refine L_nil ?_
            refine W_ret ?_
            refine ret2 (u := .int _ _) (v := .bool _) rfl rfl rfl ?_
            first
            | exact ⟨j3, false, rfl, by omega, by omega, ⟨_, Ow.au, hRf, hCf⟩, Ch.au⟩
            | exact ⟨j, true, rfl, by omega, by omega, ⟨_, Ow.au, hRf, hCf⟩, Ch.au⟩
          · refine L_r (r_loadSl rfl rfl Sl.au (by first | assumption | exact ucells_gt _ _ (by omega) | (conv => lhs; simp only [List.getElem?_toArray, List.getElem?_cons_succ, List.getElem?_cons_zero]))) ?_
            refine L_nil ?_
            refine heldK (by exact ⟨_, Sl.au⟩) (fun hS => ?_)
            refine D_ev 7 (by kernel_rfl) rfl ?_
            refine L_r (r_loadSl rfl rfl Sl.au (by first | assumption | exact ucells_gt _ _ (by omega) | (conv => lhs; simp only [List.getElem?_toArray, List.getElem?_cons_succ, List.getElem?_cons_zero]))) ?_
            refine L_nil ?_
            refine heldK (by exact ⟨_, Sl.au⟩) (fun hS => ?_)
            refine D_t 12 rfl (fun W hW => r_ix Try.underlying80 (show _ = some 1 from rfl) (by conv => lhs; whnf) rfl (by exact hW.choose_spec)) ?_
            refine D_ev 13 (by kernel_rfl) rfl ?_
            refine L_setOw (.plain rfl) rfl rfl (u := .int _ _) rfl rfl Ow.au (by first | omega | (simp only [List.length_set, ucells_length]; omega) | (simp; done)) (fun w32 hb32 hs32 c32 => ?_)
            refine L_nil ?_
            refine heldK (by exact ⟨_, Sl.au⟩) (fun hS => ?_)
            refine D_t 14 rfl (fun W hW => r_ix Try.underlying80 (show _ = some 1 from rfl) (by conv => lhs; whnf) rfl (by exact hW.choose_spec)) ?_
            refine D_ev 15 (by kernel_rfl) rfl ?_
            refine L_setOw (.plain rfl) rfl rfl (u := .int _ _) rfl rfl Ow.au (by first | omega | (simp only [List.length_set, ucells_length]; omega) | (simp; done)) (fun w33 hb33 hs33 c33 => ?_)
            refine L_nil ?_
            refine heldL ?_
            refine D_done (by kernel_rfl) ?_
            refine W_seq ?_
            have hDf := dt_swp (by assumption : Ow w33 base 26 1 v Z.length (((ucells Z).set j3 (.int .u64 (gt Z a : Int))).set a (.int .u64 (gt Z j3 : Int))))
            have hRf : Rg a b X (swp Z j3 a) := hR2.trans (Rg.swap Z j3 a Rg.refl (by omega) (by omega) (by omega) (by omega) (by omega))
            have hCf := hPj.done (by omega) (by omega) (by omega) (by omega)
            refine W_region ?_
            refine L_r (r_mi rfl) ?_
            refine L_r (r_ai rfl) ?_
            refine L_r (r_ab rfl) ?_
            refine L_nil ?_
            refine W_ret ?_
            refine ret2 (u := .int _ _) (v := .bool _) rfl rfl rfl ?_
            first
            | exact ⟨j3, false, rfl, by omega, by omega, ⟨_, Ow.au, hRf, hCf⟩, Ch.au⟩
            | exact ⟨j, true, rfl, by omega, by omega, ⟨_, Ow.au, hRf, hCf⟩, Ch.au⟩
        · refine W_skip ?_
          refine W_seq ?_
          refine W_draw (fun W => ∃ xs, Sl W v 1 Z.length xs) 15 (m := 16) (by kernel_rfl) rfl (fun w34 c34 hs34 => ?_)
          refine held (by exact ⟨_, Sl.au⟩) (fun hS => ?_)
          refine D_t 0 rfl (fun W hW => r_mv) ?_
          refine D_t 1 rfl (fun W hW => r_mi rfl) ?_
          refine D_t 2 rfl (fun W hW => r_mv) ?_
          refine D_t 3 rfl (fun W hW => r_mi rfl) ?_
          refine D_t 4 rfl (fun W hW => r_mv) ?_
          refine D_t 5 rfl (fun W hW => r_mi rfl) ?_
          refine D_t 6 rfl (fun W hW => r_ix Try.underlying80 (show _ = some 1 from rfl) (by conv => lhs; whnf) rfl (by exact hW.choose_spec)) ?_
          refine D_t 8 rfl (fun W hW => r_mv) ?_
          refine D_t 9 rfl (fun W hW => r_mi rfl) ?_
          refine D_t 10 rfl (fun W hW => r_ix Try.underlying80 (show _ = some 1 from rfl) (by conv => lhs; whnf) rfl (by exact hW.choose_spec)) ?_
          refine D_ev2 7 11 (by kernel_rfl) rfl rfl ?_ ?_
          · refine L_r (r_loadSl rfl rfl Sl.au (by first | assumption | exact ucells_gt _ _ (by omega) | (conv => lhs; simp only [List.getElem?_toArray, List.getElem?_cons_succ, List.getElem?_cons_zero]))) ?_
            refine L_nil ?_
            refine heldK (by exact ⟨_, Sl.au⟩) (fun hS => ?_)
            refine D_ev 11 (by kernel_rfl) rfl ?_
            refine L_r (r_loadSl rfl rfl Sl.au (by first | assumption | exact ucells_gt _ _ (by omega) | (conv => lhs; simp only [List.getElem?_toArray, List.getElem?_cons_succ, List.getElem?_cons_zero]))) ?_
            refine L_nil ?_
            refine heldK (by exact ⟨_, Sl.au⟩) (fun hS => ?_)
            refine D_t 12 rfl (fun W hW => r_ix Try.underlying80 (show _ = some 1 from rfl) (by conv => lhs; whnf) rfl (by exact hW.choose_spec)) ?_
            refine D_ev 13 (by kernel_rfl) rfl ?_
            refine L_setOw (.plain rfl) rfl rfl (u := .int _ _) rfl rfl Ow.au (by first | omega | (simp only [List.length_set, ucells_length]; omega) | (simp; done)) (fun w35 hb35 hs35 c35 => ?_)
            refine L_nil ?_
            refine heldK (by exact ⟨_, Sl.au⟩) (fun hS => ?_)
            refine D_t 14 rfl (fun W hW => r_ix Try.underlying80 (show _ = some 1 from rfl) (by conv => lhs; whnf) rfl (by exact hW.choose_spec)) ?_
            refine D_ev 15 (by kernel_rfl) rfl ?_
            refine L_setOw (.plain rfl) rfl rfl (u := .int _ _) rfl rfl Ow.au (by first | omega | (simp only [List.length_set, ucells_length]; omega) | (simp; done)) (fun w36 hb36 hs36 c36 => ?_)
            refine L_nil ?_
            refine heldL ?_
            refine D_done (by kernel_rfl) ?_
            refine W_seq ?_
            have hD3 := dt_swp (by assumption : Ow w36 base 26 1 v Z.length (((ucells Z).set i3 (.int .u64 (gt Z j3 : Int))).set j3 (.int .u64 (gt Z i3 : Int))))
            obtain ⟨hP3, hlt3⟩ := hPj.swap ha3.1 (by omega) (by omega) (by omega) (hni3 (by omega)) (hnj3 (by omega))
            have hR3 : Rg a b X (swp Z i3 j3) := hR2.trans (Rg.swap Z i3 j3 Rg.refl (by omega) (by omega) (by omega) (by omega) (by omega))
            obtain ⟨Z1, hZ1⟩ : ∃ x, x = swp Z i3 j3 := ⟨_, rfl⟩
            rw [← hZ1] at hD3 hP3 hR3
            refine W_region ?_
            refine L_r (r_mi rfl) ?_
            refine L_r (r_add rfl rfl (by first | exact wr_i64 (by omega) | rfl)) ?_
            refine L_r (r_ai rfl) ?_
            refine L_nil ?_
            refine W_region ?_
            refine L_r (r_mi rfl) ?_
            refine L_r (r_sub rfl rfl (by first | exact wr_i64 (by omega) | rfl)) ?_
            refine L_r (r_ai rfl) ?_
            refine L_nil ?_
            refine ⟨⟨rfl, rfl, trivial⟩, _, ?_, i3 + 1, j3 - 1, Z1, rfl, (by exact congrArg (Value.int .i64) (by omega)), ?_, rfl⟩
            · omega
            exact ⟨by omega, by omega, by omega, hP3, Ow.au, hR3, Ch.au⟩
          · refine L_r (r_loadSl rfl rfl Sl.au (by first | assumption | exact ucells_gt _ _ (by omega) | (conv => lhs; simp only [List.getElem?_toArray, List.getElem?_cons_succ, List.getElem?_cons_zero]))) ?_
            refine L_nil ?_
            refine heldK (by exact ⟨_, Sl.au⟩) (fun hS => ?_)
            refine D_ev 7 (by kernel_rfl) rfl ?_
            refine L_r (r_loadSl rfl rfl Sl.au (by first | assumption | exact ucells_gt _ _ (by omega) | (conv => lhs; simp only [List.getElem?_toArray, List.getElem?_cons_succ, List.getElem?_cons_zero]))) ?_
            refine L_nil ?_
            refine heldK (by exact ⟨_, Sl.au⟩) (fun hS => ?_)
            refine D_t 12 rfl (fun W hW => r_ix Try.underlying80 (show _ = some 1 from rfl) (by conv => lhs; whnf) rfl (by exact hW.choose_spec)) ?_
            refine D_ev 13 (by kernel_rfl) rfl ?_
            refine L_setOw (.plain rfl) rfl rfl (u := .int _ _) rfl rfl Ow.au (by first | omega | (simp only [List.length_set, ucells_length]; omega) | (simp; done)) (fun w37 hb37 hs37 c37 => ?_)
            refine L_nil ?_
            refine heldK (by exact ⟨_, Sl.au⟩) (fun hS => ?_)
            refine D_t 14 rfl (fun W hW => r_ix Try.underlying80 (show _ = some 1 from rfl) (by conv => lhs; whnf) rfl (by exact hW.choose_spec)) ?_
            refine D_ev 15 (by kernel_rfl) rfl ?_
            refine L_setOw (.plain rfl) rfl rfl (u := .int _ _) rfl rfl Ow.au (by first | omega | (simp only [List.length_set, ucells_length]; omega) | (simp; done)) (fun w38 hb38 hs38 c38 => ?_)
            refine L_nil ?_
            refine heldL ?_
            refine D_done (by kernel_rfl) ?_
            refine W_seq ?_
            have hD3 := dt_swp (by assumption : Ow w38 base 26 1 v Z.length (((ucells Z).set i3 (.int .u64 (gt Z j3 : Int))).set j3 (.int .u64 (gt Z i3 : Int))))
            obtain ⟨hP3, hlt3⟩ := hPj.swap ha3.1 (by omega) (by omega) (by omega) (hni3 (by omega)) (hnj3 (by omega))
            have hR3 : Rg a b X (swp Z i3 j3) := hR2.trans (Rg.swap Z i3 j3 Rg.refl (by omega) (by omega) (by omega) (by omega) (by omega))
            obtain ⟨Z1, hZ1⟩ : ∃ x, x = swp Z i3 j3 := ⟨_, rfl⟩
            rw [← hZ1] at hD3 hP3 hR3
            refine W_region ?_
            refine L_r (r_mi rfl) ?_
            refine L_r (r_add rfl rfl (by first | exact wr_i64 (by omega) | rfl)) ?_
            refine L_r (r_ai rfl) ?_
            refine L_nil ?_
            refine W_region ?_
            refine L_r (r_mi rfl) ?_
            refine L_r (r_sub rfl rfl (by first | exact wr_i64 (by omega) | rfl)) ?_
            refine L_r (r_ai rfl) ?_
            refine L_nil ?_
            refine ⟨⟨rfl, rfl, trivial⟩, _, ?_, i3 + 1, j3 - 1, Z1, rfl, (by exact congrArg (Value.int .i64) (by omega)), ?_, rfl⟩
            · omega
            exact ⟨by omega, by omega, by omega, hP3, Ow.au, hR3, Ch.au⟩
      · refine L_r (r_loadSl rfl rfl Sl.au (by first | assumption | exact ucells_gt _ _ (by omega) | (conv => lhs; simp only [List.getElem?_toArray, List.getElem?_cons_succ, List.getElem?_cons_zero]))) ?_
        refine L_nil ?_
        refine heldK (by exact ⟨_, Sl.au⟩) (fun hS => ?_)
        refine D_ev 7 (by kernel_rfl) rfl ?_
        refine L_r (r_loadSl rfl rfl Sl.au (by first | assumption | exact ucells_gt _ _ (by omega) | (conv => lhs; simp only [List.getElem?_toArray, List.getElem?_cons_succ, List.getElem?_cons_zero]))) ?_
        refine L_nil ?_
        refine heldK (by exact ⟨_, Sl.au⟩) (fun hS => ?_)
        refine D_t 12 rfl (fun W hW => r_ix Try.underlying80 (show _ = some 1 from rfl) (by conv => lhs; whnf) rfl (by exact hW.choose_spec)) ?_
        refine D_ev 13 (by kernel_rfl) rfl ?_
        refine L_setOw (.plain rfl) rfl rfl (u := .int _ _) rfl rfl Ow.au (by first | omega | (simp only [List.length_set, ucells_length]; omega) | (simp; done)) (fun w39 hb39 hs39 c39 => ?_)
        refine L_nil ?_
        refine heldK (by exact ⟨_, Sl.au⟩) (fun hS => ?_)
        refine D_t 14 rfl (fun W hW => r_ix Try.underlying80 (show _ = some 1 from rfl) (by conv => lhs; whnf) rfl (by exact hW.choose_spec)) ?_
        refine D_ev 15 (by kernel_rfl) rfl ?_
        refine L_setOw (.plain rfl) rfl rfl (u := .int _ _) rfl rfl Ow.au (by first | omega | (simp only [List.length_set, ucells_length]; omega) | (simp; done)) (fun w40 hb40 hs40 c40 => ?_)
        refine L_nil ?_
        refine heldL ?_
        refine D_done (by kernel_rfl) ?_
        refine W_seq ?_
        have hD2 := dt_swp (by assumption : Ow w40 base 26 1 v Y.length (((ucells Y).set i (.int .u64 (gt Y j : Int))).set j (.int .u64 (gt Y i : Int))))
        obtain ⟨hP2, hlt2⟩ := hPj.swap hai (by omega) hjb (by omega) (hni (by omega)) (hnj (by omega))
        have hR2 : Rg a b X (swp Y i j) := hR1.trans (Rg.swap Y i j Rg.refl (by omega) (by omega) (by omega) (by omega) (by omega))
        obtain ⟨Z, hZ⟩ : ∃ x, x = swp Y i j := ⟨_, rfl⟩
        rw [← hZ] at hD2 hP2 hR2
        refine W_region ?_
        refine L_r (r_mi rfl) ?_
        refine L_r (r_add rfl rfl (by first | exact wr_i64 (by omega) | rfl)) ?_
        refine L_r (r_ai rfl) ?_
        refine L_nil ?_
        refine W_seq ?_
        refine W_region ?_
        refine L_r (r_mi rfl) ?_
        refine L_r (r_sub rfl rfl (by first | exact wr_i64 (by omega) | rfl)) ?_
        refine L_r (r_ai rfl) ?_
        refine L_nil ?_
        refine W_seq ?_
        refine W_block ?_
        refine W_loopF [0, 1] (fun mz_ f W => ∃ (i2 : Nat) (j2 : Nat) (Z : List Nat), f 10 = .int .i64 i2 ∧ f 11 = .int .i64 j2 ∧ (a < i2 ∧ i2 ≤ j2 + 1 ∧ j2 < b ∧ Prt a b i2 j2 P Z ∧ Dt base W v Z ∧ Rg a b X Z ∧ DtC v w0 W) ∧ mz_ = j2 + 2 - i2) ?_ ?_
        · refine ⟨_, i + 1, j - 1, Z, rfl, (by exact congrArg (Value.int .i64) (by omega)), ?_, rfl⟩
          exact ⟨by omega, by omega, by omega, hP2, Ow.au, hR2, Ch.au⟩
        rintro m2 g2 w41 ⟨i2, j2, Z, hf10, hf11, hR2, rfl⟩
        refine W_as 10 hf10 rfl ?_
        refine W_as 11 hf11 rfl ?_
        clear hf10 hf11
        obtain ⟨ha2, hij2, hjb2, hP2, hD2, hR2, hc⟩ := hR2
        have hz := hc.size
        have hl2 := hR2.length
        refine W_block ?_
        refine W_cutF [0, 1, 11] (fun f W => ∃ (i3 : Nat), f 10 = .int .i64 i3 ∧ ((a < i3 ∧ i2 ≤ i3) ∧ i3 ≤ j2 + 1 ∧ Prt a b i3 j2 P Z ∧ (i3 ≤ j2 → ¬ gt Z i3 < P) ∧ Dt base W v Z ∧ DtC v w0 W)) ?_ ?_
        · refine W_block ?_
          refine W_loopF [0, 1, 11] (fun mz_ f W => ∃ (i3 : Nat), f 10 = .int .i64 i3 ∧ ((a < i3 ∧ i2 ≤ i3) ∧ i3 ≤ j2 + 1 ∧ Prt a b i3 j2 P Z ∧ Dt base W v Z ∧ DtC v w0 W) ∧ mz_ = j2 + 1 - i3) ?_ ?_
          · refine ⟨_, i2, rfl, ?_, rfl⟩
            exact ⟨by omega, by omega, hP2, Ow.au, Ch.au⟩
          rintro m3 g3 w42 ⟨i3, hf10, hR3, rfl⟩
          refine W_as 10 hf10 rfl ?_
          clear hf10
          obtain ⟨ha3, hi3, hP2, hD2, hc⟩ := hR3
          have hz := hc.size
          refine W_seq ?_
          refine W_seq ?_
          refine W_draw (fun W => Dt base W v Z) 14 (m := 14) (by kernel_rfl) rfl (fun w43 c43 hs43 => ?_)
          refine held Ow.au (fun hS => ?_)
          refine D_t 0 rfl (fun W hW => r_mi rfl) ?_
          refine D_t 1 rfl (fun W hW => r_mi rfl) ?_
          refine D_t 2 rfl (fun W hW => r_leq rfl rfl) ?_
          refine D_t 3 rfl (fun W hW => r_mb rfl) ?_
          refine D_case (d := 102) rfl (fun h102 => ?_) (fun h102 => ?_)
          · refine D_g 4 rfl (fun W hW => r_mv) ?_
            refine D_g 5 rfl (fun W hW => r_mi rfl) ?_
            refine D_g 6 rfl (fun W hW => r_ix Try.underlying80 (show _ = some 1 from rfl) (by conv => lhs; whnf) rfl (by (first | exact hW.sl | exact hW))) ?_
            refine D_g 7 rfl (fun W hW => r_loadSl rfl rfl (by (first | exact hW.sl | exact hW)) (by first | assumption | exact ucells_gt _ _ (by omega) | (conv => lhs; simp only [List.getElem?_toArray, List.getElem?_cons_succ, List.getElem?_cons_zero]))) ?_
            refine D_g 8 rfl (fun W hW => r_mv) ?_
            refine D_g 9 rfl (fun W hW => r_mi rfl) ?_
            refine D_g 10 rfl (fun W hW => r_ix Try.underlying80 (show _ = some 1 from rfl) (by conv => lhs; whnf) rfl (by (first | exact hW.sl | exact hW))) ?_
            refine D_g 11 rfl (fun W hW => r_loadSl rfl rfl (by (first | exact hW.sl | exact hW)) (by first | assumption | exact ucells_gt _ _ (by omega) | (conv => lhs; simp only [List.getElem?_toArray, List.getElem?_cons_succ, List.getElem?_cons_zero]))) ?_
            refine D_ev 12 (by kernel_rfl) rfl ?_
            refine L_call (.yes 3 true rfl rfl) rfl rfl (r_call Try.func54 rfl rfl rfl (by rfl)) (less_walk (gt Z i3) (gt Z a) _) ?_
            rintro v111 w44 ⟨rfl, c44⟩
            have hz44 := c44.size
            rw [hP2.piv]
            refine L_nil ?_
            refine heldK Ow.au (fun hS => ?_)
            refine D_t 13 rfl (fun W hW => r_pt rfl rfl) ?_
            refine D_done (by kernel_rfl) ?_
            refine W_bool rfl (fun h112 => ?_) (fun h112 => ?_)
            · replace h112 := of_decide_eq_true h112
              refine W_skip ?_
              refine W_block ?_
              refine W_region ?_
              refine L_r (r_mi rfl) ?_
              refine L_r (r_add rfl rfl (by first | exact wr_i64 (by omega) | rfl)) ?_
              refine L_r (r_ai rfl) ?_
              refine L_nil ?_
              refine ⟨⟨rfl, rfl, rfl, trivial⟩, _, ?_, i3 + 1, rfl, ?_, rfl⟩
              · omega
              exact ⟨by omega, by omega, ⟨hP2.piv, fun k k1 k2 => by rcases Nat.lt_or_ge k i3 with h | h; exact hP2.lo k k1 h; (have e : k = i3 := by omega); rw [e]; omega, hP2.hi⟩, Ow.au, Ch.au⟩
            · try (replace h112 := of_decide_eq_false h112)
              refine W_exit ?_
              repeat (first | refine blk_hit ?_ | refine blk_miss rfl ?_)
              refine ⟨⟨rfl, rfl, rfl, trivial⟩, i3, rfl, ?_⟩
              first
              | exact ⟨ha3, hi3, hP2, fun h => by omega, Ow.au, Ch.au⟩
              | exact ⟨ha3, hi3, hP2, fun h => h112, Ow.au, Ch.au⟩
          · refine D_ps 4 rfl ?_
            refine D_ps 5 rfl ?_
            refine D_ps 6 rfl ?_
            refine D_ps 7 rfl ?_
            refine D_ps 8 rfl ?_
            refine D_ps 9 rfl ?_
            refine D_ps 10 rfl ?_
            refine D_ps 11 rfl ?_
            refine D_ps 12 rfl ?_
            refine D_t 13 rfl (fun W hW => r_pf rfl rfl) ?_
            refine D_done (by kernel_rfl) ?_
            refine W_false rfl ?_
            refine W_exit ?_
            repeat (first | refine blk_hit ?_ | refine blk_miss rfl ?_)
            refine ⟨⟨rfl, rfl, rfl, trivial⟩, i3, rfl, ?_⟩
            first
            | exact ⟨ha3, hi3, hP2, fun h => by omega, Ow.au, Ch.au⟩
            | exact ⟨ha3, hi3, hP2, fun h => h112, Ow.au, Ch.au⟩
        rintro gcb6 w45 ⟨i3, hf10, hCb6⟩
        refine W_as 10 hf10 rfl ?_
        clear hf10
        obtain ⟨ha3, hi3, hP2, hni3, hD2, hc⟩ := hCb6
        have hz := hc.size
        refine W_cutF [0, 1, 10] (fun f W => ∃ (j3 : Nat), f 11 = .int .i64 j3 ∧ (i3 ≤ j3 + 1 ∧ j3 ≤ j2 ∧ Prt a b i3 j3 P Z ∧ (i3 ≤ j3 → gt Z j3 < P) ∧ Dt base W v Z ∧ DtC v w0 W)) ?_ ?_
        · refine W_block ?_
          refine W_loopF [0, 1, 10] (fun mz_ f W => ∃ (j3 : Nat), f 11 = .int .i64 j3 ∧ (i3 ≤ j3 + 1 ∧ j3 ≤ j2 ∧ Prt a b i3 j3 P Z ∧ Dt base W v Z ∧ DtC v w0 W) ∧ mz_ = j3 + 1) ?_ ?_
          · refine ⟨_, j2, rfl, ?_, rfl⟩
            exact ⟨by omega, by omega, hP2, Ow.au, Ch.au⟩
          rintro m4 g4 w46 ⟨j3, hf11, hR4, rfl⟩
          refine W_as 11 hf11 rfl ?_
          clear hf11
          obtain ⟨hij3, hjb3, hPj, hD2, hc⟩ := hR4
          have hz := hc.size
          refine W_seq ?_
          refine W_seq ?_
          refine W_draw (fun W => Dt base W v Z) 15 (m := 15) (by kernel_rfl) rfl (fun w47 c47 hs47 => ?_)
          refine held Ow.au (fun hS => ?_)
          refine D_t 0 rfl (fun W hW => r_mi rfl) ?_
          refine D_t 1 rfl (fun W hW => r_mi rfl) ?_
          refine D_t 2 rfl (fun W hW => r_leq rfl rfl) ?_
          refine D_t 3 rfl (fun W hW => r_mb rfl) ?_
          refine D_case (d := 118) rfl (fun h118 => ?_) (fun h118 => ?_)
          · refine D_g 4 rfl (fun W hW => r_mv) ?_
            refine D_g 5 rfl (fun W hW => r_mi rfl) ?_
            refine D_g 6 rfl (fun W hW => r_ix Try.underlying80 (show _ = some 1 from rfl) (by conv => lhs; whnf) rfl (by (first | exact hW.sl | exact hW))) ?_
            refine D_g 7 rfl (fun W hW => r_loadSl rfl rfl (by (first | exact hW.sl | exact hW)) (by first | assumption | exact ucells_gt _ _ (by omega) | (conv => lhs; simp only [List.getElem?_toArray, List.getElem?_cons_succ, List.getElem?_cons_zero]))) ?_
            refine D_g 8 rfl (fun W hW => r_mv) ?_
            refine D_g 9 rfl (fun W hW => r_mi rfl) ?_
            refine D_g 10 rfl (fun W hW => r_ix Try.underlying80 (show _ = some 1 from rfl) (by conv => lhs; whnf) rfl (by (first | exact hW.sl | exact hW))) ?_
            refine D_g 11 rfl (fun W hW => r_loadSl rfl rfl (by (first | exact hW.sl | exact hW)) (by first | assumption | exact ucells_gt _ _ (by omega) | (conv => lhs; simp only [List.getElem?_toArray, List.getElem?_cons_succ, List.getElem?_cons_zero]))) ?_
            refine D_ev 12 (by kernel_rfl) rfl ?_
            refine L_call (.yes 3 true rfl rfl) rfl rfl (r_call Try.func54 rfl rfl rfl (by rfl)) (less_walk (gt Z j3) (gt Z a) _) ?_
            rintro v127 w48 ⟨rfl, c48⟩
            have hz48 := c48.size
            rw [hPj.piv]
            refine L_nil ?_
            refine heldK Ow.au (fun hS => ?_)
            refine D_g 13 rfl (fun W hW => r_not rfl) ?_
            refine D_t 14 rfl (fun W hW => r_pt rfl rfl) ?_
            refine D_done (by kernel_rfl) ?_
            refine W_bool rfl (fun h129 => ?_) (fun h129 => ?_)
            · replace h129 : ¬ gt Z j3 < P := by simpa using h129
              refine W_skip ?_
              refine W_block ?_
              refine W_region ?_
              refine L_r (r_mi rfl) ?_
              refine L_r (r_sub rfl rfl (by first | exact wr_i64 (by omega) | rfl)) ?_
              refine L_r (r_ai rfl) ?_
              refine L_nil ?_
              refine ⟨⟨rfl, rfl, rfl, trivial⟩, _, ?_, j3 - 1, (by exact congrArg (Value.int .i64) (by omega)), ?_, rfl⟩
              · omega
              exact ⟨by omega, by omega, ⟨hPj.piv, hPj.lo, fun k k1 k2 => by rcases Nat.lt_or_ge j3 k with h | h; exact hPj.hi k h k2; (have e : k = j3 := by omega); rw [e]; omega⟩, Ow.au, Ch.au⟩
            · try (replace h129 : gt Z j3 < P := by simpa using h129)
              refine W_exit ?_
              repeat (first | refine blk_hit ?_ | refine blk_miss rfl ?_)
              refine ⟨⟨rfl, rfl, rfl, trivial⟩, j3, rfl, ?_⟩
              first
              | exact ⟨hij3, hjb3, hPj, fun h => by omega, Ow.au, Ch.au⟩
              | exact ⟨hij3, hjb3, hPj, fun h => h129, Ow.au, Ch.au⟩
          · refine D_ps 4 rfl ?_
            refine D_ps 5 rfl ?_
            refine D_ps 6 rfl ?_
            refine D_ps 7 rfl ?_
            refine D_ps 8 rfl ?_
            refine D_ps 9 rfl ?_
            refine D_ps 10 rfl ?_
            refine D_ps 11 rfl ?_
            refine D_ps 12 rfl ?_
            refine D_ps 13 rfl ?_
            refine D_t 14 rfl (fun W hW => r_pf rfl rfl) ?_
            refine D_done (by kernel_rfl) ?_
            refine W_false rfl ?_
            refine W_exit ?_
            repeat (first | refine blk_hit ?_ | refine blk_miss rfl ?_)
            refine ⟨⟨rfl, rfl, rfl, trivial⟩, j3, rfl, ?_⟩
            first
            | exact ⟨hij3, hjb3, hPj, fun h => by omega, Ow.au, Ch.au⟩
            | exact ⟨hij3, hjb3, hPj, fun h => h129, Ow.au, Ch.au⟩
        rintro gcb8 w49 ⟨j3, hf11, hCb8⟩
        refine W_as 11 hf11 rfl ?_
        clear hf11
        obtain ⟨hij3, hjb3, hPj, hnj3, hD2, hc⟩ := hCb8
        have hz := hc.size
        refine W_seq ?_
        refine W_seq ?_
        refine W_region ?_
        refine L_r (r_mi rfl) ?_
        refine L_r (r_mi rfl) ?_
        refine L_r (r_gtr rfl rfl) ?_
        refine L_nil ?_
        refine W_if rfl (fun h134 => ?_) (fun h134 => ?_)
        · refine W_exit ?_
          repeat (first | refine blk_hit ?_ | refine blk_miss rfl ?_)
          refine W_seq ?_
          refine W_draw (fun W => ∃ xs, Sl W v 1 Z.length xs) 15 (m := 16) (by kernel_rfl) rfl (fun w50 c50 hs50 => ?_)
          refine held (by exact ⟨_, Sl.au⟩) (fun hS => ?_)
          refine D_t 0 rfl (fun W hW => r_mv) ?_
          refine D_t 1 rfl (fun W hW => r_mi rfl) ?_
          refine D_t 2 rfl (fun W hW => r_mv) ?_
          refine D_t 3 rfl (fun W hW => r_mi rfl) ?_
          refine D_t 4 rfl (fun W hW => r_mv) ?_
          refine D_t 5 rfl (fun W hW => r_mi rfl) ?_
          refine D_t 6 rfl (fun W hW => r_ix Try.underlying80 (show _ = some 1 from rfl) (by conv => lhs; whnf) rfl (by exact hW.choose_spec)) ?_
          refine D_t 8 rfl (fun W hW => r_mv) ?_
          refine D_t 9 rfl (fun W hW => r_mi rfl) ?_
          refine D_t 10 rfl (fun W hW => r_ix Try.underlying80 (show _ = some 1 from rfl) (by conv => lhs; whnf) rfl (by exact hW.choose_spec)) ?_
          refine D_ev2 7 11 (by kernel_rfl) rfl rfl ?_ ?_
          · refine L_r (r_loadSl rfl rfl Sl.au (by first | assumption | exact ucells_gt _ _ (by omega) | (conv => lhs; simp only [List.getElem?_toArray, List.getElem?_cons_succ, List.getElem?_cons_zero]))) ?_
            refine L_nil ?_
            refine heldK (by exact ⟨_, Sl.au⟩) (fun hS => ?_)
            refine D_ev 11 (by kernel_rfl) rfl ?_
            refine L_r (r_loadSl rfl rfl Sl.au (by first | assumption | exact ucells_gt _ _ (by omega) | (conv => lhs; simp only [List.getElem?_toArray, List.getElem?_cons_succ, List.getElem?_cons_zero]))) ?_
            refine L_nil ?_
            refine heldK (by exact ⟨_, Sl.au⟩) (fun hS => ?_)
            refine D_t 12 rfl (fun W hW => r_ix Try.underlying80 (show _ = some 1 from rfl) (by conv => lhs; whnf) rfl (by exact hW.choose_spec)) ?_
            refine D_ev 13 (by kernel_rfl) rfl ?_
            refine L_setOw (.plain rfl) rfl rfl (u := .int _ _) rfl rfl Ow.au (by first | omega | (simp only [List.length_set, ucells_length]; omega) | (simp; done)) (fun w51 hb51 hs51 c51 => ?_)
            refine L_nil ?_
            refine heldK (by exact ⟨_, Sl.au⟩) (fun hS => ?_)
            refine D_t 14 rfl (fun W hW => r_ix Try.underlying80 (show _ = some 1 from rfl) (by conv => lhs; whnf) rfl (by exact hW.choose_spec)) ?_
            refine D_ev 15 (by kernel_rfl) rfl ?_
            refine L_setOw (.plain rfl) rfl rfl (u := .int _ _) rfl rfl Ow.au (by first | omega | (simp only [List.length_set, ucells_length]; omega) | (simp; done)) (fun w52 hb52 hs52 c52 => ?_)
            refine L_nil ?_
            refine heldL ?_
            refine D_done (by kernel_rfl) ?_
            refine W_seq ?_
            have hDf := dt_swp (by assumption : Ow w52 base 26 1 v Z.length (((ucells Z).set j3 (.int .u64 (gt Z a : Int))).set a (.int .u64 (gt Z j3 : Int))))
            have hRf : Rg a b X (swp Z j3 a) := hR2.trans (Rg.swap Z j3 a Rg.refl (by omega) (by omega) (by omega) (by omega) (by omega))
            have hCf := hPj.done (by omega) (by omega) (by omega) (by omega)
            refine W_region ?_
            refine L_r (r_mi rfl) ?_
            refine L_r (r_ai rfl) ?_
            refine L_r (r_ab rfl) ?_
            refine L_nil ?_
            refine W_ret ?_
            refine ret2 (u := .int _ _) (v := .bool _) rfl rfl rfl ?_
            first
            | exact ⟨j3, false, rfl, by omega, by omega, ⟨_, Ow.au, hRf, hCf⟩, Ch.au⟩
            | exact ⟨j, true, rfl, by omega, by omega, ⟨_, Ow.au, hRf, hCf⟩, Ch.au⟩
          · refine L_r (r_loadSl rfl rfl Sl.au (by first | assumption | exact ucells_gt _ _ (by omega) | (conv => lhs; simp only [List.getElem?_toArray, List.getElem?_cons_succ, List.getElem?_cons_zero]))) ?_
            refine L_nil ?_
            refine heldK (by exact ⟨_, Sl.au⟩) (fun hS => ?_)
            refine D_ev 7 (by kernel_rfl) rfl ?_
            refine L_r (r_loadSl rfl rfl Sl.au (by first | assumption | exact ucells_gt _ _ (by omega) | (conv => lhs; simp only [List.getElem?_toArray, List.getElem?_cons_succ, List.getElem?_cons_zero]))) ?_
            refine L_nil ?_
            refine heldK (by exact ⟨_, Sl.au⟩) (fun hS => ?_)
            refine D_t 12 rfl (fun W hW => r_ix Try.underlying80 (show _ = some 1 from rfl) (by conv => lhs; whnf) rfl (by exact hW.choose_spec)) ?_
            refine D_ev 13 (by kernel_rfl) rfl ?_
            refine L_setOw (.plain rfl) rfl rfl (u := .int _ _) rfl rfl Ow.au (by first | omega | (simp only [List.length_set, ucells_length]; omega) | (simp; done)) (fun w53 hb53 hs53 c53 => ?_)
            refine L_nil ?_
            refine heldK (by exact ⟨_, Sl.au⟩) (fun hS => ?_)
            refine D_t 14 rfl (fun W hW => r_ix Try.underlying80 (show _ = some 1 from rfl) (by conv => lhs; whnf) rfl (by exact hW.choose_spec)) ?_
            refine D_ev 15 (by kernel_rfl) rfl ?_
            refine L_setOw (.plain rfl) rfl rfl (u := .int _ _) rfl rfl Ow.au (by first | omega | (simp only [List.length_set, ucells_length]; omega) | (simp; done)) (fun w54 hb54 hs54 c54 => ?_)
            refine L_nil ?_
            refine heldL ?_
            refine D_done (by kernel_rfl) ?_
            refine W_seq ?_
            have hDf := dt_swp (by assumption : Ow w54 base 26 1 v Z.length (((ucells Z).set j3 (.int .u64 (gt Z a : Int))).set a (.int .u64 (gt Z j3 : Int))))
            have hRf : Rg a b X (swp Z j3 a) := hR2.trans (Rg.swap Z j3 a Rg.refl (by omega) (by omega) (by omega) (by omega) (by omega))
            have hCf := hPj.done (by omega) (by omega) (by omega) (by omega)
            refine W_region ?_
            refine L_r (r_mi rfl) ?_
            refine L_r (r_ai rfl) ?_
            refine L_r (r_ab rfl) ?_
            refine L_nil ?_
            refine W_ret ?_
            refine ret2 (u := .int _ _) (v := .bool _) rfl rfl rfl ?_
            first
            | exact ⟨j3, false, rfl, by omega, by omega, ⟨_, Ow.au, hRf, hCf⟩, Ch.au⟩
            | exact ⟨j, true, rfl, by omega, by omega, ⟨_, Ow.au, hRf, hCf⟩, Ch.au⟩
        · refine W_skip ?_
          refine W_seq ?_
          refine W_draw (fun W => ∃ xs, Sl W v 1 Z.length xs) 15 (m := 16) (by kernel_rfl) rfl (fun w55 c55 hs55 => ?_)
          refine held (by exact ⟨_, Sl.au⟩) (fun hS => ?_)
          refine D_t 0 rfl (fun W hW => r_mv) ?_
          refine D_t 1 rfl (fun W hW => r_mi rfl) ?_
          refine D_t 2 rfl (fun W hW => r_mv) ?_
          refine D_t 3 rfl (fun W hW => r_mi rfl) ?_
          refine D_t 4 rfl (fun W hW => r_mv) ?_
          refine D_t 5 rfl (fun W hW => r_mi rfl) ?_
          refine D_t 6 rfl (fun W hW => r_ix Try.underlying80 (show _ = some 1 from rfl) (by conv => lhs; whnf) rfl (by exact hW.choose_spec)) ?_
          refine D_t 8 rfl (fun W hW => r_mv) ?_
          refine D_t 9 rfl (fun W hW => r_mi rfl) ?_
          refine D_t 10 rfl (fun W hW => r_ix Try.underlying80 (show _ = some 1 from rfl) (by conv => lhs; whnf) rfl (by exact hW.choose_spec)) ?_
          refine D_ev2 7 11 (by kernel_rfl) rfl rfl ?_ ?_
          · refine L_r (r_loadSl rfl rfl Sl.au (by first | assumption | exact ucells_gt _ _ (by omega) | (conv => lhs; simp only [List.getElem?_toArray, List.getElem?_cons_succ, List.getElem?_cons_zero]))) ?_
            refine L_nil ?_
            refine heldK (by exact ⟨_, Sl.au⟩) (fun hS => ?_)
            refine D_ev 11 (by kernel_rfl) rfl ?_
            refine L_r (r_loadSl rfl rfl Sl.au (by first | assumption | exact ucells_gt _ _ (by omega) | (conv => lhs; simp only [List.getElem?_toArray, List.getElem?_cons_succ, List.getElem?_cons_zero]))) ?_
            refine L_nil ?_
            refine heldK (by exact ⟨_, Sl.au⟩) (fun hS => ?_)
            refine D_t 12 rfl (fun W hW => r_ix Try.underlying80 (show _ = some 1 from rfl) (by conv => lhs; whnf) rfl (by exact hW.choose_spec)) ?_
            refine D_ev 13 (by kernel_rfl) rfl ?_
            refine L_setOw (.plain rfl) rfl rfl (u := .int _ _) rfl rfl Ow.au (by first | omega | (simp only [List.length_set, ucells_length]; omega) | (simp; done)) (fun w56 hb56 hs56 c56 => ?_)
            refine L_nil ?_
            refine heldK (by exact ⟨_, Sl.au⟩) (fun hS => ?_)
            refine D_t 14 rfl (fun W hW => r_ix Try.underlying80 (show _ = some 1 from rfl) (by conv => lhs; whnf) rfl (by exact hW.choose_spec)) ?_
            refine D_ev 15 (by kernel_rfl) rfl ?_
            refine L_setOw (.plain rfl) rfl rfl (u := .int _ _) rfl rfl Ow.au (by first | omega | (simp only [List.length_set, ucells_length]; omega) | (simp; done)) (fun w57 hb57 hs57 c57 => ?_)
            refine L_nil ?_
            refine heldL ?_
            refine D_done (by kernel_rfl) ?_
            refine W_seq ?_
            have hD3 := dt_swp (by assumption : Ow w57 base 26 1 v Z.length (((ucells Z).set i3 (.int .u64 (gt Z j3 : Int))).set j3 (.int .u64 (gt Z i3 : Int))))
            obtain ⟨hP3, hlt3⟩ := hPj.swap ha3.1 (by omega) (by omega) (by omega) (hni3 (by omega)) (hnj3 (by omega))
            have hR3 : Rg a b X (swp Z i3 j3) := hR2.trans (Rg.swap Z i3 j3 Rg.refl (by omega) (by omega) (by omega) (by omega) (by omega))
            obtain ⟨Z1, hZ1⟩ : ∃ x, x = swp Z i3 j3 := ⟨_, rfl⟩
            rw [← hZ1] at hD3 hP3 hR3
            refine W_region ?_
            refine L_r (r_mi rfl) ?_
            refine L_r (r_add rfl rfl (by first | exact wr_i64 (by omega) | rfl)) ?_
            refine L_r (r_ai rfl) ?_
            refine L_nil ?_
            refine W_region ?_
            refine L_r (r_mi rfl) ?_
            refine L_r (r_sub rfl rfl (by first | exact wr_i64 (by omega) | rfl)) ?_
            refine L_r (r_ai rfl) ?_
            refine L_nil ?_
            refine ⟨⟨rfl, rfl, trivial⟩, _, ?_, i3 + 1, j3 - 1, Z1, rfl, (by exact congrArg (Value.int .i64) (by omega)), ?_, rfl⟩
            · omega
            exact ⟨by omega, by omega, by omega, hP3, Ow.au, hR3, Ch.au⟩
          · refine L_r (r_loadSl rfl rfl Sl.au (by first | assumption | exact ucells_gt _ _ (by omega) | (conv => lhs; simp only [List.getElem?_toArray, List.getElem?_cons_succ, List.getElem?_cons_zero]))) ?_
            refine L_nil ?_
            refine heldK (by exact ⟨_, Sl.au⟩) (fun hS => ?_)
            refine D_ev 7 (by kernel_rfl) rfl ?_
            refine L_r (r_loadSl rfl rfl Sl.au (by first | assumption | exact ucells_gt _ _ (by omega) | (conv => lhs; simp only [List.getElem?_toArray, List.getElem?_cons_succ, List.getElem?_cons_zero]))) ?_
            refine L_nil ?_
            refine heldK (by exact ⟨_, Sl.au⟩) (fun hS => ?_)
            refine D_t 12 rfl (fun W hW => r_ix Try.underlying80 (show _ = some 1 from rfl) (by conv => lhs; whnf) rfl (by exact hW.choose_spec)) ?_
            refine D_ev 13 (by kernel_rfl) rfl ?_
            refine L_setOw (.plain rfl) rfl rfl (u := .int _ _) rfl rfl Ow.au (by first | omega | (simp only [List.length_set, ucells_length]; omega) | (simp; done)) (fun w58 hb58 hs58 c58 => ?_)
            refine L_nil ?_
            refine heldK (by exact ⟨_, Sl.au⟩) (fun hS => ?_)
            refine D_t 14 rfl (fun W hW => r_ix Try.underlying80 (show _ = some 1 from rfl) (by conv => lhs; whnf) rfl (by exact hW.choose_spec)) ?_
            refine D_ev 15 (by kernel_rfl) rfl ?_
            refine L_setOw (.plain rfl) rfl rfl (u := .int _ _) rfl rfl Ow.au (by first | omega | (simp only [List.length_set, ucells_length]; omega) | (simp; done)) (fun w59 hb59 hs59 c59 => ?_)
            refine L_nil ?_
            refine heldL ?_
            refine D_done (by kernel_rfl) ?_
            refine W_seq ?_
            have hD3 := dt_swp (by assumption : Ow w59 base 26 1 v Z.length (((ucells Z).set i3 (.int .u64 (gt Z j3 : Int))).set j3 (.int .u64 (gt Z i3 : Int))))
            obtain ⟨hP3, hlt3⟩ := hPj.swap ha3.1 (by omega) (by omega) (by omega) (hni3 (by omega)) (hnj3 (by omega))
            have hR3 : Rg a b X (swp Z i3 j3) := hR2.trans (Rg.swap Z i3 j3 Rg.refl (by omega) (by omega) (by omega) (by omega) (by omega))
            obtain ⟨Z1, hZ1⟩ : ∃ x, x = swp Z i3 j3 := ⟨_, rfl⟩
            rw [← hZ1] at hD3 hP3 hR3
            refine W_region ?_
            refine L_r (r_mi rfl) ?_
            refine L_r (r_add rfl rfl (by first | exact wr_i64 (by omega) | rfl)) ?_
            refine L_r (r_ai rfl) ?_
            refine L_nil ?_
            refine W_region ?_
            refine L_r (r_mi rfl) ?_
            refine L_r (r_sub rfl rfl (by first | exact wr_i64 (by omega) | rfl)) ?_
            refine L_r (r_ai rfl) ?_
            refine L_nil ?_
            refine ⟨⟨rfl, rfl, trivial⟩, _, ?_, i3 + 1, j3 - 1, Z1, rfl, (by exact congrArg (Value.int .i64) (by omega)), ?_, rfl⟩
            · omega
            exact ⟨by omega, by omega, by omega, hP3, Ow.au, hR3, Ch.au⟩
  · refine L_r (r_loadSl rfl rfl Sl.au (by first | assumption | exact ucells_gt _ _ (by omega) | (conv => lhs; simp only [List.getElem?_toArray, List.getElem?_cons_succ, List.getElem?_cons_zero]))) ?_
    refine L_nil ?_
    refine heldK (by exact ⟨_, Sl.au⟩) (fun hS => ?_)
    refine D_ev 7 (by kernel_rfl) rfl ?_
    refine L_r (r_loadSl rfl rfl Sl.au (by first | assumption | exact ucells_gt _ _ (by omega) | (conv => lhs; simp only [List.getElem?_toArray, List.getElem?_cons_succ, List.getElem?_cons_zero]))) ?_
    refine L_nil ?_
    refine heldK (by exact ⟨_, Sl.au⟩) (fun hS => ?_)
    refine D_t 12 rfl (fun W hW => r_ix Try.underlying80 (show _ = some 1 from rfl) (by conv => lhs; whnf) rfl (by exact hW.choose_spec)) ?_
    refine D_ev 13 (by kernel_rfl) rfl ?_
    refine L_setOw (.plain rfl) rfl rfl (u := .int _ _) rfl rfl Ow.au (by first | omega | (simp only [List.length_set, ucells_length]; omega) | (simp; done)) (fun w60 hb60 hs60 c60 => ?_)
    refine L_nil ?_
    refine heldK (by exact ⟨_, Sl.au⟩) (fun hS => ?_)
    refine D_t 14 rfl (fun W hW => r_ix Try.underlying80 (show _ = some 1 from rfl) (by conv => lhs; whnf) rfl (by exact hW.choose_spec)) ?_
    refine D_ev 15 (by kernel_rfl) rfl ?_
    refine L_setOw (.plain rfl) rfl rfl (u := .int _ _) rfl rfl Ow.au (by first | omega | (simp only [List.length_set, ucells_length]; omega) | (simp; done)) (fun w61 hb61 hs61 c61 => ?_)
    refine L_nil ?_
    refine heldL ?_
    refine D_done (by kernel_rfl) ?_
    refine W_seq ?_
    have hD1 := dt_swp (by assumption : Ow w61 base 26 1 v X.length (((ucells X).set a (.int .u64 (gt X p : Int))).set p (.int .u64 (gt X a : Int))))
    have hR1 : Rg a b X (swp X a p) := Rg.swap X a p Rg.refl (by omega) (by omega) (by omega) (by omega) hb
    obtain ⟨Y, hY⟩ : ∃ x, x = swp X a p := ⟨_, rfl⟩
    rw [← hY] at hD1 hR1
    have hl1 := hR1.length
    obtain ⟨P, hP⟩ : ∃ x, x = gt Y a := ⟨_, rfl⟩
    refine W_region ?_
    refine L_r (r_mi rfl) ?_
    refine L_r (r_add rfl rfl (by first | exact wr_i64 (by omega) | rfl)) ?_
    refine L_r (r_mi rfl) ?_
    refine L_r (r_sub rfl rfl (by first | exact wr_i64 (by omega) | rfl)) ?_
    rw [show (b : Int) - 1 = ((b - 1 : Nat) : Int) by omega]
    refine L_r (r_ai rfl) ?_
    refine L_r (r_ai rfl) ?_
    refine L_nil ?_
    refine W_cutF [0, 1, 11] (fun f W => ∃ (i : Nat), f 10 = .int .i64 i ∧ (a < i ∧ i ≤ b ∧ Prt a b i (b - 1) P Y ∧ (i < b → ¬ gt Y i < P) ∧ Dt base W v Y ∧ DtC v w0 W)) ?_ ?_
    · refine W_block ?_
      refine W_loopF [0, 1, 11] (fun mz_ f W => ∃ (i : Nat), f 10 = .int .i64 i ∧ (a < i ∧ i ≤ b ∧ Prt a b i (b - 1) P Y ∧ Dt base W v Y ∧ DtC v w0 W) ∧ mz_ = b - i) ?_ ?_
      · refine ⟨_, a + 1, rfl, ?_, rfl⟩
        exact ⟨by omega, by omega, ⟨hP.symm, fun k k1 k2 => by omega, fun k k1 k2 => by omega⟩, Ow.au, Ch.au⟩
      rintro m0 g0 w62 ⟨i, hf10, hR0, rfl⟩
      refine W_as 10 hf10 rfl ?_
      clear hf10
      obtain ⟨hai, hib, hPr, hD1, hc⟩ := hR0
      have hz := hc.size
      refine W_seq ?_
      refine W_seq ?_
      refine W_draw (fun W => Dt base W v Y) 14 (m := 14) (by kernel_rfl) rfl (fun w63 c63 hs63 => ?_)
      refine held Ow.au (fun hS => ?_)
      refine D_t 0 rfl (fun W hW => r_mi rfl) ?_
      refine D_t 1 rfl (fun W hW => r_mi rfl) ?_
      refine D_t 2 rfl (fun W hW => r_leq rfl rfl) ?_
      refine D_t 3 rfl (fun W hW => r_mb rfl) ?_
      refine D_case (d := 33) rfl (fun h33 => ?_) (fun h33 => ?_)
      · refine D_g 4 rfl (fun W hW => r_mv) ?_
        refine D_g 5 rfl (fun W hW => r_mi rfl) ?_
        refine D_g 6 rfl (fun W hW => r_ix Try.underlying80 (show _ = some 1 from rfl) (by conv => lhs; whnf) rfl (by (first | exact hW.sl | exact hW))) ?_
        refine D_g 7 rfl (fun W hW => r_loadSl rfl rfl (by (first | exact hW.sl | exact hW)) (by first | assumption | exact ucells_gt _ _ (by omega) | (conv => lhs; simp only [List.getElem?_toArray, List.getElem?_cons_succ, List.getElem?_cons_zero]))) ?_
        refine D_g 8 rfl (fun W hW => r_mv) ?_
        refine D_g 9 rfl (fun W hW => r_mi rfl) ?_
        refine D_g 10 rfl (fun W hW => r_ix Try.underlying80 (show _ = some 1 from rfl) (by conv => lhs; whnf) rfl (by (first | exact hW.sl | exact hW))) ?_
        refine D_g 11 rfl (fun W hW => r_loadSl rfl rfl (by (first | exact hW.sl | exact hW)) (by first | assumption | exact ucells_gt _ _ (by omega) | (conv => lhs; simp only [List.getElem?_toArray, List.getElem?_cons_succ, List.getElem?_cons_zero]))) ?_
        refine D_ev 12 (by kernel_rfl) rfl ?_
        refine L_call (.yes 3 true rfl rfl) rfl rfl (r_call Try.func54 rfl rfl rfl (by rfl)) (less_walk (gt Y i) (gt Y a) _) ?_
        rintro v42 w64 ⟨rfl, c64⟩
        have hz64 := c64.size
        rw [← hP]
        refine L_nil ?_
        refine heldK Ow.au (fun hS => ?_)
        refine D_t 13 rfl (fun W hW => r_pt rfl rfl) ?_
        refine D_done (by kernel_rfl) ?_
        refine W_bool rfl (fun h43 => ?_) (fun h43 => ?_)
        · replace h43 := of_decide_eq_true h43
          refine W_skip ?_
          refine W_block ?_
          refine W_region ?_
          refine L_r (r_mi rfl) ?_
          refine L_r (r_add rfl rfl (by first | exact wr_i64 (by omega) | rfl)) ?_
          refine L_r (r_ai rfl) ?_
          refine L_nil ?_
          refine ⟨⟨rfl, rfl, rfl, trivial⟩, _, ?_, i + 1, rfl, ?_, rfl⟩
          · omega
          exact ⟨by omega, by omega, ⟨hPr.piv, fun k k1 k2 => by rcases Nat.lt_or_ge k i with h | h; exact hPr.lo k k1 h; (have e : k = i := by omega); rw [e]; omega, hPr.hi⟩, Ow.au, Ch.au⟩
        · try (replace h43 := of_decide_eq_false h43)
          refine W_exit ?_
          repeat (first | refine blk_hit ?_ | refine blk_miss rfl ?_)
          refine ⟨⟨rfl, rfl, rfl, trivial⟩, i, rfl, ?_⟩
          first
          | exact ⟨hai, hib, hPr, fun h => by omega, Ow.au, Ch.au⟩
          | exact ⟨hai, hib, hPr, fun h => h43, Ow.au, Ch.au⟩
      · refine D_ps 4 rfl ?_
        refine D_ps 5 rfl ?_
        refine D_ps 6 rfl ?_
        refine D_ps 7 rfl ?_
        refine D_ps 8 rfl ?_
        refine D_ps 9 rfl ?_
        refine D_ps 10 rfl ?_
        refine D_ps 11 rfl ?_
        refine D_ps 12 rfl ?_
        refine D_t 13 rfl (fun W hW => r_pf rfl rfl) ?_
        refine D_done (by kernel_rfl) ?_
        refine W_false rfl ?_
        refine W_exit ?_
        repeat (first | refine blk_hit ?_ | refine blk_miss rfl ?_)
        refine ⟨⟨rfl, rfl, rfl, trivial⟩, i, rfl, ?_⟩
        first
        | exact ⟨hai, hib, hPr, fun h => by omega, Ow.au, Ch.au⟩
        | exact ⟨hai, hib, hPr, fun h => h43, Ow.au, Ch.au⟩
    rintro gcb0 w65 ⟨i, hf10, hCb0⟩
    refine W_as 10 hf10 rfl ?_
    clear hf10
    obtain ⟨hai, hib, hPr, hni, hD1, hc⟩ := hCb0
    have hz := hc.size
    refine W_cutF [0, 1, 10] (fun f W => ∃ (j : Nat), f 11 = .int .i64 j ∧ (i ≤ j + 1 ∧ j < b ∧ Prt a b i j P Y ∧ (i ≤ j → gt Y j < P) ∧ Dt base W v Y ∧ DtC v w0 W)) ?_ ?_
    · refine W_block ?_
      refine W_loopF [0, 1, 10] (fun mz_ f W => ∃ (j : Nat), f 11 = .int .i64 j ∧ (i ≤ j + 1 ∧ j < b ∧ Prt a b i j P Y ∧ Dt base W v Y ∧ DtC v w0 W) ∧ mz_ = j + 1) ?_ ?_
      · refine ⟨_, b - 1, rfl, ?_, rfl⟩
        exact ⟨by omega, by omega, hPr, Ow.au, Ch.au⟩
      rintro m1 g1 w66 ⟨j, hf11, hR1, rfl⟩
      refine W_as 11 hf11 rfl ?_
      clear hf11
      obtain ⟨hij, hjb, hPj, hD1, hc⟩ := hR1
      have hz := hc.size
      refine W_seq ?_
      refine W_seq ?_
      refine W_draw (fun W => Dt base W v Y) 15 (m := 15) (by kernel_rfl) rfl (fun w67 c67 hs67 => ?_)
      refine held Ow.au (fun hS => ?_)
      refine D_t 0 rfl (fun W hW => r_mi rfl) ?_
      refine D_t 1 rfl (fun W hW => r_mi rfl) ?_
      refine D_t 2 rfl (fun W hW => r_leq rfl rfl) ?_
      refine D_t 3 rfl (fun W hW => r_mb rfl) ?_
      refine D_case (d := 49) rfl (fun h49 => ?_) (fun h49 => ?_)
      · refine D_g 4 rfl (fun W hW => r_mv) ?_
        refine D_g 5 rfl (fun W hW => r_mi rfl) ?_
        refine D_g 6 rfl (fun W hW => r_ix Try.underlying80 (show _ = some 1 from rfl) (by conv => lhs; whnf) rfl (by (first | exact hW.sl | exact hW))) ?_
        refine D_g 7 rfl (fun W hW => r_loadSl rfl rfl (by (first | exact hW.sl | exact hW)) (by first | assumption | exact ucells_gt _ _ (by omega) | (conv => lhs; simp only [List.getElem?_toArray, List.getElem?_cons_succ, List.getElem?_cons_zero]))) ?_
        refine D_g 8 rfl (fun W hW => r_mv) ?_
        refine D_g 9 rfl (fun W hW => r_mi rfl) ?_
        refine D_g 10 rfl (fun W hW => r_ix Try.underlying80 (show _ = some 1 from rfl) (by conv => lhs; whnf) rfl (by (first | exact hW.sl | exact hW))) ?_
        refine D_g 11 rfl (fun W hW => r_loadSl rfl rfl (by (first | exact hW.sl | exact hW)) (by first | assumption | exact ucells_gt _ _ (by omega) | (conv => lhs; simp only [List.getElem?_toArray, List.getElem?_cons_succ, List.getElem?_cons_zero]))) ?_
        refine D_ev 12 (by kernel_rfl) rfl ?_
        refine L_call (.yes 3 true rfl rfl) rfl rfl (r_call Try.func54 rfl rfl rfl (by rfl)) (less_walk (gt Y j) (gt Y a) _) ?_
        rintro v58 w68 ⟨rfl, c68⟩
        have hz68 := c68.size
        rw [← hP]
        refine L_nil ?_
        refine heldK Ow.au (fun hS => ?_)
        refine D_g 13 rfl (fun W hW => r_not rfl) ?_
        refine D_t 14 rfl (fun W hW => r_pt rfl rfl) ?_
        refine D_done (by kernel_rfl) ?_
        refine W_bool rfl (fun h60 => ?_) (fun h60 => ?_)
        · replace h60 : ¬ gt Y j < P := by simpa using h60
          refine W_skip ?_
          refine W_block ?_
          refine W_region ?_
          refine L_r (r_mi rfl) ?_
          refine L_r (r_sub rfl rfl (by first | exact wr_i64 (by omega) | rfl)) ?_
          refine L_r (r_ai rfl) ?_
          refine L_nil ?_
          refine ⟨⟨rfl, rfl, rfl, trivial⟩, _, ?_, j - 1, (by exact congrArg (Value.int .i64) (by omega)), ?_, rfl⟩
          · omega
          exact ⟨by omega, by omega, ⟨hPj.piv, hPj.lo, fun k k1 k2 => by rcases Nat.lt_or_ge j k with h | h; exact hPj.hi k h k2; (have e : k = j := by omega); rw [e]; omega⟩, Ow.au, Ch.au⟩
        · try (replace h60 : gt Y j < P := by simpa using h60)
          refine W_exit ?_
          repeat (first | refine blk_hit ?_ | refine blk_miss rfl ?_)
          refine ⟨⟨rfl, rfl, rfl, trivial⟩, j, rfl, ?_⟩
          first
          | exact ⟨hij, hjb, hPj, fun h => by omega, Ow.au, Ch.au⟩
          | exact ⟨hij, hjb, hPj, fun h => h60, Ow.au, Ch.au⟩
      · refine D_ps 4 rfl ?_
        refine D_ps 5 rfl ?_
        refine D_ps 6 rfl ?_
        refine D_ps 7 rfl ?_
        refine D_ps 8 rfl ?_
        refine D_ps 9 rfl ?_
        refine D_ps 10 rfl ?_
        refine D_ps 11 rfl ?_
        refine D_ps 12 rfl ?_
        refine D_ps 13 rfl ?_
        refine D_t 14 rfl (fun W hW => r_pf rfl rfl) ?_
        refine D_done (by kernel_rfl) ?_
        refine W_false rfl ?_
        refine W_exit ?_
        repeat (first | refine blk_hit ?_ | refine blk_miss rfl ?_)
        refine ⟨⟨rfl, rfl, rfl, trivial⟩, j, rfl, ?_⟩
        first
        | exact ⟨hij, hjb, hPj, fun h => by omega, Ow.au, Ch.au⟩
        | exact ⟨hij, hjb, hPj, fun h => h60, Ow.au, Ch.au⟩
    rintro gcb2 w69 ⟨j, hf11, hCb2⟩
    refine W_as 11 hf11 rfl ?_
    clear hf11
    obtain ⟨hij, hjb, hPj, hnj, hD1, hc⟩ := hCb2
    have hz := hc.size
    refine W_seq ?_
    refine W_seq ?_
    refine W_region ?_
    refine L_r (r_mi rfl) ?_
    refine L_r (r_mi rfl) ?_
    refine L_r (r_gtr rfl rfl) ?_
    refine L_nil ?_
    refine W_if rfl (fun h65 => ?_) (fun h65 => ?_)
    · refine W_seq ?_
      refine W_draw (fun W => ∃ xs, Sl W v 1 Y.length xs) 15 (m := 16) (by kernel_rfl) rfl (fun w70 c70 hs70 => ?_)
      refine held (by exact ⟨_, Sl.au⟩) (fun hS => ?_)
      refine D_t 0 rfl (fun W hW => r_mv) ?_
      refine D_t 1 rfl (fun W hW => r_mi rfl) ?_
      refine D_t 2 rfl (fun W hW => r_mv) ?_
      refine D_t 3 rfl (fun W hW => r_mi rfl) ?_
      refine D_t 4 rfl (fun W hW => r_mv) ?_
      refine D_t 5 rfl (fun W hW => r_mi rfl) ?_
      refine D_t 6 rfl (fun W hW => r_ix Try.underlying80 (show _ = some 1 from rfl) (by conv => lhs; whnf) rfl (by exact hW.choose_spec)) ?_
      refine D_t 8 rfl (fun W hW => r_mv) ?_
      refine D_t 9 rfl (fun W hW => r_mi rfl) ?_
      refine D_t 10 rfl (fun W hW => r_ix Try.underlying80 (show _ = some 1 from rfl) (by conv => lhs; whnf) rfl (by exact hW.choose_spec)) ?_
      refine D_ev2 7 11 (by kernel_rfl) rfl rfl ?_ ?_
      · refine L_r (r_loadSl rfl rfl Sl.au (by first | assumption | exact ucells_gt _ _ (by omega) | (conv => lhs; simp only [List.getElem?_toArray, List.getElem?_cons_succ, List.getElem?_cons_zero]))) ?_
        refine L_nil ?_
        refine heldK (by exact ⟨_, Sl.au⟩) (fun hS => ?_)
        refine D_ev 11 (by kernel_rfl) rfl ?_
        refine L_r (r_loadSl rfl rfl Sl.au (by first | assumption | exact ucells_gt _ _ (by omega) | (conv => lhs; simp only [List.getElem?_toArray, List.getElem?_cons_succ, List.getElem?_cons_zero]))) ?_
        refine L_nil ?_
        refine heldK (by exact ⟨_, Sl.au⟩) (fun hS => ?_)
        refine D_t 12 rfl (fun W hW => r_ix Try.underlying80 (show _ = some 1 from rfl) (by conv => lhs; whnf) rfl (by exact hW.choose_spec)) ?_
        refine D_ev 13 (by kernel_rfl) rfl ?_
        refine L_setOw (.plain rfl) rfl rfl (u := .int _ _) rfl rfl Ow.au (by first | omega | (simp only [List.length_set, ucells_length]; omega) | (simp; done)) (fun w71 hb71 hs71 c71 => ?_)
        refine L_nil ?_
        refine heldK (by exact ⟨_, Sl.au⟩) (fun hS => ?_)
        refine D_t 14 rfl (fun W hW => r_ix Try.underlying80 (show _ = some 1 from rfl) (by conv => lhs; whnf) rfl (by exact hW.choose_spec)) ?_
        refine D_ev 15 (by kernel_rfl) rfl ?_
        refine L_setOw (.plain rfl) rfl rfl (u := .int _ _) rfl rfl Ow.au (by first | omega | (simp only [List.length_set, ucells_length]; omega) | (simp; done)) (fun w72 hb72 hs72 c72 => ?_)
        refine L_nil ?_
        refine heldL ?_
        refine D_done (by kernel_rfl) ?_
        refine W_seq ?_
        have hDf := dt_swp (by assumption : Ow w72 base 26 1 v Y.length (((ucells Y).set j (.int .u64 (gt Y a : Int))).set a (.int .u64 (gt Y j : Int))))
        have hRf : Rg a b X (swp Y j a) := hR1.trans (Rg.swap Y j a Rg.refl (by omega) (by omega) (by omega) (by omega) (by omega))
        have hCf := hPj.done (by omega) (by omega) hjb (by omega)
        refine W_region ?_
        refine L_r (r_mi rfl) ?_
        refine L_r (r_ai rfl) ?_
        refine L_r (r_ab rfl) ?_
        refine L_nil ?_
        refine W_ret ?_
        refine ret2 (u := .int _ _) (v := .bool _) rfl rfl rfl ?_
        first
        | exact ⟨j3, false, rfl, by omega, by omega, ⟨_, Ow.au, hRf, hCf⟩, Ch.au⟩
        | exact ⟨j, true, rfl, by omega, by omega, ⟨_, Ow.au, hRf, hCf⟩, Ch.au⟩
      · refine L_r (r_loadSl rfl rfl Sl.au (by first | assumption | exact ucells_gt _ _ (by omega) | (conv => lhs; simp only [List.getElem?_toArray, List.getElem?_cons_succ, List.getElem?_cons_zero]))) ?_
        refine L_nil ?_
        refine heldK (by exact ⟨_, Sl.au⟩) (fun hS => ?_)
        refine D_ev 7 (by kernel_rfl) rfl ?_
        refine L_r (r_loadSl rfl rfl Sl.au (by first | assumption | exact ucells_gt _ _ (by omega) | (conv => lhs; simp only [List.getElem?_toArray, List.getElem?_cons_succ, List.getElem?_cons_zero]))) ?_
        refine L_nil ?_
        refine heldK (by exact ⟨_, Sl.au⟩) (fun hS => ?_)
        refine D_t 12 rfl (fun W hW => r_ix Try.underlying80 (show _ = some 1 from rfl) (by conv => lhs; whnf) rfl (by exact hW.choose_spec)) ?_
        refine D_ev 13 (by kernel_rfl) rfl ?_
        refine L_setOw (.plain rfl) rfl rfl (u := .int _ _) rfl rfl Ow.au (by first | omega | (simp only [List.length_set, ucells_length]; omega) | (simp; done)) (fun w73 hb73 hs73 c73 => ?_)
        refine L_nil ?_
        refine heldK (by exact ⟨_, Sl.au⟩) (fun hS => ?_)
        refine D_t 14 rfl (fun W hW => r_ix Try.underlying80 (show _ = some 1 from rfl) (by conv => lhs; whnf) rfl (by exact hW.choose_spec)) ?_
        refine D_ev 15 (by kernel_rfl) rfl ?_
        refine L_setOw (.plain rfl) rfl rfl (u := .int _ _) rfl rfl Ow.au (by first | omega | (simp only [List.length_set, ucells_length]; omega) | (simp; done)) (fun w74 hb74 hs74 c74 => ?_)
        refine L_nil ?_
        refine heldL ?_
        refine D_done (by kernel_rfl) ?_
        refine W_seq ?_
        have hDf := dt_swp (by assumption : Ow w74 base 26 1 v Y.length (((ucells Y).set j (.int .u64 (gt Y a : Int))).set a (.int .u64 (gt Y j : Int))))
        have hRf : Rg a b X (swp Y j a) := hR1.trans (Rg.swap Y j a Rg.refl (by omega) (by omega) (by omega) (by omega) (by omega))
        have hCf := hPj.done (by omega) (by omega) hjb (by omega)
        refine W_region ?_
        refine L_r (r_mi rfl) ?_
        refine L_r (r_ai rfl) ?_
        refine L_r (r_ab rfl) ?_
        refine L_nil ?_
        refine W_ret ?_
        refine ret2 (u := .int _ _) (v := .bool _) rfl rfl rfl ?_
        first
        | exact ⟨j3, false, rfl, by omega, by omega, ⟨_, Ow.au, hRf, hCf⟩, Ch.au⟩
        | exact ⟨j, true, rfl, by omega, by omega, ⟨_, Ow.au, hRf, hCf⟩, Ch.au⟩
    · refine W_skip ?_
      refine W_seq ?_
      refine W_draw (fun W => ∃ xs, Sl W v 1 Y.length xs) 15 (m := 16) (by kernel_rfl) rfl (fun w75 c75 hs75 => ?_)
      refine held (by exact ⟨_, Sl.au⟩) (fun hS => ?_)
      refine D_t 0 rfl (fun W hW => r_mv) ?_
      refine D_t 1 rfl (fun W hW => r_mi rfl) ?_
      refine D_t 2 rfl (fun W hW => r_mv) ?_
      refine D_t 3 rfl (fun W hW => r_mi rfl) ?_
      refine D_t 4 rfl (fun W hW => r_mv) ?_
      refine D_t 5 rfl (fun W hW => r_mi rfl) ?_
      refine D_t 6 rfl (fun W hW => r_ix Try.underlying80 (show _ = some 1 from rfl) (by conv => lhs; whnf) rfl (by exact hW.choose_spec)) ?_
      refine D_t 8 rfl (fun W hW => r_mv) ?_
      refine D_t 9 rfl (fun W hW => r_mi rfl) ?_
      refine D_t 10 rfl (fun W hW => r_ix Try.underlying80 (show _ = some 1 from rfl) (by conv => lhs; whnf) rfl (by exact hW.choose_spec)) ?_
      refine D_ev2 7 11 (by kernel_rfl) rfl rfl ?_ ?_
      · refine L_r (r_loadSl rfl rfl Sl.au (by first | assumption | exact ucells_gt _ _ (by omega) | (conv => lhs; simp only [List.getElem?_toArray, List.getElem?_cons_succ, List.getElem?_cons_zero]))) ?_
        refine L_nil ?_
        refine heldK (by exact ⟨_, Sl.au⟩) (fun hS => ?_)
        refine D_ev 11 (by kernel_rfl) rfl ?_
        refine L_r (r_loadSl rfl rfl Sl.au (by first | assumption | exact ucells_gt _ _ (by omega) | (conv => lhs; simp only [List.getElem?_toArray, List.getElem?_cons_succ, List.getElem?_cons_zero]))) ?_
        refine L_nil ?_
        refine heldK (by exact ⟨_, Sl.au⟩) (fun hS => ?_)
        refine D_t 12 rfl (fun W hW => r_ix Try.underlying80 (show _ = some 1 from rfl) (by conv => lhs; whnf) rfl (by exact hW.choose_spec)) ?_
        refine D_ev 13 (by kernel_rfl) rfl ?_
        refine L_setOw (.plain rfl) rfl rfl (u := .int _ _) rfl rfl Ow.au (by first | omega | (simp only [List.length_set, ucells_length]; omega) | (simp; done)) (fun w76 hb76 hs76 c76 => ?_)
        refine L_nil ?_
        refine heldK (by exact ⟨_, Sl.au⟩) (fun hS => ?_)
        refine D_t 14 rfl (fun W hW => r_ix Try.underlying80 (show _ = some 1 from rfl) (by conv => lhs; whnf) rfl (by exact hW.choose_spec)) ?_
        refine D_ev 15 (by kernel_rfl) rfl ?_
        refine L_setOw (.plain rfl) rfl rfl (u := .int _ _) rfl rfl Ow.au (by first | omega | (simp only [List.length_set, ucells_length]; omega) | (simp; done)) (fun w77 hb77 hs77 c77 => ?_)
        refine L_nil ?_
        refine heldL ?_
        refine D_done (by kernel_rfl) ?_
        refine W_seq ?_
        have hD2 := dt_swp (by assumption : Ow w77 base 26 1 v Y.length (((ucells Y).set i (.int .u64 (gt Y j : Int))).set j (.int .u64 (gt Y i : Int))))
        obtain ⟨hP2, hlt2⟩ := hPj.swap hai (by omega) hjb (by omega) (hni (by omega)) (hnj (by omega))
        have hR2 : Rg a b X (swp Y i j) := hR1.trans (Rg.swap Y i j Rg.refl (by omega) (by omega) (by omega) (by omega) (by omega))
        obtain ⟨Z, hZ⟩ : ∃ x, x = swp Y i j := ⟨_, rfl⟩
        rw [← hZ] at hD2 hP2 hR2
        refine W_region ?_
        refine L_r (r_mi rfl) ?_
        refine L_r (r_add rfl rfl (by first | exact wr_i64 (by omega) | rfl)) ?_
        refine L_r (r_ai rfl) ?_
        refine L_nil ?_
        refine W_seq ?_
        refine W_region ?_
        refine L_r (r_mi rfl) ?_
        refine L_r (r_sub rfl rfl (by first | exact wr_i64 (by omega) | rfl)) ?_
        refine L_r (r_ai rfl) ?_
        refine L_nil ?_
        refine W_seq ?_
        refine W_block ?_
        refine W_loopF [0, 1] (fun mz_ f W => ∃ (i2 : Nat) (j2 : Nat) (Z : List Nat), f 10 = .int .i64 i2 ∧ f 11 = .int .i64 j2 ∧ (a < i2 ∧ i2 ≤ j2 + 1 ∧ j2 < b ∧ Prt a b i2 j2 P Z ∧ Dt base W v Z ∧ Rg a b X Z ∧ DtC v w0 W) ∧ mz_ = j2 + 2 - i2) ?_ ?_
        · refine ⟨_, i + 1, j - 1, Z, rfl, (by exact congrArg (Value.int .i64) (by omega)), ?_, rfl⟩
          exact ⟨by omega, by omega, by omega, hP2, Ow.au, hR2, Ch.au⟩
        rintro m2 g2 w78 ⟨i2, j2, Z, hf10, hf11, hR2, rfl⟩
        refine W_as 10 hf10 rfl ?_
        refine W_as 11 hf11 rfl ?_
        clear hf10 hf11
        obtain ⟨ha2, hij2, hjb2, hP2, hD2, hR2, hc⟩ := hR2
        have hz := hc.size
        have hl2 := hR2.length
        refine W_block ?_
        refine W_cutF [0, 1, 11] (fun f W => ∃ (i3 : Nat), f 10 = .int .i64 i3 ∧ ((a < i3 ∧ i2 ≤ i3) ∧ i3 ≤ j2 + 1 ∧ Prt a b i3 j2 P Z ∧ (i3 ≤ j2 → ¬ gt Z i3 < P) ∧ Dt base W v Z ∧ DtC v w0 W)) ?_ ?_
        · refine W_block ?_
          refine W_loopF [0, 1, 11] (fun mz_ f W => ∃ (i3 : Nat), f 10 = .int .i64 i3 ∧ ((a < i3 ∧ i2 ≤ i3) ∧ i3 ≤ j2 + 1 ∧ Prt a b i3 j2 P Z ∧ Dt base W v Z ∧ DtC v w0 W) ∧ mz_ = j2 + 1 - i3) ?_ ?_
          · refine ⟨_, i2, rfl, ?_, rfl⟩
            exact ⟨by omega, by omega, hP2, Ow.au, Ch.au⟩
          rintro m3 g3 w79 ⟨i3, hf10, hR3, rfl⟩
          refine W_as 10 hf10 rfl ?_
          clear hf10
          obtain ⟨ha3, hi3, hP2, hD2, hc⟩ := hR3
          have hz := hc.size
          refine W_seq ?_
          refine W_seq ?_
          refine W_draw (fun W => Dt base W v Z) 14 (m := 14) (by kernel_rfl) rfl (fun w80 c80 hs80 => ?_)
          refine held Ow.au (fun hS => ?_)
          refine D_t 0 rfl (fun W hW => r_mi rfl) ?_
          refine D_t 1 rfl (fun W hW => r_mi rfl) ?_
          refine D_t 2 rfl (fun W hW => r_leq rfl rfl) ?_
          refine D_t 3 rfl (fun W hW => r_mb rfl) ?_
          refine D_case (d := 102) rfl (fun h102 => ?_) (fun h102 => ?_)
          · refine D_g 4 rfl (fun W hW => r_mv) ?_
            refine D_g 5 rfl (fun W hW => r_mi rfl) ?_
            refine D_g 6 rfl (fun W hW => r_ix Try.underlying80 (show _ = some 1 from rfl) (by conv => lhs; whnf) rfl (by (first | exact hW.sl | exact hW))) ?_
            refine D_g 7 rfl (fun W hW => r_loadSl rfl rfl (by (first | exact hW.sl | exact hW)) (by first | assumption | exact ucells_gt _ _ (by omega) | (conv => lhs; simp only [List.getElem?_toArray, List.getElem?_cons_succ, List.getElem?_cons_zero]))) ?_
            refine D_g 8 rfl (fun W hW => r_mv) ?_
            refine D_g 9 rfl (fun W hW => r_mi rfl) ?_
            refine D_g 10 rfl (fun W hW => r_ix Try.underlying80 (show _ = some 1 from rfl) (by conv => lhs; whnf) rfl (by (first | exact hW.sl | exact hW))) ?_
            refine D_g 11 rfl (fun W hW => r_loadSl rfl rfl (by (first | exact hW.sl | exact hW)) (by first | assumption | exact ucells_gt _ _ (by omega) | (conv => lhs; simp only [List.getElem?_toArray, List.getElem?_cons_succ, List.getElem?_cons_zero]))) ?_
            refine D_ev 12 (by kernel_rfl) rfl ?_
            refine L_call (.yes 3 true rfl rfl) rfl rfl (r_call Try.func54 rfl rfl rfl (by rfl)) (less_walk (gt Z i3) (gt Z a) _) ?_
            rintro v111 w81 ⟨rfl, c81⟩
            have hz81 := c81.size
            rw [hP2.piv]
            refine L_nil ?_
            refine heldK Ow.au (fun hS => ?_)
            refine D_t 13 rfl (fun W hW => r_pt rfl rfl) ?_
            refine D_done (by kernel_rfl) ?_
            refine W_bool rfl (fun h112 => ?_) (fun h112 => ?_)
            · replace h112 := of_decide_eq_true h112
              refine W_skip ?_
              refine W_block ?_
              refine W_region ?_
              refine L_r (r_mi rfl) ?_
              refine L_r (r_add rfl rfl (by first | exact wr_i64 (by omega) | rfl)) ?_
              refine L_r (r_ai rfl) ?_
              refine L_nil ?_
              refine ⟨⟨rfl, rfl, rfl, trivial⟩, _, ?_, i3 + 1, rfl, ?_, rfl⟩
              · omega
              exact ⟨by omega, by omega, ⟨hP2.piv, fun k k1 k2 => by rcases Nat.lt_or_ge k i3 with h | h; exact hP2.lo k k1 h; (have e : k = i3 := by omega); rw [e]; omega, hP2.hi⟩, Ow.au, Ch.au⟩
            · try (replace h112 := of_decide_eq_false h112)
              refine W_exit ?_
              repeat (first | refine blk_hit ?_ | refine blk_miss rfl ?_)
              refine ⟨⟨rfl, rfl, rfl, trivial⟩, i3, rfl, ?_⟩
              first
              | exact ⟨ha3, hi3, hP2, fun h => by omega, Ow.au, Ch.au⟩
              | exact ⟨ha3, hi3, hP2, fun h => h112, Ow.au, Ch.au⟩
          · refine D_ps 4 rfl ?_
            refine D_ps 5 rfl ?_
            refine D_ps 6 rfl ?_
            refine D_ps 7 rfl ?_
            refine D_ps 8 rfl ?_
            refine D_ps 9 rfl ?_
            refine D_ps 10 rfl ?_
            refine D_ps 11 rfl ?_
            refine D_ps 12 rfl ?_
            refine D_t 13 rfl (fun W hW => r_pf rfl rfl) ?_
            refine D_done (by kernel_rfl) ?_
            refine W_false rfl ?_
            refine W_exit ?_
            repeat (first | refine blk_hit ?_ | refine blk_miss rfl ?_)
            refine ⟨⟨rfl, rfl, rfl, trivial⟩, i3, rfl, ?_⟩
            first
            | exact ⟨ha3, hi3, hP2, fun h => by omega, Ow.au, Ch.au⟩
            | exact ⟨ha3, hi3, hP2, fun h => h112, Ow.au, Ch.au⟩
        rintro gcb6 w82 ⟨i3, hf10, hCb6⟩
        refine W_as 10 hf10 rfl ?_
        clear hf10
        obtain ⟨ha3, hi3, hP2, hni3, hD2, hc⟩ := hCb6
        have hz := hc.size
        refine W_cutF [0, 1, 10] (fun f W => ∃ (j3 : Nat), f 11 = .int .i64 j3 ∧ (i3 ≤ j3 + 1 ∧ j3 ≤ j2 ∧ Prt a b i3 j3 P Z ∧ (i3 ≤ j3 → gt Z j3 < P) ∧ Dt base W v Z ∧ DtC v w0 W)) ?_ ?_
        · refine W_block ?_
          refine W_loopF [0, 1, 10] (fun mz_ f W => ∃ (j3 : Nat), f 11 = .int .i64 j3 ∧ (i3 ≤ j3 + 1 ∧ j3 ≤ j2 ∧ Prt a b i3 j3 P Z ∧ Dt base W v Z ∧ DtC v w0 W) ∧ mz_ = j3 + 1) ?_ ?_
          · refine ⟨_, j2, rfl, ?_, rfl⟩
            exact ⟨by omega, by omega, hP2, Ow.au, Ch.au⟩
          rintro m4 g4 w83 ⟨j3, hf11, hR4, rfl⟩
          refine W_as 11 hf11 rfl ?_
          clear hf11
          obtain ⟨hij3, hjb3, hPj, hD2, hc⟩ := hR4
          have hz := hc.size
          refine W_seq ?_
          refine W_seq ?_
          refine W_draw (fun W => Dt base W v Z) 15 (m := 15) (by kernel_rfl) rfl (fun w84 c84 hs84 => ?_)
          refine held Ow.au (fun hS => ?_)
          refine D_t 0 rfl (fun W hW => r_mi rfl) ?_
          refine D_t 1 rfl (fun W hW => r_mi rfl) ?_
          refine D_t 2 rfl (fun W hW => r_leq rfl rfl) ?_
          refine D_t 3 rfl (fun W hW => r_mb rfl) ?_
          refine D_case (d := 118) rfl (fun h118 => ?_) (fun h118 => ?_)
          · refine D_g 4 rfl (fun W hW => r_mv) ?_
            refine D_g 5 rfl (fun W hW => r_mi rfl) ?_
            refine D_g 6 rfl (fun W hW => r_ix Try.underlying80 (show _ = some 1 from rfl) (by conv => lhs; whnf) rfl (by (first | exact hW.sl | exact hW))) ?_
            refine D_g 7 rfl (fun W hW => r_loadSl rfl rfl (by (first | exact hW.sl | exact hW)) (by first | assumption | exact ucells_gt _ _ (by omega) | (conv => lhs; simp only [List.getElem?_toArray, List.getElem?_cons_succ, List.getElem?_cons_zero]))) ?_
            refine D_g 8 rfl (fun W hW => r_mv) ?_
            refine D_g 9 rfl (fun W hW => r_mi rfl) ?_
            refine D_g 10 rfl (fun W hW => r_ix Try.underlying80 (show _ = some 1 from rfl) (by conv => lhs; whnf) rfl (by (first | exact hW.sl | exact hW))) ?_
            refine D_g 11 rfl (fun W hW => r_loadSl rfl rfl (by (first | exact hW.sl | exact hW)) (by first | assumption | exact ucells_gt _ _ (by omega) | (conv => lhs; simp only [List.getElem?_toArray, List.getElem?_cons_succ, List.getElem?_cons_zero]))) ?_
            refine D_ev 12 (by kernel_rfl) rfl ?_
            refine L_call (.yes 3 true rfl rfl) rfl rfl (r_call Try.func54 rfl rfl rfl (by rfl)) (less_walk (gt Z j3) (gt Z a) _) ?_
            rintro v127 w85 ⟨rfl, c85⟩
            have hz85 := c85.size
            rw [hPj.piv]
            refine L_nil ?_
            refine heldK Ow.au (fun hS => ?_)
            refine D_g 13 rfl (fun W hW => r_not rfl) ?_
            refine D_t 14 rfl (fun W hW => r_pt rfl rfl) ?_
            refine D_done (by kernel_rfl) ?_
            refine W_bool rfl (fun h129 => ?_) (fun h129 => ?_)
            · replace h129 : ¬ gt Z j3 < P := by simpa using h129
              refine W_skip ?_
              refine W_block ?_
              refine W_region ?_
              refine L_r (r_mi rfl) ?_
              refine L_r (r_sub rfl rfl (by first | exact wr_i64 (by omega) | rfl)) ?_
              refine L_r (r_ai rfl) ?_
              refine L_nil ?_
              refine ⟨⟨rfl, rfl, rfl, trivial⟩, _, ?_, j3 - 1, (by exact congrArg (Value.int .i64) (by omega)), ?_, rfl⟩
              · omega
              exact ⟨by omega, by omega, ⟨hPj.piv, hPj.lo, fun k k1 k2 => by rcases Nat.lt_or_ge j3 k with h | h; exact hPj.hi k h k2; (have e : k = j3 := by omega); rw [e]; omega⟩, Ow.au, Ch.au⟩
            · try (replace h129 : gt Z j3 < P := by simpa using h129)
              refine W_exit ?_
              repeat (first | refine blk_hit ?_ | refine blk_miss rfl ?_)
              refine ⟨⟨rfl, rfl, rfl, trivial⟩, j3, rfl, ?_⟩
              first
              | exact ⟨hij3, hjb3, hPj, fun h => by omega, Ow.au, Ch.au⟩
              | exact ⟨hij3, hjb3, hPj, fun h => h129, Ow.au, Ch.au⟩
          · refine D_ps 4 rfl ?_
            refine D_ps 5 rfl ?_
            refine D_ps 6 rfl ?_
            refine D_ps 7 rfl ?_
            refine D_ps 8 rfl ?_
            refine D_ps 9 rfl ?_
            refine D_ps 10 rfl ?_
            refine D_ps 11 rfl ?_
            refine D_ps 12 rfl ?_
            refine D_ps 13 rfl ?_
            refine D_t 14 rfl (fun W hW => r_pf rfl rfl) ?_
            refine D_done (by kernel_rfl) ?_
            refine W_false rfl ?_
            refine W_exit ?_
            repeat (first | refine blk_hit ?_ | refine blk_miss rfl ?_)
            refine ⟨⟨rfl, rfl, rfl, trivial⟩, j3, rfl, ?_⟩
            first
            | exact ⟨hij3, hjb3, hPj, fun h => by omega, Ow.au, Ch.au⟩
            | exact ⟨hij3, hjb3, hPj, fun h => h129, Ow.au, Ch.au⟩
        rintro gcb8 w86 ⟨j3, hf11, hCb8⟩
        refine W_as 11 hf11 rfl ?_
        clear hf11
        obtain ⟨hij3, hjb3, hPj, hnj3, hD2, hc⟩ := hCb8
        have hz := hc.size
        refine W_seq ?_
        refine W_seq ?_
        refine W_region ?_
        refine L_r (r_mi rfl) ?_
        refine L_r (r_mi rfl) ?_
        refine L_r (r_gtr rfl rfl) ?_
        refine L_nil ?_
        refine W_if rfl (fun h134 => ?_) (fun h134 => ?_)
        · refine W_exit ?_
          repeat (first | refine blk_hit ?_ | refine blk_miss rfl ?_)
          refine W_seq ?_
          refine W_draw (fun W => ∃ xs, Sl W v 1 Z.length xs) 15 (m := 16) (by kernel_rfl) rfl (fun w87 c87 hs87 => ?_)
          refine held (by exact ⟨_, Sl.au⟩) (fun hS => ?_)
          refine D_t 0 rfl (fun W hW => r_mv) ?_
          refine D_t 1 rfl (fun W hW => r_mi rfl) ?_
          refine D_t 2 rfl (fun W hW => r_mv) ?_
          refine D_t 3 rfl (fun W hW => r_mi rfl) ?_
          refine D_t 4 rfl (fun W hW => r_mv) ?_
          refine D_t 5 rfl (fun W hW => r_mi rfl) ?_
          refine D_t 6 rfl (fun W hW => r_ix Try.underlying80 (show _ = some 1 from rfl) (by conv => lhs; whnf) rfl (by exact hW.choose_spec)) ?_
          refine D_t 8 rfl (fun W hW => r_mv) ?_
          refine D_t 9 rfl (fun W hW => r_mi rfl) ?_
          refine D_t 10 rfl (fun W hW => r_ix Try.underlying80 (show _ = some 1 from rfl) (by conv => lhs; whnf) rfl (by exact hW.choose_spec)) ?_
          refine D_ev2 7 11 (by kernel_rfl) rfl rfl ?_ ?_
          · refine L_r (r_loadSl rfl rfl Sl.au (by first | assumption | exact ucells_gt _ _ (by omega) | (conv => lhs; simp only [List.getElem?_toArray, List.getElem?_cons_succ, List.getElem?_cons_zero]))) ?_
            refine L_nil ?_
            refine heldK (by exact ⟨_, Sl.au⟩) (fun hS => ?_)
            refine D_ev 11 (by kernel_rfl) rfl ?_
            refine L_r (r_loadSl rfl rfl Sl.au (by first | assumption | exact ucells_gt _ _ (by omega) | (conv => lhs; simp only [List.getElem?_toArray, List.getElem?_cons_succ, List.getElem?_cons_zero]))) ?_
            refine L_nil ?_
            refine heldK (by exact ⟨_, Sl.au⟩) (fun hS => ?_)
            refine D_t 12 rfl (fun W hW => r_ix Try.underlying80 (show _ = some 1 from rfl) (by conv => lhs; whnf) rfl (by exact hW.choose_spec)) ?_
            refine D_ev 13 (by kernel_rfl) rfl ?_
            refine L_setOw (.plain rfl) rfl rfl (u := .int _ _) rfl rfl Ow.au (by first | omega | (simp only [List.length_set, ucells_length]; omega) | (simp; done)) (fun w88 hb88 hs88 c88 => ?_)
            refine L_nil ?_
            refine heldK (by exact ⟨_, Sl.au⟩) (fun hS => ?_)
            refine D_t 14 rfl (fun W hW => r_ix Try.underlying80 (show _ = some 1 from rfl) (by conv => lhs; whnf) rfl (by exact hW.choose_spec)) ?_
            refine D_ev 15 (by kernel_rfl) rfl ?_
            refine L_setOw (.plain rfl) rfl rfl (u := .int _ _) rfl rfl Ow.au (by first | omega | (simp only [List.length_set, ucells_length]; omega) | (simp; done)) (fun w89 hb89 hs89 c89 => ?_)
            refine L_nil ?_
            refine heldL ?_
            refine D_done (by kernel_rfl) ?_
            refine W_seq ?_
            have hDf := dt_swp (by assumption : Ow w89 base 26 1 v Z.length (((ucells Z).set j3 (.int .u64 (gt Z a : Int))).set a (.int .u64 (gt Z j3 : Int))))
            have hRf : Rg a b X (swp Z j3 a) := hR2.trans (Rg.swap Z j3 a Rg.refl (by omega) (by omega) (by omega) (by omega) (by omega))
            have hCf := hPj.done (by omega) (by omega) (by omega) (by omega)
            refine W_region ?_
            refine L_r (r_mi rfl) ?_
            refine L_r (r_ai rfl) ?_
            refine L_r (r_ab rfl) ?_
            refine L_nil ?_
            refine W_ret ?_
            refine ret2 (u := .int _ _) (v := .bool _) rfl rfl rfl ?_
            first
            | exact ⟨j3, false, rfl, by omega, by omega, ⟨_, Ow.au, hRf, hCf⟩, Ch.au⟩
            | exact ⟨j, true, rfl, by omega, by omega, ⟨_, Ow.au, hRf, hCf⟩, Ch.au⟩
          · refine L_r (r_loadSl rfl rfl Sl.au (by first | assumption | exact ucells_gt _ _ (by omega) | (conv => lhs; simp only [List.getElem?_toArray, List.getElem?_cons_succ, List.getElem?_cons_zero]))) ?_
            refine L_nil ?_
            refine heldK (by exact ⟨_, Sl.au⟩) (fun hS => ?_)
            refine D_ev 7 (by kernel_rfl) rfl ?_
            refine L_r (r_loadSl rfl rfl Sl.au (by first | assumption | exact ucells_gt _ _ (by omega) | (conv => lhs; simp only [List.getElem?_toArray, List.getElem?_cons_succ, List.getElem?_cons_zero]))) ?_
            refine L_nil ?_
            refine heldK (by exact ⟨_, Sl.au⟩) (fun hS => ?_)
            refine D_t 12 rfl (fun W hW => r_ix Try.underlying80 (show _ = some 1 from rfl) (by conv => lhs; whnf) rfl (by exact hW.choose_spec)) ?_
            refine D_ev 13 (by kernel_rfl) rfl ?_
            refine L_setOw (.plain rfl) rfl rfl (u := .int _ _) rfl rfl Ow.au (by first | omega | (simp only [List.length_set, ucells_length]; omega) | (simp; done)) (fun w90 hb90 hs90 c90 => ?_)
            refine L_nil ?_
            refine heldK (by exact ⟨_, Sl.au⟩) (fun hS => ?_)
            refine D_t 14 rfl (fun W hW => r_ix Try.underlying80 (show _ = some 1 from rfl) (by conv => lhs; whnf) rfl (by exact hW.choose_spec)) ?_
            refine D_ev 15 (by kernel_rfl) rfl ?_
            refine L_setOw (.plain rfl) rfl rfl (u := .int _ _) rfl rfl Ow.au (by first | omega | (simp only [List.length_set, ucells_length]; omega) | (simp; done)) (fun w91 hb91 hs91 c91 => ?_)
            refine L_nil ?_
            refine heldL ?_
            refine D_done (by kernel_rfl) ?_
            refine W_seq ?_
            have hDf := dt_swp (by assumption : Ow w91 base 26 1 v Z.length (((ucells Z).set j3 (.int .u64 (gt Z a : Int))).set a (.int .u64 (gt Z j3 : Int))))
            have hRf : Rg a b X (swp Z j3 a) := hR2.trans (Rg.swap Z j3 a Rg.refl (by omega) (by omega) (by omega) (by omega) (by omega))
            have hCf := hPj.done (by omega) (by omega) (by omega) (by omega)
            refine W_region ?_
            refine L_r (r_mi rfl) ?_
            refine L_r (r_ai rfl) ?_
            refine L_r (r_ab rfl) ?_
            refine L_nil ?_
            refine W_ret ?_
            refine ret2 (u := .int _ _) (v := .bool _) rfl rfl rfl ?_
            first
            | exact ⟨j3, false, rfl, by omega, by omega, ⟨_, Ow.au, hRf, hCf⟩, Ch.au⟩
            | exact ⟨j, true, rfl, by omega, by omega, ⟨_, Ow.au, hRf, hCf⟩, Ch.au⟩
        · refine W_skip ?_
          refine W_seq ?_
          refine W_draw (fun W => ∃ xs, Sl W v 1 Z.length xs) 15 (m := 16) (by kernel_rfl) rfl (fun w92 c92 hs92 => ?_)
          refine held (by exact ⟨_, Sl.au⟩) (fun hS => ?_)
          refine D_t 0 rfl (fun W hW => r_mv) ?_
          refine D_t 1 rfl (fun W hW => r_mi rfl) ?_
          refine D_t 2 rfl (fun W hW => r_mv) ?_
          refine D_t 3 rfl (fun W hW => r_mi rfl) ?_
          refine D_t 4 rfl (fun W hW => r_mv) ?_
          refine D_t 5 rfl (fun W hW => r_mi rfl) ?_
          refine D_t 6 rfl (fun W hW => r_ix Try.underlying80 (show _ = some 1 from rfl) (by conv => lhs; whnf) rfl (by exact hW.choose_spec)) ?_
          refine D_t 8 rfl (fun W hW => r_mv) ?_
          refine D_t 9 rfl (fun W hW => r_mi rfl) ?_
          refine D_t 10 rfl (fun W hW => r_ix Try.underlying80 (show _ = some 1 from rfl) (by conv => lhs; whnf) rfl (by exact hW.choose_spec)) ?_
          refine D_ev2 7 11 (by kernel_rfl) rfl rfl ?_ ?_
          · refine L_r (r_loadSl rfl rfl Sl.au (by first | assumption | exact ucells_gt _ _ (by omega) | (conv => lhs; simp only [List.getElem?_toArray, List.getElem?_cons_succ, List.getElem?_cons_zero]))) ?_
            refine L_nil ?_
            refine heldK (by exact ⟨_, Sl.au⟩) (fun hS => ?_)
            refine D_ev 11 (by kernel_rfl) rfl ?_
            refine L_r (r_loadSl rfl rfl Sl.au (by first | assumption | exact ucells_gt _ _ (by omega) | (conv => lhs; simp only [List.getElem?_toArray, List.getElem?_cons_succ, List.getElem?_cons_zero]))) ?_
            refine L_nil ?_
            refine heldK (by exact ⟨_, Sl.au⟩) (fun hS => ?_)
            refine D_t 12 rfl (fun W hW => r_ix Try.underlying80 (show _ = some 1 from rfl) (by conv => lhs; whnf) rfl (by exact hW.choose_spec)) ?_
            refine D_ev 13 (by kernel_rfl) rfl ?_
            refine L_setOw (.plain rfl) rfl rfl (u := .int _ _) rfl rfl Ow.au (by first | omega | (simp only [List.length_set, ucells_length]; omega) | (simp; done)) (fun w93 hb93 hs93 c93 => ?_)
            refine L_nil ?_
            refine heldK (by exact ⟨_, Sl.au⟩) (fun hS => ?_)
            refine D_t 14 rfl (fun W hW => r_ix Try.underlying80 (show _ = some 1 from rfl) (by conv => lhs; whnf) rfl (by exact hW.choose_spec)) ?_
            refine D_ev 15 (by kernel_rfl) rfl ?_
            refine L_setOw (.plain rfl) rfl rfl (u := .int _ _) rfl rfl Ow.au (by first | omega | (simp only [List.length_set, ucells_length]; omega) | (simp; done)) (fun w94 hb94 hs94 c94 => ?_)
            refine L_nil ?_
            refine heldL ?_
            refine D_done (by kernel_rfl) ?_
            refine W_seq ?_
            have hD3 := dt_swp (by assumption : Ow w94 base 26 1 v Z.length (((ucells Z).set i3 (.int .u64 (gt Z j3 : Int))).set j3 (.int .u64 (gt Z i3 : Int))))
            obtain ⟨hP3, hlt3⟩ := hPj.swap ha3.1 (by omega) (by omega) (by omega) (hni3 (by omega)) (hnj3 (by omega))
            have hR3 : Rg a b X (swp Z i3 j3) := hR2.trans (Rg.swap Z i3 j3 Rg.refl (by omega) (by omega) (by omega) (by omega) (by omega))
            obtain ⟨Z1, hZ1⟩ : ∃ x, x = swp Z i3 j3 := ⟨_, rfl⟩
            rw [← hZ1] at hD3 hP3 hR3
            refine W_region ?_
            refine L_r (r_mi rfl) ?_
            refine L_r (r_add rfl rfl (by first | exact wr_i64 (by omega) | rfl)) ?_
            refine L_r (r_ai rfl) ?_
            refine L_nil ?_
            refine W_region ?_
            refine L_r (r_mi rfl) ?_
            refine L_r (r_sub rfl rfl (by first | exact wr_i64 (by omega) | rfl)) ?_
            refine L_r (r_ai rfl) ?_
            refine L_nil ?_
            refine ⟨⟨rfl, rfl, trivial⟩, _, ?_, i3 + 1, j3 - 1, Z1, rfl, (by exact congrArg (Value.int .i64) (by omega)), ?_, rfl⟩
            · omega
            exact ⟨by omega, by omega, by omega, hP3, Ow.au, hR3, Ch.au⟩
          · refine L_r (r_loadSl rfl rfl Sl.au (by first | assumption | exact ucells_gt _ _ (by omega) | (conv => lhs; simp only [List.getElem?_toArray, List.getElem?_cons_succ, List.getElem?_cons_zero]))) ?_
            refine L_nil ?_
            refine heldK (by exact ⟨_, Sl.au⟩) (fun hS => ?_)
            refine D_ev 7 (by kernel_rfl) rfl ?_
            refine L_r (r_loadSl rfl rfl Sl.au (by first | assumption | exact ucells_gt _ _ (by omega) | (conv => lhs; simp only [List.getElem?_toArray, List.getElem?_cons_succ, List.getElem?_cons_zero]))) ?_
            refine L_nil ?_
            refine heldK (by exact ⟨_, Sl.au⟩) (fun hS => ?_)
            refine D_t 12 rfl (fun W hW => r_ix Try.underlying80 (show _ = some 1 from rfl) (by conv => lhs; whnf) rfl (by exact hW.choose_spec)) ?_
            refine D_ev 13 (by kernel_rfl) rfl ?_
            refine L_setOw (.plain rfl) rfl rfl (u := .int _ _) rfl rfl Ow.au (by first | omega | (simp only [List.length_set, ucells_length]; omega) | (simp; done)) (fun w95 hb95 hs95 c95 => ?_)
            refine L_nil ?_
            refine heldK (by exact ⟨_, Sl.au⟩) (fun hS => ?_)
            refine D_t 14 rfl (fun W hW => r_ix Try.underlying80 (show _ = some 1 from rfl) (by conv => lhs; whnf) rfl (by exact hW.choose_spec)) ?_
            refine D_ev 15 (by kernel_rfl) rfl ?_
            refine L_setOw (.plain rfl) rfl rfl (u := .int _ _) rfl rfl Ow.au (by first | omega | (simp only [List.length_set, ucells_length]; omega) | (simp; done)) (fun w96 hb96 hs96 c96 => ?_)
            refine L_nil ?_
            refine heldL ?_
            refine D_done (by kernel_rfl) ?_
            refine W_seq ?_
            have hD3 := dt_swp (by assumption : Ow w96 base 26 1 v Z.length (((ucells Z).set i3 (.int .u64 (gt Z j3 : Int))).set j3 (.int .u64 (gt Z i3 : Int))))
            obtain ⟨hP3, hlt3⟩ := hPj.swap ha3.1 (by omega) (by omega) (by omega) (hni3 (by omega)) (hnj3 (by omega))
            have hR3 : Rg a b X (swp Z i3 j3) := hR2.trans (Rg.swap Z i3 j3 Rg.refl (by omega) (by omega) (by omega) (by omega) (by omega))
            obtain ⟨Z1, hZ1⟩ : ∃ x, x = swp Z i3 j3 := ⟨_, rfl⟩
            rw [← hZ1] at hD3 hP3 hR3
            refine W_region ?_
            refine L_r (r_mi rfl) ?_
            refine L_r (r_add rfl rfl (by first | exact wr_i64 (by omega) | rfl)) ?_
            refine L_r (r_ai rfl) ?_
            refine L_nil ?_
            refine W_region ?_
            refine L_r (r_mi rfl) ?_
            refine L_r (r_sub rfl rfl (by first | exact wr_i64 (by omega) | rfl)) ?_
            refine L_r (r_ai rfl) ?_
            refine L_nil ?_
            refine ⟨⟨rfl, rfl, trivial⟩, _, ?_, i3 + 1, j3 - 1, Z1, rfl, (by exact congrArg (Value.int .i64) (by omega)), ?_, rfl⟩
            · omega
            exact ⟨by omega, by omega, by omega, hP3, Ow.au, hR3, Ch.au⟩
      · refine L_r (r_loadSl rfl rfl Sl.au (by first | assumption | exact ucells_gt _ _ (by omega) | (conv => lhs; simp only [List.getElem?_toArray, List.getElem?_cons_succ, List.getElem?_cons_zero]))) ?_
        refine L_nil ?_
        refine heldK (by exact ⟨_, Sl.au⟩) (fun hS => ?_)
        refine D_ev 7 (by kernel_rfl) rfl ?_
        refine L_r (r_loadSl rfl rfl Sl.au (by first | assumption | exact ucells_gt _ _ (by omega) | (conv => lhs; simp only [List.getElem?_toArray, List.getElem?_cons_succ, List.getElem?_cons_zero]))) ?_
        refine L_nil ?_
        refine heldK (by exact ⟨_, Sl.au⟩) (fun hS => ?_)
        refine D_t 12 rfl (fun W hW => r_ix Try.underlying80 (show _ = some 1 from rfl) (by conv => lhs; whnf) rfl (by exact hW.choose_spec)) ?_
        refine D_ev 13 (by kernel_rfl) rfl ?_
        refine L_setOw (.plain rfl) rfl rfl (u := .int _ _) rfl rfl Ow.au (by first | omega | (simp only [List.length_set, ucells_length]; omega) | (simp; done)) (fun w97 hb97 hs97 c97 => ?_)
        refine L_nil ?_
        refine heldK (by exact ⟨_, Sl.au⟩) (fun hS => ?_)
        refine D_t 14 rfl (fun W hW => r_ix Try.underlying80 (show _ = some 1 from rfl) (by conv => lhs; whnf) rfl (by exact hW.choose_spec)) ?_
        refine D_ev 15 (by kernel_rfl) rfl ?_
        refine L_setOw (.plain rfl) rfl rfl (u := .int _ _) rfl rfl Ow.au (by first | omega | (simp only [List.length_set, ucells_length]; omega) | (simp; done)) (fun w98 hb98 hs98 c98 => ?_)
        refine L_nil ?_
        refine heldL ?_
        refine D_done (by kernel_rfl) ?_
        refine W_seq ?_
        have hD2 := dt_swp (by assumption : Ow w98 base 26 1 v Y.length (((ucells Y).set i (.int .u64 (gt Y j : Int))).set j (.int .u64 (gt Y i : Int))))
        obtain ⟨hP2, hlt2⟩ := hPj.swap hai (by omega) hjb (by omega) (hni (by omega)) (hnj (by omega))
        have hR2 : Rg a b X (swp Y i j) := hR1.trans (Rg.swap Y i j Rg.refl (by omega) (by omega) (by omega) (by omega) (by omega))
        obtain ⟨Z, hZ⟩ : ∃ x, x = swp Y i j := ⟨_, rfl⟩
        rw [← hZ] at hD2 hP2 hR2
        refine W_region ?_
        refine L_r (r_mi rfl) ?_
        refine L_r (r_add rfl rfl (by first | exact wr_i64 (by omega) | rfl)) ?_
        refine L_r (r_ai rfl) ?_
        refine L_nil ?_
        refine W_seq ?_
        refine W_region ?_
        refine L_r (r_mi rfl) ?_
        refine L_r (r_sub rfl rfl (by first | exact wr_i64 (by omega) | rfl)) ?_
        refine L_r (r_ai rfl) ?_
        refine L_nil ?_
        refine W_seq ?_
        refine W_block ?_
        refine W_loopF [0, 1] (fun mz_ f W => ∃ (i2 : Nat) (j2 : Nat) (Z : List Nat), f 10 = .int .i64 i2 ∧ f 11 = .int .i64 j2 ∧ (a < i2 ∧ i2 ≤ j2 + 1 ∧ j2 < b ∧ Prt a b i2 j2 P Z ∧ Dt base W v Z ∧ Rg a b X Z ∧ DtC v w0 W) ∧ mz_ = j2 + 2 - i2) ?_ ?_
        · refine ⟨_, i + 1, j - 1, Z, rfl, (by exact congrArg (Value.int .i64) (by omega)), ?_, rfl⟩
          exact ⟨by omega, by omega, by omega, hP2, Ow.au, hR2, Ch.au⟩
        rintro m2 g2 w99 ⟨i2, j2, Z, hf10, hf11, hR2, rfl⟩
        refine W_as 10 hf10 rfl ?_
        refine W_as 11 hf11 rfl ?_
        clear hf10 hf11
        obtain ⟨ha2, hij2, hjb2, hP2, hD2, hR2, hc⟩ := hR2
        have hz := hc.size
        have hl2 := hR2.length
        refine W_block ?_
        refine W_cutF [0, 1, 11] (fun f W => ∃ (i3 : Nat), f 10 = .int .i64 i3 ∧ ((a < i3 ∧ i2 ≤ i3) ∧ i3 ≤ j2 + 1 ∧ Prt a b i3 j2 P Z ∧ (i3 ≤ j2 → ¬ gt Z i3 < P) ∧ Dt base W v Z ∧ DtC v w0 W)) ?_ ?_
        · refine W_block ?_
          refine W_loopF [0, 1, 11] (fun mz_ f W => ∃ (i3 : Nat), f 10 = .int .i64 i3 ∧ ((a < i3 ∧ i2 ≤ i3) ∧ i3 ≤ j2 + 1 ∧ Prt a b i3 j2 P Z ∧ Dt base W v Z ∧ DtC v w0 W) ∧ mz_ = j2 + 1 - i3) ?_ ?_
          · refine ⟨_, i2, rfl, ?_, rfl⟩
            exact ⟨by omega, by omega, hP2, Ow.au, Ch.au⟩
          rintro m3 g3 w100 ⟨i3, hf10, hR3, rfl⟩
          refine W_as 10 hf10 rfl ?_
          clear hf10
          obtain ⟨ha3, hi3, hP2, hD2, hc⟩ := hR3
          have hz := hc.size
          refine W_seq ?_
          refine W_seq ?_
          refine W_draw (fun W => Dt base W v Z) 14 (m := 14) (by kernel_rfl) rfl (fun w101 c101 hs101 => ?_)
          refine held Ow.au (fun hS => ?_)
          refine D_t 0 rfl (fun W hW => r_mi rfl) ?_
          refine D_t 1 rfl (fun W hW => r_mi rfl) ?_
          refine D_t 2 rfl (fun W hW => r_leq rfl rfl) ?_
          refine D_t 3 rfl (fun W hW => r_mb rfl) ?_
          refine D_case (d := 102) rfl (fun h102 => ?_) (fun h102 => ?_)
          · refine D_g 4 rfl (fun W hW => r_mv) ?_
            refine D_g 5 rfl (fun W hW => r_mi rfl) ?_
            refine D_g 6 rfl (fun W hW => r_ix Try.underlying80 (show _ = some 1 from rfl) (by conv => lhs; whnf) rfl (by (first | exact hW.sl | exact hW))) ?_
            refine D_g 7 rfl (fun W hW => r_loadSl rfl rfl (by (first | exact hW.sl | exact hW)) (by first | assumption | exact ucells_gt _ _ (by omega) | (conv => lhs; simp only [List.getElem?_toArray, List.getElem?_cons_succ, List.getElem?_cons_zero]))) ?_
            refine D_g 8 rfl (fun W hW => r_mv) ?_
            refine D_g 9 rfl (fun W hW => r_mi rfl) ?_
            refine D_g 10 rfl (fun W hW => r_ix Try.underlying80 (show _ = some 1 from rfl) (by conv => lhs; whnf) rfl (by (first | exact hW.sl | exact hW))) ?_
            refine D_g 11 rfl (fun W hW => r_loadSl rfl rfl (by (first | exact hW.sl | exact hW)) (by first | assumption | exact ucells_gt _ _ (by omega) | (conv => lhs; simp only [List.getElem?_toArray, List.getElem?_cons_succ, List.getElem?_cons_zero]))) ?_
            refine D_ev 12 (by kernel_rfl) rfl ?_
            refine L_call (.yes 3 true rfl rfl) rfl rfl (r_call Try.func54 rfl rfl rfl (by rfl)) (less_walk (gt Z i3) (gt Z a) _) ?_
            rintro v111 w102 ⟨rfl, c102⟩
            have hz102 := c102.size
            rw [hP2.piv]
            refine L_nil ?_
            refine heldK Ow.au (fun hS => ?_)
            refine D_t 13 rfl (fun W hW => r_pt rfl rfl) ?_
            refine D_done (by kernel_rfl) ?_
            refine W_bool rfl (fun h112 => ?_) (fun h112 => ?_)
            · replace h112 := of_decide_eq_true h112
              refine W_skip ?_
              refine W_block ?_
              refine W_region ?_
              refine L_r (r_mi rfl) ?_
              refine L_r (r_add rfl rfl (by first | exact wr_i64 (by omega) | rfl)) ?_
              refine L_r (r_ai rfl) ?_
              refine L_nil ?_
              refine ⟨⟨rfl, rfl, rfl, trivial⟩, _, ?_, i3 + 1, rfl, ?_, rfl⟩
              · omega
              exact ⟨by omega, by omega, ⟨hP2.piv, fun k k1 k2 => by rcases Nat.lt_or_ge k i3 with h | h; exact hP2.lo k k1 h; (have e : k = i3 := by omega); rw [e]; omega, hP2.hi⟩, Ow.au, Ch.au⟩
            · try (replace h112 := of_decide_eq_false h112)
              refine W_exit ?_
              repeat (first | refine blk_hit ?_ | refine blk_miss rfl ?_)
              refine ⟨⟨rfl, rfl, rfl, trivial⟩, i3, rfl, ?_⟩
              first
              | exact ⟨ha3, hi3, hP2, fun h => by omega, Ow.au, Ch.au⟩
              | exact ⟨ha3, hi3, hP2, fun h => h112, Ow.au, Ch.au⟩
          · refine D_ps 4 rfl ?_
            refine D_ps 5 rfl ?_
            refine D_ps 6 rfl ?_
            refine D_ps 7 rfl ?_
            refine D_ps 8 rfl ?_
            refine D_ps 9 rfl ?_
            refine D_ps 10 rfl ?_
            refine D_ps 11 rfl ?_
            refine D_ps 12 rfl ?_
            refine D_t 13 rfl (fun W hW => r_pf rfl rfl) ?_
            refine D_done (by kernel_rfl) ?_
            refine W_false rfl ?_
            refine W_exit ?_
            repeat (first | refine blk_hit ?_ | refine blk_miss rfl ?_)
            refine ⟨⟨rfl, rfl, rfl, trivial⟩, i3, rfl, ?_⟩
            first
            | exact ⟨ha3, hi3, hP2, fun h => by omega, Ow.au, Ch.au⟩
            | exact ⟨ha3, hi3, hP2, fun h => h112, Ow.au, Ch.au⟩
        rintro gcb6 w103 ⟨i3, hf10, hCb6⟩
        refine W_as 10 hf10 rfl ?_
        clear hf10
        obtain ⟨ha3, hi3, hP2, hni3, hD2, hc⟩ := hCb6
        have hz := hc.size
        refine W_cutF [0, 1, 10] (fun f W => ∃ (j3 : Nat), f 11 = .int .i64 j3 ∧ (i3 ≤ j3 + 1 ∧ j3 ≤ j2 ∧ Prt a b i3 j3 P Z ∧ (i3 ≤ j3 → gt Z j3 < P) ∧ Dt base W v Z ∧ DtC v w0 W)) ?_ ?_
        · refine W_block ?_
          refine W_loopF [0, 1, 10] (fun mz_ f W => ∃ (j3 : Nat), f 11 = .int .i64 j3 ∧ (i3 ≤ j3 + 1 ∧ j3 ≤ j2 ∧ Prt a b i3 j3 P Z ∧ Dt base W v Z ∧ DtC v w0 W) ∧ mz_ = j3 + 1) ?_ ?_
          · refine ⟨_, j2, rfl, ?_, rfl⟩
            exact ⟨by omega, by omega, hP2, Ow.au, Ch.au⟩
          rintro m4 g4 w104 ⟨j3, hf11, hR4, rfl⟩
          refine W_as 11 hf11 rfl ?_
          clear hf11
          obtain ⟨hij3, hjb3, hPj, hD2, hc⟩ := hR4
          have hz := hc.size
          refine W_seq ?_
          refine W_seq ?_
          refine W_draw (fun W => Dt base W v Z) 15 (m := 15) (by kernel_rfl) rfl (fun w105 c105 hs105 => ?_)
          refine held Ow.au (fun hS => ?_)
          refine D_t 0 rfl (fun W hW => r_mi rfl) ?_
          refine D_t 1 rfl (fun W hW => r_mi rfl) ?_
          refine D_t 2 rfl (fun W hW => r_leq rfl rfl) ?_
          refine D_t 3 rfl (fun W hW => r_mb rfl) ?_
          refine D_case (d := 118) rfl (fun h118 => ?_) (fun h118 => ?_)
          · refine D_g 4 rfl (fun W hW => r_mv) ?_
            refine D_g 5 rfl (fun W hW => r_mi rfl) ?_
            refine D_g 6 rfl (fun W hW => r_ix Try.underlying80 (show _ = some 1 from rfl) (by conv => lhs; whnf) rfl (by (first | exact hW.sl | exact hW))) ?_
            refine D_g 7 rfl (fun W hW => r_loadSl rfl rfl (by (first | exact hW.sl | exact hW)) (by first | assumption | exact ucells_gt _ _ (by omega) | (conv => lhs; simp only [List.getElem?_toArray, List.getElem?_cons_succ, List.getElem?_cons_zero]))) ?_
            refine D_g 8 rfl (fun W hW => r_mv) ?_
            refine D_g 9 rfl (fun W hW => r_mi rfl) ?_
            refine D_g 10 rfl (fun W hW => r_ix Try.underlying80 (show _ = some 1 from rfl) (by conv => lhs; whnf) rfl (by (first | exact hW.sl | exact hW))) ?_
            refine D_g 11 rfl (fun W hW => r_loadSl rfl rfl (by (first | exact hW.sl | exact hW)) (by first | assumption | exact ucells_gt _ _ (by omega) | (conv => lhs; simp only [List.getElem?_toArray, List.getElem?_cons_succ, List.getElem?_cons_zero]))) ?_
            refine D_ev 12 (by kernel_rfl) rfl ?_
            refine L_call (.yes 3 true rfl rfl) rfl rfl (r_call Try.func54 rfl rfl rfl (by rfl)) (less_walk (gt Z j3) (gt Z a) _) ?_
            rintro v127 w106 ⟨rfl, c106⟩
            have hz106 := c106.size
            rw [hPj.piv]
            refine L_nil ?_
            refine heldK Ow.au (fun hS => ?_)
            refine D_g 13 rfl (fun W hW => r_not rfl) ?_
            refine D_t 14 rfl (fun W hW => r_pt rfl rfl) ?_
            refine D_done (by kernel_rfl) ?_
            refine W_bool rfl (fun h129 => ?_) (fun h129 => ?_)
            · replace h129 : ¬ gt Z j3 < P := by simpa using h129
              refine W_skip ?_
              refine W_block ?_
              refine W_region ?_
              refine L_r (r_mi rfl) ?_
              refine L_r (r_sub rfl rfl (by first | exact wr_i64 (by omega) | rfl)) ?_
              refine L_r (r_ai rfl) ?_
              refine L_nil ?_
              refine ⟨⟨rfl, rfl, rfl, trivial⟩, _, ?_, j3 - 1, (by exact congrArg (Value.int .i64) (by omega)), ?_, rfl⟩
              · omega
              exact ⟨by omega, by omega, ⟨hPj.piv, hPj.lo, fun k k1 k2 => by rcases Nat.lt_or_ge j3 k with h | h; exact hPj.hi k h k2; (have e : k = j3 := by omega); rw [e]; omega⟩, Ow.au, Ch.au⟩
            · try (replace h129 : gt Z j3 < P := by simpa using h129)
              refine W_exit ?_
              repeat (first | refine blk_hit ?_ | refine blk_miss rfl ?_)
              refine ⟨⟨rfl, rfl, rfl, trivial⟩, j3, rfl, ?_⟩
              first
              | exact ⟨hij3, hjb3, hPj, fun h => by omega, Ow.au, Ch.au⟩
              | exact ⟨hij3, hjb3, hPj, fun h => h129, Ow.au, Ch.au⟩
          · refine D_ps 4 rfl ?_
            refine D_ps 5 rfl ?_
            refine D_ps 6 rfl ?_
            refine D_ps 7 rfl ?_
            refine D_ps 8 rfl ?_
            refine D_ps 9 rfl ?_
            refine D_ps 10 rfl ?_
            refine D_ps 11 rfl ?_
            refine D_ps 12 rfl ?_
            refine D_ps 13 rfl ?_
            refine D_t 14 rfl (fun W hW => r_pf rfl rfl) ?_
            refine D_done (by kernel_rfl) ?_
            refine W_false rfl ?_
            refine W_exit ?_
            repeat (first | refine blk_hit ?_ | refine blk_miss rfl ?_)
            refine ⟨⟨rfl, rfl, rfl, trivial⟩, j3, rfl, ?_⟩
            first
            | exact ⟨hij3, hjb3, hPj, fun h => by omega, Ow.au, Ch.au⟩
            | exact ⟨hij3, hjb3, hPj, fun h => h129, Ow.au, Ch.au⟩
        rintro gcb8 w107 ⟨j3, hf11, hCb8⟩
        refine W_as 11 hf11 rfl ?_
        clear hf11
        obtain ⟨hij3, hjb3, hPj, hnj3, hD2, hc⟩ := hCb8
        have hz := hc.size
        refine W_seq ?_
        refine W_seq ?_
        refine W_region ?_
        refine L_r (r_mi rfl) ?_
        refine L_r (r_mi rfl) ?_
        refine L_r (r_gtr rfl rfl) ?_
        refine L_nil ?_
        refine W_if rfl (fun h134 => ?_) (fun h134 => ?_)
        · refine W_exit ?_
          repeat (first | refine blk_hit ?_ | refine blk_miss rfl ?_)
          refine W_seq ?_
          refine W_draw (fun W => ∃ xs, Sl W v 1 Z.length xs) 15 (m := 16) (by kernel_rfl) rfl (fun w108 c108 hs108 => ?_)
          refine held (by exact ⟨_, Sl.au⟩) (fun hS => ?_)
          refine D_t 0 rfl (fun W hW => r_mv) ?_
          refine D_t 1 rfl (fun W hW => r_mi rfl) ?_
          refine D_t 2 rfl (fun W hW => r_mv) ?_
          refine D_t 3 rfl (fun W hW => r_mi rfl) ?_
          refine D_t 4 rfl (fun W hW => r_mv) ?_
          refine D_t 5 rfl (fun W hW => r_mi rfl) ?_
          refine D_t 6 rfl (fun W hW => r_ix Try.underlying80 (show _ = some 1 from rfl) (by conv => lhs; whnf) rfl (by exact hW.choose_spec)) ?_
          refine D_t 8 rfl (fun W hW => r_mv) ?_
          refine D_t 9 rfl (fun W hW => r_mi rfl) ?_
          refine D_t 10 rfl (fun W hW => r_ix Try.underlying80 (show _ = some 1 from rfl) (by conv => lhs; whnf) rfl (by exact hW.choose_spec)) ?_
          refine D_ev2 7 11 (by kernel_rfl) rfl rfl ?_ ?_
          · refine L_r (r_loadSl rfl rfl Sl.au (by first | assumption | exact ucells_gt _ _ (by omega) | (conv => lhs; simp only [List.getElem?_toArray, List.getElem?_cons_succ, List.getElem?_cons_zero]))) ?_
            refine L_nil ?_
            refine heldK (by exact ⟨_, Sl.au⟩) (fun hS => ?_)
            refine D_ev 11 (by kernel_rfl) rfl ?_
            refine L_r (r_loadSl rfl rfl Sl.au (by first | assumption | exact ucells_gt _ _ (by omega) | (conv => lhs; simp only [List.getElem?_toArray, List.getElem?_cons_succ, List.getElem?_cons_zero]))) ?_
            refine L_nil ?_
            refine heldK (by exact ⟨_, Sl.au⟩) (fun hS => ?_)
            refine D_t 12 rfl (fun W hW => r_ix Try.underlying80 (show _ = some 1 from rfl) (by conv => lhs; whnf) rfl (by exact hW.choose_spec)) ?_
            refine D_ev 13 (by kernel_rfl) rfl ?_
            refine L_setOw (.plain rfl) rfl rfl (u := .int _ _) rfl rfl Ow.au (by first | omega | (simp only [List.length_set, ucells_length]; omega) | (simp; done)) (fun w109 hb109 hs109 c109 => ?_)
            refine L_nil ?_
            refine heldK (by exact ⟨_, Sl.au⟩) (fun hS => ?_)
            refine D_t 14 rfl (fun W hW => r_ix Try.underlying80 (show _ = some 1 from rfl) (by conv => lhs; whnf) rfl (by exact hW.choose_spec)) ?_
            refine D_ev 15 (by kernel_rfl) rfl ?_
            refine L_setOw (.plain rfl) rfl rfl (u := .int _ _) rfl rfl Ow.au (by first | omega | (simp only [List.length_set, ucells_length]; omega) | (simp; done)) (fun w110 hb110 hs110 c110 => ?_)
            refine L_nil ?_
            refine heldL ?_
            refine D_done (by kernel_rfl) ?_
            refine W_seq ?_
            have hDf := dt_swp (by assumption : Ow w110 base 26 1 v Z.length (((ucells Z).set j3 (.int .u64 (gt Z a : Int))).set a (.int .u64 (gt Z j3 : Int))))
            have hRf : Rg a b X (swp Z j3 a) := hR2.trans (Rg.swap Z j3 a Rg.refl (by omega) (by omega) (by omega) (by omega) (by omega))
            have hCf := hPj.done (by omega) (by omega) (by omega) (by omega)
            refine W_region ?_
            refine L_r (r_mi rfl) ?_
            refine L_r (r_ai rfl) ?_
            refine L_r (r_ab rfl) ?_
            refine L_nil ?_
            refine W_ret ?_
            refine ret2 (u := .int _ _) (v := .bool _) rfl rfl rfl ?_
            first
            | exact ⟨j3, false, rfl, by omega, by omega, ⟨_, Ow.au, hRf, hCf⟩, Ch.au⟩
            | exact ⟨j, true, rfl, by omega, by omega, ⟨_, Ow.au, hRf, hCf⟩, Ch.au⟩
          · refine L_r (r_loadSl rfl rfl Sl.au (by first | assumption | exact ucells_gt _ _ (by omega) | (conv => lhs; simp only [List.getElem?_toArray, List.getElem?_cons_succ, List.getElem?_cons_zero]))) ?_
            refine L_nil ?_
            refine heldK (by exact ⟨_, Sl.au⟩) (fun hS => ?_)
            refine D_ev 7 (by kernel_rfl) rfl ?_
            refine L_r (r_loadSl rfl rfl Sl.au (by first | assumption | exact ucells_gt _ _ (by omega) | (conv => lhs; simp only [List.getElem?_toArray, List.getElem?_cons_succ, List.getElem?_cons_zero]))) ?_
            refine L_nil ?_
            refine heldK (by exact ⟨_, Sl.au⟩) (fun hS => ?_)
            refine D_t 12 rfl (fun W hW => r_ix Try.underlying80 (show _ = some 1 from rfl) (by conv => lhs; whnf) rfl (by exact hW.choose_spec)) ?_
            refine D_ev 13 (by kernel_rfl) rfl ?_
            refine L_setOw (.plain rfl) rfl rfl (u := .int _ _) rfl rfl Ow.au (by first | omega | (simp only [List.length_set, ucells_length]; omega) | (simp; done)) (fun w111 hb111 hs111 c111 => ?_)
            refine L_nil ?_
            refine heldK (by exact ⟨_, Sl.au⟩) (fun hS => ?_)
            refine D_t 14 rfl (fun W hW => r_ix Try.underlying80 (show _ = some 1 from rfl) (by conv => lhs; whnf) rfl (by exact hW.choose_spec)) ?_
            refine D_ev 15 (by kernel_rfl) rfl ?_
            refine L_setOw (.plain rfl) rfl rfl (u := .int _ _) rfl rfl Ow.au (by first | omega | (simp only [List.length_set, ucells_length]; omega) | (simp; done)) (fun w112 hb112 hs112 c112 => ?_)
            refine L_nil ?_
            refine heldL ?_
            refine D_done (by kernel_rfl) ?_
            refine W_seq ?_
            have hDf := dt_swp (by assumption : Ow w112 base 26 1 v Z.length (((ucells Z).set j3 (.int .u64 (gt Z a : Int))).set a (.int .u64 (gt Z j3 : Int))))
            have hRf : Rg a b X (swp Z j3 a) := hR2.trans (Rg.swap Z j3 a Rg.refl (by omega) (by omega) (by omega) (by omega) (by omega))
            have hCf := hPj.done (by omega) (by omega) (by omega) (by omega)
            refine W_region ?_
            refine L_r (r_mi rfl) ?_
            refine L_r (r_ai rfl) ?_
            refine L_r (r_ab rfl) ?_
            refine L_nil ?_
            refine W_ret ?_
            refine ret2 (u := .int _ _) (v := .bool _) rfl rfl rfl ?_
            first
            | exact ⟨j3, false, rfl, by omega, by omega, ⟨_, Ow.au, hRf, hCf⟩, Ch.au⟩
            | exact ⟨j, true, rfl, by omega, by omega, ⟨_, Ow.au, hRf, hCf⟩, Ch.au⟩
        · refine W_skip ?_
          refine W_seq ?_
          refine W_draw (fun W => ∃ xs, Sl W v 1 Z.length xs) 15 (m := 16) (by kernel_rfl) rfl (fun w113 c113 hs113 => ?_)
          refine held (by exact ⟨_, Sl.au⟩) (fun hS => ?_)
          refine D_t 0 rfl (fun W hW => r_mv) ?_
          refine D_t 1 rfl (fun W hW => r_mi rfl) ?_
          refine D_t 2 rfl (fun W hW => r_mv) ?_
          refine D_t 3 rfl (fun W hW => r_mi rfl) ?_
          refine D_t 4 rfl (fun W hW => r_mv) ?_
          refine D_t 5 rfl (fun W hW => r_mi rfl) ?_
          refine D_t 6 rfl (fun W hW => r_ix Try.underlying80 (show _ = some 1 from rfl) (by conv => lhs; whnf) rfl (by exact hW.choose_spec)) ?_
          refine D_t 8 rfl (fun W hW => r_mv) ?_
          refine D_t 9 rfl (fun W hW => r_mi rfl) ?_
          refine D_t 10 rfl (fun W hW => r_ix Try.underlying80 (show _ = some 1 from rfl) (by conv => lhs; whnf) rfl (by exact hW.choose_spec)) ?_
          refine D_ev2 7 11 (by kernel_rfl) rfl rfl ?_ ?_
          · refine L_r (r_loadSl rfl rfl Sl.au (by first | assumption | exact ucells_gt _ _ (by omega) | (conv => lhs; simp only [List.getElem?_toArray, List.getElem?_cons_succ, List.getElem?_cons_zero]))) ?_
            refine L_nil ?_
            refine heldK (by exact ⟨_, Sl.au⟩) (fun hS => ?_)
            refine D_ev 11 (by kernel_rfl) rfl ?_
            refine L_r (r_loadSl rfl rfl Sl.au (by first | assumption | exact ucells_gt _ _ (by omega) | (conv => lhs; simp only [List.getElem?_toArray, List.getElem?_cons_succ, List.getElem?_cons_zero]))) ?_
            refine L_nil ?_
            refine heldK (by exact ⟨_, Sl.au⟩) (fun hS => ?_)
            refine D_t 12 rfl (fun W hW => r_ix Try.underlying80 (show _ = some 1 from rfl) (by conv => lhs; whnf) rfl (by exact hW.choose_spec)) ?_
            refine D_ev 13 (by kernel_rfl) rfl ?_
            refine L_setOw (.plain rfl) rfl rfl (u := .int _ _) rfl rfl Ow.au (by first | omega | (simp only [List.length_set, ucells_length]; omega) | (simp; done)) (fun w114 hb114 hs114 c114 => ?_)
            refine L_nil ?_
            refine heldK (by exact ⟨_, Sl.au⟩) (fun hS => ?_)
            refine D_t 14 rfl (fun W hW => r_ix Try.underlying80 (show _ = some 1 from rfl) (by conv => lhs; whnf) rfl (by exact hW.choose_spec)) ?_
            refine D_ev 15 (by kernel_rfl) rfl ?_
            refine L_setOw (.plain rfl) rfl rfl (u := .int _ _) rfl rfl Ow.au (by first | omega | (simp only [List.length_set, ucells_length]; omega) | (simp; done)) (fun w115 hb115 hs115 c115 => ?_)
            refine L_nil ?_
            refine heldL ?_
            refine D_done (by kernel_rfl) ?_
            refine W_seq ?_
            have hD3 := dt_swp (by assumption : Ow w115 base 26 1 v Z.length (((ucells Z).set i3 (.int .u64 (gt Z j3 : Int))).set j3 (.int .u64 (gt Z i3 : Int))))
            obtain ⟨hP3, hlt3⟩ := hPj.swap ha3.1 (by omega) (by omega) (by omega) (hni3 (by omega)) (hnj3 (by omega))
            have hR3 : Rg a b X (swp Z i3 j3) := hR2.trans (Rg.swap Z i3 j3 Rg.refl (by omega) (by omega) (by omega) (by omega) (by omega))
            obtain ⟨Z1, hZ1⟩ : ∃ x, x = swp Z i3 j3 := ⟨_, rfl⟩
            rw [← hZ1] at hD3 hP3 hR3
            refine W_region ?_
            refine L_r (r_mi rfl) ?_
            refine L_r (r_add rfl rfl (by first | exact wr_i64 (by omega) | rfl)) ?_
            refine L_r (r_ai rfl) ?_
            refine L_nil ?_
            refine W_region ?_
            refine L_r (r_mi rfl) ?_
            refine L_r (r_sub rfl rfl (by first | exact wr_i64 (by omega) | rfl)) ?_
            refine L_r (r_ai rfl) ?_
            refine L_nil ?_
            refine ⟨⟨rfl, rfl, trivial⟩, _, ?_, i3 + 1, j3 - 1, Z1, rfl, (by exact congrArg (Value.int .i64) (by omega)), ?_, rfl⟩
            · omega
            exact ⟨by omega, by omega, by omega, hP3, Ow.au, hR3, Ch.au⟩
          · refine L_r (r_loadSl rfl rfl Sl.au (by first | assumption | exact ucells_gt _ _ (by omega) | (conv => lhs; simp only [List.getElem?_toArray, List.getElem?_cons_succ, List.getElem?_cons_zero]))) ?_
            refine L_nil ?_
            refine heldK (by exact ⟨_, Sl.au⟩) (fun hS => ?_)
            refine D_ev 7 (by kernel_rfl) rfl ?_
            refine L_r (r_loadSl rfl rfl Sl.au (by first | assumption | exact ucells_gt _ _ (by omega) | (conv => lhs; simp only [List.getElem?_toArray, List.getElem?_cons_succ, List.getElem?_cons_zero]))) ?_
            refine L_nil ?_
            refine heldK (by exact ⟨_, Sl.au⟩) (fun hS => ?_)
            refine D_t 12 rfl (fun W hW => r_ix Try.underlying80 (show _ = some 1 from rfl) (by conv => lhs; whnf) rfl (by exact hW.choose_spec)) ?_
            refine D_ev 13 (by kernel_rfl) rfl ?_
            refine L_setOw (.plain rfl) rfl rfl (u := .int _ _) rfl rfl Ow.au (by first | omega | (simp only [List.length_set, ucells_length]; omega) | (simp; done)) (fun w116 hb116 hs116 c116 => ?_)
            refine L_nil ?_
            refine heldK (by exact ⟨_, Sl.au⟩) (fun hS => ?_)
            refine D_t 14 rfl (fun W hW => r_ix Try.underlying80 (show _ = some 1 from rfl) (by conv => lhs; whnf) rfl (by exact hW.choose_spec)) ?_
            refine D_ev 15 (by kernel_rfl) rfl ?_
            refine L_setOw (.plain rfl) rfl rfl (u := .int _ _) rfl rfl Ow.au (by first | omega | (simp only [List.length_set, ucells_length]; omega) | (simp; done)) (fun w117 hb117 hs117 c117 => ?_)
            refine L_nil ?_
            refine heldL ?_
            refine D_done (by kernel_rfl) ?_
            refine W_seq ?_
            have hD3 := dt_swp (by assumption : Ow w117 base 26 1 v Z.length (((ucells Z).set i3 (.int .u64 (gt Z j3 : Int))).set j3 (.int .u64 (gt Z i3 : Int))))
            obtain ⟨hP3, hlt3⟩ := hPj.swap ha3.1 (by omega) (by omega) (by omega) (hni3 (by omega)) (hnj3 (by omega))
            have hR3 : Rg a b X (swp Z i3 j3) := hR2.trans (Rg.swap Z i3 j3 Rg.refl (by omega) (by omega) (by omega) (by omega) (by omega))
            obtain ⟨Z1, hZ1⟩ : ∃ x, x = swp Z i3 j3 := ⟨_, rfl⟩
            rw [← hZ1] at hD3 hP3 hR3
            refine W_region ?_
            refine L_r (r_mi rfl) ?_
            refine L_r (r_add rfl rfl (by first | exact wr_i64 (by omega) | rfl)) ?_
            refine L_r (r_ai rfl) ?_
            refine L_nil ?_
            refine W_region ?_
            refine L_r (r_mi rfl) ?_
            refine L_r (r_sub rfl rfl (by first | exact wr_i64 (by omega) | rfl)) ?_
            refine L_r (r_ai rfl) ?_
            refine L_nil ?_
            refine ⟨⟨rfl, rfl, trivial⟩, _, ?_, i3 + 1, j3 - 1, Z1, rfl, (by exact congrArg (Value.int .i64) (by omega)), ?_, rfl⟩
            · omega
            exact ⟨by omega, by omega, by omega, hP3, Ow.au, hR3, Ch.au⟩
end Go.Proofs.Ytjjddbicggfgnaa

