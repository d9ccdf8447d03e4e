/- The library's sort of numbers, walked: the whole. -/
import Derived.Test.YtjjddbicggfgnaaSortQ
namespace Go.Proofs.Ytjjddbicggfgnaa
open Go Go.RowKit
set_option linter.unusedVariables false
set_option linter.unusedSimpArgs false
theorem heap_all (base : Nat) (v : Value) (X : List Nat) (a b : Nat) (w0 : World) (hv : Dt base w0 v X) (hab : a < b) (hb : b ≤ X.length) (hl : X.length ≤ 60000) :
    Does Try.prog 49 #[v, .int .i64 a, .int .i64 b] w0 fun r w' => r = .tuple #[] ∧ (∃ Y, Dt base w' v Y ∧ Rg a b X Y ∧ Srt a b Y) ∧ DtC v w0 w' := by
  obtain ⟨n, rfl⟩ : ∃ n, b = a + n := ⟨b - a, by omega⟩
  exact heap_walk base v X a n w0 hv (by omega) hb hl
abbrev PdqD (base : Nat) (v : Value) (X : List Nat) (a b lim : Nat) (w0 : World) : Prop :=
  Does Try.prog 41 #[v, .int .i64 a, .int .i64 b, .int .i64 lim] w0 fun r w' => r = .tuple #[] ∧ (∃ Y, Dt base w' v Y ∧ Rg a b X Y ∧ Srt a b Y) ∧ DtC v w0 w'
set_option maxHeartbeats 4000000 in
set_option maxRecDepth 100000 in
theorem pdq_walk (base : Nat) (v : Value) (X : List Nat) (a b lim : Nat) (w0 : World) (hv : Dt base w0 v X) (hab : a ≤ b) (hb : b ≤ X.length) (hl : X.length ≤ 60000) (hlim : lim ≤ 1000) (hA : Ahd a b X) (hI : ∀ (X' : List Nat) (a' b' lim' : Nat) (w' : World), b' - a' < b - a → Dt base w' v X' → a' ≤ b' → b' ≤ X'.length → X'.length ≤ 60000 → lim' ≤ 1000 → Ahd a' b' X' → PdqD base v X' a' b' lim' w') : Does Try.prog 41 #[v, .int .i64 a, .int .i64 b, .int .i64 lim] w0 (fun r w' => r = .tuple #[] ∧ (∃ Y, Dt base w' v Y ∧ Rg a b X Y ∧ Srt a b Y) ∧ DtC v w0 w') := by
  refine fn_of (n := 134) (args := [v, .int .i64 a, .int .i64 b, .int .i64 lim]) Try.func41 rfl rfl rfl ?_
  refine W_seq ?_
  refine W_region ?_
  refine L_r (r_ab rfl) ?_
  refine L_nil ?_
  refine W_seq ?_
  refine W_region ?_
  refine L_r (r_ab rfl) ?_
  refine L_nil ?_
  refine W_block ?_
  refine W_loopF [0] (fun mz_ f W => ∃ (a1 : Nat) (b1 : Nat) (l1 : Nat) (wb : Bool) (wp : Bool) (Z : List Nat), f 1 = .int .i64 a1 ∧ f 2 = .int .i64 b1 ∧ f 3 = .int .i64 l1 ∧ f 8 = .bool wb ∧ f 9 = .bool wp ∧ ((a ≤ a1 ∧ a1 ≤ b1 ∧ b1 ≤ b) ∧ l1 ≤ 1000 ∧ Mid a a1 b1 b Z ∧ Dt base W v Z ∧ Rg a b X Z ∧ DtC v w0 W) ∧ mz_ = b1 - a1) ?_ ?_
  · refine ⟨_, a, b, lim, true, true, X, rfl, rfl, rfl, rfl, rfl, ?_, rfl⟩
    exact ⟨by omega, hlim, Mid.start a b X, Ow.au, Rg.refl, Ch.au⟩
  rintro m0 g0 w1 ⟨a1, b1, l1, wb, wp, Z, hf1, hf2, hf3, hf8, hf9, hR0, rfl⟩
  refine W_as 1 hf1 rfl ?_
  refine W_as 2 hf2 rfl ?_
  refine W_as 3 hf3 rfl ?_
  refine W_as 8 hf8 rfl ?_
  refine W_as 9 hf9 rfl ?_
  clear hf1 hf2 hf3 hf8 hf9
  obtain ⟨hr, hl1, hM, hD, hR, hc⟩ := hR0
  have hz := hc.size
  have hlz := hR.length
  have hA1 := hM.ahd (hA.rg hR) hr.1 hr.2.1 hr.2.2
  refine W_block ?_
  refine W_seq ?_
  refine W_region ?_
  refine L_r (r_mi rfl) ?_
  refine L_r (r_mi rfl) ?_
  refine L_r (r_sub rfl rfl (by first | exact wr_i64 (by omega) | rfl)) ?_
  rw [show (b1 : Int) - (a1 : Int) = ((b1 - a1 : Nat) : Int) by omega]
  refine L_r (r_ai rfl) ?_
  refine L_nil ?_
  refine W_seq ?_
  refine W_seq ?_
  refine W_region ?_
  refine L_r (r_mi rfl) ?_
  refine L_r (r_leq rfl rfl) ?_
  refine L_nil ?_
  refine W_if rfl (fun h23 => ?_) (fun h23 => ?_)
  · refine W_seq ?_
    refine W_region ?_
    refine L_r (r_mv) ?_
    refine L_r (r_mi rfl) ?_
    refine L_r (r_mi rfl) ?_
    refine L_call (.plain rfl) rfl rfl (r_call Try.func48 rfl rfl rfl (by rfl)) (insert_walk base v Z a1 b1 _ Ow.au hr.2.1 (by omega) (by omega)) ?_
    rintro v27 w2 ⟨rfl, ⟨Y, hDy, hRy, hSy⟩, c2⟩
    have hz2 := c2.size
    refine L_nil ?_
    refine W_ret ?_
    refine ret0 rfl  ?_
    first
    | exact ⟨rfl, ⟨Y, Ow.au, hR.trans (hRy.mono hr.1 hr.2.2 (by omega)), (hM.rg hRy hr.1 hr.2.1 hr.2.2).fin hSy hr.1 hr.2.1 hr.2.2⟩, Ch.au⟩
    | exact ⟨rfl, ⟨Z5, Ow.au, hR.trans ((hR4.trans hR5).mono hr.1 hr.2.2 (by omega)), (hM.rg (hR4.trans hR5) hr.1 hr.2.1 hr.2.2).fin (hS5 h72) hr.1 hr.2.1 hr.2.2⟩, Ch.au⟩
  · refine W_skip ?_
    refine W_seq ?_
    refine W_seq ?_
    refine W_region ?_
    refine L_r (r_mi rfl) ?_
    refine L_r (r_eql rfl rfl) ?_
    refine L_nil ?_
    refine W_if rfl (fun h29 => ?_) (fun h29 => ?_)
    · refine W_seq ?_
      refine W_region ?_
      refine L_r (r_mv) ?_
      refine L_r (r_mi rfl) ?_
      refine L_r (r_mi rfl) ?_
      refine L_call (.plain rfl) rfl rfl (r_call Try.func49 rfl rfl rfl (by rfl)) (heap_all base v Z a1 b1 _ Ow.au (by omega) (by omega) (by omega)) ?_
      rintro v33 w3 ⟨rfl, ⟨Y, hDy, hRy, hSy⟩, c3⟩
      have hz3 := c3.size
      refine L_nil ?_
      refine W_ret ?_
      refine ret0 rfl  ?_
      first
      | exact ⟨rfl, ⟨Y, Ow.au, hR.trans (hRy.mono hr.1 hr.2.2 (by omega)), (hM.rg hRy hr.1 hr.2.1 hr.2.2).fin hSy hr.1 hr.2.1 hr.2.2⟩, Ch.au⟩
      | exact ⟨rfl, ⟨Z5, Ow.au, hR.trans ((hR4.trans hR5).mono hr.1 hr.2.2 (by omega)), (hM.rg (hR4.trans hR5) hr.1 hr.2.1 hr.2.2).fin (hS5 h72) hr.1 hr.2.1 hr.2.2⟩, Ch.au⟩
    · refine W_skip ?_
      refine W_seq ?_
      refine W_seq ?_
      refine W_region ?_
      refine L_r (r_mb rfl) ?_
      refine L_r (r_not rfl) ?_
      refine L_nil ?_
      refine W_endF [0, 1, 2, 8, 9, 10] (fun f W => ∃ (l2 : Nat) (Z2 : List Nat), f 3 = .int .i64 l2 ∧ (l2 ≤ 1000 ∧ Dt base W v Z2 ∧ Rg a1 b1 Z Z2 ∧ DtC v w0 W)) ?_ ?_
      · refine W_bool rfl (fun h35 => ?_) (fun h35 => ?_)
        · refine W_seq ?_
          refine W_region ?_
          refine L_r (r_mv) ?_
          refine L_r (r_mi rfl) ?_
          refine L_r (r_mi rfl) ?_
          refine L_call (.plain rfl) rfl rfl (r_call Try.func50 rfl rfl rfl (by rfl)) (break_walk base v Z a1 b1 _ Ow.au (by omega) (by omega) (by omega)) ?_
          rintro v39 w4 ⟨rfl, ⟨Z1, hD1, hR1⟩, c4⟩
          have hz4 := c4.size
          refine L_nil ?_
          obtain ⟨l0, hl0⟩ : ∃ x, x = l1 - 1 := ⟨_, rfl⟩
          obtain ⟨Z0, hZ0⟩ : ∃ x, x = Z1 := ⟨_, rfl⟩
          refine W_region ?_
          refine L_r (r_mi rfl) ?_
          refine L_r (r_sub rfl rfl (by first | exact wr_i64 (by omega) | rfl)) ?_
          refine L_r (r_ai rfl) ?_
          refine L_nil ?_
          refine ⟨⟨rfl, rfl, rfl, rfl, rfl, rfl, trivial⟩, l0, Z0, (by exact congrArg (Value.int .i64) (by omega)), ?_⟩
          first
          | (subst hZ0; exact ⟨by omega, Ow.au, hR1, Ch.au⟩)
          | (subst hZ0; exact ⟨by omega, Ow.au, Rg.refl, Ch.au⟩)
        · obtain ⟨l0, hl0⟩ : ∃ x, x = l1 := ⟨_, rfl⟩
          obtain ⟨Z0, hZ0⟩ : ∃ x, x = Z := ⟨_, rfl⟩
          refine W_skip ?_
          refine ⟨⟨rfl, rfl, rfl, rfl, rfl, rfl, trivial⟩, l0, Z0, (by exact congrArg (Value.int .i64) (by omega)), ?_⟩
          first
          | (subst hZ0; exact ⟨by omega, Ow.au, hR1, Ch.au⟩)
          | (subst hZ0; exact ⟨by omega, Ow.au, Rg.refl, Ch.au⟩)
      rintro gct35 w5 ⟨l2, Z2, hf3, hCt35⟩
      refine W_as 3 hf3 rfl ?_
      clear hf3
      obtain ⟨hl2, hD2, hR2, hc⟩ := hCt35
      have hz := hc.size
      have hlz2 := hR2.length
      refine W_seq ?_
      refine W_region ?_
      refine L_r (r_mv) ?_
      refine L_r (r_mi rfl) ?_
      refine L_r (r_mi rfl) ?_
      refine L_call (.plain rfl) rfl rfl (r_call Try.func51 rfl rfl rfl (by rfl)) (pivot_walk base v Z2 a1 b1 _ Ow.au (by omega) (by omega) (by omega)) ?_
      rintro v46 w6 ⟨p0, h0, rfl, hp1, hp2, c6⟩
      have hz6 := c6.size
      refine L_r (r_mv) ?_
      refine L_r (r_ext2_0 rfl) ?_
      refine L_r (r_ext2_1 rfl) ?_
      refine L_r (r_ai rfl) ?_
      refine L_r (r_ai rfl) ?_
      refine L_nil ?_
      refine W_seq ?_
      refine W_seq ?_
      refine W_region ?_
      refine L_r (r_mi rfl) ?_
      refine L_r (r_eql rfl rfl) ?_
      refine L_nil ?_
      refine W_endF [0, 1, 2, 3, 8, 9, 10] (fun f W => ∃ (p : Nat) (hh : Int) (Z4 : List Nat), f 11 = .int .i64 p ∧ f 12 = .int .i64 hh ∧ (a1 ≤ p ∧ p < b1 ∧ Dt base W v Z4 ∧ Rg a1 b1 Z Z4 ∧ DtC v w0 W)) ?_ ?_
      · refine W_if rfl (fun h50 => ?_) (fun h50 => ?_)
        · refine W_seq ?_
          refine W_region ?_
          refine L_r (r_mv) ?_
          refine L_r (r_mi rfl) ?_
          refine L_r (r_mi rfl) ?_
          refine L_call (.plain rfl) rfl rfl (r_call Try.func52 rfl rfl rfl (by rfl)) (reverse_walk base v Z2 a1 b1 _ Ow.au (by omega) (by omega) (by omega)) ?_
          rintro v54 w7 ⟨rfl, ⟨Z3, hD3, hR3⟩, c7⟩
          have hz7 := c7.size
          refine L_nil ?_
          refine W_seq ?_
          refine W_region ?_
          refine L_r (r_mi rfl) ?_
          refine L_r (r_sub rfl rfl (by first | exact wr_i64 (by omega) | rfl)) ?_
          refine L_r (r_mi rfl) ?_
          refine L_r (r_mi rfl) ?_
          refine L_r (r_sub rfl rfl (by first | exact wr_i64 (by omega) | rfl)) ?_
          refine L_r (r_sub rfl rfl (by first | exact wr_i64 (by omega) | rfl)) ?_
          refine L_r (r_ai rfl) ?_
          refine L_nil ?_
          obtain ⟨p9, hp9⟩ : ∃ x, x = b1 - 1 - (p0 - a1) := ⟨_, rfl⟩
          obtain ⟨Z9, hZ9⟩ : ∃ x, x = Z3 := ⟨_, rfl⟩
          refine W_region ?_
          refine L_r (r_ai rfl) ?_
          refine L_nil ?_
          refine ⟨⟨rfl, rfl, rfl, rfl, rfl, rfl, rfl, trivial⟩, p9, _, Z9, (by exact congrArg (Value.int .i64) (by omega)), rfl, ?_⟩
          first
          | (subst hZ9; exact ⟨by omega, by omega, Ow.au, hR2.trans hR3, Ch.au⟩)
          | (subst hZ9; exact ⟨by omega, by omega, Ow.au, hR2, Ch.au⟩)
        · obtain ⟨p9, hp9⟩ : ∃ x, x = p0 := ⟨_, rfl⟩
          obtain ⟨Z9, hZ9⟩ : ∃ x, x = Z2 := ⟨_, rfl⟩
          refine W_skip ?_
          refine ⟨⟨rfl, rfl, rfl, rfl, rfl, rfl, rfl, trivial⟩, p9, _, Z9, (by exact congrArg (Value.int .i64) (by omega)), rfl, ?_⟩
          first
          | (subst hZ9; exact ⟨by omega, by omega, Ow.au, hR2.trans hR3, Ch.au⟩)
          | (subst hZ9; exact ⟨by omega, by omega, Ow.au, hR2, Ch.au⟩)
      rintro gct50 w8 ⟨p, hh, Z4, hf11, hf12, hCt50⟩
      refine W_as 11 hf11 rfl ?_
      refine W_as 12 hf12 rfl ?_
      clear hf11 hf12
      obtain ⟨hp1, hp2, hD4, hR4, hc⟩ := hCt50
      have hz := hc.size
      have hlz4 := hR4.length
      have hA4 := hA1.rg hR4
      refine W_seq ?_
      refine W_seq ?_
      refine W_region ?_
      refine L_r (r_mb rfl) ?_
      refine L_r (r_mb rfl) ?_
      refine L_caseb (d := 62) rfl (fun h62 => ?_) (fun h62 => ?_)
      · refine L_g (r_mb rfl) ?_
        refine L_r (r_pt rfl rfl) ?_
        refine L_r (r_mb rfl) ?_
        refine L_caseb (d := 65) rfl (fun h65 => ?_) (fun h65 => ?_)
        · refine L_g (r_mi rfl) ?_
          refine L_g (r_eql rfl rfl) ?_
          refine L_r (r_pt rfl rfl) ?_
          refine L_nil ?_
          refine W_endF [0, 1, 2, 3, 8, 9, 10, 11] (fun f W => ∃ (Z6 : List Nat), True ∧ (Dt base W v Z6 ∧ Rg a1 b1 Z Z6 ∧ DtC v w0 W)) ?_ ?_
          · refine W_if rfl (fun h68 => ?_) (fun h68 => ?_)
            · refine W_seq ?_
              refine W_region ?_
              refine L_r (r_mv) ?_
              refine L_r (r_mi rfl) ?_
              refine L_r (r_mi rfl) ?_
              refine L_call (.plain rfl) rfl rfl (r_call Try.func53 rfl rfl rfl (by rfl)) (partial_walk base v Z4 a1 b1 _ Ow.au (by omega) (by omega) (by omega) hA4) ?_
              rintro v72 w9 ⟨fl, rfl, ⟨Z5, hD5, hR5, hS5⟩, c9⟩
              have hz9 := c9.size
              refine L_nil ?_
              refine W_bool rfl (fun h72 => ?_) (fun h72 => ?_)
              · refine W_ret ?_
                refine ret0 rfl  ?_
                first
                | exact ⟨rfl, ⟨Y, Ow.au, hR.trans (hRy.mono hr.1 hr.2.2 (by omega)), (hM.rg hRy hr.1 hr.2.1 hr.2.2).fin hSy hr.1 hr.2.1 hr.2.2⟩, Ch.au⟩
                | exact ⟨rfl, ⟨Z5, Ow.au, hR.trans ((hR4.trans hR5).mono hr.1 hr.2.2 (by omega)), (hM.rg (hR4.trans hR5) hr.1 hr.2.1 hr.2.2).fin (hS5 h72) hr.1 hr.2.1 hr.2.2⟩, Ch.au⟩
              · obtain ⟨Z8, hZ8⟩ : ∃ x, x = Z5 := ⟨_, rfl⟩
                refine W_skip ?_
                refine ⟨⟨rfl, rfl, rfl, rfl, rfl, rfl, rfl, rfl, trivial⟩, Z8, trivial, ?_⟩
                first
                | (subst hZ8; exact ⟨Ow.au, hR4.trans hR5, Ch.au⟩)
                | (subst hZ8; exact ⟨Ow.au, hR4, Ch.au⟩)
            · obtain ⟨Z8, hZ8⟩ : ∃ x, x = Z4 := ⟨_, rfl⟩
              refine W_skip ?_
              refine ⟨⟨rfl, rfl, rfl, rfl, rfl, rfl, rfl, rfl, trivial⟩, Z8, trivial, ?_⟩
              first
              | (subst hZ8; exact ⟨Ow.au, hR4.trans hR5, Ch.au⟩)
              | (subst hZ8; exact ⟨Ow.au, hR4, Ch.au⟩)
          rintro gct68 w10 ⟨Z6, -, hCt68⟩
          obtain ⟨hD6, hR6, hc⟩ := hCt68
          have hz := hc.size
          have hlz6 := hR6.length
          have hA6 := hA1.rg hR6
          have hM6 := hM.rg hR6 hr.1 hr.2.1 hr.2.2
          have hRX : Rg a b X Z6 := hR.trans (hR6.mono hr.1 hr.2.2 (by omega))
          refine W_seq ?_
          refine W_seq ?_
          refine W_draw (fun W => Dt base W v Z6) 15 (m := 15) (by kernel_rfl) rfl (fun w11 c11 hs11 => ?_)
          refine held Ow.au (fun hS => ?_)
          refine D_t 0 rfl (fun W hW => r_mi rfl) ?_
          refine D_t 1 rfl (fun W hW => r_gtr rfl rfl) ?_
          refine D_t 2 rfl (fun W hW => r_mb rfl) ?_
          refine D_case (d := 75) rfl (fun h75 => ?_) (fun h75 => ?_)
          · have e1 : ((a1 : Int) - 1).toNat = a1 - 1 := by omega
            refine D_g 3 rfl (fun W hW => r_mv) ?_
            refine D_g 4 rfl (fun W hW => r_mi rfl) ?_
            refine D_g 5 rfl (fun W hW => r_sub rfl rfl (by first | exact wr_i64 (by omega) | rfl)) ?_
            refine D_g 6 rfl (fun W hW => r_ix Try.underlying80 (show _ = some 1 from rfl) (by conv => lhs; whnf) rfl (by (first | exact hW.sl | exact hW))) ?_
            refine D_g 7 rfl (fun W hW => r_loadSl rfl rfl (by (first | exact hW.sl | exact hW)) (by first | assumption | exact ucells_gt _ _ (by omega) | (conv => lhs; simp only [List.getElem?_toArray, List.getElem?_cons_succ, List.getElem?_cons_zero]))) ?_
            refine D_g 8 rfl (fun W hW => r_mv) ?_
            refine D_g 9 rfl (fun W hW => r_mi rfl) ?_
            refine D_g 10 rfl (fun W hW => r_ix Try.underlying80 (show _ = some 1 from rfl) (by conv => lhs; whnf) rfl (by (first | exact hW.sl | exact hW))) ?_
            refine D_g 11 rfl (fun W hW => r_loadSl rfl rfl (by (first | exact hW.sl | exact hW)) (by first | assumption | exact ucells_gt _ _ (by omega) | (conv => lhs; simp only [List.getElem?_toArray, List.getElem?_cons_succ, List.getElem?_cons_zero]))) ?_
            refine D_ev 12 (by kernel_rfl) rfl ?_
            refine L_call (.yes 2 true rfl rfl) rfl rfl (r_call Try.func54 rfl rfl rfl (by rfl)) (less_walk (gt Z6 ((a1 : Int) - 1).toNat) (gt Z6 p) _) ?_
            rintro v85 w12 ⟨rfl, c12⟩
            have hz12 := c12.size
            rw [e1]
            refine L_nil ?_
            refine heldK Ow.au (fun hS => ?_)
            refine D_g 13 rfl (fun W hW => r_not rfl) ?_
            refine D_t 14 rfl (fun W hW => r_pt rfl rfl) ?_
            refine D_done (by kernel_rfl) ?_
            refine W_bool rfl (fun h87 => ?_) (fun h87 => ?_)
            · replace h87 : ¬ gt Z6 (a1 - 1) < gt Z6 p := by simpa using h87
              refine W_seq ?_
              refine W_region ?_
              refine L_r (r_mv) ?_
              refine L_r (r_mi rfl) ?_
              refine L_r (r_mi rfl) ?_
              refine L_r (r_mi rfl) ?_
              refine L_call (.plain rfl) rfl rfl (r_call Try.func55 rfl rfl rfl (by rfl)) (parteq_walk base v Z6 a1 b1 p _ Ow.au hp1 hp2 (by omega) (by omega)) ?_
              rintro v92 w13 ⟨m, rfl, hm1, hm2, ⟨Z7, hD7, hR7, hlo, hhi⟩, c13⟩
              have hz13 := c13.size
              refine L_r (r_ai rfl) ?_
              refine L_nil ?_
              refine W_seq ?_
              have hA7 := hA6.rg hR7
              have hMn := (hM6.rg hR7 hr.1 hr.2.1 hr.2.2).eq hr.1 hm1 hm2 hr.2.2 hlo hhi (fun k k1 k2 => by have h := hA7 (by omega) k k1 k2; rw [hR7.out (a1 - 1) (by omega)] at h; omega)
              have hRn : Rg a b X Z7 := hRX.trans (hR7.mono hr.1 hr.2.2 (by omega))
              obtain ⟨na, hna⟩ : ∃ x, x = m := ⟨_, rfl⟩
              obtain ⟨nb, hnb⟩ : ∃ x, x = b1 := ⟨_, rfl⟩
              obtain ⟨nZ, hnZ⟩ : ∃ x, x = Z7 := ⟨_, rfl⟩
              rw [← hna, ← hnb, ← hnZ] at hMn
              rw [← hnZ] at hRn hD7
              refine W_region ?_
              refine L_r (r_mi rfl) ?_
              refine L_r (r_ai rfl) ?_
              refine L_nil ?_
              refine W_exit ?_
              repeat (first | refine blk_hit ?_ | refine blk_miss rfl ?_)
              refine ⟨⟨rfl, trivial⟩, _, ?_, na, nb, _, _, _, nZ, (by exact congrArg (Value.int .i64) (by omega)), (by exact congrArg (Value.int .i64) (by omega)), rfl, rfl, rfl, ?_, rfl⟩
              · omega
              exact ⟨by omega, by omega, hMn, Ow.au, hRn, Ch.au⟩
            · refine W_skip ?_
              refine W_seq ?_
              refine W_region ?_
              refine L_r (r_mv) ?_
              refine L_r (r_mi rfl) ?_
              refine L_r (r_mi rfl) ?_
              refine L_r (r_mi rfl) ?_
              refine L_call (.plain rfl) rfl rfl (r_call Try.func56 rfl rfl rfl (by rfl)) (partition_walk base v Z6 a1 b1 p _ Ow.au hp1 hp2 (by omega) (by omega)) ?_
              rintro v99 w14 ⟨m, fm, rfl, hm1, hm2, ⟨Z7, hD7, hR7, hC7⟩, c14⟩
              have hz14 := c14.size
              have hlz7 := hR7.length
              have hM7 := hM6.rg hR7 hr.1 hr.2.1 hr.2.2
              have hA7 := hA6.rg hR7
              have hRX7 : Rg a b X Z7 := hRX.trans (hR7.mono hr.1 hr.2.2 (by omega))
              refine L_r (r_mv) ?_
              refine L_r (r_ext2_0 rfl) ?_
              refine L_r (r_ext2_1 rfl) ?_
              refine L_r (r_ai rfl) ?_
              refine L_r (r_ab rfl) ?_
              refine L_nil ?_
              refine W_seq ?_
              refine W_region ?_
              refine L_r (r_mb rfl) ?_
              refine L_r (r_ab rfl) ?_
              refine L_nil ?_
              refine W_seq ?_
              refine W_region ?_
              refine L_r (r_mi rfl) ?_
              refine L_r (r_mi rfl) ?_
              refine L_r (r_sub rfl rfl (by first | exact wr_i64 (by omega) | rfl)) ?_
              refine L_r (r_mi rfl) ?_
              refine L_r (r_mi rfl) ?_
              refine L_r (r_sub rfl rfl (by first | exact wr_i64 (by omega) | rfl)) ?_
              refine L_r (r_ai rfl) ?_
              refine L_r (r_ai rfl) ?_
              refine L_nil ?_
              refine W_seq ?_
              refine W_region ?_
              refine L_r (r_mi rfl) ?_
              refine L_r (r_quon rfl rfl (by omega) (by omega) (by first | exact wr_i64 (by omega) | rfl)) ?_
              refine L_r (r_ai rfl) ?_
              refine L_nil ?_
              refine W_seq ?_
              refine W_region ?_
              refine L_r (r_mi rfl) ?_
              refine L_r (r_mi rfl) ?_
              refine L_r (r_lss rfl rfl) ?_
              refine L_nil ?_
              refine W_if rfl (fun h113 => ?_) (fun h113 => ?_)
              · refine W_seq ?_
                refine W_region ?_
                refine L_r (r_mi rfl) ?_
                refine L_r (r_mi rfl) ?_
                refine L_r (r_geq rfl rfl) ?_
                refine L_r (r_ab rfl) ?_
                refine L_nil ?_
                refine W_seq ?_
                refine W_region ?_
                refine L_r (r_mv) ?_
                refine L_r (r_mi rfl) ?_
                refine L_r (r_mi rfl) ?_
                refine L_r (r_mi rfl) ?_
                refine L_call (.plain rfl) rfl rfl (r_call Try.func41 rfl rfl rfl (by rfl)) (hI Z7 a1 m l2 _ (by omega) Ow.au (by omega) (by omega) (by omega) (by omega) (hA7.less (by omega))) ?_
                rintro v121 w15 ⟨rfl, ⟨Z10, hD10, hR10, hS10⟩, c15⟩
                have hz15 := c15.size
                refine L_nil ?_
                have hMn := hM7.left hC7 hm1 hm2 hR10 hS10 hr.1 hr.2.2 (by omega)
                have hRn : Rg a b X Z10 := hRX7.trans (hR10.mono hr.1 (by omega) (by omega))
                obtain ⟨na, hna⟩ : ∃ x, x = m + 1 := ⟨_, rfl⟩
                obtain ⟨nb, hnb⟩ : ∃ x, x = b1 := ⟨_, rfl⟩
                obtain ⟨nZ, hnZ⟩ : ∃ x, x = Z10 := ⟨_, rfl⟩
                rw [← hna, ← hnb, ← hnZ] at hMn
                rw [← hnZ] at hRn hD10
                refine W_region ?_
                refine L_r (r_mi rfl) ?_
                refine L_r (r_add rfl rfl (by first | exact wr_i64 (by omega) | rfl)) ?_
                refine L_r (r_ai rfl) ?_
                refine L_nil ?_
                refine ⟨⟨rfl, trivial⟩, _, ?_, na, nb, _, _, _, nZ, (by exact congrArg (Value.int .i64) (by omega)), (by exact congrArg (Value.int .i64) (by omega)), rfl, rfl, rfl, ?_, rfl⟩
                · omega
                exact ⟨by omega, by omega, hMn, Ow.au, hRn, Ch.au⟩
              · refine W_seq ?_
                refine W_region ?_
                refine L_r (r_mi rfl) ?_
                refine L_r (r_mi rfl) ?_
                refine L_r (r_geq rfl rfl) ?_
                refine L_r (r_ab rfl) ?_
                refine L_nil ?_
                refine W_seq ?_
                refine W_region ?_
                refine L_r (r_mv) ?_
                refine L_r (r_mi rfl) ?_
                refine L_r (r_add rfl rfl (by first | exact wr_i64 (by omega) | rfl)) ?_
                refine L_r (r_mi rfl) ?_
                refine L_r (r_mi rfl) ?_
                refine L_call (.plain rfl) rfl rfl (r_call Try.func41 rfl rfl rfl (by rfl)) (hI Z7 (m + 1) b1 l2 _ (by omega) Ow.au (by omega) (by omega) (by omega) (by omega) hC7.ahd) ?_
                rintro v132 w16 ⟨rfl, ⟨Z10, hD10, hR10, hS10⟩, c16⟩
                have hz16 := c16.size
                refine L_nil ?_
                have hMn := hM7.right hC7 hm1 hm2 hR10 hS10 hr.1 hr.2.2 (by omega)
                have hRn : Rg a b X Z10 := hRX7.trans (hR10.mono (by omega) hr.2.2 (by omega))
                obtain ⟨na, hna⟩ : ∃ x, x = a1 := ⟨_, rfl⟩
                obtain ⟨nb, hnb⟩ : ∃ x, x = m := ⟨_, rfl⟩
                obtain ⟨nZ, hnZ⟩ : ∃ x, x = Z10 := ⟨_, rfl⟩
                rw [← hna, ← hnb, ← hnZ] at hMn
                rw [← hnZ] at hRn hD10
                refine W_region ?_
                refine L_r (r_mi rfl) ?_
                refine L_r (r_ai rfl) ?_
                refine L_nil ?_
                refine ⟨⟨rfl, trivial⟩, _, ?_, na, nb, _, _, _, nZ, (by exact congrArg (Value.int .i64) (by omega)), (by exact congrArg (Value.int .i64) (by omega)), rfl, rfl, rfl, ?_, rfl⟩
                · omega
                exact ⟨by omega, by omega, hMn, Ow.au, hRn, Ch.au⟩
          · refine D_ps 3 rfl ?_
            refine D_ps 4 rfl ?_
            refine D_ps 5 rfl ?_
            refine D_ps 6 rfl ?_
            refine D_ps 7 rfl ?_
            refine D_ps 8 rfl ?_
            refine D_ps 9 rfl ?_
            refine D_ps 10 rfl ?_
            refine D_ps 11 rfl ?_
            refine D_ps 12 rfl ?_
            refine D_ps 13 rfl ?_
            refine D_t 14 rfl (fun W hW => r_pf rfl rfl) ?_
            refine D_done (by kernel_rfl) ?_
            refine W_false rfl ?_
            refine W_skip ?_
            refine W_seq ?_
            refine W_region ?_
            refine L_r (r_mv) ?_
            refine L_r (r_mi rfl) ?_
            refine L_r (r_mi rfl) ?_
            refine L_r (r_mi rfl) ?_
            refine L_call (.plain rfl) rfl rfl (r_call Try.func56 rfl rfl rfl (by rfl)) (partition_walk base v Z6 a1 b1 p _ Ow.au hp1 hp2 (by omega) (by omega)) ?_
            rintro v99 w17 ⟨m, fm, rfl, hm1, hm2, ⟨Z7, hD7, hR7, hC7⟩, c17⟩
            have hz17 := c17.size
            have hlz7 := hR7.length
            have hM7 := hM6.rg hR7 hr.1 hr.2.1 hr.2.2
            have hA7 := hA6.rg hR7
            have hRX7 : Rg a b X Z7 := hRX.trans (hR7.mono hr.1 hr.2.2 (by omega))
            refine L_r (r_mv) ?_
            refine L_r (r_ext2_0 rfl) ?_
            refine L_r (r_ext2_1 rfl) ?_
            refine L_r (r_ai rfl) ?_
            refine L_r (r_ab rfl) ?_
            refine L_nil ?_
            refine W_seq ?_
            refine W_region ?_
            refine L_r (r_mb rfl) ?_
            refine L_r (r_ab rfl) ?_
            refine L_nil ?_
            refine W_seq ?_
            refine W_region ?_
            refine L_r (r_mi rfl) ?_
            refine L_r (r_mi rfl) ?_
            refine L_r (r_sub rfl rfl (by first | exact wr_i64 (by omega) | rfl)) ?_
            refine L_r (r_mi rfl) ?_
            refine L_r (r_mi rfl) ?_
            refine L_r (r_sub rfl rfl (by first | exact wr_i64 (by omega) | rfl)) ?_
            refine L_r (r_ai rfl) ?_
            refine L_r (r_ai rfl) ?_
            refine L_nil ?_
            refine W_seq ?_
            refine W_region ?_
            refine L_r (r_mi rfl) ?_
            refine L_r (r_quon rfl rfl (by omega) (by omega) (by first | exact wr_i64 (by omega) | rfl)) ?_
            refine L_r (r_ai rfl) ?_
            refine L_nil ?_
            refine W_seq ?_
            refine W_region ?_
            refine L_r (r_mi rfl) ?_
            refine L_r (r_mi rfl) ?_
            refine L_r (r_lss rfl rfl) ?_
            refine L_nil ?_
            refine W_if rfl (fun h113 => ?_) (fun h113 => ?_)
            · refine W_seq ?_
              refine W_region ?_
              refine L_r (r_mi rfl) ?_
              refine L_r (r_mi rfl) ?_
              refine L_r (r_geq rfl rfl) ?_
              refine L_r (r_ab rfl) ?_
              refine L_nil ?_
              refine W_seq ?_
              refine W_region ?_
              refine L_r (r_mv) ?_
              refine L_r (r_mi rfl) ?_
              refine L_r (r_mi rfl) ?_
              refine L_r (r_mi rfl) ?_
              refine L_call (.plain rfl) rfl rfl (r_call Try.func41 rfl rfl rfl (by rfl)) (hI Z7 a1 m l2 _ (by omega) Ow.au (by omega) (by omega) (by omega) (by omega) (hA7.less (by omega))) ?_
              rintro v121 w18 ⟨rfl, ⟨Z10, hD10, hR10, hS10⟩, c18⟩
              have hz18 := c18.size
              refine L_nil ?_
              have hMn := hM7.left hC7 hm1 hm2 hR10 hS10 hr.1 hr.2.2 (by omega)
              have hRn : Rg a b X Z10 := hRX7.trans (hR10.mono hr.1 (by omega) (by omega))
              obtain ⟨na, hna⟩ : ∃ x, x = m + 1 := ⟨_, rfl⟩
              obtain ⟨nb, hnb⟩ : ∃ x, x = b1 := ⟨_, rfl⟩
              obtain ⟨nZ, hnZ⟩ : ∃ x, x = Z10 := ⟨_, rfl⟩
              rw [← hna, ← hnb, ← hnZ] at hMn
              rw [← hnZ] at hRn hD10
              refine W_region ?_
              refine L_r (r_mi rfl) ?_
              refine L_r (r_add rfl rfl (by first | exact wr_i64 (by omega) | rfl)) ?_
              refine L_r (r_ai rfl) ?_
              refine L_nil ?_
              refine ⟨⟨rfl, trivial⟩, _, ?_, na, nb, _, _, _, nZ, (by exact congrArg (Value.int .i64) (by omega)), (by exact congrArg (Value.int .i64) (by omega)), rfl, rfl, rfl, ?_, rfl⟩
              · omega
              exact ⟨by omega, by omega, hMn, Ow.au, hRn, Ch.au⟩
            · refine W_seq ?_
              refine W_region ?_
              refine L_r (r_mi rfl) ?_
              refine L_r (r_mi rfl) ?_
              refine L_r (r_geq rfl rfl) ?_
              refine L_r (r_ab rfl) ?_
              refine L_nil ?_
              refine W_seq ?_
              refine W_region ?_
              refine L_r (r_mv) ?_
              refine L_r (r_mi rfl) ?_
              refine L_r (r_add rfl rfl (by first | exact wr_i64 (by omega) | rfl)) ?_
              refine L_r (r_mi rfl) ?_
              refine L_r (r_mi rfl) ?_
              refine L_call (.plain rfl) rfl rfl (r_call Try.func41 rfl rfl rfl (by rfl)) (hI Z7 (m + 1) b1 l2 _ (by omega) Ow.au (by omega) (by omega) (by omega) (by omega) hC7.ahd) ?_
              rintro v132 w19 ⟨rfl, ⟨Z10, hD10, hR10, hS10⟩, c19⟩
              have hz19 := c19.size
              refine L_nil ?_
              have hMn := hM7.right hC7 hm1 hm2 hR10 hS10 hr.1 hr.2.2 (by omega)
              have hRn : Rg a b X Z10 := hRX7.trans (hR10.mono (by omega) hr.2.2 (by omega))
              obtain ⟨na, hna⟩ : ∃ x, x = a1 := ⟨_, rfl⟩
              obtain ⟨nb, hnb⟩ : ∃ x, x = m := ⟨_, rfl⟩
              obtain ⟨nZ, hnZ⟩ : ∃ x, x = Z10 := ⟨_, rfl⟩
              rw [← hna, ← hnb, ← hnZ] at hMn
              rw [← hnZ] at hRn hD10
              refine W_region ?_
              refine L_r (r_mi rfl) ?_
              refine L_r (r_ai rfl) ?_
              refine L_nil ?_
              refine ⟨⟨rfl, trivial⟩, _, ?_, na, nb, _, _, _, nZ, (by exact congrArg (Value.int .i64) (by omega)), (by exact congrArg (Value.int .i64) (by omega)), rfl, rfl, rfl, ?_, rfl⟩
              · omega
              exact ⟨by omega, by omega, hMn, Ow.au, hRn, Ch.au⟩
        · obtain ⟨Z8, hZ8⟩ : ∃ x, x = Z4 := ⟨_, rfl⟩
          refine L_ps ?_
          refine L_ps ?_
          refine L_r (r_pf rfl rfl) ?_
          refine L_nil ?_
          refine W_endF [0, 1, 2, 3, 8, 9, 10, 11] (fun f W => ∃ (Z6 : List Nat), True ∧ (Dt base W v Z6 ∧ Rg a1 b1 Z Z6 ∧ DtC v w0 W)) ?_ ?_
          · refine W_false rfl ?_
            refine W_skip ?_
            refine ⟨⟨rfl, rfl, rfl, rfl, rfl, rfl, rfl, rfl, trivial⟩, Z8, trivial, ?_⟩
            first
            | (subst hZ8; exact ⟨Ow.au, hR4.trans hR5, Ch.au⟩)
            | (subst hZ8; exact ⟨Ow.au, hR4, Ch.au⟩)
          rintro gct68 w20 ⟨Z6, -, hCt68⟩
          obtain ⟨hD6, hR6, hc⟩ := hCt68
          have hz := hc.size
          have hlz6 := hR6.length
          have hA6 := hA1.rg hR6
          have hM6 := hM.rg hR6 hr.1 hr.2.1 hr.2.2
          have hRX : Rg a b X Z6 := hR.trans (hR6.mono hr.1 hr.2.2 (by omega))
          refine W_seq ?_
          refine W_seq ?_
          refine W_draw (fun W => Dt base W v Z6) 15 (m := 15) (by kernel_rfl) rfl (fun w21 c21 hs21 => ?_)
          refine held Ow.au (fun hS => ?_)
          refine D_t 0 rfl (fun W hW => r_mi rfl) ?_
          refine D_t 1 rfl (fun W hW => r_gtr rfl rfl) ?_
          refine D_t 2 rfl (fun W hW => r_mb rfl) ?_
          refine D_case (d := 75) rfl (fun h75 => ?_) (fun h75 => ?_)
          · have e1 : ((a1 : Int) - 1).toNat = a1 - 1 := by omega
            refine D_g 3 rfl (fun W hW => r_mv) ?_
            refine D_g 4 rfl (fun W hW => r_mi rfl) ?_
            refine D_g 5 rfl (fun W hW => r_sub rfl rfl (by first | exact wr_i64 (by omega) | rfl)) ?_
            refine D_g 6 rfl (fun W hW => r_ix Try.underlying80 (show _ = some 1 from rfl) (by conv => lhs; whnf) rfl (by (first | exact hW.sl | exact hW))) ?_
            refine D_g 7 rfl (fun W hW => r_loadSl rfl rfl (by (first | exact hW.sl | exact hW)) (by first | assumption | exact ucells_gt _ _ (by omega) | (conv => lhs; simp only [List.getElem?_toArray, List.getElem?_cons_succ, List.getElem?_cons_zero]))) ?_
            refine D_g 8 rfl (fun W hW => r_mv) ?_
            refine D_g 9 rfl (fun W hW => r_mi rfl) ?_
            refine D_g 10 rfl (fun W hW => r_ix Try.underlying80 (show _ = some 1 from rfl) (by conv => lhs; whnf) rfl (by (first | exact hW.sl | exact hW))) ?_
            refine D_g 11 rfl (fun W hW => r_loadSl rfl rfl (by (first | exact hW.sl | exact hW)) (by first | assumption | exact ucells_gt _ _ (by omega) | (conv => lhs; simp only [List.getElem?_toArray, List.getElem?_cons_succ, List.getElem?_cons_zero]))) ?_
            refine D_ev 12 (by kernel_rfl) rfl ?_
            refine L_call (.yes 2 true rfl rfl) rfl rfl (r_call Try.func54 rfl rfl rfl (by rfl)) (less_walk (gt Z6 ((a1 : Int) - 1).toNat) (gt Z6 p) _) ?_
            rintro v85 w22 ⟨rfl, c22⟩
            have hz22 := c22.size
            rw [e1]
            refine L_nil ?_
            refine heldK Ow.au (fun hS => ?_)
            refine D_g 13 rfl (fun W hW => r_not rfl) ?_
            refine D_t 14 rfl (fun W hW => r_pt rfl rfl) ?_
            refine D_done (by kernel_rfl) ?_
            refine W_bool rfl (fun h87 => ?_) (fun h87 => ?_)
            · replace h87 : ¬ gt Z6 (a1 - 1) < gt Z6 p := by simpa using h87
              refine W_seq ?_
              refine W_region ?_
              refine L_r (r_mv) ?_
              refine L_r (r_mi rfl) ?_
              refine L_r (r_mi rfl) ?_
              refine L_r (r_mi rfl) ?_
              refine L_call (.plain rfl) rfl rfl (r_call Try.func55 rfl rfl rfl (by rfl)) (parteq_walk base v Z6 a1 b1 p _ Ow.au hp1 hp2 (by omega) (by omega)) ?_
              rintro v92 w23 ⟨m, rfl, hm1, hm2, ⟨Z7, hD7, hR7, hlo, hhi⟩, c23⟩
              have hz23 := c23.size
              refine L_r (r_ai rfl) ?_
              refine L_nil ?_
              refine W_seq ?_
              have hA7 := hA6.rg hR7
              have hMn := (hM6.rg hR7 hr.1 hr.2.1 hr.2.2).eq hr.1 hm1 hm2 hr.2.2 hlo hhi (fun k k1 k2 => by have h := hA7 (by omega) k k1 k2; rw [hR7.out (a1 - 1) (by omega)] at h; omega)
              have hRn : Rg a b X Z7 := hRX.trans (hR7.mono hr.1 hr.2.2 (by omega))
              obtain ⟨na, hna⟩ : ∃ x, x = m := ⟨_, rfl⟩
              obtain ⟨nb, hnb⟩ : ∃ x, x = b1 := ⟨_, rfl⟩
              obtain ⟨nZ, hnZ⟩ : ∃ x, x = Z7 := ⟨_, rfl⟩
              rw [← hna, ← hnb, ← hnZ] at hMn
              rw [← hnZ] at hRn hD7
              refine W_region ?_
              refine L_r (r_mi rfl) ?_
              refine L_r (r_ai rfl) ?_
              refine L_nil ?_
              refine W_exit ?_
              repeat (first | refine blk_hit ?_ | refine blk_miss rfl ?_)
              refine ⟨⟨rfl, trivial⟩, _, ?_, na, nb, _, _, _, nZ, (by exact congrArg (Value.int .i64) (by omega)), (by exact congrArg (Value.int .i64) (by omega)), rfl, rfl, rfl, ?_, rfl⟩
              · omega
              exact ⟨by omega, by omega, hMn, Ow.au, hRn, Ch.au⟩
            · refine W_skip ?_
              refine W_seq ?_
              refine W_region ?_
              refine L_r (r_mv) ?_
              refine L_r (r_mi rfl) ?_
              refine L_r (r_mi rfl) ?_
              refine L_r (r_mi rfl) ?_
              refine L_call (.plain rfl) rfl rfl (r_call Try.func56 rfl rfl rfl (by rfl)) (partition_walk base v Z6 a1 b1 p _ Ow.au hp1 hp2 (by omega) (by omega)) ?_
              rintro v99 w24 ⟨m, fm, rfl, hm1, hm2, ⟨Z7, hD7, hR7, hC7⟩, c24⟩
              have hz24 := c24.size
              have hlz7 := hR7.length
              have hM7 := hM6.rg hR7 hr.1 hr.2.1 hr.2.2
              have hA7 := hA6.rg hR7
              have hRX7 : Rg a b X Z7 := hRX.trans (hR7.mono hr.1 hr.2.2 (by omega))
              refine L_r (r_mv) ?_
              refine L_r (r_ext2_0 rfl) ?_
              refine L_r (r_ext2_1 rfl) ?_
              refine L_r (r_ai rfl) ?_
              refine L_r (r_ab rfl) ?_
              refine L_nil ?_
              refine W_seq ?_
              refine W_region ?_
              refine L_r (r_mb rfl) ?_
              refine L_r (r_ab rfl) ?_
              refine L_nil ?_
              refine W_seq ?_
              refine W_region ?_
              refine L_r (r_mi rfl) ?_
              refine L_r (r_mi rfl) ?_
              refine L_r (r_sub rfl rfl (by first | exact wr_i64 (by omega) | rfl)) ?_
              refine L_r (r_mi rfl) ?_
              refine L_r (r_mi rfl) ?_
              refine L_r (r_sub rfl rfl (by first | exact wr_i64 (by omega) | rfl)) ?_
              refine L_r (r_ai rfl) ?_
              refine L_r (r_ai rfl) ?_
              refine L_nil ?_
              refine W_seq ?_
              refine W_region ?_
              refine L_r (r_mi rfl) ?_
              refine L_r (r_quon rfl rfl (by omega) (by omega) (by first | exact wr_i64 (by omega) | rfl)) ?_
              refine L_r (r_ai rfl) ?_
              refine L_nil ?_
              refine W_seq ?_
              refine W_region ?_
              refine L_r (r_mi rfl) ?_
              refine L_r (r_mi rfl) ?_
              refine L_r (r_lss rfl rfl) ?_
              refine L_nil ?_
              refine W_if rfl (fun h113 => ?_) (fun h113 => ?_)
              · refine W_seq ?_
                refine W_region ?_
                refine L_r (r_mi rfl) ?_
                refine L_r (r_mi rfl) ?_
                refine L_r (r_geq rfl rfl) ?_
                refine L_r (r_ab rfl) ?_
                refine L_nil ?_
                refine W_seq ?_
                refine W_region ?_
                refine L_r (r_mv) ?_
                refine L_r (r_mi rfl) ?_
                refine L_r (r_mi rfl) ?_
                refine L_r (r_mi rfl) ?_
                refine L_call (.plain rfl) rfl rfl (r_call Try.func41 rfl rfl rfl (by rfl)) (hI Z7 a1 m l2 _ (by omega) Ow.au (by omega) (by omega) (by omega) (by omega) (hA7.less (by omega))) ?_
                rintro v121 w25 ⟨rfl, ⟨Z10, hD10, hR10, hS10⟩, c25⟩
                have hz25 := c25.size
                refine L_nil ?_
                have hMn := hM7.left hC7 hm1 hm2 hR10 hS10 hr.1 hr.2.2 (by omega)
                have hRn : Rg a b X Z10 := hRX7.trans (hR10.mono hr.1 (by omega) (by omega))
                obtain ⟨na, hna⟩ : ∃ x, x = m + 1 := ⟨_, rfl⟩
                obtain ⟨nb, hnb⟩ : ∃ x, x = b1 := ⟨_, rfl⟩
                obtain ⟨nZ, hnZ⟩ : ∃ x, x = Z10 := ⟨_, rfl⟩
                rw [← hna, ← hnb, ← hnZ] at hMn
                rw [← hnZ] at hRn hD10
                refine W_region ?_
                refine L_r (r_mi rfl) ?_
                refine L_r (r_add rfl rfl (by first | exact wr_i64 (by omega) | rfl)) ?_
                refine L_r (r_ai rfl) ?_
                refine L_nil ?_
                refine ⟨⟨rfl, trivial⟩, _, ?_, na, nb, _, _, _, nZ, (by exact congrArg (Value.int .i64) (by omega)), (by exact congrArg (Value.int .i64) (by omega)), rfl, rfl, rfl, ?_, rfl⟩
                · omega
                exact ⟨by omega, by omega, hMn, Ow.au, hRn, Ch.au⟩
              · refine W_seq ?_
                refine W_region ?_
                refine L_r (r_mi rfl) ?_
                refine L_r (r_mi rfl) ?_
                refine L_r (r_geq rfl rfl) ?_
                refine L_r (r_ab rfl) ?_
                refine L_nil ?_
                refine W_seq ?_
                refine W_region ?_
                refine L_r (r_mv) ?_
                refine L_r (r_mi rfl) ?_
                refine L_r (r_add rfl rfl (by first | exact wr_i64 (by omega) | rfl)) ?_
                refine L_r (r_mi rfl) ?_
                refine L_r (r_mi rfl) ?_
                refine L_call (.plain rfl) rfl rfl (r_call Try.func41 rfl rfl rfl (by rfl)) (hI Z7 (m + 1) b1 l2 _ (by omega) Ow.au (by omega) (by omega) (by omega) (by omega) hC7.ahd) ?_
                rintro v132 w26 ⟨rfl, ⟨Z10, hD10, hR10, hS10⟩, c26⟩
                have hz26 := c26.size
                refine L_nil ?_
                have hMn := hM7.right hC7 hm1 hm2 hR10 hS10 hr.1 hr.2.2 (by omega)
                have hRn : Rg a b X Z10 := hRX7.trans (hR10.mono (by omega) hr.2.2 (by omega))
                obtain ⟨na, hna⟩ : ∃ x, x = a1 := ⟨_, rfl⟩
                obtain ⟨nb, hnb⟩ : ∃ x, x = m := ⟨_, rfl⟩
                obtain ⟨nZ, hnZ⟩ : ∃ x, x = Z10 := ⟨_, rfl⟩
                rw [← hna, ← hnb, ← hnZ] at hMn
                rw [← hnZ] at hRn hD10
                refine W_region ?_
                refine L_r (r_mi rfl) ?_
                refine L_r (r_ai rfl) ?_
                refine L_nil ?_
                refine ⟨⟨rfl, trivial⟩, _, ?_, na, nb, _, _, _, nZ, (by exact congrArg (Value.int .i64) (by omega)), (by exact congrArg (Value.int .i64) (by omega)), rfl, rfl, rfl, ?_, rfl⟩
                · omega
                exact ⟨by omega, by omega, hMn, Ow.au, hRn, Ch.au⟩
          · refine D_ps 3 rfl ?_
            refine D_ps 4 rfl ?_
            refine D_ps 5 rfl ?_
            refine D_ps 6 rfl ?_
            refine D_ps 7 rfl ?_
            refine D_ps 8 rfl ?_
            refine D_ps 9 rfl ?_
            refine D_ps 10 rfl ?_
            refine D_ps 11 rfl ?_
            refine D_ps 12 rfl ?_
            refine D_ps 13 rfl ?_
            refine D_t 14 rfl (fun W hW => r_pf rfl rfl) ?_
            refine D_done (by kernel_rfl) ?_
            refine W_false rfl ?_
            refine W_skip ?_
            refine W_seq ?_
            refine W_region ?_
            refine L_r (r_mv) ?_
            refine L_r (r_mi rfl) ?_
            refine L_r (r_mi rfl) ?_
            refine L_r (r_mi rfl) ?_
            refine L_call (.plain rfl) rfl rfl (r_call Try.func56 rfl rfl rfl (by rfl)) (partition_walk base v Z6 a1 b1 p _ Ow.au hp1 hp2 (by omega) (by omega)) ?_
            rintro v99 w27 ⟨m, fm, rfl, hm1, hm2, ⟨Z7, hD7, hR7, hC7⟩, c27⟩
            have hz27 := c27.size
            have hlz7 := hR7.length
            have hM7 := hM6.rg hR7 hr.1 hr.2.1 hr.2.2
            have hA7 := hA6.rg hR7
            have hRX7 : Rg a b X Z7 := hRX.trans (hR7.mono hr.1 hr.2.2 (by omega))
            refine L_r (r_mv) ?_
            refine L_r (r_ext2_0 rfl) ?_
            refine L_r (r_ext2_1 rfl) ?_
            refine L_r (r_ai rfl) ?_
            refine L_r (r_ab rfl) ?_
            refine L_nil ?_
            refine W_seq ?_
            refine W_region ?_
            refine L_r (r_mb rfl) ?_
            refine L_r (r_ab rfl) ?_
            refine L_nil ?_
            refine W_seq ?_
            refine W_region ?_
            refine L_r (r_mi rfl) ?_
            refine L_r (r_mi rfl) ?_
            refine L_r (r_sub rfl rfl (by first | exact wr_i64 (by omega) | rfl)) ?_
            refine L_r (r_mi rfl) ?_
            refine L_r (r_mi rfl) ?_
            refine L_r (r_sub rfl rfl (by first | exact wr_i64 (by omega) | rfl)) ?_
            refine L_r (r_ai rfl) ?_
            refine L_r (r_ai rfl) ?_
            refine L_nil ?_
            refine W_seq ?_
            refine W_region ?_
            refine L_r (r_mi rfl) ?_
            refine L_r (r_quon rfl rfl (by omega) (by omega) (by first | exact wr_i64 (by omega) | rfl)) ?_
            refine L_r (r_ai rfl) ?_
            refine L_nil ?_
            refine W_seq ?_
            refine W_region ?_
            refine L_r (r_mi rfl) ?_
            refine L_r (r_mi rfl) ?_
            refine L_r (r_lss rfl rfl) ?_
            refine L_nil ?_
            refine W_if rfl (fun h113 => ?_) (fun h113 => ?_)
            · refine W_seq ?_
              refine W_region ?_
              refine L_r (r_mi rfl) ?_
              refine L_r (r_mi rfl) ?_
              refine L_r (r_geq rfl rfl) ?_
              refine L_r (r_ab rfl) ?_
              refine L_nil ?_
              refine W_seq ?_
              refine W_region ?_
              refine L_r (r_mv) ?_
              refine L_r (r_mi rfl) ?_
              refine L_r (r_mi rfl) ?_
              refine L_r (r_mi rfl) ?_
              refine L_call (.plain rfl) rfl rfl (r_call Try.func41 rfl rfl rfl (by rfl)) (hI Z7 a1 m l2 _ (by omega) Ow.au (by omega) (by omega) (by omega) (by omega) (hA7.less (by omega))) ?_
              rintro v121 w28 ⟨rfl, ⟨Z10, hD10, hR10, hS10⟩, c28⟩
              have hz28 := c28.size
              refine L_nil ?_
              have hMn := hM7.left hC7 hm1 hm2 hR10 hS10 hr.1 hr.2.2 (by omega)
              have hRn : Rg a b X Z10 := hRX7.trans (hR10.mono hr.1 (by omega) (by omega))
              obtain ⟨na, hna⟩ : ∃ x, x = m + 1 := ⟨_, rfl⟩
              obtain ⟨nb, hnb⟩ : ∃ x, x = b1 := ⟨_, rfl⟩
              obtain ⟨nZ, hnZ⟩ : ∃ x, x = Z10 := ⟨_, rfl⟩
              rw [← hna, ← hnb, ← hnZ] at hMn
              rw [← hnZ] at hRn hD10
              refine W_region ?_
              refine L_r (r_mi rfl) ?_
              refine L_r (r_add rfl rfl (by first | exact wr_i64 (by omega) | rfl)) ?_
              refine L_r (r_ai rfl) ?_
              refine L_nil ?_
              refine ⟨⟨rfl, trivial⟩, _, ?_, na, nb, _, _, _, nZ, (by exact congrArg (Value.int .i64) (by omega)), (by exact congrArg (Value.int .i64) (by omega)), rfl, rfl, rfl, ?_, rfl⟩
              · omega
              exact ⟨by omega, by omega, hMn, Ow.au, hRn, Ch.au⟩
            · refine W_seq ?_
              refine W_region ?_
              refine L_r (r_mi rfl) ?_
              refine L_r (r_mi rfl) ?_
              refine L_r (r_geq rfl rfl) ?_
              refine L_r (r_ab rfl) ?_
              refine L_nil ?_
              refine W_seq ?_
              refine W_region ?_
              refine L_r (r_mv) ?_
              refine L_r (r_mi rfl) ?_
              refine L_r (r_add rfl rfl (by first | exact wr_i64 (by omega) | rfl)) ?_
              refine L_r (r_mi rfl) ?_
              refine L_r (r_mi rfl) ?_
              refine L_call (.plain rfl) rfl rfl (r_call Try.func41 rfl rfl rfl (by rfl)) (hI Z7 (m + 1) b1 l2 _ (by omega) Ow.au (by omega) (by omega) (by omega) (by omega) hC7.ahd) ?_
              rintro v132 w29 ⟨rfl, ⟨Z10, hD10, hR10, hS10⟩, c29⟩
              have hz29 := c29.size
              refine L_nil ?_
              have hMn := hM7.right hC7 hm1 hm2 hR10 hS10 hr.1 hr.2.2 (by omega)
              have hRn : Rg a b X Z10 := hRX7.trans (hR10.mono (by omega) hr.2.2 (by omega))
              obtain ⟨na, hna⟩ : ∃ x, x = a1 := ⟨_, rfl⟩
              obtain ⟨nb, hnb⟩ : ∃ x, x = m := ⟨_, rfl⟩
              obtain ⟨nZ, hnZ⟩ : ∃ x, x = Z10 := ⟨_, rfl⟩
              rw [← hna, ← hnb, ← hnZ] at hMn
              rw [← hnZ] at hRn hD10
              refine W_region ?_
              refine L_r (r_mi rfl) ?_
              refine L_r (r_ai rfl) ?_
              refine L_nil ?_
              refine ⟨⟨rfl, trivial⟩, _, ?_, na, nb, _, _, _, nZ, (by exact congrArg (Value.int .i64) (by omega)), (by exact congrArg (Value.int .i64) (by omega)), rfl, rfl, rfl, ?_, rfl⟩
              · omega
              exact ⟨by omega, by omega, hMn, Ow.au, hRn, Ch.au⟩
      · obtain ⟨Z8, hZ8⟩ : ∃ x, x = Z4 := ⟨_, rfl⟩
        refine L_ps ?_
        refine L_r (r_pf rfl rfl) ?_
        refine L_r (r_mb rfl) ?_
        refine L_ps ?_
        refine L_ps ?_
        refine L_r (r_pf rfl rfl) ?_
        refine L_nil ?_
        refine W_endF [0, 1, 2, 3, 8, 9, 10, 11] (fun f W => ∃ (Z6 : List Nat), True ∧ (Dt base W v Z6 ∧ Rg a1 b1 Z Z6 ∧ DtC v w0 W)) ?_ ?_
        · refine W_false rfl ?_
          refine W_skip ?_
          refine ⟨⟨rfl, rfl, rfl, rfl, rfl, rfl, rfl, rfl, trivial⟩, Z8, trivial, ?_⟩
          first
          | (subst hZ8; exact ⟨Ow.au, hR4.trans hR5, Ch.au⟩)
          | (subst hZ8; exact ⟨Ow.au, hR4, Ch.au⟩)
        rintro gct68 w30 ⟨Z6, -, hCt68⟩
        obtain ⟨hD6, hR6, hc⟩ := hCt68
        have hz := hc.size
        have hlz6 := hR6.length
        have hA6 := hA1.rg hR6
        have hM6 := hM.rg hR6 hr.1 hr.2.1 hr.2.2
        have hRX : Rg a b X Z6 := hR.trans (hR6.mono hr.1 hr.2.2 (by omega))
        refine W_seq ?_
        refine W_seq ?_
        refine W_draw (fun W => Dt base W v Z6) 15 (m := 15) (by kernel_rfl) rfl (fun w31 c31 hs31 => ?_)
        refine held Ow.au (fun hS => ?_)
        refine D_t 0 rfl (fun W hW => r_mi rfl) ?_
        refine D_t 1 rfl (fun W hW => r_gtr rfl rfl) ?_
        refine D_t 2 rfl (fun W hW => r_mb rfl) ?_
        refine D_case (d := 75) rfl (fun h75 => ?_) (fun h75 => ?_)
        · have e1 : ((a1 : Int) - 1).toNat = a1 - 1 := by omega
          refine D_g 3 rfl (fun W hW => r_mv) ?_
          refine D_g 4 rfl (fun W hW => r_mi rfl) ?_
          refine D_g 5 rfl (fun W hW => r_sub rfl rfl (by first | exact wr_i64 (by omega) | rfl)) ?_
          refine D_g 6 rfl (fun W hW => r_ix Try.underlying80 (show _ = some 1 from rfl) (by conv => lhs; whnf) rfl (by (first | exact hW.sl | exact hW))) ?_
          refine D_g 7 rfl (fun W hW => r_loadSl rfl rfl (by (first | exact hW.sl | exact hW)) (by first | assumption | exact ucells_gt _ _ (by omega) | (conv => lhs; simp only [List.getElem?_toArray, List.getElem?_cons_succ, List.getElem?_cons_zero]))) ?_
          refine D_g 8 rfl (fun W hW => r_mv) ?_
          refine D_g 9 rfl (fun W hW => r_mi rfl) ?_
          refine D_g 10 rfl (fun W hW => r_ix Try.underlying80 (show _ = some 1 from rfl) (by conv => lhs; whnf) rfl (by (first | exact hW.sl | exact hW))) ?_
          refine D_g 11 rfl (fun W hW => r_loadSl rfl rfl (by (first | exact hW.sl | exact hW)) (by first | assumption | exact ucells_gt _ _ (by omega) | (conv => lhs; simp only [List.getElem?_toArray, List.getElem?_cons_succ, List.getElem?_cons_zero]))) ?_
          refine D_ev 12 (by kernel_rfl) rfl ?_
          refine L_call (.yes 2 true rfl rfl) rfl rfl (r_call Try.func54 rfl rfl rfl (by rfl)) (less_walk (gt Z6 ((a1 : Int) - 1).toNat) (gt Z6 p) _) ?_
          rintro v85 w32 ⟨rfl, c32⟩
          have hz32 := c32.size
          rw [e1]
          refine L_nil ?_
          refine heldK Ow.au (fun hS => ?_)
          refine D_g 13 rfl (fun W hW => r_not rfl) ?_
          refine D_t 14 rfl (fun W hW => r_pt rfl rfl) ?_
          refine D_done (by kernel_rfl) ?_
          refine W_bool rfl (fun h87 => ?_) (fun h87 => ?_)
          · replace h87 : ¬ gt Z6 (a1 - 1) < gt Z6 p := by simpa using h87
            refine W_seq ?_
            refine W_region ?_
            refine L_r (r_mv) ?_
            refine L_r (r_mi rfl) ?_
            refine L_r (r_mi rfl) ?_
            refine L_r (r_mi rfl) ?_
            refine L_call (.plain rfl) rfl rfl (r_call Try.func55 rfl rfl rfl (by rfl)) (parteq_walk base v Z6 a1 b1 p _ Ow.au hp1 hp2 (by omega) (by omega)) ?_
            rintro v92 w33 ⟨m, rfl, hm1, hm2, ⟨Z7, hD7, hR7, hlo, hhi⟩, c33⟩
            have hz33 := c33.size
            refine L_r (r_ai rfl) ?_
            refine L_nil ?_
            refine W_seq ?_
            have hA7 := hA6.rg hR7
            have hMn := (hM6.rg hR7 hr.1 hr.2.1 hr.2.2).eq hr.1 hm1 hm2 hr.2.2 hlo hhi (fun k k1 k2 => by have h := hA7 (by omega) k k1 k2; rw [hR7.out (a1 - 1) (by omega)] at h; omega)
            have hRn : Rg a b X Z7 := hRX.trans (hR7.mono hr.1 hr.2.2 (by omega))
            obtain ⟨na, hna⟩ : ∃ x, x = m := ⟨_, rfl⟩
            obtain ⟨nb, hnb⟩ : ∃ x, x = b1 := ⟨_, rfl⟩
            obtain ⟨nZ, hnZ⟩ : ∃ x, x = Z7 := ⟨_, rfl⟩
            rw [← hna, ← hnb, ← hnZ] at hMn
            rw [← hnZ] at hRn hD7
            refine W_region ?_
            refine L_r (r_mi rfl) ?_
            refine L_r (r_ai rfl) ?_
            refine L_nil ?_
            refine W_exit ?_
            repeat (first | refine blk_hit ?_ | refine blk_miss rfl ?_)
            refine ⟨⟨rfl, trivial⟩, _, ?_, na, nb, _, _, _, nZ, (by exact congrArg (Value.int .i64) (by omega)), (by exact congrArg (Value.int .i64) (by omega)), rfl, rfl, rfl, ?_, rfl⟩
            · omega
            exact ⟨by omega, by omega, hMn, Ow.au, hRn, Ch.au⟩
          · refine W_skip ?_
            refine W_seq ?_
            refine W_region ?_
            refine L_r (r_mv) ?_
            refine L_r (r_mi rfl) ?_
            refine L_r (r_mi rfl) ?_
            refine L_r (r_mi rfl) ?_
            refine L_call (.plain rfl) rfl rfl (r_call Try.func56 rfl rfl rfl (by rfl)) (partition_walk base v Z6 a1 b1 p _ Ow.au hp1 hp2 (by omega) (by omega)) ?_
            rintro v99 w34 ⟨m, fm, rfl, hm1, hm2, ⟨Z7, hD7, hR7, hC7⟩, c34⟩
            have hz34 := c34.size
            have hlz7 := hR7.length
            have hM7 := hM6.rg hR7 hr.1 hr.2.1 hr.2.2
            have hA7 := hA6.rg hR7
            have hRX7 : Rg a b X Z7 := hRX.trans (hR7.mono hr.1 hr.2.2 (by omega))
            refine L_r (r_mv) ?_
            refine L_r (r_ext2_0 rfl) ?_
            refine L_r (r_ext2_1 rfl) ?_
            refine L_r (r_ai rfl) ?_
            refine L_r (r_ab rfl) ?_
            refine L_nil ?_
            refine W_seq ?_
            refine W_region ?_
            refine L_r (r_mb rfl) ?_
            refine L_r (r_ab rfl) ?_
            refine L_nil ?_
            refine W_seq ?_
            refine W_region ?_
            refine L_r (r_mi rfl) ?_
            refine L_r (r_mi rfl) ?_
            refine L_r (r_sub rfl rfl (by first | exact wr_i64 (by omega) | rfl)) ?_
            refine L_r (r_mi rfl) ?_
            refine L_r (r_mi rfl) ?_
            refine L_r (r_sub rfl rfl (by first | exact wr_i64 (by omega) | rfl)) ?_
            refine L_r (r_ai rfl) ?_
            refine L_r (r_ai rfl) ?_
            refine L_nil ?_
            refine W_seq ?_
            refine W_region ?_
            refine L_r (r_mi rfl) ?_
            refine L_r (r_quon rfl rfl (by omega) (by omega) (by first | exact wr_i64 (by omega) | rfl)) ?_
            refine L_r (r_ai rfl) ?_
            refine L_nil ?_
            refine W_seq ?_
            refine W_region ?_
            refine L_r (r_mi rfl) ?_
            refine L_r (r_mi rfl) ?_
            refine L_r (r_lss rfl rfl) ?_
            refine L_nil ?_
            refine W_if rfl (fun h113 => ?_) (fun h113 => ?_)
            · refine W_seq ?_
              refine W_region ?_
              refine L_r (r_mi rfl) ?_
              refine L_r (r_mi rfl) ?_
              refine L_r (r_geq rfl rfl) ?_
              refine L_r (r_ab rfl) ?_
              refine L_nil ?_
              refine W_seq ?_
              refine W_region ?_
              refine L_r (r_mv) ?_
              refine L_r (r_mi rfl) ?_
              refine L_r (r_mi rfl) ?_
              refine L_r (r_mi rfl) ?_
              refine L_call (.plain rfl) rfl rfl (r_call Try.func41 rfl rfl rfl (by rfl)) (hI Z7 a1 m l2 _ (by omega) Ow.au (by omega) (by omega) (by omega) (by omega) (hA7.less (by omega))) ?_
              rintro v121 w35 ⟨rfl, ⟨Z10, hD10, hR10, hS10⟩, c35⟩
              have hz35 := c35.size
              refine L_nil ?_
              have hMn := hM7.left hC7 hm1 hm2 hR10 hS10 hr.1 hr.2.2 (by omega)
              have hRn : Rg a b X Z10 := hRX7.trans (hR10.mono hr.1 (by omega) (by omega))
              obtain ⟨na, hna⟩ : ∃ x, x = m + 1 := ⟨_, rfl⟩
              obtain ⟨nb, hnb⟩ : ∃ x, x = b1 := ⟨_, rfl⟩
              obtain ⟨nZ, hnZ⟩ : ∃ x, x = Z10 := ⟨_, rfl⟩
              rw [← hna, ← hnb, ← hnZ] at hMn
              rw [← hnZ] at hRn hD10
              refine W_region ?_
              refine L_r (r_mi rfl) ?_
              refine L_r (r_add rfl rfl (by first | exact wr_i64 (by omega) | rfl)) ?_
              refine L_r (r_ai rfl) ?_
              refine L_nil ?_
              refine ⟨⟨rfl, trivial⟩, _, ?_, na, nb, _, _, _, nZ, (by exact congrArg (Value.int .i64) (by omega)), (by exact congrArg (Value.int .i64) (by omega)), rfl, rfl, rfl, ?_, rfl⟩
              · omega
              exact ⟨by omega, by omega, hMn, Ow.au, hRn, Ch.au⟩
            · refine W_seq ?_
              refine W_region ?_
              refine L_r (r_mi rfl) ?_
              refine L_r (r_mi rfl) ?_
              refine L_r (r_geq rfl rfl) ?_
              refine L_r (r_ab rfl) ?_
              refine L_nil ?_
              refine W_seq ?_
              refine W_region ?_
              refine L_r (r_mv) ?_
              refine L_r (r_mi rfl) ?_
              refine L_r (r_add rfl rfl (by first | exact wr_i64 (by omega) | rfl)) ?_
              refine L_r (r_mi rfl) ?_
              refine L_r (r_mi rfl) ?_
              refine L_call (.plain rfl) rfl rfl (r_call Try.func41 rfl rfl rfl (by rfl)) (hI Z7 (m + 1) b1 l2 _ (by omega) Ow.au (by omega) (by omega) (by omega) (by omega) hC7.ahd) ?_
              rintro v132 w36 ⟨rfl, ⟨Z10, hD10, hR10, hS10⟩, c36⟩
              have hz36 := c36.size
              refine L_nil ?_
              have hMn := hM7.right hC7 hm1 hm2 hR10 hS10 hr.1 hr.2.2 (by omega)
              have hRn : Rg a b X Z10 := hRX7.trans (hR10.mono (by omega) hr.2.2 (by omega))
              obtain ⟨na, hna⟩ : ∃ x, x = a1 := ⟨_, rfl⟩
              obtain ⟨nb, hnb⟩ : ∃ x, x = m := ⟨_, rfl⟩
              obtain ⟨nZ, hnZ⟩ : ∃ x, x = Z10 := ⟨_, rfl⟩
              rw [← hna, ← hnb, ← hnZ] at hMn
              rw [← hnZ] at hRn hD10
              refine W_region ?_
              refine L_r (r_mi rfl) ?_
              refine L_r (r_ai rfl) ?_
              refine L_nil ?_
              refine ⟨⟨rfl, trivial⟩, _, ?_, na, nb, _, _, _, nZ, (by exact congrArg (Value.int .i64) (by omega)), (by exact congrArg (Value.int .i64) (by omega)), rfl, rfl, rfl, ?_, rfl⟩
              · omega
              exact ⟨by omega, by omega, hMn, Ow.au, hRn, Ch.au⟩
        · refine D_ps 3 rfl ?_
          refine D_ps 4 rfl ?_
          refine D_ps 5 rfl ?_
          refine D_ps 6 rfl ?_
          refine D_ps 7 rfl ?_
          refine D_ps 8 rfl ?_
          refine D_ps 9 rfl ?_
          refine D_ps 10 rfl ?_
          refine D_ps 11 rfl ?_
          refine D_ps 12 rfl ?_
          refine D_ps 13 rfl ?_
          refine D_t 14 rfl (fun W hW => r_pf rfl rfl) ?_
          refine D_done (by kernel_rfl) ?_
          refine W_false rfl ?_
          refine W_skip ?_
          refine W_seq ?_
          refine W_region ?_
          refine L_r (r_mv) ?_
          refine L_r (r_mi rfl) ?_
          refine L_r (r_mi rfl) ?_
          refine L_r (r_mi rfl) ?_
          refine L_call (.plain rfl) rfl rfl (r_call Try.func56 rfl rfl rfl (by rfl)) (partition_walk base v Z6 a1 b1 p _ Ow.au hp1 hp2 (by omega) (by omega)) ?_
          rintro v99 w37 ⟨m, fm, rfl, hm1, hm2, ⟨Z7, hD7, hR7, hC7⟩, c37⟩
          have hz37 := c37.size
          have hlz7 := hR7.length
          have hM7 := hM6.rg hR7 hr.1 hr.2.1 hr.2.2
          have hA7 := hA6.rg hR7
          have hRX7 : Rg a b X Z7 := hRX.trans (hR7.mono hr.1 hr.2.2 (by omega))
          refine L_r (r_mv) ?_
          refine L_r (r_ext2_0 rfl) ?_
          refine L_r (r_ext2_1 rfl) ?_
          refine L_r (r_ai rfl) ?_
          refine L_r (r_ab rfl) ?_
          refine L_nil ?_
          refine W_seq ?_
          refine W_region ?_
          refine L_r (r_mb rfl) ?_
          refine L_r (r_ab rfl) ?_
          refine L_nil ?_
          refine W_seq ?_
          refine W_region ?_
          refine L_r (r_mi rfl) ?_
          refine L_r (r_mi rfl) ?_
          refine L_r (r_sub rfl rfl (by first | exact wr_i64 (by omega) | rfl)) ?_
          refine L_r (r_mi rfl) ?_
          refine L_r (r_mi rfl) ?_
          refine L_r (r_sub rfl rfl (by first | exact wr_i64 (by omega) | rfl)) ?_
          refine L_r (r_ai rfl) ?_
          refine L_r (r_ai rfl) ?_
          refine L_nil ?_
          refine W_seq ?_
          refine W_region ?_
          refine L_r (r_mi rfl) ?_
          refine L_r (r_quon rfl rfl (by omega) (by omega) (by first | exact wr_i64 (by omega) | rfl)) ?_
          refine L_r (r_ai rfl) ?_
          refine L_nil ?_
          refine W_seq ?_
          refine W_region ?_
          refine L_r (r_mi rfl) ?_
          refine L_r (r_mi rfl) ?_
          refine L_r (r_lss rfl rfl) ?_
          refine L_nil ?_
          refine W_if rfl (fun h113 => ?_) (fun h113 => ?_)
          · refine W_seq ?_
            refine W_region ?_
            refine L_r (r_mi rfl) ?_
            refine L_r (r_mi rfl) ?_
            refine L_r (r_geq rfl rfl) ?_
            refine L_r (r_ab rfl) ?_
            refine L_nil ?_
            refine W_seq ?_
            refine W_region ?_
            refine L_r (r_mv) ?_
            refine L_r (r_mi rfl) ?_
            refine L_r (r_mi rfl) ?_
            refine L_r (r_mi rfl) ?_
            refine L_call (.plain rfl) rfl rfl (r_call Try.func41 rfl rfl rfl (by rfl)) (hI Z7 a1 m l2 _ (by omega) Ow.au (by omega) (by omega) (by omega) (by omega) (hA7.less (by omega))) ?_
            rintro v121 w38 ⟨rfl, ⟨Z10, hD10, hR10, hS10⟩, c38⟩
            have hz38 := c38.size
            refine L_nil ?_
            have hMn := hM7.left hC7 hm1 hm2 hR10 hS10 hr.1 hr.2.2 (by omega)
            have hRn : Rg a b X Z10 := hRX7.trans (hR10.mono hr.1 (by omega) (by omega))
            obtain ⟨na, hna⟩ : ∃ x, x = m + 1 := ⟨_, rfl⟩
            obtain ⟨nb, hnb⟩ : ∃ x, x = b1 := ⟨_, rfl⟩
            obtain ⟨nZ, hnZ⟩ : ∃ x, x = Z10 := ⟨_, rfl⟩
            rw [← hna, ← hnb, ← hnZ] at hMn
            rw [← hnZ] at hRn hD10
            refine W_region ?_
            refine L_r (r_mi rfl) ?_
            refine L_r (r_add rfl rfl (by first | exact wr_i64 (by omega) | rfl)) ?_
            refine L_r (r_ai rfl) ?_
            refine L_nil ?_
            refine ⟨⟨rfl, trivial⟩, _, ?_, na, nb, _, _, _, nZ, (by exact congrArg (Value.int .i64) (by omega)), (by exact congrArg (Value.int .i64) (by omega)), rfl, rfl, rfl, ?_, rfl⟩
            · omega
            exact ⟨by omega, by omega, hMn, Ow.au, hRn, Ch.au⟩
          · refine W_seq ?_
            refine W_region ?_
            refine L_r (r_mi rfl) ?_
            refine L_r (r_mi rfl) ?_
            refine L_r (r_geq rfl rfl) ?_
            refine L_r (r_ab rfl) ?_
            refine L_nil ?_
            refine W_seq ?_
            refine W_region ?_
            refine L_r (r_mv) ?_
            refine L_r (r_mi rfl) ?_
            refine L_r (r_add rfl rfl (by first | exact wr_i64 (by omega) | rfl)) ?_
            refine L_r (r_mi rfl) ?_
            refine L_r (r_mi rfl) ?_
            refine L_call (.plain rfl) rfl rfl (r_call Try.func41 rfl rfl rfl (by rfl)) (hI Z7 (m + 1) b1 l2 _ (by omega) Ow.au (by omega) (by omega) (by omega) (by omega) hC7.ahd) ?_
            rintro v132 w39 ⟨rfl, ⟨Z10, hD10, hR10, hS10⟩, c39⟩
            have hz39 := c39.size
            refine L_nil ?_
            have hMn := hM7.right hC7 hm1 hm2 hR10 hS10 hr.1 hr.2.2 (by omega)
            have hRn : Rg a b X Z10 := hRX7.trans (hR10.mono (by omega) hr.2.2 (by omega))
            obtain ⟨na, hna⟩ : ∃ x, x = a1 := ⟨_, rfl⟩
            obtain ⟨nb, hnb⟩ : ∃ x, x = m := ⟨_, rfl⟩
            obtain ⟨nZ, hnZ⟩ : ∃ x, x = Z10 := ⟨_, rfl⟩
            rw [← hna, ← hnb, ← hnZ] at hMn
            rw [← hnZ] at hRn hD10
            refine W_region ?_
            refine L_r (r_mi rfl) ?_
            refine L_r (r_ai rfl) ?_
            refine L_nil ?_
            refine ⟨⟨rfl, trivial⟩, _, ?_, na, nb, _, _, _, nZ, (by exact congrArg (Value.int .i64) (by omega)), (by exact congrArg (Value.int .i64) (by omega)), rfl, rfl, rfl, ?_, rfl⟩
            · omega
            exact ⟨by omega, by omega, hMn, Ow.au, hRn, Ch.au⟩
end Go.Proofs.Ytjjddbicggfgnaa

