/- CallerPlays, walked. -/
import Derived.Test.YtjjddbicggfgnaaCalZ
namespace Go.Proofs.Ytjjddbicggfgnaa
open Go Go.RowKit
set_option linter.unusedVariables false
set_option linter.unusedSimpArgs false
set_option maxRecDepth 100000
theorem plays_out (life wait most : Int) (v1 : Value) (w0 : World) (hn : life = 0 ∨ wait < 1 ∨ 1000 < wait ∨ most < 1 ∨ 1000 < most) : Does Try.prog 4 #[.int .u64 life, .int .i64 wait, .int .i64 most, v1] w0 (fun r w' => r = .bool true ∧ Nw w0 w') := by
  refine fn_of (n := 198) (args := [.int .u64 life, .int .i64 wait, .int .i64 most, v1]) Try.func4 rfl rfl rfl ?_
  refine W_seq ?_
  refine W_region ?_
  refine L_r (r_ab rfl) ?_
  refine L_nil ?_
  refine W_seq ?_
  refine W_region ?_
  refine L_r (r_mi rfl) ?_
  refine L_r (r_mi rfl) ?_
  refine L_r (r_mi rfl) ?_
  refine L_call (.plain rfl) rfl rfl (r_call Try.func9 rfl rfl rfl (by rfl)) (new_none life wait most _ hn) ?_
  rintro v25 w1 ⟨rfl, rfl⟩
  refine L_r (r_mv) ?_
  refine L_r (r_ext2_0 rfl) ?_
  refine L_r (r_ext2_1 rfl) ?_
  refine L_r (r_ap rfl) ?_
  refine L_r (r_ai rfl) ?_
  refine L_nil ?_
  refine W_seq ?_
  refine W_seq ?_
  refine W_region ?_
  refine L_r (r_mi rfl) ?_
  refine L_r (r_eql rfl rfl) ?_
  refine L_r (r_mb rfl) ?_
  refine L_case (d := 30) rfl (fun h30 => ?_) (fun h30 => ?_)
  · refine L_ps ?_
    refine L_ps ?_
    refine L_r (r_pt rfl rfl) ?_
    refine L_r (r_mb rfl) ?_
    refine L_ps ?_
    refine L_ps ?_
    refine L_r (r_pt rfl rfl) ?_
    refine L_r (r_mb rfl) ?_
    refine L_ps ?_
    refine L_ps ?_
    refine L_r (r_pt rfl rfl) ?_
    refine L_r (r_mb rfl) ?_
    refine L_ps ?_
    refine L_ps ?_
    refine L_r (r_pt rfl rfl) ?_
    refine L_nil ?_
    refine W_true rfl ?_
    refine W_seq ?_
    refine W_region ?_
    refine L_call (.plain rfl) rfl rfl (r_call Try.func10 rfl rfl rfl (by rfl)) (awake_walk _) ?_
    rintro v46 w2 ⟨rfl, c2⟩
    have hz2 := c2.size
    refine L_as (v := .bool _) (v' := .bool true) 46 rfl (congrArg Value.bool (by rfl)) ?_
    refine L_r (r_mb rfl) ?_
    refine L_g (r_mp rfl) ?_
    refine L_g (r_eqpnil Try.underlying22 rfl rfl) ?_
    refine L_as (v := .bool _) (v' := .bool true) 49 rfl (congrArg Value.bool (by rfl)) ?_
    refine L_r (r_pt rfl rfl) ?_
    refine L_r (r_mb rfl) ?_
    refine L_g (r_mi rfl) ?_
    refine L_g (r_eql rfl rfl) ?_
    refine L_as (v := .bool _) (v' := .bool true) 53 rfl (dec_t (by rfl)).symm ?_
    refine L_r (r_pt rfl rfl) ?_
    refine L_r (r_ab rfl) ?_
    refine L_nil ?_
    refine W_ret ?_
    refine ret1 (v := .bool _) rfl rfl ?_
    exact ⟨rfl, Ch.au⟩
  · refine L_g (r_mi rfl) ?_
    refine L_g (r_lss rfl rfl) ?_
    refine L_r (r_pf rfl rfl) ?_
    refine L_r (r_mb rfl) ?_
    refine L_case (d := 34) rfl (fun h34 => ?_) (fun h34 => ?_)
    · refine L_ps ?_
      refine L_ps ?_
      refine L_r (r_pt rfl rfl) ?_
      refine L_r (r_mb rfl) ?_
      refine L_ps ?_
      refine L_ps ?_
      refine L_r (r_pt rfl rfl) ?_
      refine L_r (r_mb rfl) ?_
      refine L_ps ?_
      refine L_ps ?_
      refine L_r (r_pt rfl rfl) ?_
      refine L_nil ?_
      refine W_true rfl ?_
      refine W_seq ?_
      refine W_region ?_
      refine L_call (.plain rfl) rfl rfl (r_call Try.func10 rfl rfl rfl (by rfl)) (awake_walk _) ?_
      rintro v46 w3 ⟨rfl, c3⟩
      have hz3 := c3.size
      refine L_as (v := .bool _) (v' := .bool true) 46 rfl (congrArg Value.bool (by rfl)) ?_
      refine L_r (r_mb rfl) ?_
      refine L_g (r_mp rfl) ?_
      refine L_g (r_eqpnil Try.underlying22 rfl rfl) ?_
      refine L_as (v := .bool _) (v' := .bool true) 49 rfl (congrArg Value.bool (by rfl)) ?_
      refine L_r (r_pt rfl rfl) ?_
      refine L_r (r_mb rfl) ?_
      refine L_g (r_mi rfl) ?_
      refine L_g (r_eql rfl rfl) ?_
      refine L_as (v := .bool _) (v' := .bool true) 53 rfl (dec_t (by rfl)).symm ?_
      refine L_r (r_pt rfl rfl) ?_
      refine L_r (r_ab rfl) ?_
      refine L_nil ?_
      refine W_ret ?_
      refine ret1 (v := .bool _) rfl rfl ?_
      exact ⟨rfl, Ch.au⟩
    · refine L_g (r_mi rfl) ?_
      refine L_g (r_gtr rfl rfl) ?_
      refine L_r (r_pf rfl rfl) ?_
      refine L_r (r_mb rfl) ?_
      refine L_case (d := 38) rfl (fun h38 => ?_) (fun h38 => ?_)
      · refine L_ps ?_
        refine L_ps ?_
        refine L_r (r_pt rfl rfl) ?_
        refine L_r (r_mb rfl) ?_
        refine L_ps ?_
        refine L_ps ?_
        refine L_r (r_pt rfl rfl) ?_
        refine L_nil ?_
        refine W_true rfl ?_
        refine W_seq ?_
        refine W_region ?_
        refine L_call (.plain rfl) rfl rfl (r_call Try.func10 rfl rfl rfl (by rfl)) (awake_walk _) ?_
        rintro v46 w4 ⟨rfl, c4⟩
        have hz4 := c4.size
        refine L_as (v := .bool _) (v' := .bool true) 46 rfl (congrArg Value.bool (by rfl)) ?_
        refine L_r (r_mb rfl) ?_
        refine L_g (r_mp rfl) ?_
        refine L_g (r_eqpnil Try.underlying22 rfl rfl) ?_
        refine L_as (v := .bool _) (v' := .bool true) 49 rfl (congrArg Value.bool (by rfl)) ?_
        refine L_r (r_pt rfl rfl) ?_
        refine L_r (r_mb rfl) ?_
        refine L_g (r_mi rfl) ?_
        refine L_g (r_eql rfl rfl) ?_
        refine L_as (v := .bool _) (v' := .bool true) 53 rfl (dec_t (by rfl)).symm ?_
        refine L_r (r_pt rfl rfl) ?_
        refine L_r (r_ab rfl) ?_
        refine L_nil ?_
        refine W_ret ?_
        refine ret1 (v := .bool _) rfl rfl ?_
        exact ⟨rfl, Ch.au⟩
      · refine L_g (r_mi rfl) ?_
        refine L_g (r_lss rfl rfl) ?_
        refine L_r (r_pf rfl rfl) ?_
        refine L_r (r_mb rfl) ?_
        refine L_case (d := 42) rfl (fun h42 => ?_) (fun h42 => ?_)
        · refine L_ps ?_
          refine L_ps ?_
          refine L_r (r_pt rfl rfl) ?_
          refine L_nil ?_
          refine W_true rfl ?_
          refine W_seq ?_
          refine W_region ?_
          refine L_call (.plain rfl) rfl rfl (r_call Try.func10 rfl rfl rfl (by rfl)) (awake_walk _) ?_
          rintro v46 w5 ⟨rfl, c5⟩
          have hz5 := c5.size
          refine L_as (v := .bool _) (v' := .bool true) 46 rfl (congrArg Value.bool (by rfl)) ?_
          refine L_r (r_mb rfl) ?_
          refine L_g (r_mp rfl) ?_
          refine L_g (r_eqpnil Try.underlying22 rfl rfl) ?_
          refine L_as (v := .bool _) (v' := .bool true) 49 rfl (congrArg Value.bool (by rfl)) ?_
          refine L_r (r_pt rfl rfl) ?_
          refine L_r (r_mb rfl) ?_
          refine L_g (r_mi rfl) ?_
          refine L_g (r_eql rfl rfl) ?_
          refine L_as (v := .bool _) (v' := .bool true) 53 rfl (dec_t (by rfl)).symm ?_
          refine L_r (r_pt rfl rfl) ?_
          refine L_r (r_ab rfl) ?_
          refine L_nil ?_
          refine W_ret ?_
          refine ret1 (v := .bool _) rfl rfl ?_
          exact ⟨rfl, Ch.au⟩
        · refine L_g (r_mi rfl) ?_
          refine L_g (r_gtr rfl rfl) ?_
          refine L_r (r_pf rfl rfl) ?_
          refine L_nil ?_
          refine W_if rfl (fun h45 => ?_) (fun h45 => ?_)
          · refine W_seq ?_
            refine W_region ?_
            refine L_call (.plain rfl) rfl rfl (r_call Try.func10 rfl rfl rfl (by rfl)) (awake_walk _) ?_
            rintro v46 w6 ⟨rfl, c6⟩
            have hz6 := c6.size
            refine L_as (v := .bool _) (v' := .bool true) 46 rfl (congrArg Value.bool (by rfl)) ?_
            refine L_r (r_mb rfl) ?_
            refine L_g (r_mp rfl) ?_
            refine L_g (r_eqpnil Try.underlying22 rfl rfl) ?_
            refine L_as (v := .bool _) (v' := .bool true) 49 rfl (congrArg Value.bool (by rfl)) ?_
            refine L_r (r_pt rfl rfl) ?_
            refine L_r (r_mb rfl) ?_
            refine L_g (r_mi rfl) ?_
            refine L_g (r_eql rfl rfl) ?_
            refine L_as (v := .bool _) (v' := .bool true) 53 rfl (dec_t (by rfl)).symm ?_
            refine L_r (r_pt rfl rfl) ?_
            refine L_r (r_ab rfl) ?_
            refine L_nil ?_
            refine W_ret ?_
            refine ret1 (v := .bool _) rfl rfl ?_
            exact ⟨rfl, Ch.au⟩
          · omega
set_option maxHeartbeats 8000000 in
theorem plays_in (life wait most : Int) (v1 : Value) (z : List SAct) (w0 : World) (hn : life ≠ 0 ∧ 1 ≤ wait ∧ wait ≤ 1000 ∧ 1 ≤ most ∧ most ≤ 1000) (hlf : 0 ≤ life ∧ life ≤ 18446744073709551615) (y1 : Sl w0 v1 9 z.length (cellsS z)) (y2 : ∀ a ∈ z, a.m.ok) : Does Try.prog 4 #[.int .u64 life, .int .i64 wait, .int .i64 most, v1] w0 (fun r w' => r = .bool true ∧ Nw w0 w') := by
  refine fn_of (n := 198) (args := [.int .u64 life, .int .i64 wait, .int .i64 most, v1]) Try.func4 rfl rfl rfl ?_
  refine W_seq ?_
  refine W_region ?_
  refine L_r (r_ab rfl) ?_
  refine L_nil ?_
  refine W_seq ?_
  refine W_region ?_
  refine L_r (r_mi rfl) ?_
  refine L_r (r_mi rfl) ?_
  refine L_r (r_mi rfl) ?_
  refine L_call (.plain rfl) rfl rfl (r_call Try.func9 rfl rfl rfl (by rfl)) (new_use life wait most _ hn) ?_
  rintro v25 w1 ⟨b, F0, rfl, hX0, hF0, c1⟩
  have hz1 := c1.size
  refine L_r (r_mv) ?_
  refine L_r (r_ext2_0 rfl) ?_
  refine L_r (r_ext2_1 rfl) ?_
  refine L_r (r_ap rfl) ?_
  refine L_r (r_ai rfl) ?_
  refine L_nil ?_
  refine W_seq ?_
  refine W_seq ?_
  refine W_region ?_
  refine L_r (r_mi rfl) ?_
  refine L_r (r_eql rfl rfl) ?_
  refine L_r (r_mb rfl) ?_
  refine L_case (d := 30) rfl (fun h30 => ?_) (fun h30 => ?_)
  · omega
  · refine L_g (r_mi rfl) ?_
    refine L_g (r_lss rfl rfl) ?_
    refine L_r (r_pf rfl rfl) ?_
    refine L_r (r_mb rfl) ?_
    refine L_case (d := 34) rfl (fun h34 => ?_) (fun h34 => ?_)
    · omega
    · refine L_g (r_mi rfl) ?_
      refine L_g (r_gtr rfl rfl) ?_
      refine L_r (r_pf rfl rfl) ?_
      refine L_r (r_mb rfl) ?_
      refine L_case (d := 38) rfl (fun h38 => ?_) (fun h38 => ?_)
      · omega
      · refine L_g (r_mi rfl) ?_
        refine L_g (r_lss rfl rfl) ?_
        refine L_r (r_pf rfl rfl) ?_
        refine L_r (r_mb rfl) ?_
        refine L_case (d := 42) rfl (fun h42 => ?_) (fun h42 => ?_)
        · omega
        · refine L_g (r_mi rfl) ?_
          refine L_g (r_gtr rfl rfl) ?_
          refine L_r (r_pf rfl rfl) ?_
          refine L_nil ?_
          refine W_if rfl (fun h45 => ?_) (fun h45 => ?_)
          · omega
          · refine W_skip ?_
            refine W_seq ?_
            refine W_seq ?_
            refine W_region ?_
            refine L_call (.plain rfl) rfl rfl (r_call Try.func10 rfl rfl rfl (by rfl)) (awake_walk _) ?_
            rintro v55 w2 ⟨rfl, c2⟩
            have hz2 := c2.size
            refine L_r (r_not rfl) ?_
            refine L_as (v := .bool _) (v' := .bool false) 56 rfl (congrArg Value.bool (by rfl)) ?_
            refine L_r (r_mb rfl) ?_
            refine L_g (r_mi rfl) ?_
            refine L_g (r_neq rfl rfl) ?_
            refine L_as (v := .bool _) (v' := .bool false) 59 rfl (dec_f (by simp)).symm ?_
            refine L_r (r_pf rfl rfl) ?_
            refine L_r (r_mb rfl) ?_
            refine L_g (r_mp rfl) ?_
            refine L_g (r_eqpnil Try.underlying22 rfl rfl) ?_
            refine L_as (v := .bool _) (v' := .bool false) 63 rfl (congrArg Value.bool (by rfl)) ?_
            refine L_r (r_pf rfl rfl) ?_
            refine L_r (r_mb rfl) ?_
            refine L_g (r_mp rfl) ?_
            refine L_call (.yes 10 false rfl rfl) rfl rfl (r_call Try.func15 rfl rfl rfl (by rfl)) (life_use _ F0 b _ _ (hX0.nw Ch.au)) ?_
            rintro v67 w3 ⟨rfl, rfl⟩
            refine L_g (r_mi rfl) ?_
            refine L_g (r_neq rfl rfl) ?_
            refine L_r (r_pf rfl rfl) ?_
            refine L_nil ?_
            refine W_if rfl (fun h70 => ?_) (fun h70 => ?_)
            · exact absurd rfl h70
            · refine W_skip ?_
              refine W_seq ?_
              refine W_region ?_
              refine L_r (r_mi rfl) ?_
              refine L_r (r_mi rfl) ?_
              refine L_r (r_mi rfl) ?_
              refine L_r (r_build1 (pl := [(0, 1), (1, 1), (2, 1), (3, 1), (4, 1), (5, 1)]) (vs := [(0, .int _ _), (1, .int _ _), (2, .int _ _)]) (cells := [_, _, _, _, _, _]) Try.underlying41 rfl rfl (by rfl) rfl (by rfl)) ?_
              refine L_new (.plain rfl) rfl rfl (r_alloca rfl) (fun w4 b11 hb11 eb4 hs4 c4 => ?_)
              refine L_storerow (.plain rfl) rfl rfl Bk.au (by first | rfl | (simp; done) | assumption) (by first | rfl | assumption) (by first | exact six_one g1 g2 g3 | rfl | (simp [Value.oneCell']; done)) (fun w5 hb5 hs5 c5 => ?_)
              refine L_nil ?_
              refine W_seq ?_
              refine W_seq ?_
              refine W_region ?_
              refine L_r (r_ai rfl) ?_
              refine L_nil ?_
              refine W_block ?_
              refine W_loopF [3, 9, 11] (fun mz_ f W => ∃ (i : Nat) (F : Nat → Prop) (C : Cal) (R : RCal) (vl vo vr : Value), f 12 = .int .i64 i ∧ (i ≤ z.length ∧ i ≤ 120 ∧ DX w0.heap.size F W b b11 C R vl vo vr ∧ Rel C R ∧ C.Lim i ∧ R.life = life ∧ Nw w0 W) ∧ mz_ = 120 - i) ?_ ?_
              · refine ⟨_, 0, F0, cal0 life wait most, ⟨life, wait, most, [], [], []⟩, .slice none 0 0, .slice none 0 0, .slice none 0 0, rfl, ?_, rfl⟩
                refine ⟨by omega, by omega, ⟨hX0.nw Ch.au, Bk.au, ⟨Ow.nil _ _ _ _, Ow.nil _ _ _ _, Ow.nil _ _ _ _⟩, fun j hj => ?_, fun hF => ?_⟩, ⟨rfl, rfl, rfl, rfl, rfl, rfl, rfl⟩, lim0 _ _ _, rfl, Ch.au⟩
                · rcases hj with hj | hj | hj <;> exact absurd hj (by simp [Value.ownBlock])
                · have := (hX0.lt _ hF).2; omega
              rintro m0 g0 w6 ⟨i, F, C, R, vl, vo, vr, hf12, hR0, rfl⟩
              refine W_as 12 hf12 rfl ?_
              clear hf12
              obtain ⟨hi1, hi2, hD, hRel, hLim, hlife, hnw⟩ := hR0
              have hz := hnw.size
              have hk := hD.k
              have hno := hD.no
              have hkl := hk.lt
              have g1 := sl_one hD.r.l.sl
              have g2 := sl_one hD.r.o.sl
              have g3 := sl_one hD.r.r.sl
              have q1 := hLim.1
              have q2 := hLim.2.1
              have q3 := hLim.2.2.1
              have q4 := hLim.2.2.2
              have q5 := hRel.last
              have q6 := congrArg List.length hRel.out
              have q7 := congrArg List.length hRel.res
              refine W_seq ?_
              refine W_seq ?_
              refine W_region ?_
              refine L_r (r_mi rfl) ?_
              refine L_r (r_mv) ?_
              refine L_r (r_lenSl Try.underlying37 (by conv => lhs; whnf) Sl.au) ?_
              refine L_r (r_lss rfl rfl) ?_
              refine L_r (r_mb rfl) ?_
              refine L_case (d := 79) rfl (fun h79 => ?_) (fun h79 => ?_)
              · refine L_g (r_mi rfl) ?_
                refine L_g (r_lss rfl rfl) ?_
                refine L_r (r_pt rfl rfl) ?_
                refine L_nil ?_
                refine W_if rfl (fun h82 => ?_) (fun h82 => ?_)
                · have hlt : i < z.length := by omega
                  refine W_skip ?_
                  refine W_cutF [3, 9, 11, 12] (fun f W => ∃ (F2 : Nat → Prop) (C2 : Cal) (R2 : RCal) (vl2 vo2 vr2 : Value), True ∧ (i + 1 ≤ z.length ∧ i + 1 ≤ 120 ∧ DX w0.heap.size F2 W b b11 C2 R2 vl2 vo2 vr2 ∧ Rel C2 R2 ∧ C2.Lim (i + 1) ∧ R2.life = life ∧ Nw w0 W)) ?_ ?_
                  · refine W_block ?_
                    refine W_seq ?_
                    have hc9 := cellsS_row z i hlt
                    have hao := y2 z[i] (List.getElem_mem _)
                    obtain ⟨a, ha⟩ : ∃ a, a = z[i] := ⟨_, rfl⟩
                    rw [← ha] at hc9 hao
                    obtain ⟨Fx, hFx⟩ : ∃ x, x = F := ⟨_, rfl⟩
                    obtain ⟨Cx, hCx⟩ : ∃ x, x = C := ⟨_, rfl⟩
                    obtain ⟨Rx, hRx⟩ : ∃ x, x = R := ⟨_, rfl⟩
                    obtain ⟨vlx, hvlx⟩ : ∃ x, x = vl := ⟨_, rfl⟩
                    obtain ⟨vox, hvox⟩ : ∃ x, x = vo := ⟨_, rfl⟩
                    obtain ⟨vrx, hvrx⟩ : ∃ x, x = vr := ⟨_, rfl⟩
                    refine W_region ?_
                    refine L_r (r_mv) ?_
                    refine L_r (r_mi rfl) ?_
                    refine L_r (r_ix Try.underlying37 (show _ = some 9 from rfl) (by conv => lhs; whnf) rfl Sl.au) ?_
                    refine L_r (r_loadSlrow (us := [.int .i64 a.k, .int .i64 a.m.kind, .int .u64 a.m.life, .int .u64 a.m.seq, .int .u64 a.m.below, .int .u64 a.m.object, .string a.m.method, .int .i64 a.m.way, .string a.m.body]) Try.underlying43 rfl rfl rfl rfl Sl.au (by exact hc9)) ?_
                    refine L_new (.plain rfl) rfl rfl (r_alloca rfl) (fun w7 b13 hb13 eb7 hs7 c7 => ?_)
                    refine L_storerow (.plain rfl) rfl rfl Bk.au (by first | rfl | (simp; done) | assumption) (by first | rfl | assumption) (by first | exact six_one g1 g2 g3 | rfl | (simp [Value.oneCell']; done)) (fun w8 hb8 hs8 c8 => ?_)
                    refine L_nil ?_
                    refine W_seq ?_
                    refine W_seq ?_
                    refine W_region ?_
                    refine L_r (r_fieldb Try.underlying43 rfl (show _ = some 8 from rfl) rfl rfl (show _ = 1 from rfl)) ?_
                    refine L_r (r_fieldb Try.underlying33 rfl (show _ = some 1 from rfl) rfl rfl (show _ = 8 from rfl)) ?_
                    refine L_r (r_lb rfl rfl) ?_
                    refine L_r (r_lens Try.underlying9 rfl) ?_
                    refine L_r (r_gtr rfl rfl) ?_
                    refine L_r (r_mb rfl) ?_
                    refine L_case (d := 94) rfl (fun h94 => ?_) (fun h94 => ?_)
                    · refine L_ps ?_
                      refine L_ps ?_
                      refine L_ps ?_
                      refine L_ps ?_
                      refine L_ps ?_
                      refine L_r (r_pt rfl rfl) ?_
                      refine L_nil ?_
                      refine W_true rfl ?_
                      refine W_exit ?_
                      repeat (first | refine blk_hit ?_ | refine blk_miss rfl ?_)
                      refine ⟨⟨rfl, rfl, rfl, rfl, trivial⟩, Fx, Cx, Rx, vlx, vox, vrx, trivial, ?_⟩
                      subst hFx hCx hRx hvlx hvox hvrx
                      first
                      | exact ⟨by omega, by omega, hD.nw Ch.au, hRel, hLim.mono (by omega), hlife, Ch.au⟩
                      | exact ⟨by omega, by omega, hD3.nw Ch.au, hRel3, hLim3, hlife3, Ch.au⟩
                    · refine L_g (r_fieldb Try.underlying43 rfl (show _ = some 8 from rfl) rfl rfl (show _ = 1 from rfl)) ?_
                      refine L_g (r_fieldb Try.underlying33 rfl (show _ = some 1 from rfl) rfl rfl (show _ = 6 from rfl)) ?_
                      refine L_g (r_lb rfl rfl) ?_
                      refine L_g (r_lens Try.underlying9 rfl) ?_
                      refine L_g (r_gtr rfl rfl) ?_
                      refine L_r (r_pf rfl rfl) ?_
                      refine L_nil ?_
                      refine W_if rfl (fun h100 => ?_) (fun h100 => ?_)
                      · refine W_exit ?_
                        repeat (first | refine blk_hit ?_ | refine blk_miss rfl ?_)
                        refine ⟨⟨rfl, rfl, rfl, rfl, trivial⟩, Fx, Cx, Rx, vlx, vox, vrx, trivial, ?_⟩
                        subst hFx hCx hRx hvlx hvox hvrx
                        first
                        | exact ⟨by omega, by omega, hD.nw Ch.au, hRel, hLim.mono (by omega), hlife, Ch.au⟩
                        | exact ⟨by omega, by omega, hD3.nw Ch.au, hRel3, hLim3, hlife3, Ch.au⟩
                      · have hfew : a.m.body.size ≤ 9000 ∧ a.m.method.size ≤ 100 := by omega
                        refine W_skip ?_
                        refine W_seq ?_
                        refine W_seq ?_
                        refine W_region ?_
                        refine L_r (r_fieldb Try.underlying43 rfl (show _ = some 1 from rfl) rfl rfl (show _ = 0 from rfl)) ?_
                        refine L_r (r_lb rfl rfl) ?_
                        refine L_nil ?_
                        refine W_endF [3, 9, 11, 12] (fun f W => ∃ (F3 : Nat → Prop) (C3 : Cal) (R3 : RCal) (vl3 vo3 vr3 : Value), True ∧ (DX w0.heap.size F3 W b b11 C3 R3 vl3 vo3 vr3 ∧ Rel C3 R3 ∧ C3.Lim (i + 1) ∧ R3.life = life ∧ Nw w0 W)) ?_ ?_
                        · refine W_block ?_
                          refine W_seq ?_
                          refine W_region ?_
                          refine L_r (r_eql rfl rfl) ?_
                          refine L_r (r_ab rfl) ?_
                          refine L_nil ?_
                          refine W_if rfl (fun h103 => ?_) (fun h103 => ?_)
                          · refine W_seq ?_
                            refine W_region ?_
                            refine L_r (r_loadrow Try.underlying41 rfl rfl Bk.au (by first | rfl | assumption)) ?_
                            refine L_r (r_fieldb Try.underlying43 rfl (show _ = some 8 from rfl) rfl rfl (show _ = 1 from rfl)) ?_
                            refine L_r (r_fieldb Try.underlying33 rfl (show _ = some 1 from rfl) rfl rfl (show _ = 5 from rfl)) ?_
                            refine L_r (r_lb rfl rfl) ?_
                            refine L_r (r_fieldb Try.underlying43 rfl (show _ = some 8 from rfl) rfl rfl (show _ = 1 from rfl)) ?_
                            refine L_r (r_fieldb Try.underlying33 rfl (show _ = some 1 from rfl) rfl rfl (show _ = 6 from rfl)) ?_
                            refine L_r (r_lb rfl rfl) ?_
                            refine L_r (r_fieldb Try.underlying43 rfl (show _ = some 8 from rfl) rfl rfl (show _ = 1 from rfl)) ?_
                            refine L_r (r_fieldb Try.underlying33 rfl (show _ = some 1 from rfl) rfl rfl (show _ = 8 from rfl)) ?_
                            refine L_r (r_lb rfl rfl) ?_
                            refine L_call (.plain rfl) rfl rfl (r_call Try.func16 rfl rfl rfl (by rfl)) (rbegin_walk w0.heap.size vl vo vr R a.m.object a.m.method a.m.body _ (hD.r.nw Ch.au) (by omega) hao.object (by omega) (by omega) (by omega) (by omega)) ?_
                            rintro v116 w9 ⟨vl', vo', rfl, hA', hw', c9⟩
                            have hz9 := c9.size
                            clear g1 g2 g3
                            have g1 := sl_one hA'.l.sl
                            have g2 := sl_one hA'.o.sl
                            have g3 := sl_one hA'.r.sl
                            refine L_r (r_mv) ?_
                            refine L_r (r_ext3_0 rfl) ?_
                            refine L_r (r_ext3_1 rfl) ?_
                            refine L_r (r_ext3_2 rfl) ?_
                            refine L_new (.plain rfl) rfl rfl (r_alloca rfl) (fun w10 b14 hb14 eb10 hs10 c10 => ?_)
                            have hA1 := hA'.nw (w' := w10) Ch.au
                            have hb14' := hb14
                            refine L_storerow (.plain rfl) rfl rfl Bk.au (by first | rfl | (simp; done) | assumption) (by first | rfl | assumption) (by first | exact six_one g1 g2 g3 | rfl | (simp [Value.oneCell']; done)) (fun w11 hb11 hs11 c11 => ?_)
                            have hA2 := hA1.st (w' := w11) hb14' Ch.au (by decide) (by decide) (by decide)
                            refine L_r (r_ai rfl) ?_
                            refine L_r (r_ai rfl) ?_
                            refine L_nil ?_
                            refine W_seq ?_
                            refine W_region ?_
                            refine L_r (r_loadrow Try.underlying41 rfl rfl Bk.au (by first | rfl | assumption)) ?_
                            have hA3 := hA2.nw (w' := w11) Ch.au
                            refine L_storerow (.plain rfl) rfl rfl Bk.au (by first | rfl | (simp; done) | assumption) (by first | rfl | assumption) (by first | exact six_one g1 g2 g3 | rfl | (simp [Value.oneCell']; done)) (fun w12 hb12 hs12 c12 => ?_)
                            have hD1 := hD.doc (w2 := w12) hA3 Ch.au (fun j hj => (hw' j hj).elim .inl (fun h => .inr (by omega))) Ch.au Bk.au
                            refine L_nil ?_
                            refine W_seq ?_
                            refine W_region ?_
                            refine L_r (r_mp rfl) ?_
                            refine L_r (r_fieldb Try.underlying43 rfl (show _ = some 8 from rfl) rfl rfl (show _ = 1 from rfl)) ?_
                            refine L_r (r_fieldb Try.underlying33 rfl (show _ = some 1 from rfl) rfl rfl (show _ = 5 from rfl)) ?_
                            refine L_r (r_lb rfl rfl) ?_
                            refine L_r (r_fieldb Try.underlying43 rfl (show _ = some 8 from rfl) rfl rfl (show _ = 1 from rfl)) ?_
                            refine L_r (r_fieldb Try.underlying33 rfl (show _ = some 1 from rfl) rfl rfl (show _ = 6 from rfl)) ?_
                            refine L_r (r_lb rfl rfl) ?_
                            refine L_r (r_fieldb Try.underlying43 rfl (show _ = some 8 from rfl) rfl rfl (show _ = 1 from rfl)) ?_
                            refine L_r (r_fieldb Try.underlying33 rfl (show _ = some 1 from rfl) rfl rfl (show _ = 8 from rfl)) ?_
                            refine L_r (r_lb rfl rfl) ?_
                            refine L_call (.plain rfl) rfl rfl (r_call Try.func11 rfl rfl rfl (by rfl)) (call_use _ F b i C a.m.object a.m.method a.m.body _ (hD1.x.nw Ch.au) hLim (by omega) (by omega)) ?_
                            rintro v132 w13 ⟨F', rfl, hX', hLim2, hF', c13⟩
                            have hz13 := c13.size
                            have hD2 := (hD1.nw (w' := w12) Ch.au).call hX' hF' c13
                            obtain ⟨hRel2, hEq⟩ := hRel.call_ a.m.object a.m.method a.m.body
                            have hlife2 : (beginR R a.m.object a.m.method a.m.body).1.life = life := by rw [begin_life]; exact hlife
                            clear hFx hCx hRx hvlx hvox
                            obtain ⟨Fx, hFx⟩ : ∃ x, x = F' := ⟨_, rfl⟩
                            obtain ⟨Cx, hCx⟩ : ∃ x, x = (callC C a.m.object a.m.method a.m.body).1 := ⟨_, rfl⟩
                            obtain ⟨Rx, hRx⟩ : ∃ x, x = (beginR R a.m.object a.m.method a.m.body).1 := ⟨_, rfl⟩
                            obtain ⟨vlx, hvlx⟩ : ∃ x, x = vl' := ⟨_, rfl⟩
                            obtain ⟨vox, hvox⟩ : ∃ x, x = vo' := ⟨_, rfl⟩
                            refine L_r (r_mv) ?_
                            refine L_r (r_ext2_0 rfl) ?_
                            refine L_r (r_ext2_1 rfl) ?_
                            refine L_r (r_ai rfl) ?_
                            refine L_r (r_ai rfl) ?_
                            refine L_nil ?_
                            refine W_seq ?_
                            refine W_region ?_
                            refine L_r (r_mi rfl) ?_
                            refine L_r (r_mi rfl) ?_
                            refine L_r (r_neq rfl rfl) ?_
                            refine L_r (r_mb rfl) ?_
                            refine L_case (d := 138) rfl (fun h138 => ?_) (fun h138 => ?_)
                            · exact absurd (by rw [hEq]) h138
                            · refine L_g (r_mi rfl) ?_
                              refine L_g (r_mi rfl) ?_
                              refine L_g (r_neq rfl rfl) ?_
                              refine L_r (r_pf rfl rfl) ?_
                              refine L_nil ?_
                              refine W_if rfl (fun h142 => ?_) (fun h142 => ?_)
                              · exact absurd (by rw [hEq]) h142
                              · refine W_skip ?_
                                refine ⟨⟨rfl, rfl, rfl, rfl, trivial⟩, Fx, Cx, Rx, vlx, vox, vrx, trivial, ?_⟩
                                subst hFx hCx hRx hvlx hvox hvrx
                                first
                                | exact ⟨hD.nw Ch.au, hRel, hLim.mono (by omega), hlife, Ch.au⟩
                                | exact ⟨hD2.nw Ch.au, hRel2, hLim2, hlife2, Ch.au⟩
                          · refine W_seq ?_
                            refine W_region ?_
                            refine L_r (r_eql rfl rfl) ?_
                            refine L_r (r_ab rfl) ?_
                            refine L_nil ?_
                            refine W_if rfl (fun h143 => ?_) (fun h143 => ?_)
                            · refine W_seq ?_
                              refine W_region ?_
                              refine L_r (r_loadrow Try.underlying41 rfl rfl Bk.au (by first | rfl | assumption)) ?_
                              refine L_call (.plain rfl) rfl rfl (r_call Try.func17 rfl rfl rfl (by rfl)) (rtick_walk w0.heap.size vl vo vr R _ (hD.r.nw Ch.au) (hRel.cnt hD.x.good) (by omega) (by omega) (by omega) (by omega)) ?_
                              rintro v146 w14 ⟨vl', vo', vr', rfl, hA', hw', c14⟩
                              have hz14 := c14.size
                              clear g1 g2 g3
                              have g1 := sl_one hA'.l.sl
                              have g2 := sl_one hA'.o.sl
                              have g3 := sl_one hA'.r.sl
                              have hA3 := hA'.nw (w' := w14) Ch.au
                              refine L_storerow (.plain rfl) rfl rfl Bk.au (by first | rfl | (simp; done) | assumption) (by first | rfl | assumption) (by first | exact six_one g1 g2 g3 | rfl | (simp [Value.oneCell']; done)) (fun w15 hb15 hs15 c15 => ?_)
                              have hD1 := hD.doc (w2 := w15) hA3 Ch.au (fun j hj => (hw' j hj).elim .inl (fun h => .inr (by omega))) Ch.au Bk.au
                              refine L_nil ?_
                              refine W_region ?_
                              refine L_r (r_mp rfl) ?_
                              refine L_call (.plain rfl) rfl rfl (r_call Try.func14 rfl rfl rfl (by rfl)) (tick_use _ F b i C _ (hD1.x.nw Ch.au) hLim (by omega) (by omega)) ?_
                              rintro v148 w16 ⟨F', rfl, hX', hLim2, hF', c16⟩
                              have hz16 := c16.size
                              have hD2 := (hD1.nw (w' := w15) Ch.au).call hX' hF' c16
                              have hRel2 := hRel.tick_
                              have hlife2 : (rtick R).life = life := by rw [← hlife]; exact (rtickN_facts R R.L.length).2.1
                              clear hFx hCx hRx hvlx hvox hvrx
                              obtain ⟨Fx, hFx⟩ : ∃ x, x = F' := ⟨_, rfl⟩
                              obtain ⟨Cx, hCx⟩ : ∃ x, x = tick C := ⟨_, rfl⟩
                              obtain ⟨Rx, hRx⟩ : ∃ x, x = rtick R := ⟨_, rfl⟩
                              obtain ⟨vlx, hvlx⟩ : ∃ x, x = vl' := ⟨_, rfl⟩
                              obtain ⟨vox, hvox⟩ : ∃ x, x = vo' := ⟨_, rfl⟩
                              obtain ⟨vrx, hvrx⟩ : ∃ x, x = vr' := ⟨_, rfl⟩
                              refine L_nil ?_
                              refine ⟨⟨rfl, rfl, rfl, rfl, trivial⟩, Fx, Cx, Rx, vlx, vox, vrx, trivial, ?_⟩
                              subst hFx hCx hRx hvlx hvox hvrx
                              first
                              | exact ⟨hD.nw Ch.au, hRel, hLim.mono (by omega), hlife, Ch.au⟩
                              | exact ⟨hD2.nw Ch.au, hRel2, hLim2, hlife2, Ch.au⟩
                            · refine W_seq ?_
                              refine W_region ?_
                              refine L_r (r_eql rfl rfl) ?_
                              refine L_r (r_ab rfl) ?_
                              refine L_nil ?_
                              refine W_if rfl (fun h149 => ?_) (fun h149 => ?_)
                              · refine W_seq ?_
                                refine W_region ?_
                                refine L_r (r_loadrow Try.underlying41 rfl rfl Bk.au (by first | rfl | assumption)) ?_
                                refine L_r (r_fieldb Try.underlying43 rfl (show _ = some 8 from rfl) rfl rfl (show _ = 1 from rfl)) ?_
                                refine L_r (r_loadsub (us := [.int _ _, .int _ _, .int _ _, .int _ _, .int _ _, .string _, .int _ _, .string _]) Try.underlying33 rfl (show _ = some 8 from rfl) rfl Bk.au rfl rfl) ?_
                                refine L_call (.plain rfl) rfl rfl (r_call Try.func18 rfl rfl rfl (by rfl)) (rrecv_walk w0.heap.size vl vo vr R a.m _ (hD.r.nw Ch.au) hao (by omega) (by omega) (by omega) (by omega)) ?_
                                rintro v155 w17 ⟨vl', vr', R', ok, rfl, hRR, hA', hw', c17⟩
                                have hz17 := c17.size
                                clear g1 g2 g3
                                have g1 := sl_one hA'.l.sl
                                have g2 := sl_one hA'.o.sl
                                have g3 := sl_one hA'.r.sl
                                refine L_r (r_mv) ?_
                                refine L_r (r_ext2_0 rfl) ?_
                                refine L_r (r_ext2_1 rfl) ?_
                                refine L_new (.plain rfl) rfl rfl (r_alloca rfl) (fun w18 b19 hb19 eb18 hs18 c18 => ?_)
                                have hA1 := hA'.nw (w' := w18) Ch.au
                                have hb19' := hb19
                                refine L_storerow (.plain rfl) rfl rfl Bk.au (by first | rfl | (simp; done) | assumption) (by first | rfl | assumption) (by first | exact six_one g1 g2 g3 | rfl | (simp [Value.oneCell']; done)) (fun w19 hb19 hs19 c19 => ?_)
                                have hA2 := hA1.st (w' := w19) hb19' Ch.au (by decide) (by decide) (by decide)
                                refine L_r (r_ab rfl) ?_
                                refine L_nil ?_
                                refine W_seq ?_
                                refine W_region ?_
                                refine L_r (r_loadrow Try.underlying41 rfl rfl Bk.au (by first | rfl | assumption)) ?_
                                have hA3 := hA2.nw (w' := w19) Ch.au
                                refine L_storerow (.plain rfl) rfl rfl Bk.au (by first | rfl | (simp; done) | assumption) (by first | rfl | assumption) (by first | exact six_one g1 g2 g3 | rfl | (simp [Value.oneCell']; done)) (fun w20 hb20 hs20 c20 => ?_)
                                have hD1 := hD.doc (w2 := w20) hA3 Ch.au (fun j hj => (hw' j hj).elim .inl (fun h => .inr (by omega))) Ch.au Bk.au
                                refine L_nil ?_
                                refine W_seq ?_
                                refine W_region ?_
                                refine L_r (r_mp rfl) ?_
                                refine L_r (r_fieldb Try.underlying43 rfl (show _ = some 8 from rfl) rfl rfl (show _ = 1 from rfl)) ?_
                                refine L_r (r_loadsub (us := [.int _ _, .int _ _, .int _ _, .int _ _, .int _ _, .string _, .int _ _, .string _]) Try.underlying33 rfl (show _ = some 8 from rfl) rfl Bk.au rfl rfl) ?_
                                refine L_call (.plain rfl) rfl rfl (r_call Try.func19 rfl rfl rfl (by rfl)) (recv_use _ F b i C a.m _ (hD1.x.nw Ch.au) hLim (by omega) (by omega)) ?_
                                rintro v162 w21 ⟨F', rfl, hX', hLim2, hF', c21⟩
                                have hz21 := c21.size
                                have hD2 := (hD1.nw (w' := w20) Ch.au).call hX' hF' c21
                                obtain ⟨hRel2, hEq⟩ := hRel.recv_ hRR
                                have hlife2 : R'.life = life := by rw [recv_life hRR]; exact hlife
                                clear hFx hCx hRx hvlx hvrx
                                obtain ⟨Fx, hFx⟩ : ∃ x, x = F' := ⟨_, rfl⟩
                                obtain ⟨Cx, hCx⟩ : ∃ x, x = (recvC C a.m).1 := ⟨_, rfl⟩
                                obtain ⟨Rx, hRx⟩ : ∃ x, x = R' := ⟨_, rfl⟩
                                obtain ⟨vlx, hvlx⟩ : ∃ x, x = vl' := ⟨_, rfl⟩
                                obtain ⟨vrx, hvrx⟩ : ∃ x, x = vr' := ⟨_, rfl⟩
                                refine L_r (r_mb rfl) ?_
                                refine L_r (r_neqb Try.underlying4 rfl rfl) ?_
                                refine L_nil ?_
                                refine W_if rfl (fun h164 => ?_) (fun h164 => ?_)
                                · exact absurd hEq h164
                                · refine W_skip ?_
                                  refine ⟨⟨rfl, rfl, rfl, rfl, trivial⟩, Fx, Cx, Rx, vlx, vox, vrx, trivial, ?_⟩
                                  subst hFx hCx hRx hvlx hvox hvrx
                                  first
                                  | exact ⟨hD.nw Ch.au, hRel, hLim.mono (by omega), hlife, Ch.au⟩
                                  | exact ⟨hD2.nw Ch.au, hRel2, hLim2, hlife2, Ch.au⟩
                              · refine W_seq ?_
                                refine W_region ?_
                                refine L_r (r_eql rfl rfl) ?_
                                refine L_r (r_ab rfl) ?_
                                refine L_nil ?_
                                refine W_if rfl (fun h165 => ?_) (fun h165 => ?_)
                                · refine W_seq ?_
                                  refine W_seq ?_
                                  refine W_draw (fun W => Bk W b11 (R.row vl vo vr) 41) 6 (m := 6) (by kernel_rfl) rfl (fun w22 c22 hs22 => ?_)
                                  refine held Bk.au (fun hS => ?_)
                                  refine D_t 0 rfl (fun W hW => r_mp rfl) ?_
                                  refine D_t 2 rfl (fun W hW => r_fieldb Try.underlying41 rfl (show _ = some 1 from rfl) rfl rfl (show _ = 4 from rfl)) ?_
                                  refine D_t 3 rfl (fun W hW => r_loadb rfl rfl (by exact hW) (by first | assumption | (conv => lhs; simp only [List.getElem?_toArray, List.getElem?_cons_succ, List.getElem?_cons_zero]))) ?_
                                  refine D_ev 1 (by kernel_rfl) rfl ?_
                                  refine L_call (.plain rfl) rfl rfl (r_call Try.func12 rfl rfl rfl (by rfl)) (out_use _ F b C _ (hD.x.nw Ch.au)) ?_
                                  rintro v168 w23 ⟨v5, F', rfl, hO5, hX', hF', hd', c23⟩
                                  have hz23 := c23.size
                                  have hq5 := hO5.sl
                                  have hr5 := (hD.nw (w' := w22) Ch.au).call hX' (fun j hj => .inl (hF' j hj)) c23
                                  have hro := hr5.r.o.sl
                                  have hLim2 := (hLim.mono (Nat.le_succ i)).out0
                                  rw [hRel.out] at hq5
                                  refine L_nil ?_
                                  refine heldK Bk.au (fun hS => ?_)
                                  refine D_ev 4 (by kernel_rfl) rfl ?_
                                  refine L_call (.plain rfl) rfl rfl (r_call Try.func20 rfl rfl rfl (by rfl)) (samem_walk _ _ R.out _ Sl.au Sl.au (by omega)) ?_
                                  rintro v171 w24 ⟨rfl, c24⟩
                                  have hz24 := c24.size
                                  refine L_nil ?_
                                  refine heldK Bk.au (fun hS => ?_)
                                  refine D_t 5 rfl (fun W hW => r_not rfl) ?_
                                  refine D_as (v := .bool _) (v' := .bool false) 172 rfl (congrArg Value.bool (by rfl)) ?_
                                  refine D_done (by kernel_rfl) ?_
                                  refine W_false rfl ?_
                                  refine W_skip ?_
                                  refine W_region ?_
                                  refine L_r (r_fieldb Try.underlying41 rfl (show _ = some 1 from rfl) rfl rfl (show _ = 4 from rfl)) ?_
                                  have hA3 : RcAt w0.heap.size w24 vl (.slice none 0 0) vr { R with out := [] } := ⟨(hr5.r.nw (w' := w24) Ch.au).l, Ow.nil _ _ _ _, (hr5.r.nw (w' := w24) Ch.au).r⟩
                                  refine L_set (.plain rfl) rfl Bk.au (r_store rfl rfl (by conv => lhs; whnf) (by first | rfl | exact ow_one (by assumption) | exact own_one (by assumption) | exact sl_one (by assumption)) Bk.au (by first | decide | (simp; done) | omega)) (fun w25 hb25 hs25 c25 => ?_)
                                  try simp only [List.setIfInBounds_toArray, List.set_cons_zero, List.set_cons_succ] at hb25
                                  have hD2 := hr5.doc (w2 := w25) hA3 Ch.au (by rintro j (e | e | e); exact .inl (.inl e); exact absurd e (by simp [Value.ownBlock]); exact .inl (.inr (.inr e))) Ch.au Bk.au
                                  have hRel2 : Rel { C with out := [] } { R with out := [] } := ⟨hRel.life, hRel.wait, hRel.most, hRel.last, hRel.op, rfl, hRel.res⟩
                                  have hlife2 : ({ R with out := [] } : RCal).life = life := hlife
                                  clear hFx hCx hRx hvox
                                  obtain ⟨Fx, hFx⟩ : ∃ x, x = F' := ⟨_, rfl⟩
                                  obtain ⟨Cx, hCx⟩ : ∃ x, x = ({ C with out := [] } : Cal) := ⟨_, rfl⟩
                                  obtain ⟨Rx, hRx⟩ : ∃ x, x = ({ R with out := [] } : RCal) := ⟨_, rfl⟩
                                  obtain ⟨vox, hvox⟩ : ∃ x, x = Value.slice none 0 0 := ⟨_, rfl⟩
                                  refine L_nil ?_
                                  refine ⟨⟨rfl, rfl, rfl, rfl, trivial⟩, Fx, Cx, Rx, vlx, vox, vrx, trivial, ?_⟩
                                  subst hFx hCx hRx hvlx hvox hvrx
                                  first
                                  | exact ⟨hD.nw Ch.au, hRel, hLim.mono (by omega), hlife, Ch.au⟩
                                  | exact ⟨hD2.nw Ch.au, hRel2, hLim2, hlife2, Ch.au⟩
                                · refine W_skip ?_
                                  refine ⟨⟨rfl, rfl, rfl, rfl, trivial⟩, Fx, Cx, Rx, vlx, vox, vrx, trivial, ?_⟩
                                  subst hFx hCx hRx hvlx hvox hvrx
                                  first
                                  | exact ⟨hD.nw Ch.au, hRel, hLim.mono (by omega), hlife, Ch.au⟩
                                  | exact ⟨hD2.nw Ch.au, hRel2, hLim2, hlife2, Ch.au⟩
                        rintro gcb2 w26 ⟨F3, C3, R3, vl3, vo3, vr3, -, hCb2⟩
                        obtain ⟨hD3, hRel3, hLim3, hlife3, hnw3⟩ := hCb2
                        have hz3 := hnw3.size
                        have hk3 := hD3.k
                        have hno3 := hD3.no
                        have r2 := hLim3.2.1
                        have r1 := hLim3.1
                        have r5 := hRel3.last
                        have r6 := hRel3.len
                        have r7 := hRel3.below
                        clear hFx hCx hRx hvlx hvox hvrx
                        obtain ⟨Fx, hFx⟩ : ∃ x, x = F3 := ⟨_, rfl⟩
                        obtain ⟨Cx, hCx⟩ : ∃ x, x = C3 := ⟨_, rfl⟩
                        obtain ⟨Rx, hRx⟩ : ∃ x, x = R3 := ⟨_, rfl⟩
                        obtain ⟨vlx, hvlx⟩ : ∃ x, x = vl3 := ⟨_, rfl⟩
                        obtain ⟨vox, hvox⟩ : ∃ x, x = vo3 := ⟨_, rfl⟩
                        obtain ⟨vrx, hvrx⟩ : ∃ x, x = vr3 := ⟨_, rfl⟩
                        refine W_seq ?_
                        refine W_draw (fun W => Bk W b11 (R3.row vl3 vo3 vr3) 41) 12 (m := 12) (by kernel_rfl) rfl (fun w27 c27 hs27 => ?_)
                        refine held Bk.au (fun hS => ?_)
                        refine D_t 0 rfl (fun W hW => r_mp rfl) ?_
                        refine D_t 2 rfl (fun W hW => r_loadrow Try.underlying41 rfl rfl (by exact hW) (by first | rfl | assumption)) ?_
                        refine D_ev 1 (by kernel_rfl) rfl ?_
                        refine L_call (.plain rfl) rfl rfl (r_call Try.func21 rfl rfl rfl (by rfl)) (open_use _ F3 b C3 _ (hD3.x.nw Ch.au)) ?_
                        rintro v175 w28 ⟨rfl, rfl⟩
                        refine L_nil ?_
                        refine heldK Bk.au (fun hS => ?_)
                        refine D_ev 3 (by kernel_rfl) rfl ?_
                        refine L_call (.plain rfl) rfl rfl (r_call Try.func22 rfl rfl rfl (by rfl)) (ropen_walk w0.heap.size vl3 vo3 vr3 R3 _ (hD3.r.nw Ch.au) (by omega)) ?_
                        rintro v177 w29 ⟨rfl, c29⟩
                        have hz29 := c29.size
                        refine L_nil ?_
                        refine heldK Bk.au (fun hS => ?_)
                        refine D_t 4 rfl (fun W hW => r_neq rfl rfl) ?_
                        refine D_t 5 rfl (fun W hW => r_mb rfl) ?_
                        refine D_case (d := 179) rfl (fun h179 => ?_) (fun h179 => ?_)
                        · exact absurd (by rw [r6]) h179
                        · refine D_g 6 rfl (fun W hW => r_mp rfl) ?_
                          refine D_g 8 rfl (fun W hW => r_loadrow Try.underlying41 rfl rfl (by exact hW) (by first | rfl | assumption)) ?_
                          refine D_ev 7 (by kernel_rfl) rfl ?_
                          refine L_call (.yes 5 false rfl rfl) rfl rfl (r_call Try.func23 rfl rfl rfl (by rfl)) (below_x _ F3 b C3 _ (hD3.x.nw Ch.au) (by omega)) ?_
                          rintro v181 w30 ⟨rfl, c30⟩
                          have hz30 := c30.size
                          refine L_nil ?_
                          refine heldK Bk.au (fun hS => ?_)
                          refine D_ev 9 (by kernel_rfl) rfl ?_
                          refine L_call (.yes 5 false rfl rfl) rfl rfl (r_call Try.func24 rfl rfl rfl (by rfl)) (rbelow_walk w0.heap.size vl3 vo3 vr3 R3 _ (hD3.r.nw Ch.au) (by omega)) ?_
                          rintro v183 w31 ⟨rfl, c31⟩
                          have hz31 := c31.size
                          refine L_nil ?_
                          refine heldK Bk.au (fun hS => ?_)
                          refine D_g 10 rfl (fun W hW => r_neq rfl rfl) ?_
                          refine D_t 11 rfl (fun W hW => r_pf rfl rfl) ?_
                          refine D_done (by kernel_rfl) ?_
                          refine W_if rfl (fun h185 => ?_) (fun h185 => ?_)
                          · exact absurd r7 h185
                          · refine W_skip ?_
                            refine ⟨⟨rfl, rfl, rfl, rfl, trivial⟩, Fx, Cx, Rx, vlx, vox, vrx, trivial, ?_⟩
                            subst hFx hCx hRx hvlx hvox hvrx
                            first
                            | exact ⟨by omega, by omega, hD.nw Ch.au, hRel, hLim.mono (by omega), hlife, Ch.au⟩
                            | exact ⟨by omega, by omega, hD3.nw Ch.au, hRel3, hLim3, hlife3, Ch.au⟩
                  rintro gcb1 w32 ⟨F2, C2, R2, vl2, vo2, vr2, -, hCb1⟩
                  refine W_region ?_
                  refine L_r (r_mi rfl) ?_
                  refine L_r (r_add rfl rfl (by first | exact wr_i64 (by omega) | rfl)) ?_
                  refine L_r (r_ai rfl) ?_
                  refine L_nil ?_
                  refine ⟨⟨rfl, rfl, rfl, trivial⟩, _, ?_, i + 1, F2, C2, R2, vl2, vo2, vr2, rfl, ?_, rfl⟩
                  · omega
                  exact hCb1
                · refine W_exit ?_
                  repeat (first | refine blk_hit ?_ | refine blk_miss rfl ?_)
                  refine W_seq ?_
                  refine W_draw (fun W => Bk W b11 (R.row vl vo vr) 41) 13 (m := 13) (by kernel_rfl) rfl (fun w33 c33 hs33 => ?_)
                  refine held Bk.au (fun hS => ?_)
                  refine D_t 0 rfl (fun W hW => r_mp rfl) ?_
                  refine D_t 2 rfl (fun W hW => r_fieldb Try.underlying41 rfl (show _ = some 1 from rfl) rfl rfl (show _ = 5 from rfl)) ?_
                  refine D_t 3 rfl (fun W hW => r_loadb rfl rfl (by exact hW) (by first | assumption | (conv => lhs; simp only [List.getElem?_toArray, List.getElem?_cons_succ, List.getElem?_cons_zero]))) ?_
                  refine D_ev 1 (by kernel_rfl) rfl ?_
                  refine L_call (.plain rfl) rfl rfl (r_call Try.func13 rfl rfl rfl (by rfl)) (results_use _ F b C _ (hD.x.nw Ch.au) (by omega)) ?_
                  rintro v187 w34 ⟨v6, rfl, hO6, c34⟩
                  have hz34 := c34.size
                  have hq6 := hO6.sl
                  rw [hRel.res] at hq6
                  have hr6 := hD.r.r.sl
                  refine L_nil ?_
                  refine heldK Bk.au (fun hS => ?_)
                  refine D_ev 4 (by kernel_rfl) rfl ?_
                  refine L_call (.plain rfl) rfl rfl (r_call Try.func25 rfl rfl rfl (by rfl)) (samer_walk _ _ R.res _ Sl.au Sl.au (by omega)) ?_
                  rintro v190 w35 ⟨rfl, c35⟩
                  have hz35 := c35.size
                  refine L_nil ?_
                  refine heldK Bk.au (fun hS => ?_)
                  refine D_as (v := .bool _) (v' := .bool true) 190 rfl (congrArg Value.bool (by rfl)) ?_
                  refine D_t 5 rfl (fun W hW => r_mb rfl) ?_
                  refine D_g 6 rfl (fun W hW => r_mp rfl) ?_
                  refine D_g 8 rfl (fun W hW => r_fieldb Try.underlying41 rfl (show _ = some 1 from rfl) rfl rfl (show _ = 4 from rfl)) ?_
                  refine D_g 9 rfl (fun W hW => r_loadb rfl rfl (by exact hW) (by first | assumption | (conv => lhs; simp only [List.getElem?_toArray, List.getElem?_cons_succ, List.getElem?_cons_zero]))) ?_
                  refine D_ev 7 (by kernel_rfl) rfl ?_
                  refine L_call (.yes 5 true rfl rfl) rfl rfl (r_call Try.func12 rfl rfl rfl (by rfl)) (out_use _ F b C _ (hD.x.nw Ch.au)) ?_
                  rintro v193 w36 ⟨v5, F', rfl, hO5, hX', hF', hd', c36⟩
                  have hz36 := c36.size
                  have hq5 := hO5.sl
                  have hr5 := (hD.nw (w' := w35) Ch.au).call hX' (fun j hj => .inl (hF' j hj)) c36
                  have hro := hr5.r.o.sl
                  have hLim2 := (hLim.mono (Nat.le_succ i)).out0
                  rw [hRel.out] at hq5
                  refine L_nil ?_
                  refine heldK Bk.au (fun hS => ?_)
                  refine D_ev 10 (by kernel_rfl) rfl ?_
                  refine L_call (.yes 5 true rfl rfl) rfl rfl (r_call Try.func20 rfl rfl rfl (by rfl)) (samem_walk _ _ R.out _ Sl.au Sl.au (by omega)) ?_
                  rintro v196 w37 ⟨rfl, c37⟩
                  have hz37 := c37.size
                  refine L_nil ?_
                  refine heldK Bk.au (fun hS => ?_)
                  refine D_as (v := .bool _) (v' := .bool true) 196 rfl (congrArg Value.bool (by rfl)) ?_
                  refine D_t 11 rfl (fun W hW => r_pt rfl rfl) ?_
                  refine D_t 12 rfl (fun W hW => r_ab rfl) ?_
                  refine D_done (by kernel_rfl) ?_
                  refine W_ret ?_
                  refine ret1 (v := .bool _) rfl rfl ?_
                  exact ⟨rfl, Ch.au⟩
              · refine L_ps ?_
                refine L_ps ?_
                refine L_r (r_pf rfl rfl) ?_
                refine L_nil ?_
                refine W_false rfl ?_
                refine W_exit ?_
                repeat (first | refine blk_hit ?_ | refine blk_miss rfl ?_)
                refine W_seq ?_
                refine W_draw (fun W => Bk W b11 (R.row vl vo vr) 41) 13 (m := 13) (by kernel_rfl) rfl (fun w38 c38 hs38 => ?_)
                refine held Bk.au (fun hS => ?_)
                refine D_t 0 rfl (fun W hW => r_mp rfl) ?_
                refine D_t 2 rfl (fun W hW => r_fieldb Try.underlying41 rfl (show _ = some 1 from rfl) rfl rfl (show _ = 5 from rfl)) ?_
                refine D_t 3 rfl (fun W hW => r_loadb rfl rfl (by exact hW) (by first | assumption | (conv => lhs; simp only [List.getElem?_toArray, List.getElem?_cons_succ, List.getElem?_cons_zero]))) ?_
                refine D_ev 1 (by kernel_rfl) rfl ?_
                refine L_call (.plain rfl) rfl rfl (r_call Try.func13 rfl rfl rfl (by rfl)) (results_use _ F b C _ (hD.x.nw Ch.au) (by omega)) ?_
                rintro v187 w39 ⟨v6, rfl, hO6, c39⟩
                have hz39 := c39.size
                have hq6 := hO6.sl
                rw [hRel.res] at hq6
                have hr6 := hD.r.r.sl
                refine L_nil ?_
                refine heldK Bk.au (fun hS => ?_)
                refine D_ev 4 (by kernel_rfl) rfl ?_
                refine L_call (.plain rfl) rfl rfl (r_call Try.func25 rfl rfl rfl (by rfl)) (samer_walk _ _ R.res _ Sl.au Sl.au (by omega)) ?_
                rintro v190 w40 ⟨rfl, c40⟩
                have hz40 := c40.size
                refine L_nil ?_
                refine heldK Bk.au (fun hS => ?_)
                refine D_as (v := .bool _) (v' := .bool true) 190 rfl (congrArg Value.bool (by rfl)) ?_
                refine D_t 5 rfl (fun W hW => r_mb rfl) ?_
                refine D_g 6 rfl (fun W hW => r_mp rfl) ?_
                refine D_g 8 rfl (fun W hW => r_fieldb Try.underlying41 rfl (show _ = some 1 from rfl) rfl rfl (show _ = 4 from rfl)) ?_
                refine D_g 9 rfl (fun W hW => r_loadb rfl rfl (by exact hW) (by first | assumption | (conv => lhs; simp only [List.getElem?_toArray, List.getElem?_cons_succ, List.getElem?_cons_zero]))) ?_
                refine D_ev 7 (by kernel_rfl) rfl ?_
                refine L_call (.yes 5 true rfl rfl) rfl rfl (r_call Try.func12 rfl rfl rfl (by rfl)) (out_use _ F b C _ (hD.x.nw Ch.au)) ?_
                rintro v193 w41 ⟨v5, F', rfl, hO5, hX', hF', hd', c41⟩
                have hz41 := c41.size
                have hq5 := hO5.sl
                have hr5 := (hD.nw (w' := w40) Ch.au).call hX' (fun j hj => .inl (hF' j hj)) c41
                have hro := hr5.r.o.sl
                have hLim2 := (hLim.mono (Nat.le_succ i)).out0
                rw [hRel.out] at hq5
                refine L_nil ?_
                refine heldK Bk.au (fun hS => ?_)
                refine D_ev 10 (by kernel_rfl) rfl ?_
                refine L_call (.yes 5 true rfl rfl) rfl rfl (r_call Try.func20 rfl rfl rfl (by rfl)) (samem_walk _ _ R.out _ Sl.au Sl.au (by omega)) ?_
                rintro v196 w42 ⟨rfl, c42⟩
                have hz42 := c42.size
                refine L_nil ?_
                refine heldK Bk.au (fun hS => ?_)
                refine D_as (v := .bool _) (v' := .bool true) 196 rfl (congrArg Value.bool (by rfl)) ?_
                refine D_t 11 rfl (fun W hW => r_pt rfl rfl) ?_
                refine D_t 12 rfl (fun W hW => r_ab rfl) ?_
                refine D_done (by kernel_rfl) ?_
                refine W_ret ?_
                refine ret1 (v := .bool _) rfl rfl ?_
                exact ⟨rfl, Ch.au⟩
theorem CallerPlays_walk (life wait most : Int) (v1 : Value) (z : List SAct) (w0 : World) (y0 : 0 ≤ life ∧ life ≤ 18446744073709551615) (_ : -9223372036854775808 ≤ wait ∧ wait ≤ 9223372036854775807) (_ : -9223372036854775808 ≤ most ∧ most ≤ 9223372036854775807) (y1 : Sl w0 v1 9 z.length (cellsS z) ∧ ∀ a ∈ z, a.m.ok) :
    Does Try.prog 4 #[.int .u64 life, .int .i64 wait, .int .i64 most, v1] w0 (fun r w' => r = .bool true ∧ Nw w0 w') := by
  by_cases hn : life = 0 ∨ wait < 1 ∨ 1000 < wait ∨ most < 1 ∨ 1000 < most
  · exact plays_out life wait most v1 w0 hn
  · exact plays_in life wait most v1 z w0 (by omega) y0 y1.1 y1.2
end Go.Proofs.Ytjjddbicggfgnaa

