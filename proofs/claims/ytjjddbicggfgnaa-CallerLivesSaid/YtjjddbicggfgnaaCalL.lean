/- CallerLives, walked. -/
import Derived.Test.YtjjddbicggfgnaaCalV
import Derived.Test.YtjjddbicggfgnaaCalN
namespace Go.Proofs.Ytjjddbicggfgnaa
open Go Go.RowKit
set_option linter.unusedVariables false
set_option linter.unusedSimpArgs false
set_option maxRecDepth 100000
/-- Two callers beside one another. -/
structure TX (base : Nat) (F G : Nat → Prop) (w : World) (b d : Nat) (C D : Cal) : Prop where
  x : CalX base F w b C
  y : CalX base G w d D
  dj : ∀ j, F j → ¬ G j
variable {base : Nat} {F G F' : Nat → Prop} {w w' : World} {b d n : Nat} {C D C' : Cal}
theorem TX.nw (h : TX base F G w b d C D) (k : Nw w w') : TX base F G w' b d C D := ⟨h.x.nw k, h.y.nw k, h.dj⟩
theorem TX.left (h : TX base F G w b d C D) (hx : CalX base F' w' b C') (hF : ∀ j, F' j → F j ∨ w.heap.size ≤ j) (k : CalC base F w w') : TX base F' G w' b d C' D :=
  ⟨hx, h.y.ch k (fun j hj e => h.dj j e.2 hj), fun j hj hg => by
    rcases hF j hj with q | q
    · exact h.dj j q hg
    · have := (h.y.lt j hg).2; omega⟩
theorem TX.right (h : TX base F G w b d C D) (hx : CalX base F' w' d C') (hF : ∀ j, F' j → G j ∨ w.heap.size ≤ j) (k : CalC base G w w') : TX base F F' w' b d C C' :=
  ⟨h.x.ch k (fun j hj e => h.dj j hj e.2), hx, fun j hj hg => by
    rcases hF j hg with q | q
    · exact h.dj j hj q
    · have := (h.x.lt j hj).2; omega⟩
theorem TX.ch {X : Nat → Prop} (h : TX base F G w b d C D) (k : Ch X w w') (h1 : ∀ j, F j → ¬ X j) (h2 : ∀ j, G j → ¬ X j) : TX base F G w' b d C D := ⟨h.x.ch k h1, h.y.ch k h2, h.dj⟩
theorem out_own (base : Nat) (F : Nat → Prop) (b : Nat) (C : Cal) (w0 : World) (hC : CalX base F w0 b C) :
    Does Try.prog 12 #[.pointer (some ⟨b, 0, none⟩)] w0 (fun r w' => ∃ v F', r = v ∧ Ow w' base 33 8 v C.out.length (cellsM C.out) ∧ CalX base F' w' b { C with out := [] } ∧ (∀ j, F' j → F j) ∧ (∀ j, v.ownBlock = some j → F j ∧ ¬ F' j) ∧ CalC base F w0 w') := by
  obtain ⟨hG, bm, vo, vr, g, hA⟩ := hC
  refine (out_walk base F b bm vo vr g C w0 hA).mono ?_
  rintro r w' ⟨h1, h2, h3, h4, h5⟩
  exact ⟨_, _, h1, h3, ⟨hG.out0, _, _, _, _, h4⟩, fun j hj => hj.1, fun j hj => ⟨hA.fo j hj, fun h => h.2 hj⟩, h5⟩
theorem lim_re {b : Int} {n : Nat} (h : C.Lim n) : (reC b C).Lim n := by
  obtain ⟨h1, h2, h3, h4⟩ := h
  exact ⟨h1, by show (C.op.map _).length ≤ _; rw [List.length_map]; exact h2, by show (C.out.map _).length ≤ _; rw [List.length_map]; exact h3, h4⟩
theorem new_any (life wait most : Int) (w0 : World) (hn : 1 ≤ wait ∧ wait ≤ 1000 ∧ 1 ≤ most ∧ most ≤ 1000) : Does Try.prog 9 #[.int .u64 life, .int .i64 wait, .int .i64 most] w0 (fun r w' => ∃ p e, r = .tuple #[.pointer p, .int .i64 e] ∧ ((life = 0 ∧ e = 140) ∨ life ≠ 0) ∧ Nw w0 w') := by
  by_cases h : life = 0
  · refine (new_none life wait most w0 (.inl h)).mono ?_
    rintro r w' ⟨rfl, rfl⟩
    exact ⟨_, _, rfl, .inl ⟨h, rfl⟩, Ch.refl _⟩
  · refine (new_use life wait most w0 ⟨h, hn⟩).mono ?_
    rintro r w' ⟨b, F, h1, _, _, h2⟩
    exact ⟨_, _, h1, .inr h, h2⟩
theorem lives_out (la lb : Int) (v2 : Value) (w0 : World) (hn : la = 0 ∨ lb = 0) : Does Try.prog 8 #[.int .u64 la, .int .u64 lb, v2] w0 (fun r w' => r = .bool true ∧ Nw w0 w') := by
  refine fn_of (n := 196) (args := [.int .u64 la, .int .u64 lb, v2]) Try.func8 rfl rfl rfl ?_
  refine W_seq ?_
  refine W_region ?_
  refine L_r (r_ab rfl) ?_
  refine L_nil ?_
  refine W_seq ?_
  refine W_region ?_
  refine L_r (r_mi rfl) ?_
  refine L_call (.plain rfl) rfl rfl (r_call Try.func9 rfl rfl rfl (by rfl)) (new_any la 2 3 _ (by omega)) ?_
  rintro v24 w1 ⟨p, e, rfl, hpe, c1⟩
  have hz1 := c1.size
  refine L_r (r_mv) ?_
  refine L_r (r_ext2_0 rfl) ?_
  refine L_r (r_ext2_1 rfl) ?_
  refine L_r (r_ap rfl) ?_
  refine L_r (r_ai rfl) ?_
  refine L_nil ?_
  refine W_seq ?_
  refine W_region ?_
  refine L_r (r_mi rfl) ?_
  refine L_call (.plain rfl) rfl rfl (r_call Try.func9 rfl rfl rfl (by rfl)) (new_any lb 2 3 _ (by omega)) ?_
  rintro v29 w2 ⟨p', e', rfl, hpe', c2⟩
  have hz2 := c2.size
  refine L_r (r_mv) ?_
  refine L_r (r_ext2_0 rfl) ?_
  refine L_r (r_ext2_1 rfl) ?_
  refine L_r (r_ap rfl) ?_
  refine L_r (r_ai rfl) ?_
  refine L_nil ?_
  refine W_seq ?_
  refine W_seq ?_
  refine W_region ?_
  refine L_r (r_mi rfl) ?_
  refine L_r (r_eql rfl rfl) ?_
  refine L_r (r_mb rfl) ?_
  refine L_case (d := 34) rfl (fun h34 => ?_) (fun h34 => ?_)
  · refine L_ps ?_
    refine L_ps ?_
    refine L_r (r_pt rfl rfl) ?_
    refine L_nil ?_
    refine W_true rfl ?_
    refine W_seq ?_
    refine W_region ?_
    refine L_call (.plain rfl) rfl rfl (r_call Try.func10 rfl rfl rfl (by rfl)) (awake_walk _) ?_
    rintro v38 w3 ⟨rfl, c3⟩
    have hz3 := c3.size
    refine L_as (v := .bool _) (v' := .bool true) 38 rfl (congrArg Value.bool (by rfl)) ?_
    refine L_r (r_mb rfl) ?_
    refine L_g (r_mi rfl) ?_
    refine L_g (r_neq rfl rfl) ?_
    refine L_g (r_mb rfl) ?_
    refine L_case (d := 42) rfl (fun h42 => ?_) (fun h42 => ?_)
    · refine L_ps ?_
      refine L_ps ?_
      refine L_g (r_pt rfl rfl) ?_
      refine L_r (r_pt rfl rfl) ?_
      refine L_r (r_mb rfl) ?_
      refine L_g (r_mi rfl) ?_
      refine L_g (r_neq rfl rfl) ?_
      refine L_g (r_mb rfl) ?_
      refine L_case (d := 50) rfl (fun h50 => ?_) (fun h50 => ?_)
      · refine L_ps ?_
        refine L_ps ?_
        refine L_g (r_pt rfl rfl) ?_
        refine L_r (r_pt rfl rfl) ?_
        refine L_r (r_ab rfl) ?_
        refine L_nil ?_
        refine W_ret ?_
        refine ret1 (v := .bool _) rfl rfl ?_
        first | exact ⟨rfl, Ch.au⟩ | exact ⟨congrArg Value.bool (by simp; omega), Ch.au⟩
      · refine L_g (r_mi rfl) ?_
        refine L_g (r_eql rfl rfl) ?_
        refine L_g (r_pf rfl rfl) ?_
        refine L_r (r_pt rfl rfl) ?_
        refine L_r (r_ab rfl) ?_
        refine L_nil ?_
        refine W_ret ?_
        refine ret1 (v := .bool _) rfl rfl ?_
        first | exact ⟨rfl, Ch.au⟩ | exact ⟨congrArg Value.bool (by simp; omega), Ch.au⟩
    · refine L_g (r_mi rfl) ?_
      refine L_g (r_eql rfl rfl) ?_
      refine L_g (r_pf rfl rfl) ?_
      refine L_r (r_pt rfl rfl) ?_
      refine L_r (r_mb rfl) ?_
      refine L_case (d := 47) rfl (fun h47 => ?_) (fun h47 => ?_)
      · refine L_g (r_mi rfl) ?_
        refine L_g (r_neq rfl rfl) ?_
        refine L_g (r_mb rfl) ?_
        refine L_case (d := 50) rfl (fun h50 => ?_) (fun h50 => ?_)
        · refine L_ps ?_
          refine L_ps ?_
          refine L_g (r_pt rfl rfl) ?_
          refine L_r (r_pt rfl rfl) ?_
          refine L_r (r_ab rfl) ?_
          refine L_nil ?_
          refine W_ret ?_
          refine ret1 (v := .bool _) rfl rfl ?_
          first | exact ⟨rfl, Ch.au⟩ | exact ⟨congrArg Value.bool (by simp; omega), Ch.au⟩
        · refine L_g (r_mi rfl) ?_
          refine L_g (r_eql rfl rfl) ?_
          refine L_g (r_pf rfl rfl) ?_
          refine L_r (r_pt rfl rfl) ?_
          refine L_r (r_ab rfl) ?_
          refine L_nil ?_
          refine W_ret ?_
          refine ret1 (v := .bool _) rfl rfl ?_
          first | exact ⟨rfl, Ch.au⟩ | exact ⟨congrArg Value.bool (by simp; omega), Ch.au⟩
      · refine L_ps ?_
        refine L_ps ?_
        refine L_ps ?_
        refine L_pu ?_
        refine L_pu ?_
        refine L_ps ?_
        refine L_r (r_pf rfl rfl) ?_
        refine L_r (r_ab rfl) ?_
        refine L_nil ?_
        refine W_ret ?_
        refine ret1 (v := .bool _) rfl rfl ?_
        first | exact ⟨rfl, Ch.au⟩ | exact ⟨congrArg Value.bool (by simp; omega), Ch.au⟩
  · refine L_g (r_mi rfl) ?_
    refine L_g (r_eql rfl rfl) ?_
    refine L_r (r_pf rfl rfl) ?_
    refine L_nil ?_
    refine W_if rfl (fun h37 => ?_) (fun h37 => ?_)
    · refine W_seq ?_
      refine W_region ?_
      refine L_call (.plain rfl) rfl rfl (r_call Try.func10 rfl rfl rfl (by rfl)) (awake_walk _) ?_
      rintro v38 w4 ⟨rfl, c4⟩
      have hz4 := c4.size
      refine L_as (v := .bool _) (v' := .bool true) 38 rfl (congrArg Value.bool (by rfl)) ?_
      refine L_r (r_mb rfl) ?_
      refine L_g (r_mi rfl) ?_
      refine L_g (r_neq rfl rfl) ?_
      refine L_g (r_mb rfl) ?_
      refine L_case (d := 42) rfl (fun h42 => ?_) (fun h42 => ?_)
      · refine L_ps ?_
        refine L_ps ?_
        refine L_g (r_pt rfl rfl) ?_
        refine L_r (r_pt rfl rfl) ?_
        refine L_r (r_mb rfl) ?_
        refine L_g (r_mi rfl) ?_
        refine L_g (r_neq rfl rfl) ?_
        refine L_g (r_mb rfl) ?_
        refine L_case (d := 50) rfl (fun h50 => ?_) (fun h50 => ?_)
        · refine L_ps ?_
          refine L_ps ?_
          refine L_g (r_pt rfl rfl) ?_
          refine L_r (r_pt rfl rfl) ?_
          refine L_r (r_ab rfl) ?_
          refine L_nil ?_
          refine W_ret ?_
          refine ret1 (v := .bool _) rfl rfl ?_
          first | exact ⟨rfl, Ch.au⟩ | exact ⟨congrArg Value.bool (by simp; omega), Ch.au⟩
        · refine L_g (r_mi rfl) ?_
          refine L_g (r_eql rfl rfl) ?_
          refine L_g (r_pf rfl rfl) ?_
          refine L_r (r_pt rfl rfl) ?_
          refine L_r (r_ab rfl) ?_
          refine L_nil ?_
          refine W_ret ?_
          refine ret1 (v := .bool _) rfl rfl ?_
          first | exact ⟨rfl, Ch.au⟩ | exact ⟨congrArg Value.bool (by simp; omega), Ch.au⟩
      · refine L_g (r_mi rfl) ?_
        refine L_g (r_eql rfl rfl) ?_
        refine L_g (r_pf rfl rfl) ?_
        refine L_r (r_pt rfl rfl) ?_
        refine L_r (r_mb rfl) ?_
        refine L_case (d := 47) rfl (fun h47 => ?_) (fun h47 => ?_)
        · refine L_g (r_mi rfl) ?_
          refine L_g (r_neq rfl rfl) ?_
          refine L_g (r_mb rfl) ?_
          refine L_case (d := 50) rfl (fun h50 => ?_) (fun h50 => ?_)
          · refine L_ps ?_
            refine L_ps ?_
            refine L_g (r_pt rfl rfl) ?_
            refine L_r (r_pt rfl rfl) ?_
            refine L_r (r_ab rfl) ?_
            refine L_nil ?_
            refine W_ret ?_
            refine ret1 (v := .bool _) rfl rfl ?_
            first | exact ⟨rfl, Ch.au⟩ | exact ⟨congrArg Value.bool (by simp; omega), Ch.au⟩
          · refine L_g (r_mi rfl) ?_
            refine L_g (r_eql rfl rfl) ?_
            refine L_g (r_pf rfl rfl) ?_
            refine L_r (r_pt rfl rfl) ?_
            refine L_r (r_ab rfl) ?_
            refine L_nil ?_
            refine W_ret ?_
            refine ret1 (v := .bool _) rfl rfl ?_
            first | exact ⟨rfl, Ch.au⟩ | exact ⟨congrArg Value.bool (by simp; omega), Ch.au⟩
        · refine L_ps ?_
          refine L_ps ?_
          refine L_ps ?_
          refine L_pu ?_
          refine L_pu ?_
          refine L_ps ?_
          refine L_r (r_pf rfl rfl) ?_
          refine L_r (r_ab rfl) ?_
          refine L_nil ?_
          refine W_ret ?_
          refine ret1 (v := .bool _) rfl rfl ?_
          first | exact ⟨rfl, Ch.au⟩ | exact ⟨congrArg Value.bool (by simp; omega), Ch.au⟩
    · omega
set_option maxHeartbeats 8000000 in
theorem lives_in (la lb : Int) (v2 : Value) (z : List SAct) (w0 : World) (hn : la ≠ 0 ∧ lb ≠ 0) (y0 : Sl w0 v2 9 z.length (cellsS z)) : Does Try.prog 8 #[.int .u64 la, .int .u64 lb, v2] w0 (fun r w' => r = .bool true ∧ Nw w0 w') := by
  refine fn_of (n := 196) (args := [.int .u64 la, .int .u64 lb, v2]) Try.func8 rfl rfl rfl ?_
  refine W_seq ?_
  refine W_region ?_
  refine L_r (r_ab rfl) ?_
  refine L_nil ?_
  refine W_seq ?_
  refine W_region ?_
  refine L_r (r_mi rfl) ?_
  refine L_call (.plain rfl) rfl rfl (r_call Try.func9 rfl rfl rfl (by rfl)) (new_use la 2 3 _ (by omega)) ?_
  rintro v24 w1 ⟨b, F0, rfl, hX0, hF0, c1⟩
  have hz1 := c1.size
  refine L_r (r_mv) ?_
  refine L_r (r_ext2_0 rfl) ?_
  refine L_r (r_ext2_1 rfl) ?_
  refine L_r (r_ap rfl) ?_
  refine L_r (r_ai rfl) ?_
  refine L_nil ?_
  refine W_seq ?_
  refine W_region ?_
  refine L_r (r_mi rfl) ?_
  refine L_call (.plain rfl) rfl rfl (r_call Try.func9 rfl rfl rfl (by rfl)) (new_use lb 2 3 _ (by omega)) ?_
  rintro v29 w2 ⟨d, G0, rfl, hY0, hG0, c2⟩
  have hz2 := c2.size
  refine L_r (r_mv) ?_
  refine L_r (r_ext2_0 rfl) ?_
  refine L_r (r_ext2_1 rfl) ?_
  refine L_r (r_ap rfl) ?_
  refine L_r (r_ai rfl) ?_
  refine L_nil ?_
  refine W_seq ?_
  refine W_seq ?_
  refine W_region ?_
  refine L_r (r_mi rfl) ?_
  refine L_r (r_eql rfl rfl) ?_
  refine L_r (r_mb rfl) ?_
  refine L_case (d := 34) rfl (fun h34 => ?_) (fun h34 => ?_)
  · omega
  · refine L_g (r_mi rfl) ?_
    refine L_g (r_eql rfl rfl) ?_
    refine L_r (r_pf rfl rfl) ?_
    refine L_nil ?_
    refine W_if rfl (fun h37 => ?_) (fun h37 => ?_)
    · omega
    · refine W_skip ?_
      refine W_seq ?_
      refine W_seq ?_
      refine W_region ?_
      refine L_call (.plain rfl) rfl rfl (r_call Try.func10 rfl rfl rfl (by rfl)) (awake_walk _) ?_
      rintro v55 w3 ⟨rfl, c3⟩
      have hz3 := c3.size
      refine L_as (v := .bool _) (v' := .bool true) 55 rfl (congrArg Value.bool (by rfl)) ?_
      refine L_r (r_not rfl) ?_
      refine L_r (r_mb rfl) ?_
      refine L_g (r_mi rfl) ?_
      refine L_g (r_neq rfl rfl) ?_
      refine L_as (v := .bool _) (v' := .bool false) 59 rfl (dec_f (by simp)).symm ?_
      refine L_r (r_pf rfl rfl) ?_
      refine L_r (r_mb rfl) ?_
      refine L_g (r_mi rfl) ?_
      refine L_g (r_neq rfl rfl) ?_
      refine L_as (v := .bool _) (v' := .bool false) 63 rfl (dec_f (by simp)).symm ?_
      refine L_r (r_pf rfl rfl) ?_
      refine L_r (r_mb rfl) ?_
      refine L_g (r_mp rfl) ?_
      refine L_g (r_eqpnil Try.underlying22 rfl rfl) ?_
      refine L_as (v := .bool _) (v' := .bool false) 67 rfl (congrArg Value.bool (by simp)) ?_
      refine L_r (r_pf rfl rfl) ?_
      refine L_r (r_mb rfl) ?_
      refine L_g (r_mp rfl) ?_
      refine L_g (r_eqpnil Try.underlying22 rfl rfl) ?_
      refine L_as (v := .bool _) (v' := .bool false) 71 rfl (congrArg Value.bool (by simp)) ?_
      refine L_r (r_pf rfl rfl) ?_
      refine L_nil ?_
      refine W_false rfl ?_
      refine W_skip ?_
      refine W_seq ?_
      refine W_seq ?_
      have hT0 : TX w0.heap.size F0 G0 w3 b d (cal0 la 2 3) (reC lb (cal0 la 2 3)) := ⟨hX0.nw Ch.au, (hY0.base' (by omega)).nw Ch.au, fun j hj hg => by have := (hX0.lt j hj).2; have := hG0 j hg; omega⟩
      refine W_region ?_
      refine L_r (r_ai rfl) ?_
      refine L_nil ?_
      refine W_block ?_
      refine W_loopF [0, 1, 2, 7, 9] (fun mz_ f W => ∃ (i : Nat) (F G : Nat → Prop) (C : Cal), f 11 = .int .i64 i ∧ (i ≤ z.length ∧ i ≤ 60 ∧ TX w0.heap.size F G W b d C (reC lb C) ∧ C.Lim i ∧ C.life = la ∧ Nw w0 W) ∧ mz_ = 60 - i) ?_ ?_
      · refine ⟨_, 0, F0, G0, cal0 la 2 3, rfl, ?_, rfl⟩
        exact ⟨by omega, by omega, hT0.nw Ch.au, lim0 _ _ _, rfl, Ch.au⟩
      rintro m0 g0 w4 ⟨i, F, G, C, hf11, hR0, rfl⟩
      refine W_as 11 hf11 rfl ?_
      clear hf11
      obtain ⟨hi1, hi2, hT, hL, hla, hnw⟩ := hR0
      have hz := hnw.size
      have hLd : (reC lb C).Lim i := lim_re hL
      refine W_seq ?_
      refine W_seq ?_
      refine W_region ?_
      refine L_r (r_mi rfl) ?_
      refine L_r (r_mv) ?_
      refine L_r (r_lenSl Try.underlying37 (by conv => lhs; whnf) Sl.au) ?_
      refine L_r (r_lss rfl rfl) ?_
      refine L_r (r_mb rfl) ?_
      refine L_case (d := 77) rfl (fun h77 => ?_) (fun h77 => ?_)
      · refine L_g (r_mi rfl) ?_
        refine L_g (r_lss rfl rfl) ?_
        refine L_r (r_pt rfl rfl) ?_
        refine L_nil ?_
        refine W_if rfl (fun h80 => ?_) (fun h80 => ?_)
        · have hlt : i < z.length := by omega
          refine W_skip ?_
          refine W_cutF [0, 1, 2, 7, 9, 11] (fun f W => ∃ (F2 G2 : Nat → Prop) (C2 : Cal), True ∧ (i + 1 ≤ z.length ∧ i + 1 ≤ 60 ∧ TX w0.heap.size F2 G2 W b d C2 (reC lb C2) ∧ C2.Lim (i + 1) ∧ C2.life = la ∧ Nw w0 W)) ?_ ?_
          · refine W_block ?_
            refine W_seq ?_
            have hc9 := cellsS_row z i hlt
            obtain ⟨a, ha⟩ : ∃ a, a = z[i] := ⟨_, rfl⟩
            rw [← ha] at hc9
            obtain ⟨Fx, hFx⟩ : ∃ x, x = F := ⟨_, rfl⟩
            obtain ⟨Gx, hGx⟩ : ∃ x, x = G := ⟨_, rfl⟩
            obtain ⟨Cx, hCx⟩ : ∃ x, x = C := ⟨_, rfl⟩
            refine W_region ?_
            refine L_r (r_mv) ?_
            refine L_r (r_mi rfl) ?_
            refine L_r (r_ix Try.underlying37 (show _ = some 9 from rfl) (by conv => lhs; whnf) rfl Sl.au) ?_
            refine L_r (r_loadSlrow (us := [.int .i64 a.k, .int .i64 a.m.kind, .int .u64 a.m.life, .int .u64 a.m.seq, .int .u64 a.m.below, .int .u64 a.m.object, .string a.m.method, .int .i64 a.m.way, .string a.m.body]) Try.underlying43 rfl rfl rfl rfl Sl.au (by exact hc9)) ?_
            refine L_new (.plain rfl) rfl rfl (r_alloca rfl) (fun w5 b12 hb12 eb5 hs5 c5 => ?_)
            refine L_storerow (.plain rfl) rfl rfl Bk.au (by first | rfl | (simp; done) | assumption) (by first | rfl | assumption) (by first | rfl | (simp [Value.oneCell']; done) | assumption) (fun w6 hb6 hs6 c6 => ?_)
            refine L_nil ?_
            refine W_seq ?_
            refine W_seq ?_
            refine W_region ?_
            refine L_r (r_fieldb Try.underlying43 rfl (show _ = some 8 from rfl) rfl rfl (show _ = 1 from rfl)) ?_
            refine L_r (r_fieldb Try.underlying33 rfl (show _ = some 1 from rfl) rfl rfl (show _ = 8 from rfl)) ?_
            refine L_r (r_lb rfl rfl) ?_
            refine L_r (r_lens Try.underlying9 rfl) ?_
            refine L_r (r_gtr rfl rfl) ?_
            refine L_r (r_mb rfl) ?_
            refine L_case (d := 92) rfl (fun h92 => ?_) (fun h92 => ?_)
            · refine L_ps ?_
              refine L_ps ?_
              refine L_ps ?_
              refine L_ps ?_
              refine L_ps ?_
              refine L_r (r_pt rfl rfl) ?_
              refine L_nil ?_
              refine W_true rfl ?_
              refine W_exit ?_
              repeat (first | refine blk_hit ?_ | refine blk_miss rfl ?_)
              refine ⟨⟨fx2, fx2, fx2, fx2, fx2, fx2, trivial⟩, Fx, Gx, Cx, trivial, ?_⟩
              subst hFx hGx hCx
              first
              | exact ⟨by omega, by omega, hT.nw Ch.au, hL.mono (by omega), hla, Ch.au⟩
              | exact ⟨by omega, by omega, hT5.nw Ch.au, hL5, hla5, Ch.au⟩
            · refine L_g (r_fieldb Try.underlying43 rfl (show _ = some 8 from rfl) rfl rfl (show _ = 1 from rfl)) ?_
              refine L_g (r_fieldb Try.underlying33 rfl (show _ = some 1 from rfl) rfl rfl (show _ = 6 from rfl)) ?_
              refine L_g (r_lb rfl rfl) ?_
              refine L_g (r_lens Try.underlying9 rfl) ?_
              refine L_g (r_gtr rfl rfl) ?_
              refine L_r (r_pf rfl rfl) ?_
              refine L_nil ?_
              refine W_if rfl (fun h98 => ?_) (fun h98 => ?_)
              · refine W_exit ?_
                repeat (first | refine blk_hit ?_ | refine blk_miss rfl ?_)
                refine ⟨⟨fx2, fx2, fx2, fx2, fx2, fx2, trivial⟩, Fx, Gx, Cx, trivial, ?_⟩
                subst hFx hGx hCx
                first
                | exact ⟨by omega, by omega, hT.nw Ch.au, hL.mono (by omega), hla, Ch.au⟩
                | exact ⟨by omega, by omega, hT5.nw Ch.au, hL5, hla5, Ch.au⟩
              · refine W_skip ?_
                refine W_seq ?_
                refine W_seq ?_
                have hnb1 : ¬ (w0.heap.size ≤ b12 ∧ F b12) := fun h => by have := (hT.x.lt _ h.2).2; omega
                have hnb2 : ¬ (w0.heap.size ≤ b12 ∧ G b12) := fun h => by have := (hT.y.lt _ h.2).2; omega
                refine W_region ?_
                refine L_r (r_fieldb Try.underlying43 rfl (show _ = some 1 from rfl) rfl rfl (show _ = 0 from rfl)) ?_
                refine L_r (r_lb rfl rfl) ?_
                refine L_nil ?_
                refine W_endF [0, 1, 2, 7, 9, 11] (fun f W => ∃ (F3 G3 : Nat → Prop) (C3 : Cal), True ∧ (TX w0.heap.size F3 G3 W b d C3 (reC lb C3) ∧ C3.Lim (i + 1) ∧ C3.life = la ∧ Nw w0 W)) ?_ ?_
                · refine W_block ?_
                  refine W_seq ?_
                  refine W_region ?_
                  refine L_r (r_eql rfl rfl) ?_
                  refine L_r (r_ab rfl) ?_
                  refine L_nil ?_
                  refine W_if rfl (fun h101 => ?_) (fun h101 => ?_)
                  · refine W_seq ?_
                    refine W_region ?_
                    refine L_r (r_mp rfl) ?_
                    refine L_r (r_fieldb Try.underlying43 rfl (show _ = some 8 from rfl) rfl rfl (show _ = 1 from rfl)) ?_
                    refine L_r (r_fieldb Try.underlying33 rfl (show _ = some 1 from rfl) rfl rfl (show _ = 5 from rfl)) ?_
                    refine L_r (r_lb rfl rfl) ?_
                    refine L_r (r_fieldb Try.underlying43 rfl (show _ = some 8 from rfl) rfl rfl (show _ = 1 from rfl)) ?_
                    refine L_r (r_fieldb Try.underlying33 rfl (show _ = some 1 from rfl) rfl rfl (show _ = 6 from rfl)) ?_
                    refine L_r (r_lb rfl rfl) ?_
                    refine L_r (r_fieldb Try.underlying43 rfl (show _ = some 8 from rfl) rfl rfl (show _ = 1 from rfl)) ?_
                    refine L_r (r_fieldb Try.underlying33 rfl (show _ = some 1 from rfl) rfl rfl (show _ = 8 from rfl)) ?_
                    refine L_r (r_lb rfl rfl) ?_
                    refine L_call (.plain rfl) rfl rfl (r_call Try.func11 rfl rfl rfl (by rfl)) (call_use _ F b i C a.m.object a.m.method a.m.body _ (hT.x.nw Ch.au) hL (by omega) (by omega)) ?_
                    rintro v114 w7 ⟨F', rfl, hX', hL2, hF', c7⟩
                    have hz7 := c7.size
                    have hT1 := (hT.nw (w' := w6) Ch.au).left hX' hF' c7
                    obtain ⟨hce, hca⟩ := call_re C (by omega) hn.2 a.m.object a.m.method a.m.body
                    have hla2 := (call_same C a.m.object a.m.method a.m.body).2.2.trans hla
                    refine L_r (r_mv) ?_
                    refine L_r (r_ext2_0 rfl) ?_
                    refine L_r (r_ext2_1 rfl) ?_
                    refine L_r (r_ai rfl) ?_
                    refine L_r (r_ai rfl) ?_
                    refine L_nil ?_
                    refine W_seq ?_
                    refine W_region ?_
                    refine L_r (r_mp rfl) ?_
                    refine L_r (r_fieldb Try.underlying43 rfl (show _ = some 8 from rfl) rfl rfl (show _ = 1 from rfl)) ?_
                    refine L_r (r_fieldb Try.underlying33 rfl (show _ = some 1 from rfl) rfl rfl (show _ = 5 from rfl)) ?_
                    refine L_r (r_lb rfl rfl) ?_
                    refine L_r (r_fieldb Try.underlying43 rfl (show _ = some 8 from rfl) rfl rfl (show _ = 1 from rfl)) ?_
                    refine L_r (r_fieldb Try.underlying33 rfl (show _ = some 1 from rfl) rfl rfl (show _ = 6 from rfl)) ?_
                    refine L_r (r_lb rfl rfl) ?_
                    refine L_r (r_fieldb Try.underlying43 rfl (show _ = some 8 from rfl) rfl rfl (show _ = 1 from rfl)) ?_
                    refine L_r (r_fieldb Try.underlying33 rfl (show _ = some 1 from rfl) rfl rfl (show _ = 8 from rfl)) ?_
                    refine L_r (r_lb rfl rfl) ?_
                    refine L_call (.plain rfl) rfl rfl (r_call Try.func11 rfl rfl rfl (by rfl)) (call_use _ G d i (reC lb C) a.m.object a.m.method a.m.body _ (hT1.y.nw Ch.au) hLd (by omega) (by omega)) ?_
                    rintro v128 w8 ⟨G', rfl, hY', hLd2, hG', c8⟩
                    have hz8 := c8.size
                    have hT2' := (hT1.nw (w' := w7) Ch.au).right hY' hG' c8
                    rw [hce] at hT2'
                    have hT2 := hT2'
                    clear hFx hGx hCx
                    obtain ⟨Fx, hFx⟩ : ∃ x, x = F' := ⟨_, rfl⟩
                    obtain ⟨Gx, hGx⟩ : ∃ x, x = G' := ⟨_, rfl⟩
                    obtain ⟨Cx, hCx⟩ : ∃ x, x = (callC C a.m.object a.m.method a.m.body).1 := ⟨_, rfl⟩
                    refine L_r (r_mv) ?_
                    refine L_r (r_ext2_0 rfl) ?_
                    refine L_r (r_ext2_1 rfl) ?_
                    refine L_r (r_ai rfl) ?_
                    refine L_r (r_ai rfl) ?_
                    refine L_nil ?_
                    refine W_seq ?_
                    refine W_region ?_
                    refine L_r (r_mi rfl) ?_
                    refine L_r (r_mi rfl) ?_
                    refine L_r (r_neq rfl rfl) ?_
                    refine L_r (r_mb rfl) ?_
                    refine L_case (d := 134) rfl (fun h134 => ?_) (fun h134 => ?_)
                    · exact absurd (by rw [hca]) h134
                    · refine L_g (r_mi rfl) ?_
                      refine L_g (r_mi rfl) ?_
                      refine L_g (r_neq rfl rfl) ?_
                      refine L_r (r_pf rfl rfl) ?_
                      refine L_nil ?_
                      refine W_if rfl (fun h138 => ?_) (fun h138 => ?_)
                      · exact absurd (by rw [hca]) h138
                      · refine W_skip ?_
                        refine ⟨⟨fx2, fx2, fx2, fx2, fx2, fx2, trivial⟩, Fx, Gx, Cx, trivial, ?_⟩
                        subst hFx hGx hCx
                        first
                        | exact ⟨hT.nw Ch.au, hL.mono (by omega), hla, Ch.au⟩
                        | exact ⟨hT2.nw Ch.au, hL2, hla2, Ch.au⟩
                  · refine W_seq ?_
                    refine W_region ?_
                    refine L_r (r_eql rfl rfl) ?_
                    refine L_r (r_ab rfl) ?_
                    refine L_nil ?_
                    refine W_if rfl (fun h139 => ?_) (fun h139 => ?_)
                    · refine W_seq ?_
                      refine W_region ?_
                      refine L_r (r_mp rfl) ?_
                      refine L_call (.plain rfl) rfl rfl (r_call Try.func14 rfl rfl rfl (by rfl)) (tick_use _ F b i C _ (hT.x.nw Ch.au) hL (by omega) (by omega)) ?_
                      rintro v142 w9 ⟨F', rfl, hX', hL2, hF', c9⟩
                      have hz9 := c9.size
                      have hT1 := (hT.nw (w' := w6) Ch.au).left hX' hF' c9
                      have hla2 : (tick C).life = la := (show (tick C).life = C.life from (ticks_same _ C).2.2.2).trans hla
                      refine L_nil ?_
                      refine W_region ?_
                      refine L_r (r_mp rfl) ?_
                      refine L_call (.plain rfl) rfl rfl (r_call Try.func14 rfl rfl rfl (by rfl)) (tick_use _ G d i (reC lb C) _ (hT1.y.nw Ch.au) hLd (by omega) (by omega)) ?_
                      rintro v144 w10 ⟨G', rfl, hY', hLd2, hG', c10⟩
                      have hz10 := c10.size
                      have hT2' := (hT1.nw (w' := w9) Ch.au).right hY' hG' c10
                      rw [tick_re] at hT2'
                      have hT2 := hT2'
                      clear hFx hGx hCx
                      obtain ⟨Fx, hFx⟩ : ∃ x, x = F' := ⟨_, rfl⟩
                      obtain ⟨Gx, hGx⟩ : ∃ x, x = G' := ⟨_, rfl⟩
                      obtain ⟨Cx, hCx⟩ : ∃ x, x = tick C := ⟨_, rfl⟩
                      refine L_nil ?_
                      refine ⟨⟨fx2, fx2, fx2, fx2, fx2, fx2, trivial⟩, Fx, Gx, Cx, trivial, ?_⟩
                      subst hFx hGx hCx
                      first
                      | exact ⟨hT.nw Ch.au, hL.mono (by omega), hla, Ch.au⟩
                      | exact ⟨hT2.nw Ch.au, hL2, hla2, Ch.au⟩
                    · refine W_seq ?_
                      refine W_region ?_
                      refine L_r (r_eql rfl rfl) ?_
                      refine L_r (r_ab rfl) ?_
                      refine L_nil ?_
                      refine W_if rfl (fun h145 => ?_) (fun h145 => ?_)
                      · refine W_cutF [0, 1, 2, 7, 9, 11] (fun f W => ∃ (p17 p18 : Nat), f 17 = .pointer (some ⟨p17, 0, none⟩) ∧ f 18 = .pointer (some ⟨p18, 0, none⟩) ∧ (Bk W p17 #[.int .i64 a.m.kind, .int .u64 a.m.life, .int .u64 a.m.seq, .int .u64 a.m.below, .int .u64 a.m.object, .string a.m.method, .int .i64 a.m.way, .string a.m.body] 33 ∧ Bk W p18 #[.int .i64 a.m.kind, .int .u64 a.m.life, .int .u64 a.m.seq, .int .u64 a.m.below, .int .u64 a.m.object, .string a.m.method, .int .i64 a.m.way, .string a.m.body] 33 ∧ p17 ≠ p18 ∧ (w6).heap.size ≤ p17 ∧ (w6).heap.size ≤ p18 ∧ Nw w0 W ∧ Nw w6 W)) ?_ ?_
                        · refine W_draw (fun W => Bk W b12 #[.int .i64 a.k, .int .i64 a.m.kind, .int .u64 a.m.life, .int .u64 a.m.seq, .int .u64 a.m.below, .int .u64 a.m.object, .string a.m.method, .int .i64 a.m.way, .string a.m.body] 43) 7 (m := 8) (by kernel_rfl) rfl (fun w11 c11 hs11 => ?_)
                          refine held Bk.au (fun hS => ?_)
                          refine D_t 0 rfl (fun W hW => r_fieldb Try.underlying43 rfl (show _ = some 8 from rfl) rfl rfl (show _ = 1 from rfl)) ?_
                          refine D_t 1 rfl (fun W hW => r_loadsub (us := [.int _ _, .int _ _, .int _ _, .int _ _, .int _ _, .string _, .int _ _, .string _]) Try.underlying33 rfl (show _ = some 8 from rfl) rfl (by exact hW) rfl rfl) ?_
                          refine D_t 2 rfl (fun W hW => r_fieldb Try.underlying43 rfl (show _ = some 8 from rfl) rfl rfl (show _ = 1 from rfl)) ?_
                          refine D_t 3 rfl (fun W hW => r_loadsub (us := [.int _ _, .int _ _, .int _ _, .int _ _, .int _ _, .string _, .int _ _, .string _]) Try.underlying33 rfl (show _ = some 8 from rfl) rfl (by exact hW) rfl rfl) ?_
                          refine D_ev2 4 5 (by kernel_rfl) rfl rfl ?_ ?_
                          · refine L_new (.plain rfl) rfl rfl (r_alloca rfl) (fun w12 b17 hb17 eb12 hs12 c12 => ?_)
                            refine L_nil ?_
                            refine heldK Bk.au (fun hS => ?_)
                            refine D_ev 5 (by kernel_rfl) rfl ?_
                            refine L_new (.plain rfl) rfl rfl (r_alloca rfl) (fun w13 b18 hb18 eb13 hs13 c13 => ?_)
                            refine L_nil ?_
                            refine heldK Bk.au (fun hS => ?_)
                            refine D_ev 6 (by kernel_rfl) rfl ?_
                            refine L_storerow (.plain rfl) rfl rfl Bk.au (by first | rfl | (simp; done) | assumption) (by first | rfl | assumption) (by first | rfl | (simp [Value.oneCell']; done) | assumption) (fun w14 hb14 hs14 c14 => ?_)
                            refine L_nil ?_
                            refine heldK Bk.au (fun hS => ?_)
                            refine D_ev 7 (by kernel_rfl) rfl ?_
                            refine L_storerow (.plain rfl) rfl rfl Bk.au (by first | rfl | (simp; done) | assumption) (by first | rfl | assumption) (by first | rfl | (simp [Value.oneCell']; done) | assumption) (fun w15 hb15 hs15 c15 => ?_)
                            refine L_nil ?_
                            refine heldL ?_
                            refine D_done (by kernel_rfl) ?_
                            refine ⟨⟨fx2, fx2, fx2, fx2, fx2, fx2, trivial⟩, b17, b18, rfl, rfl, ?_⟩
                            exact ⟨Bk.au, Bk.au, by omega, by omega, by omega, Ch.au, Ch.au⟩
                          · refine L_new (.plain rfl) rfl rfl (r_alloca rfl) (fun w16 b18 hb18 eb16 hs16 c16 => ?_)
                            refine L_nil ?_
                            refine heldK Bk.au (fun hS => ?_)
                            refine D_ev 4 (by kernel_rfl) rfl ?_
                            refine L_new (.plain rfl) rfl rfl (r_alloca rfl) (fun w17 b17 hb17 eb17 hs17 c17 => ?_)
                            refine L_nil ?_
                            refine heldK Bk.au (fun hS => ?_)
                            refine D_ev 6 (by kernel_rfl) rfl ?_
                            refine L_storerow (.plain rfl) rfl rfl Bk.au (by first | rfl | (simp; done) | assumption) (by first | rfl | assumption) (by first | rfl | (simp [Value.oneCell']; done) | assumption) (fun w18 hb18 hs18 c18 => ?_)
                            refine L_nil ?_
                            refine heldK Bk.au (fun hS => ?_)
                            refine D_ev 7 (by kernel_rfl) rfl ?_
                            refine L_storerow (.plain rfl) rfl rfl Bk.au (by first | rfl | (simp; done) | assumption) (by first | rfl | assumption) (by first | rfl | (simp [Value.oneCell']; done) | assumption) (fun w19 hb19 hs19 c19 => ?_)
                            refine L_nil ?_
                            refine heldL ?_
                            refine D_done (by kernel_rfl) ?_
                            refine ⟨⟨fx2, fx2, fx2, fx2, fx2, fx2, trivial⟩, b17, b18, rfl, rfl, ?_⟩
                            exact ⟨Bk.au, Bk.au, by omega, by omega, by omega, Ch.au, Ch.au⟩
                        rintro gcr22 w20 ⟨p17, p18, hf17, hf18, hCr22⟩
                        refine W_as 17 hf17 rfl ?_
                        refine W_as 18 hf18 rfl ?_
                        clear hf17 hf18
                        obtain ⟨hp17, hp18, hpne, hpl, hpl2, hnw7, hnw8⟩ := hCr22
                        have hz7 := hnw7.size
                        have hz8 := hnw8.size
                        refine W_seq ?_
                        refine W_region ?_
                        refine L_r (r_mi rfl) ?_
                        refine L_r (r_mi rfl) ?_
                        refine L_r (r_fieldb Try.underlying33 rfl (show _ = some 1 from rfl) rfl rfl (show _ = 1 from rfl)) ?_
                        refine L_set (.plain rfl) rfl Bk.au (r_store (v := .int _ _) rfl rfl rfl rfl Bk.au (by first | decide | (simp only [List.length_set, cellsM_length]; omega) | (simp; done) | omega)) (fun w21 hb21 hs21 c21 => ?_)
                        try simp only [List.setIfInBounds_toArray, List.set_cons_zero, List.set_cons_succ] at hb21
                        refine L_r (r_fieldb Try.underlying33 rfl (show _ = some 1 from rfl) rfl rfl (show _ = 1 from rfl)) ?_
                        refine L_set (.plain rfl) rfl Bk.au (r_store (v := .int _ _) rfl rfl rfl rfl Bk.au (by first | decide | (simp only [List.length_set, cellsM_length]; omega) | (simp; done) | omega)) (fun w22 hb22 hs22 c22 => ?_)
                        try simp only [List.setIfInBounds_toArray, List.set_cons_zero, List.set_cons_succ] at hb22
                        refine L_nil ?_
                        refine W_seq ?_
                        have hn1 : ¬ (w0.heap.size ≤ p17 ∧ F p17) := fun h => by have := (hT.x.lt _ h.2).2; omega
                        have hn2 : ¬ (w0.heap.size ≤ p18 ∧ F p18) := fun h => by have := (hT.x.lt _ h.2).2; omega
                        have hn3 : ¬ (w0.heap.size ≤ p17 ∧ G p17) := fun h => by have := (hT.y.lt _ h.2).2; omega
                        have hn4 : ¬ (w0.heap.size ≤ p18 ∧ G p18) := fun h => by have := (hT.y.lt _ h.2).2; omega
                        obtain ⟨hre, hrb⟩ := recv_re C hla hn.1 hn.2 a.m
                        have hla2 := (recv_life' C { a.m with life := la }).trans hla
                        have hT4 := hT.nw (w' := w22) Ch.au
                        refine W_draw (fun W => Bk W p17 #[.int .i64 a.m.kind, .int .u64 la, .int .u64 a.m.seq, .int .u64 a.m.below, .int .u64 a.m.object, .string a.m.method, .int .i64 a.m.way, .string a.m.body] 33 ∧ Bk W p18 #[.int .i64 a.m.kind, .int .u64 lb, .int .u64 a.m.seq, .int .u64 a.m.below, .int .u64 a.m.object, .string a.m.method, .int .i64 a.m.way, .string a.m.body] 33) 7 (m := 7) (by kernel_rfl) rfl (fun w23 c23 hs23 => ?_)
                        refine held (by exact ⟨Bk.au, Bk.au⟩) (fun hS => ?_)
                        refine D_t 0 rfl (fun W hW => r_mp rfl) ?_
                        refine D_t 1 rfl (fun W hW => r_loadrow Try.underlying33 rfl rfl (by first | exact hW.1 | exact hW.2) (by first | rfl | assumption)) ?_
                        refine D_t 3 rfl (fun W hW => r_mp rfl) ?_
                        refine D_t 4 rfl (fun W hW => r_loadrow Try.underlying33 rfl rfl (by first | exact hW.1 | exact hW.2) (by first | rfl | assumption)) ?_
                        refine D_ev 2 (by kernel_rfl) rfl ?_
                        refine L_call (.plain rfl) rfl rfl (r_call Try.func19 rfl rfl rfl (by rfl)) (recv_use _ F b i C { a.m with life := la } _ (by first | exact hTr.x.nw Ch.au | exact hT4.x.nw Ch.au) hL (by omega) (by omega)) ?_
                        rintro v157 w24 ⟨F', hv157, hX', hL2, hF', c24⟩
                        have hz24 := c24.size
                        first | (have hT2 := (hTr.nw (w' := w23) Ch.au).left hX' hF' c24) | (have hTl := (hT4.nw (w' := w23) Ch.au).left hX' hF' c24)
                        subst hv157
                        refine L_nil ?_
                        refine heldK (by exact ⟨Bk.au, Bk.au⟩) (fun hS => ?_)
                        refine D_ev 5 (by kernel_rfl) rfl ?_
                        refine L_call (.plain rfl) rfl rfl (r_call Try.func19 rfl rfl rfl (by rfl)) (recv_use _ G d i (reC lb C) { a.m with life := lb } _ (by first | exact hTl.y.nw Ch.au | exact hT4.y.nw Ch.au) hLd (by omega) (by omega)) ?_
                        rintro v160 w25 ⟨G', hv160, hY', hLd2, hG', c25⟩
                        have hz25 := c25.size
                        rw [hre] at hY'
                        rw [hrb] at hv160
                        subst hv160
                        first | (have hT2 := (hTl.nw (w' := w24) Ch.au).right hY' hG' c25) | (have hTr := (hT4.nw (w' := w24) Ch.au).right hY' hG' c25)
                        refine L_nil ?_
                        refine heldK (by exact ⟨Bk.au, Bk.au⟩) (fun hS => ?_)
                        refine D_t 6 rfl (fun W hW => r_neqb Try.underlying4 rfl rfl) ?_
                        clear hFx hGx hCx
                        obtain ⟨Fx, hFx⟩ : ∃ x, x = F' := ⟨_, rfl⟩
                        obtain ⟨Gx, hGx⟩ : ∃ x, x = G' := ⟨_, rfl⟩
                        obtain ⟨Cx, hCx⟩ : ∃ x, x = (recvC C { a.m with life := la }).1 := ⟨_, rfl⟩
                        refine D_as (v := .bool _) (v' := .bool false) 161 rfl (dec_f (by simp)).symm ?_
                        refine D_done (by kernel_rfl) ?_
                        refine W_false rfl ?_
                        refine W_skip ?_
                        refine ⟨⟨fx2, fx2, fx2, fx2, fx2, fx2, trivial⟩, Fx, Gx, Cx, trivial, ?_⟩
                        subst hFx hGx hCx
                        first
                        | exact ⟨hT.nw Ch.au, hL.mono (by omega), hla, Ch.au⟩
                        | exact ⟨hT2.nw Ch.au, hL2, hla2, Ch.au⟩
                      · refine W_skip ?_
                        refine ⟨⟨fx2, fx2, fx2, fx2, fx2, fx2, trivial⟩, Fx, Gx, Cx, trivial, ?_⟩
                        subst hFx hGx hCx
                        first
                        | exact ⟨hT.nw Ch.au, hL.mono (by omega), hla, Ch.au⟩
                        | exact ⟨hT2.nw Ch.au, hL2, hla2, Ch.au⟩
                rintro gcb2 w26 ⟨F3, G3, C3, -, hCb2⟩
                obtain ⟨hT3, hL3, hla3, hnw3⟩ := hCb2
                have hz3 := hnw3.size
                have r3 := hL3.2.2.1
                clear hFx hGx hCx
                refine W_seq ?_
                refine W_region ?_
                refine L_r (r_mp rfl) ?_
                refine L_call (.plain rfl) rfl rfl (r_call Try.func12 rfl rfl rfl (by rfl)) (out_own _ F3 b C3 _ (hT3.x.nw Ch.au)) ?_
                rintro v163 w27 ⟨v5, F4, rfl, hv5, hX4, hF4, hd4, c27⟩
                have hz27 := c27.size
                have hT4 := (hT3.nw (w' := w26) Ch.au).left hX4 (fun j hj => .inl (hF4 j hj)) c27
                have hq163 : ∀ j, v163.ownBlock = some j → ¬ (w0.heap.size ≤ j ∧ G3 j) := fun j hj h => hT3.dj j (hd4 j hj).1 h.2
                refine L_r (r_mp rfl) ?_
                refine L_call (.plain rfl) rfl rfl (r_call Try.func12 rfl rfl rfl (by rfl)) (out_own _ G3 d (reC lb C3) _ (hT4.y.nw Ch.au)) ?_
                rintro v165 w28 ⟨v6, G4, rfl, hv6, hY4, hG4, he4, c28⟩
                have hz28 := c28.size
                have hT5' := (hT4.nw (w' := w27) Ch.au).right hY4 (fun j hj => .inl (hG4 j hj)) c28
                have hv5' := hv5.to (w' := w28) fun i hi => Sm.step c28 (fun _ => hq163 i hi) (Sm.refl _ _)
                have hsep : ∀ j, v165.ownBlock = some j → v163.ownBlock ≠ some j := fun j hj e => hT3.dj j (hd4 j e).1 (he4 j hj).1
                have hNF : ∀ j, F4 j → ¬ (v163.ownBlock = some j) := fun j hj e => (hd4 j e).2 hj
                have hNG : ∀ j, G4 j → ¬ (v163.ownBlock = some j) := fun j hj e => hT3.dj j (hd4 j e).1 (hG4 j hj)
                have hol : (reC lb C3).out = C3.out.map (reM lb) := rfl
                have hoL : (reC lb C3).out.length = C3.out.length := by rw [hol, List.length_map]
                rw [hoL, hol] at hv6
                have hsl6 := hv6.sl
                clear hv5 hv6
                obtain ⟨L, hLe⟩ : ∃ L, L = C3.out := ⟨_, rfl⟩
                rw [← hLe] at hv5' hsl6 r3
                have hT5c : TX w0.heap.size F4 G4 w28 b d { C3 with out := [] } (reC lb { C3 with out := [] }) := hT5'
                refine L_r (r_av) ?_
                refine L_r (r_av) ?_
                refine L_nil ?_
                refine W_seq ?_
                refine W_seq ?_
                refine W_region ?_
                refine L_r (r_mv) ?_
                refine L_r (r_lenSl Try.underlying30 (by conv => lhs; whnf) Sl.au) ?_
                refine L_r (r_mv) ?_
                refine L_r (r_lenSl Try.underlying30 (by conv => lhs; whnf) Sl.au) ?_
                refine L_r (r_neq rfl rfl) ?_
                refine L_as (v := .bool _) (v' := .bool false) 170 rfl (dec_f (by simp)).symm ?_
                refine L_nil ?_
                refine W_false rfl ?_
                refine W_skip ?_
                refine W_seq ?_
                refine W_region ?_
                refine L_r (r_ai rfl) ?_
                refine L_nil ?_
                refine W_block ?_
                refine W_loopF [0, 1, 2, 7, 9, 11, 19, 20] (fun mz_ f W => ∃ (k : Nat), f 21 = .int .i64 k ∧ (k ≤ L.length ∧ Ow W w0.heap.size 33 8 v163 L.length (cellsM ((L.take k).map (reM lb) ++ L.drop k)) ∧ Sl W v165 8 L.length (cellsM (L.map (reM lb))) ∧ TX w0.heap.size F4 G4 W b d { C3 with out := [] } (reC lb { C3 with out := [] }) ∧ Nw w0 W) ∧ mz_ = L.length - k) ?_ ?_
                · refine ⟨_, 0, rfl, ?_, rfl⟩
                  exact ⟨by omega, Ow.au, Sl.au, hT5c.nw Ch.au, Ch.au⟩
                rintro m1 g1 w29 ⟨k, hf21, hR1, rfl⟩
                refine W_as 21 hf21 rfl ?_
                clear hf21
                obtain ⟨hk, hOk, hSk, hTk, hnk⟩ := hR1
                clear hv5' hsl6
                have hzk := hnk.size
                have hlen : ((L.take k).map (reM lb) ++ L.drop k).length = L.length := by rw [List.length_append, List.length_map, List.length_take, List.length_drop]; omega
                refine W_seq ?_
                refine W_seq ?_
                refine W_region ?_
                refine L_r (r_mi rfl) ?_
                refine L_r (r_mv) ?_
                refine L_r (r_lenSl Try.underlying30 (by conv => lhs; whnf) Sl.au) ?_
                refine L_r (r_lss rfl rfl) ?_
                refine L_nil ?_
                refine W_if rfl (fun h174 => ?_) (fun h174 => ?_)
                · have hkl : k < L.length := by omega
                  have hcl := cells_life L lb k hkl
                  have hrow1 := cellsM_row ((L.take (k + 1)).map (reM lb) ++ L.drop (k + 1)) k (by rw [List.length_append, List.length_map, List.length_take, List.length_drop]; omega)
                  have hrow2 := cellsM_row (L.map (reM lb)) k (by rw [List.length_map]; exact hkl)
                  have hg1 : ((L.take (k + 1)).map (reM lb) ++ L.drop (k + 1))[k]'(by rw [List.length_append, List.length_map, List.length_take, List.length_drop]; omega) = reM lb L[k] := by
                    rw [List.getElem_append_left (by rw [List.length_map, List.length_take]; omega), List.getElem_map, List.getElem_take]
                  have hg2 : (L.map (reM lb))[k]'(by rw [List.length_map]; exact hkl) = reM lb L[k] := List.getElem_map _
                  rw [hg1] at hrow1
                  rw [hg2] at hrow2
                  obtain ⟨m, hme⟩ : ∃ m, m = L[k] := ⟨_, rfl⟩
                  rw [← hme] at hrow1 hrow2
                  refine W_skip ?_
                  refine W_seq ?_
                  refine W_block ?_
                  refine W_seq ?_
                  refine W_region ?_
                  refine L_r (r_mv) ?_
                  refine L_r (r_mi rfl) ?_
                  refine L_r (r_mi rfl) ?_
                  refine L_r (r_ix Try.underlying30 (show _ = some 8 from rfl) (by conv => lhs; whnf) rfl Sl.au) ?_
                  refine L_r (r_fieldSl Try.underlying33 rfl (show _ = some 1 from rfl) rfl (show _ = 1 from rfl) rfl rfl) ?_
                  refine L_setOw (.plain rfl) rfl rfl (u := .int _ _) rfl rfl Ow.au (by first | decide | (simp only [List.length_set, cellsM_length]; omega) | (simp; done) | omega) (fun w30 hb30 hs30 c30 => ?_)
                  have hOk2 : Ow w30 w0.heap.size 33 8 v163 L.length (cellsM ((L.take (k + 1)).map (reM lb) ++ L.drop (k + 1))) := by rw [← hcl]; assumption
                  have hTk2 := hTk.ch (w' := w30) (X := fun j => v163.ownBlock = some j) Ch.au hNF hNG
                  have hSk2 : Sl w30 v165 8 L.length (cellsM (L.map (reM lb))) := Sl.au
                  clear hOk
                  refine L_nil ?_
                  refine W_seq ?_
                  refine W_still (by kernel_rfl) (by kernel_rfl) (fun w31 c31 hs31 => ?_)
                  refine H_r (r_mv) ?_
                  refine H_r (r_mi rfl) ?_
                  refine H_r (r_ix Try.underlying30 (show _ = some 8 from rfl) (by conv => lhs; whnf) rfl Sl.au) ?_
                  refine H_r (r_loadSlrow (us := [.int .i64 m.kind, .int .u64 lb, .int .u64 m.seq, .int .u64 m.below, .int .u64 m.object, .string m.method, .int .i64 m.way, .string m.body]) Try.underlying33 rfl rfl rfl rfl Sl.au (by exact hrow1)) ?_
                  refine H_r (r_mv) ?_
                  refine H_r (r_mi rfl) ?_
                  refine H_r (r_ix Try.underlying30 (show _ = some 8 from rfl) (by conv => lhs; whnf) rfl Sl.au) ?_
                  refine H_r (r_loadSlrow (us := [.int .i64 m.kind, .int .u64 lb, .int .u64 m.seq, .int .u64 m.below, .int .u64 m.object, .string m.method, .int .i64 m.way, .string m.body]) Try.underlying33 rfl rfl rfl rfl Sl.au (by exact hrow2)) ?_
                  refine H_r (r_neqR (xs := #[.int _ _, .int _ _, .int _ _, .int _ _, .int _ _, .string _, .int _ _, .string _]) (ys := #[.int _ _, .int _ _, .int _ _, .int _ _, .int _ _, .string _, .int _ _, .string _]) rfl rfl (by kernel_rfl) (eqMsg _ _ _ _ _ _ _ _ _ _ _ _ _ _ _ _ _)) ?_
                  refine H_nil ?_
                  refine W_if rfl (fun h190 => ?_) (fun h190 => ?_)
                  · exact absurd ⟨rfl, rfl, rfl, rfl, rfl, rfl, rfl, rfl⟩ h190
                  · refine W_skip ?_
                    refine W_region ?_
                    refine L_r (r_mi rfl) ?_
                    refine L_r (r_add rfl rfl (by first | exact wr_i64 (by omega) | rfl)) ?_
                    refine L_r (r_ai rfl) ?_
                    refine L_nil ?_
                    refine ⟨⟨fx2, fx2, fx2, fx2, fx2, fx2, fx2, fx2, trivial⟩, _, ?_, k + 1, rfl, ?_, rfl⟩
                    · omega
                    exact ⟨by omega, Ow.au, Sl.au, hTk2.nw Ch.au, Ch.au⟩
                · have hT5 := hTk
                  have hL5 := hL3.out0
                  have hla5 : ({ C3 with out := [] } : Cal).life = la := hla3
                  obtain ⟨Fx, hFx⟩ : ∃ x, x = F4 := ⟨_, rfl⟩
                  obtain ⟨Gx, hGx⟩ : ∃ x, x = G4 := ⟨_, rfl⟩
                  obtain ⟨Cx, hCx⟩ : ∃ x, x = ({ C3 with out := [] } : Cal) := ⟨_, rfl⟩
                  refine W_exit ?_
                  repeat (first | refine blk_hit ?_ | refine blk_miss rfl ?_)
                  refine ⟨⟨fx2, fx2, fx2, fx2, fx2, fx2, trivial⟩, Fx, Gx, Cx, trivial, ?_⟩
                  subst hFx hGx hCx
                  first
                  | exact ⟨by omega, by omega, hT.nw Ch.au, hL.mono (by omega), hla, Ch.au⟩
                  | exact ⟨by omega, by omega, hT5.nw Ch.au, hL5, hla5, Ch.au⟩
          rintro gcb1 w32 ⟨F2, G2, C2, -, hCb1⟩
          refine W_region ?_
          refine L_r (r_mi rfl) ?_
          refine L_r (r_add rfl rfl (by first | exact wr_i64 (by omega) | rfl)) ?_
          refine L_r (r_ai rfl) ?_
          refine L_nil ?_
          refine ⟨⟨fx2, fx2, fx2, fx2, fx2, trivial⟩, _, ?_, i + 1, F2, G2, C2, rfl, ?_, rfl⟩
          · omega
          exact hCb1
        · refine W_exit ?_
          repeat (first | refine blk_hit ?_ | refine blk_miss rfl ?_)
          refine W_seq ?_
          have q4 := hL.2.2.2
          refine W_region ?_
          refine L_r (r_mp rfl) ?_
          refine L_call (.plain rfl) rfl rfl (r_call Try.func13 rfl rfl rfl (by rfl)) (results_use _ F b C _ (hT.x.nw Ch.au) (by omega)) ?_
          rintro v192 w33 ⟨v8, rfl, hv8, c33⟩
          have hz33 := c33.size
          have hsl8 := hv8.sl
          refine L_r (r_mp rfl) ?_
          refine L_call (.plain rfl) rfl rfl (r_call Try.func13 rfl rfl rfl (by rfl)) (results_use _ G d (reC lb C) _ (hT.y.nw Ch.au) (by show C.res.length ≤ _; omega)) ?_
          rintro v194 w34 ⟨v9, rfl, hv9, c34⟩
          have hz34 := c34.size
          have hsl9 : Sl w34 v194 3 C.res.length (cellsT C.res) := hv9.sl
          refine L_call (.plain rfl) rfl rfl (r_call Try.func25 rfl rfl rfl (by rfl)) (samer_walk _ _ C.res _ Sl.au Sl.au (by omega)) ?_
          rintro v195 w35 ⟨rfl, c35⟩
          have hz35 := c35.size
          refine L_r (r_ab rfl) ?_
          refine L_nil ?_
          refine W_ret ?_
          refine ret1 (v := .bool _) rfl rfl ?_
          exact ⟨rfl, Ch.au⟩
      · refine L_ps ?_
        refine L_ps ?_
        refine L_r (r_pf rfl rfl) ?_
        refine L_nil ?_
        refine W_false rfl ?_
        refine W_exit ?_
        repeat (first | refine blk_hit ?_ | refine blk_miss rfl ?_)
        refine W_seq ?_
        have q4 := hL.2.2.2
        refine W_region ?_
        refine L_r (r_mp rfl) ?_
        refine L_call (.plain rfl) rfl rfl (r_call Try.func13 rfl rfl rfl (by rfl)) (results_use _ F b C _ (hT.x.nw Ch.au) (by omega)) ?_
        rintro v192 w36 ⟨v8, rfl, hv8, c36⟩
        have hz36 := c36.size
        have hsl8 := hv8.sl
        refine L_r (r_mp rfl) ?_
        refine L_call (.plain rfl) rfl rfl (r_call Try.func13 rfl rfl rfl (by rfl)) (results_use _ G d (reC lb C) _ (hT.y.nw Ch.au) (by show C.res.length ≤ _; omega)) ?_
        rintro v194 w37 ⟨v9, rfl, hv9, c37⟩
        have hz37 := c37.size
        have hsl9 : Sl w37 v194 3 C.res.length (cellsT C.res) := hv9.sl
        refine L_call (.plain rfl) rfl rfl (r_call Try.func25 rfl rfl rfl (by rfl)) (samer_walk _ _ C.res _ Sl.au Sl.au (by omega)) ?_
        rintro v195 w38 ⟨rfl, c38⟩
        have hz38 := c38.size
        refine L_r (r_ab rfl) ?_
        refine L_nil ?_
        refine W_ret ?_
        refine ret1 (v := .bool _) rfl rfl ?_
        exact ⟨rfl, Ch.au⟩
theorem CallerLives_walk (la lb : Int) (v2 : Value) (z : List SAct) (w0 : World) (x0 : 0 ≤ la ∧ la ≤ 18446744073709551615) (x1 : 0 ≤ lb ∧ lb ≤ 18446744073709551615) (y1 : Sl w0 v2 9 z.length (cellsS z) ∧ ∀ a ∈ z, a.m.ok) :
    Does Try.prog 8 #[.int .u64 la, .int .u64 lb, v2] w0 (fun r w' => r = .bool true ∧ Nw w0 w') := by
  by_cases hn : la = 0 ∨ lb = 0
  · exact lives_out la lb v2 w0 hn
  · exact lives_in la lb v2 z w0 (by omega) y1.1
end Go.Proofs.Ytjjddbicggfgnaa

