/- A caller: made; told of; what it is to send, and how calls went. -/
import Derived.Test.YtjjddbicggfgnaaCalW
namespace Go.Proofs.Ytjjddbicggfgnaa
open Go Go.RowKit
set_option linter.unusedVariables false
set_option linter.unusedSimpArgs false
set_option maxRecDepth 100000
variable {base : Nat} {F : Nat → Prop} {w w' : World} {b bm : Nat} {vo vr : Value} {g : Int → Nat} {C : Cal}
theorem new_none (life wait most : Int) (w0 : World) (hn : life = 0 ∨ wait < 1 ∨ 1000 < wait ∨ most < 1 ∨ 1000 < most) : Does Try.prog 9 #[.int .u64 life, .int .i64 wait, .int .i64 most] w0 (fun r w' => r = .tuple #[.pointer none, .int .i64 140] ∧ w' = w0) := by
  refine fn_of (n := 32) (args := [.int .u64 life, .int .i64 wait, .int .i64 most]) Try.func9 rfl rfl rfl ?_
  refine W_seq ?_
  refine W_region ?_
  refine L_r (r_ap rfl) ?_
  refine L_r (r_ai rfl) ?_
  refine L_nil ?_
  refine W_seq ?_
  refine W_seq ?_
  refine W_region ?_
  refine L_r (r_mi rfl) ?_
  refine L_r (r_eql rfl rfl) ?_
  refine L_r (r_mb rfl) ?_
  refine L_case (d := 10) rfl (fun h10 => ?_) (fun h10 => ?_)
  · refine L_ps ?_
    refine L_ps ?_
    refine L_r (r_pt rfl rfl) ?_
    refine L_r (r_mb rfl) ?_
    refine L_ps ?_
    refine L_ps ?_
    refine L_r (r_pt rfl rfl) ?_
    refine L_r (r_mb rfl) ?_
    refine L_ps ?_
    refine L_ps ?_
    refine L_r (r_pt rfl rfl) ?_
    refine L_r (r_mb rfl) ?_
    refine L_ps ?_
    refine L_ps ?_
    refine L_r (r_pt rfl rfl) ?_
    refine L_nil ?_
    refine W_true rfl ?_
    refine W_seq ?_
    refine W_region ?_
    refine L_r (r_ap rfl) ?_
    refine L_r (r_ai rfl) ?_
    refine L_nil ?_
    refine W_ret ?_
    refine ret2 (u := .pointer _) (v := .int _ _) rfl rfl rfl ?_
    exact ⟨rfl, rfl⟩
  · refine L_g (r_mi rfl) ?_
    refine L_g (r_lss rfl rfl) ?_
    refine L_r (r_pf rfl rfl) ?_
    refine L_r (r_mb rfl) ?_
    refine L_case (d := 14) rfl (fun h14 => ?_) (fun h14 => ?_)
    · refine L_ps ?_
      refine L_ps ?_
      refine L_r (r_pt rfl rfl) ?_
      refine L_r (r_mb rfl) ?_
      refine L_ps ?_
      refine L_ps ?_
      refine L_r (r_pt rfl rfl) ?_
      refine L_r (r_mb rfl) ?_
      refine L_ps ?_
      refine L_ps ?_
      refine L_r (r_pt rfl rfl) ?_
      refine L_nil ?_
      refine W_true rfl ?_
      refine W_seq ?_
      refine W_region ?_
      refine L_r (r_ap rfl) ?_
      refine L_r (r_ai rfl) ?_
      refine L_nil ?_
      refine W_ret ?_
      refine ret2 (u := .pointer _) (v := .int _ _) rfl rfl rfl ?_
      exact ⟨rfl, rfl⟩
    · refine L_g (r_mi rfl) ?_
      refine L_g (r_gtr rfl rfl) ?_
      refine L_r (r_pf rfl rfl) ?_
      refine L_r (r_mb rfl) ?_
      refine L_case (d := 18) rfl (fun h18 => ?_) (fun h18 => ?_)
      · refine L_ps ?_
        refine L_ps ?_
        refine L_r (r_pt rfl rfl) ?_
        refine L_r (r_mb rfl) ?_
        refine L_ps ?_
        refine L_ps ?_
        refine L_r (r_pt rfl rfl) ?_
        refine L_nil ?_
        refine W_true rfl ?_
        refine W_seq ?_
        refine W_region ?_
        refine L_r (r_ap rfl) ?_
        refine L_r (r_ai rfl) ?_
        refine L_nil ?_
        refine W_ret ?_
        refine ret2 (u := .pointer _) (v := .int _ _) rfl rfl rfl ?_
        exact ⟨rfl, rfl⟩
      · refine L_g (r_mi rfl) ?_
        refine L_g (r_lss rfl rfl) ?_
        refine L_r (r_pf rfl rfl) ?_
        refine L_r (r_mb rfl) ?_
        refine L_case (d := 22) rfl (fun h22 => ?_) (fun h22 => ?_)
        · refine L_ps ?_
          refine L_ps ?_
          refine L_r (r_pt rfl rfl) ?_
          refine L_nil ?_
          refine W_true rfl ?_
          refine W_seq ?_
          refine W_region ?_
          refine L_r (r_ap rfl) ?_
          refine L_r (r_ai rfl) ?_
          refine L_nil ?_
          refine W_ret ?_
          refine ret2 (u := .pointer _) (v := .int _ _) rfl rfl rfl ?_
          exact ⟨rfl, rfl⟩
        · refine L_g (r_mi rfl) ?_
          refine L_g (r_gtr rfl rfl) ?_
          refine L_r (r_pf rfl rfl) ?_
          refine L_nil ?_
          refine W_if rfl (fun h25 => ?_) (fun h25 => ?_)
          · refine W_seq ?_
            refine W_region ?_
            refine L_r (r_ap rfl) ?_
            refine L_r (r_ai rfl) ?_
            refine L_nil ?_
            refine W_ret ?_
            refine ret2 (u := .pointer _) (v := .int _ _) rfl rfl rfl ?_
            exact ⟨rfl, rfl⟩
          · omega
abbrev cal0 (life wait most : Int) : Cal := ⟨life, wait, most, 0, [], [], []⟩
theorem cal0_good {life wait most : Int} (h : 1 ≤ wait ∧ wait ≤ 1000 ∧ 1 ≤ most ∧ most ≤ 1000) : (cal0 life wait most).Good :=
  ⟨⟨List.Pairwise.nil, fun p hp => absurd hp (by simp), by show (0 : Int) ≤ 0 ∧ (0 : Int) ≤ 1000000; omega⟩, fun p hp => absurd hp (by simp), fun p hp => absurd hp (by simp), h⟩
theorem new_walk (life wait most : Int) (w0 : World) (hn : life ≠ 0 ∧ 1 ≤ wait ∧ wait ≤ 1000 ∧ 1 ≤ most ∧ most ≤ 1000) : Does Try.prog 9 #[.int .u64 life, .int .i64 wait, .int .i64 most] w0 (fun r w' => ∃ b bm, r = .tuple #[.pointer (some ⟨b, 0, none⟩), .int .i64 0] ∧ CalAt w0.heap.size (fun j => w0.heap.size ≤ j ∧ j < w'.heap.size) w' b bm (.slice none 0 0) (.slice none 0 0) (fun _ => 0) (cal0 life wait most) ∧ Nw w0 w') := by
  refine fn_of (n := 32) (args := [.int .u64 life, .int .i64 wait, .int .i64 most]) Try.func9 rfl rfl rfl ?_
  refine W_seq ?_
  refine W_region ?_
  refine L_r (r_ap rfl) ?_
  refine L_r (r_ai rfl) ?_
  refine L_nil ?_
  refine W_seq ?_
  refine W_seq ?_
  refine W_region ?_
  refine L_r (r_mi rfl) ?_
  refine L_r (r_eql rfl rfl) ?_
  refine L_r (r_mb rfl) ?_
  refine L_case (d := 10) rfl (fun h10 => ?_) (fun h10 => ?_)
  · omega
  · refine L_g (r_mi rfl) ?_
    refine L_g (r_lss rfl rfl) ?_
    refine L_r (r_pf rfl rfl) ?_
    refine L_r (r_mb rfl) ?_
    refine L_case (d := 14) rfl (fun h14 => ?_) (fun h14 => ?_)
    · omega
    · refine L_g (r_mi rfl) ?_
      refine L_g (r_gtr rfl rfl) ?_
      refine L_r (r_pf rfl rfl) ?_
      refine L_r (r_mb rfl) ?_
      refine L_case (d := 18) rfl (fun h18 => ?_) (fun h18 => ?_)
      · omega
      · refine L_g (r_mi rfl) ?_
        refine L_g (r_lss rfl rfl) ?_
        refine L_r (r_pf rfl rfl) ?_
        refine L_r (r_mb rfl) ?_
        refine L_case (d := 22) rfl (fun h22 => ?_) (fun h22 => ?_)
        · omega
        · refine L_g (r_mi rfl) ?_
          refine L_g (r_gtr rfl rfl) ?_
          refine L_r (r_pf rfl rfl) ?_
          refine L_nil ?_
          refine W_if rfl (fun h25 => ?_) (fun h25 => ?_)
          · omega
          · refine W_skip ?_
            refine W_seq ?_
            refine W_region ?_
            refine L_r (r_mi rfl) ?_
            refine L_r (r_mi rfl) ?_
            refine L_r (r_mi rfl) ?_
            refine L_mkmap (K := Int) (V := Value) (.int .u64) (idv) (.plain rfl) rfl (fun w1 b29 hb29 eb1 hs1 c1 => ?_)
            refine L_r (r_build1 (pl := [(0, 1), (1, 1), (2, 1), (3, 1), (4, 1), (5, 1), (6, 1)]) (vs := [(0, .int _ _), (1, .int _ _), (2, .int _ _), (4, .map _)]) (cells := [_, _, _, _, _, _, _]) Try.underlying65 rfl rfl (by rfl) rfl (by rfl)) ?_
            refine L_new (.plain rfl) rfl rfl (r_boxa rfl) (fun w2 b31 hb31 eb2 hs2 c2 => ?_)
            refine L_r (r_ap rfl) ?_
            refine L_r (r_ai rfl) ?_
            refine L_nil ?_
            refine W_ret ?_
            refine ret2 (u := .pointer _) (v := .int _ _) rfl rfl rfl ?_
            refine ⟨_, _, rfl, ⟨Bk.au, Mp.au, fun p hp => absurd hp (by simp), fun p hp => absurd hp (by simp), Ow.nil _ _ _ _, Ow.nil _ _ _ _, ?_, ?_, fun j hj => absurd hj (by simp [Value.ownBlock]), fun j hj => absurd hj (by simp [Value.ownBlock]), fun p hp => absurd hp (by simp), fun j hj => hj⟩, Ch.au⟩ <;> omega
theorem life_walk (base : Nat) (F : Nat → Prop) (b bm : Nat) (vo vr : Value) (g : Int → Nat) (C : Cal) (w0 : World) (hC : CalAt base F w0 b bm vo vr g C) : Does Try.prog 15 #[.pointer (some ⟨b, 0, none⟩)] w0 (fun r w' => r = .int .u64 C.life ∧ w' = w0) := by
  have hbk := hC.bk
  refine fn_of (n := 7) (args := [.pointer (some ⟨b, 0, none⟩)]) Try.func15 rfl rfl rfl ?_
  refine W_seq ?_
  refine W_region ?_
  refine L_r (r_ai rfl) ?_
  refine L_nil ?_
  refine W_seq ?_
  refine W_region ?_
  refine L_r (r_mp rfl) ?_
  refine L_r (r_nilCheck rfl) ?_
  refine L_r (r_fieldb Try.underlying65 rfl (show _ = some 1 from rfl) rfl rfl (show _ = 0 from rfl)) ?_
  refine L_r (r_lb rfl rfl) ?_
  refine L_r (r_ai rfl) ?_
  refine L_nil ?_
  refine W_ret ?_
  refine ret1 (v := .int _ _) rfl rfl ?_
  exact ⟨rfl, rfl⟩
theorem open_walk (base : Nat) (F : Nat → Prop) (b bm : Nat) (vo vr : Value) (g : Int → Nat) (C : Cal) (w0 : World) (hC : CalAt base F w0 b bm vo vr g C) : Does Try.prog 21 #[.pointer (some ⟨b, 0, none⟩)] w0 (fun r w' => r = .int .i64 (C.op.length : Int) ∧ w' = w0) := by
  have hbk := hC.bk
  have hmp := hC.mp
  refine fn_of (n := 8) (args := [.pointer (some ⟨b, 0, none⟩)]) Try.func21 rfl rfl rfl ?_
  refine W_seq ?_
  refine W_region ?_
  refine L_r (r_ai rfl) ?_
  refine L_nil ?_
  refine W_seq ?_
  refine W_region ?_
  refine L_r (r_mp rfl) ?_
  refine L_r (r_nilCheck rfl) ?_
  refine L_r (r_fieldb Try.underlying65 rfl (show _ = some 1 from rfl) rfl rfl (show _ = 4 from rfl)) ?_
  refine L_r (r_lb rfl rfl) ?_
  refine L_r (r_lenMap Try.underlying63 rfl Mp.au) ?_
  refine L_r (r_ai rfl) ?_
  refine L_nil ?_
  refine W_ret ?_
  refine ret1 (v := .int _ _) rfl rfl ?_
  exact ⟨by rw [pm_len], rfl⟩
theorem below_use (base : Nat) (F : Nat → Prop) (b bm : Nat) (vo vr : Value) (g : Int → Nat) (C : Cal) (w0 : World) (hC : CalAt base F w0 b bm vo vr g C) (hG : C.Good) (hL : C.op.length ≤ 100000) :
    Does Try.prog 23 #[.pointer (some ⟨b, 0, none⟩)] w0 (fun r w' => r = .int .u64 (belowC C) ∧ Nw w0 w') :=
  below_walk b bm vo vr g C w0 hC.bk hC.mp hG.toAsc hL
theorem out_walk (base : Nat) (F : Nat → Prop) (b bm : Nat) (vo vr : Value) (g : Int → Nat) (C : Cal) (w0 : World) (hC : CalAt base F w0 b bm vo vr g C) : Does Try.prog 12 #[.pointer (some ⟨b, 0, none⟩)] w0 (fun r w' => r = vo ∧ Sl w' vo 8 C.out.length (cellsM C.out) ∧ Ow w' base 33 8 vo C.out.length (cellsM C.out) ∧ CalAt base (fun j => F j ∧ vo.ownBlock ≠ some j) w' b bm (.slice none 0 0) vr g { C with out := [] } ∧ CalC base F w0 w') := by
  have hbk := hC.bk
  have how := hC.ow
  have hnv := hC.nov
  have hnv1 := hnv.1
  refine fn_of (n := 12) (args := [.pointer (some ⟨b, 0, none⟩)]) Try.func12 rfl rfl rfl ?_
  refine W_seq ?_
  refine W_region ?_
  refine L_r (r_av) ?_
  refine L_nil ?_
  refine W_seq ?_
  refine W_region ?_
  refine L_r (r_mp rfl) ?_
  refine L_r (r_nilCheck rfl) ?_
  refine L_r (r_fieldb Try.underlying65 rfl (show _ = some 1 from rfl) rfl rfl (show _ = 5 from rfl)) ?_
  refine L_r (r_lb rfl rfl) ?_
  refine L_r (r_av) ?_
  refine L_nil ?_
  refine W_seq ?_
  refine W_region ?_
  refine L_r (r_mp rfl) ?_
  refine L_r (r_nilCheck rfl) ?_
  refine L_r (r_fieldb Try.underlying65 rfl (show _ = some 1 from rfl) rfl rfl (show _ = 5 from rfl)) ?_
  refine L_set (.plain rfl) rfl Bk.au (r_store rfl rfl (by conv => lhs; whnf) (by first | rfl | exact ow_one (by assumption) | exact own_one (by assumption) | exact sl_one (by assumption)) Bk.au (by first | decide | (simp; done) | omega)) (fun w1 hb1 hs1 c1 => ?_)
  try simp only [List.setIfInBounds_toArray, List.set_cons_zero, List.set_cons_succ] at hb1
  refine L_nil ?_
  refine W_seq ?_
  refine W_region ?_
  refine L_r (r_mv) ?_
  refine L_r (r_av) ?_
  refine L_nil ?_
  refine W_ret ?_
  refine ret1 rfl (by conv => lhs; whnf) ?_
  have hc : Ch (fun j => j = b) w0 w1 := Ch.au
  have ho : Ow w1 base 33 8 vo C.out.length (cellsM C.out) := Ow.au
  refine ⟨rfl, ho.sl, ho, ⟨Bk.au, hC.mp.ch hc (fun e => hC.ne e), fun p hp => (hC.cl p hp).ch hc (fun e => (hC.nec hp).1 e), hC.inj, Ow.nil _ _ _ _, hC.wr.to fun i hi => Sm.step hc (fun _ e => by have e' : i = b := e; rw [e'] at hi; exact hnv.2.2.1 hi) (Sm.refl _ _), ⟨hC.fb, hnv1⟩, ⟨hC.fm, hnv.2.1⟩, fun j hj => absurd hj (by simp [Value.ownBlock]), fun j hj => ⟨hC.fr j hj, fun e => hnv.2.2.2.2 j e hj⟩, fun p hp => ⟨hC.fc p hp, (hC.nec hp).2.2.1⟩, fun j hj => ⟨(hC.fF j hj.1).1, Nat.lt_of_lt_of_le (hC.fF j hj.1).2 hc.size⟩⟩, hc.mono fun i _ e => ?_⟩
  have e' : i = b := e
  subst e'
  exact ⟨(hC.fF _ hC.fb).1, hC.fb⟩
theorem rclone_walk (v : Value) (L : List Rst) (w0 : World) (hv : Sl w0 v 3 L.length (cellsT L)) (hl : L.length ≤ 1000000) : Does Try.prog 28 #[v] w0 (fun r w' => ∃ v', r = v' ∧ Ow w' w0.heap.size 58 3 v' L.length (cellsT L) ∧ Nw w0 w') := by
  refine fn_of (n := 8) (args := [v]) Try.func28 rfl rfl rfl ?_
  refine W_seq ?_
  refine W_region ?_
  refine L_r (r_av) ?_
  refine L_nil ?_
  refine W_seq ?_
  refine W_seq ?_
  refine W_region ?_
  refine L_r (r_mv) ?_
  refine L_r (r_eqnilSl Try.underlying34 (by conv => lhs; whnf) rfl Sl.au) ?_
  refine L_nil ?_
  refine W_bool rfl (fun h4 => ?_) (fun h4 => ?_)
  · refine W_seq ?_
    refine W_region ?_
    refine L_r (r_av) ?_
    refine L_nil ?_
    refine W_ret ?_
    refine ret1 rfl (by conv => lhs; whnf) ?_
    first
      | (obtain ⟨hq, hq2⟩ := nilS_true hv (by assumption)
         refine ⟨_, rfl, ?_, Ch.au⟩
         have : L = [] := List.eq_nil_of_length_eq_zero hq2
         subst this
         exact Ow.nil _ _ _ _)
      | (refine ⟨_, rfl, ?_, Ch.au⟩
         have := ho7
         rw [Nat.zero_add, List.nil_append] at this
         exact this)
  · refine W_skip ?_
    refine W_seq ?_
    refine W_region ?_
    refine L_build0 (sz := 3) Try.underlying34 rfl (.plain rfl) rfl (fun v5 w1 ho5 eb1 nl5 hs1 c1 => ?_)
    refine L_r (r_mv) ?_
    refine L_apow Try.underlying34 rst_info rfl (by decide) (.plain rfl) rfl (by conv => lhs; whnf) (by conv => lhs; whnf) (Ow.of Own.au) Sl.au (cellsT_one L) (by unfold maxLen; omega) (by omega) (by omega) (fun v7 w2 ho7 c2 hob7 => ?_)
    have hz2 := c2.size
    refine L_r (r_av) ?_
    refine L_nil ?_
    refine W_ret ?_
    refine ret1 rfl (by conv => lhs; whnf) ?_
    first
      | (obtain ⟨hq, hq2⟩ := nilS_true hv (by assumption)
         refine ⟨_, rfl, ?_, Ch.au⟩
         have : L = [] := List.eq_nil_of_length_eq_zero hq2
         subst this
         exact Ow.nil _ _ _ _)
      | (refine ⟨_, rfl, ?_, Ch.au⟩
         have := ho7
         rw [Nat.zero_add, List.nil_append] at this
         exact this)
theorem results_walk (base : Nat) (F : Nat → Prop) (b bm : Nat) (vo vr : Value) (g : Int → Nat) (C : Cal) (w0 : World) (hC : CalAt base F w0 b bm vo vr g C) (hl : C.res.length ≤ 1000000) : Does Try.prog 13 #[.pointer (some ⟨b, 0, none⟩)] w0 (fun r w' => ∃ v', r = v' ∧ Ow w' w0.heap.size 58 3 v' C.res.length (cellsT C.res) ∧ Nw w0 w') := by
  have hbk := hC.bk
  have hv := hC.wr.sl
  refine fn_of (n := 8) (args := [.pointer (some ⟨b, 0, none⟩)]) Try.func13 rfl rfl rfl ?_
  refine W_seq ?_
  refine W_region ?_
  refine L_r (r_av) ?_
  refine L_nil ?_
  refine W_seq ?_
  refine W_region ?_
  refine L_r (r_mp rfl) ?_
  refine L_r (r_nilCheck rfl) ?_
  refine L_r (r_fieldb Try.underlying65 rfl (show _ = some 1 from rfl) rfl rfl (show _ = 6 from rfl)) ?_
  refine L_r (r_lb rfl rfl) ?_
  refine L_call (.plain rfl) rfl rfl (r_call Try.func28 rfl rfl rfl (by rfl)) (rclone_walk vr C.res _ hv hl) ?_
  rintro v7 w1 ⟨v', rfl, hv', c1⟩
  have hz1 := c1.size
  refine L_r (r_av) ?_
  refine L_nil ?_
  refine W_ret ?_
  refine ret1 rfl (by conv => lhs; whnf) ?_
  exact ⟨_, rfl, hv', Ch.au⟩
end Go.Proofs.Ytjjddbicggfgnaa

