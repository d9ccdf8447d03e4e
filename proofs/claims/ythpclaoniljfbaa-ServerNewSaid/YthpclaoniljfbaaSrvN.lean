/- ServerNew, walked. -/
import Derived.Test.YthpclaoniljfbaaSrvK
namespace Go.Proofs.Ythpclaoniljfbaa
open Go Go.RowKit
set_option linter.unusedVariables false
set_option linter.unusedSimpArgs false
/-! ### what was started doesn't matter -/
theorem recv1_st (S : Srv) (x : List (Int × Int)) (m : Msg) : recv1 { S with st := x } m = { recv1 S m with st := x } := by
  by_cases h : S.life < m.life
  · exact (if_pos h).trans (by unfold recv1; rw [if_pos h])
  · exact (if_neg h).trans (by unfold recv1; rw [if_neg h])
theorem recv2_st (S : Srv) (x : List (Int × Int)) (m : Msg) : recv2 { S with st := x } m = { recv2 S m with st := x } := by
  by_cases h : S.floor < m.below
  · exact (if_pos h).trans (by unfold recv2; rw [if_pos h])
  · exact (if_neg h).trans (by unfold recv2; rw [if_neg h])
theorem recv3_st (S : Srv) (x : List (Int × Int)) (m : Msg) : ∃ y, y.length ≤ x.length + 1 ∧ recv3 { S with st := x } m = ({ (recv3 S m).1 with st := y }, (recv3 S m).2.1, (recv3 S m).2.2) := by
  by_cases hl : m.seq < S.floor
  · exact ⟨x, Nat.le_succ _, by rw [recv3_low hl, recv3_low (S := { S with st := x }) hl]⟩
  · cases hs : (mget S.kept m.seq).isSome with
    | true =>
      cases hz : decide ((mget S.kept m.seq).getD Msg.zero = Msg.zero) with
      | true => exact ⟨x, Nat.le_succ _, by rw [recv3_run hs hz, recv3_run (S := { S with st := x }) hs hz]⟩
      | false => exact ⟨x, Nat.le_succ _, by rw [recv3_old hl hs hz, recv3_old (S := { S with st := x }) hl hs hz]⟩
    | false =>
      by_cases hf : S.most ≤ (S.kept.length : Int)
      · exact ⟨x, Nat.le_succ _, by rw [recv3_full hl hs hf, recv3_full (S := { S with st := x }) hl hs hf]⟩
      · exact ⟨x ++ [(m.life, m.seq)], by rw [List.length_append]; exact Nat.le_refl _, by rw [recv3_new hl hs hf, recv3_new (S := { S with st := x }) hl hs hf]⟩
theorem recv_st (S : Srv) (x : List (Int × Int)) (m : Msg) : ∃ y, y.length ≤ x.length + 1 ∧ recv { S with st := x } m = ({ (recv S m).1 with st := y }, (recv S m).2.1, (recv S m).2.2) := by
  by_cases h : checkC m ≠ 0 ∨ m.kind ≠ 0 ∨ m.life < S.life
  · refine ⟨x, Nat.le_succ _, (if_pos h).trans ?_⟩
    unfold recv; rw [if_pos h]
  · obtain ⟨y, h1, h2⟩ := recv3_st (recv2 (recv1 S m) m) x m
    refine ⟨y, h1, (if_neg h).trans ?_⟩
    rw [recv1_st, recv2_st, h2]
    unfold recv; rw [if_neg h]
theorem fin_st (S : Srv) (x : List (Int × Int)) (life seq way : Int) (body : ByteArray) : fin { S with st := x } life seq way body = ({ (fin S life seq way body).1 with st := x }, (fin S life seq way body).2.1, (fin S life seq way body).2.2) := by
  by_cases h : life ≠ S.life ∨ mget S.kept seq ≠ some Msg.zero
  · refine (if_pos h).trans ?_
    unfold fin; rw [if_pos h]
  · refine (if_neg h).trans ?_
    by_cases h2 : checkC (repM life seq way body) ≠ 0
    · refine (if_pos h2).trans ?_
      unfold fin; rw [if_neg h, if_pos h2]
    · refine (if_neg h2).trans ?_
      unfold fin; rw [if_neg h, if_neg h2]
theorem recv_life (S : Srv) (m : Msg) : (recv S m).1.life = S.life ∨ (recv S m).1.life = m.life := by
  unfold recv
  split
  · exact .inl rfl
  · have h1 : (recv1 S m).life = S.life ∨ (recv1 S m).life = m.life := by
      unfold recv1; split
      · exact .inr rfl
      · exact .inl rfl
    rw [← (recv2_same (recv1 S m) m).2.2.2] at h1
    generalize recv2 (recv1 S m) m = S2 at *
    unfold recv3
    split
    · exact h1
    · split
      · exact h1
      · split <;> exact h1
theorem first_new (S : Srv) (h1 : S.life < 1000) (h2 : 1 ≤ S.most) : recv S (callM 1000 1 1) = (⟨S.most, 1000, 1, [(1, awZ)], S.st ++ [(1000, 1)]⟩, 1, awZ) := by
  have hc : checkC (callM 1000 1 1) = 0 := by kernel_rfl
  unfold recv
  rw [if_neg (by rintro (k | k | k); exact k hc; exact k rfl; (have k' : (1000 : Int) < S.life := k; omega))]
  have e1 : recv1 S (callM 1000 1 1) = ⟨S.most, 1000, 1, [], S.st⟩ := (if_pos h1).trans rfl
  have e2 : recv2 ⟨S.most, 1000, 1, [], S.st⟩ (callM 1000 1 1) = ⟨S.most, 1000, 1, [], S.st⟩ := if_neg (show ¬ (1 : Int) < 1 by decide)
  rw [e1, e2]
  exact recv3_new (S := ⟨S.most, 1000, 1, [], S.st⟩) (m := callM 1000 1 1) (show ¬ (1 : Int) < 1 by decide) rfl (by show ¬ S.most ≤ ((0 : Nat) : Int); omega)
/-! ### two servers, apart -/
def Apart (b bm : Nat) (vs : Value) (c cm : Nat) (us : Value) : Prop := ∀ j, Fp b bm vs j → ¬ Fp c cm us j
theorem Apart.symm {b bm c cm : Nat} {vs us : Value} (h : Apart b bm vs c cm us) : Apart c cm us b bm vs := fun j h1 h2 => h j h2 h1
theorem recv_two {S S' T : Srv} {m r : Msg} {k : Int} (base b bm c cm : Nat) (vs us : Value) (w0 : World) (h : recv S m = (S', k, r)) (hS : SrvAt base w0 b bm vs S) (hT : SrvAt base w0 c cm us T) (hd : Apart b bm vs c cm us) (hk : S.kept.length ≤ 50000) (hs : S.st.length ≤ 50000) (hb : base ≤ w0.heap.size) :
    Does Try.prog 12 #[.pointer (some ⟨b, 0, none⟩), m.v] w0 (fun rr w' => ∃ vs', rr = .tuple #[.int .i64 k, r.v] ∧ SrvAt base w' b bm vs' S' ∧ SrvAt base w' c cm us T ∧ Apart b bm vs' c cm us ∧ SrvT base w0 w') := by
  refine (recv_walk base b bm vs S m w0 hS (by omega) (by omega) hb).mono ?_
  rintro rr w' ⟨vs', h1, h2, h3, h4⟩
  rw [h] at h1 h2
  refine ⟨vs', h1, h2, hT.ch h3 fun j h5 h6 => hd j h6 h5, fun j h5 h6 => ?_, hS.tm h3⟩
  rcases h5 with h5 | h5 | h5
  · exact hd j (.inl h5) h6
  · exact hd j (.inr (.inl h5)) h6
  · rcases h4 j h5 with h7 | h7
    · exact hd j (.inr (.inr h7)) h6
    · have := hT.lt j h6; omega
theorem fin_two {S S' T : Srv} {r : Msg} {life seq way e : Int} {body : ByteArray} (base b bm c cm : Nat) (vs us : Value) (w0 : World) (h : fin S life seq way body = (S', r, e)) (hS : SrvAt base w0 b bm vs S) (hT : SrvAt base w0 c cm us T) (hd : Apart b bm vs c cm us) (hk : S.kept.length ≤ 50000) :
    Does Try.prog 14 #[.pointer (some ⟨b, 0, none⟩), .int .u64 life, .int .u64 seq, .int .i64 way, .string body] w0 (fun rr w' => rr = .tuple #[r.v, .int .i64 e] ∧ SrvAt base w' b bm vs S' ∧ SrvAt base w' c cm us T ∧ SrvT base w0 w') := by
  refine (fin_walk base b bm vs S life seq way body w0 hS hk).mono ?_
  rintro rr w' ⟨h1, h2, h3⟩
  rw [h] at h1 h2
  exact ⟨h1, h2, hT.ch h3 fun j h5 h6 => hd j h6 h5, hS.tm h3⟩
set_option maxHeartbeats 4000000 in
set_option maxRecDepth 100000 in
theorem ServerNew_walk (a0 : Int) (v1 : Value) (z : List SAct) (v2 : Value) (y : List SAct) (w0 : World) (y0 : 0 ≤ a0 ∧ a0 ≤ 255) (y1 : Sl w0 v1 9 z.length (cellsS z)) (y2 : Sl w0 v2 9 y.length (cellsS y)) : Does Try.prog 6 #[.int .u8 a0, v1, v2] w0 (fun r w' => r = .bool true ∧ Nw w0 w') := by
  obtain ⟨n, hn⟩ : ∃ n, n = 1 + a0 % 20 := ⟨_, rfl⟩
  have hn1 : 1 ≤ n ∧ n ≤ 20 := by omega
  refine fn_of (n := 225) (args := [.int .u8 a0, v1, v2]) Try.func6 rfl rfl rfl ?_
  refine W_seq ?_
  refine W_region ?_
  refine L_run (.plain rfl) rfl rfl (r_assign (v := .bool _) rfl) ?_
  refine L_nil ?_
  refine W_seq ?_
  refine W_region ?_
  refine L_run (.plain rfl) rfl rfl (r_move (v := .int _ _) rfl) ?_
  refine L_run (.plain rfl) rfl rfl (r_conv Try.underlying5 Try.underlying3 rfl (by first | exact wr_i64 (by omega) | rfl)) ?_
  refine L_run (.plain rfl) rfl rfl (r_remn rfl rfl (by omega) (by omega)) ?_
  refine L_run (.plain rfl) rfl rfl (r_add rfl rfl (by first | exact wr_i64 (by omega) | rfl)) ?_
  refine L_call (.plain rfl) rfl rfl (r_call Try.func8 rfl rfl rfl (by rfl)) (new_walk (1 + a0 % 20) _ (by omega)) ?_
  rintro v33 w1 ⟨b, bm, rfl, hS0, c1⟩
  have hz1 := c1.size
  rw [← hn] at hS0
  have hA0 : SrvAt w0.heap.size w1 b bm _ _ := hS0
  refine L_run (.plain rfl) rfl rfl (r_move (by conv => lhs; whnf)) ?_
  refine L_run (.plain rfl) rfl rfl (r_ext2_0 rfl) ?_
  refine L_run (.plain rfl) rfl rfl (r_ext2_1 rfl) ?_
  refine L_run (.plain rfl) rfl rfl (r_assign (v := .pointer _) rfl) ?_
  refine L_run (.plain rfl) rfl rfl (r_assign (v := .int _ _) rfl) ?_
  refine L_nil ?_
  refine W_seq ?_
  refine W_region ?_
  refine L_run (.plain rfl) rfl rfl (r_move (v := .int _ _) rfl) ?_
  refine L_run (.plain rfl) rfl rfl (r_conv Try.underlying5 Try.underlying3 rfl (by first | exact wr_i64 (by omega) | rfl)) ?_
  refine L_run (.plain rfl) rfl rfl (r_remn rfl rfl (by omega) (by omega)) ?_
  refine L_run (.plain rfl) rfl rfl (r_add rfl rfl (by first | exact wr_i64 (by omega) | rfl)) ?_
  refine L_call (.plain rfl) rfl rfl (r_call Try.func8 rfl rfl rfl (by rfl)) (new_walk (1 + a0 % 20) _ (by omega)) ?_
  rintro v41 w2 ⟨c, cm, rfl, hT0, c2⟩
  have hz2 := c2.size
  rw [← hn] at hT0
  have hB0 : SrvAt w0.heap.size w2 c cm _ _ := hT0.base' (by omega)
  have hD0 : Apart b bm (.slice none 0 0) c cm (.slice none 0 0) := fun j h1 h2 => by have h3 := hA0.lt j h1; have h4 := hT0.ge j h2; omega
  have hA1 := hA0.nw c2
  refine L_run (.plain rfl) rfl rfl (r_move (by conv => lhs; whnf)) ?_
  refine L_run (.plain rfl) rfl rfl (r_ext2_0 rfl) ?_
  refine L_run (.plain rfl) rfl rfl (r_ext2_1 rfl) ?_
  refine L_run (.plain rfl) rfl rfl (r_assign (v := .pointer _) rfl) ?_
  refine L_run (.plain rfl) rfl rfl (r_assign (v := .int _ _) rfl) ?_
  refine L_nil ?_
  refine W_seq ?_
  refine W_seq ?_
  refine W_region ?_
  refine L_call (.plain rfl) rfl rfl (r_call Try.func9 rfl rfl rfl (by rfl)) (awake_walk _) ?_
  rintro v44 w3 ⟨rfl, c3⟩
  have hz3 := c3.size
  refine L_run (.plain rfl) rfl rfl (r_not rfl) ?_
  refine L_run (.plain rfl) rfl rfl (r_move (v := .bool _) rfl) ?_
  refine L_as (v := .bool _) (v' := .bool false) 46 rfl (congrArg Value.bool (by rfl)) ?_
  refine L_run (.yes 2 false rfl rfl) rfl rfl (r_move (v := .int _ _) rfl) ?_
  refine L_run (.yes 2 false rfl rfl) rfl rfl (r_neq rfl rfl) ?_
  refine L_run (.plain rfl) rfl rfl (r_pick_f (v := .bool _) rfl rfl) ?_
  refine L_run (.plain rfl) rfl rfl (r_move (v := .bool _) rfl) ?_
  refine L_as (v := .bool _) (v' := .bool false) 50 rfl (dec_f (by simp)).symm ?_
  refine L_run (.yes 6 false rfl rfl) rfl rfl (r_move (v := .int _ _) rfl) ?_
  refine L_run (.yes 6 false rfl rfl) rfl rfl (r_neq rfl rfl) ?_
  refine L_run (.plain rfl) rfl rfl (r_pick_f (v := .bool _) rfl rfl) ?_
  refine L_run (.plain rfl) rfl rfl (r_move (v := .bool _) rfl) ?_
  refine L_as (v := .bool _) (v' := .bool false) 54 rfl (dec_f (by simp)).symm ?_
  refine L_run (.yes 10 false rfl rfl) rfl rfl (r_move (v := .pointer _) rfl) ?_
  refine L_run (.yes 10 false rfl rfl) rfl rfl (r_eqpnil Try.underlying23 rfl rfl) ?_
  refine L_run (.plain rfl) rfl rfl (r_pick_f (v := .bool _) rfl rfl) ?_
  refine L_run (.plain rfl) rfl rfl (r_move (v := .bool _) rfl) ?_
  refine L_as (v := .bool _) (v' := .bool false) 58 rfl (congrArg Value.bool (by rfl)) ?_
  refine L_run (.yes 14 false rfl rfl) rfl rfl (r_move (v := .pointer _) rfl) ?_
  refine L_run (.yes 14 false rfl rfl) rfl rfl (r_eqpnil Try.underlying23 rfl rfl) ?_
  refine L_run (.plain rfl) rfl rfl (r_pick_f (v := .bool _) rfl rfl) ?_
  refine L_as (v := .bool _) (v' := .bool false) 61 rfl (congrArg Value.bool (by rfl)) ?_
  refine L_nil ?_
  refine W_false rfl ?_
  refine W_skip ?_
  refine W_seq ?_
  refine W_seq ?_
  refine W_region ?_
  refine L_run (.plain rfl) rfl rfl (r_assign (v := .int _ _) rfl) ?_
  refine L_nil ?_
  refine W_block ?_
  refine W_loopF [1, 2, 7, 9] (fun m f W => ∃ (i : Nat) (S : Srv) (vs : Value), f 11 = .int .i64 i ∧ (i ≤ z.length ∧ i ≤ 100 ∧ SrvAt w0.heap.size W b bm vs S ∧ SrvAt w0.heap.size W c cm (.slice none 0 0) ⟨n, 0, 1, [], []⟩ ∧ Apart b bm vs c cm (.slice none 0 0) ∧ S.most = n ∧ (S.kept.length : Int) ≤ S.most ∧ S.st.length ≤ i ∧ S.life < 1000 ∧ Nw w0 W) ∧ m = 100 - i) ?_ ?_
  · refine ⟨_, 0, ⟨n, 0, 1, [], []⟩, .slice none 0 0, rfl, ?_, rfl⟩
    exact ⟨by omega, by omega, hA1.nw (by (repeat (first | exact Ch.refl _ | assumption | (refine Ch.fresh ?_ (by assumption) (by intro i hi he; first | exact he | exact (not_no he).elim | exact Or.inl he | exact Or.inr (Or.inl he) | exact Or.inr (Or.inr he) | (exfalso; have he2 : _ = some i := he; have := own_base (by assumption) he2; omega) | (exfalso; have he2 : i = _ := he; omega) | (exfalso; have he2 : _ = some i := he; have := ow_base (by assumption) he2; omega) | (exfalso; have := he.1; omega)))))), hB0.nw (by (repeat (first | exact Ch.refl _ | assumption | (refine Ch.fresh ?_ (by assumption) (by intro i hi he; first | exact he | exact (not_no he).elim | exact Or.inl he | exact Or.inr (Or.inl he) | exact Or.inr (Or.inr he) | (exfalso; have he2 : _ = some i := he; have := own_base (by assumption) he2; omega) | (exfalso; have he2 : i = _ := he; omega) | (exfalso; have he2 : _ = some i := he; have := ow_base (by assumption) he2; omega) | (exfalso; have := he.1; omega)))))), hD0, rfl, by show ((0 : Nat) : Int) ≤ n; omega, Nat.le_refl _, (show (0 : Int) < 1000 by decide), by (repeat (first | exact Ch.refl _ | assumption | (refine Ch.fresh ?_ (by assumption) (by intro i hi he; first | exact he | exact (not_no he).elim | exact Or.inl he | exact Or.inr (Or.inl he) | exact Or.inr (Or.inr he) | (exfalso; have he2 : _ = some i := he; have := own_base (by assumption) he2; omega) | (exfalso; have he2 : i = _ := he; omega) | (exfalso; have he2 : _ = some i := he; have := ow_base (by assumption) he2; omega) | (exfalso; have := he.1; omega)))))⟩
  rintro m0 g0 w4 ⟨i, S, vs, hf11, hR0, rfl⟩
  refine W_as 11 hf11 rfl ?_
  clear hf11
  obtain ⟨hi1, hi2, hA, hB, hD, hmo, hkl, hsl, hlf, hnw⟩ := hR0
  have hz := hnw.size
  refine W_seq ?_
  refine W_seq ?_
  refine W_region ?_
  refine L_run (.plain rfl) rfl rfl (r_move (v := .int _ _) rfl) ?_
  refine L_run (.plain rfl) rfl rfl (r_move (by conv => lhs; whnf)) ?_
  refine L_run (.plain rfl) rfl rfl (r_lenSl Try.underlying22 (by conv => lhs; whnf) (by (exact Sl.to (by first | assumption | exact Sl.own (by assumption) | exact Mu.sl (by assumption) | exact Ow.sl (by assumption)) (fun i hi => by (repeat (first | exact Sm.refl _ _ | (refine Sm.stepT (by assumption) (by intro hlt hsm; first | exact not_no | (intro he; have he2 : _ = _ := he; omega) | (intro he; have := he.1; omega) | exact bkm_not (by assumption) hsm rfl | (refine owm_not ?_ hi hsm rfl <;> assumption)) ?_))))))) ?_
  refine L_run (.plain rfl) rfl rfl (r_lss rfl rfl) ?_
  refine L_run (.plain rfl) rfl rfl (r_move (v := .bool _) rfl) ?_
  refine L_case (d := 66) rfl (fun h66 => ?_) (fun h66 => ?_)
  · refine L_run (.yes 4 true rfl rfl) rfl rfl (r_move (v := .int _ _) rfl) ?_
    refine L_run (.yes 4 true rfl rfl) rfl rfl (r_lss rfl rfl) ?_
    refine L_run (.plain rfl) rfl rfl (r_pick_t (v := .bool _) rfl rfl) ?_
    refine L_nil ?_
    refine W_if rfl (fun h69 => ?_) (fun h69 => ?_)
    · have hlt : i < z.length := by omega
      refine W_skip ?_
      refine W_cutF [1, 2, 7, 9, 11] (fun f W => ∃ (S2 : Srv) (vs2 : Value), True ∧ (i + 1 ≤ z.length ∧ i + 1 ≤ 100 ∧ SrvAt w0.heap.size W b bm vs2 S2 ∧ SrvAt w0.heap.size W c cm (.slice none 0 0) ⟨n, 0, 1, [], []⟩ ∧ Apart b bm vs2 c cm (.slice none 0 0) ∧ S2.most = n ∧ (S2.kept.length : Int) ≤ S2.most ∧ S2.st.length ≤ i + 1 ∧ S2.life < 1000 ∧ Nw w0 W)) ?_ ?_
      · refine W_block ?_
        refine W_seq ?_
        obtain ⟨Sx, hSx⟩ : ∃ x, x = S := ⟨_, rfl⟩
        obtain ⟨vx, hvx⟩ : ∃ x, x = vs := ⟨_, rfl⟩
        have hc9 : ∀ (j : Nat) (u : Value), [Value.int .i64 z[i].k, .int .i64 z[i].m.kind, .int .u64 z[i].m.life, .int .u64 z[i].m.seq, .int .u64 z[i].m.below, .int .u64 z[i].m.object, .string z[i].m.method, .int .i64 z[i].m.way, .string z[i].m.body][j]? = some u → (cellsS z)[i * 9 + j]? = some u := cellsS_row z i hlt
        obtain ⟨a, ha⟩ : ∃ a, a = z[i] := ⟨_, rfl⟩
        rw [← ha] at hc9
        refine W_region ?_
        refine L_run (.plain rfl) rfl rfl (r_move (by conv => lhs; whnf)) ?_
        refine L_run (.plain rfl) rfl rfl (r_move (v := .int _ _) rfl) ?_
        refine L_run (.plain rfl) rfl rfl (r_idxSl Try.underlying22 (show _ = some 9 from rfl) (by conv => lhs; whnf) rfl (by (exact Sl.to (by first | assumption | exact Sl.own (by assumption) | exact Mu.sl (by assumption) | exact Ow.sl (by assumption)) (fun i hi => by (repeat (first | exact Sm.refl _ _ | (refine Sm.stepT (by assumption) (by intro hlt hsm; first | exact not_no | (intro he; have he2 : _ = _ := he; omega) | (intro he; have := he.1; omega) | exact bkm_not (by assumption) hsm rfl | (refine owm_not ?_ hi hsm rfl <;> assumption)) ?_)))))) (by omega) (by omega) (by conv => lhs; (try simp only [Nat.mul_one, Nat.zero_add, Int.toNat_natCast, Int.toNat_zero, Int.reduceToNat, Nat.reduceMul, Nat.reduceAdd]))) ?_
        refine L_run (.plain rfl) rfl rfl (r_loadSlrow (us := [.int .i64 a.k, .int .i64 a.m.kind, .int .u64 a.m.life, .int .u64 a.m.seq, .int .u64 a.m.below, .int .u64 a.m.object, .string a.m.method, .int .i64 a.m.way, .string a.m.body]) Try.underlying35 rfl rfl rfl rfl (by (exact Sl.to (by first | assumption | exact Sl.own (by assumption) | exact Mu.sl (by assumption) | exact Ow.sl (by assumption)) (fun i hi => by (repeat (first | exact Sm.refl _ _ | (refine Sm.stepT (by assumption) (by intro hlt hsm; first | exact not_no | (intro he; have he2 : _ = _ := he; omega) | (intro he; have := he.1; omega) | exact bkm_not (by assumption) hsm rfl | (refine owm_not ?_ hi hsm rfl <;> assumption)) ?_)))))) (by exact hc9)) ?_
        refine L_new (.plain rfl) rfl rfl (r_alloca rfl) (fun w5 b12 hb12 eb5 hs5 c5 => ?_)
        refine L_storerow (.plain rfl) rfl rfl (by (exact Bk.to (by assumption) (by (repeat (first | exact Sm.refl _ _ | (refine Sm.stepT (by assumption) (by intro hlt hsm; first | exact not_no | (intro he; have he2 : _ = _ := he; omega) | (intro he; have := he.1; omega) | exact bkm_not (by assumption) hsm rfl | (refine owm_not ?_ hi hsm rfl <;> assumption)) ?_)))))) (by first | rfl | (simp; done) | assumption) (by first | rfl | assumption) (by first | rfl | (simp [Value.oneCell']; done) | assumption) (fun w6 hb6 hs6 c6 => ?_)
        refine L_nil ?_
        refine W_seq ?_
        refine W_region ?_
        refine L_run (.plain rfl) rfl rfl (r_loadrow Try.underlying35 rfl rfl (by (exact Bk.to (by assumption) (by (repeat (first | exact Sm.refl _ _ | (refine Sm.stepT (by assumption) (by intro hlt hsm; first | exact not_no | (intro he; have he2 : _ = _ := he; omega) | (intro he; have := he.1; omega) | exact bkm_not (by assumption) hsm rfl | (refine owm_not ?_ hi hsm rfl <;> assumption)) ?_)))))) (by first | rfl | assumption)) ?_
        refine L_call (.plain rfl) rfl rfl (r_call Try.func10 rfl rfl rfl (by rfl)) (few_walk a.k a.m _) ?_
        rintro v77 w7 ⟨rfl, c7⟩
        have hz7 := c7.size
        refine L_run (.plain rfl) rfl rfl (r_move (v := .bool _) rfl) ?_
        refine L_caseb (d := 78) rfl (fun h78 => ?_) (fun h78 => ?_)
        · refine L_run (.yes 2 true rfl rfl) rfl rfl (r_fieldb Try.underlying35 rfl (show _ = some 8 from rfl) rfl rfl (show _ = 1 from rfl)) ?_
          refine L_run (.yes 2 true rfl rfl) rfl rfl (r_fieldb Try.underlying33 rfl (show _ = some 1 from rfl) rfl rfl (show _ = 2 from rfl)) ?_
          refine L_run (.yes 2 true rfl rfl) rfl rfl (r_loadb rfl rfl (by (exact Bk.to (by assumption) (by (repeat (first | exact Sm.refl _ _ | (refine Sm.stepT (by assumption) (by intro hlt hsm; first | exact not_no | (intro he; have he2 : _ = _ := he; omega) | (intro he; have := he.1; omega) | exact bkm_not (by assumption) hsm rfl | (refine owm_not ?_ hi hsm rfl <;> assumption)) ?_)))))) (by first | assumption | (conv => lhs; simp only [List.getElem?_toArray, List.getElem?_cons_succ, List.getElem?_cons_zero]))) ?_
          refine L_run (.yes 2 true rfl rfl) rfl rfl (r_lss rfl rfl) ?_
          refine L_run (.plain rfl) rfl rfl (r_pick_t (v := .bool _) rfl rfl) ?_
          refine L_nil ?_
          refine W_if rfl (fun h83 => ?_) (fun h83 => ?_)
          · refine W_seq ?_
            refine W_region ?_
            refine L_run (.plain rfl) rfl rfl (r_fieldb Try.underlying35 rfl (show _ = some 1 from rfl) rfl rfl (show _ = 0 from rfl)) ?_
            refine L_run (.plain rfl) rfl rfl (r_loadb rfl rfl (by (exact Bk.to (by assumption) (by (repeat (first | exact Sm.refl _ _ | (refine Sm.stepT (by assumption) (by intro hlt hsm; first | exact not_no | (intro he; have he2 : _ = _ := he; omega) | (intro he; have := he.1; omega) | exact bkm_not (by assumption) hsm rfl | (refine owm_not ?_ hi hsm rfl <;> assumption)) ?_)))))) (by first | assumption | (conv => lhs; simp only [List.getElem?_toArray, List.getElem?_cons_succ, List.getElem?_cons_zero]))) ?_
            refine L_run (.plain rfl) rfl rfl (r_eql rfl rfl) ?_
            refine L_nil ?_
            refine W_if rfl (fun h86 => ?_) (fun h86 => ?_)
            · refine W_region ?_
              refine L_run (.plain rfl) rfl rfl (r_move (v := .pointer _) rfl) ?_
              refine L_run (.plain rfl) rfl rfl (r_fieldb Try.underlying35 rfl (show _ = some 8 from rfl) rfl rfl (show _ = 1 from rfl)) ?_
              refine L_run (.plain rfl) rfl rfl (r_loadsub (us := [.int _ _, .int _ _, .int _ _, .int _ _, .int _ _, .string _, .int _ _, .string _]) Try.underlying33 rfl (show _ = some 8 from rfl) rfl (by (exact Bk.to (by assumption) (by (repeat (first | exact Sm.refl _ _ | (refine Sm.stepT (by assumption) (by intro hlt hsm; first | exact not_no | (intro he; have he2 : _ = _ := he; omega) | (intro he; have := he.1; omega) | exact bkm_not (by assumption) hsm rfl | (refine owm_not ?_ hi hsm rfl <;> assumption)) ?_)))))) rfl rfl) ?_
              refine L_call (.plain rfl) rfl rfl (r_call Try.func12 rfl rfl rfl (by rfl)) (recv_two w0.heap.size b bm c cm _ _ _ (recv_eta S a.m) (hA.nw (by (repeat (first | exact Ch.refl _ | assumption | (refine Ch.fresh ?_ (by assumption) (by intro i hi he; first | exact he | exact (not_no he).elim | exact Or.inl he | exact Or.inr (Or.inl he) | exact Or.inr (Or.inr he) | (exfalso; have he2 : _ = some i := he; have := own_base (by assumption) he2; omega) | (exfalso; have he2 : i = _ := he; omega) | (exfalso; have he2 : _ = some i := he; have := ow_base (by assumption) he2; omega) | (exfalso; have := he.1; omega))))))) (hB.nw (by (repeat (first | exact Ch.refl _ | assumption | (refine Ch.fresh ?_ (by assumption) (by intro i hi he; first | exact he | exact (not_no he).elim | exact Or.inl he | exact Or.inr (Or.inl he) | exact Or.inr (Or.inr he) | (exfalso; have he2 : _ = some i := he; have := own_base (by assumption) he2; omega) | (exfalso; have he2 : i = _ := he; omega) | (exfalso; have he2 : _ = some i := he; have := ow_base (by assumption) he2; omega) | (exfalso; have := he.1; omega))))))) hD (by omega) (by omega) (by omega)) ?_
              rintro v90 w8 ⟨vs3', rfl, hA3, hB3, hD3, c8⟩
              have hz8 := c8.size
              obtain ⟨f1, f2, f3, f4, f5⟩ := recv_facts S a.m
              have f6 := recv_life S a.m
              clear hSx hvx
              obtain ⟨Sx, hSx⟩ : ∃ x, x = (recv S a.m).1 := ⟨_, rfl⟩
              obtain ⟨vx, hvx⟩ : ∃ x, x = vs3' := ⟨_, rfl⟩
              have f2' := f2 hkl
              refine L_nil ?_
              refine ⟨⟨rfl, rfl, rfl, rfl, rfl, trivial⟩, Sx, vx, trivial, ?_⟩
              first
                | (subst hSx hvx
                   exact ⟨by omega, by omega, hA.nw (by (repeat (first | exact Ch.refl _ | assumption | (refine Ch.fresh ?_ (by assumption) (by intro i hi he; first | exact he | exact (not_no he).elim | exact Or.inl he | exact Or.inr (Or.inl he) | exact Or.inr (Or.inr he) | (exfalso; have he2 : _ = some i := he; have := own_base (by assumption) he2; omega) | (exfalso; have he2 : i = _ := he; omega) | (exfalso; have he2 : _ = some i := he; have := ow_base (by assumption) he2; omega) | (exfalso; have := he.1; omega)))))), hB.nw (by (repeat (first | exact Ch.refl _ | assumption | (refine Ch.fresh ?_ (by assumption) (by intro i hi he; first | exact he | exact (not_no he).elim | exact Or.inl he | exact Or.inr (Or.inl he) | exact Or.inr (Or.inr he) | (exfalso; have he2 : _ = some i := he; have := own_base (by assumption) he2; omega) | (exfalso; have he2 : i = _ := he; omega) | (exfalso; have he2 : _ = some i := he; have := ow_base (by assumption) he2; omega) | (exfalso; have := he.1; omega)))))), hD, hmo, hkl, by omega, hlf, by (repeat (first | exact Ch.refl _ | assumption | (refine Ch.fresh ?_ (by assumption) (by intro i hi he; first | exact he | exact (not_no he).elim | exact Or.inl he | exact Or.inr (Or.inl he) | exact Or.inr (Or.inr he) | (exfalso; have he2 : _ = some i := he; have := own_base (by assumption) he2; omega) | (exfalso; have he2 : i = _ := he; omega) | (exfalso; have he2 : _ = some i := he; have := ow_base (by assumption) he2; omega) | (exfalso; have := he.1; omega)))))⟩)
                | (subst hSx hvx
                   exact ⟨by omega, by omega, hA3.nw (by (repeat (first | exact Ch.refl _ | assumption | (refine Ch.fresh ?_ (by assumption) (by intro i hi he; first | exact he | exact (not_no he).elim | exact Or.inl he | exact Or.inr (Or.inl he) | exact Or.inr (Or.inr he) | (exfalso; have he2 : _ = some i := he; have := own_base (by assumption) he2; omega) | (exfalso; have he2 : i = _ := he; omega) | (exfalso; have he2 : _ = some i := he; have := ow_base (by assumption) he2; omega) | (exfalso; have := he.1; omega)))))), hB3.nw (by (repeat (first | exact Ch.refl _ | assumption | (refine Ch.fresh ?_ (by assumption) (by intro i hi he; first | exact he | exact (not_no he).elim | exact Or.inl he | exact Or.inr (Or.inl he) | exact Or.inr (Or.inr he) | (exfalso; have he2 : _ = some i := he; have := own_base (by assumption) he2; omega) | (exfalso; have he2 : i = _ := he; omega) | (exfalso; have he2 : _ = some i := he; have := ow_base (by assumption) he2; omega) | (exfalso; have := he.1; omega)))))), hD3, by omega, by omega, by omega, by omega, by (repeat (first | exact Ch.refl _ | assumption | (refine Ch.fresh ?_ (by assumption) (by intro i hi he; first | exact he | exact (not_no he).elim | exact Or.inl he | exact Or.inr (Or.inl he) | exact Or.inr (Or.inr he) | (exfalso; have he2 : _ = some i := he; have := own_base (by assumption) he2; omega) | (exfalso; have he2 : i = _ := he; omega) | (exfalso; have he2 : _ = some i := he; have := ow_base (by assumption) he2; omega) | (exfalso; have := he.1; omega)))))⟩)
            · refine W_region ?_
              refine L_run (.plain rfl) rfl rfl (r_move (v := .pointer _) rfl) ?_
              refine L_run (.plain rfl) rfl rfl (r_fieldb Try.underlying35 rfl (show _ = some 8 from rfl) rfl rfl (show _ = 1 from rfl)) ?_
              refine L_run (.plain rfl) rfl rfl (r_fieldb Try.underlying33 rfl (show _ = some 1 from rfl) rfl rfl (show _ = 2 from rfl)) ?_
              refine L_run (.plain rfl) rfl rfl (r_loadb rfl rfl (by (exact Bk.to (by assumption) (by (repeat (first | exact Sm.refl _ _ | (refine Sm.stepT (by assumption) (by intro hlt hsm; first | exact not_no | (intro he; have he2 : _ = _ := he; omega) | (intro he; have := he.1; omega) | exact bkm_not (by assumption) hsm rfl | (refine owm_not ?_ hi hsm rfl <;> assumption)) ?_)))))) (by first | assumption | (conv => lhs; simp only [List.getElem?_toArray, List.getElem?_cons_succ, List.getElem?_cons_zero]))) ?_
              refine L_run (.plain rfl) rfl rfl (r_fieldb Try.underlying35 rfl (show _ = some 8 from rfl) rfl rfl (show _ = 1 from rfl)) ?_
              refine L_run (.plain rfl) rfl rfl (r_fieldb Try.underlying33 rfl (show _ = some 1 from rfl) rfl rfl (show _ = 3 from rfl)) ?_
              refine L_run (.plain rfl) rfl rfl (r_loadb rfl rfl (by (exact Bk.to (by assumption) (by (repeat (first | exact Sm.refl _ _ | (refine Sm.stepT (by assumption) (by intro hlt hsm; first | exact not_no | (intro he; have he2 : _ = _ := he; omega) | (intro he; have := he.1; omega) | exact bkm_not (by assumption) hsm rfl | (refine owm_not ?_ hi hsm rfl <;> assumption)) ?_)))))) (by first | assumption | (conv => lhs; simp only [List.getElem?_toArray, List.getElem?_cons_succ, List.getElem?_cons_zero]))) ?_
              refine L_run (.plain rfl) rfl rfl (r_fieldb Try.underlying35 rfl (show _ = some 8 from rfl) rfl rfl (show _ = 1 from rfl)) ?_
              refine L_run (.plain rfl) rfl rfl (r_fieldb Try.underlying33 rfl (show _ = some 1 from rfl) rfl rfl (show _ = 7 from rfl)) ?_
              refine L_run (.plain rfl) rfl rfl (r_loadb rfl rfl (by (exact Bk.to (by assumption) (by (repeat (first | exact Sm.refl _ _ | (refine Sm.stepT (by assumption) (by intro hlt hsm; first | exact not_no | (intro he; have he2 : _ = _ := he; omega) | (intro he; have := he.1; omega) | exact bkm_not (by assumption) hsm rfl | (refine owm_not ?_ hi hsm rfl <;> assumption)) ?_)))))) (by first | assumption | (conv => lhs; simp only [List.getElem?_toArray, List.getElem?_cons_succ, List.getElem?_cons_zero]))) ?_
              refine L_run (.plain rfl) rfl rfl (r_fieldb Try.underlying35 rfl (show _ = some 8 from rfl) rfl rfl (show _ = 1 from rfl)) ?_
              refine L_run (.plain rfl) rfl rfl (r_fieldb Try.underlying33 rfl (show _ = some 1 from rfl) rfl rfl (show _ = 8 from rfl)) ?_
              refine L_run (.plain rfl) rfl rfl (r_loadb rfl rfl (by (exact Bk.to (by assumption) (by (repeat (first | exact Sm.refl _ _ | (refine Sm.stepT (by assumption) (by intro hlt hsm; first | exact not_no | (intro he; have he2 : _ = _ := he; omega) | (intro he; have := he.1; omega) | exact bkm_not (by assumption) hsm rfl | (refine owm_not ?_ hi hsm rfl <;> assumption)) ?_)))))) (by first | assumption | (conv => lhs; simp only [List.getElem?_toArray, List.getElem?_cons_succ, List.getElem?_cons_zero]))) ?_
              refine L_call (.plain rfl) rfl rfl (r_call Try.func14 rfl rfl rfl (by rfl)) (fin_two w0.heap.size b bm c cm _ _ _ (fin_eta S a.m.life a.m.seq a.m.way a.m.body) (hA.nw (by (repeat (first | exact Ch.refl _ | assumption | (refine Ch.fresh ?_ (by assumption) (by intro i hi he; first | exact he | exact (not_no he).elim | exact Or.inl he | exact Or.inr (Or.inl he) | exact Or.inr (Or.inr he) | (exfalso; have he2 : _ = some i := he; have := own_base (by assumption) he2; omega) | (exfalso; have he2 : i = _ := he; omega) | (exfalso; have he2 : _ = some i := he; have := ow_base (by assumption) he2; omega) | (exfalso; have := he.1; omega))))))) (hB.nw (by (repeat (first | exact Ch.refl _ | assumption | (refine Ch.fresh ?_ (by assumption) (by intro i hi he; first | exact he | exact (not_no he).elim | exact Or.inl he | exact Or.inr (Or.inl he) | exact Or.inr (Or.inr he) | (exfalso; have he2 : _ = some i := he; have := own_base (by assumption) he2; omega) | (exfalso; have he2 : i = _ := he; omega) | (exfalso; have he2 : _ = some i := he; have := ow_base (by assumption) he2; omega) | (exfalso; have := he.1; omega))))))) hD (by omega)) ?_
              rintro v104 w9 ⟨rfl, hA3, hB3, c9⟩
              have hz9 := c9.size
              obtain ⟨f1, f2', f3, f4, f5⟩ := fin_facts S a.m.life a.m.seq a.m.way a.m.body
              have f3l := congrArg List.length f3
              have hD3 := hD
              clear hSx hvx
              obtain ⟨Sx, hSx⟩ : ∃ x, x = (fin S a.m.life a.m.seq a.m.way a.m.body).1 := ⟨_, rfl⟩
              obtain ⟨vx, hvx⟩ : ∃ x, x = vs := ⟨_, rfl⟩
              refine L_nil ?_
              refine ⟨⟨rfl, rfl, rfl, rfl, rfl, trivial⟩, Sx, vx, trivial, ?_⟩
              first
                | (subst hSx hvx
                   exact ⟨by omega, by omega, hA.nw (by (repeat (first | exact Ch.refl _ | assumption | (refine Ch.fresh ?_ (by assumption) (by intro i hi he; first | exact he | exact (not_no he).elim | exact Or.inl he | exact Or.inr (Or.inl he) | exact Or.inr (Or.inr he) | (exfalso; have he2 : _ = some i := he; have := own_base (by assumption) he2; omega) | (exfalso; have he2 : i = _ := he; omega) | (exfalso; have he2 : _ = some i := he; have := ow_base (by assumption) he2; omega) | (exfalso; have := he.1; omega)))))), hB.nw (by (repeat (first | exact Ch.refl _ | assumption | (refine Ch.fresh ?_ (by assumption) (by intro i hi he; first | exact he | exact (not_no he).elim | exact Or.inl he | exact Or.inr (Or.inl he) | exact Or.inr (Or.inr he) | (exfalso; have he2 : _ = some i := he; have := own_base (by assumption) he2; omega) | (exfalso; have he2 : i = _ := he; omega) | (exfalso; have he2 : _ = some i := he; have := ow_base (by assumption) he2; omega) | (exfalso; have := he.1; omega)))))), hD, hmo, hkl, by omega, hlf, by (repeat (first | exact Ch.refl _ | assumption | (refine Ch.fresh ?_ (by assumption) (by intro i hi he; first | exact he | exact (not_no he).elim | exact Or.inl he | exact Or.inr (Or.inl he) | exact Or.inr (Or.inr he) | (exfalso; have he2 : _ = some i := he; have := own_base (by assumption) he2; omega) | (exfalso; have he2 : i = _ := he; omega) | (exfalso; have he2 : _ = some i := he; have := ow_base (by assumption) he2; omega) | (exfalso; have := he.1; omega)))))⟩)
                | (subst hSx hvx
                   exact ⟨by omega, by omega, hA3.nw (by (repeat (first | exact Ch.refl _ | assumption | (refine Ch.fresh ?_ (by assumption) (by intro i hi he; first | exact he | exact (not_no he).elim | exact Or.inl he | exact Or.inr (Or.inl he) | exact Or.inr (Or.inr he) | (exfalso; have he2 : _ = some i := he; have := own_base (by assumption) he2; omega) | (exfalso; have he2 : i = _ := he; omega) | (exfalso; have he2 : _ = some i := he; have := ow_base (by assumption) he2; omega) | (exfalso; have := he.1; omega)))))), hB3.nw (by (repeat (first | exact Ch.refl _ | assumption | (refine Ch.fresh ?_ (by assumption) (by intro i hi he; first | exact he | exact (not_no he).elim | exact Or.inl he | exact Or.inr (Or.inl he) | exact Or.inr (Or.inr he) | (exfalso; have he2 : _ = some i := he; have := own_base (by assumption) he2; omega) | (exfalso; have he2 : i = _ := he; omega) | (exfalso; have he2 : _ = some i := he; have := ow_base (by assumption) he2; omega) | (exfalso; have := he.1; omega)))))), hD3, by omega, by omega, by omega, by omega, by (repeat (first | exact Ch.refl _ | assumption | (refine Ch.fresh ?_ (by assumption) (by intro i hi he; first | exact he | exact (not_no he).elim | exact Or.inl he | exact Or.inr (Or.inl he) | exact Or.inr (Or.inr he) | (exfalso; have he2 : _ = some i := he; have := own_base (by assumption) he2; omega) | (exfalso; have he2 : i = _ := he; omega) | (exfalso; have he2 : _ = some i := he; have := ow_base (by assumption) he2; omega) | (exfalso; have := he.1; omega)))))⟩)
          · refine W_skip ?_
            refine ⟨⟨rfl, rfl, rfl, rfl, rfl, trivial⟩, Sx, vx, trivial, ?_⟩
            first
              | (subst hSx hvx
                 exact ⟨by omega, by omega, hA.nw (by (repeat (first | exact Ch.refl _ | assumption | (refine Ch.fresh ?_ (by assumption) (by intro i hi he; first | exact he | exact (not_no he).elim | exact Or.inl he | exact Or.inr (Or.inl he) | exact Or.inr (Or.inr he) | (exfalso; have he2 : _ = some i := he; have := own_base (by assumption) he2; omega) | (exfalso; have he2 : i = _ := he; omega) | (exfalso; have he2 : _ = some i := he; have := ow_base (by assumption) he2; omega) | (exfalso; have := he.1; omega)))))), hB.nw (by (repeat (first | exact Ch.refl _ | assumption | (refine Ch.fresh ?_ (by assumption) (by intro i hi he; first | exact he | exact (not_no he).elim | exact Or.inl he | exact Or.inr (Or.inl he) | exact Or.inr (Or.inr he) | (exfalso; have he2 : _ = some i := he; have := own_base (by assumption) he2; omega) | (exfalso; have he2 : i = _ := he; omega) | (exfalso; have he2 : _ = some i := he; have := ow_base (by assumption) he2; omega) | (exfalso; have := he.1; omega)))))), hD, hmo, hkl, by omega, hlf, by (repeat (first | exact Ch.refl _ | assumption | (refine Ch.fresh ?_ (by assumption) (by intro i hi he; first | exact he | exact (not_no he).elim | exact Or.inl he | exact Or.inr (Or.inl he) | exact Or.inr (Or.inr he) | (exfalso; have he2 : _ = some i := he; have := own_base (by assumption) he2; omega) | (exfalso; have he2 : i = _ := he; omega) | (exfalso; have he2 : _ = some i := he; have := ow_base (by assumption) he2; omega) | (exfalso; have := he.1; omega)))))⟩)
              | (subst hSx hvx
                 exact ⟨by omega, by omega, hA3.nw (by (repeat (first | exact Ch.refl _ | assumption | (refine Ch.fresh ?_ (by assumption) (by intro i hi he; first | exact he | exact (not_no he).elim | exact Or.inl he | exact Or.inr (Or.inl he) | exact Or.inr (Or.inr he) | (exfalso; have he2 : _ = some i := he; have := own_base (by assumption) he2; omega) | (exfalso; have he2 : i = _ := he; omega) | (exfalso; have he2 : _ = some i := he; have := ow_base (by assumption) he2; omega) | (exfalso; have := he.1; omega)))))), hB3.nw (by (repeat (first | exact Ch.refl _ | assumption | (refine Ch.fresh ?_ (by assumption) (by intro i hi he; first | exact he | exact (not_no he).elim | exact Or.inl he | exact Or.inr (Or.inl he) | exact Or.inr (Or.inr he) | (exfalso; have he2 : _ = some i := he; have := own_base (by assumption) he2; omega) | (exfalso; have he2 : i = _ := he; omega) | (exfalso; have he2 : _ = some i := he; have := ow_base (by assumption) he2; omega) | (exfalso; have := he.1; omega)))))), hD3, by omega, by omega, by omega, by omega, by (repeat (first | exact Ch.refl _ | assumption | (refine Ch.fresh ?_ (by assumption) (by intro i hi he; first | exact he | exact (not_no he).elim | exact Or.inl he | exact Or.inr (Or.inl he) | exact Or.inr (Or.inr he) | (exfalso; have he2 : _ = some i := he; have := own_base (by assumption) he2; omega) | (exfalso; have he2 : i = _ := he; omega) | (exfalso; have he2 : _ = some i := he; have := ow_base (by assumption) he2; omega) | (exfalso; have := he.1; omega)))))⟩)
        · refine L_pass rfl rfl rfl rfl rfl ?_
          refine L_pass rfl rfl rfl rfl rfl ?_
          refine L_pass rfl rfl rfl rfl rfl ?_
          refine L_pass rfl rfl rfl rfl rfl ?_
          refine L_run (.plain rfl) rfl rfl (r_pick_f (v := .bool _) rfl rfl) ?_
          refine L_nil ?_
          refine W_false rfl ?_
          refine W_skip ?_
          refine ⟨⟨rfl, rfl, rfl, rfl, rfl, trivial⟩, Sx, vx, trivial, ?_⟩
          first
            | (subst hSx hvx
               exact ⟨by omega, by omega, hA.nw (by (repeat (first | exact Ch.refl _ | assumption | (refine Ch.fresh ?_ (by assumption) (by intro i hi he; first | exact he | exact (not_no he).elim | exact Or.inl he | exact Or.inr (Or.inl he) | exact Or.inr (Or.inr he) | (exfalso; have he2 : _ = some i := he; have := own_base (by assumption) he2; omega) | (exfalso; have he2 : i = _ := he; omega) | (exfalso; have he2 : _ = some i := he; have := ow_base (by assumption) he2; omega) | (exfalso; have := he.1; omega)))))), hB.nw (by (repeat (first | exact Ch.refl _ | assumption | (refine Ch.fresh ?_ (by assumption) (by intro i hi he; first | exact he | exact (not_no he).elim | exact Or.inl he | exact Or.inr (Or.inl he) | exact Or.inr (Or.inr he) | (exfalso; have he2 : _ = some i := he; have := own_base (by assumption) he2; omega) | (exfalso; have he2 : i = _ := he; omega) | (exfalso; have he2 : _ = some i := he; have := ow_base (by assumption) he2; omega) | (exfalso; have := he.1; omega)))))), hD, hmo, hkl, by omega, hlf, by (repeat (first | exact Ch.refl _ | assumption | (refine Ch.fresh ?_ (by assumption) (by intro i hi he; first | exact he | exact (not_no he).elim | exact Or.inl he | exact Or.inr (Or.inl he) | exact Or.inr (Or.inr he) | (exfalso; have he2 : _ = some i := he; have := own_base (by assumption) he2; omega) | (exfalso; have he2 : i = _ := he; omega) | (exfalso; have he2 : _ = some i := he; have := ow_base (by assumption) he2; omega) | (exfalso; have := he.1; omega)))))⟩)
            | (subst hSx hvx
               exact ⟨by omega, by omega, hA3.nw (by (repeat (first | exact Ch.refl _ | assumption | (refine Ch.fresh ?_ (by assumption) (by intro i hi he; first | exact he | exact (not_no he).elim | exact Or.inl he | exact Or.inr (Or.inl he) | exact Or.inr (Or.inr he) | (exfalso; have he2 : _ = some i := he; have := own_base (by assumption) he2; omega) | (exfalso; have he2 : i = _ := he; omega) | (exfalso; have he2 : _ = some i := he; have := ow_base (by assumption) he2; omega) | (exfalso; have := he.1; omega)))))), hB3.nw (by (repeat (first | exact Ch.refl _ | assumption | (refine Ch.fresh ?_ (by assumption) (by intro i hi he; first | exact he | exact (not_no he).elim | exact Or.inl he | exact Or.inr (Or.inl he) | exact Or.inr (Or.inr he) | (exfalso; have he2 : _ = some i := he; have := own_base (by assumption) he2; omega) | (exfalso; have he2 : i = _ := he; omega) | (exfalso; have he2 : _ = some i := he; have := ow_base (by assumption) he2; omega) | (exfalso; have := he.1; omega)))))), hD3, by omega, by omega, by omega, by omega, by (repeat (first | exact Ch.refl _ | assumption | (refine Ch.fresh ?_ (by assumption) (by intro i hi he; first | exact he | exact (not_no he).elim | exact Or.inl he | exact Or.inr (Or.inl he) | exact Or.inr (Or.inr he) | (exfalso; have he2 : _ = some i := he; have := own_base (by assumption) he2; omega) | (exfalso; have he2 : i = _ := he; omega) | (exfalso; have he2 : _ = some i := he; have := ow_base (by assumption) he2; omega) | (exfalso; have := he.1; omega)))))⟩)
      rintro gcb1 w10 ⟨S2, vs2, -, hCb1⟩
      refine W_region ?_
      refine L_run (.plain rfl) rfl rfl (r_move (v := .int _ _) rfl) ?_
      refine L_run (.plain rfl) rfl rfl (r_add rfl rfl (by first | exact wr_i64 (by omega) | rfl)) ?_
      refine L_run (.plain rfl) rfl rfl (r_assign (v := .int _ _) rfl) ?_
      refine L_nil ?_
      refine ⟨⟨rfl, rfl, rfl, rfl, trivial⟩, _, ?_, i + 1, S2, vs2, rfl, ?_, rfl⟩
      · omega
      exact hCb1
    · refine W_exit ?_
      repeat (first | refine blk_hit ?_ | refine blk_miss rfl ?_)
      refine W_seq ?_
      refine W_region ?_
      refine L_call (.plain rfl) rfl rfl (r_call Try.func20 rfl rfl rfl (by rfl)) (call_walk 1000 1 1 _) ?_
      rintro v105 w11 ⟨rfl, c11⟩
      have hz11 := c11.size
      refine L_new (.plain rfl) rfl rfl (r_alloca rfl) (fun w12 b13 hb13 eb12 hs12 c12 => ?_)
      refine L_storerow (.plain rfl) rfl rfl (by (exact Bk.to (by assumption) (by (repeat (first | exact Sm.refl _ _ | (refine Sm.stepT (by assumption) (by intro hlt hsm; first | exact not_no | (intro he; have he2 : _ = _ := he; omega) | (intro he; have := he.1; omega) | exact bkm_not (by assumption) hsm rfl | (refine owm_not ?_ hi hsm rfl <;> assumption)) ?_)))))) (by first | rfl | (simp; done) | assumption) (by first | rfl | assumption) (by first | rfl | (simp [Value.oneCell']; done) | assumption) (fun w13 hb13 hs13 c13 => ?_)
      refine L_nil ?_
      refine W_seq ?_
      refine W_seq ?_
      refine W_region ?_
      refine L_run (.plain rfl) rfl rfl (r_move (v := .pointer _) rfl) ?_
      refine L_run (.plain rfl) rfl rfl (r_loadrow Try.underlying33 rfl rfl (by (exact Bk.to (by assumption) (by (repeat (first | exact Sm.refl _ _ | (refine Sm.stepT (by assumption) (by intro hlt hsm; first | exact not_no | (intro he; have he2 : _ = _ := he; omega) | (intro he; have := he.1; omega) | exact bkm_not (by assumption) hsm rfl | (refine owm_not ?_ hi hsm rfl <;> assumption)) ?_)))))) (by first | rfl | assumption)) ?_
      refine L_call (.plain rfl) rfl rfl (r_call Try.func12 rfl rfl rfl (by rfl)) (recv_two w0.heap.size b bm c cm _ _ _ (first_new S hlf (by omega)) (hA.nw (by (repeat (first | exact Ch.refl _ | assumption | (refine Ch.fresh ?_ (by assumption) (by intro i hi he; first | exact he | exact (not_no he).elim | exact Or.inl he | exact Or.inr (Or.inl he) | exact Or.inr (Or.inr he) | (exfalso; have he2 : _ = some i := he; have := own_base (by assumption) he2; omega) | (exfalso; have he2 : i = _ := he; omega) | (exfalso; have he2 : _ = some i := he; have := ow_base (by assumption) he2; omega) | (exfalso; have := he.1; omega))))))) (hB.nw (by (repeat (first | exact Ch.refl _ | assumption | (refine Ch.fresh ?_ (by assumption) (by intro i hi he; first | exact he | exact (not_no he).elim | exact Or.inl he | exact Or.inr (Or.inl he) | exact Or.inr (Or.inr he) | (exfalso; have he2 : _ = some i := he; have := own_base (by assumption) he2; omega) | (exfalso; have he2 : i = _ := he; omega) | (exfalso; have he2 : _ = some i := he; have := ow_base (by assumption) he2; omega) | (exfalso; have := he.1; omega))))))) hD (by omega) (by omega) (by omega)) ?_
      rintro v109 w14 ⟨vs4, rfl, hA4, hB4, hD4, c14⟩
      have hz14 := c14.size
      refine L_run (.plain rfl) rfl rfl (r_move (by conv => lhs; whnf)) ?_
      refine L_run (.plain rfl) rfl rfl (r_ext2_0 rfl) ?_
      refine L_run (.plain rfl) rfl rfl (r_ext2_1 rfl) ?_
      refine L_new (.plain rfl) rfl rfl (r_alloca rfl) (fun w15 b15 hb15 eb15 hs15 c15 => ?_)
      refine L_run (.plain rfl) rfl rfl (r_assign (v := .int _ _) rfl) ?_
      refine L_storerow (.plain rfl) rfl rfl (by (exact Bk.to (by assumption) (by (repeat (first | exact Sm.refl _ _ | (refine Sm.stepT (by assumption) (by intro hlt hsm; first | exact not_no | (intro he; have he2 : _ = _ := he; omega) | (intro he; have := he.1; omega) | exact bkm_not (by assumption) hsm rfl | (refine owm_not ?_ hi hsm rfl <;> assumption)) ?_)))))) (by first | rfl | (simp; done) | assumption) (by first | rfl | assumption) (by first | rfl | (simp [Value.oneCell']; done) | assumption) (fun w16 hb16 hs16 c16 => ?_)
      refine L_nil ?_
      refine W_seq ?_
      refine W_region ?_
      refine L_run (.plain rfl) rfl rfl (r_move (v := .int _ _) rfl) ?_
      refine L_run (.plain rfl) rfl rfl (r_neq rfl rfl) ?_
      refine L_as (v := .bool _) (v' := .bool false) 113 rfl (dec_f (by decide)).symm ?_
      refine L_nil ?_
      refine W_false rfl ?_
      refine W_skip ?_
      refine W_seq ?_
      refine W_seq ?_
      refine W_region ?_
      refine L_run (.plain rfl) rfl rfl (r_move (v := .pointer _) rfl) ?_
      refine L_run (.plain rfl) rfl rfl (r_loadrow Try.underlying33 rfl rfl (by (exact Bk.to (by assumption) (by (repeat (first | exact Sm.refl _ _ | (refine Sm.stepT (by assumption) (by intro hlt hsm; first | exact not_no | (intro he; have he2 : _ = _ := he; omega) | (intro he; have := he.1; omega) | exact bkm_not (by assumption) hsm rfl | (refine owm_not ?_ hi hsm rfl <;> assumption)) ?_)))))) (by first | rfl | assumption)) ?_
      refine L_call (.plain rfl) rfl rfl (r_call Try.func12 rfl rfl rfl (by rfl)) (recv_two w0.heap.size c cm b bm _ _ _ (first_new ⟨n, 0, 1, [], []⟩ (show (0 : Int) < 1000 by decide) (by show 1 ≤ n; omega)) (hB4.nw (by (repeat (first | exact Ch.refl _ | assumption | (refine Ch.fresh ?_ (by assumption) (by intro i hi he; first | exact he | exact (not_no he).elim | exact Or.inl he | exact Or.inr (Or.inl he) | exact Or.inr (Or.inr he) | (exfalso; have he2 : _ = some i := he; have := own_base (by assumption) he2; omega) | (exfalso; have he2 : i = _ := he; omega) | (exfalso; have he2 : _ = some i := he; have := ow_base (by assumption) he2; omega) | (exfalso; have := he.1; omega))))))) (hA4.nw (by (repeat (first | exact Ch.refl _ | assumption | (refine Ch.fresh ?_ (by assumption) (by intro i hi he; first | exact he | exact (not_no he).elim | exact Or.inl he | exact Or.inr (Or.inl he) | exact Or.inr (Or.inr he) | (exfalso; have he2 : _ = some i := he; have := own_base (by assumption) he2; omega) | (exfalso; have he2 : i = _ := he; omega) | (exfalso; have he2 : _ = some i := he; have := ow_base (by assumption) he2; omega) | (exfalso; have := he.1; omega))))))) hD4.symm (by show 0 ≤ 50000; omega) (by show 0 ≤ 50000; omega) (by omega)) ?_
      rintro v117 w17 ⟨us5, rfl, hB5, hA5, hD5, c17⟩
      have hz17 := c17.size
      rw [hmo] at hA5
      refine L_run (.plain rfl) rfl rfl (r_move (by conv => lhs; whnf)) ?_
      refine L_run (.plain rfl) rfl rfl (r_ext2_0 rfl) ?_
      refine L_run (.plain rfl) rfl rfl (r_ext2_1 rfl) ?_
      refine L_new (.plain rfl) rfl rfl (r_alloca rfl) (fun w18 b17 hb17 eb18 hs18 c18 => ?_)
      refine L_run (.plain rfl) rfl rfl (r_assign (v := .int _ _) rfl) ?_
      refine L_storerow (.plain rfl) rfl rfl (by (exact Bk.to (by assumption) (by (repeat (first | exact Sm.refl _ _ | (refine Sm.stepT (by assumption) (by intro hlt hsm; first | exact not_no | (intro he; have he2 : _ = _ := he; omega) | (intro he; have := he.1; omega) | exact bkm_not (by assumption) hsm rfl | (refine owm_not ?_ hi hsm rfl <;> assumption)) ?_)))))) (by first | rfl | (simp; done) | assumption) (by first | rfl | assumption) (by first | rfl | (simp [Value.oneCell']; done) | assumption) (fun w19 hb19 hs19 c19 => ?_)
      refine L_nil ?_
      refine W_seq ?_
      refine W_region ?_
      refine L_run (.plain rfl) rfl rfl (r_move (v := .int _ _) rfl) ?_
      refine L_run (.plain rfl) rfl rfl (r_neq rfl rfl) ?_
      refine L_as (v := .bool _) (v' := .bool false) 121 rfl (dec_f (by decide)).symm ?_
      refine L_nil ?_
      refine W_false rfl ?_
      refine W_skip ?_
      refine W_seq ?_
      refine W_seq ?_
      refine W_region ?_
      refine L_run (.plain rfl) rfl rfl (r_assign (v := .int _ _) rfl) ?_
      refine L_nil ?_
      refine W_block ?_
      refine W_loopF [2, 7, 9] (fun m f W => ∃ (i : Nat) (S : Srv) (x : List (Int × Int)) (vs us : Value), f 18 = .int .i64 i ∧ (i ≤ y.length ∧ i ≤ 100 ∧ SrvAt w0.heap.size W b bm vs S ∧ SrvAt w0.heap.size W c cm us { S with st := x } ∧ Apart b bm vs c cm us ∧ S.most = n ∧ (S.kept.length : Int) ≤ S.most ∧ S.st.length ≤ 101 + i ∧ x.length ≤ 1 + i ∧ Nw w0 W) ∧ m = 100 - i) ?_ ?_
      · refine ⟨_, 0, ⟨n, 1000, 1, [(1, awZ)], S.st ++ [(1000, 1)]⟩, [(1000, 1)], vs4, us5, rfl, ?_, rfl⟩
        exact ⟨by omega, by omega, hA5.nw (by (repeat (first | exact Ch.refl _ | assumption | (refine Ch.fresh ?_ (by assumption) (by intro i hi he; first | exact he | exact (not_no he).elim | exact Or.inl he | exact Or.inr (Or.inl he) | exact Or.inr (Or.inr he) | (exfalso; have he2 : _ = some i := he; have := own_base (by assumption) he2; omega) | (exfalso; have he2 : i = _ := he; omega) | (exfalso; have he2 : _ = some i := he; have := ow_base (by assumption) he2; omega) | (exfalso; have := he.1; omega)))))), hB5.nw (by (repeat (first | exact Ch.refl _ | assumption | (refine Ch.fresh ?_ (by assumption) (by intro i hi he; first | exact he | exact (not_no he).elim | exact Or.inl he | exact Or.inr (Or.inl he) | exact Or.inr (Or.inr he) | (exfalso; have he2 : _ = some i := he; have := own_base (by assumption) he2; omega) | (exfalso; have he2 : i = _ := he; omega) | (exfalso; have he2 : _ = some i := he; have := ow_base (by assumption) he2; omega) | (exfalso; have := he.1; omega)))))), hD5.symm, rfl, by show ((1 : Nat) : Int) ≤ n; omega, by show (S.st ++ [_]).length ≤ _; rw [List.length_append, List.length_singleton]; omega, Nat.le_refl _, by (repeat (first | exact Ch.refl _ | assumption | (refine Ch.fresh ?_ (by assumption) (by intro i hi he; first | exact he | exact (not_no he).elim | exact Or.inl he | exact Or.inr (Or.inl he) | exact Or.inr (Or.inr he) | (exfalso; have he2 : _ = some i := he; have := own_base (by assumption) he2; omega) | (exfalso; have he2 : i = _ := he; omega) | (exfalso; have he2 : _ = some i := he; have := ow_base (by assumption) he2; omega) | (exfalso; have := he.1; omega)))))⟩
      rintro m1 g1 w20 ⟨i, S, x, vs, us, hf18, hR1, rfl⟩
      refine W_as 18 hf18 rfl ?_
      clear hf18
      obtain ⟨hi1, hi2, hA, hB, hD, hmo, hkl, hsl, hxl, hnw⟩ := hR1
      have hz := hnw.size
      refine W_seq ?_
      refine W_seq ?_
      refine W_region ?_
      refine L_run (.plain rfl) rfl rfl (r_move (v := .int _ _) rfl) ?_
      refine L_run (.plain rfl) rfl rfl (r_move (by conv => lhs; whnf)) ?_
      refine L_run (.plain rfl) rfl rfl (r_lenSl Try.underlying22 (by conv => lhs; whnf) (by (exact Sl.to (by first | assumption | exact Sl.own (by assumption) | exact Mu.sl (by assumption) | exact Ow.sl (by assumption)) (fun i hi => by (repeat (first | exact Sm.refl _ _ | (refine Sm.stepT (by assumption) (by intro hlt hsm; first | exact not_no | (intro he; have he2 : _ = _ := he; omega) | (intro he; have := he.1; omega) | exact bkm_not (by assumption) hsm rfl | (refine owm_not ?_ hi hsm rfl <;> assumption)) ?_))))))) ?_
      refine L_run (.plain rfl) rfl rfl (r_lss rfl rfl) ?_
      refine L_run (.plain rfl) rfl rfl (r_move (v := .bool _) rfl) ?_
      refine L_case (d := 126) rfl (fun h126 => ?_) (fun h126 => ?_)
      · refine L_run (.yes 4 true rfl rfl) rfl rfl (r_move (v := .int _ _) rfl) ?_
        refine L_run (.yes 4 true rfl rfl) rfl rfl (r_lss rfl rfl) ?_
        refine L_run (.plain rfl) rfl rfl (r_pick_t (v := .bool _) rfl rfl) ?_
        refine L_nil ?_
        refine W_if rfl (fun h129 => ?_) (fun h129 => ?_)
        · have hlt : i < y.length := by omega
          refine W_skip ?_
          refine W_cutF [2, 7, 9, 18] (fun f W => ∃ (S2 : Srv) (x2 : List (Int × Int)) (vs2 us2 : Value), True ∧ (i + 1 ≤ y.length ∧ i + 1 ≤ 100 ∧ SrvAt w0.heap.size W b bm vs2 S2 ∧ SrvAt w0.heap.size W c cm us2 { S2 with st := x2 } ∧ Apart b bm vs2 c cm us2 ∧ S2.most = n ∧ (S2.kept.length : Int) ≤ S2.most ∧ S2.st.length ≤ 101 + (i + 1) ∧ x2.length ≤ 1 + (i + 1) ∧ Nw w0 W)) ?_ ?_
          · refine W_block ?_
            refine W_seq ?_
            obtain ⟨Sx, hSx⟩ : ∃ x, x = S := ⟨_, rfl⟩
            obtain ⟨xx, hxx⟩ : ∃ z, z = x := ⟨_, rfl⟩
            obtain ⟨vx, hvx⟩ : ∃ x, x = vs := ⟨_, rfl⟩
            obtain ⟨ux, hux⟩ : ∃ x, x = us := ⟨_, rfl⟩
            have hc9 : ∀ (j : Nat) (u : Value), [Value.int .i64 y[i].k, .int .i64 y[i].m.kind, .int .u64 y[i].m.life, .int .u64 y[i].m.seq, .int .u64 y[i].m.below, .int .u64 y[i].m.object, .string y[i].m.method, .int .i64 y[i].m.way, .string y[i].m.body][j]? = some u → (cellsS y)[i * 9 + j]? = some u := cellsS_row y i hlt
            obtain ⟨a, ha⟩ : ∃ a, a = y[i] := ⟨_, rfl⟩
            rw [← ha] at hc9
            refine W_region ?_
            refine L_run (.plain rfl) rfl rfl (r_move (by conv => lhs; whnf)) ?_
            refine L_run (.plain rfl) rfl rfl (r_move (v := .int _ _) rfl) ?_
            refine L_run (.plain rfl) rfl rfl (r_idxSl Try.underlying22 (show _ = some 9 from rfl) (by conv => lhs; whnf) rfl (by (exact Sl.to (by first | assumption | exact Sl.own (by assumption) | exact Mu.sl (by assumption) | exact Ow.sl (by assumption)) (fun i hi => by (repeat (first | exact Sm.refl _ _ | (refine Sm.stepT (by assumption) (by intro hlt hsm; first | exact not_no | (intro he; have he2 : _ = _ := he; omega) | (intro he; have := he.1; omega) | exact bkm_not (by assumption) hsm rfl | (refine owm_not ?_ hi hsm rfl <;> assumption)) ?_)))))) (by omega) (by omega) (by conv => lhs; (try simp only [Nat.mul_one, Nat.zero_add, Int.toNat_natCast, Int.toNat_zero, Int.reduceToNat, Nat.reduceMul, Nat.reduceAdd]))) ?_
            refine L_run (.plain rfl) rfl rfl (r_loadSlrow (us := [.int .i64 a.k, .int .i64 a.m.kind, .int .u64 a.m.life, .int .u64 a.m.seq, .int .u64 a.m.below, .int .u64 a.m.object, .string a.m.method, .int .i64 a.m.way, .string a.m.body]) Try.underlying35 rfl rfl rfl rfl (by (exact Sl.to (by first | assumption | exact Sl.own (by assumption) | exact Mu.sl (by assumption) | exact Ow.sl (by assumption)) (fun i hi => by (repeat (first | exact Sm.refl _ _ | (refine Sm.stepT (by assumption) (by intro hlt hsm; first | exact not_no | (intro he; have he2 : _ = _ := he; omega) | (intro he; have := he.1; omega) | exact bkm_not (by assumption) hsm rfl | (refine owm_not ?_ hi hsm rfl <;> assumption)) ?_)))))) (by exact hc9)) ?_
            refine L_new (.plain rfl) rfl rfl (r_alloca rfl) (fun w21 b19 hb19 eb21 hs21 c21 => ?_)
            refine L_storerow (.plain rfl) rfl rfl (by (exact Bk.to (by assumption) (by (repeat (first | exact Sm.refl _ _ | (refine Sm.stepT (by assumption) (by intro hlt hsm; first | exact not_no | (intro he; have he2 : _ = _ := he; omega) | (intro he; have := he.1; omega) | exact bkm_not (by assumption) hsm rfl | (refine owm_not ?_ hi hsm rfl <;> assumption)) ?_)))))) (by first | rfl | (simp; done) | assumption) (by first | rfl | assumption) (by first | rfl | (simp [Value.oneCell']; done) | assumption) (fun w22 hb22 hs22 c22 => ?_)
            refine L_nil ?_
            refine W_seq ?_
            refine W_seq ?_
            refine W_region ?_
            refine L_run (.plain rfl) rfl rfl (r_loadrow Try.underlying35 rfl rfl (by (exact Bk.to (by assumption) (by (repeat (first | exact Sm.refl _ _ | (refine Sm.stepT (by assumption) (by intro hlt hsm; first | exact not_no | (intro he; have he2 : _ = _ := he; omega) | (intro he; have := he.1; omega) | exact bkm_not (by assumption) hsm rfl | (refine owm_not ?_ hi hsm rfl <;> assumption)) ?_)))))) (by first | rfl | assumption)) ?_
            refine L_call (.plain rfl) rfl rfl (r_call Try.func10 rfl rfl rfl (by rfl)) (few_walk a.k a.m _) ?_
            rintro v137 w23 ⟨rfl, c23⟩
            have hz23 := c23.size
            refine L_run (.plain rfl) rfl rfl (r_not rfl) ?_
            refine L_nil ?_
            refine W_bool rfl (fun h138 => ?_) (fun h138 => ?_)
            · refine W_exit ?_
              repeat (first | refine blk_hit ?_ | refine blk_miss rfl ?_)
              refine ⟨⟨rfl, rfl, rfl, rfl, trivial⟩, Sx, xx, vx, ux, trivial, ?_⟩
              first
                | (subst hSx hxx hvx hux
                   exact ⟨by omega, by omega, hA.nw (by (repeat (first | exact Ch.refl _ | assumption | (refine Ch.fresh ?_ (by assumption) (by intro i hi he; first | exact he | exact (not_no he).elim | exact Or.inl he | exact Or.inr (Or.inl he) | exact Or.inr (Or.inr he) | (exfalso; have he2 : _ = some i := he; have := own_base (by assumption) he2; omega) | (exfalso; have he2 : i = _ := he; omega) | (exfalso; have he2 : _ = some i := he; have := ow_base (by assumption) he2; omega) | (exfalso; have := he.1; omega)))))), hB.nw (by (repeat (first | exact Ch.refl _ | assumption | (refine Ch.fresh ?_ (by assumption) (by intro i hi he; first | exact he | exact (not_no he).elim | exact Or.inl he | exact Or.inr (Or.inl he) | exact Or.inr (Or.inr he) | (exfalso; have he2 : _ = some i := he; have := own_base (by assumption) he2; omega) | (exfalso; have he2 : i = _ := he; omega) | (exfalso; have he2 : _ = some i := he; have := ow_base (by assumption) he2; omega) | (exfalso; have := he.1; omega)))))), hD, hmo, hkl, by omega, by omega, by (repeat (first | exact Ch.refl _ | assumption | (refine Ch.fresh ?_ (by assumption) (by intro i hi he; first | exact he | exact (not_no he).elim | exact Or.inl he | exact Or.inr (Or.inl he) | exact Or.inr (Or.inr he) | (exfalso; have he2 : _ = some i := he; have := own_base (by assumption) he2; omega) | (exfalso; have he2 : i = _ := he; omega) | (exfalso; have he2 : _ = some i := he; have := ow_base (by assumption) he2; omega) | (exfalso; have := he.1; omega)))))⟩)
                | (subst hSx hxx hvx hux
                   exact ⟨by omega, by omega, hA7.nw (by (repeat (first | exact Ch.refl _ | assumption | (refine Ch.fresh ?_ (by assumption) (by intro i hi he; first | exact he | exact (not_no he).elim | exact Or.inl he | exact Or.inr (Or.inl he) | exact Or.inr (Or.inr he) | (exfalso; have he2 : _ = some i := he; have := own_base (by assumption) he2; omega) | (exfalso; have he2 : i = _ := he; omega) | (exfalso; have he2 : _ = some i := he; have := ow_base (by assumption) he2; omega) | (exfalso; have := he.1; omega)))))), hB7.nw (by (repeat (first | exact Ch.refl _ | assumption | (refine Ch.fresh ?_ (by assumption) (by intro i hi he; first | exact he | exact (not_no he).elim | exact Or.inl he | exact Or.inr (Or.inl he) | exact Or.inr (Or.inr he) | (exfalso; have he2 : _ = some i := he; have := own_base (by assumption) he2; omega) | (exfalso; have he2 : i = _ := he; omega) | (exfalso; have he2 : _ = some i := he; have := ow_base (by assumption) he2; omega) | (exfalso; have := he.1; omega)))))), hD7.symm, by omega, by omega, by omega, by omega, by (repeat (first | exact Ch.refl _ | assumption | (refine Ch.fresh ?_ (by assumption) (by intro i hi he; first | exact he | exact (not_no he).elim | exact Or.inl he | exact Or.inr (Or.inl he) | exact Or.inr (Or.inr he) | (exfalso; have he2 : _ = some i := he; have := own_base (by assumption) he2; omega) | (exfalso; have he2 : i = _ := he; omega) | (exfalso; have he2 : _ = some i := he; have := ow_base (by assumption) he2; omega) | (exfalso; have := he.1; omega)))))⟩)
            · refine W_skip ?_
              refine W_seq ?_
              refine W_seq ?_
              refine W_region ?_
              refine L_run (.plain rfl) rfl rfl (r_fieldb Try.underlying35 rfl (show _ = some 1 from rfl) rfl rfl (show _ = 0 from rfl)) ?_
              refine L_run (.plain rfl) rfl rfl (r_loadb rfl rfl (by (exact Bk.to (by assumption) (by (repeat (first | exact Sm.refl _ _ | (refine Sm.stepT (by assumption) (by intro hlt hsm; first | exact not_no | (intro he; have he2 : _ = _ := he; omega) | (intro he; have := he.1; omega) | exact bkm_not (by assumption) hsm rfl | (refine owm_not ?_ hi hsm rfl <;> assumption)) ?_)))))) (by first | assumption | (conv => lhs; simp only [List.getElem?_toArray, List.getElem?_cons_succ, List.getElem?_cons_zero]))) ?_
              refine L_run (.plain rfl) rfl rfl (r_eql rfl rfl) ?_
              refine L_nil ?_
              refine W_if rfl (fun h141 => ?_) (fun h141 => ?_)
              · refine W_seq ?_
                refine W_region ?_
                refine L_run (.plain rfl) rfl rfl (r_move (v := .pointer _) rfl) ?_
                refine L_run (.plain rfl) rfl rfl (r_fieldb Try.underlying35 rfl (show _ = some 8 from rfl) rfl rfl (show _ = 1 from rfl)) ?_
                refine L_run (.plain rfl) rfl rfl (r_loadsub (us := [.int _ _, .int _ _, .int _ _, .int _ _, .int _ _, .string _, .int _ _, .string _]) Try.underlying33 rfl (show _ = some 8 from rfl) rfl (by (exact Bk.to (by assumption) (by (repeat (first | exact Sm.refl _ _ | (refine Sm.stepT (by assumption) (by intro hlt hsm; first | exact not_no | (intro he; have he2 : _ = _ := he; omega) | (intro he; have := he.1; omega) | exact bkm_not (by assumption) hsm rfl | (refine owm_not ?_ hi hsm rfl <;> assumption)) ?_)))))) rfl rfl) ?_
                refine L_call (.plain rfl) rfl rfl (r_call Try.func12 rfl rfl rfl (by rfl)) (recv_two w0.heap.size b bm c cm _ _ _ (recv_eta S a.m) (hA.nw (by (repeat (first | exact Ch.refl _ | assumption | (refine Ch.fresh ?_ (by assumption) (by intro i hi he; first | exact he | exact (not_no he).elim | exact Or.inl he | exact Or.inr (Or.inl he) | exact Or.inr (Or.inr he) | (exfalso; have he2 : _ = some i := he; have := own_base (by assumption) he2; omega) | (exfalso; have he2 : i = _ := he; omega) | (exfalso; have he2 : _ = some i := he; have := ow_base (by assumption) he2; omega) | (exfalso; have := he.1; omega))))))) (hB.nw (by (repeat (first | exact Ch.refl _ | assumption | (refine Ch.fresh ?_ (by assumption) (by intro i hi he; first | exact he | exact (not_no he).elim | exact Or.inl he | exact Or.inr (Or.inl he) | exact Or.inr (Or.inr he) | (exfalso; have he2 : _ = some i := he; have := own_base (by assumption) he2; omega) | (exfalso; have he2 : i = _ := he; omega) | (exfalso; have he2 : _ = some i := he; have := ow_base (by assumption) he2; omega) | (exfalso; have := he.1; omega))))))) hD (by omega) (by omega) (by omega)) ?_
                rintro v146 w24 ⟨vs6, rfl, hA6, hB6, hD6, c24⟩
                have hz24 := c24.size
                obtain ⟨f1, f2, f3, f4, f5⟩ := recv_facts S a.m
                have f2' := f2 hkl
                obtain ⟨x', hx', hrx⟩ := recv_st S x a.m
                refine L_run (.plain rfl) rfl rfl (r_move (by conv => lhs; whnf)) ?_
                refine L_run (.plain rfl) rfl rfl (r_ext2_0 rfl) ?_
                refine L_run (.plain rfl) rfl rfl (r_ext2_1 rfl) ?_
                refine L_new (.plain rfl) rfl rfl (r_alloca rfl) (fun w25 b21 hb21 eb25 hs25 c25 => ?_)
                refine L_run (.plain rfl) rfl rfl (r_assign (v := .int _ _) rfl) ?_
                refine L_storerow (.plain rfl) rfl rfl (by (exact Bk.to (by assumption) (by (repeat (first | exact Sm.refl _ _ | (refine Sm.stepT (by assumption) (by intro hlt hsm; first | exact not_no | (intro he; have he2 : _ = _ := he; omega) | (intro he; have := he.1; omega) | exact bkm_not (by assumption) hsm rfl | (refine owm_not ?_ hi hsm rfl <;> assumption)) ?_)))))) (by first | rfl | (simp; done) | assumption) (by first | rfl | assumption) (by first | rfl | (simp [Value.oneCell']; done) | assumption) (fun w26 hb26 hs26 c26 => ?_)
                refine L_nil ?_
                refine W_seq ?_
                refine W_region ?_
                refine L_run (.plain rfl) rfl rfl (r_move (v := .pointer _) rfl) ?_
                refine L_run (.plain rfl) rfl rfl (r_fieldb Try.underlying35 rfl (show _ = some 8 from rfl) rfl rfl (show _ = 1 from rfl)) ?_
                refine L_run (.plain rfl) rfl rfl (r_loadsub (us := [.int _ _, .int _ _, .int _ _, .int _ _, .int _ _, .string _, .int _ _, .string _]) Try.underlying33 rfl (show _ = some 8 from rfl) rfl (by (exact Bk.to (by assumption) (by (repeat (first | exact Sm.refl _ _ | (refine Sm.stepT (by assumption) (by intro hlt hsm; first | exact not_no | (intro he; have he2 : _ = _ := he; omega) | (intro he; have := he.1; omega) | exact bkm_not (by assumption) hsm rfl | (refine owm_not ?_ hi hsm rfl <;> assumption)) ?_)))))) rfl rfl) ?_
                refine L_call (.plain rfl) rfl rfl (r_call Try.func12 rfl rfl rfl (by rfl)) (recv_two w0.heap.size c cm b bm _ _ _ hrx (hB6.nw (by (repeat (first | exact Ch.refl _ | assumption | (refine Ch.fresh ?_ (by assumption) (by intro i hi he; first | exact he | exact (not_no he).elim | exact Or.inl he | exact Or.inr (Or.inl he) | exact Or.inr (Or.inr he) | (exfalso; have he2 : _ = some i := he; have := own_base (by assumption) he2; omega) | (exfalso; have he2 : i = _ := he; omega) | (exfalso; have he2 : _ = some i := he; have := ow_base (by assumption) he2; omega) | (exfalso; have := he.1; omega))))))) (hA6.nw (by (repeat (first | exact Ch.refl _ | assumption | (refine Ch.fresh ?_ (by assumption) (by intro i hi he; first | exact he | exact (not_no he).elim | exact Or.inl he | exact Or.inr (Or.inl he) | exact Or.inr (Or.inr he) | (exfalso; have he2 : _ = some i := he; have := own_base (by assumption) he2; omega) | (exfalso; have he2 : i = _ := he; omega) | (exfalso; have he2 : _ = some i := he; have := ow_base (by assumption) he2; omega) | (exfalso; have := he.1; omega))))))) hD6.symm (by show S.kept.length ≤ _; omega) (by show x.length ≤ _; omega) (by omega)) ?_
                rintro v153 w27 ⟨us7, rfl, hB7, hA7, hD7, c27⟩
                have hz27 := c27.size
                clear hSx hvx hxx hux
                obtain ⟨Sx, hSx⟩ : ∃ z, z = (recv S a.m).1 := ⟨_, rfl⟩
                obtain ⟨xx, hxx⟩ : ∃ z, z = x' := ⟨_, rfl⟩
                obtain ⟨vx, hvx⟩ : ∃ z, z = vs6 := ⟨_, rfl⟩
                obtain ⟨ux, hux⟩ : ∃ z, z = us7 := ⟨_, rfl⟩
                refine L_run (.plain rfl) rfl rfl (r_move (by conv => lhs; whnf)) ?_
                refine L_run (.plain rfl) rfl rfl (r_ext2_0 rfl) ?_
                refine L_run (.plain rfl) rfl rfl (r_ext2_1 rfl) ?_
                refine L_new (.plain rfl) rfl rfl (r_alloca rfl) (fun w28 b23 hb23 eb28 hs28 c28 => ?_)
                refine L_run (.plain rfl) rfl rfl (r_assign (v := .int _ _) rfl) ?_
                refine L_storerow (.plain rfl) rfl rfl (by (exact Bk.to (by assumption) (by (repeat (first | exact Sm.refl _ _ | (refine Sm.stepT (by assumption) (by intro hlt hsm; first | exact not_no | (intro he; have he2 : _ = _ := he; omega) | (intro he; have := he.1; omega) | exact bkm_not (by assumption) hsm rfl | (refine owm_not ?_ hi hsm rfl <;> assumption)) ?_)))))) (by first | rfl | (simp; done) | assumption) (by first | rfl | assumption) (by first | rfl | (simp [Value.oneCell']; done) | assumption) (fun w29 hb29 hs29 c29 => ?_)
                refine L_nil ?_
                refine W_seq ?_
                refine W_seq ?_
                refine W_region ?_
                refine L_run (.plain rfl) rfl rfl (r_move (v := .int _ _) rfl) ?_
                refine L_run (.plain rfl) rfl rfl (r_move (v := .int _ _) rfl) ?_
                refine L_run (.plain rfl) rfl rfl (r_neq rfl rfl) ?_
                refine L_run (.plain rfl) rfl rfl (r_move (v := .bool _) rfl) ?_
                refine L_case (d := 159) rfl (fun h159 => ?_) (fun h159 => ?_)
                · omega
                · refine L_run (.yes 3 false rfl rfl) rfl rfl (r_loadrow Try.underlying33 rfl rfl (by (exact Bk.to (by assumption) (by (repeat (first | exact Sm.refl _ _ | (refine Sm.stepT (by assumption) (by intro hlt hsm; first | exact not_no | (intro he; have he2 : _ = _ := he; omega) | (intro he; have := he.1; omega) | exact bkm_not (by assumption) hsm rfl | (refine owm_not ?_ hi hsm rfl <;> assumption)) ?_)))))) (by first | rfl | assumption)) ?_
                  refine L_run (.yes 3 false rfl rfl) rfl rfl (r_loadrow Try.underlying33 rfl rfl (by (exact Bk.to (by assumption) (by (repeat (first | exact Sm.refl _ _ | (refine Sm.stepT (by assumption) (by intro hlt hsm; first | exact not_no | (intro he; have he2 : _ = _ := he; omega) | (intro he; have := he.1; omega) | exact bkm_not (by assumption) hsm rfl | (refine owm_not ?_ hi hsm rfl <;> assumption)) ?_)))))) (by first | rfl | assumption)) ?_
                  refine L_run (.yes 3 false rfl rfl) rfl rfl (r_neqR (xs := #[.int _ _, .int _ _, .int _ _, .int _ _, .int _ _, .string _, .int _ _, .string _]) (ys := #[.int _ _, .int _ _, .int _ _, .int _ _, .int _ _, .string _, .int _ _, .string _]) rfl rfl (by kernel_rfl) (eqMsg _ _ _ _ _ _ _ _ _ _ _ _ _ _ _ _ _)) ?_
                  refine L_run (.plain rfl) rfl rfl (r_pick_f (v := .bool _) rfl rfl) ?_
                  refine L_nil ?_
                  refine W_if rfl (fun h163 => ?_) (fun h163 => ?_)
                  · exfalso; exact h163 ⟨rfl, rfl, rfl, rfl, rfl, rfl, rfl, rfl⟩
                  · refine W_skip ?_
                    refine W_exit ?_
                    repeat (first | refine blk_hit ?_ | refine blk_miss rfl ?_)
                    refine ⟨⟨rfl, rfl, rfl, rfl, trivial⟩, Sx, xx, vx, ux, trivial, ?_⟩
                    first
                      | (subst hSx hxx hvx hux
                         exact ⟨by omega, by omega, hA.nw (by (repeat (first | exact Ch.refl _ | assumption | (refine Ch.fresh ?_ (by assumption) (by intro i hi he; first | exact he | exact (not_no he).elim | exact Or.inl he | exact Or.inr (Or.inl he) | exact Or.inr (Or.inr he) | (exfalso; have he2 : _ = some i := he; have := own_base (by assumption) he2; omega) | (exfalso; have he2 : i = _ := he; omega) | (exfalso; have he2 : _ = some i := he; have := ow_base (by assumption) he2; omega) | (exfalso; have := he.1; omega)))))), hB.nw (by (repeat (first | exact Ch.refl _ | assumption | (refine Ch.fresh ?_ (by assumption) (by intro i hi he; first | exact he | exact (not_no he).elim | exact Or.inl he | exact Or.inr (Or.inl he) | exact Or.inr (Or.inr he) | (exfalso; have he2 : _ = some i := he; have := own_base (by assumption) he2; omega) | (exfalso; have he2 : i = _ := he; omega) | (exfalso; have he2 : _ = some i := he; have := ow_base (by assumption) he2; omega) | (exfalso; have := he.1; omega)))))), hD, hmo, hkl, by omega, by omega, by (repeat (first | exact Ch.refl _ | assumption | (refine Ch.fresh ?_ (by assumption) (by intro i hi he; first | exact he | exact (not_no he).elim | exact Or.inl he | exact Or.inr (Or.inl he) | exact Or.inr (Or.inr he) | (exfalso; have he2 : _ = some i := he; have := own_base (by assumption) he2; omega) | (exfalso; have he2 : i = _ := he; omega) | (exfalso; have he2 : _ = some i := he; have := ow_base (by assumption) he2; omega) | (exfalso; have := he.1; omega)))))⟩)
                      | (subst hSx hxx hvx hux
                         exact ⟨by omega, by omega, hA7.nw (by (repeat (first | exact Ch.refl _ | assumption | (refine Ch.fresh ?_ (by assumption) (by intro i hi he; first | exact he | exact (not_no he).elim | exact Or.inl he | exact Or.inr (Or.inl he) | exact Or.inr (Or.inr he) | (exfalso; have he2 : _ = some i := he; have := own_base (by assumption) he2; omega) | (exfalso; have he2 : i = _ := he; omega) | (exfalso; have he2 : _ = some i := he; have := ow_base (by assumption) he2; omega) | (exfalso; have := he.1; omega)))))), hB7.nw (by (repeat (first | exact Ch.refl _ | assumption | (refine Ch.fresh ?_ (by assumption) (by intro i hi he; first | exact he | exact (not_no he).elim | exact Or.inl he | exact Or.inr (Or.inl he) | exact Or.inr (Or.inr he) | (exfalso; have he2 : _ = some i := he; have := own_base (by assumption) he2; omega) | (exfalso; have he2 : i = _ := he; omega) | (exfalso; have he2 : _ = some i := he; have := ow_base (by assumption) he2; omega) | (exfalso; have := he.1; omega)))))), hD7.symm, by omega, by omega, by omega, by omega, by (repeat (first | exact Ch.refl _ | assumption | (refine Ch.fresh ?_ (by assumption) (by intro i hi he; first | exact he | exact (not_no he).elim | exact Or.inl he | exact Or.inr (Or.inl he) | exact Or.inr (Or.inr he) | (exfalso; have he2 : _ = some i := he; have := own_base (by assumption) he2; omega) | (exfalso; have he2 : i = _ := he; omega) | (exfalso; have he2 : _ = some i := he; have := ow_base (by assumption) he2; omega) | (exfalso; have := he.1; omega)))))⟩)
              · refine W_skip ?_
                refine W_seq ?_
                refine W_region ?_
                refine L_run (.plain rfl) rfl rfl (r_move (v := .pointer _) rfl) ?_
                refine L_run (.plain rfl) rfl rfl (r_fieldb Try.underlying35 rfl (show _ = some 8 from rfl) rfl rfl (show _ = 1 from rfl)) ?_
                refine L_run (.plain rfl) rfl rfl (r_fieldb Try.underlying33 rfl (show _ = some 1 from rfl) rfl rfl (show _ = 2 from rfl)) ?_
                refine L_run (.plain rfl) rfl rfl (r_loadb rfl rfl (by (exact Bk.to (by assumption) (by (repeat (first | exact Sm.refl _ _ | (refine Sm.stepT (by assumption) (by intro hlt hsm; first | exact not_no | (intro he; have he2 : _ = _ := he; omega) | (intro he; have := he.1; omega) | exact bkm_not (by assumption) hsm rfl | (refine owm_not ?_ hi hsm rfl <;> assumption)) ?_)))))) (by first | assumption | (conv => lhs; simp only [List.getElem?_toArray, List.getElem?_cons_succ, List.getElem?_cons_zero]))) ?_
                refine L_run (.plain rfl) rfl rfl (r_fieldb Try.underlying35 rfl (show _ = some 8 from rfl) rfl rfl (show _ = 1 from rfl)) ?_
                refine L_run (.plain rfl) rfl rfl (r_fieldb Try.underlying33 rfl (show _ = some 1 from rfl) rfl rfl (show _ = 3 from rfl)) ?_
                refine L_run (.plain rfl) rfl rfl (r_loadb rfl rfl (by (exact Bk.to (by assumption) (by (repeat (first | exact Sm.refl _ _ | (refine Sm.stepT (by assumption) (by intro hlt hsm; first | exact not_no | (intro he; have he2 : _ = _ := he; omega) | (intro he; have := he.1; omega) | exact bkm_not (by assumption) hsm rfl | (refine owm_not ?_ hi hsm rfl <;> assumption)) ?_)))))) (by first | assumption | (conv => lhs; simp only [List.getElem?_toArray, List.getElem?_cons_succ, List.getElem?_cons_zero]))) ?_
                refine L_run (.plain rfl) rfl rfl (r_fieldb Try.underlying35 rfl (show _ = some 8 from rfl) rfl rfl (show _ = 1 from rfl)) ?_
                refine L_run (.plain rfl) rfl rfl (r_fieldb Try.underlying33 rfl (show _ = some 1 from rfl) rfl rfl (show _ = 7 from rfl)) ?_
                refine L_run (.plain rfl) rfl rfl (r_loadb rfl rfl (by (exact Bk.to (by assumption) (by (repeat (first | exact Sm.refl _ _ | (refine Sm.stepT (by assumption) (by intro hlt hsm; first | exact not_no | (intro he; have he2 : _ = _ := he; omega) | (intro he; have := he.1; omega) | exact bkm_not (by assumption) hsm rfl | (refine owm_not ?_ hi hsm rfl <;> assumption)) ?_)))))) (by first | assumption | (conv => lhs; simp only [List.getElem?_toArray, List.getElem?_cons_succ, List.getElem?_cons_zero]))) ?_
                refine L_run (.plain rfl) rfl rfl (r_fieldb Try.underlying35 rfl (show _ = some 8 from rfl) rfl rfl (show _ = 1 from rfl)) ?_
                refine L_run (.plain rfl) rfl rfl (r_fieldb Try.underlying33 rfl (show _ = some 1 from rfl) rfl rfl (show _ = 8 from rfl)) ?_
                refine L_run (.plain rfl) rfl rfl (r_loadb rfl rfl (by (exact Bk.to (by assumption) (by (repeat (first | exact Sm.refl _ _ | (refine Sm.stepT (by assumption) (by intro hlt hsm; first | exact not_no | (intro he; have he2 : _ = _ := he; omega) | (intro he; have := he.1; omega) | exact bkm_not (by assumption) hsm rfl | (refine owm_not ?_ hi hsm rfl <;> assumption)) ?_)))))) (by first | assumption | (conv => lhs; simp only [List.getElem?_toArray, List.getElem?_cons_succ, List.getElem?_cons_zero]))) ?_
                refine L_call (.plain rfl) rfl rfl (r_call Try.func14 rfl rfl rfl (by rfl)) (fin_two w0.heap.size b bm c cm _ _ _ (fin_eta S a.m.life a.m.seq a.m.way a.m.body) (hA.nw (by (repeat (first | exact Ch.refl _ | assumption | (refine Ch.fresh ?_ (by assumption) (by intro i hi he; first | exact he | exact (not_no he).elim | exact Or.inl he | exact Or.inr (Or.inl he) | exact Or.inr (Or.inr he) | (exfalso; have he2 : _ = some i := he; have := own_base (by assumption) he2; omega) | (exfalso; have he2 : i = _ := he; omega) | (exfalso; have he2 : _ = some i := he; have := ow_base (by assumption) he2; omega) | (exfalso; have := he.1; omega))))))) (hB.nw (by (repeat (first | exact Ch.refl _ | assumption | (refine Ch.fresh ?_ (by assumption) (by intro i hi he; first | exact he | exact (not_no he).elim | exact Or.inl he | exact Or.inr (Or.inl he) | exact Or.inr (Or.inr he) | (exfalso; have he2 : _ = some i := he; have := own_base (by assumption) he2; omega) | (exfalso; have he2 : i = _ := he; omega) | (exfalso; have he2 : _ = some i := he; have := ow_base (by assumption) he2; omega) | (exfalso; have := he.1; omega))))))) hD (by omega)) ?_
                rintro v178 w30 ⟨rfl, hA6, hB6, c30⟩
                have hz30 := c30.size
                obtain ⟨f1, f2', f3, f4, f5⟩ := fin_facts S a.m.life a.m.seq a.m.way a.m.body
                refine L_run (.plain rfl) rfl rfl (r_move (by conv => lhs; whnf)) ?_
                refine L_run (.plain rfl) rfl rfl (r_ext2_0 rfl) ?_
                refine L_run (.plain rfl) rfl rfl (r_ext2_1 rfl) ?_
                refine L_new (.plain rfl) rfl rfl (r_alloca rfl) (fun w31 b24 hb24 eb31 hs31 c31 => ?_)
                refine L_storerow (.plain rfl) rfl rfl (by (exact Bk.to (by assumption) (by (repeat (first | exact Sm.refl _ _ | (refine Sm.stepT (by assumption) (by intro hlt hsm; first | exact not_no | (intro he; have he2 : _ = _ := he; omega) | (intro he; have := he.1; omega) | exact bkm_not (by assumption) hsm rfl | (refine owm_not ?_ hi hsm rfl <;> assumption)) ?_)))))) (by first | rfl | (simp; done) | assumption) (by first | rfl | assumption) (by first | rfl | (simp [Value.oneCell']; done) | assumption) (fun w32 hb32 hs32 c32 => ?_)
                refine L_run (.plain rfl) rfl rfl (r_assign (v := .int _ _) rfl) ?_
                refine L_nil ?_
                refine W_seq ?_
                refine W_region ?_
                refine L_run (.plain rfl) rfl rfl (r_move (v := .pointer _) rfl) ?_
                refine L_run (.plain rfl) rfl rfl (r_fieldb Try.underlying35 rfl (show _ = some 8 from rfl) rfl rfl (show _ = 1 from rfl)) ?_
                refine L_run (.plain rfl) rfl rfl (r_fieldb Try.underlying33 rfl (show _ = some 1 from rfl) rfl rfl (show _ = 2 from rfl)) ?_
                refine L_run (.plain rfl) rfl rfl (r_loadb rfl rfl (by (exact Bk.to (by assumption) (by (repeat (first | exact Sm.refl _ _ | (refine Sm.stepT (by assumption) (by intro hlt hsm; first | exact not_no | (intro he; have he2 : _ = _ := he; omega) | (intro he; have := he.1; omega) | exact bkm_not (by assumption) hsm rfl | (refine owm_not ?_ hi hsm rfl <;> assumption)) ?_)))))) (by first | assumption | (conv => lhs; simp only [List.getElem?_toArray, List.getElem?_cons_succ, List.getElem?_cons_zero]))) ?_
                refine L_run (.plain rfl) rfl rfl (r_fieldb Try.underlying35 rfl (show _ = some 8 from rfl) rfl rfl (show _ = 1 from rfl)) ?_
                refine L_run (.plain rfl) rfl rfl (r_fieldb Try.underlying33 rfl (show _ = some 1 from rfl) rfl rfl (show _ = 3 from rfl)) ?_
                refine L_run (.plain rfl) rfl rfl (r_loadb rfl rfl (by (exact Bk.to (by assumption) (by (repeat (first | exact Sm.refl _ _ | (refine Sm.stepT (by assumption) (by intro hlt hsm; first | exact not_no | (intro he; have he2 : _ = _ := he; omega) | (intro he; have := he.1; omega) | exact bkm_not (by assumption) hsm rfl | (refine owm_not ?_ hi hsm rfl <;> assumption)) ?_)))))) (by first | assumption | (conv => lhs; simp only [List.getElem?_toArray, List.getElem?_cons_succ, List.getElem?_cons_zero]))) ?_
                refine L_run (.plain rfl) rfl rfl (r_fieldb Try.underlying35 rfl (show _ = some 8 from rfl) rfl rfl (show _ = 1 from rfl)) ?_
                refine L_run (.plain rfl) rfl rfl (r_fieldb Try.underlying33 rfl (show _ = some 1 from rfl) rfl rfl (show _ = 7 from rfl)) ?_
                refine L_run (.plain rfl) rfl rfl (r_loadb rfl rfl (by (exact Bk.to (by assumption) (by (repeat (first | exact Sm.refl _ _ | (refine Sm.stepT (by assumption) (by intro hlt hsm; first | exact not_no | (intro he; have he2 : _ = _ := he; omega) | (intro he; have := he.1; omega) | exact bkm_not (by assumption) hsm rfl | (refine owm_not ?_ hi hsm rfl <;> assumption)) ?_)))))) (by first | assumption | (conv => lhs; simp only [List.getElem?_toArray, List.getElem?_cons_succ, List.getElem?_cons_zero]))) ?_
                refine L_run (.plain rfl) rfl rfl (r_fieldb Try.underlying35 rfl (show _ = some 8 from rfl) rfl rfl (show _ = 1 from rfl)) ?_
                refine L_run (.plain rfl) rfl rfl (r_fieldb Try.underlying33 rfl (show _ = some 1 from rfl) rfl rfl (show _ = 8 from rfl)) ?_
                refine L_run (.plain rfl) rfl rfl (r_loadb rfl rfl (by (exact Bk.to (by assumption) (by (repeat (first | exact Sm.refl _ _ | (refine Sm.stepT (by assumption) (by intro hlt hsm; first | exact not_no | (intro he; have he2 : _ = _ := he; omega) | (intro he; have := he.1; omega) | exact bkm_not (by assumption) hsm rfl | (refine owm_not ?_ hi hsm rfl <;> assumption)) ?_)))))) (by first | assumption | (conv => lhs; simp only [List.getElem?_toArray, List.getElem?_cons_succ, List.getElem?_cons_zero]))) ?_
                refine L_call (.plain rfl) rfl rfl (r_call Try.func14 rfl rfl rfl (by rfl)) (fin_two w0.heap.size c cm b bm _ _ _ (fin_st S x a.m.life a.m.seq a.m.way a.m.body) (hB6.nw (by (repeat (first | exact Ch.refl _ | assumption | (refine Ch.fresh ?_ (by assumption) (by intro i hi he; first | exact he | exact (not_no he).elim | exact Or.inl he | exact Or.inr (Or.inl he) | exact Or.inr (Or.inr he) | (exfalso; have he2 : _ = some i := he; have := own_base (by assumption) he2; omega) | (exfalso; have he2 : i = _ := he; omega) | (exfalso; have he2 : _ = some i := he; have := ow_base (by assumption) he2; omega) | (exfalso; have := he.1; omega))))))) (hA6.nw (by (repeat (first | exact Ch.refl _ | assumption | (refine Ch.fresh ?_ (by assumption) (by intro i hi he; first | exact he | exact (not_no he).elim | exact Or.inl he | exact Or.inr (Or.inl he) | exact Or.inr (Or.inr he) | (exfalso; have he2 : _ = some i := he; have := own_base (by assumption) he2; omega) | (exfalso; have he2 : i = _ := he; omega) | (exfalso; have he2 : _ = some i := he; have := ow_base (by assumption) he2; omega) | (exfalso; have := he.1; omega))))))) hD.symm (by show S.kept.length ≤ _; omega)) ?_
                rintro v195 w33 ⟨rfl, hB7, hA7, c33⟩
                have hz33 := c33.size
                have hD7 := hD.symm
                have f3l := congrArg List.length f3
                clear hSx hvx hxx hux
                obtain ⟨Sx, hSx⟩ : ∃ z, z = (fin S a.m.life a.m.seq a.m.way a.m.body).1 := ⟨_, rfl⟩
                obtain ⟨xx, hxx⟩ : ∃ z, z = x := ⟨_, rfl⟩
                obtain ⟨vx, hvx⟩ : ∃ z, z = vs := ⟨_, rfl⟩
                obtain ⟨ux, hux⟩ : ∃ z, z = us := ⟨_, rfl⟩
                refine L_run (.plain rfl) rfl rfl (r_move (by conv => lhs; whnf)) ?_
                refine L_run (.plain rfl) rfl rfl (r_ext2_0 rfl) ?_
                refine L_run (.plain rfl) rfl rfl (r_ext2_1 rfl) ?_
                refine L_new (.plain rfl) rfl rfl (r_alloca rfl) (fun w34 b26 hb26 eb34 hs34 c34 => ?_)
                refine L_storerow (.plain rfl) rfl rfl (by (exact Bk.to (by assumption) (by (repeat (first | exact Sm.refl _ _ | (refine Sm.stepT (by assumption) (by intro hlt hsm; first | exact not_no | (intro he; have he2 : _ = _ := he; omega) | (intro he; have := he.1; omega) | exact bkm_not (by assumption) hsm rfl | (refine owm_not ?_ hi hsm rfl <;> assumption)) ?_)))))) (by first | rfl | (simp; done) | assumption) (by first | rfl | assumption) (by first | rfl | (simp [Value.oneCell']; done) | assumption) (fun w35 hb35 hs35 c35 => ?_)
                refine L_run (.plain rfl) rfl rfl (r_assign (v := .int _ _) rfl) ?_
                refine L_nil ?_
                refine W_seq ?_
                refine W_region ?_
                refine L_run (.plain rfl) rfl rfl (r_loadrow Try.underlying33 rfl rfl (by (exact Bk.to (by assumption) (by (repeat (first | exact Sm.refl _ _ | (refine Sm.stepT (by assumption) (by intro hlt hsm; first | exact not_no | (intro he; have he2 : _ = _ := he; omega) | (intro he; have := he.1; omega) | exact bkm_not (by assumption) hsm rfl | (refine owm_not ?_ hi hsm rfl <;> assumption)) ?_)))))) (by first | rfl | assumption)) ?_
                refine L_run (.plain rfl) rfl rfl (r_loadrow Try.underlying33 rfl rfl (by (exact Bk.to (by assumption) (by (repeat (first | exact Sm.refl _ _ | (refine Sm.stepT (by assumption) (by intro hlt hsm; first | exact not_no | (intro he; have he2 : _ = _ := he; omega) | (intro he; have := he.1; omega) | exact bkm_not (by assumption) hsm rfl | (refine owm_not ?_ hi hsm rfl <;> assumption)) ?_)))))) (by first | rfl | assumption)) ?_
                refine L_run (.plain rfl) rfl rfl (r_neqR (xs := #[.int _ _, .int _ _, .int _ _, .int _ _, .int _ _, .string _, .int _ _, .string _]) (ys := #[.int _ _, .int _ _, .int _ _, .int _ _, .int _ _, .string _, .int _ _, .string _]) rfl rfl (by kernel_rfl) (eqMsg _ _ _ _ _ _ _ _ _ _ _ _ _ _ _ _ _)) ?_
                refine L_run (.plain rfl) rfl rfl (r_move (v := .bool _) rfl) ?_
                refine L_case (d := 201) rfl (fun h201 => ?_) (fun h201 => ?_)
                · exfalso; exact h201 ⟨rfl, rfl, rfl, rfl, rfl, rfl, rfl, rfl⟩
                · refine L_run (.yes 3 false rfl rfl) rfl rfl (r_move (v := .int _ _) rfl) ?_
                  refine L_run (.yes 3 false rfl rfl) rfl rfl (r_move (v := .int _ _) rfl) ?_
                  refine L_run (.yes 3 false rfl rfl) rfl rfl (r_neq rfl rfl) ?_
                  refine L_run (.plain rfl) rfl rfl (r_pick_f (v := .bool _) rfl rfl) ?_
                  refine L_nil ?_
                  refine W_if rfl (fun h205 => ?_) (fun h205 => ?_)
                  · omega
                  · refine W_skip ?_
                    refine ⟨⟨rfl, rfl, rfl, rfl, trivial⟩, Sx, xx, vx, ux, trivial, ?_⟩
                    first
                      | (subst hSx hxx hvx hux
                         exact ⟨by omega, by omega, hA.nw (by (repeat (first | exact Ch.refl _ | assumption | (refine Ch.fresh ?_ (by assumption) (by intro i hi he; first | exact he | exact (not_no he).elim | exact Or.inl he | exact Or.inr (Or.inl he) | exact Or.inr (Or.inr he) | (exfalso; have he2 : _ = some i := he; have := own_base (by assumption) he2; omega) | (exfalso; have he2 : i = _ := he; omega) | (exfalso; have he2 : _ = some i := he; have := ow_base (by assumption) he2; omega) | (exfalso; have := he.1; omega)))))), hB.nw (by (repeat (first | exact Ch.refl _ | assumption | (refine Ch.fresh ?_ (by assumption) (by intro i hi he; first | exact he | exact (not_no he).elim | exact Or.inl he | exact Or.inr (Or.inl he) | exact Or.inr (Or.inr he) | (exfalso; have he2 : _ = some i := he; have := own_base (by assumption) he2; omega) | (exfalso; have he2 : i = _ := he; omega) | (exfalso; have he2 : _ = some i := he; have := ow_base (by assumption) he2; omega) | (exfalso; have := he.1; omega)))))), hD, hmo, hkl, by omega, by omega, by (repeat (first | exact Ch.refl _ | assumption | (refine Ch.fresh ?_ (by assumption) (by intro i hi he; first | exact he | exact (not_no he).elim | exact Or.inl he | exact Or.inr (Or.inl he) | exact Or.inr (Or.inr he) | (exfalso; have he2 : _ = some i := he; have := own_base (by assumption) he2; omega) | (exfalso; have he2 : i = _ := he; omega) | (exfalso; have he2 : _ = some i := he; have := ow_base (by assumption) he2; omega) | (exfalso; have := he.1; omega)))))⟩)
                      | (subst hSx hxx hvx hux
                         exact ⟨by omega, by omega, hA7.nw (by (repeat (first | exact Ch.refl _ | assumption | (refine Ch.fresh ?_ (by assumption) (by intro i hi he; first | exact he | exact (not_no he).elim | exact Or.inl he | exact Or.inr (Or.inl he) | exact Or.inr (Or.inr he) | (exfalso; have he2 : _ = some i := he; have := own_base (by assumption) he2; omega) | (exfalso; have he2 : i = _ := he; omega) | (exfalso; have he2 : _ = some i := he; have := ow_base (by assumption) he2; omega) | (exfalso; have := he.1; omega)))))), hB7.nw (by (repeat (first | exact Ch.refl _ | assumption | (refine Ch.fresh ?_ (by assumption) (by intro i hi he; first | exact he | exact (not_no he).elim | exact Or.inl he | exact Or.inr (Or.inl he) | exact Or.inr (Or.inr he) | (exfalso; have he2 : _ = some i := he; have := own_base (by assumption) he2; omega) | (exfalso; have he2 : i = _ := he; omega) | (exfalso; have he2 : _ = some i := he; have := ow_base (by assumption) he2; omega) | (exfalso; have := he.1; omega)))))), hD7.symm, by omega, by omega, by omega, by omega, by (repeat (first | exact Ch.refl _ | assumption | (refine Ch.fresh ?_ (by assumption) (by intro i hi he; first | exact he | exact (not_no he).elim | exact Or.inl he | exact Or.inr (Or.inl he) | exact Or.inr (Or.inr he) | (exfalso; have he2 : _ = some i := he; have := own_base (by assumption) he2; omega) | (exfalso; have he2 : i = _ := he; omega) | (exfalso; have he2 : _ = some i := he; have := ow_base (by assumption) he2; omega) | (exfalso; have := he.1; omega)))))⟩)
          rintro gcb3 w36 ⟨S2, x2, vs2, us2, -, hCb3⟩
          refine W_region ?_
          refine L_run (.plain rfl) rfl rfl (r_move (v := .int _ _) rfl) ?_
          refine L_run (.plain rfl) rfl rfl (r_add rfl rfl (by first | exact wr_i64 (by omega) | rfl)) ?_
          refine L_run (.plain rfl) rfl rfl (r_assign (v := .int _ _) rfl) ?_
          refine L_nil ?_
          refine ⟨⟨rfl, rfl, rfl, trivial⟩, _, ?_, i + 1, S2, x2, vs2, us2, rfl, ?_, rfl⟩
          · omega
          exact hCb3
        · refine W_exit ?_
          repeat (first | refine blk_hit ?_ | refine blk_miss rfl ?_)
          refine W_seq ?_
          refine W_region ?_
          refine L_run (.plain rfl) rfl rfl (r_move (v := .pointer _) rfl) ?_
          refine L_call (.plain rfl) rfl rfl (r_call Try.func15 rfl rfl rfl (by rfl)) (kept_walk w0.heap.size b bm vs S _ (hA.nw (by (repeat (first | exact Ch.refl _ | assumption | (refine Ch.fresh ?_ (by assumption) (by intro i hi he; first | exact he | exact (not_no he).elim | exact Or.inl he | exact Or.inr (Or.inl he) | exact Or.inr (Or.inr he) | (exfalso; have he2 : _ = some i := he; have := own_base (by assumption) he2; omega) | (exfalso; have he2 : i = _ := he; omega) | (exfalso; have he2 : _ = some i := he; have := ow_base (by assumption) he2; omega) | (exfalso; have := he.1; omega)))))))) ?_
          rintro v207 w37 ⟨rfl, rfl⟩
          refine L_run (.plain rfl) rfl rfl (r_move (v := .pointer _) rfl) ?_
          refine L_call (.plain rfl) rfl rfl (r_call Try.func15 rfl rfl rfl (by rfl)) (kept_walk w0.heap.size c cm us { S with st := x } _ (hB.nw (by (repeat (first | exact Ch.refl _ | assumption | (refine Ch.fresh ?_ (by assumption) (by intro i hi he; first | exact he | exact (not_no he).elim | exact Or.inl he | exact Or.inr (Or.inl he) | exact Or.inr (Or.inr he) | (exfalso; have he2 : _ = some i := he; have := own_base (by assumption) he2; omega) | (exfalso; have he2 : i = _ := he; omega) | (exfalso; have he2 : _ = some i := he; have := ow_base (by assumption) he2; omega) | (exfalso; have := he.1; omega)))))))) ?_
          rintro v209 w38 ⟨rfl, rfl⟩
          refine L_run (.plain rfl) rfl rfl (r_eql rfl rfl) ?_
          refine L_run (.plain rfl) rfl rfl (r_move (v := .bool _) rfl) ?_
          refine L_as (v := .bool _) (v' := .bool true) 211 rfl (dec_t (by rfl)).symm ?_
          refine L_run (.yes 5 true rfl rfl) rfl rfl (r_move (v := .pointer _) rfl) ?_
          refine L_call (.yes 5 true rfl rfl) rfl rfl (r_call Try.func18 rfl rfl rfl (by rfl)) (floor_walk w0.heap.size b bm vs S _ (hA.nw (by (repeat (first | exact Ch.refl _ | assumption | (refine Ch.fresh ?_ (by assumption) (by intro i hi he; first | exact he | exact (not_no he).elim | exact Or.inl he | exact Or.inr (Or.inl he) | exact Or.inr (Or.inr he) | (exfalso; have he2 : _ = some i := he; have := own_base (by assumption) he2; omega) | (exfalso; have he2 : i = _ := he; omega) | (exfalso; have he2 : _ = some i := he; have := ow_base (by assumption) he2; omega) | (exfalso; have := he.1; omega)))))))) ?_
          rintro v213 w39 ⟨rfl, rfl⟩
          refine L_run (.yes 5 true rfl rfl) rfl rfl (r_move (v := .pointer _) rfl) ?_
          refine L_call (.yes 5 true rfl rfl) rfl rfl (r_call Try.func18 rfl rfl rfl (by rfl)) (floor_walk w0.heap.size c cm us { S with st := x } _ (hB.nw (by (repeat (first | exact Ch.refl _ | assumption | (refine Ch.fresh ?_ (by assumption) (by intro i hi he; first | exact he | exact (not_no he).elim | exact Or.inl he | exact Or.inr (Or.inl he) | exact Or.inr (Or.inr he) | (exfalso; have he2 : _ = some i := he; have := own_base (by assumption) he2; omega) | (exfalso; have he2 : i = _ := he; omega) | (exfalso; have he2 : _ = some i := he; have := ow_base (by assumption) he2; omega) | (exfalso; have := he.1; omega)))))))) ?_
          rintro v215 w40 ⟨rfl, rfl⟩
          refine L_run (.yes 5 true rfl rfl) rfl rfl (r_eql rfl rfl) ?_
          refine L_run (.plain rfl) rfl rfl (r_pick_t (v := .bool _) rfl rfl) ?_
          refine L_run (.plain rfl) rfl rfl (r_move (v := .bool _) rfl) ?_
          refine L_as (v := .bool _) (v' := .bool true) 218 rfl (dec_t (by rfl)).symm ?_
          refine L_run (.yes 12 true rfl rfl) rfl rfl (r_move (v := .pointer _) rfl) ?_
          refine L_call (.yes 12 true rfl rfl) rfl rfl (r_call Try.func17 rfl rfl rfl (by rfl)) (life_walk w0.heap.size b bm vs S _ (hA.nw (by (repeat (first | exact Ch.refl _ | assumption | (refine Ch.fresh ?_ (by assumption) (by intro i hi he; first | exact he | exact (not_no he).elim | exact Or.inl he | exact Or.inr (Or.inl he) | exact Or.inr (Or.inr he) | (exfalso; have he2 : _ = some i := he; have := own_base (by assumption) he2; omega) | (exfalso; have he2 : i = _ := he; omega) | (exfalso; have he2 : _ = some i := he; have := ow_base (by assumption) he2; omega) | (exfalso; have := he.1; omega)))))))) ?_
          rintro v220 w41 ⟨rfl, rfl⟩
          refine L_run (.yes 12 true rfl rfl) rfl rfl (r_move (v := .pointer _) rfl) ?_
          refine L_call (.yes 12 true rfl rfl) rfl rfl (r_call Try.func17 rfl rfl rfl (by rfl)) (life_walk w0.heap.size c cm us { S with st := x } _ (hB.nw (by (repeat (first | exact Ch.refl _ | assumption | (refine Ch.fresh ?_ (by assumption) (by intro i hi he; first | exact he | exact (not_no he).elim | exact Or.inl he | exact Or.inr (Or.inl he) | exact Or.inr (Or.inr he) | (exfalso; have he2 : _ = some i := he; have := own_base (by assumption) he2; omega) | (exfalso; have he2 : i = _ := he; omega) | (exfalso; have he2 : _ = some i := he; have := ow_base (by assumption) he2; omega) | (exfalso; have := he.1; omega)))))))) ?_
          rintro v222 w42 ⟨rfl, rfl⟩
          refine L_run (.yes 12 true rfl rfl) rfl rfl (r_eql rfl rfl) ?_
          refine L_run (.plain rfl) rfl rfl (r_pick_t (v := .bool _) rfl rfl) ?_
          refine L_run (.plain rfl) rfl rfl (r_assign (v := .bool _) rfl) ?_
          refine L_nil ?_
          refine W_ret ?_
          refine ret1 (v := .bool _) rfl rfl ?_
          exact ⟨(dec_t rfl).symm, by (repeat (first | exact Ch.refl _ | assumption | (refine Ch.fresh ?_ (by assumption) (by intro i hi he; first | exact he | exact (not_no he).elim | exact Or.inl he | exact Or.inr (Or.inl he) | exact Or.inr (Or.inr he) | (exfalso; have he2 : _ = some i := he; have := own_base (by assumption) he2; omega) | (exfalso; have he2 : i = _ := he; omega) | (exfalso; have he2 : _ = some i := he; have := ow_base (by assumption) he2; omega) | (exfalso; have := he.1; omega)))))⟩
      · refine L_pass rfl rfl rfl rfl rfl ?_
        refine L_pass rfl rfl rfl rfl rfl ?_
        refine L_run (.plain rfl) rfl rfl (r_pick_f (v := .bool _) rfl rfl) ?_
        refine L_nil ?_
        refine W_false rfl ?_
        refine W_exit ?_
        repeat (first | refine blk_hit ?_ | refine blk_miss rfl ?_)
        refine W_seq ?_
        refine W_region ?_
        refine L_run (.plain rfl) rfl rfl (r_move (v := .pointer _) rfl) ?_
        refine L_call (.plain rfl) rfl rfl (r_call Try.func15 rfl rfl rfl (by rfl)) (kept_walk w0.heap.size b bm vs S _ (hA.nw (by (repeat (first | exact Ch.refl _ | assumption | (refine Ch.fresh ?_ (by assumption) (by intro i hi he; first | exact he | exact (not_no he).elim | exact Or.inl he | exact Or.inr (Or.inl he) | exact Or.inr (Or.inr he) | (exfalso; have he2 : _ = some i := he; have := own_base (by assumption) he2; omega) | (exfalso; have he2 : i = _ := he; omega) | (exfalso; have he2 : _ = some i := he; have := ow_base (by assumption) he2; omega) | (exfalso; have := he.1; omega)))))))) ?_
        rintro v207 w43 ⟨rfl, rfl⟩
        refine L_run (.plain rfl) rfl rfl (r_move (v := .pointer _) rfl) ?_
        refine L_call (.plain rfl) rfl rfl (r_call Try.func15 rfl rfl rfl (by rfl)) (kept_walk w0.heap.size c cm us { S with st := x } _ (hB.nw (by (repeat (first | exact Ch.refl _ | assumption | (refine Ch.fresh ?_ (by assumption) (by intro i hi he; first | exact he | exact (not_no he).elim | exact Or.inl he | exact Or.inr (Or.inl he) | exact Or.inr (Or.inr he) | (exfalso; have he2 : _ = some i := he; have := own_base (by assumption) he2; omega) | (exfalso; have he2 : i = _ := he; omega) | (exfalso; have he2 : _ = some i := he; have := ow_base (by assumption) he2; omega) | (exfalso; have := he.1; omega)))))))) ?_
        rintro v209 w44 ⟨rfl, rfl⟩
        refine L_run (.plain rfl) rfl rfl (r_eql rfl rfl) ?_
        refine L_run (.plain rfl) rfl rfl (r_move (v := .bool _) rfl) ?_
        refine L_as (v := .bool _) (v' := .bool true) 211 rfl (dec_t (by rfl)).symm ?_
        refine L_run (.yes 5 true rfl rfl) rfl rfl (r_move (v := .pointer _) rfl) ?_
        refine L_call (.yes 5 true rfl rfl) rfl rfl (r_call Try.func18 rfl rfl rfl (by rfl)) (floor_walk w0.heap.size b bm vs S _ (hA.nw (by (repeat (first | exact Ch.refl _ | assumption | (refine Ch.fresh ?_ (by assumption) (by intro i hi he; first | exact he | exact (not_no he).elim | exact Or.inl he | exact Or.inr (Or.inl he) | exact Or.inr (Or.inr he) | (exfalso; have he2 : _ = some i := he; have := own_base (by assumption) he2; omega) | (exfalso; have he2 : i = _ := he; omega) | (exfalso; have he2 : _ = some i := he; have := ow_base (by assumption) he2; omega) | (exfalso; have := he.1; omega)))))))) ?_
        rintro v213 w45 ⟨rfl, rfl⟩
        refine L_run (.yes 5 true rfl rfl) rfl rfl (r_move (v := .pointer _) rfl) ?_
        refine L_call (.yes 5 true rfl rfl) rfl rfl (r_call Try.func18 rfl rfl rfl (by rfl)) (floor_walk w0.heap.size c cm us { S with st := x } _ (hB.nw (by (repeat (first | exact Ch.refl _ | assumption | (refine Ch.fresh ?_ (by assumption) (by intro i hi he; first | exact he | exact (not_no he).elim | exact Or.inl he | exact Or.inr (Or.inl he) | exact Or.inr (Or.inr he) | (exfalso; have he2 : _ = some i := he; have := own_base (by assumption) he2; omega) | (exfalso; have he2 : i = _ := he; omega) | (exfalso; have he2 : _ = some i := he; have := ow_base (by assumption) he2; omega) | (exfalso; have := he.1; omega)))))))) ?_
        rintro v215 w46 ⟨rfl, rfl⟩
        refine L_run (.yes 5 true rfl rfl) rfl rfl (r_eql rfl rfl) ?_
        refine L_run (.plain rfl) rfl rfl (r_pick_t (v := .bool _) rfl rfl) ?_
        refine L_run (.plain rfl) rfl rfl (r_move (v := .bool _) rfl) ?_
        refine L_as (v := .bool _) (v' := .bool true) 218 rfl (dec_t (by rfl)).symm ?_
        refine L_run (.yes 12 true rfl rfl) rfl rfl (r_move (v := .pointer _) rfl) ?_
        refine L_call (.yes 12 true rfl rfl) rfl rfl (r_call Try.func17 rfl rfl rfl (by rfl)) (life_walk w0.heap.size b bm vs S _ (hA.nw (by (repeat (first | exact Ch.refl _ | assumption | (refine Ch.fresh ?_ (by assumption) (by intro i hi he; first | exact he | exact (not_no he).elim | exact Or.inl he | exact Or.inr (Or.inl he) | exact Or.inr (Or.inr he) | (exfalso; have he2 : _ = some i := he; have := own_base (by assumption) he2; omega) | (exfalso; have he2 : i = _ := he; omega) | (exfalso; have he2 : _ = some i := he; have := ow_base (by assumption) he2; omega) | (exfalso; have := he.1; omega)))))))) ?_
        rintro v220 w47 ⟨rfl, rfl⟩
        refine L_run (.yes 12 true rfl rfl) rfl rfl (r_move (v := .pointer _) rfl) ?_
        refine L_call (.yes 12 true rfl rfl) rfl rfl (r_call Try.func17 rfl rfl rfl (by rfl)) (life_walk w0.heap.size c cm us { S with st := x } _ (hB.nw (by (repeat (first | exact Ch.refl _ | assumption | (refine Ch.fresh ?_ (by assumption) (by intro i hi he; first | exact he | exact (not_no he).elim | exact Or.inl he | exact Or.inr (Or.inl he) | exact Or.inr (Or.inr he) | (exfalso; have he2 : _ = some i := he; have := own_base (by assumption) he2; omega) | (exfalso; have he2 : i = _ := he; omega) | (exfalso; have he2 : _ = some i := he; have := ow_base (by assumption) he2; omega) | (exfalso; have := he.1; omega)))))))) ?_
        rintro v222 w48 ⟨rfl, rfl⟩
        refine L_run (.yes 12 true rfl rfl) rfl rfl (r_eql rfl rfl) ?_
        refine L_run (.plain rfl) rfl rfl (r_pick_t (v := .bool _) rfl rfl) ?_
        refine L_run (.plain rfl) rfl rfl (r_assign (v := .bool _) rfl) ?_
        refine L_nil ?_
        refine W_ret ?_
        refine ret1 (v := .bool _) rfl rfl ?_
        exact ⟨(dec_t rfl).symm, by (repeat (first | exact Ch.refl _ | assumption | (refine Ch.fresh ?_ (by assumption) (by intro i hi he; first | exact he | exact (not_no he).elim | exact Or.inl he | exact Or.inr (Or.inl he) | exact Or.inr (Or.inr he) | (exfalso; have he2 : _ = some i := he; have := own_base (by assumption) he2; omega) | (exfalso; have he2 : i = _ := he; omega) | (exfalso; have he2 : _ = some i := he; have := ow_base (by assumption) he2; omega) | (exfalso; have := he.1; omega)))))⟩
  · refine L_pass rfl rfl rfl rfl rfl ?_
    refine L_pass rfl rfl rfl rfl rfl ?_
    refine L_run (.plain rfl) rfl rfl (r_pick_f (v := .bool _) rfl rfl) ?_
    refine L_nil ?_
    refine W_false rfl ?_
    refine W_exit ?_
    repeat (first | refine blk_hit ?_ | refine blk_miss rfl ?_)
    refine W_seq ?_
    refine W_region ?_
    refine L_call (.plain rfl) rfl rfl (r_call Try.func20 rfl rfl rfl (by rfl)) (call_walk 1000 1 1 _) ?_
    rintro v105 w49 ⟨rfl, c49⟩
    have hz49 := c49.size
    refine L_new (.plain rfl) rfl rfl (r_alloca rfl) (fun w50 b13 hb13 eb50 hs50 c50 => ?_)
    refine L_storerow (.plain rfl) rfl rfl (by (exact Bk.to (by assumption) (by (repeat (first | exact Sm.refl _ _ | (refine Sm.stepT (by assumption) (by intro hlt hsm; first | exact not_no | (intro he; have he2 : _ = _ := he; omega) | (intro he; have := he.1; omega) | exact bkm_not (by assumption) hsm rfl | (refine owm_not ?_ hi hsm rfl <;> assumption)) ?_)))))) (by first | rfl | (simp; done) | assumption) (by first | rfl | assumption) (by first | rfl | (simp [Value.oneCell']; done) | assumption) (fun w51 hb51 hs51 c51 => ?_)
    refine L_nil ?_
    refine W_seq ?_
    refine W_seq ?_
    refine W_region ?_
    refine L_run (.plain rfl) rfl rfl (r_move (v := .pointer _) rfl) ?_
    refine L_run (.plain rfl) rfl rfl (r_loadrow Try.underlying33 rfl rfl (by (exact Bk.to (by assumption) (by (repeat (first | exact Sm.refl _ _ | (refine Sm.stepT (by assumption) (by intro hlt hsm; first | exact not_no | (intro he; have he2 : _ = _ := he; omega) | (intro he; have := he.1; omega) | exact bkm_not (by assumption) hsm rfl | (refine owm_not ?_ hi hsm rfl <;> assumption)) ?_)))))) (by first | rfl | assumption)) ?_
    refine L_call (.plain rfl) rfl rfl (r_call Try.func12 rfl rfl rfl (by rfl)) (recv_two w0.heap.size b bm c cm _ _ _ (first_new S hlf (by omega)) (hA.nw (by (repeat (first | exact Ch.refl _ | assumption | (refine Ch.fresh ?_ (by assumption) (by intro i hi he; first | exact he | exact (not_no he).elim | exact Or.inl he | exact Or.inr (Or.inl he) | exact Or.inr (Or.inr he) | (exfalso; have he2 : _ = some i := he; have := own_base (by assumption) he2; omega) | (exfalso; have he2 : i = _ := he; omega) | (exfalso; have he2 : _ = some i := he; have := ow_base (by assumption) he2; omega) | (exfalso; have := he.1; omega))))))) (hB.nw (by (repeat (first | exact Ch.refl _ | assumption | (refine Ch.fresh ?_ (by assumption) (by intro i hi he; first | exact he | exact (not_no he).elim | exact Or.inl he | exact Or.inr (Or.inl he) | exact Or.inr (Or.inr he) | (exfalso; have he2 : _ = some i := he; have := own_base (by assumption) he2; omega) | (exfalso; have he2 : i = _ := he; omega) | (exfalso; have he2 : _ = some i := he; have := ow_base (by assumption) he2; omega) | (exfalso; have := he.1; omega))))))) hD (by omega) (by omega) (by omega)) ?_
    rintro v109 w52 ⟨vs4, rfl, hA4, hB4, hD4, c52⟩
    have hz52 := c52.size
    refine L_run (.plain rfl) rfl rfl (r_move (by conv => lhs; whnf)) ?_
    refine L_run (.plain rfl) rfl rfl (r_ext2_0 rfl) ?_
    refine L_run (.plain rfl) rfl rfl (r_ext2_1 rfl) ?_
    refine L_new (.plain rfl) rfl rfl (r_alloca rfl) (fun w53 b15 hb15 eb53 hs53 c53 => ?_)
    refine L_run (.plain rfl) rfl rfl (r_assign (v := .int _ _) rfl) ?_
    refine L_storerow (.plain rfl) rfl rfl (by (exact Bk.to (by assumption) (by (repeat (first | exact Sm.refl _ _ | (refine Sm.stepT (by assumption) (by intro hlt hsm; first | exact not_no | (intro he; have he2 : _ = _ := he; omega) | (intro he; have := he.1; omega) | exact bkm_not (by assumption) hsm rfl | (refine owm_not ?_ hi hsm rfl <;> assumption)) ?_)))))) (by first | rfl | (simp; done) | assumption) (by first | rfl | assumption) (by first | rfl | (simp [Value.oneCell']; done) | assumption) (fun w54 hb54 hs54 c54 => ?_)
    refine L_nil ?_
    refine W_seq ?_
    refine W_region ?_
    refine L_run (.plain rfl) rfl rfl (r_move (v := .int _ _) rfl) ?_
    refine L_run (.plain rfl) rfl rfl (r_neq rfl rfl) ?_
    refine L_as (v := .bool _) (v' := .bool false) 113 rfl (dec_f (by decide)).symm ?_
    refine L_nil ?_
    refine W_false rfl ?_
    refine W_skip ?_
    refine W_seq ?_
    refine W_seq ?_
    refine W_region ?_
    refine L_run (.plain rfl) rfl rfl (r_move (v := .pointer _) rfl) ?_
    refine L_run (.plain rfl) rfl rfl (r_loadrow Try.underlying33 rfl rfl (by (exact Bk.to (by assumption) (by (repeat (first | exact Sm.refl _ _ | (refine Sm.stepT (by assumption) (by intro hlt hsm; first | exact not_no | (intro he; have he2 : _ = _ := he; omega) | (intro he; have := he.1; omega) | exact bkm_not (by assumption) hsm rfl | (refine owm_not ?_ hi hsm rfl <;> assumption)) ?_)))))) (by first | rfl | assumption)) ?_
    refine L_call (.plain rfl) rfl rfl (r_call Try.func12 rfl rfl rfl (by rfl)) (recv_two w0.heap.size c cm b bm _ _ _ (first_new ⟨n, 0, 1, [], []⟩ (show (0 : Int) < 1000 by decide) (by show 1 ≤ n; omega)) (hB4.nw (by (repeat (first | exact Ch.refl _ | assumption | (refine Ch.fresh ?_ (by assumption) (by intro i hi he; first | exact he | exact (not_no he).elim | exact Or.inl he | exact Or.inr (Or.inl he) | exact Or.inr (Or.inr he) | (exfalso; have he2 : _ = some i := he; have := own_base (by assumption) he2; omega) | (exfalso; have he2 : i = _ := he; omega) | (exfalso; have he2 : _ = some i := he; have := ow_base (by assumption) he2; omega) | (exfalso; have := he.1; omega))))))) (hA4.nw (by (repeat (first | exact Ch.refl _ | assumption | (refine Ch.fresh ?_ (by assumption) (by intro i hi he; first | exact he | exact (not_no he).elim | exact Or.inl he | exact Or.inr (Or.inl he) | exact Or.inr (Or.inr he) | (exfalso; have he2 : _ = some i := he; have := own_base (by assumption) he2; omega) | (exfalso; have he2 : i = _ := he; omega) | (exfalso; have he2 : _ = some i := he; have := ow_base (by assumption) he2; omega) | (exfalso; have := he.1; omega))))))) hD4.symm (by show 0 ≤ 50000; omega) (by show 0 ≤ 50000; omega) (by omega)) ?_
    rintro v117 w55 ⟨us5, rfl, hB5, hA5, hD5, c55⟩
    have hz55 := c55.size
    rw [hmo] at hA5
    refine L_run (.plain rfl) rfl rfl (r_move (by conv => lhs; whnf)) ?_
    refine L_run (.plain rfl) rfl rfl (r_ext2_0 rfl) ?_
    refine L_run (.plain rfl) rfl rfl (r_ext2_1 rfl) ?_
    refine L_new (.plain rfl) rfl rfl (r_alloca rfl) (fun w56 b17 hb17 eb56 hs56 c56 => ?_)
    refine L_run (.plain rfl) rfl rfl (r_assign (v := .int _ _) rfl) ?_
    refine L_storerow (.plain rfl) rfl rfl (by (exact Bk.to (by assumption) (by (repeat (first | exact Sm.refl _ _ | (refine Sm.stepT (by assumption) (by intro hlt hsm; first | exact not_no | (intro he; have he2 : _ = _ := he; omega) | (intro he; have := he.1; omega) | exact bkm_not (by assumption) hsm rfl | (refine owm_not ?_ hi hsm rfl <;> assumption)) ?_)))))) (by first | rfl | (simp; done) | assumption) (by first | rfl | assumption) (by first | rfl | (simp [Value.oneCell']; done) | assumption) (fun w57 hb57 hs57 c57 => ?_)
    refine L_nil ?_
    refine W_seq ?_
    refine W_region ?_
    refine L_run (.plain rfl) rfl rfl (r_move (v := .int _ _) rfl) ?_
    refine L_run (.plain rfl) rfl rfl (r_neq rfl rfl) ?_
    refine L_as (v := .bool _) (v' := .bool false) 121 rfl (dec_f (by decide)).symm ?_
    refine L_nil ?_
    refine W_false rfl ?_
    refine W_skip ?_
    refine W_seq ?_
    refine W_seq ?_
    refine W_region ?_
    refine L_run (.plain rfl) rfl rfl (r_assign (v := .int _ _) rfl) ?_
    refine L_nil ?_
    refine W_block ?_
    refine W_loopF [2, 7, 9] (fun m f W => ∃ (i : Nat) (S : Srv) (x : List (Int × Int)) (vs us : Value), f 18 = .int .i64 i ∧ (i ≤ y.length ∧ i ≤ 100 ∧ SrvAt w0.heap.size W b bm vs S ∧ SrvAt w0.heap.size W c cm us { S with st := x } ∧ Apart b bm vs c cm us ∧ S.most = n ∧ (S.kept.length : Int) ≤ S.most ∧ S.st.length ≤ 101 + i ∧ x.length ≤ 1 + i ∧ Nw w0 W) ∧ m = 100 - i) ?_ ?_
    · refine ⟨_, 0, ⟨n, 1000, 1, [(1, awZ)], S.st ++ [(1000, 1)]⟩, [(1000, 1)], vs4, us5, rfl, ?_, rfl⟩
      exact ⟨by omega, by omega, hA5.nw (by (repeat (first | exact Ch.refl _ | assumption | (refine Ch.fresh ?_ (by assumption) (by intro i hi he; first | exact he | exact (not_no he).elim | exact Or.inl he | exact Or.inr (Or.inl he) | exact Or.inr (Or.inr he) | (exfalso; have he2 : _ = some i := he; have := own_base (by assumption) he2; omega) | (exfalso; have he2 : i = _ := he; omega) | (exfalso; have he2 : _ = some i := he; have := ow_base (by assumption) he2; omega) | (exfalso; have := he.1; omega)))))), hB5.nw (by (repeat (first | exact Ch.refl _ | assumption | (refine Ch.fresh ?_ (by assumption) (by intro i hi he; first | exact he | exact (not_no he).elim | exact Or.inl he | exact Or.inr (Or.inl he) | exact Or.inr (Or.inr he) | (exfalso; have he2 : _ = some i := he; have := own_base (by assumption) he2; omega) | (exfalso; have he2 : i = _ := he; omega) | (exfalso; have he2 : _ = some i := he; have := ow_base (by assumption) he2; omega) | (exfalso; have := he.1; omega)))))), hD5.symm, rfl, by show ((1 : Nat) : Int) ≤ n; omega, by show (S.st ++ [_]).length ≤ _; rw [List.length_append, List.length_singleton]; omega, Nat.le_refl _, by (repeat (first | exact Ch.refl _ | assumption | (refine Ch.fresh ?_ (by assumption) (by intro i hi he; first | exact he | exact (not_no he).elim | exact Or.inl he | exact Or.inr (Or.inl he) | exact Or.inr (Or.inr he) | (exfalso; have he2 : _ = some i := he; have := own_base (by assumption) he2; omega) | (exfalso; have he2 : i = _ := he; omega) | (exfalso; have he2 : _ = some i := he; have := ow_base (by assumption) he2; omega) | (exfalso; have := he.1; omega)))))⟩
    rintro m1 g1 w58 ⟨i, S, x, vs, us, hf18, hR1, rfl⟩
    refine W_as 18 hf18 rfl ?_
    clear hf18
    obtain ⟨hi1, hi2, hA, hB, hD, hmo, hkl, hsl, hxl, hnw⟩ := hR1
    have hz := hnw.size
    refine W_seq ?_
    refine W_seq ?_
    refine W_region ?_
    refine L_run (.plain rfl) rfl rfl (r_move (v := .int _ _) rfl) ?_
    refine L_run (.plain rfl) rfl rfl (r_move (by conv => lhs; whnf)) ?_
    refine L_run (.plain rfl) rfl rfl (r_lenSl Try.underlying22 (by conv => lhs; whnf) (by (exact Sl.to (by first | assumption | exact Sl.own (by assumption) | exact Mu.sl (by assumption) | exact Ow.sl (by assumption)) (fun i hi => by (repeat (first | exact Sm.refl _ _ | (refine Sm.stepT (by assumption) (by intro hlt hsm; first | exact not_no | (intro he; have he2 : _ = _ := he; omega) | (intro he; have := he.1; omega) | exact bkm_not (by assumption) hsm rfl | (refine owm_not ?_ hi hsm rfl <;> assumption)) ?_))))))) ?_
    refine L_run (.plain rfl) rfl rfl (r_lss rfl rfl) ?_
    refine L_run (.plain rfl) rfl rfl (r_move (v := .bool _) rfl) ?_
    refine L_case (d := 126) rfl (fun h126 => ?_) (fun h126 => ?_)
    · refine L_run (.yes 4 true rfl rfl) rfl rfl (r_move (v := .int _ _) rfl) ?_
      refine L_run (.yes 4 true rfl rfl) rfl rfl (r_lss rfl rfl) ?_
      refine L_run (.plain rfl) rfl rfl (r_pick_t (v := .bool _) rfl rfl) ?_
      refine L_nil ?_
      refine W_if rfl (fun h129 => ?_) (fun h129 => ?_)
      · have hlt : i < y.length := by omega
        refine W_skip ?_
        refine W_cutF [2, 7, 9, 18] (fun f W => ∃ (S2 : Srv) (x2 : List (Int × Int)) (vs2 us2 : Value), True ∧ (i + 1 ≤ y.length ∧ i + 1 ≤ 100 ∧ SrvAt w0.heap.size W b bm vs2 S2 ∧ SrvAt w0.heap.size W c cm us2 { S2 with st := x2 } ∧ Apart b bm vs2 c cm us2 ∧ S2.most = n ∧ (S2.kept.length : Int) ≤ S2.most ∧ S2.st.length ≤ 101 + (i + 1) ∧ x2.length ≤ 1 + (i + 1) ∧ Nw w0 W)) ?_ ?_
        · refine W_block ?_
          refine W_seq ?_
          obtain ⟨Sx, hSx⟩ : ∃ x, x = S := ⟨_, rfl⟩
          obtain ⟨xx, hxx⟩ : ∃ z, z = x := ⟨_, rfl⟩
          obtain ⟨vx, hvx⟩ : ∃ x, x = vs := ⟨_, rfl⟩
          obtain ⟨ux, hux⟩ : ∃ x, x = us := ⟨_, rfl⟩
          have hc9 : ∀ (j : Nat) (u : Value), [Value.int .i64 y[i].k, .int .i64 y[i].m.kind, .int .u64 y[i].m.life, .int .u64 y[i].m.seq, .int .u64 y[i].m.below, .int .u64 y[i].m.object, .string y[i].m.method, .int .i64 y[i].m.way, .string y[i].m.body][j]? = some u → (cellsS y)[i * 9 + j]? = some u := cellsS_row y i hlt
          obtain ⟨a, ha⟩ : ∃ a, a = y[i] := ⟨_, rfl⟩
          rw [← ha] at hc9
          refine W_region ?_
          refine L_run (.plain rfl) rfl rfl (r_move (by conv => lhs; whnf)) ?_
          refine L_run (.plain rfl) rfl rfl (r_move (v := .int _ _) rfl) ?_
          refine L_run (.plain rfl) rfl rfl (r_idxSl Try.underlying22 (show _ = some 9 from rfl) (by conv => lhs; whnf) rfl (by (exact Sl.to (by first | assumption | exact Sl.own (by assumption) | exact Mu.sl (by assumption) | exact Ow.sl (by assumption)) (fun i hi => by (repeat (first | exact Sm.refl _ _ | (refine Sm.stepT (by assumption) (by intro hlt hsm; first | exact not_no | (intro he; have he2 : _ = _ := he; omega) | (intro he; have := he.1; omega) | exact bkm_not (by assumption) hsm rfl | (refine owm_not ?_ hi hsm rfl <;> assumption)) ?_)))))) (by omega) (by omega) (by conv => lhs; (try simp only [Nat.mul_one, Nat.zero_add, Int.toNat_natCast, Int.toNat_zero, Int.reduceToNat, Nat.reduceMul, Nat.reduceAdd]))) ?_
          refine L_run (.plain rfl) rfl rfl (r_loadSlrow (us := [.int .i64 a.k, .int .i64 a.m.kind, .int .u64 a.m.life, .int .u64 a.m.seq, .int .u64 a.m.below, .int .u64 a.m.object, .string a.m.method, .int .i64 a.m.way, .string a.m.body]) Try.underlying35 rfl rfl rfl rfl (by (exact Sl.to (by first | assumption | exact Sl.own (by assumption) | exact Mu.sl (by assumption) | exact Ow.sl (by assumption)) (fun i hi => by (repeat (first | exact Sm.refl _ _ | (refine Sm.stepT (by assumption) (by intro hlt hsm; first | exact not_no | (intro he; have he2 : _ = _ := he; omega) | (intro he; have := he.1; omega) | exact bkm_not (by assumption) hsm rfl | (refine owm_not ?_ hi hsm rfl <;> assumption)) ?_)))))) (by exact hc9)) ?_
          refine L_new (.plain rfl) rfl rfl (r_alloca rfl) (fun w59 b19 hb19 eb59 hs59 c59 => ?_)
          refine L_storerow (.plain rfl) rfl rfl (by (exact Bk.to (by assumption) (by (repeat (first | exact Sm.refl _ _ | (refine Sm.stepT (by assumption) (by intro hlt hsm; first | exact not_no | (intro he; have he2 : _ = _ := he; omega) | (intro he; have := he.1; omega) | exact bkm_not (by assumption) hsm rfl | (refine owm_not ?_ hi hsm rfl <;> assumption)) ?_)))))) (by first | rfl | (simp; done) | assumption) (by first | rfl | assumption) (by first | rfl | (simp [Value.oneCell']; done) | assumption) (fun w60 hb60 hs60 c60 => ?_)
          refine L_nil ?_
          refine W_seq ?_
          refine W_seq ?_
          refine W_region ?_
          refine L_run (.plain rfl) rfl rfl (r_loadrow Try.underlying35 rfl rfl (by (exact Bk.to (by assumption) (by (repeat (first | exact Sm.refl _ _ | (refine Sm.stepT (by assumption) (by intro hlt hsm; first | exact not_no | (intro he; have he2 : _ = _ := he; omega) | (intro he; have := he.1; omega) | exact bkm_not (by assumption) hsm rfl | (refine owm_not ?_ hi hsm rfl <;> assumption)) ?_)))))) (by first | rfl | assumption)) ?_
          refine L_call (.plain rfl) rfl rfl (r_call Try.func10 rfl rfl rfl (by rfl)) (few_walk a.k a.m _) ?_
          rintro v137 w61 ⟨rfl, c61⟩
          have hz61 := c61.size
          refine L_run (.plain rfl) rfl rfl (r_not rfl) ?_
          refine L_nil ?_
          refine W_bool rfl (fun h138 => ?_) (fun h138 => ?_)
          · refine W_exit ?_
            repeat (first | refine blk_hit ?_ | refine blk_miss rfl ?_)
            refine ⟨⟨rfl, rfl, rfl, rfl, trivial⟩, Sx, xx, vx, ux, trivial, ?_⟩
            first
              | (subst hSx hxx hvx hux
                 exact ⟨by omega, by omega, hA.nw (by (repeat (first | exact Ch.refl _ | assumption | (refine Ch.fresh ?_ (by assumption) (by intro i hi he; first | exact he | exact (not_no he).elim | exact Or.inl he | exact Or.inr (Or.inl he) | exact Or.inr (Or.inr he) | (exfalso; have he2 : _ = some i := he; have := own_base (by assumption) he2; omega) | (exfalso; have he2 : i = _ := he; omega) | (exfalso; have he2 : _ = some i := he; have := ow_base (by assumption) he2; omega) | (exfalso; have := he.1; omega)))))), hB.nw (by (repeat (first | exact Ch.refl _ | assumption | (refine Ch.fresh ?_ (by assumption) (by intro i hi he; first | exact he | exact (not_no he).elim | exact Or.inl he | exact Or.inr (Or.inl he) | exact Or.inr (Or.inr he) | (exfalso; have he2 : _ = some i := he; have := own_base (by assumption) he2; omega) | (exfalso; have he2 : i = _ := he; omega) | (exfalso; have he2 : _ = some i := he; have := ow_base (by assumption) he2; omega) | (exfalso; have := he.1; omega)))))), hD, hmo, hkl, by omega, by omega, by (repeat (first | exact Ch.refl _ | assumption | (refine Ch.fresh ?_ (by assumption) (by intro i hi he; first | exact he | exact (not_no he).elim | exact Or.inl he | exact Or.inr (Or.inl he) | exact Or.inr (Or.inr he) | (exfalso; have he2 : _ = some i := he; have := own_base (by assumption) he2; omega) | (exfalso; have he2 : i = _ := he; omega) | (exfalso; have he2 : _ = some i := he; have := ow_base (by assumption) he2; omega) | (exfalso; have := he.1; omega)))))⟩)
              | (subst hSx hxx hvx hux
                 exact ⟨by omega, by omega, hA7.nw (by (repeat (first | exact Ch.refl _ | assumption | (refine Ch.fresh ?_ (by assumption) (by intro i hi he; first | exact he | exact (not_no he).elim | exact Or.inl he | exact Or.inr (Or.inl he) | exact Or.inr (Or.inr he) | (exfalso; have he2 : _ = some i := he; have := own_base (by assumption) he2; omega) | (exfalso; have he2 : i = _ := he; omega) | (exfalso; have he2 : _ = some i := he; have := ow_base (by assumption) he2; omega) | (exfalso; have := he.1; omega)))))), hB7.nw (by (repeat (first | exact Ch.refl _ | assumption | (refine Ch.fresh ?_ (by assumption) (by intro i hi he; first | exact he | exact (not_no he).elim | exact Or.inl he | exact Or.inr (Or.inl he) | exact Or.inr (Or.inr he) | (exfalso; have he2 : _ = some i := he; have := own_base (by assumption) he2; omega) | (exfalso; have he2 : i = _ := he; omega) | (exfalso; have he2 : _ = some i := he; have := ow_base (by assumption) he2; omega) | (exfalso; have := he.1; omega)))))), hD7.symm, by omega, by omega, by omega, by omega, by (repeat (first | exact Ch.refl _ | assumption | (refine Ch.fresh ?_ (by assumption) (by intro i hi he; first | exact he | exact (not_no he).elim | exact Or.inl he | exact Or.inr (Or.inl he) | exact Or.inr (Or.inr he) | (exfalso; have he2 : _ = some i := he; have := own_base (by assumption) he2; omega) | (exfalso; have he2 : i = _ := he; omega) | (exfalso; have he2 : _ = some i := he; have := ow_base (by assumption) he2; omega) | (exfalso; have := he.1; omega)))))⟩)
          · refine W_skip ?_
            refine W_seq ?_
            refine W_seq ?_
            refine W_region ?_
            refine L_run (.plain rfl) rfl rfl (r_fieldb Try.underlying35 rfl (show _ = some 1 from rfl) rfl rfl (show _ = 0 from rfl)) ?_
            refine L_run (.plain rfl) rfl rfl (r_loadb rfl rfl (by (exact Bk.to (by assumption) (by (repeat (first | exact Sm.refl _ _ | (refine Sm.stepT (by assumption) (by intro hlt hsm; first | exact not_no | (intro he; have he2 : _ = _ := he; omega) | (intro he; have := he.1; omega) | exact bkm_not (by assumption) hsm rfl | (refine owm_not ?_ hi hsm rfl <;> assumption)) ?_)))))) (by first | assumption | (conv => lhs; simp only [List.getElem?_toArray, List.getElem?_cons_succ, List.getElem?_cons_zero]))) ?_
            refine L_run (.plain rfl) rfl rfl (r_eql rfl rfl) ?_
            refine L_nil ?_
            refine W_if rfl (fun h141 => ?_) (fun h141 => ?_)
            · refine W_seq ?_
              refine W_region ?_
              refine L_run (.plain rfl) rfl rfl (r_move (v := .pointer _) rfl) ?_
              refine L_run (.plain rfl) rfl rfl (r_fieldb Try.underlying35 rfl (show _ = some 8 from rfl) rfl rfl (show _ = 1 from rfl)) ?_
              refine L_run (.plain rfl) rfl rfl (r_loadsub (us := [.int _ _, .int _ _, .int _ _, .int _ _, .int _ _, .string _, .int _ _, .string _]) Try.underlying33 rfl (show _ = some 8 from rfl) rfl (by (exact Bk.to (by assumption) (by (repeat (first | exact Sm.refl _ _ | (refine Sm.stepT (by assumption) (by intro hlt hsm; first | exact not_no | (intro he; have he2 : _ = _ := he; omega) | (intro he; have := he.1; omega) | exact bkm_not (by assumption) hsm rfl | (refine owm_not ?_ hi hsm rfl <;> assumption)) ?_)))))) rfl rfl) ?_
              refine L_call (.plain rfl) rfl rfl (r_call Try.func12 rfl rfl rfl (by rfl)) (recv_two w0.heap.size b bm c cm _ _ _ (recv_eta S a.m) (hA.nw (by (repeat (first | exact Ch.refl _ | assumption | (refine Ch.fresh ?_ (by assumption) (by intro i hi he; first | exact he | exact (not_no he).elim | exact Or.inl he | exact Or.inr (Or.inl he) | exact Or.inr (Or.inr he) | (exfalso; have he2 : _ = some i := he; have := own_base (by assumption) he2; omega) | (exfalso; have he2 : i = _ := he; omega) | (exfalso; have he2 : _ = some i := he; have := ow_base (by assumption) he2; omega) | (exfalso; have := he.1; omega))))))) (hB.nw (by (repeat (first | exact Ch.refl _ | assumption | (refine Ch.fresh ?_ (by assumption) (by intro i hi he; first | exact he | exact (not_no he).elim | exact Or.inl he | exact Or.inr (Or.inl he) | exact Or.inr (Or.inr he) | (exfalso; have he2 : _ = some i := he; have := own_base (by assumption) he2; omega) | (exfalso; have he2 : i = _ := he; omega) | (exfalso; have he2 : _ = some i := he; have := ow_base (by assumption) he2; omega) | (exfalso; have := he.1; omega))))))) hD (by omega) (by omega) (by omega)) ?_
              rintro v146 w62 ⟨vs6, rfl, hA6, hB6, hD6, c62⟩
              have hz62 := c62.size
              obtain ⟨f1, f2, f3, f4, f5⟩ := recv_facts S a.m
              have f2' := f2 hkl
              obtain ⟨x', hx', hrx⟩ := recv_st S x a.m
              refine L_run (.plain rfl) rfl rfl (r_move (by conv => lhs; whnf)) ?_
              refine L_run (.plain rfl) rfl rfl (r_ext2_0 rfl) ?_
              refine L_run (.plain rfl) rfl rfl (r_ext2_1 rfl) ?_
              refine L_new (.plain rfl) rfl rfl (r_alloca rfl) (fun w63 b21 hb21 eb63 hs63 c63 => ?_)
              refine L_run (.plain rfl) rfl rfl (r_assign (v := .int _ _) rfl) ?_
              refine L_storerow (.plain rfl) rfl rfl (by (exact Bk.to (by assumption) (by (repeat (first | exact Sm.refl _ _ | (refine Sm.stepT (by assumption) (by intro hlt hsm; first | exact not_no | (intro he; have he2 : _ = _ := he; omega) | (intro he; have := he.1; omega) | exact bkm_not (by assumption) hsm rfl | (refine owm_not ?_ hi hsm rfl <;> assumption)) ?_)))))) (by first | rfl | (simp; done) | assumption) (by first | rfl | assumption) (by first | rfl | (simp [Value.oneCell']; done) | assumption) (fun w64 hb64 hs64 c64 => ?_)
              refine L_nil ?_
              refine W_seq ?_
              refine W_region ?_
              refine L_run (.plain rfl) rfl rfl (r_move (v := .pointer _) rfl) ?_
              refine L_run (.plain rfl) rfl rfl (r_fieldb Try.underlying35 rfl (show _ = some 8 from rfl) rfl rfl (show _ = 1 from rfl)) ?_
              refine L_run (.plain rfl) rfl rfl (r_loadsub (us := [.int _ _, .int _ _, .int _ _, .int _ _, .int _ _, .string _, .int _ _, .string _]) Try.underlying33 rfl (show _ = some 8 from rfl) rfl (by (exact Bk.to (by assumption) (by (repeat (first | exact Sm.refl _ _ | (refine Sm.stepT (by assumption) (by intro hlt hsm; first | exact not_no | (intro he; have he2 : _ = _ := he; omega) | (intro he; have := he.1; omega) | exact bkm_not (by assumption) hsm rfl | (refine owm_not ?_ hi hsm rfl <;> assumption)) ?_)))))) rfl rfl) ?_
              refine L_call (.plain rfl) rfl rfl (r_call Try.func12 rfl rfl rfl (by rfl)) (recv_two w0.heap.size c cm b bm _ _ _ hrx (hB6.nw (by (repeat (first | exact Ch.refl _ | assumption | (refine Ch.fresh ?_ (by assumption) (by intro i hi he; first | exact he | exact (not_no he).elim | exact Or.inl he | exact Or.inr (Or.inl he) | exact Or.inr (Or.inr he) | (exfalso; have he2 : _ = some i := he; have := own_base (by assumption) he2; omega) | (exfalso; have he2 : i = _ := he; omega) | (exfalso; have he2 : _ = some i := he; have := ow_base (by assumption) he2; omega) | (exfalso; have := he.1; omega))))))) (hA6.nw (by (repeat (first | exact Ch.refl _ | assumption | (refine Ch.fresh ?_ (by assumption) (by intro i hi he; first | exact he | exact (not_no he).elim | exact Or.inl he | exact Or.inr (Or.inl he) | exact Or.inr (Or.inr he) | (exfalso; have he2 : _ = some i := he; have := own_base (by assumption) he2; omega) | (exfalso; have he2 : i = _ := he; omega) | (exfalso; have he2 : _ = some i := he; have := ow_base (by assumption) he2; omega) | (exfalso; have := he.1; omega))))))) hD6.symm (by show S.kept.length ≤ _; omega) (by show x.length ≤ _; omega) (by omega)) ?_
              rintro v153 w65 ⟨us7, rfl, hB7, hA7, hD7, c65⟩
              have hz65 := c65.size
              clear hSx hvx hxx hux
              obtain ⟨Sx, hSx⟩ : ∃ z, z = (recv S a.m).1 := ⟨_, rfl⟩
              obtain ⟨xx, hxx⟩ : ∃ z, z = x' := ⟨_, rfl⟩
              obtain ⟨vx, hvx⟩ : ∃ z, z = vs6 := ⟨_, rfl⟩
              obtain ⟨ux, hux⟩ : ∃ z, z = us7 := ⟨_, rfl⟩
              refine L_run (.plain rfl) rfl rfl (r_move (by conv => lhs; whnf)) ?_
              refine L_run (.plain rfl) rfl rfl (r_ext2_0 rfl) ?_
              refine L_run (.plain rfl) rfl rfl (r_ext2_1 rfl) ?_
              refine L_new (.plain rfl) rfl rfl (r_alloca rfl) (fun w66 b23 hb23 eb66 hs66 c66 => ?_)
              refine L_run (.plain rfl) rfl rfl (r_assign (v := .int _ _) rfl) ?_
              refine L_storerow (.plain rfl) rfl rfl (by (exact Bk.to (by assumption) (by (repeat (first | exact Sm.refl _ _ | (refine Sm.stepT (by assumption) (by intro hlt hsm; first | exact not_no | (intro he; have he2 : _ = _ := he; omega) | (intro he; have := he.1; omega) | exact bkm_not (by assumption) hsm rfl | (refine owm_not ?_ hi hsm rfl <;> assumption)) ?_)))))) (by first | rfl | (simp; done) | assumption) (by first | rfl | assumption) (by first | rfl | (simp [Value.oneCell']; done) | assumption) (fun w67 hb67 hs67 c67 => ?_)
              refine L_nil ?_
              refine W_seq ?_
              refine W_seq ?_
              refine W_region ?_
              refine L_run (.plain rfl) rfl rfl (r_move (v := .int _ _) rfl) ?_
              refine L_run (.plain rfl) rfl rfl (r_move (v := .int _ _) rfl) ?_
              refine L_run (.plain rfl) rfl rfl (r_neq rfl rfl) ?_
              refine L_run (.plain rfl) rfl rfl (r_move (v := .bool _) rfl) ?_
              refine L_case (d := 159) rfl (fun h159 => ?_) (fun h159 => ?_)
              · omega
              · refine L_run (.yes 3 false rfl rfl) rfl rfl (r_loadrow Try.underlying33 rfl rfl (by (exact Bk.to (by assumption) (by (repeat (first | exact Sm.refl _ _ | (refine Sm.stepT (by assumption) (by intro hlt hsm; first | exact not_no | (intro he; have he2 : _ = _ := he; omega) | (intro he; have := he.1; omega) | exact bkm_not (by assumption) hsm rfl | (refine owm_not ?_ hi hsm rfl <;> assumption)) ?_)))))) (by first | rfl | assumption)) ?_
                refine L_run (.yes 3 false rfl rfl) rfl rfl (r_loadrow Try.underlying33 rfl rfl (by (exact Bk.to (by assumption) (by (repeat (first | exact Sm.refl _ _ | (refine Sm.stepT (by assumption) (by intro hlt hsm; first | exact not_no | (intro he; have he2 : _ = _ := he; omega) | (intro he; have := he.1; omega) | exact bkm_not (by assumption) hsm rfl | (refine owm_not ?_ hi hsm rfl <;> assumption)) ?_)))))) (by first | rfl | assumption)) ?_
                refine L_run (.yes 3 false rfl rfl) rfl rfl (r_neqR (xs := #[.int _ _, .int _ _, .int _ _, .int _ _, .int _ _, .string _, .int _ _, .string _]) (ys := #[.int _ _, .int _ _, .int _ _, .int _ _, .int _ _, .string _, .int _ _, .string _]) rfl rfl (by kernel_rfl) (eqMsg _ _ _ _ _ _ _ _ _ _ _ _ _ _ _ _ _)) ?_
                refine L_run (.plain rfl) rfl rfl (r_pick_f (v := .bool _) rfl rfl) ?_
                refine L_nil ?_
                refine W_if rfl (fun h163 => ?_) (fun h163 => ?_)
                · exfalso; exact h163 ⟨rfl, rfl, rfl, rfl, rfl, rfl, rfl, rfl⟩
                · refine W_skip ?_
                  refine W_exit ?_
                  repeat (first | refine blk_hit ?_ | refine blk_miss rfl ?_)
                  refine ⟨⟨rfl, rfl, rfl, rfl, trivial⟩, Sx, xx, vx, ux, trivial, ?_⟩
                  first
                    | (subst hSx hxx hvx hux
                       exact ⟨by omega, by omega, hA.nw (by (repeat (first | exact Ch.refl _ | assumption | (refine Ch.fresh ?_ (by assumption) (by intro i hi he; first | exact he | exact (not_no he).elim | exact Or.inl he | exact Or.inr (Or.inl he) | exact Or.inr (Or.inr he) | (exfalso; have he2 : _ = some i := he; have := own_base (by assumption) he2; omega) | (exfalso; have he2 : i = _ := he; omega) | (exfalso; have he2 : _ = some i := he; have := ow_base (by assumption) he2; omega) | (exfalso; have := he.1; omega)))))), hB.nw (by (repeat (first | exact Ch.refl _ | assumption | (refine Ch.fresh ?_ (by assumption) (by intro i hi he; first | exact he | exact (not_no he).elim | exact Or.inl he | exact Or.inr (Or.inl he) | exact Or.inr (Or.inr he) | (exfalso; have he2 : _ = some i := he; have := own_base (by assumption) he2; omega) | (exfalso; have he2 : i = _ := he; omega) | (exfalso; have he2 : _ = some i := he; have := ow_base (by assumption) he2; omega) | (exfalso; have := he.1; omega)))))), hD, hmo, hkl, by omega, by omega, by (repeat (first | exact Ch.refl _ | assumption | (refine Ch.fresh ?_ (by assumption) (by intro i hi he; first | exact he | exact (not_no he).elim | exact Or.inl he | exact Or.inr (Or.inl he) | exact Or.inr (Or.inr he) | (exfalso; have he2 : _ = some i := he; have := own_base (by assumption) he2; omega) | (exfalso; have he2 : i = _ := he; omega) | (exfalso; have he2 : _ = some i := he; have := ow_base (by assumption) he2; omega) | (exfalso; have := he.1; omega)))))⟩)
                    | (subst hSx hxx hvx hux
                       exact ⟨by omega, by omega, hA7.nw (by (repeat (first | exact Ch.refl _ | assumption | (refine Ch.fresh ?_ (by assumption) (by intro i hi he; first | exact he | exact (not_no he).elim | exact Or.inl he | exact Or.inr (Or.inl he) | exact Or.inr (Or.inr he) | (exfalso; have he2 : _ = some i := he; have := own_base (by assumption) he2; omega) | (exfalso; have he2 : i = _ := he; omega) | (exfalso; have he2 : _ = some i := he; have := ow_base (by assumption) he2; omega) | (exfalso; have := he.1; omega)))))), hB7.nw (by (repeat (first | exact Ch.refl _ | assumption | (refine Ch.fresh ?_ (by assumption) (by intro i hi he; first | exact he | exact (not_no he).elim | exact Or.inl he | exact Or.inr (Or.inl he) | exact Or.inr (Or.inr he) | (exfalso; have he2 : _ = some i := he; have := own_base (by assumption) he2; omega) | (exfalso; have he2 : i = _ := he; omega) | (exfalso; have he2 : _ = some i := he; have := ow_base (by assumption) he2; omega) | (exfalso; have := he.1; omega)))))), hD7.symm, by omega, by omega, by omega, by omega, by (repeat (first | exact Ch.refl _ | assumption | (refine Ch.fresh ?_ (by assumption) (by intro i hi he; first | exact he | exact (not_no he).elim | exact Or.inl he | exact Or.inr (Or.inl he) | exact Or.inr (Or.inr he) | (exfalso; have he2 : _ = some i := he; have := own_base (by assumption) he2; omega) | (exfalso; have he2 : i = _ := he; omega) | (exfalso; have he2 : _ = some i := he; have := ow_base (by assumption) he2; omega) | (exfalso; have := he.1; omega)))))⟩)
            · refine W_skip ?_
              refine W_seq ?_
              refine W_region ?_
              refine L_run (.plain rfl) rfl rfl (r_move (v := .pointer _) rfl) ?_
              refine L_run (.plain rfl) rfl rfl (r_fieldb Try.underlying35 rfl (show _ = some 8 from rfl) rfl rfl (show _ = 1 from rfl)) ?_
              refine L_run (.plain rfl) rfl rfl (r_fieldb Try.underlying33 rfl (show _ = some 1 from rfl) rfl rfl (show _ = 2 from rfl)) ?_
              refine L_run (.plain rfl) rfl rfl (r_loadb rfl rfl (by (exact Bk.to (by assumption) (by (repeat (first | exact Sm.refl _ _ | (refine Sm.stepT (by assumption) (by intro hlt hsm; first | exact not_no | (intro he; have he2 : _ = _ := he; omega) | (intro he; have := he.1; omega) | exact bkm_not (by assumption) hsm rfl | (refine owm_not ?_ hi hsm rfl <;> assumption)) ?_)))))) (by first | assumption | (conv => lhs; simp only [List.getElem?_toArray, List.getElem?_cons_succ, List.getElem?_cons_zero]))) ?_
              refine L_run (.plain rfl) rfl rfl (r_fieldb Try.underlying35 rfl (show _ = some 8 from rfl) rfl rfl (show _ = 1 from rfl)) ?_
              refine L_run (.plain rfl) rfl rfl (r_fieldb Try.underlying33 rfl (show _ = some 1 from rfl) rfl rfl (show _ = 3 from rfl)) ?_
              refine L_run (.plain rfl) rfl rfl (r_loadb rfl rfl (by (exact Bk.to (by assumption) (by (repeat (first | exact Sm.refl _ _ | (refine Sm.stepT (by assumption) (by intro hlt hsm; first | exact not_no | (intro he; have he2 : _ = _ := he; omega) | (intro he; have := he.1; omega) | exact bkm_not (by assumption) hsm rfl | (refine owm_not ?_ hi hsm rfl <;> assumption)) ?_)))))) (by first | assumption | (conv => lhs; simp only [List.getElem?_toArray, List.getElem?_cons_succ, List.getElem?_cons_zero]))) ?_
              refine L_run (.plain rfl) rfl rfl (r_fieldb Try.underlying35 rfl (show _ = some 8 from rfl) rfl rfl (show _ = 1 from rfl)) ?_
              refine L_run (.plain rfl) rfl rfl (r_fieldb Try.underlying33 rfl (show _ = some 1 from rfl) rfl rfl (show _ = 7 from rfl)) ?_
              refine L_run (.plain rfl) rfl rfl (r_loadb rfl rfl (by (exact Bk.to (by assumption) (by (repeat (first | exact Sm.refl _ _ | (refine Sm.stepT (by assumption) (by intro hlt hsm; first | exact not_no | (intro he; have he2 : _ = _ := he; omega) | (intro he; have := he.1; omega) | exact bkm_not (by assumption) hsm rfl | (refine owm_not ?_ hi hsm rfl <;> assumption)) ?_)))))) (by first | assumption | (conv => lhs; simp only [List.getElem?_toArray, List.getElem?_cons_succ, List.getElem?_cons_zero]))) ?_
              refine L_run (.plain rfl) rfl rfl (r_fieldb Try.underlying35 rfl (show _ = some 8 from rfl) rfl rfl (show _ = 1 from rfl)) ?_
              refine L_run (.plain rfl) rfl rfl (r_fieldb Try.underlying33 rfl (show _ = some 1 from rfl) rfl rfl (show _ = 8 from rfl)) ?_
              refine L_run (.plain rfl) rfl rfl (r_loadb rfl rfl (by (exact Bk.to (by assumption) (by (repeat (first | exact Sm.refl _ _ | (refine Sm.stepT (by assumption) (by intro hlt hsm; first | exact not_no | (intro he; have he2 : _ = _ := he; omega) | (intro he; have := he.1; omega) | exact bkm_not (by assumption) hsm rfl | (refine owm_not ?_ hi hsm rfl <;> assumption)) ?_)))))) (by first | assumption | (conv => lhs; simp only [List.getElem?_toArray, List.getElem?_cons_succ, List.getElem?_cons_zero]))) ?_
              refine L_call (.plain rfl) rfl rfl (r_call Try.func14 rfl rfl rfl (by rfl)) (fin_two w0.heap.size b bm c cm _ _ _ (fin_eta S a.m.life a.m.seq a.m.way a.m.body) (hA.nw (by (repeat (first | exact Ch.refl _ | assumption | (refine Ch.fresh ?_ (by assumption) (by intro i hi he; first | exact he | exact (not_no he).elim | exact Or.inl he | exact Or.inr (Or.inl he) | exact Or.inr (Or.inr he) | (exfalso; have he2 : _ = some i := he; have := own_base (by assumption) he2; omega) | (exfalso; have he2 : i = _ := he; omega) | (exfalso; have he2 : _ = some i := he; have := ow_base (by assumption) he2; omega) | (exfalso; have := he.1; omega))))))) (hB.nw (by (repeat (first | exact Ch.refl _ | assumption | (refine Ch.fresh ?_ (by assumption) (by intro i hi he; first | exact he | exact (not_no he).elim | exact Or.inl he | exact Or.inr (Or.inl he) | exact Or.inr (Or.inr he) | (exfalso; have he2 : _ = some i := he; have := own_base (by assumption) he2; omega) | (exfalso; have he2 : i = _ := he; omega) | (exfalso; have he2 : _ = some i := he; have := ow_base (by assumption) he2; omega) | (exfalso; have := he.1; omega))))))) hD (by omega)) ?_
              rintro v178 w68 ⟨rfl, hA6, hB6, c68⟩
              have hz68 := c68.size
              obtain ⟨f1, f2', f3, f4, f5⟩ := fin_facts S a.m.life a.m.seq a.m.way a.m.body
              refine L_run (.plain rfl) rfl rfl (r_move (by conv => lhs; whnf)) ?_
              refine L_run (.plain rfl) rfl rfl (r_ext2_0 rfl) ?_
              refine L_run (.plain rfl) rfl rfl (r_ext2_1 rfl) ?_
              refine L_new (.plain rfl) rfl rfl (r_alloca rfl) (fun w69 b24 hb24 eb69 hs69 c69 => ?_)
              refine L_storerow (.plain rfl) rfl rfl (by (exact Bk.to (by assumption) (by (repeat (first | exact Sm.refl _ _ | (refine Sm.stepT (by assumption) (by intro hlt hsm; first | exact not_no | (intro he; have he2 : _ = _ := he; omega) | (intro he; have := he.1; omega) | exact bkm_not (by assumption) hsm rfl | (refine owm_not ?_ hi hsm rfl <;> assumption)) ?_)))))) (by first | rfl | (simp; done) | assumption) (by first | rfl | assumption) (by first | rfl | (simp [Value.oneCell']; done) | assumption) (fun w70 hb70 hs70 c70 => ?_)
              refine L_run (.plain rfl) rfl rfl (r_assign (v := .int _ _) rfl) ?_
              refine L_nil ?_
              refine W_seq ?_
              refine W_region ?_
              refine L_run (.plain rfl) rfl rfl (r_move (v := .pointer _) rfl) ?_
              refine L_run (.plain rfl) rfl rfl (r_fieldb Try.underlying35 rfl (show _ = some 8 from rfl) rfl rfl (show _ = 1 from rfl)) ?_
              refine L_run (.plain rfl) rfl rfl (r_fieldb Try.underlying33 rfl (show _ = some 1 from rfl) rfl rfl (show _ = 2 from rfl)) ?_
              refine L_run (.plain rfl) rfl rfl (r_loadb rfl rfl (by (exact Bk.to (by assumption) (by (repeat (first | exact Sm.refl _ _ | (refine Sm.stepT (by assumption) (by intro hlt hsm; first | exact not_no | (intro he; have he2 : _ = _ := he; omega) | (intro he; have := he.1; omega) | exact bkm_not (by assumption) hsm rfl | (refine owm_not ?_ hi hsm rfl <;> assumption)) ?_)))))) (by first | assumption | (conv => lhs; simp only [List.getElem?_toArray, List.getElem?_cons_succ, List.getElem?_cons_zero]))) ?_
              refine L_run (.plain rfl) rfl rfl (r_fieldb Try.underlying35 rfl (show _ = some 8 from rfl) rfl rfl (show _ = 1 from rfl)) ?_
              refine L_run (.plain rfl) rfl rfl (r_fieldb Try.underlying33 rfl (show _ = some 1 from rfl) rfl rfl (show _ = 3 from rfl)) ?_
              refine L_run (.plain rfl) rfl rfl (r_loadb rfl rfl (by (exact Bk.to (by assumption) (by (repeat (first | exact Sm.refl _ _ | (refine Sm.stepT (by assumption) (by intro hlt hsm; first | exact not_no | (intro he; have he2 : _ = _ := he; omega) | (intro he; have := he.1; omega) | exact bkm_not (by assumption) hsm rfl | (refine owm_not ?_ hi hsm rfl <;> assumption)) ?_)))))) (by first | assumption | (conv => lhs; simp only [List.getElem?_toArray, List.getElem?_cons_succ, List.getElem?_cons_zero]))) ?_
              refine L_run (.plain rfl) rfl rfl (r_fieldb Try.underlying35 rfl (show _ = some 8 from rfl) rfl rfl (show _ = 1 from rfl)) ?_
              refine L_run (.plain rfl) rfl rfl (r_fieldb Try.underlying33 rfl (show _ = some 1 from rfl) rfl rfl (show _ = 7 from rfl)) ?_
              refine L_run (.plain rfl) rfl rfl (r_loadb rfl rfl (by (exact Bk.to (by assumption) (by (repeat (first | exact Sm.refl _ _ | (refine Sm.stepT (by assumption) (by intro hlt hsm; first | exact not_no | (intro he; have he2 : _ = _ := he; omega) | (intro he; have := he.1; omega) | exact bkm_not (by assumption) hsm rfl | (refine owm_not ?_ hi hsm rfl <;> assumption)) ?_)))))) (by first | assumption | (conv => lhs; simp only [List.getElem?_toArray, List.getElem?_cons_succ, List.getElem?_cons_zero]))) ?_
              refine L_run (.plain rfl) rfl rfl (r_fieldb Try.underlying35 rfl (show _ = some 8 from rfl) rfl rfl (show _ = 1 from rfl)) ?_
              refine L_run (.plain rfl) rfl rfl (r_fieldb Try.underlying33 rfl (show _ = some 1 from rfl) rfl rfl (show _ = 8 from rfl)) ?_
              refine L_run (.plain rfl) rfl rfl (r_loadb rfl rfl (by (exact Bk.to (by assumption) (by (repeat (first | exact Sm.refl _ _ | (refine Sm.stepT (by assumption) (by intro hlt hsm; first | exact not_no | (intro he; have he2 : _ = _ := he; omega) | (intro he; have := he.1; omega) | exact bkm_not (by assumption) hsm rfl | (refine owm_not ?_ hi hsm rfl <;> assumption)) ?_)))))) (by first | assumption | (conv => lhs; simp only [List.getElem?_toArray, List.getElem?_cons_succ, List.getElem?_cons_zero]))) ?_
              refine L_call (.plain rfl) rfl rfl (r_call Try.func14 rfl rfl rfl (by rfl)) (fin_two w0.heap.size c cm b bm _ _ _ (fin_st S x a.m.life a.m.seq a.m.way a.m.body) (hB6.nw (by (repeat (first | exact Ch.refl _ | assumption | (refine Ch.fresh ?_ (by assumption) (by intro i hi he; first | exact he | exact (not_no he).elim | exact Or.inl he | exact Or.inr (Or.inl he) | exact Or.inr (Or.inr he) | (exfalso; have he2 : _ = some i := he; have := own_base (by assumption) he2; omega) | (exfalso; have he2 : i = _ := he; omega) | (exfalso; have he2 : _ = some i := he; have := ow_base (by assumption) he2; omega) | (exfalso; have := he.1; omega))))))) (hA6.nw (by (repeat (first | exact Ch.refl _ | assumption | (refine Ch.fresh ?_ (by assumption) (by intro i hi he; first | exact he | exact (not_no he).elim | exact Or.inl he | exact Or.inr (Or.inl he) | exact Or.inr (Or.inr he) | (exfalso; have he2 : _ = some i := he; have := own_base (by assumption) he2; omega) | (exfalso; have he2 : i = _ := he; omega) | (exfalso; have he2 : _ = some i := he; have := ow_base (by assumption) he2; omega) | (exfalso; have := he.1; omega))))))) hD.symm (by show S.kept.length ≤ _; omega)) ?_
              rintro v195 w71 ⟨rfl, hB7, hA7, c71⟩
              have hz71 := c71.size
              have hD7 := hD.symm
              have f3l := congrArg List.length f3
              clear hSx hvx hxx hux
              obtain ⟨Sx, hSx⟩ : ∃ z, z = (fin S a.m.life a.m.seq a.m.way a.m.body).1 := ⟨_, rfl⟩
              obtain ⟨xx, hxx⟩ : ∃ z, z = x := ⟨_, rfl⟩
              obtain ⟨vx, hvx⟩ : ∃ z, z = vs := ⟨_, rfl⟩
              obtain ⟨ux, hux⟩ : ∃ z, z = us := ⟨_, rfl⟩
              refine L_run (.plain rfl) rfl rfl (r_move (by conv => lhs; whnf)) ?_
              refine L_run (.plain rfl) rfl rfl (r_ext2_0 rfl) ?_
              refine L_run (.plain rfl) rfl rfl (r_ext2_1 rfl) ?_
              refine L_new (.plain rfl) rfl rfl (r_alloca rfl) (fun w72 b26 hb26 eb72 hs72 c72 => ?_)
              refine L_storerow (.plain rfl) rfl rfl (by (exact Bk.to (by assumption) (by (repeat (first | exact Sm.refl _ _ | (refine Sm.stepT (by assumption) (by intro hlt hsm; first | exact not_no | (intro he; have he2 : _ = _ := he; omega) | (intro he; have := he.1; omega) | exact bkm_not (by assumption) hsm rfl | (refine owm_not ?_ hi hsm rfl <;> assumption)) ?_)))))) (by first | rfl | (simp; done) | assumption) (by first | rfl | assumption) (by first | rfl | (simp [Value.oneCell']; done) | assumption) (fun w73 hb73 hs73 c73 => ?_)
              refine L_run (.plain rfl) rfl rfl (r_assign (v := .int _ _) rfl) ?_
              refine L_nil ?_
              refine W_seq ?_
              refine W_region ?_
              refine L_run (.plain rfl) rfl rfl (r_loadrow Try.underlying33 rfl rfl (by (exact Bk.to (by assumption) (by (repeat (first | exact Sm.refl _ _ | (refine Sm.stepT (by assumption) (by intro hlt hsm; first | exact not_no | (intro he; have he2 : _ = _ := he; omega) | (intro he; have := he.1; omega) | exact bkm_not (by assumption) hsm rfl | (refine owm_not ?_ hi hsm rfl <;> assumption)) ?_)))))) (by first | rfl | assumption)) ?_
              refine L_run (.plain rfl) rfl rfl (r_loadrow Try.underlying33 rfl rfl (by (exact Bk.to (by assumption) (by (repeat (first | exact Sm.refl _ _ | (refine Sm.stepT (by assumption) (by intro hlt hsm; first | exact not_no | (intro he; have he2 : _ = _ := he; omega) | (intro he; have := he.1; omega) | exact bkm_not (by assumption) hsm rfl | (refine owm_not ?_ hi hsm rfl <;> assumption)) ?_)))))) (by first | rfl | assumption)) ?_
              refine L_run (.plain rfl) rfl rfl (r_neqR (xs := #[.int _ _, .int _ _, .int _ _, .int _ _, .int _ _, .string _, .int _ _, .string _]) (ys := #[.int _ _, .int _ _, .int _ _, .int _ _, .int _ _, .string _, .int _ _, .string _]) rfl rfl (by kernel_rfl) (eqMsg _ _ _ _ _ _ _ _ _ _ _ _ _ _ _ _ _)) ?_
              refine L_run (.plain rfl) rfl rfl (r_move (v := .bool _) rfl) ?_
              refine L_case (d := 201) rfl (fun h201 => ?_) (fun h201 => ?_)
              · exfalso; exact h201 ⟨rfl, rfl, rfl, rfl, rfl, rfl, rfl, rfl⟩
              · refine L_run (.yes 3 false rfl rfl) rfl rfl (r_move (v := .int _ _) rfl) ?_
                refine L_run (.yes 3 false rfl rfl) rfl rfl (r_move (v := .int _ _) rfl) ?_
                refine L_run (.yes 3 false rfl rfl) rfl rfl (r_neq rfl rfl) ?_
                refine L_run (.plain rfl) rfl rfl (r_pick_f (v := .bool _) rfl rfl) ?_
                refine L_nil ?_
                refine W_if rfl (fun h205 => ?_) (fun h205 => ?_)
                · omega
                · refine W_skip ?_
                  refine ⟨⟨rfl, rfl, rfl, rfl, trivial⟩, Sx, xx, vx, ux, trivial, ?_⟩
                  first
                    | (subst hSx hxx hvx hux
                       exact ⟨by omega, by omega, hA.nw (by (repeat (first | exact Ch.refl _ | assumption | (refine Ch.fresh ?_ (by assumption) (by intro i hi he; first | exact he | exact (not_no he).elim | exact Or.inl he | exact Or.inr (Or.inl he) | exact Or.inr (Or.inr he) | (exfalso; have he2 : _ = some i := he; have := own_base (by assumption) he2; omega) | (exfalso; have he2 : i = _ := he; omega) | (exfalso; have he2 : _ = some i := he; have := ow_base (by assumption) he2; omega) | (exfalso; have := he.1; omega)))))), hB.nw (by (repeat (first | exact Ch.refl _ | assumption | (refine Ch.fresh ?_ (by assumption) (by intro i hi he; first | exact he | exact (not_no he).elim | exact Or.inl he | exact Or.inr (Or.inl he) | exact Or.inr (Or.inr he) | (exfalso; have he2 : _ = some i := he; have := own_base (by assumption) he2; omega) | (exfalso; have he2 : i = _ := he; omega) | (exfalso; have he2 : _ = some i := he; have := ow_base (by assumption) he2; omega) | (exfalso; have := he.1; omega)))))), hD, hmo, hkl, by omega, by omega, by (repeat (first | exact Ch.refl _ | assumption | (refine Ch.fresh ?_ (by assumption) (by intro i hi he; first | exact he | exact (not_no he).elim | exact Or.inl he | exact Or.inr (Or.inl he) | exact Or.inr (Or.inr he) | (exfalso; have he2 : _ = some i := he; have := own_base (by assumption) he2; omega) | (exfalso; have he2 : i = _ := he; omega) | (exfalso; have he2 : _ = some i := he; have := ow_base (by assumption) he2; omega) | (exfalso; have := he.1; omega)))))⟩)
                    | (subst hSx hxx hvx hux
                       exact ⟨by omega, by omega, hA7.nw (by (repeat (first | exact Ch.refl _ | assumption | (refine Ch.fresh ?_ (by assumption) (by intro i hi he; first | exact he | exact (not_no he).elim | exact Or.inl he | exact Or.inr (Or.inl he) | exact Or.inr (Or.inr he) | (exfalso; have he2 : _ = some i := he; have := own_base (by assumption) he2; omega) | (exfalso; have he2 : i = _ := he; omega) | (exfalso; have he2 : _ = some i := he; have := ow_base (by assumption) he2; omega) | (exfalso; have := he.1; omega)))))), hB7.nw (by (repeat (first | exact Ch.refl _ | assumption | (refine Ch.fresh ?_ (by assumption) (by intro i hi he; first | exact he | exact (not_no he).elim | exact Or.inl he | exact Or.inr (Or.inl he) | exact Or.inr (Or.inr he) | (exfalso; have he2 : _ = some i := he; have := own_base (by assumption) he2; omega) | (exfalso; have he2 : i = _ := he; omega) | (exfalso; have he2 : _ = some i := he; have := ow_base (by assumption) he2; omega) | (exfalso; have := he.1; omega)))))), hD7.symm, by omega, by omega, by omega, by omega, by (repeat (first | exact Ch.refl _ | assumption | (refine Ch.fresh ?_ (by assumption) (by intro i hi he; first | exact he | exact (not_no he).elim | exact Or.inl he | exact Or.inr (Or.inl he) | exact Or.inr (Or.inr he) | (exfalso; have he2 : _ = some i := he; have := own_base (by assumption) he2; omega) | (exfalso; have he2 : i = _ := he; omega) | (exfalso; have he2 : _ = some i := he; have := ow_base (by assumption) he2; omega) | (exfalso; have := he.1; omega)))))⟩)
        rintro gcb3 w74 ⟨S2, x2, vs2, us2, -, hCb3⟩
        refine W_region ?_
        refine L_run (.plain rfl) rfl rfl (r_move (v := .int _ _) rfl) ?_
        refine L_run (.plain rfl) rfl rfl (r_add rfl rfl (by first | exact wr_i64 (by omega) | rfl)) ?_
        refine L_run (.plain rfl) rfl rfl (r_assign (v := .int _ _) rfl) ?_
        refine L_nil ?_
        refine ⟨⟨rfl, rfl, rfl, trivial⟩, _, ?_, i + 1, S2, x2, vs2, us2, rfl, ?_, rfl⟩
        · omega
        exact hCb3
      · refine W_exit ?_
        repeat (first | refine blk_hit ?_ | refine blk_miss rfl ?_)
        refine W_seq ?_
        refine W_region ?_
        refine L_run (.plain rfl) rfl rfl (r_move (v := .pointer _) rfl) ?_
        refine L_call (.plain rfl) rfl rfl (r_call Try.func15 rfl rfl rfl (by rfl)) (kept_walk w0.heap.size b bm vs S _ (hA.nw (by (repeat (first | exact Ch.refl _ | assumption | (refine Ch.fresh ?_ (by assumption) (by intro i hi he; first | exact he | exact (not_no he).elim | exact Or.inl he | exact Or.inr (Or.inl he) | exact Or.inr (Or.inr he) | (exfalso; have he2 : _ = some i := he; have := own_base (by assumption) he2; omega) | (exfalso; have he2 : i = _ := he; omega) | (exfalso; have he2 : _ = some i := he; have := ow_base (by assumption) he2; omega) | (exfalso; have := he.1; omega)))))))) ?_
        rintro v207 w75 ⟨rfl, rfl⟩
        refine L_run (.plain rfl) rfl rfl (r_move (v := .pointer _) rfl) ?_
        refine L_call (.plain rfl) rfl rfl (r_call Try.func15 rfl rfl rfl (by rfl)) (kept_walk w0.heap.size c cm us { S with st := x } _ (hB.nw (by (repeat (first | exact Ch.refl _ | assumption | (refine Ch.fresh ?_ (by assumption) (by intro i hi he; first | exact he | exact (not_no he).elim | exact Or.inl he | exact Or.inr (Or.inl he) | exact Or.inr (Or.inr he) | (exfalso; have he2 : _ = some i := he; have := own_base (by assumption) he2; omega) | (exfalso; have he2 : i = _ := he; omega) | (exfalso; have he2 : _ = some i := he; have := ow_base (by assumption) he2; omega) | (exfalso; have := he.1; omega)))))))) ?_
        rintro v209 w76 ⟨rfl, rfl⟩
        refine L_run (.plain rfl) rfl rfl (r_eql rfl rfl) ?_
        refine L_run (.plain rfl) rfl rfl (r_move (v := .bool _) rfl) ?_
        refine L_as (v := .bool _) (v' := .bool true) 211 rfl (dec_t (by rfl)).symm ?_
        refine L_run (.yes 5 true rfl rfl) rfl rfl (r_move (v := .pointer _) rfl) ?_
        refine L_call (.yes 5 true rfl rfl) rfl rfl (r_call Try.func18 rfl rfl rfl (by rfl)) (floor_walk w0.heap.size b bm vs S _ (hA.nw (by (repeat (first | exact Ch.refl _ | assumption | (refine Ch.fresh ?_ (by assumption) (by intro i hi he; first | exact he | exact (not_no he).elim | exact Or.inl he | exact Or.inr (Or.inl he) | exact Or.inr (Or.inr he) | (exfalso; have he2 : _ = some i := he; have := own_base (by assumption) he2; omega) | (exfalso; have he2 : i = _ := he; omega) | (exfalso; have he2 : _ = some i := he; have := ow_base (by assumption) he2; omega) | (exfalso; have := he.1; omega)))))))) ?_
        rintro v213 w77 ⟨rfl, rfl⟩
        refine L_run (.yes 5 true rfl rfl) rfl rfl (r_move (v := .pointer _) rfl) ?_
        refine L_call (.yes 5 true rfl rfl) rfl rfl (r_call Try.func18 rfl rfl rfl (by rfl)) (floor_walk w0.heap.size c cm us { S with st := x } _ (hB.nw (by (repeat (first | exact Ch.refl _ | assumption | (refine Ch.fresh ?_ (by assumption) (by intro i hi he; first | exact he | exact (not_no he).elim | exact Or.inl he | exact Or.inr (Or.inl he) | exact Or.inr (Or.inr he) | (exfalso; have he2 : _ = some i := he; have := own_base (by assumption) he2; omega) | (exfalso; have he2 : i = _ := he; omega) | (exfalso; have he2 : _ = some i := he; have := ow_base (by assumption) he2; omega) | (exfalso; have := he.1; omega)))))))) ?_
        rintro v215 w78 ⟨rfl, rfl⟩
        refine L_run (.yes 5 true rfl rfl) rfl rfl (r_eql rfl rfl) ?_
        refine L_run (.plain rfl) rfl rfl (r_pick_t (v := .bool _) rfl rfl) ?_
        refine L_run (.plain rfl) rfl rfl (r_move (v := .bool _) rfl) ?_
        refine L_as (v := .bool _) (v' := .bool true) 218 rfl (dec_t (by rfl)).symm ?_
        refine L_run (.yes 12 true rfl rfl) rfl rfl (r_move (v := .pointer _) rfl) ?_
        refine L_call (.yes 12 true rfl rfl) rfl rfl (r_call Try.func17 rfl rfl rfl (by rfl)) (life_walk w0.heap.size b bm vs S _ (hA.nw (by (repeat (first | exact Ch.refl _ | assumption | (refine Ch.fresh ?_ (by assumption) (by intro i hi he; first | exact he | exact (not_no he).elim | exact Or.inl he | exact Or.inr (Or.inl he) | exact Or.inr (Or.inr he) | (exfalso; have he2 : _ = some i := he; have := own_base (by assumption) he2; omega) | (exfalso; have he2 : i = _ := he; omega) | (exfalso; have he2 : _ = some i := he; have := ow_base (by assumption) he2; omega) | (exfalso; have := he.1; omega)))))))) ?_
        rintro v220 w79 ⟨rfl, rfl⟩
        refine L_run (.yes 12 true rfl rfl) rfl rfl (r_move (v := .pointer _) rfl) ?_
        refine L_call (.yes 12 true rfl rfl) rfl rfl (r_call Try.func17 rfl rfl rfl (by rfl)) (life_walk w0.heap.size c cm us { S with st := x } _ (hB.nw (by (repeat (first | exact Ch.refl _ | assumption | (refine Ch.fresh ?_ (by assumption) (by intro i hi he; first | exact he | exact (not_no he).elim | exact Or.inl he | exact Or.inr (Or.inl he) | exact Or.inr (Or.inr he) | (exfalso; have he2 : _ = some i := he; have := own_base (by assumption) he2; omega) | (exfalso; have he2 : i = _ := he; omega) | (exfalso; have he2 : _ = some i := he; have := ow_base (by assumption) he2; omega) | (exfalso; have := he.1; omega)))))))) ?_
        rintro v222 w80 ⟨rfl, rfl⟩
        refine L_run (.yes 12 true rfl rfl) rfl rfl (r_eql rfl rfl) ?_
        refine L_run (.plain rfl) rfl rfl (r_pick_t (v := .bool _) rfl rfl) ?_
        refine L_run (.plain rfl) rfl rfl (r_assign (v := .bool _) rfl) ?_
        refine L_nil ?_
        refine W_ret ?_
        refine ret1 (v := .bool _) rfl rfl ?_
        exact ⟨(dec_t rfl).symm, by (repeat (first | exact Ch.refl _ | assumption | (refine Ch.fresh ?_ (by assumption) (by intro i hi he; first | exact he | exact (not_no he).elim | exact Or.inl he | exact Or.inr (Or.inl he) | exact Or.inr (Or.inr he) | (exfalso; have he2 : _ = some i := he; have := own_base (by assumption) he2; omega) | (exfalso; have he2 : i = _ := he; omega) | (exfalso; have he2 : _ = some i := he; have := ow_base (by assumption) he2; omega) | (exfalso; have := he.1; omega)))))⟩
    · refine L_pass rfl rfl rfl rfl rfl ?_
      refine L_pass rfl rfl rfl rfl rfl ?_
      refine L_run (.plain rfl) rfl rfl (r_pick_f (v := .bool _) rfl rfl) ?_
      refine L_nil ?_
      refine W_false rfl ?_
      refine W_exit ?_
      repeat (first | refine blk_hit ?_ | refine blk_miss rfl ?_)
      refine W_seq ?_
      refine W_region ?_
      refine L_run (.plain rfl) rfl rfl (r_move (v := .pointer _) rfl) ?_
      refine L_call (.plain rfl) rfl rfl (r_call Try.func15 rfl rfl rfl (by rfl)) (kept_walk w0.heap.size b bm vs S _ (hA.nw (by (repeat (first | exact Ch.refl _ | assumption | (refine Ch.fresh ?_ (by assumption) (by intro i hi he; first | exact he | exact (not_no he).elim | exact Or.inl he | exact Or.inr (Or.inl he) | exact Or.inr (Or.inr he) | (exfalso; have he2 : _ = some i := he; have := own_base (by assumption) he2; omega) | (exfalso; have he2 : i = _ := he; omega) | (exfalso; have he2 : _ = some i := he; have := ow_base (by assumption) he2; omega) | (exfalso; have := he.1; omega)))))))) ?_
      rintro v207 w81 ⟨rfl, rfl⟩
      refine L_run (.plain rfl) rfl rfl (r_move (v := .pointer _) rfl) ?_
      refine L_call (.plain rfl) rfl rfl (r_call Try.func15 rfl rfl rfl (by rfl)) (kept_walk w0.heap.size c cm us { S with st := x } _ (hB.nw (by (repeat (first | exact Ch.refl _ | assumption | (refine Ch.fresh ?_ (by assumption) (by intro i hi he; first | exact he | exact (not_no he).elim | exact Or.inl he | exact Or.inr (Or.inl he) | exact Or.inr (Or.inr he) | (exfalso; have he2 : _ = some i := he; have := own_base (by assumption) he2; omega) | (exfalso; have he2 : i = _ := he; omega) | (exfalso; have he2 : _ = some i := he; have := ow_base (by assumption) he2; omega) | (exfalso; have := he.1; omega)))))))) ?_
      rintro v209 w82 ⟨rfl, rfl⟩
      refine L_run (.plain rfl) rfl rfl (r_eql rfl rfl) ?_
      refine L_run (.plain rfl) rfl rfl (r_move (v := .bool _) rfl) ?_
      refine L_as (v := .bool _) (v' := .bool true) 211 rfl (dec_t (by rfl)).symm ?_
      refine L_run (.yes 5 true rfl rfl) rfl rfl (r_move (v := .pointer _) rfl) ?_
      refine L_call (.yes 5 true rfl rfl) rfl rfl (r_call Try.func18 rfl rfl rfl (by rfl)) (floor_walk w0.heap.size b bm vs S _ (hA.nw (by (repeat (first | exact Ch.refl _ | assumption | (refine Ch.fresh ?_ (by assumption) (by intro i hi he; first | exact he | exact (not_no he).elim | exact Or.inl he | exact Or.inr (Or.inl he) | exact Or.inr (Or.inr he) | (exfalso; have he2 : _ = some i := he; have := own_base (by assumption) he2; omega) | (exfalso; have he2 : i = _ := he; omega) | (exfalso; have he2 : _ = some i := he; have := ow_base (by assumption) he2; omega) | (exfalso; have := he.1; omega)))))))) ?_
      rintro v213 w83 ⟨rfl, rfl⟩
      refine L_run (.yes 5 true rfl rfl) rfl rfl (r_move (v := .pointer _) rfl) ?_
      refine L_call (.yes 5 true rfl rfl) rfl rfl (r_call Try.func18 rfl rfl rfl (by rfl)) (floor_walk w0.heap.size c cm us { S with st := x } _ (hB.nw (by (repeat (first | exact Ch.refl _ | assumption | (refine Ch.fresh ?_ (by assumption) (by intro i hi he; first | exact he | exact (not_no he).elim | exact Or.inl he | exact Or.inr (Or.inl he) | exact Or.inr (Or.inr he) | (exfalso; have he2 : _ = some i := he; have := own_base (by assumption) he2; omega) | (exfalso; have he2 : i = _ := he; omega) | (exfalso; have he2 : _ = some i := he; have := ow_base (by assumption) he2; omega) | (exfalso; have := he.1; omega)))))))) ?_
      rintro v215 w84 ⟨rfl, rfl⟩
      refine L_run (.yes 5 true rfl rfl) rfl rfl (r_eql rfl rfl) ?_
      refine L_run (.plain rfl) rfl rfl (r_pick_t (v := .bool _) rfl rfl) ?_
      refine L_run (.plain rfl) rfl rfl (r_move (v := .bool _) rfl) ?_
      refine L_as (v := .bool _) (v' := .bool true) 218 rfl (dec_t (by rfl)).symm ?_
      refine L_run (.yes 12 true rfl rfl) rfl rfl (r_move (v := .pointer _) rfl) ?_
      refine L_call (.yes 12 true rfl rfl) rfl rfl (r_call Try.func17 rfl rfl rfl (by rfl)) (life_walk w0.heap.size b bm vs S _ (hA.nw (by (repeat (first | exact Ch.refl _ | assumption | (refine Ch.fresh ?_ (by assumption) (by intro i hi he; first | exact he | exact (not_no he).elim | exact Or.inl he | exact Or.inr (Or.inl he) | exact Or.inr (Or.inr he) | (exfalso; have he2 : _ = some i := he; have := own_base (by assumption) he2; omega) | (exfalso; have he2 : i = _ := he; omega) | (exfalso; have he2 : _ = some i := he; have := ow_base (by assumption) he2; omega) | (exfalso; have := he.1; omega)))))))) ?_
      rintro v220 w85 ⟨rfl, rfl⟩
      refine L_run (.yes 12 true rfl rfl) rfl rfl (r_move (v := .pointer _) rfl) ?_
      refine L_call (.yes 12 true rfl rfl) rfl rfl (r_call Try.func17 rfl rfl rfl (by rfl)) (life_walk w0.heap.size c cm us { S with st := x } _ (hB.nw (by (repeat (first | exact Ch.refl _ | assumption | (refine Ch.fresh ?_ (by assumption) (by intro i hi he; first | exact he | exact (not_no he).elim | exact Or.inl he | exact Or.inr (Or.inl he) | exact Or.inr (Or.inr he) | (exfalso; have he2 : _ = some i := he; have := own_base (by assumption) he2; omega) | (exfalso; have he2 : i = _ := he; omega) | (exfalso; have he2 : _ = some i := he; have := ow_base (by assumption) he2; omega) | (exfalso; have := he.1; omega)))))))) ?_
      rintro v222 w86 ⟨rfl, rfl⟩
      refine L_run (.yes 12 true rfl rfl) rfl rfl (r_eql rfl rfl) ?_
      refine L_run (.plain rfl) rfl rfl (r_pick_t (v := .bool _) rfl rfl) ?_
      refine L_run (.plain rfl) rfl rfl (r_assign (v := .bool _) rfl) ?_
      refine L_nil ?_
      refine W_ret ?_
      refine ret1 (v := .bool _) rfl rfl ?_
      exact ⟨(dec_t rfl).symm, by (repeat (first | exact Ch.refl _ | assumption | (refine Ch.fresh ?_ (by assumption) (by intro i hi he; first | exact he | exact (not_no he).elim | exact Or.inl he | exact Or.inr (Or.inl he) | exact Or.inr (Or.inr he) | (exfalso; have he2 : _ = some i := he; have := own_base (by assumption) he2; omega) | (exfalso; have he2 : i = _ := he; omega) | (exfalso; have he2 : _ = some i := he; have := ow_base (by assumption) he2; omega) | (exfalso; have := he.1; omega)))))⟩
end Go.Proofs.Ythpclaoniljfbaa

