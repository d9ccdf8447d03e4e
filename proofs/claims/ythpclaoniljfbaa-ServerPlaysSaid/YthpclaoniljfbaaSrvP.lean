/- ServerPlays, walked. -/
import Derived.Test.YthpclaoniljfbaaSrvQ
namespace Go.Proofs.Ythpclaoniljfbaa
open Go Go.RowKit
set_option linter.unusedVariables false
set_option linter.unusedSimpArgs false
section
variable {P : Program} {w : World}
theorem eqA_cons {d : Nat} {e : TypeId} {xs ys : Array Value} {is : List Nat} {i : Nat} {a b : Value} {p q : Prop} [Decidable p] [Decidable q] (hk : P.plainKey e = true) (hx : xs[i * 1]? = some a) (hy : ys[i * 1]? = some b)
    (he : (Op.equalIn d e a b).run P w = .ok (decide p) w) (hr : (Op.eqItems d e 1 xs ys is).run P w = .ok (decide q) w) : (Op.eqItems d e 1 xs ys (i :: is)).run P w = .ok (decide (p ∧ q)) w := by
  simp only [Op.eqItems, Sem.run_bind, run_part_plain w hk hx, run_part_plain w hk hy, he, Result.andThen_ok]
  by_cases hp : p
  · rw [decide_eq_true hp]; simp only [Bool.not_true, Bool.false_eq_true, if_false, hr]
    simp [hp]
  · rw [decide_eq_false hp]; simp [hp]
theorem eqA_nil {d : Nat} {e : TypeId} {xs ys : Array Value} : (Op.eqItems d e 1 xs ys []).run P w = .ok (decide True) w := by simp [Op.eqItems]
end
theorem eqPair (a b c d : Int) (W : World) : (Op.equal 50 (.agg #[.int .u64 a, .int .u64 b]) (.agg #[.int .u64 c, .int .u64 d])).run Try.prog W = .ok (decide (a = c ∧ b = d)) W := by
  have hi : ∃ i, Try.prog.info? 28 = some i := Option.isSome_iff_exists.1 (by kernel_rfl)
  obtain ⟨i, hi⟩ := hi
  have h1 := run_equalIn_array (P := Try.prog) W 9999 (t := 50) #[.int .u64 a, .int .u64 b] #[.int .u64 c, .int .u64 d] Try.underlying50 hi
  have hc : Try.prog.cellsOf 28 = 1 := by kernel_rfl
  rw [hc] at h1
  refine Eq.trans h1 ?_
  refine (eqA_cons (by kernel_rfl) rfl rfl (eqI_int Try.underlying28) (eqA_cons (by kernel_rfl) rfl rfl (eqI_int Try.underlying28) eqA_nil)).trans ?_
  congr 1
  by_cases h : a = c ∧ b = d
  · rw [decide_eq_true h, decide_eq_true (by simpa using h)]
  · rw [decide_eq_false h, decide_eq_false (by simpa using h)]
theorem cells2_row (L : List (Int × Int)) (i : Nat) (h : i < L.length) : ∀ (j : Nat) (u : Value), [Value.int .u64 L[i].1, .int .u64 L[i].2][j]? = some u → (cells2 L)[i * 2 + j]? = some u := by
  induction L generalizing i with
  | nil => simp at h
  | cons x L ih =>
    intro j u hj
    cases i with
    | zero =>
      have hj2 : j < 2 := by have := (List.getElem?_eq_some_iff.1 hj).1; simpa using this
      simp only [cells2, List.flatMap_cons, Nat.zero_mul, Nat.zero_add]
      rw [List.getElem?_append_left (by simpa using hj2)]
      exact hj
    | succ i =>
      have := ih i (by simpa using h) j u hj
      simp only [cells2, List.flatMap_cons]
      rw [List.getElem?_append_right (by simp; omega)]
      rw [show (i + 1) * 2 + j - [Value.int .u64 x.1, .int .u64 x.2].length = i * 2 + j by simp; omega]
      exact this
theorem SrvAt.bk7 {base : Nat} {w w' : World} {b bm c : Nat} {vs : Value} {S : Srv} {cs : Array Value} {t : TypeId} (h : SrvAt base w b bm vs S) (hb : Bk w c cs t) (h1 : t ≠ 61) (h2 : t ≠ 50) (k : Ch (fun j => j = c) w w') : SrvAt base w' b bm vs S :=
  h.ch k fun j hj e => by
    have e2 : j = c := e
    rcases hj with rfl | rfl | hj
    · exact Bk.ne h.bk hb h1.symm e2
    · exact h.mp.ne hb e2
    · obtain ⟨ds, hd⟩ := h.ow.bk hj
      exact Bk.ne hd hb h2.symm e2
theorem plays_out (most : Int) (v1 : Value) (w0 : World) (hn : ¬ (1 ≤ most ∧ most ≤ 1024)) : Does Try.prog 3 #[.int .i64 most, v1] w0 (fun r w' => r = .bool true ∧ Nw w0 w') := by
  refine fn_of (n := 193) (args := [.int .i64 most, v1]) Try.func3 rfl rfl rfl ?_
  refine W_seq ?_
  refine W_region ?_
  refine L_run (.plain rfl) rfl rfl (r_assign (v := .bool _) rfl) ?_
  refine L_nil ?_
  refine W_seq ?_
  refine W_region ?_
  refine L_run (.plain rfl) rfl rfl (r_move (v := .int _ _) rfl) ?_
  refine L_call (.plain rfl) rfl rfl (r_call Try.func8 rfl rfl rfl (by rfl)) (new_none most _ hn) ?_
  rintro v24 w1 ⟨rfl, rfl⟩
  refine L_run (.plain rfl) rfl rfl (r_move (by conv => lhs; whnf)) ?_
  refine L_run (.plain rfl) rfl rfl (r_ext2_0 rfl) ?_
  refine L_run (.plain rfl) rfl rfl (r_ext2_1 rfl) ?_
  refine L_run (.plain rfl) rfl rfl (r_assign (v := .pointer _) rfl) ?_
  refine L_run (.plain rfl) rfl rfl (r_assign (v := .int _ _) rfl) ?_
  refine L_nil ?_
  refine W_seq ?_
  refine W_seq ?_
  refine W_region ?_
  refine L_run (.plain rfl) rfl rfl (r_move (v := .int _ _) rfl) ?_
  refine L_run (.plain rfl) rfl rfl (r_lss rfl rfl) ?_
  refine L_run (.plain rfl) rfl rfl (r_move (v := .bool _) rfl) ?_
  refine L_case (d := 29) rfl (fun h29 => ?_) (fun h29 => ?_)
  · refine L_pass rfl rfl rfl rfl rfl ?_
    refine L_pass rfl rfl rfl rfl rfl ?_
    refine L_run (.plain rfl) rfl rfl (r_pick_t (v := .bool _) rfl rfl) ?_
    refine L_nil ?_
    refine W_true rfl ?_
    refine W_seq ?_
    refine W_region ?_
    refine L_call (.plain rfl) rfl rfl (r_call Try.func9 rfl rfl rfl (by rfl)) (awake_walk _) ?_
    rintro v33 w2 ⟨rfl, c2⟩
    have hz2 := c2.size
    refine L_run (.plain rfl) rfl rfl (r_move (v := .bool _) rfl) ?_
    refine L_as (v := .bool _) (v' := .bool true) 34 rfl (congrArg Value.bool (by rfl)) ?_
    refine L_run (.yes 1 true rfl rfl) rfl rfl (r_move (v := .pointer _) rfl) ?_
    refine L_run (.yes 1 true rfl rfl) rfl rfl (r_eqpnil Try.underlying23 rfl rfl) ?_
    refine L_run (.plain rfl) rfl rfl (r_pick_t (v := .bool _) rfl rfl) ?_
    refine L_run (.plain rfl) rfl rfl (r_move (v := .bool _) rfl) ?_
    refine L_as (v := .bool _) (v' := .bool true) 38 rfl (congrArg Value.bool (by rfl)) ?_
    refine L_run (.yes 5 true rfl rfl) rfl rfl (r_move (v := .int _ _) rfl) ?_
    refine L_run (.yes 5 true rfl rfl) rfl rfl (r_eql rfl rfl) ?_
    refine L_run (.plain rfl) rfl rfl (r_pick_t (v := .bool _) rfl rfl) ?_
    refine L_run (.plain rfl) rfl rfl (r_assign (v := .bool _) rfl) ?_
    refine L_nil ?_
    refine W_ret ?_
    refine ret1 (v := .bool _) rfl rfl ?_
    exact ⟨rfl, by (repeat (first | exact Ch.refl _ | assumption | (refine Ch.fresh ?_ (by assumption) (by intro i hi he; first | exact he | exact (not_no he).elim | exact Or.inl he | exact Or.inr (Or.inl he) | exact Or.inr (Or.inr he) | (exfalso; have he2 : _ = some i := he; have := own_base (by assumption) he2; omega) | (exfalso; have he2 : i = _ := he; omega) | (exfalso; have he2 : _ = some i := he; have := ow_base (by assumption) he2; omega) | (exfalso; have := he.1; omega) | (exfalso; have he2 : _ = some i := he; have := hlo _ he2; omega)))))⟩
  · refine L_run (.yes 2 false rfl rfl) rfl rfl (r_move (v := .int _ _) rfl) ?_
    refine L_run (.yes 2 false rfl rfl) rfl rfl (r_gtr rfl rfl) ?_
    refine L_run (.plain rfl) rfl rfl (r_pick_f (v := .bool _) rfl rfl) ?_
    refine L_nil ?_
    refine W_if rfl (fun h32 => ?_) (fun h32 => ?_)
    · refine W_seq ?_
      refine W_region ?_
      refine L_call (.plain rfl) rfl rfl (r_call Try.func9 rfl rfl rfl (by rfl)) (awake_walk _) ?_
      rintro v33 w3 ⟨rfl, c3⟩
      have hz3 := c3.size
      refine L_run (.plain rfl) rfl rfl (r_move (v := .bool _) rfl) ?_
      refine L_as (v := .bool _) (v' := .bool true) 34 rfl (congrArg Value.bool (by rfl)) ?_
      refine L_run (.yes 1 true rfl rfl) rfl rfl (r_move (v := .pointer _) rfl) ?_
      refine L_run (.yes 1 true rfl rfl) rfl rfl (r_eqpnil Try.underlying23 rfl rfl) ?_
      refine L_run (.plain rfl) rfl rfl (r_pick_t (v := .bool _) rfl rfl) ?_
      refine L_run (.plain rfl) rfl rfl (r_move (v := .bool _) rfl) ?_
      refine L_as (v := .bool _) (v' := .bool true) 38 rfl (congrArg Value.bool (by rfl)) ?_
      refine L_run (.yes 5 true rfl rfl) rfl rfl (r_move (v := .int _ _) rfl) ?_
      refine L_run (.yes 5 true rfl rfl) rfl rfl (r_eql rfl rfl) ?_
      refine L_run (.plain rfl) rfl rfl (r_pick_t (v := .bool _) rfl rfl) ?_
      refine L_run (.plain rfl) rfl rfl (r_assign (v := .bool _) rfl) ?_
      refine L_nil ?_
      refine W_ret ?_
      refine ret1 (v := .bool _) rfl rfl ?_
      exact ⟨rfl, by (repeat (first | exact Ch.refl _ | assumption | (refine Ch.fresh ?_ (by assumption) (by intro i hi he; first | exact he | exact (not_no he).elim | exact Or.inl he | exact Or.inr (Or.inl he) | exact Or.inr (Or.inr he) | (exfalso; have he2 : _ = some i := he; have := own_base (by assumption) he2; omega) | (exfalso; have he2 : i = _ := he; omega) | (exfalso; have he2 : _ = some i := he; have := ow_base (by assumption) he2; omega) | (exfalso; have := he.1; omega) | (exfalso; have he2 : _ = some i := he; have := hlo _ he2; omega)))))⟩
    · omega
set_option maxHeartbeats 8000000 in
set_option maxRecDepth 100000 in
theorem plays_in (most : Int) (v1 : Value) (z : List SAct) (w0 : World) (hn : 1 ≤ most ∧ most ≤ 1024) (y1 : Sl w0 v1 9 z.length (cellsS z)) (y2 : ∀ a ∈ z, a.m.ok) : Does Try.prog 3 #[.int .i64 most, v1] w0 (fun r w' => r = .bool true ∧ Nw w0 w') := by
  refine fn_of (n := 193) (args := [.int .i64 most, v1]) Try.func3 rfl rfl rfl ?_
  refine W_seq ?_
  refine W_region ?_
  refine L_run (.plain rfl) rfl rfl (r_assign (v := .bool _) rfl) ?_
  refine L_nil ?_
  refine W_seq ?_
  refine W_region ?_
  refine L_run (.plain rfl) rfl rfl (r_move (v := .int _ _) rfl) ?_
  refine L_call (.plain rfl) rfl rfl (r_call Try.func8 rfl rfl rfl (by rfl)) (new_walk most _ hn) ?_
  rintro v24 w1 ⟨b, bm, rfl, hS0, c1⟩
  have hz1 := c1.size
  refine L_run (.plain rfl) rfl rfl (r_move (by conv => lhs; whnf)) ?_
  refine L_run (.plain rfl) rfl rfl (r_ext2_0 rfl) ?_
  refine L_run (.plain rfl) rfl rfl (r_ext2_1 rfl) ?_
  refine L_run (.plain rfl) rfl rfl (r_assign (v := .pointer _) rfl) ?_
  refine L_run (.plain rfl) rfl rfl (r_assign (v := .int _ _) rfl) ?_
  refine L_nil ?_
  refine W_seq ?_
  refine W_seq ?_
  refine W_region ?_
  refine L_run (.plain rfl) rfl rfl (r_move (v := .int _ _) rfl) ?_
  refine L_run (.plain rfl) rfl rfl (r_lss rfl rfl) ?_
  refine L_run (.plain rfl) rfl rfl (r_move (v := .bool _) rfl) ?_
  refine L_case (d := 29) rfl (fun h29 => ?_) (fun h29 => ?_)
  · omega
  · refine L_run (.yes 2 false rfl rfl) rfl rfl (r_move (v := .int _ _) rfl) ?_
    refine L_run (.yes 2 false rfl rfl) rfl rfl (r_gtr rfl rfl) ?_
    refine L_run (.plain rfl) rfl rfl (r_pick_f (v := .bool _) rfl rfl) ?_
    refine L_nil ?_
    refine W_if rfl (fun h32 => ?_) (fun h32 => ?_)
    · omega
    · refine W_skip ?_
      refine W_seq ?_
      refine W_seq ?_
      refine W_region ?_
      refine L_call (.plain rfl) rfl rfl (r_call Try.func9 rfl rfl rfl (by rfl)) (awake_walk _) ?_
      rintro v42 w2 ⟨rfl, c2⟩
      have hz2 := c2.size
      refine L_run (.plain rfl) rfl rfl (r_not rfl) ?_
      refine L_run (.plain rfl) rfl rfl (r_move (v := .bool _) rfl) ?_
      refine L_as (v := .bool _) (v' := .bool false) 44 rfl (congrArg Value.bool (by rfl)) ?_
      refine L_run (.yes 2 false rfl rfl) rfl rfl (r_move (v := .int _ _) rfl) ?_
      refine L_run (.yes 2 false rfl rfl) rfl rfl (r_neq rfl rfl) ?_
      refine L_run (.plain rfl) rfl rfl (r_pick_f (v := .bool _) rfl rfl) ?_
      refine L_run (.plain rfl) rfl rfl (r_move (v := .bool _) rfl) ?_
      refine L_as (v := .bool _) (v' := .bool false) 48 rfl (dec_f (by simp)).symm ?_
      refine L_run (.yes 6 false rfl rfl) rfl rfl (r_move (v := .pointer _) rfl) ?_
      refine L_run (.yes 6 false rfl rfl) rfl rfl (r_eqpnil Try.underlying23 rfl rfl) ?_
      refine L_run (.plain rfl) rfl rfl (r_pick_f (v := .bool _) rfl rfl) ?_
      refine L_as (v := .bool _) (v' := .bool false) 51 rfl (congrArg Value.bool (by rfl)) ?_
      refine L_nil ?_
      refine W_false rfl ?_
      refine W_skip ?_
      refine W_seq ?_
      refine W_region ?_
      refine L_run (.plain rfl) rfl rfl (r_move (v := .int _ _) rfl) ?_
      refine L_run (.plain rfl) rfl rfl (r_build1 (pl := [(0, 1), (1, 1), (2, 1), (3, 1)]) (vs := [(0, .int _ _), (2, .int _ _)]) (cells := [_, _, _, _]) Try.underlying31 rfl rfl (by rfl) rfl (by rfl)) ?_
      refine L_new (.plain rfl) rfl rfl (r_alloca rfl) (fun w3 b7 hb7 eb3 hs3 c3 => ?_)
      refine L_storerow (.plain rfl) rfl rfl (by (exact Bk.to (by assumption) (by (repeat (first | exact Sm.refl _ _ | (refine Sm.stepT (by assumption) (by intro hlt hsm; first | exact not_no | (intro he; have he2 : _ = _ := he; omega) | (intro he; have := he.1; omega) | exact bkm_not (by assumption) hsm rfl | exact owm_not (by assumption) hi hsm rfl | (intro he; have he2 : _ = _ := he; rw [he2] at hi; exact absurd hi (by assumption))) ?_)))))) (by first | rfl | (simp; done) | assumption) (by first | rfl | assumption) (by first | exact four_one (sl_one (Ow.sl (by assumption))) _ _ _ | rfl | (simp [Value.oneCell']; done)) (fun w4 hb4 hs4 c4 => ?_)
      refine L_nil ?_
      refine W_seq ?_
      refine W_seq ?_
      refine W_region ?_
      refine L_run (.plain rfl) rfl rfl (r_assign (v := .int _ _) rfl) ?_
      refine L_nil ?_
      refine W_block ?_
      refine W_loopF [1, 5, 7] (fun mz_ f W => ∃ (i : Nat) (S : Srv) (vs : Value) (R : RSrv) (rv : Value), f 8 = .int .i64 i ∧ (i ≤ z.length ∧ i ≤ 120 ∧ SrvAt w0.heap.size W b bm vs S ∧ Bk W b7 (R.row rv) 31 ∧ Ow W w0.heap.size 52 12 rv R.L.length (cellsC R.L) ∧ Rel S R ∧ (S.kept.length : Int) ≤ S.most ∧ S.most = most ∧ S.st.length ≤ i ∧ Nw w0 W) ∧ mz_ = 120 - i) ?_ ?_
      · refine ⟨_, 0, ⟨most, 0, 1, [], []⟩, .slice none 0 0, ⟨most, 0, 1, []⟩, .slice none 0 0, rfl, ?_, rfl⟩
        exact ⟨by omega, by omega, (hS0.base' (by omega)).nw (by (repeat (first | exact Ch.refl _ | assumption | (refine Ch.fresh ?_ (by assumption) (by intro i hi he; first | exact he | exact (not_no he).elim | exact Or.inl he | exact Or.inr (Or.inl he) | exact Or.inr (Or.inr he) | (exfalso; have he2 : _ = some i := he; have := own_base (by assumption) he2; omega) | (exfalso; have he2 : i = _ := he; omega) | (exfalso; have he2 : _ = some i := he; have := ow_base (by assumption) he2; omega) | (exfalso; have := he.1; omega) | (exfalso; have he2 : _ = some i := he; have := hlo _ he2; omega)))))), by (exact Bk.to (by assumption) (by (repeat (first | exact Sm.refl _ _ | (refine Sm.stepT (by assumption) (by intro hlt hsm; first | exact not_no | (intro he; have he2 : _ = _ := he; omega) | (intro he; have := he.1; omega) | exact bkm_not (by assumption) hsm rfl | exact owm_not (by assumption) hi hsm rfl | (intro he; have he2 : _ = _ := he; rw [he2] at hi; exact absurd hi (by assumption))) ?_))))), Ow.nil _ _ _ _, ⟨rfl, rfl, rfl, rfl, rfl, by simp, by simp⟩, by show ((0 : Nat) : Int) ≤ most; omega, rfl, Nat.le_refl _, by (repeat (first | exact Ch.refl _ | assumption | (refine Ch.fresh ?_ (by assumption) (by intro i hi he; first | exact he | exact (not_no he).elim | exact Or.inl he | exact Or.inr (Or.inl he) | exact Or.inr (Or.inr he) | (exfalso; have he2 : _ = some i := he; have := own_base (by assumption) he2; omega) | (exfalso; have he2 : i = _ := he; omega) | (exfalso; have he2 : _ = some i := he; have := ow_base (by assumption) he2; omega) | (exfalso; have := he.1; omega) | (exfalso; have he2 : _ = some i := he; have := hlo _ he2; omega)))))⟩
      rintro m0 g0 w5 ⟨i, S, vs, R, rv, hf8, hR0, rfl⟩
      refine W_as 8 hf8 rfl ?_
      clear hf8
      obtain ⟨hi1, hi2, hA, hbR, hoR, hRel, hkl, hmo, hsl, hnw⟩ := hR0
      have hz := hnw.size
      have hrl : R.L.length = S.st.length := by rw [hRel.st, List.length_map]
      have hb7l := hbR.lt
      have hnod := hA.mp.nodup
      refine W_seq ?_
      refine W_seq ?_
      refine W_region ?_
      refine L_run (.plain rfl) rfl rfl (r_move (v := .int _ _) rfl) ?_
      refine L_run (.plain rfl) rfl rfl (r_move (by conv => lhs; whnf)) ?_
      refine L_run (.plain rfl) rfl rfl (r_lenSl Try.underlying22 (by conv => lhs; whnf) (by (exact Sl.to (by first | assumption | exact Sl.own (by assumption) | exact Mu.sl (by assumption) | exact Ow.sl (by assumption)) (fun i hi => by (repeat (first | exact Sm.refl _ _ | (refine Sm.stepT (by assumption) (by intro hlt hsm; first | exact not_no | (intro he; have he2 : _ = _ := he; omega) | (intro he; have := he.1; omega) | exact bkm_not (by assumption) hsm rfl | exact owm_not (by assumption) hi hsm rfl | (intro he; have he2 : _ = _ := he; rw [he2] at hi; exact absurd hi (by assumption))) ?_))))))) ?_
      refine L_run (.plain rfl) rfl rfl (r_lss rfl rfl) ?_
      refine L_run (.plain rfl) rfl rfl (r_move (v := .bool _) rfl) ?_
      refine L_case (d := 58) rfl (fun h58 => ?_) (fun h58 => ?_)
      · refine L_run (.yes 4 true rfl rfl) rfl rfl (r_move (v := .int _ _) rfl) ?_
        refine L_run (.yes 4 true rfl rfl) rfl rfl (r_lss rfl rfl) ?_
        refine L_run (.plain rfl) rfl rfl (r_pick_t (v := .bool _) rfl rfl) ?_
        refine L_nil ?_
        refine W_if rfl (fun h61 => ?_) (fun h61 => ?_)
        · have hlt : i < z.length := by omega
          refine W_skip ?_
          refine W_cutF [1, 5, 7, 8] (fun f W => ∃ (S2 : Srv) (vs2 : Value) (R2 : RSrv) (rv2 : Value), True ∧ (i + 1 ≤ z.length ∧ i + 1 ≤ 120 ∧ SrvAt w0.heap.size W b bm vs2 S2 ∧ Bk W b7 (R2.row rv2) 31 ∧ Ow W w0.heap.size 52 12 rv2 R2.L.length (cellsC R2.L) ∧ Rel S2 R2 ∧ (S2.kept.length : Int) ≤ S2.most ∧ S2.most = most ∧ S2.st.length ≤ i + 1 ∧ Nw w0 W)) ?_ ?_
          · refine W_block ?_
            refine W_seq ?_
            obtain ⟨Sx, hSx⟩ : ∃ x, x = S := ⟨_, rfl⟩
            obtain ⟨vx, hvx⟩ : ∃ x, x = vs := ⟨_, rfl⟩
            obtain ⟨Rx, hRx⟩ : ∃ x, x = R := ⟨_, rfl⟩
            obtain ⟨rx, hrx⟩ : ∃ x, x = rv := ⟨_, rfl⟩
            have hc9 : ∀ (j : Nat) (u : Value), [Value.int .i64 z[i].k, .int .i64 z[i].m.kind, .int .u64 z[i].m.life, .int .u64 z[i].m.seq, .int .u64 z[i].m.below, .int .u64 z[i].m.object, .string z[i].m.method, .int .i64 z[i].m.way, .string z[i].m.body][j]? = some u → (cellsS z)[i * 9 + j]? = some u := cellsS_row z i hlt
            have hao := y2 z[i] (List.getElem_mem _)
            obtain ⟨a, ha⟩ : ∃ a, a = z[i] := ⟨_, rfl⟩
            rw [← ha] at hc9 hao
            refine W_region ?_
            refine L_run (.plain rfl) rfl rfl (r_move (by conv => lhs; whnf)) ?_
            refine L_run (.plain rfl) rfl rfl (r_move (v := .int _ _) rfl) ?_
            refine L_run (.plain rfl) rfl rfl (r_idxSl Try.underlying22 (show _ = some 9 from rfl) (by conv => lhs; whnf) rfl (by (exact Sl.to (by first | assumption | exact Sl.own (by assumption) | exact Mu.sl (by assumption) | exact Ow.sl (by assumption)) (fun i hi => by (repeat (first | exact Sm.refl _ _ | (refine Sm.stepT (by assumption) (by intro hlt hsm; first | exact not_no | (intro he; have he2 : _ = _ := he; omega) | (intro he; have := he.1; omega) | exact bkm_not (by assumption) hsm rfl | exact owm_not (by assumption) hi hsm rfl | (intro he; have he2 : _ = _ := he; rw [he2] at hi; exact absurd hi (by assumption))) ?_)))))) (by omega) (by omega) (by conv => lhs; (try simp only [Nat.mul_one, Nat.zero_add, Int.toNat_natCast, Int.toNat_zero, Int.reduceToNat, Nat.reduceMul, Nat.reduceAdd]))) ?_
            refine L_run (.plain rfl) rfl rfl (r_loadSlrow (us := [.int .i64 a.k, .int .i64 a.m.kind, .int .u64 a.m.life, .int .u64 a.m.seq, .int .u64 a.m.below, .int .u64 a.m.object, .string a.m.method, .int .i64 a.m.way, .string a.m.body]) Try.underlying35 rfl rfl rfl rfl (by (exact Sl.to (by first | assumption | exact Sl.own (by assumption) | exact Mu.sl (by assumption) | exact Ow.sl (by assumption)) (fun i hi => by (repeat (first | exact Sm.refl _ _ | (refine Sm.stepT (by assumption) (by intro hlt hsm; first | exact not_no | (intro he; have he2 : _ = _ := he; omega) | (intro he; have := he.1; omega) | exact bkm_not (by assumption) hsm rfl | exact owm_not (by assumption) hi hsm rfl | (intro he; have he2 : _ = _ := he; rw [he2] at hi; exact absurd hi (by assumption))) ?_)))))) (by exact hc9)) ?_
            refine L_new (.plain rfl) rfl rfl (r_alloca rfl) (fun w6 b9 hb9 eb6 hs6 c6 => ?_)
            refine L_storerow (.plain rfl) rfl rfl (by (exact Bk.to (by assumption) (by (repeat (first | exact Sm.refl _ _ | (refine Sm.stepT (by assumption) (by intro hlt hsm; first | exact not_no | (intro he; have he2 : _ = _ := he; omega) | (intro he; have := he.1; omega) | exact bkm_not (by assumption) hsm rfl | exact owm_not (by assumption) hi hsm rfl | (intro he; have he2 : _ = _ := he; rw [he2] at hi; exact absurd hi (by assumption))) ?_)))))) (by first | rfl | (simp; done) | assumption) (by first | rfl | assumption) (by first | exact four_one (sl_one (Ow.sl (by assumption))) _ _ _ | rfl | (simp [Value.oneCell']; done)) (fun w7 hb7 hs7 c7 => ?_)
            refine L_nil ?_
            refine W_seq ?_
            refine W_seq ?_
            refine W_region ?_
            refine L_run (.plain rfl) rfl rfl (r_loadrow Try.underlying35 rfl rfl (by (exact Bk.to (by assumption) (by (repeat (first | exact Sm.refl _ _ | (refine Sm.stepT (by assumption) (by intro hlt hsm; first | exact not_no | (intro he; have he2 : _ = _ := he; omega) | (intro he; have := he.1; omega) | exact bkm_not (by assumption) hsm rfl | exact owm_not (by assumption) hi hsm rfl | (intro he; have he2 : _ = _ := he; rw [he2] at hi; exact absurd hi (by assumption))) ?_)))))) (by first | rfl | assumption)) ?_
            refine L_call (.plain rfl) rfl rfl (r_call Try.func10 rfl rfl rfl (by rfl)) (few_walk a.k a.m _) ?_
            rintro v69 w8 ⟨rfl, c8⟩
            have hz8 := c8.size
            refine L_run (.plain rfl) rfl rfl (r_not rfl) ?_
            refine L_nil ?_
            refine W_bool rfl (fun h70 => ?_) (fun h70 => ?_)
            · refine W_exit ?_
              repeat (first | refine blk_hit ?_ | refine blk_miss rfl ?_)
              refine ⟨⟨rfl, rfl, rfl, rfl, trivial⟩, Sx, vx, Rx, rx, trivial, ?_⟩
              first
                | (subst hSx hvx hRx hrx
                   exact ⟨by omega, by omega, hA.nw (by (repeat (first | exact Ch.refl _ | assumption | (refine Ch.fresh ?_ (by assumption) (by intro i hi he; first | exact he | exact (not_no he).elim | exact Or.inl he | exact Or.inr (Or.inl he) | exact Or.inr (Or.inr he) | (exfalso; have he2 : _ = some i := he; have := own_base (by assumption) he2; omega) | (exfalso; have he2 : i = _ := he; omega) | (exfalso; have he2 : _ = some i := he; have := ow_base (by assumption) he2; omega) | (exfalso; have := he.1; omega) | (exfalso; have he2 : _ = some i := he; have := hlo _ he2; omega)))))), by (exact Bk.to (by assumption) (by (repeat (first | exact Sm.refl _ _ | (refine Sm.stepT (by assumption) (by intro hlt hsm; first | exact not_no | (intro he; have he2 : _ = _ := he; omega) | (intro he; have := he.1; omega) | exact bkm_not (by assumption) hsm rfl | exact owm_not (by assumption) hi hsm rfl | (intro he; have he2 : _ = _ := he; rw [he2] at hi; exact absurd hi (by assumption))) ?_))))), by (exact Ow.to (by first | assumption | exact Ow.of (by assumption)) (fun i hi => by (repeat (first | exact Sm.refl _ _ | (refine Sm.stepT (by assumption) (by intro hlt hsm; first | exact not_no | (intro he; have he2 : _ = _ := he; omega) | (intro he; have := he.1; omega) | exact bkm_not (by assumption) hsm rfl | exact owm_not (by assumption) hi hsm rfl | (intro he; have he2 : _ = _ := he; rw [he2] at hi; exact absurd hi (by assumption))) ?_))))), hRel, hkl, hmo, by omega, by (repeat (first | exact Ch.refl _ | assumption | (refine Ch.fresh ?_ (by assumption) (by intro i hi he; first | exact he | exact (not_no he).elim | exact Or.inl he | exact Or.inr (Or.inl he) | exact Or.inr (Or.inr he) | (exfalso; have he2 : _ = some i := he; have := own_base (by assumption) he2; omega) | (exfalso; have he2 : i = _ := he; omega) | (exfalso; have he2 : _ = some i := he; have := ow_base (by assumption) he2; omega) | (exfalso; have := he.1; omega) | (exfalso; have he2 : _ = some i := he; have := hlo _ he2; omega)))))⟩)
                | (subst hSx hvx hRx hrx
                   exact ⟨by omega, by omega, hA3.nw (by (repeat (first | exact Ch.refl _ | assumption | (refine Ch.fresh ?_ (by assumption) (by intro i hi he; first | exact he | exact (not_no he).elim | exact Or.inl he | exact Or.inr (Or.inl he) | exact Or.inr (Or.inr he) | (exfalso; have he2 : _ = some i := he; have := own_base (by assumption) he2; omega) | (exfalso; have he2 : i = _ := he; omega) | (exfalso; have he2 : _ = some i := he; have := ow_base (by assumption) he2; omega) | (exfalso; have := he.1; omega) | (exfalso; have he2 : _ = some i := he; have := hlo _ he2; omega)))))), by (exact Bk.to (by assumption) (by (repeat (first | exact Sm.refl _ _ | (refine Sm.stepT (by assumption) (by intro hlt hsm; first | exact not_no | (intro he; have he2 : _ = _ := he; omega) | (intro he; have := he.1; omega) | exact bkm_not (by assumption) hsm rfl | exact owm_not (by assumption) hi hsm rfl | (intro he; have he2 : _ = _ := he; rw [he2] at hi; exact absurd hi (by assumption))) ?_))))), by (exact Ow.to (by first | assumption | exact Ow.of (by assumption)) (fun i hi => by (repeat (first | exact Sm.refl _ _ | (refine Sm.stepT (by assumption) (by intro hlt hsm; first | exact not_no | (intro he; have he2 : _ = _ := he; omega) | (intro he; have := he.1; omega) | exact bkm_not (by assumption) hsm rfl | exact owm_not (by assumption) hi hsm rfl | (intro he; have he2 : _ = _ := he; rw [he2] at hi; exact absurd hi (by assumption))) ?_))))), hRel3, hkl3, hmo3, hsl3, by (repeat (first | exact Ch.refl _ | assumption | (refine Ch.fresh ?_ (by assumption) (by intro i hi he; first | exact he | exact (not_no he).elim | exact Or.inl he | exact Or.inr (Or.inl he) | exact Or.inr (Or.inr he) | (exfalso; have he2 : _ = some i := he; have := own_base (by assumption) he2; omega) | (exfalso; have he2 : i = _ := he; omega) | (exfalso; have he2 : _ = some i := he; have := ow_base (by assumption) he2; omega) | (exfalso; have := he.1; omega) | (exfalso; have he2 : _ = some i := he; have := hlo _ he2; omega)))))⟩)
            · have hfew : a.m.body.size ≤ 9000 ∧ a.m.method.size ≤ 100 := by simpa using (by assumption : (!decide (a.m.body.size ≤ 9000 ∧ a.m.method.size ≤ 100)) = false)
              refine W_skip ?_
              refine W_seq ?_
              refine W_seq ?_
              refine W_region ?_
              refine L_run (.plain rfl) rfl rfl (r_fieldb Try.underlying35 rfl (show _ = some 1 from rfl) rfl rfl (show _ = 0 from rfl)) ?_
              refine L_run (.plain rfl) rfl rfl (r_loadb rfl rfl (by (exact Bk.to (by assumption) (by (repeat (first | exact Sm.refl _ _ | (refine Sm.stepT (by assumption) (by intro hlt hsm; first | exact not_no | (intro he; have he2 : _ = _ := he; omega) | (intro he; have := he.1; omega) | exact bkm_not (by assumption) hsm rfl | exact owm_not (by assumption) hi hsm rfl | (intro he; have he2 : _ = _ := he; rw [he2] at hi; exact absurd hi (by assumption))) ?_)))))) (by first | assumption | (conv => lhs; simp only [List.getElem?_toArray, List.getElem?_cons_succ, List.getElem?_cons_zero]))) ?_
              refine L_run (.plain rfl) rfl rfl (r_eql rfl rfl) ?_
              refine L_nil ?_
              refine W_endF [1, 5, 7, 8] (fun f W => ∃ (S3 : Srv) (vs3 : Value) (R3 : RSrv) (rv3 : Value), True ∧ (SrvAt w0.heap.size W b bm vs3 S3 ∧ Bk W b7 (R3.row rv3) 31 ∧ Ow W w0.heap.size 52 12 rv3 R3.L.length (cellsC R3.L) ∧ Rel S3 R3 ∧ (S3.kept.length : Int) ≤ S3.most ∧ S3.most = most ∧ S3.st.length ≤ i + 1 ∧ Nw w0 W)) ?_ ?_
              · refine W_if rfl (fun h73 => ?_) (fun h73 => ?_)
                · refine W_seq ?_
                  refine W_region ?_
                  refine L_run (.plain rfl) rfl rfl (r_loadrow Try.underlying31 rfl rfl (by (exact Bk.to (by assumption) (by (repeat (first | exact Sm.refl _ _ | (refine Sm.stepT (by assumption) (by intro hlt hsm; first | exact not_no | (intro he; have he2 : _ = _ := he; omega) | (intro he; have := he.1; omega) | exact bkm_not (by assumption) hsm rfl | exact owm_not (by assumption) hi hsm rfl | (intro he; have he2 : _ = _ := he; rw [he2] at hi; exact absurd hi (by assumption))) ?_)))))) (by first | rfl | assumption)) ?_
                  refine L_run (.plain rfl) rfl rfl (r_fieldb Try.underlying35 rfl (show _ = some 8 from rfl) rfl rfl (show _ = 1 from rfl)) ?_
                  refine L_run (.plain rfl) rfl rfl (r_loadsub (us := [.int _ _, .int _ _, .int _ _, .int _ _, .int _ _, .string _, .int _ _, .string _]) Try.underlying33 rfl (show _ = some 8 from rfl) rfl (by (exact Bk.to (by assumption) (by (repeat (first | exact Sm.refl _ _ | (refine Sm.stepT (by assumption) (by intro hlt hsm; first | exact not_no | (intro he; have he2 : _ = _ := he; omega) | (intro he; have := he.1; omega) | exact bkm_not (by assumption) hsm rfl | exact owm_not (by assumption) hi hsm rfl | (intro he; have he2 : _ = _ := he; rw [he2] at hi; exact absurd hi (by assumption))) ?_)))))) rfl rfl) ?_
                  refine L_call (.plain rfl) rfl rfl (r_call Try.func11 rfl rfl rfl (by rfl)) (rrecv_walk w0.heap.size rv R a.m _ (by (exact Ow.to (by first | assumption | exact Ow.of (by assumption)) (fun i hi => by (repeat (first | exact Sm.refl _ _ | (refine Sm.stepT (by assumption) (by intro hlt hsm; first | exact not_no | (intro he; have he2 : _ = _ := he; omega) | (intro he; have := he.1; omega) | exact bkm_not (by assumption) hsm rfl | exact owm_not (by assumption) hi hsm rfl | (intro he; have he2 : _ = _ := he; rw [he2] at hi; exact absurd hi (by assumption))) ?_)))))) (by omega) (by omega) hao (by omega)) ?_
                  rintro v78 w9 ⟨rv', R', k, r, rfl, hrr, hoR', c9⟩
                  have hz9 := c9.size
                  obtain ⟨e1, e2, hRel'⟩ := rel_recv hRel hnod hrr
                  obtain ⟨f1, f2, f3, f4, f5⟩ := recv_facts S a.m
                  have f2' := f2 hkl
                  have hone := sl_one hoR'.sl
                  have hn7 : rv'.ownBlock ≠ some b7 := fun e => by obtain ⟨cs, hb⟩ := hoR'.bk e; exact Bk.ne hb (by (exact Bk.to (by assumption) (by (repeat (first | exact Sm.refl _ _ | (refine Sm.stepT (by assumption) (by intro hlt hsm; first | exact not_no | (intro he; have he2 : _ = _ := he; omega) | (intro he; have := he.1; omega) | exact bkm_not (by assumption) hsm rfl | exact owm_not (by assumption) hi hsm rfl | (intro he; have he2 : _ = _ := he; rw [he2] at hi; exact absurd hi (by assumption))) ?_))))) : Bk w9 b7 (R.row rv) 31) (by decide) rfl
                  refine L_run (.plain rfl) rfl rfl (r_move (by conv => lhs; whnf)) ?_
                  refine L_run (.plain rfl) rfl rfl (r_ext3_0 rfl) ?_
                  refine L_run (.plain rfl) rfl rfl (r_ext3_1 rfl) ?_
                  refine L_run (.plain rfl) rfl rfl (r_ext3_2 rfl) ?_
                  refine L_new (.plain rfl) rfl rfl (r_alloca rfl) (fun w10 b10 hb10 eb10 hs10 c10 => ?_)
                  refine L_new (.plain rfl) rfl rfl (r_alloca rfl) (fun w11 b12 hb12 eb11 hs11 c11 => ?_)
                  refine L_storerow (.plain rfl) rfl rfl (by (exact Bk.to (by assumption) (by (repeat (first | exact Sm.refl _ _ | (refine Sm.stepT (by assumption) (by intro hlt hsm; first | exact not_no | (intro he; have he2 : _ = _ := he; omega) | (intro he; have := he.1; omega) | exact bkm_not (by assumption) hsm rfl | exact owm_not (by assumption) hi hsm rfl | (intro he; have he2 : _ = _ := he; rw [he2] at hi; exact absurd hi (by assumption))) ?_)))))) (by first | rfl | (simp; done) | assumption) (by first | rfl | assumption) (by first | exact four_one (sl_one (Ow.sl (by assumption))) _ _ _ | rfl | (simp [Value.oneCell']; done)) (fun w12 hb12 hs12 c12 => ?_)
                  refine L_run (.plain rfl) rfl rfl (r_assign (v := .int _ _) rfl) ?_
                  refine L_storerow (.plain rfl) rfl rfl (by (exact Bk.to (by assumption) (by (repeat (first | exact Sm.refl _ _ | (refine Sm.stepT (by assumption) (by intro hlt hsm; first | exact not_no | (intro he; have he2 : _ = _ := he; omega) | (intro he; have := he.1; omega) | exact bkm_not (by assumption) hsm rfl | exact owm_not (by assumption) hi hsm rfl | (intro he; have he2 : _ = _ := he; rw [he2] at hi; exact absurd hi (by assumption))) ?_)))))) (by first | rfl | (simp; done) | assumption) (by first | rfl | assumption) (by first | exact four_one (sl_one (Ow.sl (by assumption))) _ _ _ | rfl | (simp [Value.oneCell']; done)) (fun w13 hb13 hs13 c13 => ?_)
                  refine L_nil ?_
                  refine W_seq ?_
                  refine W_region ?_
                  refine L_run (.plain rfl) rfl rfl (r_loadrow Try.underlying31 rfl rfl (by (exact Bk.to (by assumption) (by (repeat (first | exact Sm.refl _ _ | (refine Sm.stepT (by assumption) (by intro hlt hsm; first | exact not_no | (intro he; have he2 : _ = _ := he; omega) | (intro he; have := he.1; omega) | exact bkm_not (by assumption) hsm rfl | exact owm_not (by assumption) hi hsm rfl | (intro he; have he2 : _ = _ := he; rw [he2] at hi; exact absurd hi (by assumption))) ?_)))))) (by first | rfl | assumption)) ?_
                  have hAx := hA.nw (by (repeat (first | exact Ch.refl _ | assumption | (refine Ch.fresh ?_ (by assumption) (by intro i hi he; first | exact he | exact (not_no he).elim | exact Or.inl he | exact Or.inr (Or.inl he) | exact Or.inr (Or.inr he) | (exfalso; have he2 : _ = some i := he; have := own_base (by assumption) he2; omega) | (exfalso; have he2 : i = _ := he; omega) | (exfalso; have he2 : _ = some i := he; have := ow_base (by assumption) he2; omega) | (exfalso; have := he.1; omega) | (exfalso; have he2 : _ = some i := he; have := hlo _ he2; omega))))) : Nw _ w13)
                  have hbx : Bk w13 b7 (R.row rv) 31 := by (exact Bk.to (by assumption) (by (repeat (first | exact Sm.refl _ _ | (refine Sm.stepT (by assumption) (by intro hlt hsm; first | exact not_no | (intro he; have he2 : _ = _ := he; omega) | (intro he; have := he.1; omega) | exact bkm_not (by assumption) hsm rfl | exact owm_not (by assumption) hi hsm rfl | (intro he; have he2 : _ = _ := he; rw [he2] at hi; exact absurd hi (by assumption))) ?_)))))
                  refine L_storerow (.plain rfl) rfl rfl (by (exact Bk.to (by assumption) (by (repeat (first | exact Sm.refl _ _ | (refine Sm.stepT (by assumption) (by intro hlt hsm; first | exact not_no | (intro he; have he2 : _ = _ := he; omega) | (intro he; have := he.1; omega) | exact bkm_not (by assumption) hsm rfl | exact owm_not (by assumption) hi hsm rfl | (intro he; have he2 : _ = _ := he; rw [he2] at hi; exact absurd hi (by assumption))) ?_)))))) (by first | rfl | (simp; done) | assumption) (by first | rfl | assumption) (by first | exact four_one (sl_one (Ow.sl (by assumption))) _ _ _ | rfl | (simp [Value.oneCell']; done)) (fun w14 hb14 hs14 c14 => ?_)
                  have hA8 := hAx.bk7 hbx (by decide) (by decide) (by assumption)
                  refine L_nil ?_
                  refine W_seq ?_
                  refine W_region ?_
                  refine L_run (.plain rfl) rfl rfl (r_move (v := .pointer _) rfl) ?_
                  refine L_run (.plain rfl) rfl rfl (r_fieldb Try.underlying35 rfl (show _ = some 8 from rfl) rfl rfl (show _ = 1 from rfl)) ?_
                  refine L_run (.plain rfl) rfl rfl (r_loadsub (us := [.int _ _, .int _ _, .int _ _, .int _ _, .int _ _, .string _, .int _ _, .string _]) Try.underlying33 rfl (show _ = some 8 from rfl) rfl (by (exact Bk.to (by assumption) (by (repeat (first | exact Sm.refl _ _ | (refine Sm.stepT (by assumption) (by intro hlt hsm; first | exact not_no | (intro he; have he2 : _ = _ := he; omega) | (intro he; have := he.1; omega) | exact bkm_not (by assumption) hsm rfl | exact owm_not (by assumption) hi hsm rfl | (intro he; have he2 : _ = _ := he; rw [he2] at hi; exact absurd hi (by assumption))) ?_)))))) rfl rfl) ?_
                  refine L_call (.plain rfl) rfl rfl (r_call Try.func12 rfl rfl rfl (by rfl)) (recv_use w0.heap.size b bm _ _ ((recv_eta S a.m).trans (by rw [e1, e2]) : recv S a.m = ((recv S a.m).1, k, r)) (hA8.nw (by (repeat (first | exact Ch.refl _ | assumption | (refine Ch.fresh ?_ (by assumption) (by intro i hi he; first | exact he | exact (not_no he).elim | exact Or.inl he | exact Or.inr (Or.inl he) | exact Or.inr (Or.inr he) | (exfalso; have he2 : _ = some i := he; have := own_base (by assumption) he2; omega) | (exfalso; have he2 : i = _ := he; omega) | (exfalso; have he2 : _ = some i := he; have := ow_base (by assumption) he2; omega) | (exfalso; have := he.1; omega) | (exfalso; have he2 : _ = some i := he; have := hlo _ he2; omega))))))) (by omega) (by omega) (by omega)) ?_
                  rintro v87 w15 ⟨vs3, rfl, hA3', c15⟩
                  have hz15 := c15.size
                  refine L_run (.plain rfl) rfl rfl (r_move (by conv => lhs; whnf)) ?_
                  refine L_run (.plain rfl) rfl rfl (r_ext2_0 rfl) ?_
                  refine L_run (.plain rfl) rfl rfl (r_ext2_1 rfl) ?_
                  refine L_new (.plain rfl) rfl rfl (r_alloca rfl) (fun w16 b14 hb14 eb16 hs16 c16 => ?_)
                  refine L_run (.plain rfl) rfl rfl (r_assign (v := .int _ _) rfl) ?_
                  refine L_storerow (.plain rfl) rfl rfl (by (exact Bk.to (by assumption) (by (repeat (first | exact Sm.refl _ _ | (refine Sm.stepT (by assumption) (by intro hlt hsm; first | exact not_no | (intro he; have he2 : _ = _ := he; omega) | (intro he; have := he.1; omega) | exact bkm_not (by assumption) hsm rfl | exact owm_not (by assumption) hi hsm rfl | (intro he; have he2 : _ = _ := he; rw [he2] at hi; exact absurd hi (by assumption))) ?_)))))) (by first | rfl | (simp; done) | assumption) (by first | rfl | assumption) (by first | exact four_one (sl_one (Ow.sl (by assumption))) _ _ _ | rfl | (simp [Value.oneCell']; done)) (fun w17 hb17 hs17 c17 => ?_)
                  refine L_nil ?_
                  refine W_seq ?_
                  refine W_region ?_
                  refine L_run (.plain rfl) rfl rfl (r_move (v := .int _ _) rfl) ?_
                  refine L_run (.plain rfl) rfl rfl (r_move (v := .int _ _) rfl) ?_
                  refine L_run (.plain rfl) rfl rfl (r_neq rfl rfl) ?_
                  refine L_run (.plain rfl) rfl rfl (r_move (v := .bool _) rfl) ?_
                  refine L_case (d := 93) rfl (fun h93 => ?_) (fun h93 => ?_)
                  · omega
                  · refine L_run (.yes 3 false rfl rfl) rfl rfl (r_loadrow Try.underlying33 rfl rfl (by (exact Bk.to (by assumption) (by (repeat (first | exact Sm.refl _ _ | (refine Sm.stepT (by assumption) (by intro hlt hsm; first | exact not_no | (intro he; have he2 : _ = _ := he; omega) | (intro he; have := he.1; omega) | exact bkm_not (by assumption) hsm rfl | exact owm_not (by assumption) hi hsm rfl | (intro he; have he2 : _ = _ := he; rw [he2] at hi; exact absurd hi (by assumption))) ?_)))))) (by first | rfl | assumption)) ?_
                    refine L_run (.yes 3 false rfl rfl) rfl rfl (r_loadrow Try.underlying33 rfl rfl (by (exact Bk.to (by assumption) (by (repeat (first | exact Sm.refl _ _ | (refine Sm.stepT (by assumption) (by intro hlt hsm; first | exact not_no | (intro he; have he2 : _ = _ := he; omega) | (intro he; have := he.1; omega) | exact bkm_not (by assumption) hsm rfl | exact owm_not (by assumption) hi hsm rfl | (intro he; have he2 : _ = _ := he; rw [he2] at hi; exact absurd hi (by assumption))) ?_)))))) (by first | rfl | assumption)) ?_
                    refine L_run (.yes 3 false rfl rfl) rfl rfl (r_neqR (xs := #[.int _ _, .int _ _, .int _ _, .int _ _, .int _ _, .string _, .int _ _, .string _]) (ys := #[.int _ _, .int _ _, .int _ _, .int _ _, .int _ _, .string _, .int _ _, .string _]) rfl rfl (by kernel_rfl) (eqMsg _ _ _ _ _ _ _ _ _ _ _ _ _ _ _ _ _)) ?_
                    refine L_run (.plain rfl) rfl rfl (r_pick_f (v := .bool _) rfl rfl) ?_
                    refine L_nil ?_
                    refine W_if rfl (fun h97 => ?_) (fun h97 => ?_)
                    · exfalso; exact h97 ⟨rfl, rfl, rfl, rfl, rfl, rfl, rfl, rfl⟩
                    · obtain ⟨S4', hS4'⟩ : ∃ x, x = (recv S a.m).1 := ⟨_, rfl⟩
                      rw [← hS4'] at hRel' hA3' f1 f2' f3
                      obtain ⟨vs4', hvs4'⟩ : ∃ x, x = vs3 := ⟨_, rfl⟩
                      rw [← hvs4'] at hA3'
                      refine W_skip ?_
                      refine ⟨⟨rfl, rfl, rfl, rfl, trivial⟩, S4', vs4', R', rv', trivial, ?_⟩
                      first
                        | exact ⟨hA3'.nw (by (repeat (first | exact Ch.refl _ | assumption | (refine Ch.fresh ?_ (by assumption) (by intro i hi he; first | exact he | exact (not_no he).elim | exact Or.inl he | exact Or.inr (Or.inl he) | exact Or.inr (Or.inr he) | (exfalso; have he2 : _ = some i := he; have := own_base (by assumption) he2; omega) | (exfalso; have he2 : i = _ := he; omega) | (exfalso; have he2 : _ = some i := he; have := ow_base (by assumption) he2; omega) | (exfalso; have := he.1; omega) | (exfalso; have he2 : _ = some i := he; have := hlo _ he2; omega)))))), by (exact Bk.to (by assumption) (by (repeat (first | exact Sm.refl _ _ | (refine Sm.stepT (by assumption) (by intro hlt hsm; first | exact not_no | (intro he; have he2 : _ = _ := he; omega) | (intro he; have := he.1; omega) | exact bkm_not (by assumption) hsm rfl | exact owm_not (by assumption) hi hsm rfl | (intro he; have he2 : _ = _ := he; rw [he2] at hi; exact absurd hi (by assumption))) ?_))))), by (exact Ow.to (by first | assumption | exact Ow.of (by assumption)) (fun i hi => by (repeat (first | exact Sm.refl _ _ | (refine Sm.stepT (by assumption) (by intro hlt hsm; first | exact not_no | (intro he; have he2 : _ = _ := he; omega) | (intro he; have := he.1; omega) | exact bkm_not (by assumption) hsm rfl | exact owm_not (by assumption) hi hsm rfl | (intro he; have he2 : _ = _ := he; rw [he2] at hi; exact absurd hi (by assumption))) ?_))))), hRel', by omega, by omega, by omega, by (repeat (first | exact Ch.refl _ | assumption | (refine Ch.fresh ?_ (by assumption) (by intro i hi he; first | exact he | exact (not_no he).elim | exact Or.inl he | exact Or.inr (Or.inl he) | exact Or.inr (Or.inr he) | (exfalso; have he2 : _ = some i := he; have := own_base (by assumption) he2; omega) | (exfalso; have he2 : i = _ := he; omega) | (exfalso; have he2 : _ = some i := he; have := ow_base (by assumption) he2; omega) | (exfalso; have := he.1; omega) | (exfalso; have he2 : _ = some i := he; have := hlo _ he2; omega)))))⟩
                · refine W_seq ?_
                  refine W_region ?_
                  refine L_run (.plain rfl) rfl rfl (r_loadrow Try.underlying31 rfl rfl (by (exact Bk.to (by assumption) (by (repeat (first | exact Sm.refl _ _ | (refine Sm.stepT (by assumption) (by intro hlt hsm; first | exact not_no | (intro he; have he2 : _ = _ := he; omega) | (intro he; have := he.1; omega) | exact bkm_not (by assumption) hsm rfl | exact owm_not (by assumption) hi hsm rfl | (intro he; have he2 : _ = _ := he; rw [he2] at hi; exact absurd hi (by assumption))) ?_)))))) (by first | rfl | assumption)) ?_
                  refine L_run (.plain rfl) rfl rfl (r_fieldb Try.underlying35 rfl (show _ = some 8 from rfl) rfl rfl (show _ = 1 from rfl)) ?_
                  refine L_run (.plain rfl) rfl rfl (r_fieldb Try.underlying33 rfl (show _ = some 1 from rfl) rfl rfl (show _ = 2 from rfl)) ?_
                  refine L_run (.plain rfl) rfl rfl (r_loadb rfl rfl (by (exact Bk.to (by assumption) (by (repeat (first | exact Sm.refl _ _ | (refine Sm.stepT (by assumption) (by intro hlt hsm; first | exact not_no | (intro he; have he2 : _ = _ := he; omega) | (intro he; have := he.1; omega) | exact bkm_not (by assumption) hsm rfl | exact owm_not (by assumption) hi hsm rfl | (intro he; have he2 : _ = _ := he; rw [he2] at hi; exact absurd hi (by assumption))) ?_)))))) (by first | assumption | (conv => lhs; simp only [List.getElem?_toArray, List.getElem?_cons_succ, List.getElem?_cons_zero]))) ?_
                  refine L_run (.plain rfl) rfl rfl (r_fieldb Try.underlying35 rfl (show _ = some 8 from rfl) rfl rfl (show _ = 1 from rfl)) ?_
                  refine L_run (.plain rfl) rfl rfl (r_fieldb Try.underlying33 rfl (show _ = some 1 from rfl) rfl rfl (show _ = 3 from rfl)) ?_
                  refine L_run (.plain rfl) rfl rfl (r_loadb rfl rfl (by (exact Bk.to (by assumption) (by (repeat (first | exact Sm.refl _ _ | (refine Sm.stepT (by assumption) (by intro hlt hsm; first | exact not_no | (intro he; have he2 : _ = _ := he; omega) | (intro he; have := he.1; omega) | exact bkm_not (by assumption) hsm rfl | exact owm_not (by assumption) hi hsm rfl | (intro he; have he2 : _ = _ := he; rw [he2] at hi; exact absurd hi (by assumption))) ?_)))))) (by first | assumption | (conv => lhs; simp only [List.getElem?_toArray, List.getElem?_cons_succ, List.getElem?_cons_zero]))) ?_
                  refine L_run (.plain rfl) rfl rfl (r_fieldb Try.underlying35 rfl (show _ = some 8 from rfl) rfl rfl (show _ = 1 from rfl)) ?_
                  refine L_run (.plain rfl) rfl rfl (r_fieldb Try.underlying33 rfl (show _ = some 1 from rfl) rfl rfl (show _ = 7 from rfl)) ?_
                  refine L_run (.plain rfl) rfl rfl (r_loadb rfl rfl (by (exact Bk.to (by assumption) (by (repeat (first | exact Sm.refl _ _ | (refine Sm.stepT (by assumption) (by intro hlt hsm; first | exact not_no | (intro he; have he2 : _ = _ := he; omega) | (intro he; have := he.1; omega) | exact bkm_not (by assumption) hsm rfl | exact owm_not (by assumption) hi hsm rfl | (intro he; have he2 : _ = _ := he; rw [he2] at hi; exact absurd hi (by assumption))) ?_)))))) (by first | assumption | (conv => lhs; simp only [List.getElem?_toArray, List.getElem?_cons_succ, List.getElem?_cons_zero]))) ?_
                  refine L_run (.plain rfl) rfl rfl (r_fieldb Try.underlying35 rfl (show _ = some 8 from rfl) rfl rfl (show _ = 1 from rfl)) ?_
                  refine L_run (.plain rfl) rfl rfl (r_fieldb Try.underlying33 rfl (show _ = some 1 from rfl) rfl rfl (show _ = 8 from rfl)) ?_
                  refine L_run (.plain rfl) rfl rfl (r_loadb rfl rfl (by (exact Bk.to (by assumption) (by (repeat (first | exact Sm.refl _ _ | (refine Sm.stepT (by assumption) (by intro hlt hsm; first | exact not_no | (intro he; have he2 : _ = _ := he; omega) | (intro he; have := he.1; omega) | exact bkm_not (by assumption) hsm rfl | exact owm_not (by assumption) hi hsm rfl | (intro he; have he2 : _ = _ := he; rw [he2] at hi; exact absurd hi (by assumption))) ?_)))))) (by first | assumption | (conv => lhs; simp only [List.getElem?_toArray, List.getElem?_cons_succ, List.getElem?_cons_zero]))) ?_
                  refine L_call (.plain rfl) rfl rfl (r_call Try.func13 rfl rfl rfl (by rfl)) (rfin_walk w0.heap.size rv R a.m.life a.m.seq a.m.way a.m.body _ (by (exact Ow.to (by first | assumption | exact Ow.of (by assumption)) (fun i hi => by (repeat (first | exact Sm.refl _ _ | (refine Sm.stepT (by assumption) (by intro hlt hsm; first | exact not_no | (intro he; have he2 : _ = _ := he; omega) | (intro he; have := he.1; omega) | exact bkm_not (by assumption) hsm rfl | exact owm_not (by assumption) hi hsm rfl | (intro he; have he2 : _ = _ := he; rw [he2] at hi; exact absurd hi (by assumption))) ?_)))))) (by omega) (by omega) hao.life hao.seq) ?_
                  rintro v112 w18 ⟨rv', R', r, e, rfl, hrr, hoR', c18⟩
                  have hz18 := c18.size
                  obtain ⟨e1, e2, hRel'⟩ := rel_fin hRel hnod hrr
                  obtain ⟨f1, f2', f3, f4, f5⟩ := fin_facts S a.m.life a.m.seq a.m.way a.m.body
                  have f3l := congrArg List.length f3
                  have hone := sl_one hoR'.sl
                  have hn7 : rv'.ownBlock ≠ some b7 := fun e => by obtain ⟨cs, hb⟩ := hoR'.bk e; exact Bk.ne hb (by (exact Bk.to (by assumption) (by (repeat (first | exact Sm.refl _ _ | (refine Sm.stepT (by assumption) (by intro hlt hsm; first | exact not_no | (intro he; have he2 : _ = _ := he; omega) | (intro he; have := he.1; omega) | exact bkm_not (by assumption) hsm rfl | exact owm_not (by assumption) hi hsm rfl | (intro he; have he2 : _ = _ := he; rw [he2] at hi; exact absurd hi (by assumption))) ?_))))) : Bk w18 b7 (R.row rv) 31) (by decide) rfl
                  refine L_run (.plain rfl) rfl rfl (r_move (by conv => lhs; whnf)) ?_
                  refine L_run (.plain rfl) rfl rfl (r_ext3_0 rfl) ?_
                  refine L_run (.plain rfl) rfl rfl (r_ext3_1 rfl) ?_
                  refine L_run (.plain rfl) rfl rfl (r_ext3_2 rfl) ?_
                  refine L_new (.plain rfl) rfl rfl (r_alloca rfl) (fun w19 b15 hb15 eb19 hs19 c19 => ?_)
                  refine L_new (.plain rfl) rfl rfl (r_alloca rfl) (fun w20 b16 hb16 eb20 hs20 c20 => ?_)
                  refine L_storerow (.plain rfl) rfl rfl (by (exact Bk.to (by assumption) (by (repeat (first | exact Sm.refl _ _ | (refine Sm.stepT (by assumption) (by intro hlt hsm; first | exact not_no | (intro he; have he2 : _ = _ := he; omega) | (intro he; have := he.1; omega) | exact bkm_not (by assumption) hsm rfl | exact owm_not (by assumption) hi hsm rfl | (intro he; have he2 : _ = _ := he; rw [he2] at hi; exact absurd hi (by assumption))) ?_)))))) (by first | rfl | (simp; done) | assumption) (by first | rfl | assumption) (by first | exact four_one (sl_one (Ow.sl (by assumption))) _ _ _ | rfl | (simp [Value.oneCell']; done)) (fun w21 hb21 hs21 c21 => ?_)
                  refine L_storerow (.plain rfl) rfl rfl (by (exact Bk.to (by assumption) (by (repeat (first | exact Sm.refl _ _ | (refine Sm.stepT (by assumption) (by intro hlt hsm; first | exact not_no | (intro he; have he2 : _ = _ := he; omega) | (intro he; have := he.1; omega) | exact bkm_not (by assumption) hsm rfl | exact owm_not (by assumption) hi hsm rfl | (intro he; have he2 : _ = _ := he; rw [he2] at hi; exact absurd hi (by assumption))) ?_)))))) (by first | rfl | (simp; done) | assumption) (by first | rfl | assumption) (by first | exact four_one (sl_one (Ow.sl (by assumption))) _ _ _ | rfl | (simp [Value.oneCell']; done)) (fun w22 hb22 hs22 c22 => ?_)
                  refine L_run (.plain rfl) rfl rfl (r_assign (v := .int _ _) rfl) ?_
                  refine L_nil ?_
                  refine W_seq ?_
                  refine W_region ?_
                  refine L_run (.plain rfl) rfl rfl (r_loadrow Try.underlying31 rfl rfl (by (exact Bk.to (by assumption) (by (repeat (first | exact Sm.refl _ _ | (refine Sm.stepT (by assumption) (by intro hlt hsm; first | exact not_no | (intro he; have he2 : _ = _ := he; omega) | (intro he; have := he.1; omega) | exact bkm_not (by assumption) hsm rfl | exact owm_not (by assumption) hi hsm rfl | (intro he; have he2 : _ = _ := he; rw [he2] at hi; exact absurd hi (by assumption))) ?_)))))) (by first | rfl | assumption)) ?_
                  have hAx := hA.nw (by (repeat (first | exact Ch.refl _ | assumption | (refine Ch.fresh ?_ (by assumption) (by intro i hi he; first | exact he | exact (not_no he).elim | exact Or.inl he | exact Or.inr (Or.inl he) | exact Or.inr (Or.inr he) | (exfalso; have he2 : _ = some i := he; have := own_base (by assumption) he2; omega) | (exfalso; have he2 : i = _ := he; omega) | (exfalso; have he2 : _ = some i := he; have := ow_base (by assumption) he2; omega) | (exfalso; have := he.1; omega) | (exfalso; have he2 : _ = some i := he; have := hlo _ he2; omega))))) : Nw _ w22)
                  have hbx : Bk w22 b7 (R.row rv) 31 := by (exact Bk.to (by assumption) (by (repeat (first | exact Sm.refl _ _ | (refine Sm.stepT (by assumption) (by intro hlt hsm; first | exact not_no | (intro he; have he2 : _ = _ := he; omega) | (intro he; have := he.1; omega) | exact bkm_not (by assumption) hsm rfl | exact owm_not (by assumption) hi hsm rfl | (intro he; have he2 : _ = _ := he; rw [he2] at hi; exact absurd hi (by assumption))) ?_)))))
                  refine L_storerow (.plain rfl) rfl rfl (by (exact Bk.to (by assumption) (by (repeat (first | exact Sm.refl _ _ | (refine Sm.stepT (by assumption) (by intro hlt hsm; first | exact not_no | (intro he; have he2 : _ = _ := he; omega) | (intro he; have := he.1; omega) | exact bkm_not (by assumption) hsm rfl | exact owm_not (by assumption) hi hsm rfl | (intro he; have he2 : _ = _ := he; rw [he2] at hi; exact absurd hi (by assumption))) ?_)))))) (by first | rfl | (simp; done) | assumption) (by first | rfl | assumption) (by first | exact four_one (sl_one (Ow.sl (by assumption))) _ _ _ | rfl | (simp [Value.oneCell']; done)) (fun w23 hb23 hs23 c23 => ?_)
                  have hA8 := hAx.bk7 hbx (by decide) (by decide) (by assumption)
                  refine L_nil ?_
                  refine W_seq ?_
                  refine W_region ?_
                  refine L_run (.plain rfl) rfl rfl (r_move (v := .pointer _) rfl) ?_
                  refine L_run (.plain rfl) rfl rfl (r_fieldb Try.underlying35 rfl (show _ = some 8 from rfl) rfl rfl (show _ = 1 from rfl)) ?_
                  refine L_run (.plain rfl) rfl rfl (r_fieldb Try.underlying33 rfl (show _ = some 1 from rfl) rfl rfl (show _ = 2 from rfl)) ?_
                  refine L_run (.plain rfl) rfl rfl (r_loadb rfl rfl (by (exact Bk.to (by assumption) (by (repeat (first | exact Sm.refl _ _ | (refine Sm.stepT (by assumption) (by intro hlt hsm; first | exact not_no | (intro he; have he2 : _ = _ := he; omega) | (intro he; have := he.1; omega) | exact bkm_not (by assumption) hsm rfl | exact owm_not (by assumption) hi hsm rfl | (intro he; have he2 : _ = _ := he; rw [he2] at hi; exact absurd hi (by assumption))) ?_)))))) (by first | assumption | (conv => lhs; simp only [List.getElem?_toArray, List.getElem?_cons_succ, List.getElem?_cons_zero]))) ?_
                  refine L_run (.plain rfl) rfl rfl (r_fieldb Try.underlying35 rfl (show _ = some 8 from rfl) rfl rfl (show _ = 1 from rfl)) ?_
                  refine L_run (.plain rfl) rfl rfl (r_fieldb Try.underlying33 rfl (show _ = some 1 from rfl) rfl rfl (show _ = 3 from rfl)) ?_
                  refine L_run (.plain rfl) rfl rfl (r_loadb rfl rfl (by (exact Bk.to (by assumption) (by (repeat (first | exact Sm.refl _ _ | (refine Sm.stepT (by assumption) (by intro hlt hsm; first | exact not_no | (intro he; have he2 : _ = _ := he; omega) | (intro he; have := he.1; omega) | exact bkm_not (by assumption) hsm rfl | exact owm_not (by assumption) hi hsm rfl | (intro he; have he2 : _ = _ := he; rw [he2] at hi; exact absurd hi (by assumption))) ?_)))))) (by first | assumption | (conv => lhs; simp only [List.getElem?_toArray, List.getElem?_cons_succ, List.getElem?_cons_zero]))) ?_
                  refine L_run (.plain rfl) rfl rfl (r_fieldb Try.underlying35 rfl (show _ = some 8 from rfl) rfl rfl (show _ = 1 from rfl)) ?_
                  refine L_run (.plain rfl) rfl rfl (r_fieldb Try.underlying33 rfl (show _ = some 1 from rfl) rfl rfl (show _ = 7 from rfl)) ?_
                  refine L_run (.plain rfl) rfl rfl (r_loadb rfl rfl (by (exact Bk.to (by assumption) (by (repeat (first | exact Sm.refl _ _ | (refine Sm.stepT (by assumption) (by intro hlt hsm; first | exact not_no | (intro he; have he2 : _ = _ := he; omega) | (intro he; have := he.1; omega) | exact bkm_not (by assumption) hsm rfl | exact owm_not (by assumption) hi hsm rfl | (intro he; have he2 : _ = _ := he; rw [he2] at hi; exact absurd hi (by assumption))) ?_)))))) (by first | assumption | (conv => lhs; simp only [List.getElem?_toArray, List.getElem?_cons_succ, List.getElem?_cons_zero]))) ?_
                  refine L_run (.plain rfl) rfl rfl (r_fieldb Try.underlying35 rfl (show _ = some 8 from rfl) rfl rfl (show _ = 1 from rfl)) ?_
                  refine L_run (.plain rfl) rfl rfl (r_fieldb Try.underlying33 rfl (show _ = some 1 from rfl) rfl rfl (show _ = 8 from rfl)) ?_
                  refine L_run (.plain rfl) rfl rfl (r_loadb rfl rfl (by (exact Bk.to (by assumption) (by (repeat (first | exact Sm.refl _ _ | (refine Sm.stepT (by assumption) (by intro hlt hsm; first | exact not_no | (intro he; have he2 : _ = _ := he; omega) | (intro he; have := he.1; omega) | exact bkm_not (by assumption) hsm rfl | exact owm_not (by assumption) hi hsm rfl | (intro he; have he2 : _ = _ := he; rw [he2] at hi; exact absurd hi (by assumption))) ?_)))))) (by first | assumption | (conv => lhs; simp only [List.getElem?_toArray, List.getElem?_cons_succ, List.getElem?_cons_zero]))) ?_
                  refine L_call (.plain rfl) rfl rfl (r_call Try.func14 rfl rfl rfl (by rfl)) (fin_use w0.heap.size b bm _ _ ((fin_eta S a.m.life a.m.seq a.m.way a.m.body).trans (by rw [e1, e2]) : fin S a.m.life a.m.seq a.m.way a.m.body = ((fin S a.m.life a.m.seq a.m.way a.m.body).1, r, e)) (hA8.nw (by (repeat (first | exact Ch.refl _ | assumption | (refine Ch.fresh ?_ (by assumption) (by intro i hi he; first | exact he | exact (not_no he).elim | exact Or.inl he | exact Or.inr (Or.inl he) | exact Or.inr (Or.inr he) | (exfalso; have he2 : _ = some i := he; have := own_base (by assumption) he2; omega) | (exfalso; have he2 : i = _ := he; omega) | (exfalso; have he2 : _ = some i := he; have := ow_base (by assumption) he2; omega) | (exfalso; have := he.1; omega) | (exfalso; have he2 : _ = some i := he; have := hlo _ he2; omega))))))) (by omega)) ?_
                  rintro v131 w24 ⟨rfl, hA3', c24⟩
                  have hz24 := c24.size
                  refine L_run (.plain rfl) rfl rfl (r_move (by conv => lhs; whnf)) ?_
                  refine L_run (.plain rfl) rfl rfl (r_ext2_0 rfl) ?_
                  refine L_run (.plain rfl) rfl rfl (r_ext2_1 rfl) ?_
                  refine L_new (.plain rfl) rfl rfl (r_alloca rfl) (fun w25 b18 hb18 eb25 hs25 c25 => ?_)
                  refine L_storerow (.plain rfl) rfl rfl (by (exact Bk.to (by assumption) (by (repeat (first | exact Sm.refl _ _ | (refine Sm.stepT (by assumption) (by intro hlt hsm; first | exact not_no | (intro he; have he2 : _ = _ := he; omega) | (intro he; have := he.1; omega) | exact bkm_not (by assumption) hsm rfl | exact owm_not (by assumption) hi hsm rfl | (intro he; have he2 : _ = _ := he; rw [he2] at hi; exact absurd hi (by assumption))) ?_)))))) (by first | rfl | (simp; done) | assumption) (by first | rfl | assumption) (by first | exact four_one (sl_one (Ow.sl (by assumption))) _ _ _ | rfl | (simp [Value.oneCell']; done)) (fun w26 hb26 hs26 c26 => ?_)
                  refine L_run (.plain rfl) rfl rfl (r_assign (v := .int _ _) rfl) ?_
                  refine L_nil ?_
                  refine W_seq ?_
                  refine W_region ?_
                  refine L_run (.plain rfl) rfl rfl (r_loadrow Try.underlying33 rfl rfl (by (exact Bk.to (by assumption) (by (repeat (first | exact Sm.refl _ _ | (refine Sm.stepT (by assumption) (by intro hlt hsm; first | exact not_no | (intro he; have he2 : _ = _ := he; omega) | (intro he; have := he.1; omega) | exact bkm_not (by assumption) hsm rfl | exact owm_not (by assumption) hi hsm rfl | (intro he; have he2 : _ = _ := he; rw [he2] at hi; exact absurd hi (by assumption))) ?_)))))) (by first | rfl | assumption)) ?_
                  refine L_run (.plain rfl) rfl rfl (r_loadrow Try.underlying33 rfl rfl (by (exact Bk.to (by assumption) (by (repeat (first | exact Sm.refl _ _ | (refine Sm.stepT (by assumption) (by intro hlt hsm; first | exact not_no | (intro he; have he2 : _ = _ := he; omega) | (intro he; have := he.1; omega) | exact bkm_not (by assumption) hsm rfl | exact owm_not (by assumption) hi hsm rfl | (intro he; have he2 : _ = _ := he; rw [he2] at hi; exact absurd hi (by assumption))) ?_)))))) (by first | rfl | assumption)) ?_
                  refine L_run (.plain rfl) rfl rfl (r_neqR (xs := #[.int _ _, .int _ _, .int _ _, .int _ _, .int _ _, .string _, .int _ _, .string _]) (ys := #[.int _ _, .int _ _, .int _ _, .int _ _, .int _ _, .string _, .int _ _, .string _]) rfl rfl (by kernel_rfl) (eqMsg _ _ _ _ _ _ _ _ _ _ _ _ _ _ _ _ _)) ?_
                  refine L_run (.plain rfl) rfl rfl (r_move (v := .bool _) rfl) ?_
                  refine L_case (d := 137) rfl (fun h137 => ?_) (fun h137 => ?_)
                  · exfalso; exact h137 ⟨rfl, rfl, rfl, rfl, rfl, rfl, rfl, rfl⟩
                  · refine L_run (.yes 3 false rfl rfl) rfl rfl (r_move (v := .int _ _) rfl) ?_
                    refine L_run (.yes 3 false rfl rfl) rfl rfl (r_move (v := .int _ _) rfl) ?_
                    refine L_run (.yes 3 false rfl rfl) rfl rfl (r_neq rfl rfl) ?_
                    refine L_run (.plain rfl) rfl rfl (r_pick_f (v := .bool _) rfl rfl) ?_
                    refine L_nil ?_
                    refine W_if rfl (fun h141 => ?_) (fun h141 => ?_)
                    · omega
                    · obtain ⟨S4', hS4'⟩ : ∃ x, x = (fin S a.m.life a.m.seq a.m.way a.m.body).1 := ⟨_, rfl⟩
                      rw [← hS4'] at hRel' hA3' f1 f2' f3l
                      obtain ⟨vs4', hvs4'⟩ : ∃ x, x = vs := ⟨_, rfl⟩
                      rw [← hvs4'] at hA3'
                      refine W_skip ?_
                      refine ⟨⟨rfl, rfl, rfl, rfl, trivial⟩, S4', vs4', R', rv', trivial, ?_⟩
                      first
                        | exact ⟨hA3'.nw (by (repeat (first | exact Ch.refl _ | assumption | (refine Ch.fresh ?_ (by assumption) (by intro i hi he; first | exact he | exact (not_no he).elim | exact Or.inl he | exact Or.inr (Or.inl he) | exact Or.inr (Or.inr he) | (exfalso; have he2 : _ = some i := he; have := own_base (by assumption) he2; omega) | (exfalso; have he2 : i = _ := he; omega) | (exfalso; have he2 : _ = some i := he; have := ow_base (by assumption) he2; omega) | (exfalso; have := he.1; omega) | (exfalso; have he2 : _ = some i := he; have := hlo _ he2; omega)))))), by (exact Bk.to (by assumption) (by (repeat (first | exact Sm.refl _ _ | (refine Sm.stepT (by assumption) (by intro hlt hsm; first | exact not_no | (intro he; have he2 : _ = _ := he; omega) | (intro he; have := he.1; omega) | exact bkm_not (by assumption) hsm rfl | exact owm_not (by assumption) hi hsm rfl | (intro he; have he2 : _ = _ := he; rw [he2] at hi; exact absurd hi (by assumption))) ?_))))), by (exact Ow.to (by first | assumption | exact Ow.of (by assumption)) (fun i hi => by (repeat (first | exact Sm.refl _ _ | (refine Sm.stepT (by assumption) (by intro hlt hsm; first | exact not_no | (intro he; have he2 : _ = _ := he; omega) | (intro he; have := he.1; omega) | exact bkm_not (by assumption) hsm rfl | exact owm_not (by assumption) hi hsm rfl | (intro he; have he2 : _ = _ := he; rw [he2] at hi; exact absurd hi (by assumption))) ?_))))), hRel', by omega, by omega, by omega, by (repeat (first | exact Ch.refl _ | assumption | (refine Ch.fresh ?_ (by assumption) (by intro i hi he; first | exact he | exact (not_no he).elim | exact Or.inl he | exact Or.inr (Or.inl he) | exact Or.inr (Or.inr he) | (exfalso; have he2 : _ = some i := he; have := own_base (by assumption) he2; omega) | (exfalso; have he2 : i = _ := he; omega) | (exfalso; have he2 : _ = some i := he; have := ow_base (by assumption) he2; omega) | (exfalso; have := he.1; omega) | (exfalso; have he2 : _ = some i := he; have := hlo _ he2; omega)))))⟩
              rintro gct73 w27 ⟨S3, vs3, R3, rv3, -, hCt73⟩
              obtain ⟨hA3, hbR3, hoR3, hRel3, hkl3, hmo3, hsl3, hnw3⟩ := hCt73
              have hz3 := hnw3.size
              have hrl3 : R3.L.length = S3.st.length := by rw [hRel3.st, List.length_map]
              have hkn3 : S3.kept.length = keptN R3.L := by rw [hRel3.kept, keptOf_len]
              have hli3 := hRel3.life
              have hfl3 := hRel3.floor
              clear hSx hvx hRx hrx
              obtain ⟨Sx, hSx⟩ : ∃ x, x = S3 := ⟨_, rfl⟩
              obtain ⟨vx, hvx⟩ : ∃ x, x = vs3 := ⟨_, rfl⟩
              obtain ⟨Rx, hRx⟩ : ∃ x, x = R3 := ⟨_, rfl⟩
              obtain ⟨rx, hrx⟩ : ∃ x, x = rv3 := ⟨_, rfl⟩
              refine W_seq ?_
              refine W_draw (fun W => Bk W b7 (R3.row rv3) 31) 19 (m := 19) (by kernel_rfl) rfl (fun w28 c28 hs28 => ?_)
              refine held (by (exact Bk.to (by assumption) (by (repeat (first | exact Sm.refl _ _ | (refine Sm.stepT (by assumption) (by intro hlt hsm; first | exact not_no | (intro he; have he2 : _ = _ := he; omega) | (intro he; have := he.1; omega) | exact bkm_not (by assumption) hsm rfl | exact owm_not (by assumption) hi hsm rfl | (intro he; have he2 : _ = _ := he; rw [he2] at hi; exact absurd hi (by assumption))) ?_)))))) (fun hS => ?_)
              refine D_take 0 rfl (by kernel_rfl) (by kernel_rfl) (by kernel_rfl) (by kernel_rfl) (.plain rfl) rfl rfl (by assumption) (fun W hW => r_move (v := .pointer _) rfl) ?_
              refine D_take 2 rfl (by kernel_rfl) (by kernel_rfl) (by kernel_rfl) (by kernel_rfl) (.plain rfl) rfl rfl (by assumption) (fun W hW => r_loadrow Try.underlying31 rfl rfl (by exact hW) (by first | rfl | assumption)) ?_
              refine D_ev 1 (by kernel_rfl) rfl ?_
              refine L_call (.plain rfl) rfl rfl (r_call Try.func15 rfl rfl rfl (by rfl)) (kept_walk w0.heap.size b bm vs3 S3 _ (hA3.nw (by (repeat (first | exact Ch.refl _ | assumption | (refine Ch.fresh ?_ (by assumption) (by intro i hi he; first | exact he | exact (not_no he).elim | exact Or.inl he | exact Or.inr (Or.inl he) | exact Or.inr (Or.inr he) | (exfalso; have he2 : _ = some i := he; have := own_base (by assumption) he2; omega) | (exfalso; have he2 : i = _ := he; omega) | (exfalso; have he2 : _ = some i := he; have := ow_base (by assumption) he2; omega) | (exfalso; have := he.1; omega) | (exfalso; have he2 : _ = some i := he; have := hlo _ he2; omega)))))))) ?_
              rintro v143 w29 ⟨rfl, rfl⟩
              refine L_nil ?_
              refine heldK (by (exact Bk.to (by assumption) (by (repeat (first | exact Sm.refl _ _ | (refine Sm.stepT (by assumption) (by intro hlt hsm; first | exact not_no | (intro he; have he2 : _ = _ := he; omega) | (intro he; have := he.1; omega) | exact bkm_not (by assumption) hsm rfl | exact owm_not (by assumption) hi hsm rfl | (intro he; have he2 : _ = _ := he; rw [he2] at hi; exact absurd hi (by assumption))) ?_)))))) (fun hS => ?_)
              refine D_ev 3 (by kernel_rfl) rfl ?_
              refine L_call (.plain rfl) rfl rfl (r_call Try.func16 rfl rfl rfl (by rfl)) (rkept_walk R3.most R3.life R3.floor rv3 R3.L _ (by (exact Sl.to (by first | assumption | exact Sl.own (by assumption) | exact Mu.sl (by assumption) | exact Ow.sl (by assumption)) (fun i hi => by (repeat (first | exact Sm.refl _ _ | (refine Sm.stepT (by assumption) (by intro hlt hsm; first | exact not_no | (intro he; have he2 : _ = _ := he; omega) | (intro he; have := he.1; omega) | exact bkm_not (by assumption) hsm rfl | exact owm_not (by assumption) hi hsm rfl | (intro he; have he2 : _ = _ := he; rw [he2] at hi; exact absurd hi (by assumption))) ?_)))))) (by omega)) ?_
              rintro v145 w30 ⟨rfl, c30⟩
              have hz30 := c30.size
              refine L_nil ?_
              refine heldK (by (exact Bk.to (by assumption) (by (repeat (first | exact Sm.refl _ _ | (refine Sm.stepT (by assumption) (by intro hlt hsm; first | exact not_no | (intro he; have he2 : _ = _ := he; omega) | (intro he; have := he.1; omega) | exact bkm_not (by assumption) hsm rfl | exact owm_not (by assumption) hi hsm rfl | (intro he; have he2 : _ = _ := he; rw [he2] at hi; exact absurd hi (by assumption))) ?_)))))) (fun hS => ?_)
              refine D_take 4 rfl (by kernel_rfl) (by kernel_rfl) (by kernel_rfl) (by kernel_rfl) (.plain rfl) rfl rfl (by assumption) (fun W hW => r_neq rfl rfl) ?_
              refine D_take 5 rfl (by kernel_rfl) (by kernel_rfl) (by kernel_rfl) (by kernel_rfl) (.plain rfl) rfl rfl (by assumption) (fun W hW => r_move (v := .bool _) rfl) ?_
              refine D_case (d := 147) rfl (fun h147 => ?_) (fun h147 => ?_)
              · omega
              · refine D_take 6 rfl (by kernel_rfl) (by kernel_rfl) (by kernel_rfl) (by kernel_rfl) (.yes 5 false rfl rfl) rfl rfl (by assumption) (fun W hW => r_move (v := .pointer _) rfl) ?_
                refine D_take 8 rfl (by kernel_rfl) (by kernel_rfl) (by kernel_rfl) (by kernel_rfl) (.yes 5 false rfl rfl) rfl rfl (by assumption) (fun W hW => r_fieldb Try.underlying31 rfl (show _ = some 1 from rfl) rfl rfl (show _ = 1 from rfl)) ?_
                refine D_take 9 rfl (by kernel_rfl) (by kernel_rfl) (by kernel_rfl) (by kernel_rfl) (.yes 5 false rfl rfl) rfl rfl (by assumption) (fun W hW => r_loadb rfl rfl (by exact hW) (by first | assumption | (conv => lhs; simp only [List.getElem?_toArray, List.getElem?_cons_succ, List.getElem?_cons_zero]))) ?_
                refine D_ev 7 (by kernel_rfl) rfl ?_
                refine L_call (.yes 5 false rfl rfl) rfl rfl (r_call Try.func17 rfl rfl rfl (by rfl)) (life_walk w0.heap.size b bm vs3 S3 _ (hA3.nw (by (repeat (first | exact Ch.refl _ | assumption | (refine Ch.fresh ?_ (by assumption) (by intro i hi he; first | exact he | exact (not_no he).elim | exact Or.inl he | exact Or.inr (Or.inl he) | exact Or.inr (Or.inr he) | (exfalso; have he2 : _ = some i := he; have := own_base (by assumption) he2; omega) | (exfalso; have he2 : i = _ := he; omega) | (exfalso; have he2 : _ = some i := he; have := ow_base (by assumption) he2; omega) | (exfalso; have := he.1; omega) | (exfalso; have he2 : _ = some i := he; have := hlo _ he2; omega)))))))) ?_
                rintro v149 w31 ⟨rfl, rfl⟩
                refine L_nil ?_
                refine heldK (by (exact Bk.to (by assumption) (by (repeat (first | exact Sm.refl _ _ | (refine Sm.stepT (by assumption) (by intro hlt hsm; first | exact not_no | (intro he; have he2 : _ = _ := he; omega) | (intro he; have := he.1; omega) | exact bkm_not (by assumption) hsm rfl | exact owm_not (by assumption) hi hsm rfl | (intro he; have he2 : _ = _ := he; rw [he2] at hi; exact absurd hi (by assumption))) ?_)))))) (fun hS => ?_)
                refine D_take 10 rfl (by kernel_rfl) (by kernel_rfl) (by kernel_rfl) (by kernel_rfl) (.yes 5 false rfl rfl) rfl rfl (by assumption) (fun W hW => r_neq rfl rfl) ?_
                refine D_take 11 rfl (by kernel_rfl) (by kernel_rfl) (by kernel_rfl) (by kernel_rfl) (.plain rfl) rfl rfl (by assumption) (fun W hW => r_pick_f (v := .bool _) rfl rfl) ?_
                refine D_take 12 rfl (by kernel_rfl) (by kernel_rfl) (by kernel_rfl) (by kernel_rfl) (.plain rfl) rfl rfl (by assumption) (fun W hW => r_move (v := .bool _) rfl) ?_
                refine D_case (d := 154) rfl (fun h154 => ?_) (fun h154 => ?_)
                · omega
                · refine D_take 13 rfl (by kernel_rfl) (by kernel_rfl) (by kernel_rfl) (by kernel_rfl) (.yes 12 false rfl rfl) rfl rfl (by assumption) (fun W hW => r_move (v := .pointer _) rfl) ?_
                  refine D_take 15 rfl (by kernel_rfl) (by kernel_rfl) (by kernel_rfl) (by kernel_rfl) (.yes 12 false rfl rfl) rfl rfl (by assumption) (fun W hW => r_fieldb Try.underlying31 rfl (show _ = some 1 from rfl) rfl rfl (show _ = 2 from rfl)) ?_
                  refine D_take 16 rfl (by kernel_rfl) (by kernel_rfl) (by kernel_rfl) (by kernel_rfl) (.yes 12 false rfl rfl) rfl rfl (by assumption) (fun W hW => r_loadb rfl rfl (by exact hW) (by first | assumption | (conv => lhs; simp only [List.getElem?_toArray, List.getElem?_cons_succ, List.getElem?_cons_zero]))) ?_
                  refine D_ev 14 (by kernel_rfl) rfl ?_
                  refine L_call (.yes 12 false rfl rfl) rfl rfl (r_call Try.func18 rfl rfl rfl (by rfl)) (floor_walk w0.heap.size b bm vs3 S3 _ (hA3.nw (by (repeat (first | exact Ch.refl _ | assumption | (refine Ch.fresh ?_ (by assumption) (by intro i hi he; first | exact he | exact (not_no he).elim | exact Or.inl he | exact Or.inr (Or.inl he) | exact Or.inr (Or.inr he) | (exfalso; have he2 : _ = some i := he; have := own_base (by assumption) he2; omega) | (exfalso; have he2 : i = _ := he; omega) | (exfalso; have he2 : _ = some i := he; have := ow_base (by assumption) he2; omega) | (exfalso; have := he.1; omega) | (exfalso; have he2 : _ = some i := he; have := hlo _ he2; omega)))))))) ?_
                  rintro v156 w32 ⟨rfl, rfl⟩
                  refine L_nil ?_
                  refine heldK (by (exact Bk.to (by assumption) (by (repeat (first | exact Sm.refl _ _ | (refine Sm.stepT (by assumption) (by intro hlt hsm; first | exact not_no | (intro he; have he2 : _ = _ := he; omega) | (intro he; have := he.1; omega) | exact bkm_not (by assumption) hsm rfl | exact owm_not (by assumption) hi hsm rfl | (intro he; have he2 : _ = _ := he; rw [he2] at hi; exact absurd hi (by assumption))) ?_)))))) (fun hS => ?_)
                  refine D_take 17 rfl (by kernel_rfl) (by kernel_rfl) (by kernel_rfl) (by kernel_rfl) (.yes 12 false rfl rfl) rfl rfl (by assumption) (fun W hW => r_neq rfl rfl) ?_
                  refine D_take 18 rfl (by kernel_rfl) (by kernel_rfl) (by kernel_rfl) (by kernel_rfl) (.plain rfl) rfl rfl (by assumption) (fun W hW => r_pick_f (v := .bool _) rfl rfl) ?_
                  refine D_done (by kernel_rfl) ?_
                  refine W_if rfl (fun h160 => ?_) (fun h160 => ?_)
                  · omega
                  · refine W_skip ?_
                    refine ⟨⟨rfl, rfl, rfl, rfl, trivial⟩, Sx, vx, Rx, rx, trivial, ?_⟩
                    first
                      | (subst hSx hvx hRx hrx
                         exact ⟨by omega, by omega, hA.nw (by (repeat (first | exact Ch.refl _ | assumption | (refine Ch.fresh ?_ (by assumption) (by intro i hi he; first | exact he | exact (not_no he).elim | exact Or.inl he | exact Or.inr (Or.inl he) | exact Or.inr (Or.inr he) | (exfalso; have he2 : _ = some i := he; have := own_base (by assumption) he2; omega) | (exfalso; have he2 : i = _ := he; omega) | (exfalso; have he2 : _ = some i := he; have := ow_base (by assumption) he2; omega) | (exfalso; have := he.1; omega) | (exfalso; have he2 : _ = some i := he; have := hlo _ he2; omega)))))), by (exact Bk.to (by assumption) (by (repeat (first | exact Sm.refl _ _ | (refine Sm.stepT (by assumption) (by intro hlt hsm; first | exact not_no | (intro he; have he2 : _ = _ := he; omega) | (intro he; have := he.1; omega) | exact bkm_not (by assumption) hsm rfl | exact owm_not (by assumption) hi hsm rfl | (intro he; have he2 : _ = _ := he; rw [he2] at hi; exact absurd hi (by assumption))) ?_))))), by (exact Ow.to (by first | assumption | exact Ow.of (by assumption)) (fun i hi => by (repeat (first | exact Sm.refl _ _ | (refine Sm.stepT (by assumption) (by intro hlt hsm; first | exact not_no | (intro he; have he2 : _ = _ := he; omega) | (intro he; have := he.1; omega) | exact bkm_not (by assumption) hsm rfl | exact owm_not (by assumption) hi hsm rfl | (intro he; have he2 : _ = _ := he; rw [he2] at hi; exact absurd hi (by assumption))) ?_))))), hRel, hkl, hmo, by omega, by (repeat (first | exact Ch.refl _ | assumption | (refine Ch.fresh ?_ (by assumption) (by intro i hi he; first | exact he | exact (not_no he).elim | exact Or.inl he | exact Or.inr (Or.inl he) | exact Or.inr (Or.inr he) | (exfalso; have he2 : _ = some i := he; have := own_base (by assumption) he2; omega) | (exfalso; have he2 : i = _ := he; omega) | (exfalso; have he2 : _ = some i := he; have := ow_base (by assumption) he2; omega) | (exfalso; have := he.1; omega) | (exfalso; have he2 : _ = some i := he; have := hlo _ he2; omega)))))⟩)
                      | (subst hSx hvx hRx hrx
                         exact ⟨by omega, by omega, hA3.nw (by (repeat (first | exact Ch.refl _ | assumption | (refine Ch.fresh ?_ (by assumption) (by intro i hi he; first | exact he | exact (not_no he).elim | exact Or.inl he | exact Or.inr (Or.inl he) | exact Or.inr (Or.inr he) | (exfalso; have he2 : _ = some i := he; have := own_base (by assumption) he2; omega) | (exfalso; have he2 : i = _ := he; omega) | (exfalso; have he2 : _ = some i := he; have := ow_base (by assumption) he2; omega) | (exfalso; have := he.1; omega) | (exfalso; have he2 : _ = some i := he; have := hlo _ he2; omega)))))), by (exact Bk.to (by assumption) (by (repeat (first | exact Sm.refl _ _ | (refine Sm.stepT (by assumption) (by intro hlt hsm; first | exact not_no | (intro he; have he2 : _ = _ := he; omega) | (intro he; have := he.1; omega) | exact bkm_not (by assumption) hsm rfl | exact owm_not (by assumption) hi hsm rfl | (intro he; have he2 : _ = _ := he; rw [he2] at hi; exact absurd hi (by assumption))) ?_))))), by (exact Ow.to (by first | assumption | exact Ow.of (by assumption)) (fun i hi => by (repeat (first | exact Sm.refl _ _ | (refine Sm.stepT (by assumption) (by intro hlt hsm; first | exact not_no | (intro he; have he2 : _ = _ := he; omega) | (intro he; have := he.1; omega) | exact bkm_not (by assumption) hsm rfl | exact owm_not (by assumption) hi hsm rfl | (intro he; have he2 : _ = _ := he; rw [he2] at hi; exact absurd hi (by assumption))) ?_))))), hRel3, hkl3, hmo3, hsl3, by (repeat (first | exact Ch.refl _ | assumption | (refine Ch.fresh ?_ (by assumption) (by intro i hi he; first | exact he | exact (not_no he).elim | exact Or.inl he | exact Or.inr (Or.inl he) | exact Or.inr (Or.inr he) | (exfalso; have he2 : _ = some i := he; have := own_base (by assumption) he2; omega) | (exfalso; have he2 : i = _ := he; omega) | (exfalso; have he2 : _ = some i := he; have := ow_base (by assumption) he2; omega) | (exfalso; have := he.1; omega) | (exfalso; have he2 : _ = some i := he; have := hlo _ he2; omega)))))⟩)
          rintro gcb1 w33 ⟨S2, vs2, R2, rv2, -, hCb1⟩
          refine W_region ?_
          refine L_run (.plain rfl) rfl rfl (r_move (v := .int _ _) rfl) ?_
          refine L_run (.plain rfl) rfl rfl (r_add rfl rfl (by first | exact wr_i64 (by omega) | rfl)) ?_
          refine L_run (.plain rfl) rfl rfl (r_assign (v := .int _ _) rfl) ?_
          refine L_nil ?_
          refine ⟨⟨rfl, rfl, rfl, trivial⟩, _, ?_, i + 1, S2, vs2, R2, rv2, rfl, ?_, rfl⟩
          · omega
          exact hCb1
        · refine W_exit ?_
          repeat (first | refine blk_hit ?_ | refine blk_miss rfl ?_)
          refine W_seq ?_
          refine W_region ?_
          refine L_run (.plain rfl) rfl rfl (r_move (v := .pointer _) rfl) ?_
          refine L_call (.plain rfl) rfl rfl (r_call Try.func19 rfl rfl rfl (by rfl)) (started_walk w0.heap.size b bm vs S _ (hA.nw (by (repeat (first | exact Ch.refl _ | assumption | (refine Ch.fresh ?_ (by assumption) (by intro i hi he; first | exact he | exact (not_no he).elim | exact Or.inl he | exact Or.inr (Or.inl he) | exact Or.inr (Or.inr he) | (exfalso; have he2 : _ = some i := he; have := own_base (by assumption) he2; omega) | (exfalso; have he2 : i = _ := he; omega) | (exfalso; have he2 : _ = some i := he; have := ow_base (by assumption) he2; omega) | (exfalso; have := he.1; omega) | (exfalso; have he2 : _ = some i := he; have := hlo _ he2; omega))))))) (by omega)) ?_
          rintro v162 w34 ⟨_, rfl, hsv, c34⟩
          have hz34 := c34.size
          refine L_run (.plain rfl) rfl rfl (r_assign (by conv => lhs; whnf)) ?_
          refine L_nil ?_
          refine W_seq ?_
          refine W_seq ?_
          refine W_region ?_
          refine L_run (.plain rfl) rfl rfl (r_move (by conv => lhs; whnf)) ?_
          refine L_run (.plain rfl) rfl rfl (r_lenSl Try.underlying48 (by conv => lhs; whnf) (by (exact Sl.to (by first | assumption | exact Sl.own (by assumption) | exact Mu.sl (by assumption) | exact Ow.sl (by assumption)) (fun i hi => by (repeat (first | exact Sm.refl _ _ | (refine Sm.stepT (by assumption) (by intro hlt hsm; first | exact not_no | (intro he; have he2 : _ = _ := he; omega) | (intro he; have := he.1; omega) | exact bkm_not (by assumption) hsm rfl | exact owm_not (by assumption) hi hsm rfl | (intro he; have he2 : _ = _ := he; rw [he2] at hi; exact absurd hi (by assumption))) ?_))))))) ?_
          refine L_run (.plain rfl) rfl rfl (r_fieldb Try.underlying31 rfl (show _ = some 1 from rfl) rfl rfl (show _ = 3 from rfl)) ?_
          refine L_run (.plain rfl) rfl rfl (r_loadb rfl rfl (by (exact Bk.to (by assumption) (by (repeat (first | exact Sm.refl _ _ | (refine Sm.stepT (by assumption) (by intro hlt hsm; first | exact not_no | (intro he; have he2 : _ = _ := he; omega) | (intro he; have := he.1; omega) | exact bkm_not (by assumption) hsm rfl | exact owm_not (by assumption) hi hsm rfl | (intro he; have he2 : _ = _ := he; rw [he2] at hi; exact absurd hi (by assumption))) ?_)))))) (by first | assumption | (conv => lhs; simp only [List.getElem?_toArray, List.getElem?_cons_succ, List.getElem?_cons_zero]))) ?_
          refine L_run (.plain rfl) rfl rfl (r_lenSl Try.underlying29 (by conv => lhs; whnf) (by (exact Sl.to (by first | assumption | exact Sl.own (by assumption) | exact Mu.sl (by assumption) | exact Ow.sl (by assumption)) (fun i hi => by (repeat (first | exact Sm.refl _ _ | (refine Sm.stepT (by assumption) (by intro hlt hsm; first | exact not_no | (intro he; have he2 : _ = _ := he; omega) | (intro he; have := he.1; omega) | exact bkm_not (by assumption) hsm rfl | exact owm_not (by assumption) hi hsm rfl | (intro he; have he2 : _ = _ := he; rw [he2] at hi; exact absurd hi (by assumption))) ?_))))))) ?_
          refine L_run (.plain rfl) rfl rfl (r_neq rfl rfl) ?_
          refine L_as (v := .bool _) (v' := .bool false) 168 rfl (dec_f (by omega)).symm ?_
          refine L_nil ?_
          refine W_false rfl ?_
          refine W_skip ?_
          refine W_seq ?_
          refine W_seq ?_
          refine W_region ?_
          refine L_run (.plain rfl) rfl rfl (r_assign (v := .int _ _) rfl) ?_
          refine L_nil ?_
          refine W_block ?_
          refine W_loopF [7, 20] (fun mz_ f W => ∃ (j : Nat), f 21 = .int .i64 j ∧ (j ≤ S.st.length ∧ Sl W v162 2 S.st.length (cells2 S.st) ∧ Bk W b7 (R.row rv) 31 ∧ Ow W w0.heap.size 52 12 rv R.L.length (cellsC R.L) ∧ Nw w0 W) ∧ mz_ = S.st.length - j) ?_ ?_
          · refine ⟨_, 0, rfl, ?_, rfl⟩
            exact ⟨by omega, by (exact Sl.to (by first | assumption | exact Sl.own (by assumption) | exact Mu.sl (by assumption) | exact Ow.sl (by assumption)) (fun i hi => by (repeat (first | exact Sm.refl _ _ | (refine Sm.stepT (by assumption) (by intro hlt hsm; first | exact not_no | (intro he; have he2 : _ = _ := he; omega) | (intro he; have := he.1; omega) | exact bkm_not (by assumption) hsm rfl | exact owm_not (by assumption) hi hsm rfl | (intro he; have he2 : _ = _ := he; rw [he2] at hi; exact absurd hi (by assumption))) ?_))))), by (exact Bk.to (by assumption) (by (repeat (first | exact Sm.refl _ _ | (refine Sm.stepT (by assumption) (by intro hlt hsm; first | exact not_no | (intro he; have he2 : _ = _ := he; omega) | (intro he; have := he.1; omega) | exact bkm_not (by assumption) hsm rfl | exact owm_not (by assumption) hi hsm rfl | (intro he; have he2 : _ = _ := he; rw [he2] at hi; exact absurd hi (by assumption))) ?_))))), by (exact Ow.to (by first | assumption | exact Ow.of (by assumption)) (fun i hi => by (repeat (first | exact Sm.refl _ _ | (refine Sm.stepT (by assumption) (by intro hlt hsm; first | exact not_no | (intro he; have he2 : _ = _ := he; omega) | (intro he; have := he.1; omega) | exact bkm_not (by assumption) hsm rfl | exact owm_not (by assumption) hi hsm rfl | (intro he; have he2 : _ = _ := he; rw [he2] at hi; exact absurd hi (by assumption))) ?_))))), by (repeat (first | exact Ch.refl _ | assumption | (refine Ch.fresh ?_ (by assumption) (by intro i hi he; first | exact he | exact (not_no he).elim | exact Or.inl he | exact Or.inr (Or.inl he) | exact Or.inr (Or.inr he) | (exfalso; have he2 : _ = some i := he; have := own_base (by assumption) he2; omega) | (exfalso; have he2 : i = _ := he; omega) | (exfalso; have he2 : _ = some i := he; have := ow_base (by assumption) he2; omega) | (exfalso; have := he.1; omega) | (exfalso; have he2 : _ = some i := he; have := hlo _ he2; omega)))))⟩
          rintro m1 g1 w35 ⟨j, hf21, hR1, rfl⟩
          refine W_as 21 hf21 rfl ?_
          clear hf21
          obtain ⟨hj, hsj, hbj, hoj, hnj⟩ := hR1
          refine W_seq ?_
          refine W_seq ?_
          refine W_region ?_
          refine L_run (.plain rfl) rfl rfl (r_move (v := .int _ _) rfl) ?_
          refine L_run (.plain rfl) rfl rfl (r_move (by conv => lhs; whnf)) ?_
          refine L_run (.plain rfl) rfl rfl (r_lenSl Try.underlying48 (by conv => lhs; whnf) (by (exact Sl.to (by first | assumption | exact Sl.own (by assumption) | exact Mu.sl (by assumption) | exact Ow.sl (by assumption)) (fun i hi => by (repeat (first | exact Sm.refl _ _ | (refine Sm.stepT (by assumption) (by intro hlt hsm; first | exact not_no | (intro he; have he2 : _ = _ := he; omega) | (intro he; have := he.1; omega) | exact bkm_not (by assumption) hsm rfl | exact owm_not (by assumption) hi hsm rfl | (intro he; have he2 : _ = _ := he; rw [he2] at hi; exact absurd hi (by assumption))) ?_))))))) ?_
          refine L_run (.plain rfl) rfl rfl (r_lss rfl rfl) ?_
          refine L_nil ?_
          refine W_if rfl (fun h172 => ?_) (fun h172 => ?_)
          · have hjn : j < S.st.length := by omega
            have hjR : j < R.L.length := by omega
            have hst : S.st[j] = (R.L[j].life, R.L[j].seq) := by simp [hRel.st]
            have hrow : ∀ (q : Nat) (u : Value), (rcl R.L[j])[q]? = some u → (cellsC R.L)[j * 12 + q]? = some u := cellsC_row _ j hjR
            refine W_skip ?_
            refine W_seq ?_
            refine W_block ?_
            refine W_seq ?_
            refine W_still (by kernel_rfl) (by kernel_rfl) (fun w36 c36 hs36 => ?_)
            refine H_run (.plain rfl) rfl rfl (r_move (by conv => lhs; whnf)) ?_
            refine H_run (.plain rfl) rfl rfl (r_move (v := .int _ _) rfl) ?_
            refine H_run (.plain rfl) rfl rfl (r_idxSl Try.underlying48 (show _ = some 2 from rfl) (by conv => lhs; whnf) rfl (by (exact Sl.to (by first | assumption | exact Sl.own (by assumption) | exact Mu.sl (by assumption) | exact Ow.sl (by assumption)) (fun i hi => by (repeat (first | exact Sm.refl _ _ | (refine Sm.stepT (by assumption) (by intro hlt hsm; first | exact not_no | (intro he; have he2 : _ = _ := he; omega) | (intro he; have := he.1; omega) | exact bkm_not (by assumption) hsm rfl | exact owm_not (by assumption) hi hsm rfl | (intro he; have he2 : _ = _ := he; rw [he2] at hi; exact absurd hi (by assumption))) ?_)))))) (by omega) (by omega) (by conv => lhs; (try simp only [Nat.mul_one, Nat.zero_add, Int.toNat_natCast, Int.toNat_zero, Int.reduceToNat, Nat.reduceMul, Nat.reduceAdd]))) ?_
            refine H_run (.plain rfl) rfl rfl (r_loadSlrow (us := [.int .u64 S.st[j].1, .int .u64 S.st[j].2]) Try.underlying50 rfl rfl rfl rfl (by (exact Sl.to (by first | assumption | exact Sl.own (by assumption) | exact Mu.sl (by assumption) | exact Ow.sl (by assumption)) (fun i hi => by (repeat (first | exact Sm.refl _ _ | (refine Sm.stepT (by assumption) (by intro hlt hsm; first | exact not_no | (intro he; have he2 : _ = _ := he; omega) | (intro he; have := he.1; omega) | exact bkm_not (by assumption) hsm rfl | exact owm_not (by assumption) hi hsm rfl | (intro he; have he2 : _ = _ := he; rw [he2] at hi; exact absurd hi (by assumption))) ?_)))))) (by exact cells2_row S.st j hjn)) ?_
            refine H_run (.plain rfl) rfl rfl (r_fieldb Try.underlying31 rfl (show _ = some 1 from rfl) rfl rfl (show _ = 3 from rfl)) ?_
            refine H_run (.plain rfl) rfl rfl (r_loadb rfl rfl (by (exact Bk.to (by assumption) (by (repeat (first | exact Sm.refl _ _ | (refine Sm.stepT (by assumption) (by intro hlt hsm; first | exact not_no | (intro he; have he2 : _ = _ := he; omega) | (intro he; have := he.1; omega) | exact bkm_not (by assumption) hsm rfl | exact owm_not (by assumption) hi hsm rfl | (intro he; have he2 : _ = _ := he; rw [he2] at hi; exact absurd hi (by assumption))) ?_)))))) (by first | assumption | (conv => lhs; simp only [List.getElem?_toArray, List.getElem?_cons_succ, List.getElem?_cons_zero]))) ?_
            refine H_run (.plain rfl) rfl rfl (r_move (v := .int _ _) rfl) ?_
            refine H_run (.plain rfl) rfl rfl (r_idxSl Try.underlying29 (show _ = some 12 from rfl) (by conv => lhs; whnf) rfl (by (exact Sl.to (by first | assumption | exact Sl.own (by assumption) | exact Mu.sl (by assumption) | exact Ow.sl (by assumption)) (fun i hi => by (repeat (first | exact Sm.refl _ _ | (refine Sm.stepT (by assumption) (by intro hlt hsm; first | exact not_no | (intro he; have he2 : _ = _ := he; omega) | (intro he; have := he.1; omega) | exact bkm_not (by assumption) hsm rfl | exact owm_not (by assumption) hi hsm rfl | (intro he; have he2 : _ = _ := he; rw [he2] at hi; exact absurd hi (by assumption))) ?_)))))) (by omega) (by omega) (by conv => lhs; (try simp only [Nat.mul_one, Nat.zero_add, Int.toNat_natCast, Int.toNat_zero, Int.reduceToNat, Nat.reduceMul, Nat.reduceAdd]))) ?_
            refine H_run (.plain rfl) rfl rfl (r_fieldSl Try.underlying52 rfl (show _ = some 1 from rfl) rfl (show _ = 0 from rfl) (Nat.add_zero _) rfl) ?_
            refine H_run (.plain rfl) rfl rfl (r_loadSl rfl rfl (by (exact Sl.to (by first | assumption | exact Sl.own (by assumption) | exact Mu.sl (by assumption) | exact Ow.sl (by assumption)) (fun i hi => by (repeat (first | exact Sm.refl _ _ | (refine Sm.stepT (by assumption) (by intro hlt hsm; first | exact not_no | (intro he; have he2 : _ = _ := he; omega) | (intro he; have := he.1; omega) | exact bkm_not (by assumption) hsm rfl | exact owm_not (by assumption) hi hsm rfl | (intro he; have he2 : _ = _ := he; rw [he2] at hi; exact absurd hi (by assumption))) ?_)))))) (by first | assumption | exact hrow 0 _ rfl | exact hrow 1 _ rfl | (conv => lhs; simp only [List.getElem?_toArray, List.getElem?_cons_succ, List.getElem?_cons_zero]))) ?_
            refine H_run (.plain rfl) rfl rfl (r_fieldb Try.underlying31 rfl (show _ = some 1 from rfl) rfl rfl (show _ = 3 from rfl)) ?_
            refine H_run (.plain rfl) rfl rfl (r_loadb rfl rfl (by (exact Bk.to (by assumption) (by (repeat (first | exact Sm.refl _ _ | (refine Sm.stepT (by assumption) (by intro hlt hsm; first | exact not_no | (intro he; have he2 : _ = _ := he; omega) | (intro he; have := he.1; omega) | exact bkm_not (by assumption) hsm rfl | exact owm_not (by assumption) hi hsm rfl | (intro he; have he2 : _ = _ := he; rw [he2] at hi; exact absurd hi (by assumption))) ?_)))))) (by first | assumption | (conv => lhs; simp only [List.getElem?_toArray, List.getElem?_cons_succ, List.getElem?_cons_zero]))) ?_
            refine H_run (.plain rfl) rfl rfl (r_move (v := .int _ _) rfl) ?_
            refine H_run (.plain rfl) rfl rfl (r_idxSl Try.underlying29 (show _ = some 12 from rfl) (by conv => lhs; whnf) rfl (by (exact Sl.to (by first | assumption | exact Sl.own (by assumption) | exact Mu.sl (by assumption) | exact Ow.sl (by assumption)) (fun i hi => by (repeat (first | exact Sm.refl _ _ | (refine Sm.stepT (by assumption) (by intro hlt hsm; first | exact not_no | (intro he; have he2 : _ = _ := he; omega) | (intro he; have := he.1; omega) | exact bkm_not (by assumption) hsm rfl | exact owm_not (by assumption) hi hsm rfl | (intro he; have he2 : _ = _ := he; rw [he2] at hi; exact absurd hi (by assumption))) ?_)))))) (by omega) (by omega) (by conv => lhs; (try simp only [Nat.mul_one, Nat.zero_add, Int.toNat_natCast, Int.toNat_zero, Int.reduceToNat, Nat.reduceMul, Nat.reduceAdd]))) ?_
            refine H_run (.plain rfl) rfl rfl (r_fieldSl Try.underlying52 rfl (show _ = some 1 from rfl) rfl (show _ = 1 from rfl) rfl rfl) ?_
            refine H_run (.plain rfl) rfl rfl (r_loadSl rfl rfl (by (exact Sl.to (by first | assumption | exact Sl.own (by assumption) | exact Mu.sl (by assumption) | exact Ow.sl (by assumption)) (fun i hi => by (repeat (first | exact Sm.refl _ _ | (refine Sm.stepT (by assumption) (by intro hlt hsm; first | exact not_no | (intro he; have he2 : _ = _ := he; omega) | (intro he; have := he.1; omega) | exact bkm_not (by assumption) hsm rfl | exact owm_not (by assumption) hi hsm rfl | (intro he; have he2 : _ = _ := he; rw [he2] at hi; exact absurd hi (by assumption))) ?_)))))) (by first | assumption | exact hrow 0 _ rfl | exact hrow 1 _ rfl | (conv => lhs; simp only [List.getElem?_toArray, List.getElem?_cons_succ, List.getElem?_cons_zero]))) ?_
            refine H_run (.plain rfl) rfl rfl (r_buildA (vs := [(0, .int _ _), (1, .int _ _)]) (cells := [_, _]) Try.underlying50 rfl rfl (by rfl) rfl (by rfl)) ?_
            refine H_run (.plain rfl) rfl rfl (r_neqR (xs := #[.int _ _, .int _ _]) (ys := #[.int _ _, .int _ _]) rfl rfl (by kernel_rfl) (eqPair _ _ _ _ _)) ?_
            refine H_nil ?_
            refine W_if rfl (fun h192 => ?_) (fun h192 => ?_)
            · exfalso; refine h192 ⟨?_, ?_⟩ <;> rw [hst]
            · refine W_skip ?_
              refine W_region ?_
              refine L_run (.plain rfl) rfl rfl (r_move (v := .int _ _) rfl) ?_
              refine L_run (.plain rfl) rfl rfl (r_add rfl rfl (by first | exact wr_i64 (by omega) | rfl)) ?_
              refine L_run (.plain rfl) rfl rfl (r_assign (v := .int _ _) rfl) ?_
              refine L_nil ?_
              refine ⟨⟨rfl, rfl, trivial⟩, _, ?_, j + 1, rfl, ?_, rfl⟩
              · omega
              exact ⟨by omega, by (exact Sl.to (by first | assumption | exact Sl.own (by assumption) | exact Mu.sl (by assumption) | exact Ow.sl (by assumption)) (fun i hi => by (repeat (first | exact Sm.refl _ _ | (refine Sm.stepT (by assumption) (by intro hlt hsm; first | exact not_no | (intro he; have he2 : _ = _ := he; omega) | (intro he; have := he.1; omega) | exact bkm_not (by assumption) hsm rfl | exact owm_not (by assumption) hi hsm rfl | (intro he; have he2 : _ = _ := he; rw [he2] at hi; exact absurd hi (by assumption))) ?_))))), by (exact Bk.to (by assumption) (by (repeat (first | exact Sm.refl _ _ | (refine Sm.stepT (by assumption) (by intro hlt hsm; first | exact not_no | (intro he; have he2 : _ = _ := he; omega) | (intro he; have := he.1; omega) | exact bkm_not (by assumption) hsm rfl | exact owm_not (by assumption) hi hsm rfl | (intro he; have he2 : _ = _ := he; rw [he2] at hi; exact absurd hi (by assumption))) ?_))))), by (exact Ow.to (by first | assumption | exact Ow.of (by assumption)) (fun i hi => by (repeat (first | exact Sm.refl _ _ | (refine Sm.stepT (by assumption) (by intro hlt hsm; first | exact not_no | (intro he; have he2 : _ = _ := he; omega) | (intro he; have := he.1; omega) | exact bkm_not (by assumption) hsm rfl | exact owm_not (by assumption) hi hsm rfl | (intro he; have he2 : _ = _ := he; rw [he2] at hi; exact absurd hi (by assumption))) ?_))))), by (repeat (first | exact Ch.refl _ | assumption | (refine Ch.fresh ?_ (by assumption) (by intro i hi he; first | exact he | exact (not_no he).elim | exact Or.inl he | exact Or.inr (Or.inl he) | exact Or.inr (Or.inr he) | (exfalso; have he2 : _ = some i := he; have := own_base (by assumption) he2; omega) | (exfalso; have he2 : i = _ := he; omega) | (exfalso; have he2 : _ = some i := he; have := ow_base (by assumption) he2; omega) | (exfalso; have := he.1; omega) | (exfalso; have he2 : _ = some i := he; have := hlo _ he2; omega)))))⟩
          · refine W_exit ?_
            repeat (first | refine blk_hit ?_ | refine blk_miss rfl ?_)
            refine W_seq ?_
            refine W_region ?_
            refine L_run (.plain rfl) rfl rfl (r_assign (v := .bool _) rfl) ?_
            refine L_nil ?_
            refine W_ret ?_
            refine ret1 (v := .bool _) rfl rfl ?_
            exact ⟨rfl, by (repeat (first | exact Ch.refl _ | assumption | (refine Ch.fresh ?_ (by assumption) (by intro i hi he; first | exact he | exact (not_no he).elim | exact Or.inl he | exact Or.inr (Or.inl he) | exact Or.inr (Or.inr he) | (exfalso; have he2 : _ = some i := he; have := own_base (by assumption) he2; omega) | (exfalso; have he2 : i = _ := he; omega) | (exfalso; have he2 : _ = some i := he; have := ow_base (by assumption) he2; omega) | (exfalso; have := he.1; omega) | (exfalso; have he2 : _ = some i := he; have := hlo _ he2; omega)))))⟩
      · refine L_pass rfl rfl rfl rfl rfl ?_
        refine L_pass rfl rfl rfl rfl rfl ?_
        refine L_run (.plain rfl) rfl rfl (r_pick_f (v := .bool _) rfl rfl) ?_
        refine L_nil ?_
        refine W_false rfl ?_
        refine W_exit ?_
        repeat (first | refine blk_hit ?_ | refine blk_miss rfl ?_)
        refine W_seq ?_
        refine W_region ?_
        refine L_run (.plain rfl) rfl rfl (r_move (v := .pointer _) rfl) ?_
        refine L_call (.plain rfl) rfl rfl (r_call Try.func19 rfl rfl rfl (by rfl)) (started_walk w0.heap.size b bm vs S _ (hA.nw (by (repeat (first | exact Ch.refl _ | assumption | (refine Ch.fresh ?_ (by assumption) (by intro i hi he; first | exact he | exact (not_no he).elim | exact Or.inl he | exact Or.inr (Or.inl he) | exact Or.inr (Or.inr he) | (exfalso; have he2 : _ = some i := he; have := own_base (by assumption) he2; omega) | (exfalso; have he2 : i = _ := he; omega) | (exfalso; have he2 : _ = some i := he; have := ow_base (by assumption) he2; omega) | (exfalso; have := he.1; omega) | (exfalso; have he2 : _ = some i := he; have := hlo _ he2; omega))))))) (by omega)) ?_
        rintro v162 w37 ⟨_, rfl, hsv, c37⟩
        have hz37 := c37.size
        refine L_run (.plain rfl) rfl rfl (r_assign (by conv => lhs; whnf)) ?_
        refine L_nil ?_
        refine W_seq ?_
        refine W_seq ?_
        refine W_region ?_
        refine L_run (.plain rfl) rfl rfl (r_move (by conv => lhs; whnf)) ?_
        refine L_run (.plain rfl) rfl rfl (r_lenSl Try.underlying48 (by conv => lhs; whnf) (by (exact Sl.to (by first | assumption | exact Sl.own (by assumption) | exact Mu.sl (by assumption) | exact Ow.sl (by assumption)) (fun i hi => by (repeat (first | exact Sm.refl _ _ | (refine Sm.stepT (by assumption) (by intro hlt hsm; first | exact not_no | (intro he; have he2 : _ = _ := he; omega) | (intro he; have := he.1; omega) | exact bkm_not (by assumption) hsm rfl | exact owm_not (by assumption) hi hsm rfl | (intro he; have he2 : _ = _ := he; rw [he2] at hi; exact absurd hi (by assumption))) ?_))))))) ?_
        refine L_run (.plain rfl) rfl rfl (r_fieldb Try.underlying31 rfl (show _ = some 1 from rfl) rfl rfl (show _ = 3 from rfl)) ?_
        refine L_run (.plain rfl) rfl rfl (r_loadb rfl rfl (by (exact Bk.to (by assumption) (by (repeat (first | exact Sm.refl _ _ | (refine Sm.stepT (by assumption) (by intro hlt hsm; first | exact not_no | (intro he; have he2 : _ = _ := he; omega) | (intro he; have := he.1; omega) | exact bkm_not (by assumption) hsm rfl | exact owm_not (by assumption) hi hsm rfl | (intro he; have he2 : _ = _ := he; rw [he2] at hi; exact absurd hi (by assumption))) ?_)))))) (by first | assumption | (conv => lhs; simp only [List.getElem?_toArray, List.getElem?_cons_succ, List.getElem?_cons_zero]))) ?_
        refine L_run (.plain rfl) rfl rfl (r_lenSl Try.underlying29 (by conv => lhs; whnf) (by (exact Sl.to (by first | assumption | exact Sl.own (by assumption) | exact Mu.sl (by assumption) | exact Ow.sl (by assumption)) (fun i hi => by (repeat (first | exact Sm.refl _ _ | (refine Sm.stepT (by assumption) (by intro hlt hsm; first | exact not_no | (intro he; have he2 : _ = _ := he; omega) | (intro he; have := he.1; omega) | exact bkm_not (by assumption) hsm rfl | exact owm_not (by assumption) hi hsm rfl | (intro he; have he2 : _ = _ := he; rw [he2] at hi; exact absurd hi (by assumption))) ?_))))))) ?_
        refine L_run (.plain rfl) rfl rfl (r_neq rfl rfl) ?_
        refine L_as (v := .bool _) (v' := .bool false) 168 rfl (dec_f (by omega)).symm ?_
        refine L_nil ?_
        refine W_false rfl ?_
        refine W_skip ?_
        refine W_seq ?_
        refine W_seq ?_
        refine W_region ?_
        refine L_run (.plain rfl) rfl rfl (r_assign (v := .int _ _) rfl) ?_
        refine L_nil ?_
        refine W_block ?_
        refine W_loopF [7, 20] (fun mz_ f W => ∃ (j : Nat), f 21 = .int .i64 j ∧ (j ≤ S.st.length ∧ Sl W v162 2 S.st.length (cells2 S.st) ∧ Bk W b7 (R.row rv) 31 ∧ Ow W w0.heap.size 52 12 rv R.L.length (cellsC R.L) ∧ Nw w0 W) ∧ mz_ = S.st.length - j) ?_ ?_
        · refine ⟨_, 0, rfl, ?_, rfl⟩
          exact ⟨by omega, by (exact Sl.to (by first | assumption | exact Sl.own (by assumption) | exact Mu.sl (by assumption) | exact Ow.sl (by assumption)) (fun i hi => by (repeat (first | exact Sm.refl _ _ | (refine Sm.stepT (by assumption) (by intro hlt hsm; first | exact not_no | (intro he; have he2 : _ = _ := he; omega) | (intro he; have := he.1; omega) | exact bkm_not (by assumption) hsm rfl | exact owm_not (by assumption) hi hsm rfl | (intro he; have he2 : _ = _ := he; rw [he2] at hi; exact absurd hi (by assumption))) ?_))))), by (exact Bk.to (by assumption) (by (repeat (first | exact Sm.refl _ _ | (refine Sm.stepT (by assumption) (by intro hlt hsm; first | exact not_no | (intro he; have he2 : _ = _ := he; omega) | (intro he; have := he.1; omega) | exact bkm_not (by assumption) hsm rfl | exact owm_not (by assumption) hi hsm rfl | (intro he; have he2 : _ = _ := he; rw [he2] at hi; exact absurd hi (by assumption))) ?_))))), by (exact Ow.to (by first | assumption | exact Ow.of (by assumption)) (fun i hi => by (repeat (first | exact Sm.refl _ _ | (refine Sm.stepT (by assumption) (by intro hlt hsm; first | exact not_no | (intro he; have he2 : _ = _ := he; omega) | (intro he; have := he.1; omega) | exact bkm_not (by assumption) hsm rfl | exact owm_not (by assumption) hi hsm rfl | (intro he; have he2 : _ = _ := he; rw [he2] at hi; exact absurd hi (by assumption))) ?_))))), by (repeat (first | exact Ch.refl _ | assumption | (refine Ch.fresh ?_ (by assumption) (by intro i hi he; first | exact he | exact (not_no he).elim | exact Or.inl he | exact Or.inr (Or.inl he) | exact Or.inr (Or.inr he) | (exfalso; have he2 : _ = some i := he; have := own_base (by assumption) he2; omega) | (exfalso; have he2 : i = _ := he; omega) | (exfalso; have he2 : _ = some i := he; have := ow_base (by assumption) he2; omega) | (exfalso; have := he.1; omega) | (exfalso; have he2 : _ = some i := he; have := hlo _ he2; omega)))))⟩
        rintro m1 g1 w38 ⟨j, hf21, hR1, rfl⟩
        refine W_as 21 hf21 rfl ?_
        clear hf21
        obtain ⟨hj, hsj, hbj, hoj, hnj⟩ := hR1
        refine W_seq ?_
        refine W_seq ?_
        refine W_region ?_
        refine L_run (.plain rfl) rfl rfl (r_move (v := .int _ _) rfl) ?_
        refine L_run (.plain rfl) rfl rfl (r_move (by conv => lhs; whnf)) ?_
        refine L_run (.plain rfl) rfl rfl (r_lenSl Try.underlying48 (by conv => lhs; whnf) (by (exact Sl.to (by first | assumption | exact Sl.own (by assumption) | exact Mu.sl (by assumption) | exact Ow.sl (by assumption)) (fun i hi => by (repeat (first | exact Sm.refl _ _ | (refine Sm.stepT (by assumption) (by intro hlt hsm; first | exact not_no | (intro he; have he2 : _ = _ := he; omega) | (intro he; have := he.1; omega) | exact bkm_not (by assumption) hsm rfl | exact owm_not (by assumption) hi hsm rfl | (intro he; have he2 : _ = _ := he; rw [he2] at hi; exact absurd hi (by assumption))) ?_))))))) ?_
        refine L_run (.plain rfl) rfl rfl (r_lss rfl rfl) ?_
        refine L_nil ?_
        refine W_if rfl (fun h172 => ?_) (fun h172 => ?_)
        · have hjn : j < S.st.length := by omega
          have hjR : j < R.L.length := by omega
          have hst : S.st[j] = (R.L[j].life, R.L[j].seq) := by simp [hRel.st]
          have hrow : ∀ (q : Nat) (u : Value), (rcl R.L[j])[q]? = some u → (cellsC R.L)[j * 12 + q]? = some u := cellsC_row _ j hjR
          refine W_skip ?_
          refine W_seq ?_
          refine W_block ?_
          refine W_seq ?_
          refine W_still (by kernel_rfl) (by kernel_rfl) (fun w39 c39 hs39 => ?_)
          refine H_run (.plain rfl) rfl rfl (r_move (by conv => lhs; whnf)) ?_
          refine H_run (.plain rfl) rfl rfl (r_move (v := .int _ _) rfl) ?_
          refine H_run (.plain rfl) rfl rfl (r_idxSl Try.underlying48 (show _ = some 2 from rfl) (by conv => lhs; whnf) rfl (by (exact Sl.to (by first | assumption | exact Sl.own (by assumption) | exact Mu.sl (by assumption) | exact Ow.sl (by assumption)) (fun i hi => by (repeat (first | exact Sm.refl _ _ | (refine Sm.stepT (by assumption) (by intro hlt hsm; first | exact not_no | (intro he; have he2 : _ = _ := he; omega) | (intro he; have := he.1; omega) | exact bkm_not (by assumption) hsm rfl | exact owm_not (by assumption) hi hsm rfl | (intro he; have he2 : _ = _ := he; rw [he2] at hi; exact absurd hi (by assumption))) ?_)))))) (by omega) (by omega) (by conv => lhs; (try simp only [Nat.mul_one, Nat.zero_add, Int.toNat_natCast, Int.toNat_zero, Int.reduceToNat, Nat.reduceMul, Nat.reduceAdd]))) ?_
          refine H_run (.plain rfl) rfl rfl (r_loadSlrow (us := [.int .u64 S.st[j].1, .int .u64 S.st[j].2]) Try.underlying50 rfl rfl rfl rfl (by (exact Sl.to (by first | assumption | exact Sl.own (by assumption) | exact Mu.sl (by assumption) | exact Ow.sl (by assumption)) (fun i hi => by (repeat (first | exact Sm.refl _ _ | (refine Sm.stepT (by assumption) (by intro hlt hsm; first | exact not_no | (intro he; have he2 : _ = _ := he; omega) | (intro he; have := he.1; omega) | exact bkm_not (by assumption) hsm rfl | exact owm_not (by assumption) hi hsm rfl | (intro he; have he2 : _ = _ := he; rw [he2] at hi; exact absurd hi (by assumption))) ?_)))))) (by exact cells2_row S.st j hjn)) ?_
          refine H_run (.plain rfl) rfl rfl (r_fieldb Try.underlying31 rfl (show _ = some 1 from rfl) rfl rfl (show _ = 3 from rfl)) ?_
          refine H_run (.plain rfl) rfl rfl (r_loadb rfl rfl (by (exact Bk.to (by assumption) (by (repeat (first | exact Sm.refl _ _ | (refine Sm.stepT (by assumption) (by intro hlt hsm; first | exact not_no | (intro he; have he2 : _ = _ := he; omega) | (intro he; have := he.1; omega) | exact bkm_not (by assumption) hsm rfl | exact owm_not (by assumption) hi hsm rfl | (intro he; have he2 : _ = _ := he; rw [he2] at hi; exact absurd hi (by assumption))) ?_)))))) (by first | assumption | (conv => lhs; simp only [List.getElem?_toArray, List.getElem?_cons_succ, List.getElem?_cons_zero]))) ?_
          refine H_run (.plain rfl) rfl rfl (r_move (v := .int _ _) rfl) ?_
          refine H_run (.plain rfl) rfl rfl (r_idxSl Try.underlying29 (show _ = some 12 from rfl) (by conv => lhs; whnf) rfl (by (exact Sl.to (by first | assumption | exact Sl.own (by assumption) | exact Mu.sl (by assumption) | exact Ow.sl (by assumption)) (fun i hi => by (repeat (first | exact Sm.refl _ _ | (refine Sm.stepT (by assumption) (by intro hlt hsm; first | exact not_no | (intro he; have he2 : _ = _ := he; omega) | (intro he; have := he.1; omega) | exact bkm_not (by assumption) hsm rfl | exact owm_not (by assumption) hi hsm rfl | (intro he; have he2 : _ = _ := he; rw [he2] at hi; exact absurd hi (by assumption))) ?_)))))) (by omega) (by omega) (by conv => lhs; (try simp only [Nat.mul_one, Nat.zero_add, Int.toNat_natCast, Int.toNat_zero, Int.reduceToNat, Nat.reduceMul, Nat.reduceAdd]))) ?_
          refine H_run (.plain rfl) rfl rfl (r_fieldSl Try.underlying52 rfl (show _ = some 1 from rfl) rfl (show _ = 0 from rfl) (Nat.add_zero _) rfl) ?_
          refine H_run (.plain rfl) rfl rfl (r_loadSl rfl rfl (by (exact Sl.to (by first | assumption | exact Sl.own (by assumption) | exact Mu.sl (by assumption) | exact Ow.sl (by assumption)) (fun i hi => by (repeat (first | exact Sm.refl _ _ | (refine Sm.stepT (by assumption) (by intro hlt hsm; first | exact not_no | (intro he; have he2 : _ = _ := he; omega) | (intro he; have := he.1; omega) | exact bkm_not (by assumption) hsm rfl | exact owm_not (by assumption) hi hsm rfl | (intro he; have he2 : _ = _ := he; rw [he2] at hi; exact absurd hi (by assumption))) ?_)))))) (by first | assumption | exact hrow 0 _ rfl | exact hrow 1 _ rfl | (conv => lhs; simp only [List.getElem?_toArray, List.getElem?_cons_succ, List.getElem?_cons_zero]))) ?_
          refine H_run (.plain rfl) rfl rfl (r_fieldb Try.underlying31 rfl (show _ = some 1 from rfl) rfl rfl (show _ = 3 from rfl)) ?_
          refine H_run (.plain rfl) rfl rfl (r_loadb rfl rfl (by (exact Bk.to (by assumption) (by (repeat (first | exact Sm.refl _ _ | (refine Sm.stepT (by assumption) (by intro hlt hsm; first | exact not_no | (intro he; have he2 : _ = _ := he; omega) | (intro he; have := he.1; omega) | exact bkm_not (by assumption) hsm rfl | exact owm_not (by assumption) hi hsm rfl | (intro he; have he2 : _ = _ := he; rw [he2] at hi; exact absurd hi (by assumption))) ?_)))))) (by first | assumption | (conv => lhs; simp only [List.getElem?_toArray, List.getElem?_cons_succ, List.getElem?_cons_zero]))) ?_
          refine H_run (.plain rfl) rfl rfl (r_move (v := .int _ _) rfl) ?_
          refine H_run (.plain rfl) rfl rfl (r_idxSl Try.underlying29 (show _ = some 12 from rfl) (by conv => lhs; whnf) rfl (by (exact Sl.to (by first | assumption | exact Sl.own (by assumption) | exact Mu.sl (by assumption) | exact Ow.sl (by assumption)) (fun i hi => by (repeat (first | exact Sm.refl _ _ | (refine Sm.stepT (by assumption) (by intro hlt hsm; first | exact not_no | (intro he; have he2 : _ = _ := he; omega) | (intro he; have := he.1; omega) | exact bkm_not (by assumption) hsm rfl | exact owm_not (by assumption) hi hsm rfl | (intro he; have he2 : _ = _ := he; rw [he2] at hi; exact absurd hi (by assumption))) ?_)))))) (by omega) (by omega) (by conv => lhs; (try simp only [Nat.mul_one, Nat.zero_add, Int.toNat_natCast, Int.toNat_zero, Int.reduceToNat, Nat.reduceMul, Nat.reduceAdd]))) ?_
          refine H_run (.plain rfl) rfl rfl (r_fieldSl Try.underlying52 rfl (show _ = some 1 from rfl) rfl (show _ = 1 from rfl) rfl rfl) ?_
          refine H_run (.plain rfl) rfl rfl (r_loadSl rfl rfl (by (exact Sl.to (by first | assumption | exact Sl.own (by assumption) | exact Mu.sl (by assumption) | exact Ow.sl (by assumption)) (fun i hi => by (repeat (first | exact Sm.refl _ _ | (refine Sm.stepT (by assumption) (by intro hlt hsm; first | exact not_no | (intro he; have he2 : _ = _ := he; omega) | (intro he; have := he.1; omega) | exact bkm_not (by assumption) hsm rfl | exact owm_not (by assumption) hi hsm rfl | (intro he; have he2 : _ = _ := he; rw [he2] at hi; exact absurd hi (by assumption))) ?_)))))) (by first | assumption | exact hrow 0 _ rfl | exact hrow 1 _ rfl | (conv => lhs; simp only [List.getElem?_toArray, List.getElem?_cons_succ, List.getElem?_cons_zero]))) ?_
          refine H_run (.plain rfl) rfl rfl (r_buildA (vs := [(0, .int _ _), (1, .int _ _)]) (cells := [_, _]) Try.underlying50 rfl rfl (by rfl) rfl (by rfl)) ?_
          refine H_run (.plain rfl) rfl rfl (r_neqR (xs := #[.int _ _, .int _ _]) (ys := #[.int _ _, .int _ _]) rfl rfl (by kernel_rfl) (eqPair _ _ _ _ _)) ?_
          refine H_nil ?_
          refine W_if rfl (fun h192 => ?_) (fun h192 => ?_)
          · exfalso; refine h192 ⟨?_, ?_⟩ <;> rw [hst]
          · refine W_skip ?_
            refine W_region ?_
            refine L_run (.plain rfl) rfl rfl (r_move (v := .int _ _) rfl) ?_
            refine L_run (.plain rfl) rfl rfl (r_add rfl rfl (by first | exact wr_i64 (by omega) | rfl)) ?_
            refine L_run (.plain rfl) rfl rfl (r_assign (v := .int _ _) rfl) ?_
            refine L_nil ?_
            refine ⟨⟨rfl, rfl, trivial⟩, _, ?_, j + 1, rfl, ?_, rfl⟩
            · omega
            exact ⟨by omega, by (exact Sl.to (by first | assumption | exact Sl.own (by assumption) | exact Mu.sl (by assumption) | exact Ow.sl (by assumption)) (fun i hi => by (repeat (first | exact Sm.refl _ _ | (refine Sm.stepT (by assumption) (by intro hlt hsm; first | exact not_no | (intro he; have he2 : _ = _ := he; omega) | (intro he; have := he.1; omega) | exact bkm_not (by assumption) hsm rfl | exact owm_not (by assumption) hi hsm rfl | (intro he; have he2 : _ = _ := he; rw [he2] at hi; exact absurd hi (by assumption))) ?_))))), by (exact Bk.to (by assumption) (by (repeat (first | exact Sm.refl _ _ | (refine Sm.stepT (by assumption) (by intro hlt hsm; first | exact not_no | (intro he; have he2 : _ = _ := he; omega) | (intro he; have := he.1; omega) | exact bkm_not (by assumption) hsm rfl | exact owm_not (by assumption) hi hsm rfl | (intro he; have he2 : _ = _ := he; rw [he2] at hi; exact absurd hi (by assumption))) ?_))))), by (exact Ow.to (by first | assumption | exact Ow.of (by assumption)) (fun i hi => by (repeat (first | exact Sm.refl _ _ | (refine Sm.stepT (by assumption) (by intro hlt hsm; first | exact not_no | (intro he; have he2 : _ = _ := he; omega) | (intro he; have := he.1; omega) | exact bkm_not (by assumption) hsm rfl | exact owm_not (by assumption) hi hsm rfl | (intro he; have he2 : _ = _ := he; rw [he2] at hi; exact absurd hi (by assumption))) ?_))))), by (repeat (first | exact Ch.refl _ | assumption | (refine Ch.fresh ?_ (by assumption) (by intro i hi he; first | exact he | exact (not_no he).elim | exact Or.inl he | exact Or.inr (Or.inl he) | exact Or.inr (Or.inr he) | (exfalso; have he2 : _ = some i := he; have := own_base (by assumption) he2; omega) | (exfalso; have he2 : i = _ := he; omega) | (exfalso; have he2 : _ = some i := he; have := ow_base (by assumption) he2; omega) | (exfalso; have := he.1; omega) | (exfalso; have he2 : _ = some i := he; have := hlo _ he2; omega)))))⟩
        · refine W_exit ?_
          repeat (first | refine blk_hit ?_ | refine blk_miss rfl ?_)
          refine W_seq ?_
          refine W_region ?_
          refine L_run (.plain rfl) rfl rfl (r_assign (v := .bool _) rfl) ?_
          refine L_nil ?_
          refine W_ret ?_
          refine ret1 (v := .bool _) rfl rfl ?_
          exact ⟨rfl, by (repeat (first | exact Ch.refl _ | assumption | (refine Ch.fresh ?_ (by assumption) (by intro i hi he; first | exact he | exact (not_no he).elim | exact Or.inl he | exact Or.inr (Or.inl he) | exact Or.inr (Or.inr he) | (exfalso; have he2 : _ = some i := he; have := own_base (by assumption) he2; omega) | (exfalso; have he2 : i = _ := he; omega) | (exfalso; have he2 : _ = some i := he; have := ow_base (by assumption) he2; omega) | (exfalso; have := he.1; omega) | (exfalso; have he2 : _ = some i := he; have := hlo _ he2; omega)))))⟩
theorem ServerPlays_walk (most : Int) (v1 : Value) (z : List SAct) (w0 : World) (_ : -9223372036854775808 ≤ most ∧ most ≤ 9223372036854775807) (y1 : Sl w0 v1 9 z.length (cellsS z) ∧ ∀ a ∈ z, a.m.ok) :
    Does Try.prog 3 #[.int .i64 most, v1] w0 (fun r w' => r = .bool true ∧ Nw w0 w') := by
  by_cases hn : 1 ≤ most ∧ most ≤ 1024
  · exact plays_in most v1 z w0 hn y1.1 y1.2
  · exact plays_out most v1 w0 hn
end Go.Proofs.Ythpclaoniljfbaa

