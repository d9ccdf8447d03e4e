/- Behind an error nothing is read: PackStops, walked. -/
import Derived.Test.YtikpcphlmlgojaaDoorPackG
namespace Go.Proofs.YtikpcphlmlgojaaDoor
open Go Go.RowKit
set_option linter.unusedVariables false
set_option linter.unusedSimpArgs false
theorem icells_flat (z : List Int) : (z.flatMap fun x => [Value.int .i64 x]) = icells z := by
  induction z with
  | nil => rfl
  | cons x z ih => rw [List.flatMap_cons, ih]; rfl
theorem rd_63 {H : Type} {enc : TypeId × Value → H} {W : World} {b0 j : Nat} {v : Value} {d : DataW H} {p : List MemPlace} {R : Prop} (_ : R) (_ : 0 = 0) (_ : 0 = 0)
    (hok : Value.okWide Tryd.prog W .any b0 63 v) (h : DataW.Trod enc Tryd.prog W 0 (fun _ => true) true 63 v d p) : ∃ z : List Int, Sl W v 1 z.length (icells z) := by
  obtain ⟨z, hz, _⟩ := sl_arg (fun (x : Int) => [Value.int .i64 x]) 1 (fun _ => True) (fun _ => rfl) Tryd.underlying63 rfl (fun n cs y hy => by
    obtain ⟨n2, e2, _, k2⟩ := DataW.trod_int Tryd.underlying3 hy
    exact ⟨n2, e2, trivial⟩) hok h
  exact ⟨z, by rw [← icells_flat]; exact hz⟩
theorem numL_some : ∀ (l : List UInt8) (i : Nat), (numL i l).1 = 0 → 0 < (numL i l).2.2
  | [], i, h => by simp [numL] at h
  | c :: t, i, h => by
    unfold numL at h ⊢
    split
    · rename_i h1; rw [if_pos h1] at h; exact absurd h (by decide)
    · rename_i h1
      rw [if_neg h1] at h
      split
      · rename_i h2
        rw [if_pos h2] at h
        split
        · rename_i h3; rw [if_pos h3] at h; exact absurd h (by decide)
        · simp
      · simp
/-- One number on. -/
theorem stop_step {a i : Nat} {e : Int} {l : List UInt8} (h0 : e = 0) (h : i ≤ a) : (nxt (a, e) (numL 0 (l.drop a)).1 (numL 0 (l.drop a)).2.2).2 = 0 → i + 1 ≤ (nxt (a, e) (numL 0 (l.drop a)).1 (numL 0 (l.drop a)).2.2).1 := by
  intro h1
  subst h0
  by_cases h2 : (numL 0 (l.drop a)).1 = 0
  · rw [nxt_ok h2]
    have := numL_some _ _ h2
    show i + 1 ≤ a + _
    omega
  · rw [nxt_err h2] at h1; exact absurd h1 h2
theorem gotF_bad {a : Nat} {e : Int} (he : e ≠ 0) (kind most : Int) (m : List UInt8) : gotF (a, e) kind most m = Fld.none kind most := if_neg fun h => he h.1
theorem RdAt.down {base base' : Nat} {w : World} {b : Nat} {v : Value} {l : List UInt8} {a : Nat} {e : Int} (h : RdAt base w b v l a e) (hb : base' ≤ base) : RdAt base' w b v l a e := ⟨h.bk, Nat.le_trans hb h.hb, Ow.mono h.ow hb, h.ha, h.hl⟩
theorem lget_bad {base b : Nat} {v : Value} {l : List UInt8} {a : Nat} {e : Int} (kind most : Int) (w : World) (hR : RdAt base w b v l a e) (hT : Tabs base w) (hm : most ≤ 9223372036854775807) (hb : base ≤ w.heap.size) (he : e ≠ 0) :
    Does Tryd.prog 35 #[.pointer (some ⟨b, 0, none⟩), .int .i64 kind, .int .i64 most] w fun r w' => r = .agg #[.int .i64 kind, .int .i64 most, .int .u64 0, .int .i64 0, .bool false, .string { data := #[] }] ∧ RdAt base w' b v l a e ∧ Ch (fun j => j = b) w w' :=
  (lget_walk base b v l a e kind most w hR hT hm hb).mono fun r w' ⟨h1, h2, h3⟩ => by
    rw [gotF_bad he] at h1
    rw [nxt_bad he] at h2
    exact ⟨h1, h2, h3⟩
theorem icells_at (z : List Int) (i : Nat) (h : i < z.length) : (icells z)[i]? = some (.int .i64 z[i]) := icells_get z i h
set_option maxHeartbeats 1000000 in
set_option maxRecDepth 100000 in
theorem PackStops_walk (s : ByteArray) (v1 : Value) (z : List Int) (w0 : World) (x0 : s.size ≤ 140737488351232) (y1 : Sl w0 v1 1 z.length (icells z)) (hT : Tabs w0.heap.size w0) : Does Tryd.prog 10 #[.string s, v1] w0 (fun r w' => r = .bool true ∧ Nw w0 w') := by
  have hbl := bs_length s
  refine fn_of (n := 104) (args := [.string s, v1]) Tryd.func10 rfl rfl rfl ?_
  refine W_seq ?_
  refine W_region ?_
  refine L_run (.plain rfl) rfl rfl (r_assign (v := .bool _) rfl) ?_
  refine L_nil ?_
  refine W_seq ?_
  refine W_seq ?_
  refine W_region ?_
  refine L_run (.plain rfl) rfl rfl (r_move (v := .string _) rfl) ?_
  refine L_run (.plain rfl) rfl rfl (r_lens Tryd.underlying9 rfl) ?_
  refine L_run (.plain rfl) rfl rfl (r_gtr rfl rfl) ?_
  refine L_run (.plain rfl) rfl rfl (r_move (v := .bool _) rfl) ?_
  refine L_case (d := 19) rfl (fun h19 => ?_) (fun h19 => ?_)
  · refine L_pass rfl rfl rfl rfl rfl ?_
    refine L_pass rfl rfl rfl rfl rfl ?_
    refine L_pass rfl rfl rfl rfl rfl ?_
    refine L_run (.plain rfl) rfl rfl (r_pick_t (v := .bool _) rfl rfl) ?_
    refine L_nil ?_
    refine W_true rfl ?_
    refine W_seq ?_
    refine W_region ?_
    refine L_call (.plain rfl) rfl rfl (r_call Tryd.func11 rfl rfl rfl (by rfl)) (awake_walk w0.heap.size _ (hT.nw (by (repeat (first | exact Ch.refl _ | assumption | (refine Ch.fresh ?_ (by assumption) (by intro i hi he; first | exact he | (exfalso; have he2 : i = _ := he; omega)))))) (by omega)) (by omega)) ?_
    rintro v24 w1 ⟨rfl, c1⟩
    have hz1 := c1.size
    refine L_run (.plain rfl) rfl rfl (r_assign (v := .bool _) rfl) ?_
    refine L_nil ?_
    refine W_ret ?_
    refine ret1 (v := .bool _) rfl rfl ?_
    refine ⟨?_, by (repeat (first | exact Ch.refl _ | assumption | (refine Ch.fresh ?_ (by assumption) (by intro i hi he; first | exact he | (exfalso; have he2 : i = _ := he; omega)))))⟩
    first
    | exact congrArg Value.bool (decide_eq_true (E3.trans (by omega)))
    | exact absurd (E2.trans E3.symm) h90
    | exact absurd E1 h85
    | exact absurd he h80
    | exact absurd rfl h96
    | exact rfl
  · refine L_run (.yes 3 false rfl rfl) rfl rfl (r_move (by conv => lhs; whnf)) ?_
    refine L_run (.yes 3 false rfl rfl) rfl rfl (r_lenSl Tryd.underlying63 (by conv => lhs; whnf) (by (exact Sl.to (by first | assumption | exact Sl.own (by assumption) | exact Mu.sl (by assumption) | exact Ow.sl (by assumption)) (fun i hi => by (repeat (first | exact Sm.refl _ _ | (refine Sm.stepT (by assumption) (by intro hlt hsm; exact not_no) ?_))))))) ?_
    refine L_run (.yes 3 false rfl rfl) rfl rfl (r_gtr rfl rfl) ?_
    refine L_run (.plain rfl) rfl rfl (r_pick_f (v := .bool _) rfl rfl) ?_
    refine L_nil ?_
    refine W_if rfl (fun h23 => ?_) (fun h23 => ?_)
    · refine W_seq ?_
      refine W_region ?_
      refine L_call (.plain rfl) rfl rfl (r_call Tryd.func11 rfl rfl rfl (by rfl)) (awake_walk w0.heap.size _ (hT.nw (by (repeat (first | exact Ch.refl _ | assumption | (refine Ch.fresh ?_ (by assumption) (by intro i hi he; first | exact he | (exfalso; have he2 : i = _ := he; omega)))))) (by omega)) (by omega)) ?_
      rintro v24 w2 ⟨rfl, c2⟩
      have hz2 := c2.size
      refine L_run (.plain rfl) rfl rfl (r_assign (v := .bool _) rfl) ?_
      refine L_nil ?_
      refine W_ret ?_
      refine ret1 (v := .bool _) rfl rfl ?_
      refine ⟨?_, by (repeat (first | exact Ch.refl _ | assumption | (refine Ch.fresh ?_ (by assumption) (by intro i hi he; first | exact he | (exfalso; have he2 : i = _ := he; omega)))))⟩
      first
      | exact congrArg Value.bool (decide_eq_true (E3.trans (by omega)))
      | exact absurd (E2.trans E3.symm) h90
      | exact absurd E1 h85
      | exact absurd he h80
      | exact absurd rfl h96
      | exact rfl
    · refine W_skip ?_
      refine W_seq ?_
      refine W_region ?_
      refine L_run (.plain rfl) rfl rfl (r_move (v := .string _) rfl) ?_
      refine L_sbytes Tryd.underlying9 Tryd.underlying26 Tryd.underlying5 (by first | omega | (simp only [sb_size, ByteArray.size_append]; omega)) (.plain rfl) rfl rfl (fun v26 w3 hv26 c3 eb3 hs3 => ?_)
      refine L_call (.plain rfl) rfl rfl (r_call Tryd.func27 rfl rfl rfl (by rfl)) (read_walk _ (bs s) _ (by (exact Sl.to (by first | assumption | exact Sl.own (by assumption) | exact Mu.sl (by assumption) | exact Ow.sl (by assumption)) (fun i hi => by (repeat (first | exact Sm.refl _ _ | (refine Sm.stepT (by assumption) (by intro hlt hsm; exact not_no) ?_)))))) (by omega)) ?_
      rintro v27 w4 ⟨b3, v3, rfl, hR3, c4⟩
      have hz4 := c4.size
      have hlo3 := hR3.hb
      refine L_run (.plain rfl) rfl rfl (r_assign (v := .pointer _) rfl) ?_
      refine L_nil ?_
      refine W_seq ?_
      refine W_seq ?_
      refine W_region ?_
      refine L_call (.plain rfl) rfl rfl (r_call Tryd.func11 rfl rfl rfl (by rfl)) (awake_walk w0.heap.size _ (hT.nw (by (repeat (first | exact Ch.refl _ | assumption | (refine Ch.fresh ?_ (by assumption) (by intro i hi he; first | exact he | (exfalso; have he2 : i = _ := he; omega)))))) (by omega)) (by omega)) ?_
      rintro v28 w5 ⟨rfl, c5⟩
      have hz5 := c5.size
      refine L_run (.plain rfl) rfl rfl (r_not rfl) ?_
      refine L_as (v := .bool _) (v' := .bool false) 29 rfl (congrArg Value.bool (by simp)) ?_
      refine L_run (.plain rfl) rfl rfl (r_move (v := .bool _) rfl) ?_
      refine L_run (.yes 2 false rfl rfl) rfl rfl (r_move (v := .pointer _) rfl) ?_
      refine L_run (.yes 2 false rfl rfl) rfl rfl (r_eqpnil Tryd.underlying46 rfl rfl) ?_
      refine L_run (.plain rfl) rfl rfl (r_pick_f (v := .bool _) rfl rfl) ?_
      refine L_as (v := .bool _) (v' := .bool false) 33 rfl (congrArg Value.bool (by simp)) ?_
      refine L_nil ?_
      refine W_false rfl ?_
      refine W_skip ?_
      refine W_seq ?_
      refine W_seq ?_
      refine W_region ?_
      refine L_run (.plain rfl) rfl rfl (r_assign (v := .int _ _) rfl) ?_
      refine L_nil ?_
      refine W_endF [0, 1, 5] (fun f W => ∃ (a : Nat) (e : Int), True ∧ (RdAt w0.heap.size W b3 v3 (bs s) a e ∧ e ≠ 0 ∧ Nw w0 W)) ?_ ?_
      · refine W_block ?_
        refine W_loopF [0, 1, 5] (fun mz_ f W => ∃ (i : Nat) (a' : Nat) (e' : Int), f 6 = .int .i64 i ∧ (i ≤ 2000 ∧ RdAt w0.heap.size W b3 v3 (bs s) a' e' ∧ (e' = 0 → i ≤ a') ∧ Nw w0 W) ∧ mz_ = 2000 - i) ?_ ?_
        · refine ⟨_, 0, 0, 0, rfl, ?_, rfl⟩
          exact ⟨by omega, (hR3.down (by omega)).nw (by (repeat (first | exact Ch.refl _ | assumption | (refine Ch.fresh ?_ (by assumption) (by intro i hi he; first | exact he | (exfalso; have he2 : i = _ := he; omega)))))), fun _ => by omega, by (repeat (first | exact Ch.refl _ | assumption | (refine Ch.fresh ?_ (by assumption) (by intro i hi he; first | exact he | (exfalso; have he2 : i = _ := he; omega)))))⟩
        rintro m0 g0 w6 ⟨i, a', e', hf6, hR0, rfl⟩
        refine W_as 6 hf6 rfl ?_
        clear hf6
        obtain ⟨hi, hR, hia, hnw⟩ := hR0
        have hz := hnw.size
        refine W_seq ?_
        refine W_seq ?_
        refine W_region ?_
        refine L_run (.plain rfl) rfl rfl (r_move (v := .int _ _) rfl) ?_
        refine L_run (.plain rfl) rfl rfl (r_lss rfl rfl) ?_
        refine L_nil ?_
        refine W_if rfl (fun h35 => ?_) (fun h35 => ?_)
        · refine W_skip ?_
          refine W_seq ?_
          refine W_block ?_
          refine W_seq ?_
          refine W_seq ?_
          refine W_region ?_
          refine L_run (.plain rfl) rfl rfl (r_move (v := .pointer _) rfl) ?_
          refine L_call (.plain rfl) rfl rfl (r_call Tryd.func36 rfl rfl rfl (by rfl)) (err_walk _ b3 _ _ _ _ _ (hR.nw (by (repeat (first | exact Ch.refl _ | assumption | (refine Ch.fresh ?_ (by assumption) (by intro i hi he; first | exact he | (exfalso; have he2 : i = _ := he; omega)))))))) ?_
          rintro v40 w7 ⟨rfl, c7⟩
          have hz7 := c7.size
          refine L_run (.plain rfl) rfl rfl (r_move (by conv => lhs; whnf)) ?_
          refine L_run (.plain rfl) rfl rfl (r_ext2_0 rfl) ?_
          refine L_run (.plain rfl) rfl rfl (r_ext2_1 rfl) ?_
          refine L_run (.plain rfl) rfl rfl (r_assign (v := .int _ _) rfl) ?_
          refine L_run (.plain rfl) rfl rfl (r_assign (v := .int _ _) rfl) ?_
          refine L_nil ?_
          refine W_seq ?_
          refine W_region ?_
          refine L_run (.plain rfl) rfl rfl (r_move (v := .int _ _) rfl) ?_
          refine L_run (.plain rfl) rfl rfl (r_neq rfl rfl) ?_
          refine L_nil ?_
          refine W_if rfl (fun h44 => ?_) (fun h44 => ?_)
          · refine W_exit ?_
            repeat (first | refine blk_hit ?_ | refine blk_miss rfl ?_)
            refine ⟨⟨rfl, rfl, rfl, trivial⟩, a', e', trivial, ?_⟩
            first
            | exact ⟨hR.nw (by (repeat (first | exact Ch.refl _ | assumption | (refine Ch.fresh ?_ (by assumption) (by intro i hi he; first | exact he | (exfalso; have he2 : i = _ := he; omega)))))), h44, by (repeat (first | exact Ch.refl _ | assumption | (refine Ch.fresh ?_ (by assumption) (by intro i hi he; first | exact he | (exfalso; have he2 : i = _ := he; omega)))))⟩
            | (have ha := hR.ha
               exact ⟨hR.nw (by (repeat (first | exact Ch.refl _ | assumption | (refine Ch.fresh ?_ (by assumption) (by intro i hi he; first | exact he | (exfalso; have he2 : i = _ := he; omega)))))), fun h => by have := hia h; omega, by (repeat (first | exact Ch.refl _ | assumption | (refine Ch.fresh ?_ (by assumption) (by intro i hi he; first | exact he | (exfalso; have he2 : i = _ := he; omega)))))⟩)
          · refine W_skip ?_
            refine W_region ?_
            refine L_run (.plain rfl) rfl rfl (r_move (v := .pointer _) rfl) ?_
            refine L_call (.plain rfl) rfl rfl (r_call Tryd.func28 rfl rfl rfl (by rfl)) (rdnum_walk _ b3 _ _ _ _ _ (hR.nw (by (repeat (first | exact Ch.refl _ | assumption | (refine Ch.fresh ?_ (by assumption) (by intro i hi he; first | exact he | (exfalso; have he2 : i = _ := he; omega))))))) (by omega)) ?_
            rintro v46 w8 ⟨rfl, hR1, c8⟩
            have hz8 := c8.size
            refine L_nil ?_
            refine W_region ?_
            refine L_run (.plain rfl) rfl rfl (r_move (v := .int _ _) rfl) ?_
            refine L_run (.plain rfl) rfl rfl (r_add rfl rfl (by first | exact wr_i64 (by omega) | rfl)) ?_
            refine L_run (.plain rfl) rfl rfl (r_assign (v := .int _ _) rfl) ?_
            refine L_nil ?_
            refine ⟨⟨rfl, rfl, rfl, trivial⟩, _, ?_, i + 1, (nxt (a', e') (numL 0 ((bs s).drop a')).1 (numL 0 ((bs s).drop a')).2.2).1, (nxt (a', e') (numL 0 ((bs s).drop a')).1 (numL 0 ((bs s).drop a')).2.2).2, rfl, ?_, rfl⟩
            · omega
            exact ⟨by omega, hR1.nw (by (repeat (first | exact Ch.refl _ | assumption | (refine Ch.fresh ?_ (by assumption) (by intro i hi he; first | exact he | (exfalso; have he2 : i = _ := he; omega)))))), stop_step (Classical.not_not.1 h44) (hia (Classical.not_not.1 h44)), by (repeat (first | exact Ch.refl _ | assumption | (refine Ch.fresh ?_ (by assumption) (by intro i hi he; first | exact he | (exfalso; have he2 : i = _ := he; omega)))))⟩
        · refine W_exit ?_
          repeat (first | refine blk_hit ?_ | refine blk_miss rfl ?_)
          refine ⟨⟨rfl, rfl, rfl, trivial⟩, a', e', trivial, ?_⟩
          first
          | exact ⟨hR.nw (by (repeat (first | exact Ch.refl _ | assumption | (refine Ch.fresh ?_ (by assumption) (by intro i hi he; first | exact he | (exfalso; have he2 : i = _ := he; omega)))))), h44, by (repeat (first | exact Ch.refl _ | assumption | (refine Ch.fresh ?_ (by assumption) (by intro i hi he; first | exact he | (exfalso; have he2 : i = _ := he; omega)))))⟩
          | (have ha := hR.ha
             exact ⟨hR.nw (by (repeat (first | exact Ch.refl _ | assumption | (refine Ch.fresh ?_ (by assumption) (by intro i hi he; first | exact he | (exfalso; have he2 : i = _ := he; omega)))))), fun h => by have := hia h; omega, by (repeat (first | exact Ch.refl _ | assumption | (refine Ch.fresh ?_ (by assumption) (by intro i hi he; first | exact he | (exfalso; have he2 : i = _ := he; omega)))))⟩)
      rintro gcb0 w9 ⟨a, e, -, hCb0⟩
      obtain ⟨hRa, he, hnw⟩ := hCb0
      have hz := hnw.size
      have E1 : (if e = 0 ∧ a ≠ (bs s).length then 13 else e) = e := if_neg fun h => he h.1
      have E2 : (if e = 0 ∧ a = (bs s).length then 0 else (a : Int)) = a := if_neg fun h => he h.1
      have E3 : (if e = 0 then 0 else (a : Int)) = a := if_neg he
      have hal := hRa.ha
      refine W_seq ?_
      refine W_region ?_
      refine L_run (.plain rfl) rfl rfl (r_move (v := .pointer _) rfl) ?_
      refine L_call (.plain rfl) rfl rfl (r_call Tryd.func36 rfl rfl rfl (by rfl)) (err_walk _ b3 _ _ _ _ _ (hRa.nw (by (repeat (first | exact Ch.refl _ | assumption | (refine Ch.fresh ?_ (by assumption) (by intro i hi he; first | exact he | (exfalso; have he2 : i = _ := he; omega)))))))) ?_
      rintro v49 w10 ⟨rfl, c10⟩
      have hz10 := c10.size
      refine L_run (.plain rfl) rfl rfl (r_move (by conv => lhs; whnf)) ?_
      refine L_run (.plain rfl) rfl rfl (r_ext2_0 rfl) ?_
      refine L_run (.plain rfl) rfl rfl (r_ext2_1 rfl) ?_
      refine L_run (.plain rfl) rfl rfl (r_assign (v := .int _ _) rfl) ?_
      refine L_run (.plain rfl) rfl rfl (r_assign (v := .int _ _) rfl) ?_
      refine L_nil ?_
      refine W_seq ?_
      refine W_region ?_
      refine L_run (.plain rfl) rfl rfl (r_move (v := .pointer _) rfl) ?_
      refine L_call (.plain rfl) rfl rfl (r_call Tryd.func33 rfl rfl rfl (by rfl)) (left_walk _ b3 _ _ _ _ _ (hRa.nw (by (repeat (first | exact Ch.refl _ | assumption | (refine Ch.fresh ?_ (by assumption) (by intro i hi he; first | exact he | (exfalso; have he2 : i = _ := he; omega)))))))) ?_
      rintro v53 w11 ⟨rfl, c11⟩
      have hz11 := c11.size
      refine L_run (.plain rfl) rfl rfl (r_assign (v := .int _ _) rfl) ?_
      refine L_nil ?_
      refine W_seq ?_
      refine W_seq ?_
      refine W_region ?_
      refine L_run (.plain rfl) rfl rfl (r_assign (v := .int _ _) rfl) ?_
      refine L_nil ?_
      refine W_block ?_
      refine W_loopF [0, 1, 5, 9, 10, 11] (fun mz_ f W => ∃ (i : Nat), f 12 = .int .i64 i ∧ (i ≤ z.length ∧ RdAt w0.heap.size W b3 v3 (bs s) a e ∧ Nw w0 W) ∧ mz_ = z.length - i) ?_ ?_
      · refine ⟨_, 0, rfl, ?_, rfl⟩
        exact ⟨by omega, hRa.nw (by (repeat (first | exact Ch.refl _ | assumption | (refine Ch.fresh ?_ (by assumption) (by intro i hi he; first | exact he | (exfalso; have he2 : i = _ := he; omega)))))), by (repeat (first | exact Ch.refl _ | assumption | (refine Ch.fresh ?_ (by assumption) (by intro i hi he; first | exact he | (exfalso; have he2 : i = _ := he; omega)))))⟩
      rintro m1 g1 w12 ⟨i, hf12, hR1, rfl⟩
      refine W_as 12 hf12 rfl ?_
      clear hf12
      obtain ⟨hi, hRb, hnw⟩ := hR1
      have hz := hnw.size
      have hsl := Sl.nw hnw y1
      refine W_seq ?_
      refine W_seq ?_
      refine W_region ?_
      refine L_run (.plain rfl) rfl rfl (r_move (v := .int _ _) rfl) ?_
      refine L_run (.plain rfl) rfl rfl (r_move (by conv => lhs; whnf)) ?_
      refine L_run (.plain rfl) rfl rfl (r_lenSl Tryd.underlying63 (by conv => lhs; whnf) (by (exact Sl.to (by first | assumption | exact Sl.own (by assumption) | exact Mu.sl (by assumption) | exact Ow.sl (by assumption)) (fun i hi => by (repeat (first | exact Sm.refl _ _ | (refine Sm.stepT (by assumption) (by intro hlt hsm; exact not_no) ?_))))))) ?_
      refine L_run (.plain rfl) rfl rfl (r_lss rfl rfl) ?_
      refine L_nil ?_
      refine W_if rfl (fun h57 => ?_) (fun h57 => ?_)
      · have hin : i < z.length := by omega
        refine W_skip ?_
        refine W_seq ?_
        refine W_block ?_
        refine W_seq ?_
        refine W_region ?_
        refine L_run (.plain rfl) rfl rfl (r_move (v := .pointer _) rfl) ?_
        refine L_run (.plain rfl) rfl rfl (r_move (by conv => lhs; whnf)) ?_
        refine L_run (.plain rfl) rfl rfl (r_move (v := .int _ _) rfl) ?_
        refine L_run (.plain rfl) rfl rfl (r_idxSl Tryd.underlying63 (show _ = some 1 from rfl) (by conv => lhs; whnf) rfl (by (exact Sl.to (by first | assumption | exact Sl.own (by assumption) | exact Mu.sl (by assumption) | exact Ow.sl (by assumption)) (fun i hi => by (repeat (first | exact Sm.refl _ _ | (refine Sm.stepT (by assumption) (by intro hlt hsm; exact not_no) ?_)))))) (by omega) (by omega) (by conv => lhs; (try simp only [Nat.mul_one, Nat.zero_add, Int.toNat_natCast, Int.toNat_zero, Int.reduceToNat, Nat.reduceMul, Nat.reduceAdd]))) ?_
        refine L_run (.plain rfl) rfl rfl (r_loadSl rfl rfl (by (exact Sl.to (by first | assumption | exact Sl.own (by assumption) | exact Mu.sl (by assumption) | exact Ow.sl (by assumption)) (fun i hi => by (repeat (first | exact Sm.refl _ _ | (refine Sm.stepT (by assumption) (by intro hlt hsm; exact not_no) ?_)))))) (by first | assumption | exact icells_get _ _ (by omega) | (conv => lhs; simp only [List.getElem?_toArray, List.getElem?_cons_succ, List.getElem?_cons_zero]))) ?_
        refine L_call (.plain rfl) rfl rfl (r_call Tryd.func35 rfl rfl rfl (by rfl)) (lget_bad z[i] 9 _ (hRb.nw (by (repeat (first | exact Ch.refl _ | assumption | (refine Ch.fresh ?_ (by assumption) (by intro i hi he; first | exact he | (exfalso; have he2 : i = _ := he; omega))))))) (hT.nw (by (repeat (first | exact Ch.refl _ | assumption | (refine Ch.fresh ?_ (by assumption) (by intro i hi he; first | exact he | (exfalso; have he2 : i = _ := he; omega)))))) (by omega)) (by omega) (by omega) he) ?_
        rintro v65 w13 ⟨rfl, hRc, c13⟩
        have hz13 := c13.size
        refine L_new (.plain rfl) rfl rfl (r_alloca rfl) (fun w14 b13 hb13 eb14 hs14 c14 => ?_)
        refine L_storerow (.plain rfl) rfl rfl (by (exact Bk.to (by assumption) (by (repeat (first | exact Sm.refl _ _ | (refine Sm.stepT (by assumption) (by intro hlt hsm; exact not_no) ?_)))))) (by first | rfl | (simp; done) | assumption) (by first | rfl | assumption) (by first | rfl | (simp [Value.oneCell']; done) | assumption) (fun w15 hb15 hs15 c15 => ?_)
        refine L_nil ?_
        refine W_seq ?_
        refine W_draw (fun W => Bk W b13 #[.int .i64 z[i], .int .i64 9, .int .u64 0, .int .i64 0, .bool false, .string { data := #[] }] 35 ∧ Sl W v1 1 z.length (icells z)) 7 (m := 7) (by kernel_rfl) rfl (fun w16 c16 hs16 => ?_)
        refine held (by exact ⟨by (exact Bk.to (by assumption) (by (repeat (first | exact Sm.refl _ _ | (refine Sm.stepT (by assumption) (by intro hlt hsm; exact not_no) ?_))))), Sl.nw (by (repeat (first | exact Ch.refl _ | assumption | (refine Ch.fresh ?_ (by assumption) (by intro i hi he; first | exact he | (exfalso; have he2 : i = _ := he; omega)))))) y1⟩) (fun hS => ?_)
        refine D_take 0 rfl (by kernel_rfl) (by kernel_rfl) (by kernel_rfl) (by kernel_rfl) (.plain rfl) rfl rfl (by assumption) (fun W hW => r_loadrow Tryd.underlying35 rfl rfl (by first | exact hW.1 | exact hW.2) (by first | rfl | assumption)) ?_
        refine D_take 1 rfl (by kernel_rfl) (by kernel_rfl) (by kernel_rfl) (by kernel_rfl) (.plain rfl) rfl rfl (by assumption) (fun W hW => r_move (by conv => lhs; whnf)) ?_
        refine D_take 2 rfl (by kernel_rfl) (by kernel_rfl) (by kernel_rfl) (by kernel_rfl) (.plain rfl) rfl rfl (by assumption) (fun W hW => r_move (v := .int _ _) rfl) ?_
        refine D_take 3 rfl (by kernel_rfl) (by kernel_rfl) (by kernel_rfl) (by kernel_rfl) (.plain rfl) rfl rfl (by assumption) (fun W hW => r_idxSl Tryd.underlying63 (show _ = some 1 from rfl) (by conv => lhs; whnf) rfl (by first | exact hW.1 | exact hW.2) (by omega) (by omega) (by conv => lhs; (try simp only [Nat.mul_one, Nat.zero_add, Int.toNat_natCast, Int.toNat_zero, Int.reduceToNat, Nat.reduceMul, Nat.reduceAdd]))) ?_
        refine D_take 4 rfl (by kernel_rfl) (by kernel_rfl) (by kernel_rfl) (by kernel_rfl) (.plain rfl) rfl rfl (by assumption) (fun W hW => r_loadSl rfl rfl (by first | exact hW.1 | exact hW.2) (by first | assumption | exact icells_get _ _ (by omega) | (conv => lhs; simp only [List.getElem?_toArray, List.getElem?_cons_succ, List.getElem?_cons_zero]))) ?_
        refine D_take 5 rfl (by kernel_rfl) (by kernel_rfl) (by kernel_rfl) (by kernel_rfl) (.plain rfl) rfl rfl (by assumption) (fun W hW => r_build1 (pl := [(0, 1), (1, 1), (2, 1), (3, 1), (4, 1), (5, 1)]) (vs := [(0, .int _ _), (1, .int _ _)]) (cells := [_, _, _, _, _, _]) Tryd.underlying35 rfl rfl (by rfl) rfl (by rfl)) ?_
        refine D_take 6 rfl (by kernel_rfl) (by kernel_rfl) (by kernel_rfl) (by kernel_rfl) (.plain rfl) rfl rfl (by assumption) (fun W hW => r_neqR (xs := #[.int _ _, .int _ _, .int _ _, .int _ _, .bool _, .string _]) (ys := #[.int _ _, .int _ _, .int _ _, .int _ _, .bool _, .string _]) rfl rfl (by kernel_rfl) (eqFld _ _ _ _ _ _ _ _ _ _ _ _ _)) ?_
        refine D_as (v := .bool _) (v' := .bool false) 72 rfl (dec_f (by simp)).symm ?_
        refine D_done (by kernel_rfl) ?_
        refine W_false rfl ?_
        refine W_skip ?_
        refine W_region ?_
        refine L_run (.plain rfl) rfl rfl (r_move (v := .int _ _) rfl) ?_
        refine L_run (.plain rfl) rfl rfl (r_add rfl rfl (by first | exact wr_i64 (by omega) | rfl)) ?_
        refine L_run (.plain rfl) rfl rfl (r_assign (v := .int _ _) rfl) ?_
        refine L_nil ?_
        refine ⟨⟨rfl, rfl, rfl, rfl, rfl, rfl, trivial⟩, _, ?_, i + 1, rfl, ?_, rfl⟩
        · omega
        exact ⟨by omega, hRc.nw (by (repeat (first | exact Ch.refl _ | assumption | (refine Ch.fresh ?_ (by assumption) (by intro i hi he; first | exact he | (exfalso; have he2 : i = _ := he; omega)))))), by (repeat (first | exact Ch.refl _ | assumption | (refine Ch.fresh ?_ (by assumption) (by intro i hi he; first | exact he | (exfalso; have he2 : i = _ := he; omega)))))⟩
      · refine W_exit ?_
        repeat (first | refine blk_hit ?_ | refine blk_miss rfl ?_)
        refine W_seq ?_
        refine W_region ?_
        refine L_run (.plain rfl) rfl rfl (r_move (v := .pointer _) rfl) ?_
        refine L_call (.plain rfl) rfl rfl (r_call Tryd.func32 rfl rfl rfl (by rfl)) (rdend_walk _ b3 _ _ _ _ _ (hRb.nw (by (repeat (first | exact Ch.refl _ | assumption | (refine Ch.fresh ?_ (by assumption) (by intro i hi he; first | exact he | (exfalso; have he2 : i = _ := he; omega)))))))) ?_
        rintro v75 w17 ⟨rfl, c17⟩
        have hz17 := c17.size
        refine L_run (.plain rfl) rfl rfl (r_move (by conv => lhs; whnf)) ?_
        refine L_run (.plain rfl) rfl rfl (r_ext2_0 rfl) ?_
        refine L_run (.plain rfl) rfl rfl (r_ext2_1 rfl) ?_
        refine L_run (.plain rfl) rfl rfl (r_assign (v := .int _ _) rfl) ?_
        refine L_run (.plain rfl) rfl rfl (r_assign (v := .int _ _) rfl) ?_
        refine L_nil ?_
        refine W_seq ?_
        refine W_region ?_
        refine L_run (.plain rfl) rfl rfl (r_move (v := .int _ _) rfl) ?_
        refine L_run (.plain rfl) rfl rfl (r_neq rfl rfl) ?_
        refine L_run (.plain rfl) rfl rfl (r_move (v := .bool _) rfl) ?_
        refine L_case (d := 80) rfl (fun h80 => ?_) (fun h80 => ?_)
        · refine L_run (.yes 2 true rfl rfl) rfl rfl (r_move (v := .int _ _) rfl) ?_
          refine L_run (.yes 2 true rfl rfl) rfl rfl (r_move (v := .int _ _) rfl) ?_
          refine L_run (.yes 2 true rfl rfl) rfl rfl (r_eql rfl rfl) ?_
          refine L_run (.plain rfl) rfl rfl (r_pick_t (v := .bool _) rfl rfl) ?_
          refine L_run (.plain rfl) rfl rfl (r_move (v := .bool _) rfl) ?_
          refine L_case (d := 85) rfl (fun h85 => ?_) (fun h85 => ?_)
          · refine L_run (.yes 7 true rfl rfl) rfl rfl (r_move (v := .int _ _) rfl) ?_
            refine L_run (.yes 7 true rfl rfl) rfl rfl (r_move (v := .int _ _) rfl) ?_
            refine L_run (.yes 7 true rfl rfl) rfl rfl (r_eql rfl rfl) ?_
            refine L_run (.plain rfl) rfl rfl (r_pick_t (v := .bool _) rfl rfl) ?_
            refine L_run (.plain rfl) rfl rfl (r_move (v := .bool _) rfl) ?_
            refine L_case (d := 90) rfl (fun h90 => ?_) (fun h90 => ?_)
            · refine L_run (.yes 12 true rfl rfl) rfl rfl (r_move (v := .pointer _) rfl) ?_
              refine L_call (.yes 12 true rfl rfl) rfl rfl (r_call Tryd.func33 rfl rfl rfl (by rfl)) (left_walk _ b3 _ _ _ _ _ (hRb.nw (by (repeat (first | exact Ch.refl _ | assumption | (refine Ch.fresh ?_ (by assumption) (by intro i hi he; first | exact he | (exfalso; have he2 : i = _ := he; omega)))))))) ?_
              rintro v92 w18 ⟨rfl, c18⟩
              have hz18 := c18.size
              refine L_run (.yes 12 true rfl rfl) rfl rfl (r_move (v := .int _ _) rfl) ?_
              refine L_run (.yes 12 true rfl rfl) rfl rfl (r_eql rfl rfl) ?_
              refine L_run (.plain rfl) rfl rfl (r_pick_t (v := .bool _) rfl rfl) ?_
              refine L_run (.plain rfl) rfl rfl (r_move (v := .bool _) rfl) ?_
              refine L_case (d := 96) rfl (fun h96 => ?_) (fun h96 => ?_)
              · refine L_run (.yes 18 true rfl rfl) rfl rfl (r_move (v := .int _ _) rfl) ?_
                refine L_run (.yes 18 true rfl rfl) rfl rfl (r_move (v := .string _) rfl) ?_
                refine L_run (.yes 18 true rfl rfl) rfl rfl (r_lens Tryd.underlying9 rfl) ?_
                refine L_run (.yes 18 true rfl rfl) rfl rfl (r_move (v := .int _ _) rfl) ?_
                refine L_run (.yes 18 true rfl rfl) rfl rfl (r_sub rfl rfl (by first | exact wr_i64 (by omega) | rfl)) ?_
                refine L_run (.yes 18 true rfl rfl) rfl rfl (r_eql rfl rfl) ?_
                refine L_run (.plain rfl) rfl rfl (r_pick_t (v := .bool _) rfl rfl) ?_
                refine L_run (.plain rfl) rfl rfl (r_assign (v := .bool _) rfl) ?_
                refine L_nil ?_
                refine W_ret ?_
                refine ret1 (v := .bool _) rfl rfl ?_
                refine ⟨?_, by (repeat (first | exact Ch.refl _ | assumption | (refine Ch.fresh ?_ (by assumption) (by intro i hi he; first | exact he | (exfalso; have he2 : i = _ := he; omega)))))⟩
                first
                | exact congrArg Value.bool (decide_eq_true (E3.trans (by omega)))
                | exact absurd (E2.trans E3.symm) h90
                | exact absurd E1 h85
                | exact absurd he h80
                | exact absurd rfl h96
                | exact rfl
              · refine L_pass rfl rfl rfl rfl rfl ?_
                refine L_pass rfl rfl rfl rfl rfl ?_
                refine L_pass rfl rfl rfl rfl rfl ?_
                refine L_pass rfl rfl rfl rfl rfl ?_
                refine L_pass rfl rfl rfl rfl rfl ?_
                refine L_pass rfl rfl rfl rfl rfl ?_
                refine L_run (.plain rfl) rfl rfl (r_pick_f (v := .bool _) rfl rfl) ?_
                refine L_run (.plain rfl) rfl rfl (r_assign (v := .bool _) rfl) ?_
                refine L_nil ?_
                refine W_ret ?_
                refine ret1 (v := .bool _) rfl rfl ?_
                refine ⟨?_, by (repeat (first | exact Ch.refl _ | assumption | (refine Ch.fresh ?_ (by assumption) (by intro i hi he; first | exact he | (exfalso; have he2 : i = _ := he; omega)))))⟩
                first
                | exact congrArg Value.bool (decide_eq_true (E3.trans (by omega)))
                | exact absurd (E2.trans E3.symm) h90
                | exact absurd E1 h85
                | exact absurd he h80
                | exact absurd rfl h96
                | exact rfl
            · refine L_pass rfl rfl rfl rfl rfl ?_
              refine L_pass rfl rfl rfl rfl rfl ?_
              refine L_pass rfl rfl rfl rfl rfl ?_
              refine L_pass rfl rfl rfl rfl rfl ?_
              refine L_run (.plain rfl) rfl rfl (r_pick_f (v := .bool _) rfl rfl) ?_
              refine L_run (.plain rfl) rfl rfl (r_move (v := .bool _) rfl) ?_
              refine L_pass rfl rfl rfl rfl rfl ?_
              refine L_pass rfl rfl rfl rfl rfl ?_
              refine L_pass rfl rfl rfl rfl rfl ?_
              refine L_pass rfl rfl rfl rfl rfl ?_
              refine L_pass rfl rfl rfl rfl rfl ?_
              refine L_pass rfl rfl rfl rfl rfl ?_
              refine L_run (.plain rfl) rfl rfl (r_pick_f (v := .bool _) rfl rfl) ?_
              refine L_run (.plain rfl) rfl rfl (r_assign (v := .bool _) rfl) ?_
              refine L_nil ?_
              refine W_ret ?_
              refine ret1 (v := .bool _) rfl rfl ?_
              refine ⟨?_, by (repeat (first | exact Ch.refl _ | assumption | (refine Ch.fresh ?_ (by assumption) (by intro i hi he; first | exact he | (exfalso; have he2 : i = _ := he; omega)))))⟩
              first
              | exact congrArg Value.bool (decide_eq_true (E3.trans (by omega)))
              | exact absurd (E2.trans E3.symm) h90
              | exact absurd E1 h85
              | exact absurd he h80
              | exact absurd rfl h96
              | exact rfl
          · refine L_pass rfl rfl rfl rfl rfl ?_
            refine L_pass rfl rfl rfl rfl rfl ?_
            refine L_pass rfl rfl rfl rfl rfl ?_
            refine L_run (.plain rfl) rfl rfl (r_pick_f (v := .bool _) rfl rfl) ?_
            refine L_run (.plain rfl) rfl rfl (r_move (v := .bool _) rfl) ?_
            refine L_pass rfl rfl rfl rfl rfl ?_
            refine L_pass rfl rfl rfl rfl rfl ?_
            refine L_pass rfl rfl rfl rfl rfl ?_
            refine L_pass rfl rfl rfl rfl rfl ?_
            refine L_run (.plain rfl) rfl rfl (r_pick_f (v := .bool _) rfl rfl) ?_
            refine L_run (.plain rfl) rfl rfl (r_move (v := .bool _) rfl) ?_
            refine L_pass rfl rfl rfl rfl rfl ?_
            refine L_pass rfl rfl rfl rfl rfl ?_
            refine L_pass rfl rfl rfl rfl rfl ?_
            refine L_pass rfl rfl rfl rfl rfl ?_
            refine L_pass rfl rfl rfl rfl rfl ?_
            refine L_pass rfl rfl rfl rfl rfl ?_
            refine L_run (.plain rfl) rfl rfl (r_pick_f (v := .bool _) rfl rfl) ?_
            refine L_run (.plain rfl) rfl rfl (r_assign (v := .bool _) rfl) ?_
            refine L_nil ?_
            refine W_ret ?_
            refine ret1 (v := .bool _) rfl rfl ?_
            refine ⟨?_, by (repeat (first | exact Ch.refl _ | assumption | (refine Ch.fresh ?_ (by assumption) (by intro i hi he; first | exact he | (exfalso; have he2 : i = _ := he; omega)))))⟩
            first
            | exact congrArg Value.bool (decide_eq_true (E3.trans (by omega)))
            | exact absurd (E2.trans E3.symm) h90
            | exact absurd E1 h85
            | exact absurd he h80
            | exact absurd rfl h96
            | exact rfl
        · refine L_pass rfl rfl rfl rfl rfl ?_
          refine L_pass rfl rfl rfl rfl rfl ?_
          refine L_pass rfl rfl rfl rfl rfl ?_
          refine L_run (.plain rfl) rfl rfl (r_pick_f (v := .bool _) rfl rfl) ?_
          refine L_run (.plain rfl) rfl rfl (r_move (v := .bool _) rfl) ?_
          refine L_pass rfl rfl rfl rfl rfl ?_
          refine L_pass rfl rfl rfl rfl rfl ?_
          refine L_pass rfl rfl rfl rfl rfl ?_
          refine L_run (.plain rfl) rfl rfl (r_pick_f (v := .bool _) rfl rfl) ?_
          refine L_run (.plain rfl) rfl rfl (r_move (v := .bool _) rfl) ?_
          refine L_pass rfl rfl rfl rfl rfl ?_
          refine L_pass rfl rfl rfl rfl rfl ?_
          refine L_pass rfl rfl rfl rfl rfl ?_
          refine L_pass rfl rfl rfl rfl rfl ?_
          refine L_run (.plain rfl) rfl rfl (r_pick_f (v := .bool _) rfl rfl) ?_
          refine L_run (.plain rfl) rfl rfl (r_move (v := .bool _) rfl) ?_
          refine L_pass rfl rfl rfl rfl rfl ?_
          refine L_pass rfl rfl rfl rfl rfl ?_
          refine L_pass rfl rfl rfl rfl rfl ?_
          refine L_pass rfl rfl rfl rfl rfl ?_
          refine L_pass rfl rfl rfl rfl rfl ?_
          refine L_pass rfl rfl rfl rfl rfl ?_
          refine L_run (.plain rfl) rfl rfl (r_pick_f (v := .bool _) rfl rfl) ?_
          refine L_run (.plain rfl) rfl rfl (r_assign (v := .bool _) rfl) ?_
          refine L_nil ?_
          refine W_ret ?_
          refine ret1 (v := .bool _) rfl rfl ?_
          refine ⟨?_, by (repeat (first | exact Ch.refl _ | assumption | (refine Ch.fresh ?_ (by assumption) (by intro i hi he; first | exact he | (exfalso; have he2 : i = _ := he; omega)))))⟩
          first
          | exact congrArg Value.bool (decide_eq_true (E3.trans (by omega)))
          | exact absurd (E2.trans E3.symm) h90
          | exact absurd E1 h85
          | exact absurd he h80
          | exact absurd rfl h96
          | exact rfl
end Go.Proofs.YtikpcphlmlgojaaDoor

