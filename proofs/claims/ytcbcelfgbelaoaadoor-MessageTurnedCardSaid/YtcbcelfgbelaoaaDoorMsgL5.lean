/- The statement MessageTurned, walked. -/
import Derived.Test.YtcbcelfgbelaoaaDoorMsgL3
import Derived.Test.YtcbcelfgbelaoaaDoorFrameB
namespace Go.Proofs.YtcbcelfgbelaoaaDoor
open Go Go.RowKit
set_option linter.unusedVariables false
set_option linter.unusedSimpArgs false
theorem turned_msg {m : Msg} (hok : m.ok) (hc : checkC m = 0) {l : List UInt8} {at_ k : Nat} {p : BitVec 32} (h : turned (put (putM m)) l at_ k p) : decide (mgetE l ≠ 0) = decide (p ≠ 0#32) := by
  have hl := putM_le hok hc
  have h0 : getB (put (putM m)) := getB_put _ (by omega)
  have hg := turned_get h h0
  by_cases hp : p = 0#32
  · rw [h.2.2.2 hp, (getm_put hok hc).2]
    simp [hp]
  · rw [if_neg hp] at hg
    have e : mgetE l = 140 := if_neg (fun h' => by rw [hg] at h'; exact absurd h'.1 (by decide))
    rw [e]
    simp [hp]
set_option maxHeartbeats 2000000 in
set_option maxRecDepth 100000 in
theorem MessageTurned_n (m : Msg) (a1 : Int) (a2 : Int) (w0 : World) (hm : m.ok) (y1 : 0 ≤ a1 ∧ a1 ≤ 65535) (y2 : 0 ≤ a2 ∧ a2 ≤ 4294967295) (hT : Tabs w0.heap.size w0) : Does Tryd.prog 6 #[m.v, .int .u16 a1, .int .u32 a2] w0 (fun r w' => r = .bool true ∧ Nw w0 w') := by
  refine fn_of (n := 96) (args := [m.v, .int .u16 a1, .int .u32 a2]) Tryd.func6 rfl rfl rfl ?_
  refine W_seq ?_
  refine W_region ?_
  refine L_new (.plain rfl) rfl rfl (r_boxa rfl) (fun w1 b3 hb3 eb1 hs1 c1 => ?_)
  refine L_run (.plain rfl) rfl rfl (r_assign (v := .bool _) rfl) ?_
  refine L_nil ?_
  refine W_seq ?_
  refine W_seq ?_
  refine W_region ?_
  refine L_run (.plain rfl) rfl rfl (r_fieldb Tryd.underlying24 rfl (show _ = some 1 from rfl) rfl rfl (show _ = 7 from rfl)) ?_
  refine L_run (.plain rfl) rfl rfl (r_loadb rfl rfl (by (exact Bk.to (by assumption) (by (repeat (first | exact Sm.refl _ _ | (refine Sm.stepT (by assumption) (by intro hlt hsm; exact not_no) ?_)))))) (by first | assumption | (conv => lhs; simp only [List.getElem?_toArray, List.getElem?_cons_succ, List.getElem?_cons_zero]))) ?_
  refine L_run (.plain rfl) rfl rfl (r_lens Tryd.underlying9 rfl) ?_
  refine L_run (.plain rfl) rfl rfl (r_gtr rfl rfl) ?_
  refine L_run (.plain rfl) rfl rfl (r_move (v := .bool _) rfl) ?_
  refine L_case (d := 19) rfl (fun h19 => ?_) (fun h19 => ?_)
  · refine L_pass rfl rfl rfl rfl rfl ?_
    refine L_pass rfl rfl rfl rfl rfl ?_
    refine L_pass rfl rfl rfl rfl rfl ?_
    refine L_pass rfl rfl rfl rfl rfl ?_
    refine L_run (.plain rfl) rfl rfl (r_pick_t (v := .bool _) rfl rfl) ?_
    refine L_run (.plain rfl) rfl rfl (r_move (v := .bool _) rfl) ?_
    refine L_pass rfl rfl rfl rfl rfl ?_
    refine L_pass rfl rfl rfl rfl rfl ?_
    refine L_pass rfl rfl rfl rfl rfl ?_
    refine L_run (.plain rfl) rfl rfl (r_pick_t (v := .bool _) rfl rfl) ?_
    refine L_nil ?_
    refine W_true rfl ?_
    refine W_seq ?_
    refine W_region ?_
    refine L_call (.plain rfl) rfl rfl (r_call Tryd.func9 rfl rfl rfl (by rfl)) (awake_walk _ ((hT.nw (by (repeat (first | exact Ch.refl _ | assumption | (refine Ch.fresh ?_ (by assumption) (by intro i hi he; first | exact he | (exfalso; have he2 : _ = some i := he; have := own_base (by assumption) he2; omega) | (exfalso; have he2 : i = _ := he; omega)))))) (by omega)).mono (by omega))) ?_
    rintro v30 w2 ⟨rfl, c2⟩
    have hz2 := c2.size
    refine L_run (.plain rfl) rfl rfl (r_assign (v := .bool _) rfl) ?_
    refine L_nil ?_
    refine W_ret ?_
    refine ret1 (v := .bool _) rfl rfl ?_
    first
    | exact ⟨congrArg Value.bool (decide_eq_true (turned_msg hm hc htu)), by (repeat (first | exact Ch.refl _ | assumption | (refine Ch.fresh ?_ (by assumption) (by intro i hi he; first | exact he | (exfalso; have he2 : _ = some i := he; have := own_base (by assumption) he2; omega) | (exfalso; have he2 : i = _ := he; omega)))))⟩
    | exact ⟨rfl, by (repeat (first | exact Ch.refl _ | assumption | (refine Ch.fresh ?_ (by assumption) (by intro i hi he; first | exact he | (exfalso; have he2 : _ = some i := he; have := own_base (by assumption) he2; omega) | (exfalso; have he2 : i = _ := he; omega)))))⟩
  · refine L_run (.yes 4 false rfl rfl) rfl rfl (r_fieldb Tryd.underlying24 rfl (show _ = some 1 from rfl) rfl rfl (show _ = 5 from rfl)) ?_
    refine L_run (.yes 4 false rfl rfl) rfl rfl (r_loadb rfl rfl (by (exact Bk.to (by assumption) (by (repeat (first | exact Sm.refl _ _ | (refine Sm.stepT (by assumption) (by intro hlt hsm; exact not_no) ?_)))))) (by first | assumption | (conv => lhs; simp only [List.getElem?_toArray, List.getElem?_cons_succ, List.getElem?_cons_zero]))) ?_
    refine L_run (.yes 4 false rfl rfl) rfl rfl (r_lens Tryd.underlying9 rfl) ?_
    refine L_run (.yes 4 false rfl rfl) rfl rfl (r_gtr rfl rfl) ?_
    refine L_run (.plain rfl) rfl rfl (r_pick_f (v := .bool _) rfl rfl) ?_
    refine L_run (.plain rfl) rfl rfl (r_move (v := .bool _) rfl) ?_
    refine L_case (d := 25) rfl (fun h25 => ?_) (fun h25 => ?_)
    · refine L_pass rfl rfl rfl rfl rfl ?_
      refine L_pass rfl rfl rfl rfl rfl ?_
      refine L_pass rfl rfl rfl rfl rfl ?_
      refine L_run (.plain rfl) rfl rfl (r_pick_t (v := .bool _) rfl rfl) ?_
      refine L_nil ?_
      refine W_true rfl ?_
      refine W_seq ?_
      refine W_region ?_
      refine L_call (.plain rfl) rfl rfl (r_call Tryd.func9 rfl rfl rfl (by rfl)) (awake_walk _ ((hT.nw (by (repeat (first | exact Ch.refl _ | assumption | (refine Ch.fresh ?_ (by assumption) (by intro i hi he; first | exact he | (exfalso; have he2 : _ = some i := he; have := own_base (by assumption) he2; omega) | (exfalso; have he2 : i = _ := he; omega)))))) (by omega)).mono (by omega))) ?_
      rintro v30 w3 ⟨rfl, c3⟩
      have hz3 := c3.size
      refine L_run (.plain rfl) rfl rfl (r_assign (v := .bool _) rfl) ?_
      refine L_nil ?_
      refine W_ret ?_
      refine ret1 (v := .bool _) rfl rfl ?_
      first
      | exact ⟨congrArg Value.bool (decide_eq_true (turned_msg hm hc htu)), by (repeat (first | exact Ch.refl _ | assumption | (refine Ch.fresh ?_ (by assumption) (by intro i hi he; first | exact he | (exfalso; have he2 : _ = some i := he; have := own_base (by assumption) he2; omega) | (exfalso; have he2 : i = _ := he; omega)))))⟩
      | exact ⟨rfl, by (repeat (first | exact Ch.refl _ | assumption | (refine Ch.fresh ?_ (by assumption) (by intro i hi he; first | exact he | (exfalso; have he2 : _ = some i := he; have := own_base (by assumption) he2; omega) | (exfalso; have he2 : i = _ := he; omega)))))⟩
    · refine L_run (.yes 10 false rfl rfl) rfl rfl (r_loadrow Tryd.underlying24 rfl rfl (by (exact Bk.to (by assumption) (by (repeat (first | exact Sm.refl _ _ | (refine Sm.stepT (by assumption) (by intro hlt hsm; exact not_no) ?_)))))) (by first | rfl | assumption)) ?_
      refine L_call (.yes 10 false rfl rfl) rfl rfl (r_call Tryd.func11 rfl rfl rfl (by rfl)) (rcheck_walk m _ hm (by omega)) ?_
      rintro v27 w4 ⟨rfl, c4⟩
      have hz4 := c4.size
      refine L_run (.yes 10 false rfl rfl) rfl rfl (r_neq rfl rfl) ?_
      refine L_run (.plain rfl) rfl rfl (r_pick_f (v := .bool _) rfl rfl) ?_
      refine L_nil ?_
      refine W_if rfl (fun h29 => ?_) (fun h29 => ?_)
      · refine W_seq ?_
        refine W_region ?_
        refine L_call (.plain rfl) rfl rfl (r_call Tryd.func9 rfl rfl rfl (by rfl)) (awake_walk _ ((hT.nw (by (repeat (first | exact Ch.refl _ | assumption | (refine Ch.fresh ?_ (by assumption) (by intro i hi he; first | exact he | (exfalso; have he2 : _ = some i := he; have := own_base (by assumption) he2; omega) | (exfalso; have he2 : i = _ := he; omega)))))) (by omega)).mono (by omega))) ?_
        rintro v30 w5 ⟨rfl, c5⟩
        have hz5 := c5.size
        refine L_run (.plain rfl) rfl rfl (r_assign (v := .bool _) rfl) ?_
        refine L_nil ?_
        refine W_ret ?_
        refine ret1 (v := .bool _) rfl rfl ?_
        first
        | exact ⟨congrArg Value.bool (decide_eq_true (turned_msg hm hc htu)), by (repeat (first | exact Ch.refl _ | assumption | (refine Ch.fresh ?_ (by assumption) (by intro i hi he; first | exact he | (exfalso; have he2 : _ = some i := he; have := own_base (by assumption) he2; omega) | (exfalso; have he2 : i = _ := he; omega)))))⟩
        | exact ⟨rfl, by (repeat (first | exact Ch.refl _ | assumption | (refine Ch.fresh ?_ (by assumption) (by intro i hi he; first | exact he | (exfalso; have he2 : _ = some i := he; have := own_base (by assumption) he2; omega) | (exfalso; have he2 : i = _ := he; omega)))))⟩
      · have hc := Classical.not_not.1 h29
        have hpl := putM_le hm hc
        refine W_skip ?_
        refine W_seq ?_
        refine W_region ?_
        refine L_run (.plain rfl) rfl rfl (r_loadrow Tryd.underlying24 rfl rfl (by (exact Bk.to (by assumption) (by (repeat (first | exact Sm.refl _ _ | (refine Sm.stepT (by assumption) (by intro hlt hsm; exact not_no) ?_)))))) (by first | rfl | assumption)) ?_
        refine L_call (.plain rfl) rfl rfl (r_call Tryd.func10 rfl rfl rfl (by rfl)) (mput_good m _ hm hc) ?_
        rintro v33 w6 ⟨vp, rfl, ho6, c6⟩
        have hz6 := c6.size
        have hown0 := own_mono (b := w0.heap.size) ho6 (by omega)
        refine L_run (.plain rfl) rfl rfl (r_move (by conv => lhs; whnf)) ?_
        refine L_run (.plain rfl) rfl rfl (r_ext2_0 rfl) ?_
        refine L_run (.plain rfl) rfl rfl (r_ext2_1 rfl) ?_
        refine L_run (.plain rfl) rfl rfl (r_assign (by conv => lhs; whnf)) ?_
        refine L_run (.plain rfl) rfl rfl (r_assign (v := .int _ _) rfl) ?_
        refine L_nil ?_
        refine W_seq ?_
        refine W_seq ?_
        refine W_region ?_
        refine L_call (.plain rfl) rfl rfl (r_call Tryd.func9 rfl rfl rfl (by rfl)) (awake_walk _ ((hT.nw (by (repeat (first | exact Ch.refl _ | assumption | (refine Ch.fresh ?_ (by assumption) (by intro i hi he; first | exact he | (exfalso; have he2 : _ = some i := he; have := own_base (by assumption) he2; omega) | (exfalso; have he2 : i = _ := he; omega)))))) (by omega)).mono (by omega))) ?_
        rintro v36 w7 ⟨rfl, c7⟩
        have hz7 := c7.size
        refine L_run (.plain rfl) rfl rfl (r_not rfl) ?_
        refine L_as (v := .bool _) (v' := .bool false) 37 rfl (congrArg Value.bool (by simp)) ?_
        refine L_run (.plain rfl) rfl rfl (r_move (v := .bool _) rfl) ?_
        refine L_run (.yes 2 false rfl rfl) rfl rfl (r_move (v := .int _ _) rfl) ?_
        refine L_run (.yes 2 false rfl rfl) rfl rfl (r_neq rfl rfl) ?_
        refine L_as (v := .bool _) (v' := .bool false) 40 rfl (dec_f (by simp)).symm ?_
        refine L_run (.plain rfl) rfl rfl (r_pick_f (v := .bool _) rfl rfl) ?_
        refine L_run (.plain rfl) rfl rfl (r_move (v := .bool _) rfl) ?_
        refine L_run (.yes 6 false rfl rfl) rfl rfl (r_move (by conv => lhs; whnf)) ?_
        refine L_run (.yes 6 false rfl rfl) rfl rfl (r_lenSl Tryd.underlying26 (by conv => lhs; whnf) (by (exact Sl.to (by first | assumption | exact Sl.own (by assumption) | exact Mu.sl (by assumption) | exact Ow.sl (by assumption)) (fun i hi => by (repeat (first | exact Sm.refl _ _ | (refine Sm.stepT (by assumption) (by intro hlt hsm; exact not_no) ?_))))))) ?_
        refine L_run (.yes 6 false rfl rfl) rfl rfl (r_lss rfl rfl) ?_
        refine L_run (.plain rfl) rfl rfl (r_pick_f (v := .bool _) rfl rfl) ?_
        refine L_nil ?_
        refine W_if rfl (fun h46 => ?_) (fun h46 => ?_)
        · omega
        · refine W_skip ?_
          refine W_cutF [2, 7] (fun f W => ∃ (at_ : Nat), f 9 = .int .i64 at_ ∧ (at_ < 8 * ((putM m).length + 4) ∧ W = w7)) ?_ ?_
          · refine W_region ?_
            refine L_run (.plain rfl) rfl rfl (r_move (v := .int _ _) rfl) ?_
            refine L_run (.plain rfl) rfl rfl (r_conv Tryd.underlying40 Tryd.underlying3 rfl (by first | exact wr_i64 (by omega) | rfl)) ?_
            refine L_run (.plain rfl) rfl rfl (r_move (by conv => lhs; whnf)) ?_
            refine L_run (.plain rfl) rfl rfl (r_lenSl Tryd.underlying26 (by conv => lhs; whnf) (by (exact Sl.to (by first | assumption | exact Sl.own (by assumption) | exact Mu.sl (by assumption) | exact Ow.sl (by assumption)) (fun i hi => by (repeat (first | exact Sm.refl _ _ | (refine Sm.stepT (by assumption) (by intro hlt hsm; exact not_no) ?_))))))) ?_
            refine L_run (.plain rfl) rfl rfl (r_mul rfl rfl (by first | exact wr_i64 (by omega) | rfl)) ?_
            refine L_run (.plain rfl) rfl rfl (r_remn rfl rfl (by omega) (by omega)) ?_
            refine L_run (.plain rfl) rfl rfl (r_assign (v := .int _ _) rfl) ?_
            refine L_nil ?_
            refine ⟨⟨rfl, rfl, trivial⟩, (a1 % (8 * (((putM m).length + 4 : Nat) : Int))).toNat, (by exact congrArg (Value.int .i64) (Int.toNat_of_nonneg (Int.emod_nonneg _ (by omega))).symm), ?_⟩
            refine ⟨?_, rfl⟩
            have := Int.emod_lt_of_pos a1 (b := 8 * (((putM m).length + 4 : Nat) : Int)) (by omega)
            omega
          rintro gcr6 w8 ⟨at_, hf9, hCr6⟩
          refine W_as 9 hf9 rfl ?_
          clear hf9
          obtain ⟨hat, rfl⟩ := hCr6
          refine W_seq ?_
          refine W_region ?_
          refine L_run (.plain rfl) rfl rfl (r_assign (v := .bool _) rfl) ?_
          refine L_nil ?_
          refine W_seq ?_
          refine W_seq ?_
          refine W_region ?_
          refine L_run (.plain rfl) rfl rfl (r_assign (v := .int _ _) rfl) ?_
          refine L_nil ?_
          refine W_block ?_
          refine W_loopF [2, 7, 9] (fun mz_ f W => ∃ (k : Nat) (l : List UInt8) (p : BitVec 32), f 10 = .bool (decide (p ≠ 0#32)) ∧ f 11 = .int .i64 k ∧ (k ≤ 32 ∧ turned (put (putM m)) l at_ k p ∧ W.ownsRow w0.heap.size 5 1 vp ((putM m).length + 4) (l.map b8) ∧ Nw w0 W) ∧ mz_ = 32 - k) ?_ ?_
          · refine ⟨_, 0, put (putM m), 0#32, rfl, rfl, ?_, rfl⟩
            exact ⟨by omega, turned_zero _ _, by first | exact hown0 | (exact Own.to (by assumption) (fun i hi => by (repeat (first | exact Sm.refl _ _ | (refine Sm.stepT (by assumption) (by intro hlt hsm; exact not_no) ?_))))), by (repeat (first | exact Ch.refl _ | assumption | (refine Ch.fresh ?_ (by assumption) (by intro i hi he; first | exact he | (exfalso; have he2 : _ = some i := he; have := own_base (by assumption) he2; omega) | (exfalso; have he2 : i = _ := he; omega)))))⟩
          rintro m0 g0 w9 ⟨k, l, p, hf10, hf11, hR0, rfl⟩
          refine W_as 10 hf10 rfl ?_
          refine W_as 11 hf11 rfl ?_
          clear hf10 hf11
          obtain ⟨hk, htu, hown, hnw⟩ := hR0
          have hz := hnw.size
          have hlen : l.length = (putM m).length + 4 := by rw [htu.1, put_length]
          refine W_seq ?_
          refine W_seq ?_
          refine W_region ?_
          refine L_run (.plain rfl) rfl rfl (r_move (v := .int _ _) rfl) ?_
          refine L_run (.plain rfl) rfl rfl (r_lss rfl rfl) ?_
          refine L_nil ?_
          refine W_if rfl (fun h54 => ?_) (fun h54 => ?_)
          · refine W_skip ?_
            refine W_cutF [2, 7, 9, 11] (fun f W => ∃ (l' : List UInt8) (p' : BitVec 32), f 10 = .bool (decide (p' ≠ 0#32)) ∧ (turned (put (putM m)) l' at_ (k + 1) p' ∧ W.ownsRow w0.heap.size 5 1 vp ((putM m).length + 4) (l'.map b8) ∧ Nw w0 W)) ?_ ?_
            · refine W_block ?_
              refine W_seq ?_
              refine W_region ?_
              refine L_run (.plain rfl) rfl rfl (r_move (v := .int _ _) rfl) ?_
              refine L_run (.plain rfl) rfl rfl (r_move (v := .int _ _) rfl) ?_
              refine L_run (.plain rfl) rfl rfl (r_add rfl rfl (by first | exact wr_i64 (by omega) | rfl)) ?_
              refine L_run (.plain rfl) rfl rfl (r_assign (v := .int _ _) rfl) ?_
              refine L_nil ?_
              refine W_seq ?_
              refine W_region ?_
              refine L_run (.plain rfl) rfl rfl (r_move (v := .int _ _) rfl) ?_
              refine L_run (.plain rfl) rfl rfl (r_move (v := .int _ _) rfl) ?_
              refine L_run (.plain rfl) rfl rfl (r_conv Tryd.underlying3 Tryd.underlying42 rfl (by first | exact wr_u64 (by omega) | rfl)) ?_
              refine L_run (.plain rfl) rfl rfl (r_shr rfl rfl (by omega) rfl) ?_
              refine L_run (.plain rfl) rfl rfl (r_and rfl rfl) ?_
              refine L_run (.plain rfl) rfl rfl (r_eql rfl rfl) ?_
              refine L_run (.plain rfl) rfl rfl (r_move (v := .bool _) rfl) ?_
              refine L_case (d := 66) rfl (fun h66 => ?_) (fun h66 => ?_)
              · refine L_run (.yes 6 true rfl rfl) rfl rfl (r_move (v := .int _ _) rfl) ?_
                refine L_run (.yes 6 true rfl rfl) rfl rfl (r_move (by conv => lhs; whnf)) ?_
                refine L_run (.yes 6 true rfl rfl) rfl rfl (r_lenSl Tryd.underlying26 (by conv => lhs; whnf) (by (exact Sl.to (by first | assumption | exact Sl.own (by assumption) | exact Mu.sl (by assumption) | exact Ow.sl (by assumption)) (fun i hi => by (repeat (first | exact Sm.refl _ _ | (refine Sm.stepT (by assumption) (by intro hlt hsm; exact not_no) ?_))))))) ?_
                refine L_run (.yes 6 true rfl rfl) rfl rfl (r_mul rfl rfl (by first | exact wr_i64 (by omega) | rfl)) ?_
                refine L_run (.yes 6 true rfl rfl) rfl rfl (r_lss rfl rfl) ?_
                refine L_run (.plain rfl) rfl rfl (r_pick_t (v := .bool _) rfl rfl) ?_
                refine L_nil ?_
                refine W_if rfl (fun h72 => ?_) (fun h72 => ?_)
                · refine W_seq ?_
                  have hbit := turned_bit htu (k := k) (by omega) (by rw [put_length]; omega)
                  obtain ⟨l1, hl1⟩ : ∃ x, x = bitAt l (at_ + k) := ⟨_, rfl⟩
                  obtain ⟨p1, hp1⟩ : ∃ x, x = p ^^^ BitVec.twoPow 32 k := ⟨_, rfl⟩
                  rw [← hl1, ← hp1] at hbit
                  refine W_region ?_
                  refine L_run (.plain rfl) rfl rfl (r_move (by conv => lhs; whnf)) ?_
                  refine L_run (.plain rfl) rfl rfl (r_move (v := .int _ _) rfl) ?_
                  refine L_run (.plain rfl) rfl rfl (r_quon rfl rfl (by omega) (by omega) (by first | exact wr_i64 (by omega) | rfl)) ?_
                  refine L_run (.plain rfl) rfl rfl (r_move (by conv => lhs; whnf)) ?_
                  refine L_run (.plain rfl) rfl rfl (r_move (v := .int _ _) rfl) ?_
                  refine L_run (.plain rfl) rfl rfl (r_quon rfl rfl (by omega) (by omega) (by first | exact wr_i64 (by omega) | rfl)) ?_
                  refine L_run (.plain rfl) rfl rfl (r_idxSl Tryd.underlying26 (show _ = some 1 from rfl) (by conv => lhs; whnf) rfl (by (exact Sl.to (by first | assumption | exact Sl.own (by assumption) | exact Mu.sl (by assumption) | exact Ow.sl (by assumption)) (fun i hi => by (repeat (first | exact Sm.refl _ _ | (refine Sm.stepT (by assumption) (by intro hlt hsm; exact not_no) ?_)))))) (by omega) (by omega) (by conv => lhs; (try simp only [Nat.mul_one, Nat.zero_add, Int.toNat_natCast, Int.toNat_zero, Int.reduceToNat, Nat.reduceMul, Nat.reduceAdd]))) ?_
                  refine L_run (.plain rfl) rfl rfl (r_loadSl rfl rfl (by (exact Sl.to (by first | assumption | exact Sl.own (by assumption) | exact Mu.sl (by assumption) | exact Ow.sl (by assumption)) (fun i hi => by (repeat (first | exact Sm.refl _ _ | (refine Sm.stepT (by assumption) (by intro hlt hsm; exact not_no) ?_)))))) (by exact map_b8 l _ (by omega))) ?_
                  refine L_run (.plain rfl) rfl rfl (r_move (v := .int _ _) rfl) ?_
                  refine L_run (.plain rfl) rfl rfl (r_remn rfl rfl (by omega) (by omega)) ?_
                  refine L_run (.plain rfl) rfl rfl (r_conv Tryd.underlying3 Tryd.underlying42 rfl (by first | exact wr_u64 (by omega) | rfl)) ?_
                  refine L_run (.plain rfl) rfl rfl (r_shl rfl rfl (by omega) rfl) ?_
                  refine L_run (.plain rfl) rfl rfl (r_xor rfl rfl) ?_
                  refine L_run (.plain rfl) rfl rfl (r_idxSl Tryd.underlying26 (show _ = some 1 from rfl) (by conv => lhs; whnf) rfl (by (exact Sl.to (by first | assumption | exact Sl.own (by assumption) | exact Mu.sl (by assumption) | exact Ow.sl (by assumption)) (fun i hi => by (repeat (first | exact Sm.refl _ _ | (refine Sm.stepT (by assumption) (by intro hlt hsm; exact not_no) ?_)))))) (by omega) (by omega) (by conv => lhs; (try simp only [Nat.mul_one, Nat.zero_add, Int.toNat_natCast, Int.toNat_zero, Int.reduceToNat, Nat.reduceMul, Nat.reduceAdd]))) ?_
                  refine L_setOwn (.plain rfl) rfl rfl (u := .int _ _) rfl rfl (by (exact Own.to (by assumption) (fun i hi => by (repeat (first | exact Sm.refl _ _ | (refine Sm.stepT (by assumption) (by intro hlt hsm; exact not_no) ?_)))))) (by rw [List.length_map]; omega) (fun w10 hb10 hs10 c10 => ?_)
                  refine L_nil ?_
                  refine W_region ?_
                  refine L_run (.plain rfl) rfl rfl (r_assign (v := .bool _) rfl) ?_
                  refine L_nil ?_
                  refine ⟨⟨rfl, rfl, rfl, rfl, trivial⟩, l1, p1, (by first | exact dec_t hbit.2 | (rw [hp1]; rfl)), ?_⟩
                  first
                    | (subst hl1 hp1; exact ⟨turned_skip htu, hown, hnw⟩)
                    | (refine ⟨hbit.1, ?_, by (repeat (first | exact Ch.refl _ | assumption | (refine Ch.fresh ?_ (by assumption) (by intro i hi he; first | exact he | (exfalso; have he2 : _ = some i := he; have := own_base (by assumption) he2; omega) | (exfalso; have he2 : i = _ := he; omega)))))⟩
                       rw [hl1, ← bitAt_row l (at_ + k) (at_ + k) (by omega)]
                       assumption)
                · obtain ⟨l1, hl1⟩ : ∃ x, x = l := ⟨_, rfl⟩
                  obtain ⟨p1, hp1⟩ : ∃ x, x = p := ⟨_, rfl⟩
                  refine W_skip ?_
                  refine ⟨⟨rfl, rfl, rfl, rfl, trivial⟩, l1, p1, (by first | exact dec_t hbit.2 | (rw [hp1]; rfl)), ?_⟩
                  first
                    | (subst hl1 hp1; exact ⟨turned_skip htu, hown, hnw⟩)
                    | (refine ⟨hbit.1, ?_, by (repeat (first | exact Ch.refl _ | assumption | (refine Ch.fresh ?_ (by assumption) (by intro i hi he; first | exact he | (exfalso; have he2 : _ = some i := he; have := own_base (by assumption) he2; omega) | (exfalso; have he2 : i = _ := he; omega)))))⟩
                       rw [hl1, ← bitAt_row l (at_ + k) (at_ + k) (by omega)]
                       assumption)
              · obtain ⟨l1, hl1⟩ : ∃ x, x = l := ⟨_, rfl⟩
                obtain ⟨p1, hp1⟩ : ∃ x, x = p := ⟨_, rfl⟩
                refine L_pass rfl rfl rfl rfl rfl ?_
                refine L_pass rfl rfl rfl rfl rfl ?_
                refine L_pass rfl rfl rfl rfl rfl ?_
                refine L_pass rfl rfl rfl rfl rfl ?_
                refine L_pass rfl rfl rfl rfl rfl ?_
                refine L_run (.plain rfl) rfl rfl (r_pick_f (v := .bool _) rfl rfl) ?_
                refine L_nil ?_
                refine W_false rfl ?_
                refine W_skip ?_
                refine ⟨⟨rfl, rfl, rfl, rfl, trivial⟩, l1, p1, (by first | exact dec_t hbit.2 | (rw [hp1]; rfl)), ?_⟩
                first
                  | (subst hl1 hp1; exact ⟨turned_skip htu, hown, hnw⟩)
                  | (refine ⟨hbit.1, ?_, by (repeat (first | exact Ch.refl _ | assumption | (refine Ch.fresh ?_ (by assumption) (by intro i hi he; first | exact he | (exfalso; have he2 : _ = some i := he; have := own_base (by assumption) he2; omega) | (exfalso; have he2 : i = _ := he; omega)))))⟩
                     rw [hl1, ← bitAt_row l (at_ + k) (at_ + k) (by omega)]
                     assumption)
            rintro gcb1 w11 ⟨l', p', hf10, hCb1⟩
            refine W_as 10 hf10 rfl ?_
            clear hf10
            refine W_region ?_
            refine L_run (.plain rfl) rfl rfl (r_move (v := .int _ _) rfl) ?_
            refine L_run (.plain rfl) rfl rfl (r_add rfl rfl (by first | exact wr_i64 (by omega) | rfl)) ?_
            refine L_run (.plain rfl) rfl rfl (r_assign (v := .int _ _) rfl) ?_
            refine L_nil ?_
            refine ⟨⟨rfl, rfl, rfl, trivial⟩, _, ?_, k + 1, l', p', rfl, rfl, ?_, rfl⟩
            · omega
            exact ⟨by omega, hCb1⟩
          · refine W_exit ?_
            repeat (first | refine blk_hit ?_ | refine blk_miss rfl ?_)
            refine W_seq ?_
            refine W_region ?_
            refine L_run (.plain rfl) rfl rfl (r_move (by conv => lhs; whnf)) ?_
            refine L_call (.plain rfl) rfl rfl (r_call Tryd.func13 rfl rfl rfl (by rfl)) (getm_all _ l _ (own_by (by assumption) (by omega)) (by omega) ((hT.nw (by (repeat (first | exact Ch.refl _ | assumption | (refine Ch.fresh ?_ (by assumption) (by intro i hi he; first | exact he | (exfalso; have he2 : _ = some i := he; have := own_base (by assumption) he2; omega) | (exfalso; have he2 : i = _ := he; omega)))))) (by omega)).mono (by omega))) ?_
            rintro v89 w12 ⟨rfl, c12⟩
            have hz12 := c12.size
            refine L_run (.plain rfl) rfl rfl (r_move (by conv => lhs; whnf)) ?_
            refine L_run (.plain rfl) rfl rfl (r_ext2_0 rfl) ?_
            refine L_run (.plain rfl) rfl rfl (r_ext2_1 rfl) ?_
            refine L_new (.plain rfl) rfl rfl (r_alloca rfl) (fun w13 b13 hb13 eb13 hs13 c13 => ?_)
            refine L_storerow (.plain rfl) rfl rfl (by (exact Bk.to (by assumption) (by (repeat (first | exact Sm.refl _ _ | (refine Sm.stepT (by assumption) (by intro hlt hsm; exact not_no) ?_)))))) (by first | rfl | (simp; done) | assumption) (by first | rfl | assumption) (by first | rfl | (simp [Value.oneCell']; done) | assumption) (fun w14 hb14 hs14 c14 => ?_)
            refine L_run (.plain rfl) rfl rfl (r_assign (v := .int _ _) rfl) ?_
            refine L_nil ?_
            refine W_seq ?_
            refine W_region ?_
            refine L_run (.plain rfl) rfl rfl (r_move (v := .int _ _) rfl) ?_
            refine L_run (.plain rfl) rfl rfl (r_neq rfl rfl) ?_
            refine L_run (.plain rfl) rfl rfl (r_move (v := .bool _) rfl) ?_
            refine L_run (.plain rfl) rfl rfl (r_eqlb Tryd.underlying4 rfl rfl) ?_
            refine L_run (.plain rfl) rfl rfl (r_assign (v := .bool _) rfl) ?_
            refine L_nil ?_
            refine W_ret ?_
            refine ret1 (v := .bool _) rfl rfl ?_
            first
            | exact ⟨congrArg Value.bool (decide_eq_true (turned_msg hm hc htu)), by (repeat (first | exact Ch.refl _ | assumption | (refine Ch.fresh ?_ (by assumption) (by intro i hi he; first | exact he | (exfalso; have he2 : _ = some i := he; have := own_base (by assumption) he2; omega) | (exfalso; have he2 : i = _ := he; omega)))))⟩
            | exact ⟨rfl, by (repeat (first | exact Ch.refl _ | assumption | (refine Ch.fresh ?_ (by assumption) (by intro i hi he; first | exact he | (exfalso; have he2 : _ = some i := he; have := own_base (by assumption) he2; omega) | (exfalso; have he2 : i = _ := he; omega)))))⟩
theorem MessageTurned_walk (m : Msg) (a1 a2 : Int) (w0 : World) (hm : m.ok) (y1 : 0 ≤ a1 ∧ a1 ≤ 65535) (y2 : 0 ≤ a2 ∧ a2 ≤ 4294967295) (hT : Tabs w0.heap.size w0) : Does Tryd.prog 6 #[m.v, .int .u16 a1, .int .u32 a2] w0 (fun r w' => r = .bool true ∧ Nw w0 w') :=
  MessageTurned_n m a1 a2 w0 hm y1 y2 hT
end Go.Proofs.YtcbcelfgbelaoaaDoor

