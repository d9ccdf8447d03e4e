/- The statement MessageMost, walked. -/
import Derived.Test.YtcbcelfgbelaoaaDoorMsgL3
namespace Go.Proofs.YtcbcelfgbelaoaaDoor
open Go Go.RowKit
set_option linter.unusedVariables false
set_option linter.unusedSimpArgs false
def MZ (q : Nat) : Msg := ⟨1, 1, 1, 0, 0, { data := #[] }, 0, sb (List.replicate q 0)⟩
theorem MZ_ok (q : Nat) : (MZ q).ok := ⟨(by decide : (0 : Int) ≤ 1 ∧ (1 : Int) ≤ 18446744073709551615), (by decide : (0 : Int) ≤ 1 ∧ (1 : Int) ≤ 18446744073709551615), (by decide : (0 : Int) ≤ 0 ∧ (0 : Int) ≤ 18446744073709551615), (by decide : (0 : Int) ≤ 0 ∧ (0 : Int) ≤ 18446744073709551615)⟩
theorem MZ_size (q : Nat) : (MZ q).body.size = q := by show (sb (List.replicate q 0)).size = q; rw [sb_size, List.length_replicate]
theorem MZ_right (q : Nat) : rightP (MZ q) := ⟨(by decide : (1 : Int) ≠ 0), (by decide : (1 : Int) ≠ 0), .inr ⟨rfl, rfl, rfl, rfl, (by decide : (0 : Int) ≤ 0), (by decide : (0 : Int) ≤ 2)⟩⟩
theorem MZ_big {q : Nat} (h : 8192 < q) : checkC (MZ q) = 141 := by unfold checkC; rw [if_pos (by rw [MZ_size]; exact h)]
theorem MZ_small {q : Nat} (h : ¬ 8192 < q) : checkC (MZ q) = 0 := by unfold checkC; rw [if_neg (by rw [MZ_size]; exact h), if_pos (MZ_right q)]
set_option maxHeartbeats 1000000 in
set_option maxRecDepth 100000 in
theorem MessageMost_big (k q : Nat) (w0 : World) (hk : k ≤ 65535) (hq : (k : Int) % 8200 = (q : Int)) (hb : 8192 < q) (hT : Tabs w0.heap.size w0) : Does Tryd.prog 8 #[.int .u16 k] w0 (fun r w' => r = .bool true ∧ Nw w0 w') := by
  have hzs := MZ_size q
  have hzs2 : (sb (List.replicate q 0)).size = q := hzs
  refine fn_of (n := 52) (args := [.int .u16 k]) Tryd.func8 rfl rfl rfl ?_
  refine W_seq ?_
  refine W_region ?_
  refine L_run (.plain rfl) rfl rfl (r_assign (v := .bool _) rfl) ?_
  refine L_nil ?_
  refine W_seq ?_
  refine W_region ?_
  refine L_run (.plain rfl) rfl rfl (r_move (v := .int _ _) rfl) ?_
  refine L_run (.plain rfl) rfl rfl (r_conv Tryd.underlying40 Tryd.underlying3 rfl (by first | exact wr_i64 (by omega) | rfl)) ?_
  refine L_run (.plain rfl) rfl rfl (r_remn rfl rfl (by omega) (by omega)) ?_
  rw [hq]
  refine L_make1 Tryd.underlying26 (show _ = some (some _, 1, 1) from rfl) rfl (.plain rfl) rfl rfl rfl (by omega) (by omega) (by unfold maxLen; omega) (fun v11 w1 ho11 c1 => ?_)
  have hz1 := c1.size
  have hb11 : By w1 _ (List.replicate q 0) := by_zeros ho11 (by omega)
  refine L_run (.plain rfl) rfl rfl (r_bstr Tryd.underlying26 Tryd.underlying5 Tryd.underlying9 (by conv => lhs; whnf) (by (exact Sl.to (by first | assumption | exact Sl.own (by assumption) | exact Mu.sl (by assumption) | exact Ow.sl (by assumption)) (fun i hi => by (repeat (first | exact Sm.refl _ _ | (refine Sm.stepT (by assumption) (by intro hlt hsm; exact not_no) ?_))))))) ?_
  refine L_run (.plain rfl) rfl rfl (r_build1 (pl := [(0, 1), (1, 1), (2, 1), (3, 1), (4, 1), (5, 1), (6, 1), (7, 1)]) (vs := [(0, .int _ _), (1, .int _ _), (2, .int _ _), (7, .string _)]) (cells := [_, _, _, _, _, _, _, _]) Tryd.underlying24 rfl rfl (by rfl) rfl (by rfl)) ?_
  refine L_new (.plain rfl) rfl rfl (r_alloca rfl) (fun w2 b3 hb3 eb2 hs2 c2 => ?_)
  refine L_storerow (.plain rfl) rfl rfl (by (exact Bk.to (by assumption) (by (repeat (first | exact Sm.refl _ _ | (refine Sm.stepT (by assumption) (by intro hlt hsm; exact not_no) ?_)))))) (by first | rfl | (simp; done) | assumption) (by first | rfl | assumption) (by first | rfl | (simp [Value.oneCell']; done) | assumption) (fun w3 hb3 hs3 c3 => ?_)
  refine L_nil ?_
  refine W_seq ?_
  refine W_region ?_
  refine L_run (.plain rfl) rfl rfl (r_loadrow Tryd.underlying24 rfl rfl (by (exact Bk.to (by assumption) (by (repeat (first | exact Sm.refl _ _ | (refine Sm.stepT (by assumption) (by intro hlt hsm; exact not_no) ?_)))))) (by first | rfl | assumption)) ?_
  refine L_call (.plain rfl) rfl rfl (r_call Tryd.func10 rfl rfl rfl (by rfl)) (mput_bad (MZ q) _ (by rw [MZ_big hb]; decide)) ?_
  rintro v16 w4 ⟨rfl, c4⟩
  have hz4 := c4.size
  rw [MZ_big hb]
  have hnil : Sl w4 (.slice none 0 0) 1 0 [] := Sl.nil _ _
  refine L_run (.plain rfl) rfl rfl (r_move (by conv => lhs; whnf)) ?_
  refine L_run (.plain rfl) rfl rfl (r_ext2_0 rfl) ?_
  refine L_run (.plain rfl) rfl rfl (r_ext2_1 rfl) ?_
  refine L_run (.plain rfl) rfl rfl (r_assign (by conv => lhs; whnf)) ?_
  refine L_run (.plain rfl) rfl rfl (r_assign (v := .int _ _) rfl) ?_
  refine L_nil ?_
  refine W_seq ?_
  refine W_seq ?_
  refine W_region ?_
  refine L_run (.plain rfl) rfl rfl (r_fieldb Tryd.underlying24 rfl (show _ = some 1 from rfl) rfl rfl (show _ = 7 from rfl)) ?_
  refine L_run (.plain rfl) rfl rfl (r_loadb rfl rfl (by (exact Bk.to (by assumption) (by (repeat (first | exact Sm.refl _ _ | (refine Sm.stepT (by assumption) (by intro hlt hsm; exact not_no) ?_)))))) (by first | assumption | (conv => lhs; simp only [List.getElem?_toArray, List.getElem?_cons_succ, List.getElem?_cons_zero]))) ?_
  refine L_run (.plain rfl) rfl rfl (r_lens Tryd.underlying9 rfl) ?_
  refine L_run (.plain rfl) rfl rfl (r_gtr rfl rfl) ?_
  refine L_nil ?_
  refine W_if rfl (fun h22 => ?_) (fun h22 => ?_)
  · refine W_seq ?_
    refine W_region ?_
    refine L_call (.plain rfl) rfl rfl (r_call Tryd.func9 rfl rfl rfl (by rfl)) (awake_walk _ ((hT.nw (by (repeat (first | exact Ch.refl _ | assumption | (refine Ch.fresh ?_ (by assumption) (by intro i hi he; first | exact he | (exfalso; have he2 : i = _ := he; omega)))))) (by omega)).mono (by omega))) ?_
    rintro v23 w5 ⟨rfl, c5⟩
    have hz5 := c5.size
    refine L_run (.plain rfl) rfl rfl (r_move (v := .bool _) rfl) ?_
    refine L_caseb (d := 24) rfl (fun h24 => ?_) (fun h24 => ?_)
    · refine L_run (.yes 1 true rfl rfl) rfl rfl (r_move (by conv => lhs; whnf)) ?_
      refine L_run (.yes 1 true rfl rfl) rfl rfl (r_lenSl Tryd.underlying26 (by conv => lhs; whnf) (by (exact Sl.to (by first | assumption | exact Sl.own (by assumption) | exact Mu.sl (by assumption) | exact Ow.sl (by assumption)) (fun i hi => by (repeat (first | exact Sm.refl _ _ | (refine Sm.stepT (by assumption) (by intro hlt hsm; exact not_no) ?_))))))) ?_
      refine L_run (.yes 1 true rfl rfl) rfl rfl (r_eql rfl rfl) ?_
      refine L_as (v := .bool _) (v' := .bool true) 27 rfl (dec_t (by rfl)).symm ?_
      refine L_run (.plain rfl) rfl rfl (r_pick_t (v := .bool _) rfl rfl) ?_
      refine L_run (.plain rfl) rfl rfl (r_move (v := .bool _) rfl) ?_
      refine L_run (.yes 6 true rfl rfl) rfl rfl (r_move (v := .int _ _) rfl) ?_
      refine L_run (.yes 6 true rfl rfl) rfl rfl (r_eql rfl rfl) ?_
      refine L_run (.plain rfl) rfl rfl (r_pick_t (v := .bool _) rfl rfl) ?_
      refine L_run (.plain rfl) rfl rfl (r_assign (v := .bool _) rfl) ?_
      refine L_nil ?_
      refine W_ret ?_
      refine ret1 (v := .bool _) rfl rfl ?_
      first
      | exact absurd h24 (by decide)
      | exact ⟨congrArg Value.bool (decide_eq_true rfl), by (repeat (first | exact Ch.refl _ | assumption | (refine Ch.fresh ?_ (by assumption) (by intro i hi he; first | exact he | (exfalso; have he2 : i = _ := he; omega)))))⟩
      | exact ⟨rfl, by (repeat (first | exact Ch.refl _ | assumption | (refine Ch.fresh ?_ (by assumption) (by intro i hi he; first | exact he | (exfalso; have he2 : i = _ := he; omega)))))⟩
    · refine L_pass rfl rfl rfl rfl rfl ?_
      refine L_pass rfl rfl rfl rfl rfl ?_
      refine L_pass rfl rfl rfl rfl rfl ?_
      refine L_run (.plain rfl) rfl rfl (r_pick_f (v := .bool _) rfl rfl) ?_
      refine L_run (.plain rfl) rfl rfl (r_move (v := .bool _) rfl) ?_
      refine L_pass rfl rfl rfl rfl rfl ?_
      refine L_pass rfl rfl rfl rfl rfl ?_
      refine L_run (.plain rfl) rfl rfl (r_pick_f (v := .bool _) rfl rfl) ?_
      refine L_run (.plain rfl) rfl rfl (r_assign (v := .bool _) rfl) ?_
      refine L_nil ?_
      refine W_ret ?_
      refine ret1 (v := .bool _) rfl rfl ?_
      first
      | exact absurd h24 (by decide)
      | exact ⟨congrArg Value.bool (decide_eq_true rfl), by (repeat (first | exact Ch.refl _ | assumption | (refine Ch.fresh ?_ (by assumption) (by intro i hi he; first | exact he | (exfalso; have he2 : i = _ := he; omega)))))⟩
      | exact ⟨rfl, by (repeat (first | exact Ch.refl _ | assumption | (refine Ch.fresh ?_ (by assumption) (by intro i hi he; first | exact he | (exfalso; have he2 : i = _ := he; omega)))))⟩
  · omega
set_option maxHeartbeats 1000000 in
set_option maxRecDepth 100000 in
theorem MessageMost_small (k q : Nat) (w0 : World) (hk : k ≤ 65535) (hq : (k : Int) % 8200 = (q : Int)) (hb : ¬ 8192 < q) (hT : Tabs w0.heap.size w0) : Does Tryd.prog 8 #[.int .u16 k] w0 (fun r w' => r = .bool true ∧ Nw w0 w') := by
  have hzs := MZ_size q
  have hzs2 : (sb (List.replicate q 0)).size = q := hzs
  have hpl := putM_le (MZ_ok q) (MZ_small hb)
  have hpl2 := put_length (putM (MZ q))
  refine fn_of (n := 52) (args := [.int .u16 k]) Tryd.func8 rfl rfl rfl ?_
  refine W_seq ?_
  refine W_region ?_
  refine L_run (.plain rfl) rfl rfl (r_assign (v := .bool _) rfl) ?_
  refine L_nil ?_
  refine W_seq ?_
  refine W_region ?_
  refine L_run (.plain rfl) rfl rfl (r_move (v := .int _ _) rfl) ?_
  refine L_run (.plain rfl) rfl rfl (r_conv Tryd.underlying40 Tryd.underlying3 rfl (by first | exact wr_i64 (by omega) | rfl)) ?_
  refine L_run (.plain rfl) rfl rfl (r_remn rfl rfl (by omega) (by omega)) ?_
  rw [hq]
  refine L_make1 Tryd.underlying26 (show _ = some (some _, 1, 1) from rfl) rfl (.plain rfl) rfl rfl rfl (by omega) (by omega) (by unfold maxLen; omega) (fun v11 w1 ho11 c1 => ?_)
  have hz1 := c1.size
  have hb11 : By w1 _ (List.replicate q 0) := by_zeros ho11 (by omega)
  refine L_run (.plain rfl) rfl rfl (r_bstr Tryd.underlying26 Tryd.underlying5 Tryd.underlying9 (by conv => lhs; whnf) (by (exact Sl.to (by first | assumption | exact Sl.own (by assumption) | exact Mu.sl (by assumption) | exact Ow.sl (by assumption)) (fun i hi => by (repeat (first | exact Sm.refl _ _ | (refine Sm.stepT (by assumption) (by intro hlt hsm; first | exact not_no | (intro he; have he2 : _ = _ := he; omega)) ?_))))))) ?_
  refine L_run (.plain rfl) rfl rfl (r_build1 (pl := [(0, 1), (1, 1), (2, 1), (3, 1), (4, 1), (5, 1), (6, 1), (7, 1)]) (vs := [(0, .int _ _), (1, .int _ _), (2, .int _ _), (7, .string _)]) (cells := [_, _, _, _, _, _, _, _]) Tryd.underlying24 rfl rfl (by rfl) rfl (by rfl)) ?_
  refine L_new (.plain rfl) rfl rfl (r_alloca rfl) (fun w2 b3 hb3 eb2 hs2 c2 => ?_)
  refine L_storerow (.plain rfl) rfl rfl (by (exact Bk.to (by assumption) (by (repeat (first | exact Sm.refl _ _ | (refine Sm.stepT (by assumption) (by intro hlt hsm; first | exact not_no | (intro he; have he2 : _ = _ := he; omega)) ?_)))))) (by first | rfl | (simp; done) | assumption) (by first | rfl | assumption) (by first | rfl | (simp [Value.oneCell']; done) | assumption) (fun w3 hb3 hs3 c3 => ?_)
  refine L_nil ?_
  refine W_seq ?_
  refine W_region ?_
  refine L_run (.plain rfl) rfl rfl (r_loadrow Tryd.underlying24 rfl rfl (by (exact Bk.to (by assumption) (by (repeat (first | exact Sm.refl _ _ | (refine Sm.stepT (by assumption) (by intro hlt hsm; first | exact not_no | (intro he; have he2 : _ = _ := he; omega)) ?_)))))) (by first | rfl | assumption)) ?_
  refine L_call (.plain rfl) rfl rfl (r_call Tryd.func10 rfl rfl rfl (by rfl)) (mput_good (MZ q) _ (MZ_ok q) (MZ_small hb)) ?_
  rintro v16 w4 ⟨v2, rfl, ho4, c4⟩
  have hz4 := c4.size
  have hB2 : By w4 v2 (put (putM (MZ q))) := by have h := Sl.own ho4; show Sl _ _ 1 (put (putM (MZ q))).length _; rw [put_length]; exact h
  refine L_run (.plain rfl) rfl rfl (r_move (by conv => lhs; whnf)) ?_
  refine L_run (.plain rfl) rfl rfl (r_ext2_0 rfl) ?_
  refine L_run (.plain rfl) rfl rfl (r_ext2_1 rfl) ?_
  refine L_run (.plain rfl) rfl rfl (r_assign (by conv => lhs; whnf)) ?_
  refine L_run (.plain rfl) rfl rfl (r_assign (v := .int _ _) rfl) ?_
  refine L_nil ?_
  refine W_seq ?_
  refine W_seq ?_
  refine W_region ?_
  refine L_run (.plain rfl) rfl rfl (r_fieldb Tryd.underlying24 rfl (show _ = some 1 from rfl) rfl rfl (show _ = 7 from rfl)) ?_
  refine L_run (.plain rfl) rfl rfl (r_loadb rfl rfl (by (exact Bk.to (by assumption) (by (repeat (first | exact Sm.refl _ _ | (refine Sm.stepT (by assumption) (by intro hlt hsm; first | exact not_no | (intro he; have he2 : _ = _ := he; omega)) ?_)))))) (by first | assumption | (conv => lhs; simp only [List.getElem?_toArray, List.getElem?_cons_succ, List.getElem?_cons_zero]))) ?_
  refine L_run (.plain rfl) rfl rfl (r_lens Tryd.underlying9 rfl) ?_
  refine L_run (.plain rfl) rfl rfl (r_gtr rfl rfl) ?_
  refine L_nil ?_
  refine W_if rfl (fun h22 => ?_) (fun h22 => ?_)
  · omega
  · refine W_skip ?_
    refine W_seq ?_
    refine W_region ?_
    refine L_run (.plain rfl) rfl rfl (r_move (by conv => lhs; whnf)) ?_
    refine L_call (.plain rfl) rfl rfl (r_call Tryd.func13 rfl rfl rfl (by rfl)) (getm_all _ (put (putM (MZ q))) _ (by (exact Sl.to (by first | assumption | exact Sl.own (by assumption) | exact Mu.sl (by assumption) | exact Ow.sl (by assumption)) (fun i hi => by (repeat (first | exact Sm.refl _ _ | (refine Sm.stepT (by assumption) (by intro hlt hsm; first | exact not_no | (intro he; have he2 : _ = _ := he; omega)) ?_)))))) (by omega) ((hT.nw (by (repeat (first | exact Ch.refl _ | assumption | (refine Ch.fresh ?_ (by assumption) (by intro i hi he; first | exact he | (exfalso; have he2 : i = _ := he; omega)))))) (by omega)).mono (by omega))) ?_
    rintro v35 w5 ⟨rfl, c5⟩
    have hz5 := c5.size
    rw [(getm_put (MZ_ok q) (MZ_small hb)).1, (getm_put (MZ_ok q) (MZ_small hb)).2]
    refine L_run (.plain rfl) rfl rfl (r_move (by conv => lhs; whnf)) ?_
    refine L_run (.plain rfl) rfl rfl (r_ext2_0 rfl) ?_
    refine L_run (.plain rfl) rfl rfl (r_ext2_1 rfl) ?_
    refine L_new (.plain rfl) rfl rfl (r_alloca rfl) (fun w6 b6 hb6 eb6 hs6 c6 => ?_)
    refine L_storerow (.plain rfl) rfl rfl (by (exact Bk.to (by assumption) (by (repeat (first | exact Sm.refl _ _ | (refine Sm.stepT (by assumption) (by intro hlt hsm; first | exact not_no | (intro he; have he2 : _ = _ := he; omega)) ?_)))))) (by first | rfl | (simp; done) | assumption) (by first | rfl | assumption) (by first | rfl | (simp [Value.oneCell']; done) | assumption) (fun w7 hb7 hs7 c7 => ?_)
    refine L_run (.plain rfl) rfl rfl (r_assign (v := .int _ _) rfl) ?_
    refine L_nil ?_
    refine W_seq ?_
    refine W_region ?_
    refine L_call (.plain rfl) rfl rfl (r_call Tryd.func9 rfl rfl rfl (by rfl)) (awake_walk _ ((hT.nw (by (repeat (first | exact Ch.refl _ | assumption | (refine Ch.fresh ?_ (by assumption) (by intro i hi he; first | exact he | (exfalso; have he2 : i = _ := he; omega)))))) (by omega)).mono (by omega))) ?_
    rintro v38 w8 ⟨rfl, c8⟩
    have hz8 := c8.size
    refine L_run (.plain rfl) rfl rfl (r_move (v := .bool _) rfl) ?_
    refine L_caseb (d := 39) rfl (fun h39 => ?_) (fun h39 => ?_)
    · refine L_run (.yes 1 true rfl rfl) rfl rfl (r_move (v := .int _ _) rfl) ?_
      refine L_run (.yes 1 true rfl rfl) rfl rfl (r_eql rfl rfl) ?_
      refine L_as (v := .bool _) (v' := .bool true) 41 rfl (dec_t (by rfl)).symm ?_
      refine L_run (.plain rfl) rfl rfl (r_pick_t (v := .bool _) rfl rfl) ?_
      refine L_run (.plain rfl) rfl rfl (r_move (v := .bool _) rfl) ?_
      refine L_run (.yes 5 true rfl rfl) rfl rfl (r_move (v := .int _ _) rfl) ?_
      refine L_run (.yes 5 true rfl rfl) rfl rfl (r_eql rfl rfl) ?_
      refine L_as (v := .bool _) (v' := .bool true) 45 rfl (dec_t (by rfl)).symm ?_
      refine L_run (.plain rfl) rfl rfl (r_pick_t (v := .bool _) rfl rfl) ?_
      refine L_run (.plain rfl) rfl rfl (r_move (v := .bool _) rfl) ?_
      refine L_run (.yes 9 true rfl rfl) rfl rfl (r_loadrow Tryd.underlying24 rfl rfl (by (exact Bk.to (by assumption) (by (repeat (first | exact Sm.refl _ _ | (refine Sm.stepT (by assumption) (by intro hlt hsm; first | exact not_no | (intro he; have he2 : _ = _ := he; omega)) ?_)))))) (by first | rfl | assumption)) ?_
      refine L_run (.yes 9 true rfl rfl) rfl rfl (r_loadrow Tryd.underlying24 rfl rfl (by (exact Bk.to (by assumption) (by (repeat (first | exact Sm.refl _ _ | (refine Sm.stepT (by assumption) (by intro hlt hsm; first | exact not_no | (intro he; have he2 : _ = _ := he; omega)) ?_)))))) (by first | rfl | assumption)) ?_
      refine L_run (.yes 9 true rfl rfl) rfl rfl (r_eqlR (xs := #[.int _ _, .int _ _, .int _ _, .int _ _, .int _ _, .string _, .int _ _, .string _]) (ys := #[.int _ _, .int _ _, .int _ _, .int _ _, .int _ _, .string _, .int _ _, .string _]) rfl rfl (by kernel_rfl) (eqMsg _ _ _ _ _ _ _ _ _ _ _ _ _ _ _ _ _)) ?_
      refine L_run (.plain rfl) rfl rfl (r_pick_t (v := .bool _) rfl rfl) ?_
      refine L_run (.plain rfl) rfl rfl (r_assign (v := .bool _) rfl) ?_
      refine L_nil ?_
      refine W_ret ?_
      refine ret1 (v := .bool _) rfl rfl ?_
      first
      | exact absurd h39 (by decide)
      | exact ⟨congrArg Value.bool (decide_eq_true ⟨rfl, rfl, rfl, rfl, rfl, rfl, rfl, rfl⟩), by (repeat (first | exact Ch.refl _ | assumption | (refine Ch.fresh ?_ (by assumption) (by intro i hi he; first | exact he | (exfalso; have he2 : i = _ := he; omega)))))⟩
      | exact ⟨rfl, by (repeat (first | exact Ch.refl _ | assumption | (refine Ch.fresh ?_ (by assumption) (by intro i hi he; first | exact he | (exfalso; have he2 : i = _ := he; omega)))))⟩
    · refine L_pass rfl rfl rfl rfl rfl ?_
      refine L_pass rfl rfl rfl rfl rfl ?_
      refine L_run (.plain rfl) rfl rfl (r_pick_f (v := .bool _) rfl rfl) ?_
      refine L_run (.plain rfl) rfl rfl (r_move (v := .bool _) rfl) ?_
      refine L_pass rfl rfl rfl rfl rfl ?_
      refine L_pass rfl rfl rfl rfl rfl ?_
      refine L_run (.plain rfl) rfl rfl (r_pick_f (v := .bool _) rfl rfl) ?_
      refine L_run (.plain rfl) rfl rfl (r_move (v := .bool _) rfl) ?_
      refine L_pass rfl rfl rfl rfl rfl ?_
      refine L_pass rfl rfl rfl rfl rfl ?_
      refine L_pass rfl rfl rfl rfl rfl ?_
      refine L_run (.plain rfl) rfl rfl (r_pick_f (v := .bool _) rfl rfl) ?_
      refine L_run (.plain rfl) rfl rfl (r_assign (v := .bool _) rfl) ?_
      refine L_nil ?_
      refine W_ret ?_
      refine ret1 (v := .bool _) rfl rfl ?_
      first
      | exact absurd h39 (by decide)
      | exact ⟨congrArg Value.bool (decide_eq_true ⟨rfl, rfl, rfl, rfl, rfl, rfl, rfl, rfl⟩), by (repeat (first | exact Ch.refl _ | assumption | (refine Ch.fresh ?_ (by assumption) (by intro i hi he; first | exact he | (exfalso; have he2 : i = _ := he; omega)))))⟩
      | exact ⟨rfl, by (repeat (first | exact Ch.refl _ | assumption | (refine Ch.fresh ?_ (by assumption) (by intro i hi he; first | exact he | (exfalso; have he2 : i = _ := he; omega)))))⟩
theorem MessageMost_walk (a0 : Int) (w0 : World) (x0 : 0 ≤ a0 ∧ a0 ≤ 65535) (hT : Tabs w0.heap.size w0) : Does Tryd.prog 8 #[.int .u16 a0] w0 (fun r w' => r = .bool true ∧ Nw w0 w') := by
  obtain ⟨k, rfl⟩ : ∃ k : Nat, a0 = k := ⟨a0.toNat, by omega⟩
  by_cases hb : 8192 < k % 8200
  · exact MessageMost_big k (k % 8200) w0 (by omega) (by omega) hb hT
  · exact MessageMost_small k (k % 8200) w0 (by omega) (by omega) hb hT
end Go.Proofs.YtcbcelfgbelaoaaDoor

