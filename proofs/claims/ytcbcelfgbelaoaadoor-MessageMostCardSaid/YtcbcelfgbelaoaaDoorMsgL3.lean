/- The statements MessageGets, MessageApart, MessageMost, walked. -/
import Derived.Test.YtcbcelfgbelaoaaDoorMsgL1
namespace Go.Proofs.YtcbcelfgbelaoaaDoor
open Go Go.RowKit
set_option linter.unusedVariables false
set_option linter.unusedSimpArgs false
theorem getB_is {l : List UInt8} (h : getB l) : put (getL l) = l := by
  have e : getL l = l.take (l.length - 4) := if_pos h
  rw [e, put, ← h.2.2, List.take_append_drop]
theorem getE_0 {l : List UInt8} (h : getE l = 0) : getB l := by
  apply Classical.byContradiction
  intro hn
  unfold getE at h
  rw [if_neg hn] at h
  split at h <;> exact absurd h (by decide)
theorem mgetE_bad {l : List UInt8} (h : mgetE l ≠ 0) : mgetM l = Msg.zero ∧ mgetE l = 140 := by
  unfold mgetE mgetM at *
  split at h
  · exact absurd rfl h
  · rename_i hn
    rw [if_neg hn, if_neg hn]; exact ⟨rfl, rfl⟩
theorem mgetE_ok {l : List UInt8} (h : ¬ mgetE l ≠ 0) : (mgetM l).ok ∧ checkC (mgetM l) = 0 ∧ put (putM (mgetM l)) = l := by
  unfold mgetE at h
  by_cases hg : getE l = 0 ∧ getOk (getL l)
  · have e : mgetM l = gotM (getL l) := if_pos hg
    rw [e]
    exact ⟨gotM_ok _, hg.2.2.2, by rw [get_canon hg.2, getB_is (getE_0 hg.1)]⟩
  · rw [if_neg hg] at h; exact absurd (by decide) h
theorem put_inj {l l' : List UInt8} (h : put l = put l') : l = l' := by
  have h1 := congrArg List.length h
  rw [put_length, put_length] at h1
  exact (List.append_inj h (by omega)).1
theorem msg_eq {m n : Msg} (h : m.kind = n.kind ∧ m.life = n.life ∧ m.seq = n.seq ∧ m.below = n.below ∧ m.object = n.object ∧ m.method = n.method ∧ m.way = n.way ∧ m.body = n.body) : m = n := by
  obtain ⟨a, b, c, d, e, f, g, i⟩ := m
  obtain ⟨a', b', c', d', e', f', g', i'⟩ := n
  simp only at h
  obtain ⟨rfl, rfl, rfl, rfl, rfl, rfl, rfl, rfl⟩ := h
  rfl
theorem rput_size (s : ByteArray) : (rput s).size = s.size + 4 := by rw [← sb_put, sb_size, put_length, bs_length]
set_option maxHeartbeats 1000000 in
set_option maxRecDepth 100000 in
theorem MessageGets_n (s : ByteArray) (fr : Bool) (w0 : World) (x0 : s.size ≤ 140737488351232) (hT : Tabs w0.heap.size w0) : Does Tryd.prog 4 #[.string s, .bool fr] w0 (fun r w' => r = .bool true ∧ Nw w0 w') := by
  refine fn_of (n := 44) (args := [.string s, .bool fr]) Tryd.func4 rfl rfl rfl ?_
  refine W_seq ?_
  refine W_region ?_
  refine L_run (.plain rfl) rfl rfl (r_assign (v := .bool _) rfl) ?_
  refine L_nil ?_
  refine W_seq ?_
  refine W_seq ?_
  refine W_region ?_
  refine L_run (.plain rfl) rfl rfl (r_move (v := .string _) rfl) ?_
  refine L_run (.plain rfl) rfl rfl (r_lens Tryd.underlying9 rfl) ?_
  refine L_run (.plain rfl) rfl rfl (r_gtr rfl rfl) ?_
  refine L_nil ?_
  refine W_if rfl (fun h9 => ?_) (fun h9 => ?_)
  · refine W_seq ?_
    refine W_region ?_
    refine L_call (.plain rfl) rfl rfl (r_call Tryd.func9 rfl rfl rfl (by rfl)) (awake_walk _ ((hT.nw (by (repeat (first | exact Ch.refl _ | assumption | (refine Ch.fresh ?_ (by assumption) (by intro i hi he; first | exact he | (exfalso; have he2 : i = _ := he; omega)))))) (by omega)).mono (by omega))) ?_
    rintro v10 w1 ⟨rfl, c1⟩
    have hz1 := c1.size
    refine L_run (.plain rfl) rfl rfl (r_assign (v := .bool _) rfl) ?_
    refine L_nil ?_
    refine W_ret ?_
    refine ret1 (v := .bool _) rfl rfl ?_
    refine ⟨?_, by (repeat (first | exact Ch.refl _ | assumption | (refine Ch.fresh ?_ (by assumption) (by intro i hi he; first | exact he | (exfalso; have he2 : i = _ := he; omega)))))⟩
    first
    | exact congrArg Value.bool (decide_eq_true hz2)
    | exact congrArg Value.bool (decide_eq_true (sb_bs u))
    | exact absurd h23 (by decide)
    | exact absurd h33 (by decide)
    | exact rfl
  · refine W_skip ?_
    refine W_seq ?_
    refine W_seq ?_
    refine W_region ?_
    refine L_run (.plain rfl) rfl rfl (r_move (v := .bool _) rfl) ?_
    refine L_nil ?_
    refine W_endF [] (fun f W => ∃ (u : ByteArray), f 0 = .string u ∧ (u.size ≤ 9004 ∧ Nw w0 W)) ?_ ?_
    · refine W_bool rfl (fun h11 => ?_) (fun h11 => ?_)
      · refine W_region ?_
        refine L_run (.plain rfl) rfl rfl (r_move (v := .string _) rfl) ?_
        refine L_call (.plain rfl) rfl rfl (r_call Tryd.func15 rfl rfl rfl (by rfl)) (rput_walk s _ (by omega)) ?_
        rintro v13 w2 ⟨rfl, c2⟩
        have hz2 := c2.size
        refine L_run (.plain rfl) rfl rfl (r_assign (v := .string _) rfl) ?_
        refine L_nil ?_
        refine ⟨trivial, _, rfl, ?_⟩
        exact ⟨by first | omega | (rw [rput_size]; omega), by (repeat (first | exact Ch.refl _ | assumption | (refine Ch.fresh ?_ (by assumption) (by intro i hi he; first | exact he | (exfalso; have he2 : i = _ := he; omega)))))⟩
      · refine W_skip ?_
        refine ⟨trivial, _, rfl, ?_⟩
        exact ⟨by first | omega | (rw [rput_size]; omega), by (repeat (first | exact Ch.refl _ | assumption | (refine Ch.fresh ?_ (by assumption) (by intro i hi he; first | exact he | (exfalso; have he2 : i = _ := he; omega)))))⟩
    rintro gct11 w3 ⟨u, hf0, hCt11⟩
    refine W_as 0 hf0 rfl ?_
    clear hf0
    obtain ⟨hu, hnw⟩ := hCt11
    have hz := hnw.size
    have hbu := bs_length u
    refine W_seq ?_
    refine W_region ?_
    refine L_run (.plain rfl) rfl rfl (r_move (v := .string _) rfl) ?_
    refine L_sbytes Tryd.underlying9 Tryd.underlying26 Tryd.underlying5 (by first | omega | (simp only [sb_size, ByteArray.size_append]; omega)) (.plain rfl) rfl rfl (fun v16 w4 hv16 c4 eb4 hs4 => ?_)
    refine L_call (.plain rfl) rfl rfl (r_call Tryd.func13 rfl rfl rfl (by rfl)) (getm_all _ (bs u) _ (by (exact Sl.to (by first | assumption | exact Sl.own (by assumption) | exact Mu.sl (by assumption) | exact Ow.sl (by assumption)) (fun i hi => by (repeat (first | exact Sm.refl _ _ | (refine Sm.stepT (by assumption) (by intro hlt hsm; exact not_no) ?_)))))) (by omega) ((hT.nw (by (repeat (first | exact Ch.refl _ | assumption | (refine Ch.fresh ?_ (by assumption) (by intro i hi he; first | exact he | (exfalso; have he2 : i = _ := he; omega)))))) (by omega)).mono (by omega))) ?_
    rintro v17 w5 ⟨rfl, c5⟩
    have hz5 := c5.size
    refine L_run (.plain rfl) rfl rfl (r_move (by conv => lhs; whnf)) ?_
    refine L_run (.plain rfl) rfl rfl (r_ext2_0 rfl) ?_
    refine L_run (.plain rfl) rfl rfl (r_ext2_1 rfl) ?_
    refine L_new (.plain rfl) rfl rfl (r_alloca rfl) (fun w6 b5 hb5 eb6 hs6 c6 => ?_)
    refine L_storerow (.plain rfl) rfl rfl (by (exact Bk.to (by assumption) (by (repeat (first | exact Sm.refl _ _ | (refine Sm.stepT (by assumption) (by intro hlt hsm; exact not_no) ?_)))))) (by first | rfl | (simp; done) | assumption) (by first | rfl | assumption) (by first | rfl | (simp [Value.oneCell']; done) | assumption) (fun w7 hb7 hs7 c7 => ?_)
    refine L_run (.plain rfl) rfl rfl (r_assign (v := .int _ _) rfl) ?_
    refine L_nil ?_
    refine W_seq ?_
    refine W_seq ?_
    refine W_region ?_
    refine L_run (.plain rfl) rfl rfl (r_move (v := .int _ _) rfl) ?_
    refine L_run (.plain rfl) rfl rfl (r_neq rfl rfl) ?_
    refine L_nil ?_
    refine W_if rfl (fun h21 => ?_) (fun h21 => ?_)
    · obtain ⟨hz1, hz2⟩ := mgetE_bad h21
      refine W_seq ?_
      refine W_region ?_
      refine L_call (.plain rfl) rfl rfl (r_call Tryd.func9 rfl rfl rfl (by rfl)) (awake_walk _ ((hT.nw (by (repeat (first | exact Ch.refl _ | assumption | (refine Ch.fresh ?_ (by assumption) (by intro i hi he; first | exact he | (exfalso; have he2 : i = _ := he; omega)))))) (by omega)).mono (by omega))) ?_
      rintro v22 w8 ⟨rfl, c8⟩
      have hz8 := c8.size
      refine L_run (.plain rfl) rfl rfl (r_move (v := .bool _) rfl) ?_
      refine L_caseb (d := 23) rfl (fun h23 => ?_) (fun h23 => ?_)
      · refine L_run (.yes 1 true rfl rfl) rfl rfl (r_loadrow Tryd.underlying24 rfl rfl (by (exact Bk.to (by assumption) (by (repeat (first | exact Sm.refl _ _ | (refine Sm.stepT (by assumption) (by intro hlt hsm; exact not_no) ?_)))))) (by first | rfl | assumption)) ?_
        refine L_run (.yes 1 true rfl rfl) rfl rfl (r_build1 (pl := [(0, 1), (1, 1), (2, 1), (3, 1), (4, 1), (5, 1), (6, 1), (7, 1)]) (vs := []) (cells := [_, _, _, _, _, _, _, _]) Tryd.underlying24 rfl rfl (by rfl) rfl (by rfl)) ?_
        refine L_run (.yes 1 true rfl rfl) rfl rfl (r_eqlR (xs := #[.int _ _, .int _ _, .int _ _, .int _ _, .int _ _, .string _, .int _ _, .string _]) (ys := #[.int _ _, .int _ _, .int _ _, .int _ _, .int _ _, .string _, .int _ _, .string _]) rfl rfl (by kernel_rfl) (eqMsg _ _ _ _ _ _ _ _ _ _ _ _ _ _ _ _ _)) ?_
        refine L_as (v := .bool _) (v' := .bool true) 26 rfl (dec_t (by rw [hz1]; exact ⟨rfl, rfl, rfl, rfl, rfl, rfl, rfl, rfl⟩)).symm ?_
        refine L_run (.plain rfl) rfl rfl (r_pick_t (v := .bool _) rfl rfl) ?_
        refine L_run (.plain rfl) rfl rfl (r_move (v := .bool _) rfl) ?_
        refine L_run (.yes 6 true rfl rfl) rfl rfl (r_move (v := .int _ _) rfl) ?_
        refine L_run (.yes 6 true rfl rfl) rfl rfl (r_eql rfl rfl) ?_
        refine L_run (.plain rfl) rfl rfl (r_pick_t (v := .bool _) rfl rfl) ?_
        refine L_run (.plain rfl) rfl rfl (r_assign (v := .bool _) rfl) ?_
        refine L_nil ?_
        refine W_ret ?_
        refine ret1 (v := .bool _) rfl rfl ?_
        refine ⟨?_, by (repeat (first | exact Ch.refl _ | assumption | (refine Ch.fresh ?_ (by assumption) (by intro i hi he; first | exact he | (exfalso; have he2 : i = _ := he; omega)))))⟩
        first
        | exact congrArg Value.bool (decide_eq_true hz2)
        | exact congrArg Value.bool (decide_eq_true (sb_bs u))
        | exact absurd h23 (by decide)
        | exact absurd h33 (by decide)
        | exact rfl
      · refine L_pass rfl rfl rfl rfl rfl ?_
        refine L_pass rfl rfl rfl rfl rfl ?_
        refine L_pass rfl rfl rfl rfl rfl ?_
        refine L_run (.plain rfl) rfl rfl (r_pick_f (v := .bool _) rfl rfl) ?_
        refine L_run (.plain rfl) rfl rfl (r_move (v := .bool _) rfl) ?_
        refine L_pass rfl rfl rfl rfl rfl ?_
        refine L_pass rfl rfl rfl rfl rfl ?_
        refine L_run (.plain rfl) rfl rfl (r_pick_f (v := .bool _) rfl rfl) ?_
        refine L_run (.plain rfl) rfl rfl (r_assign (v := .bool _) rfl) ?_
        refine L_nil ?_
        refine W_ret ?_
        refine ret1 (v := .bool _) rfl rfl ?_
        refine ⟨?_, by (repeat (first | exact Ch.refl _ | assumption | (refine Ch.fresh ?_ (by assumption) (by intro i hi he; first | exact he | (exfalso; have he2 : i = _ := he; omega)))))⟩
        first
        | exact congrArg Value.bool (decide_eq_true hz2)
        | exact congrArg Value.bool (decide_eq_true (sb_bs u))
        | exact absurd h23 (by decide)
        | exact absurd h33 (by decide)
        | exact rfl
    · obtain ⟨hz1, hz2, hz3⟩ := mgetE_ok h21
      have hz4 := (may hz2).2.1
      refine W_skip ?_
      refine W_seq ?_
      refine W_region ?_
      refine L_call (.plain rfl) rfl rfl (r_call Tryd.func9 rfl rfl rfl (by rfl)) (awake_walk _ ((hT.nw (by (repeat (first | exact Ch.refl _ | assumption | (refine Ch.fresh ?_ (by assumption) (by intro i hi he; first | exact he | (exfalso; have he2 : i = _ := he; omega)))))) (by omega)).mono (by omega))) ?_
      rintro v32 w9 ⟨rfl, c9⟩
      have hz9 := c9.size
      refine L_run (.plain rfl) rfl rfl (r_move (v := .bool _) rfl) ?_
      refine L_caseb (d := 33) rfl (fun h33 => ?_) (fun h33 => ?_)
      · refine L_run (.yes 1 true rfl rfl) rfl rfl (r_loadrow Tryd.underlying24 rfl rfl (by (exact Bk.to (by assumption) (by (repeat (first | exact Sm.refl _ _ | (refine Sm.stepT (by assumption) (by intro hlt hsm; exact not_no) ?_)))))) (by first | rfl | assumption)) ?_
        refine L_call (.yes 1 true rfl rfl) rfl rfl (r_call Tryd.func11 rfl rfl rfl (by rfl)) (rcheck_walk (mgetM (bs u)) _ hz1 (by omega)) ?_
        rintro v35 w10 ⟨rfl, c10⟩
        have hz10 := c10.size
        rw [hz2]
        refine L_run (.yes 1 true rfl rfl) rfl rfl (r_eql rfl rfl) ?_
        refine L_as (v := .bool _) (v' := .bool true) 36 rfl (dec_t (by rfl)).symm ?_
        refine L_run (.plain rfl) rfl rfl (r_pick_t (v := .bool _) rfl rfl) ?_
        refine L_run (.plain rfl) rfl rfl (r_move (v := .bool _) rfl) ?_
        refine L_run (.yes 6 true rfl rfl) rfl rfl (r_loadrow Tryd.underlying24 rfl rfl (by (exact Bk.to (by assumption) (by (repeat (first | exact Sm.refl _ _ | (refine Sm.stepT (by assumption) (by intro hlt hsm; exact not_no) ?_)))))) (by first | rfl | assumption)) ?_
        refine L_call (.yes 6 true rfl rfl) rfl rfl (r_call Tryd.func14 rfl rfl rfl (by rfl)) (rmput_walk (mgetM (bs u)) _ hz1 hz2) ?_
        rintro v40 w11 ⟨rfl, c11⟩
        have hz11 := c11.size
        rw [hz3]
        refine L_run (.yes 6 true rfl rfl) rfl rfl (r_move (v := .string _) rfl) ?_
        refine L_run (.yes 6 true rfl rfl) rfl rfl (r_eqls rfl rfl) ?_
        refine L_run (.plain rfl) rfl rfl (r_pick_t (v := .bool _) rfl rfl) ?_
        refine L_run (.plain rfl) rfl rfl (r_assign (v := .bool _) rfl) ?_
        refine L_nil ?_
        refine W_ret ?_
        refine ret1 (v := .bool _) rfl rfl ?_
        refine ⟨?_, by (repeat (first | exact Ch.refl _ | assumption | (refine Ch.fresh ?_ (by assumption) (by intro i hi he; first | exact he | (exfalso; have he2 : i = _ := he; omega)))))⟩
        first
        | exact congrArg Value.bool (decide_eq_true hz2)
        | exact congrArg Value.bool (decide_eq_true (sb_bs u))
        | exact absurd h23 (by decide)
        | exact absurd h33 (by decide)
        | exact rfl
      · refine L_pass rfl rfl rfl rfl rfl ?_
        refine L_pass rfl rfl rfl rfl rfl ?_
        refine L_pass rfl rfl rfl rfl rfl ?_
        refine L_run (.plain rfl) rfl rfl (r_pick_f (v := .bool _) rfl rfl) ?_
        refine L_run (.plain rfl) rfl rfl (r_move (v := .bool _) rfl) ?_
        refine L_pass rfl rfl rfl rfl rfl ?_
        refine L_pass rfl rfl rfl rfl rfl ?_
        refine L_pass rfl rfl rfl rfl rfl ?_
        refine L_pass rfl rfl rfl rfl rfl ?_
        refine L_run (.plain rfl) rfl rfl (r_pick_f (v := .bool _) rfl rfl) ?_
        refine L_run (.plain rfl) rfl rfl (r_assign (v := .bool _) rfl) ?_
        refine L_nil ?_
        refine W_ret ?_
        refine ret1 (v := .bool _) rfl rfl ?_
        refine ⟨?_, by (repeat (first | exact Ch.refl _ | assumption | (refine Ch.fresh ?_ (by assumption) (by intro i hi he; first | exact he | (exfalso; have he2 : i = _ := he; omega)))))⟩
        first
        | exact congrArg Value.bool (decide_eq_true hz2)
        | exact congrArg Value.bool (decide_eq_true (sb_bs u))
        | exact absurd h23 (by decide)
        | exact absurd h33 (by decide)
        | exact rfl
theorem MessageGets_walk (s : ByteArray) (fr : Bool) (w0 : World) (x0 : s.size ≤ 140737488351232) (hT : Tabs w0.heap.size w0) : Does Tryd.prog 4 #[.string s, .bool fr] w0 (fun r w' => r = .bool true ∧ Nw w0 w') :=
  MessageGets_n s fr w0 x0 hT
theorem mput_all (m : Msg) (w0 : World) (hok : m.ok) : Does Tryd.prog 10 #[m.v] w0 fun r w' => ∃ v', r = .tuple #[v', .int .i64 (checkC m)] ∧ (checkC m = 0 → By w' v' (put (putM m))) ∧ Nw w0 w' := by
  by_cases hc : checkC m = 0
  · refine (mput_good m w0 hok hc).mono ?_
    rintro r w' ⟨v', rfl, ho, c⟩
    refine ⟨v', by rw [hc], fun _ => ?_, c⟩
    have h := Sl.own ho
    show Sl _ _ 1 (put (putM m)).length _
    rw [put_length]; exact h
  · refine (mput_bad m w0 hc).mono ?_
    rintro r w' ⟨rfl, c⟩
    exact ⟨_, rfl, fun h => absurd h hc, c⟩
theorem apart {m n : Msg} (hm : m.ok) (hn : n.ok) (cm : ¬ checkC m ≠ 0) (cn : ¬ checkC n ≠ 0) : (sb (put (putM m)) = sb (put (putM n))) ↔ (m.kind = n.kind ∧ m.life = n.life ∧ m.seq = n.seq ∧ m.below = n.below ∧ m.object = n.object ∧ m.method = n.method ∧ m.way = n.way ∧ m.body = n.body) := by
  constructor
  · intro h
    have e := putM_inj hm hn (Classical.not_not.1 cm) (Classical.not_not.1 cn) (put_inj (sb_inj.1 h))
    subst e
    exact ⟨rfl, rfl, rfl, rfl, rfl, rfl, rfl, rfl⟩
  · intro h
    rw [msg_eq h]
set_option maxHeartbeats 1000000 in
set_option maxRecDepth 100000 in
theorem MessageApart_walk (m n : Msg) (w0 : World) (hm : m.ok) (hn : n.ok) (hT : Tabs w0.heap.size w0) : Does Tryd.prog 7 #[m.v, n.v] w0 (fun r w' => r = .bool true ∧ Nw w0 w') := by
  refine fn_of (n := 73) (args := [m.v, n.v]) Tryd.func7 rfl rfl rfl ?_
  refine W_seq ?_
  refine W_region ?_
  refine L_new (.plain rfl) rfl rfl (r_boxa rfl) (fun w1 b2 hb2 eb1 hs1 c1 => ?_)
  refine L_new (.plain rfl) rfl rfl (r_boxa rfl) (fun w2 b3 hb3 eb2 hs2 c2 => ?_)
  refine L_run (.plain rfl) rfl rfl (r_assign (v := .bool _) rfl) ?_
  refine L_nil ?_
  refine W_seq ?_
  refine W_seq ?_
  refine W_region ?_
  refine L_run (.plain rfl) rfl rfl (r_fieldb Tryd.underlying24 rfl (show _ = some 1 from rfl) rfl rfl (show _ = 7 from rfl)) ?_
  refine L_run (.plain rfl) rfl rfl (r_loadb rfl rfl (by (exact Bk.to (by assumption) (by (repeat (first | exact Sm.refl _ _ | (refine Sm.stepT (by assumption) (by intro hlt hsm; exact not_no) ?_)))))) (by first | assumption | (conv => lhs; simp only [List.getElem?_toArray, List.getElem?_cons_succ, List.getElem?_cons_zero]))) ?_
  refine L_run (.plain rfl) rfl rfl (r_lens Tryd.underlying9 rfl) ?_
  refine L_run (.plain rfl) rfl rfl (r_gtr rfl rfl) ?_
  refine L_run (.plain rfl) rfl rfl (r_move (v := .bool _) rfl) ?_
  refine L_case (d := 13) rfl (fun h13 => ?_) (fun h13 => ?_)
  · refine L_pass rfl rfl rfl rfl rfl ?_
    refine L_pass rfl rfl rfl rfl rfl ?_
    refine L_pass rfl rfl rfl rfl rfl ?_
    refine L_pass rfl rfl rfl rfl rfl ?_
    refine L_run (.plain rfl) rfl rfl (r_pick_t (v := .bool _) rfl rfl) ?_
    refine L_run (.plain rfl) rfl rfl (r_move (v := .bool _) rfl) ?_
    refine L_pass rfl rfl rfl rfl rfl ?_
    refine L_pass rfl rfl rfl rfl rfl ?_
    refine L_pass rfl rfl rfl rfl rfl ?_
    refine L_pass rfl rfl rfl rfl rfl ?_
    refine L_run (.plain rfl) rfl rfl (r_pick_t (v := .bool _) rfl rfl) ?_
    refine L_run (.plain rfl) rfl rfl (r_move (v := .bool _) rfl) ?_
    refine L_pass rfl rfl rfl rfl rfl ?_
    refine L_pass rfl rfl rfl rfl rfl ?_
    refine L_pass rfl rfl rfl rfl rfl ?_
    refine L_pass rfl rfl rfl rfl rfl ?_
    refine L_run (.plain rfl) rfl rfl (r_pick_t (v := .bool _) rfl rfl) ?_
    refine L_nil ?_
    refine W_true rfl ?_
    refine W_seq ?_
    refine W_region ?_
    refine L_call (.plain rfl) rfl rfl (r_call Tryd.func9 rfl rfl rfl (by rfl)) (awake_walk _ ((hT.nw (by (repeat (first | exact Ch.refl _ | assumption | (refine Ch.fresh ?_ (by assumption) (by intro i hi he; exact he))))) (by omega)).mono (by omega))) ?_
    rintro v31 w3 ⟨rfl, c3⟩
    have hz3 := c3.size
    refine L_run (.plain rfl) rfl rfl (r_assign (v := .bool _) rfl) ?_
    refine L_nil ?_
    refine W_ret ?_
    refine ret1 (v := .bool _) rfl rfl ?_
    refine ⟨?_, by (repeat (first | exact Ch.refl _ | assumption | (refine Ch.fresh ?_ (by assumption) (by intro i hi he; exact he))))⟩
    first
    | exact congrArg Value.bool (decide_eq_true (decide_eq_decide.2 (apart hm hn h44 h47)))
    | exact absurd h49 (by decide)
    | exact absurd h62 (by decide)
    | exact congrArg Value.bool (decide_eq_true rfl)
    | exact rfl
  · refine L_run (.yes 4 false rfl rfl) rfl rfl (r_fieldb Tryd.underlying24 rfl (show _ = some 1 from rfl) rfl rfl (show _ = 7 from rfl)) ?_
    refine L_run (.yes 4 false rfl rfl) rfl rfl (r_loadb rfl rfl (by (exact Bk.to (by assumption) (by (repeat (first | exact Sm.refl _ _ | (refine Sm.stepT (by assumption) (by intro hlt hsm; exact not_no) ?_)))))) (by first | assumption | (conv => lhs; simp only [List.getElem?_toArray, List.getElem?_cons_succ, List.getElem?_cons_zero]))) ?_
    refine L_run (.yes 4 false rfl rfl) rfl rfl (r_lens Tryd.underlying9 rfl) ?_
    refine L_run (.yes 4 false rfl rfl) rfl rfl (r_gtr rfl rfl) ?_
    refine L_run (.plain rfl) rfl rfl (r_pick_f (v := .bool _) rfl rfl) ?_
    refine L_run (.plain rfl) rfl rfl (r_move (v := .bool _) rfl) ?_
    refine L_case (d := 19) rfl (fun h19 => ?_) (fun h19 => ?_)
    · refine L_pass rfl rfl rfl rfl rfl ?_
      refine L_pass rfl rfl rfl rfl rfl ?_
      refine L_pass rfl rfl rfl rfl rfl ?_
      refine L_pass rfl rfl rfl rfl rfl ?_
      refine L_run (.plain rfl) rfl rfl (r_pick_t (v := .bool _) rfl rfl) ?_
      refine L_run (.plain rfl) rfl rfl (r_move (v := .bool _) rfl) ?_
      refine L_pass rfl rfl rfl rfl rfl ?_
      refine L_pass rfl rfl rfl rfl rfl ?_
      refine L_pass rfl rfl rfl rfl rfl ?_
      refine L_pass rfl rfl rfl rfl rfl ?_
      refine L_run (.plain rfl) rfl rfl (r_pick_t (v := .bool _) rfl rfl) ?_
      refine L_nil ?_
      refine W_true rfl ?_
      refine W_seq ?_
      refine W_region ?_
      refine L_call (.plain rfl) rfl rfl (r_call Tryd.func9 rfl rfl rfl (by rfl)) (awake_walk _ ((hT.nw (by (repeat (first | exact Ch.refl _ | assumption | (refine Ch.fresh ?_ (by assumption) (by intro i hi he; exact he))))) (by omega)).mono (by omega))) ?_
      rintro v31 w4 ⟨rfl, c4⟩
      have hz4 := c4.size
      refine L_run (.plain rfl) rfl rfl (r_assign (v := .bool _) rfl) ?_
      refine L_nil ?_
      refine W_ret ?_
      refine ret1 (v := .bool _) rfl rfl ?_
      refine ⟨?_, by (repeat (first | exact Ch.refl _ | assumption | (refine Ch.fresh ?_ (by assumption) (by intro i hi he; exact he))))⟩
      first
      | exact congrArg Value.bool (decide_eq_true (decide_eq_decide.2 (apart hm hn h44 h47)))
      | exact absurd h49 (by decide)
      | exact absurd h62 (by decide)
      | exact congrArg Value.bool (decide_eq_true rfl)
      | exact rfl
    · refine L_run (.yes 10 false rfl rfl) rfl rfl (r_fieldb Tryd.underlying24 rfl (show _ = some 1 from rfl) rfl rfl (show _ = 5 from rfl)) ?_
      refine L_run (.yes 10 false rfl rfl) rfl rfl (r_loadb rfl rfl (by (exact Bk.to (by assumption) (by (repeat (first | exact Sm.refl _ _ | (refine Sm.stepT (by assumption) (by intro hlt hsm; exact not_no) ?_)))))) (by first | assumption | (conv => lhs; simp only [List.getElem?_toArray, List.getElem?_cons_succ, List.getElem?_cons_zero]))) ?_
      refine L_run (.yes 10 false rfl rfl) rfl rfl (r_lens Tryd.underlying9 rfl) ?_
      refine L_run (.yes 10 false rfl rfl) rfl rfl (r_gtr rfl rfl) ?_
      refine L_run (.plain rfl) rfl rfl (r_pick_f (v := .bool _) rfl rfl) ?_
      refine L_run (.plain rfl) rfl rfl (r_move (v := .bool _) rfl) ?_
      refine L_case (d := 25) rfl (fun h25 => ?_) (fun h25 => ?_)
      · refine L_pass rfl rfl rfl rfl rfl ?_
        refine L_pass rfl rfl rfl rfl rfl ?_
        refine L_pass rfl rfl rfl rfl rfl ?_
        refine L_pass rfl rfl rfl rfl rfl ?_
        refine L_run (.plain rfl) rfl rfl (r_pick_t (v := .bool _) rfl rfl) ?_
        refine L_nil ?_
        refine W_true rfl ?_
        refine W_seq ?_
        refine W_region ?_
        refine L_call (.plain rfl) rfl rfl (r_call Tryd.func9 rfl rfl rfl (by rfl)) (awake_walk _ ((hT.nw (by (repeat (first | exact Ch.refl _ | assumption | (refine Ch.fresh ?_ (by assumption) (by intro i hi he; exact he))))) (by omega)).mono (by omega))) ?_
        rintro v31 w5 ⟨rfl, c5⟩
        have hz5 := c5.size
        refine L_run (.plain rfl) rfl rfl (r_assign (v := .bool _) rfl) ?_
        refine L_nil ?_
        refine W_ret ?_
        refine ret1 (v := .bool _) rfl rfl ?_
        refine ⟨?_, by (repeat (first | exact Ch.refl _ | assumption | (refine Ch.fresh ?_ (by assumption) (by intro i hi he; exact he))))⟩
        first
        | exact congrArg Value.bool (decide_eq_true (decide_eq_decide.2 (apart hm hn h44 h47)))
        | exact absurd h49 (by decide)
        | exact absurd h62 (by decide)
        | exact congrArg Value.bool (decide_eq_true rfl)
        | exact rfl
      · refine L_run (.yes 16 false rfl rfl) rfl rfl (r_fieldb Tryd.underlying24 rfl (show _ = some 1 from rfl) rfl rfl (show _ = 5 from rfl)) ?_
        refine L_run (.yes 16 false rfl rfl) rfl rfl (r_loadb rfl rfl (by (exact Bk.to (by assumption) (by (repeat (first | exact Sm.refl _ _ | (refine Sm.stepT (by assumption) (by intro hlt hsm; exact not_no) ?_)))))) (by first | assumption | (conv => lhs; simp only [List.getElem?_toArray, List.getElem?_cons_succ, List.getElem?_cons_zero]))) ?_
        refine L_run (.yes 16 false rfl rfl) rfl rfl (r_lens Tryd.underlying9 rfl) ?_
        refine L_run (.yes 16 false rfl rfl) rfl rfl (r_gtr rfl rfl) ?_
        refine L_run (.plain rfl) rfl rfl (r_pick_f (v := .bool _) rfl rfl) ?_
        refine L_nil ?_
        refine W_if rfl (fun h30 => ?_) (fun h30 => ?_)
        · refine W_seq ?_
          refine W_region ?_
          refine L_call (.plain rfl) rfl rfl (r_call Tryd.func9 rfl rfl rfl (by rfl)) (awake_walk _ ((hT.nw (by (repeat (first | exact Ch.refl _ | assumption | (refine Ch.fresh ?_ (by assumption) (by intro i hi he; exact he))))) (by omega)).mono (by omega))) ?_
          rintro v31 w6 ⟨rfl, c6⟩
          have hz6 := c6.size
          refine L_run (.plain rfl) rfl rfl (r_assign (v := .bool _) rfl) ?_
          refine L_nil ?_
          refine W_ret ?_
          refine ret1 (v := .bool _) rfl rfl ?_
          refine ⟨?_, by (repeat (first | exact Ch.refl _ | assumption | (refine Ch.fresh ?_ (by assumption) (by intro i hi he; exact he))))⟩
          first
          | exact congrArg Value.bool (decide_eq_true (decide_eq_decide.2 (apart hm hn h44 h47)))
          | exact absurd h49 (by decide)
          | exact absurd h62 (by decide)
          | exact congrArg Value.bool (decide_eq_true rfl)
          | exact rfl
        · refine W_skip ?_
          refine W_seq ?_
          refine W_region ?_
          refine L_run (.plain rfl) rfl rfl (r_loadrow Tryd.underlying24 rfl rfl (by (exact Bk.to (by assumption) (by (repeat (first | exact Sm.refl _ _ | (refine Sm.stepT (by assumption) (by intro hlt hsm; exact not_no) ?_)))))) (by first | rfl | assumption)) ?_
          refine L_call (.plain rfl) rfl rfl (r_call Tryd.func10 rfl rfl rfl (by rfl)) (mput_all m _ hm) ?_
          rintro v34 w7 ⟨va, rfl, hA, c7⟩
          have hz7 := c7.size
          refine L_run (.plain rfl) rfl rfl (r_move (by conv => lhs; whnf)) ?_
          refine L_run (.plain rfl) rfl rfl (r_ext2_0 rfl) ?_
          refine L_run (.plain rfl) rfl rfl (r_ext2_1 rfl) ?_
          refine L_run (.plain rfl) rfl rfl (r_assign (by conv => lhs; whnf)) ?_
          refine L_run (.plain rfl) rfl rfl (r_assign (v := .int _ _) rfl) ?_
          refine L_nil ?_
          refine W_seq ?_
          refine W_region ?_
          refine L_run (.plain rfl) rfl rfl (r_loadrow Tryd.underlying24 rfl rfl (by (exact Bk.to (by assumption) (by (repeat (first | exact Sm.refl _ _ | (refine Sm.stepT (by assumption) (by intro hlt hsm; exact not_no) ?_)))))) (by first | rfl | assumption)) ?_
          refine L_call (.plain rfl) rfl rfl (r_call Tryd.func10 rfl rfl rfl (by rfl)) (mput_all n _ hn) ?_
          rintro v39 w8 ⟨vb, rfl, hB, c8⟩
          have hz8 := c8.size
          refine L_run (.plain rfl) rfl rfl (r_move (by conv => lhs; whnf)) ?_
          refine L_run (.plain rfl) rfl rfl (r_ext2_0 rfl) ?_
          refine L_run (.plain rfl) rfl rfl (r_ext2_1 rfl) ?_
          refine L_run (.plain rfl) rfl rfl (r_assign (by conv => lhs; whnf)) ?_
          refine L_run (.plain rfl) rfl rfl (r_assign (v := .int _ _) rfl) ?_
          refine L_nil ?_
          refine W_seq ?_
          refine W_seq ?_
          refine W_region ?_
          refine L_run (.plain rfl) rfl rfl (r_move (v := .int _ _) rfl) ?_
          refine L_run (.plain rfl) rfl rfl (r_neq rfl rfl) ?_
          refine L_run (.plain rfl) rfl rfl (r_move (v := .bool _) rfl) ?_
          refine L_case (d := 44) rfl (fun h44 => ?_) (fun h44 => ?_)
          · refine L_pass rfl rfl rfl rfl rfl ?_
            refine L_pass rfl rfl rfl rfl rfl ?_
            refine L_run (.plain rfl) rfl rfl (r_pick_t (v := .bool _) rfl rfl) ?_
            refine L_nil ?_
            refine W_true rfl ?_
            refine W_seq ?_
            refine W_region ?_
            refine L_call (.plain rfl) rfl rfl (r_call Tryd.func9 rfl rfl rfl (by rfl)) (awake_walk _ ((hT.nw (by (repeat (first | exact Ch.refl _ | assumption | (refine Ch.fresh ?_ (by assumption) (by intro i hi he; exact he))))) (by omega)).mono (by omega))) ?_
            rintro v48 w9 ⟨rfl, c9⟩
            have hz9 := c9.size
            refine L_run (.plain rfl) rfl rfl (r_move (v := .bool _) rfl) ?_
            refine L_caseb (d := 49) rfl (fun h49 => ?_) (fun h49 => ?_)
            · refine L_run (.yes 1 true rfl rfl) rfl rfl (r_move (v := .int _ _) rfl) ?_
              refine L_run (.yes 1 true rfl rfl) rfl rfl (r_loadrow Tryd.underlying24 rfl rfl (by (exact Bk.to (by assumption) (by (repeat (first | exact Sm.refl _ _ | (refine Sm.stepT (by assumption) (by intro hlt hsm; exact not_no) ?_)))))) (by first | rfl | assumption)) ?_
              refine L_call (.yes 1 true rfl rfl) rfl rfl (r_call Tryd.func12 rfl rfl rfl (by rfl)) (check_walk m _) ?_
              rintro v52 w10 ⟨rfl, c10⟩
              have hz10 := c10.size
              refine L_run (.yes 1 true rfl rfl) rfl rfl (r_eql rfl rfl) ?_
              refine L_as (v := .bool _) (v' := .bool true) 53 rfl (dec_t (by rfl)).symm ?_
              refine L_run (.plain rfl) rfl rfl (r_pick_t (v := .bool _) rfl rfl) ?_
              refine L_run (.plain rfl) rfl rfl (r_move (v := .bool _) rfl) ?_
              refine L_run (.yes 7 true rfl rfl) rfl rfl (r_move (v := .int _ _) rfl) ?_
              refine L_run (.yes 7 true rfl rfl) rfl rfl (r_loadrow Tryd.underlying24 rfl rfl (by (exact Bk.to (by assumption) (by (repeat (first | exact Sm.refl _ _ | (refine Sm.stepT (by assumption) (by intro hlt hsm; exact not_no) ?_)))))) (by first | rfl | assumption)) ?_
              refine L_call (.yes 7 true rfl rfl) rfl rfl (r_call Tryd.func12 rfl rfl rfl (by rfl)) (check_walk n _) ?_
              rintro v58 w11 ⟨rfl, c11⟩
              have hz11 := c11.size
              refine L_run (.yes 7 true rfl rfl) rfl rfl (r_eql rfl rfl) ?_
              refine L_as (v := .bool _) (v' := .bool true) 59 rfl (dec_t (by rfl)).symm ?_
              refine L_run (.plain rfl) rfl rfl (r_pick_t (v := .bool _) rfl rfl) ?_
              refine L_run (.plain rfl) rfl rfl (r_assign (v := .bool _) rfl) ?_
              refine L_nil ?_
              refine W_ret ?_
              refine ret1 (v := .bool _) rfl rfl ?_
              refine ⟨?_, by (repeat (first | exact Ch.refl _ | assumption | (refine Ch.fresh ?_ (by assumption) (by intro i hi he; exact he))))⟩
              first
              | exact congrArg Value.bool (decide_eq_true (decide_eq_decide.2 (apart hm hn h44 h47)))
              | exact absurd h49 (by decide)
              | exact absurd h62 (by decide)
              | exact congrArg Value.bool (decide_eq_true rfl)
              | exact rfl
            · refine L_pass rfl rfl rfl rfl rfl ?_
              refine L_pass rfl rfl rfl rfl rfl ?_
              refine L_pass rfl rfl rfl rfl rfl ?_
              refine L_pass rfl rfl rfl rfl rfl ?_
              refine L_run (.plain rfl) rfl rfl (r_pick_f (v := .bool _) rfl rfl) ?_
              refine L_run (.plain rfl) rfl rfl (r_move (v := .bool _) rfl) ?_
              refine L_pass rfl rfl rfl rfl rfl ?_
              refine L_pass rfl rfl rfl rfl rfl ?_
              refine L_pass rfl rfl rfl rfl rfl ?_
              refine L_pass rfl rfl rfl rfl rfl ?_
              refine L_run (.plain rfl) rfl rfl (r_pick_f (v := .bool _) rfl rfl) ?_
              refine L_run (.plain rfl) rfl rfl (r_assign (v := .bool _) rfl) ?_
              refine L_nil ?_
              refine W_ret ?_
              refine ret1 (v := .bool _) rfl rfl ?_
              refine ⟨?_, by (repeat (first | exact Ch.refl _ | assumption | (refine Ch.fresh ?_ (by assumption) (by intro i hi he; exact he))))⟩
              first
              | exact congrArg Value.bool (decide_eq_true (decide_eq_decide.2 (apart hm hn h44 h47)))
              | exact absurd h49 (by decide)
              | exact absurd h62 (by decide)
              | exact congrArg Value.bool (decide_eq_true rfl)
              | exact rfl
          · refine L_run (.yes 2 false rfl rfl) rfl rfl (r_move (v := .int _ _) rfl) ?_
            refine L_run (.yes 2 false rfl rfl) rfl rfl (r_neq rfl rfl) ?_
            refine L_run (.plain rfl) rfl rfl (r_pick_f (v := .bool _) rfl rfl) ?_
            refine L_nil ?_
            refine W_if rfl (fun h47 => ?_) (fun h47 => ?_)
            · refine W_seq ?_
              refine W_region ?_
              refine L_call (.plain rfl) rfl rfl (r_call Tryd.func9 rfl rfl rfl (by rfl)) (awake_walk _ ((hT.nw (by (repeat (first | exact Ch.refl _ | assumption | (refine Ch.fresh ?_ (by assumption) (by intro i hi he; exact he))))) (by omega)).mono (by omega))) ?_
              rintro v48 w12 ⟨rfl, c12⟩
              have hz12 := c12.size
              refine L_run (.plain rfl) rfl rfl (r_move (v := .bool _) rfl) ?_
              refine L_caseb (d := 49) rfl (fun h49 => ?_) (fun h49 => ?_)
              · refine L_run (.yes 1 true rfl rfl) rfl rfl (r_move (v := .int _ _) rfl) ?_
                refine L_run (.yes 1 true rfl rfl) rfl rfl (r_loadrow Tryd.underlying24 rfl rfl (by (exact Bk.to (by assumption) (by (repeat (first | exact Sm.refl _ _ | (refine Sm.stepT (by assumption) (by intro hlt hsm; exact not_no) ?_)))))) (by first | rfl | assumption)) ?_
                refine L_call (.yes 1 true rfl rfl) rfl rfl (r_call Tryd.func12 rfl rfl rfl (by rfl)) (check_walk m _) ?_
                rintro v52 w13 ⟨rfl, c13⟩
                have hz13 := c13.size
                refine L_run (.yes 1 true rfl rfl) rfl rfl (r_eql rfl rfl) ?_
                refine L_as (v := .bool _) (v' := .bool true) 53 rfl (dec_t (by rfl)).symm ?_
                refine L_run (.plain rfl) rfl rfl (r_pick_t (v := .bool _) rfl rfl) ?_
                refine L_run (.plain rfl) rfl rfl (r_move (v := .bool _) rfl) ?_
                refine L_run (.yes 7 true rfl rfl) rfl rfl (r_move (v := .int _ _) rfl) ?_
                refine L_run (.yes 7 true rfl rfl) rfl rfl (r_loadrow Tryd.underlying24 rfl rfl (by (exact Bk.to (by assumption) (by (repeat (first | exact Sm.refl _ _ | (refine Sm.stepT (by assumption) (by intro hlt hsm; exact not_no) ?_)))))) (by first | rfl | assumption)) ?_
                refine L_call (.yes 7 true rfl rfl) rfl rfl (r_call Tryd.func12 rfl rfl rfl (by rfl)) (check_walk n _) ?_
                rintro v58 w14 ⟨rfl, c14⟩
                have hz14 := c14.size
                refine L_run (.yes 7 true rfl rfl) rfl rfl (r_eql rfl rfl) ?_
                refine L_as (v := .bool _) (v' := .bool true) 59 rfl (dec_t (by rfl)).symm ?_
                refine L_run (.plain rfl) rfl rfl (r_pick_t (v := .bool _) rfl rfl) ?_
                refine L_run (.plain rfl) rfl rfl (r_assign (v := .bool _) rfl) ?_
                refine L_nil ?_
                refine W_ret ?_
                refine ret1 (v := .bool _) rfl rfl ?_
                refine ⟨?_, by (repeat (first | exact Ch.refl _ | assumption | (refine Ch.fresh ?_ (by assumption) (by intro i hi he; exact he))))⟩
                first
                | exact congrArg Value.bool (decide_eq_true (decide_eq_decide.2 (apart hm hn h44 h47)))
                | exact absurd h49 (by decide)
                | exact absurd h62 (by decide)
                | exact congrArg Value.bool (decide_eq_true rfl)
                | exact rfl
              · refine L_pass rfl rfl rfl rfl rfl ?_
                refine L_pass rfl rfl rfl rfl rfl ?_
                refine L_pass rfl rfl rfl rfl rfl ?_
                refine L_pass rfl rfl rfl rfl rfl ?_
                refine L_run (.plain rfl) rfl rfl (r_pick_f (v := .bool _) rfl rfl) ?_
                refine L_run (.plain rfl) rfl rfl (r_move (v := .bool _) rfl) ?_
                refine L_pass rfl rfl rfl rfl rfl ?_
                refine L_pass rfl rfl rfl rfl rfl ?_
                refine L_pass rfl rfl rfl rfl rfl ?_
                refine L_pass rfl rfl rfl rfl rfl ?_
                refine L_run (.plain rfl) rfl rfl (r_pick_f (v := .bool _) rfl rfl) ?_
                refine L_run (.plain rfl) rfl rfl (r_assign (v := .bool _) rfl) ?_
                refine L_nil ?_
                refine W_ret ?_
                refine ret1 (v := .bool _) rfl rfl ?_
                refine ⟨?_, by (repeat (first | exact Ch.refl _ | assumption | (refine Ch.fresh ?_ (by assumption) (by intro i hi he; exact he))))⟩
                first
                | exact congrArg Value.bool (decide_eq_true (decide_eq_decide.2 (apart hm hn h44 h47)))
                | exact absurd h49 (by decide)
                | exact absurd h62 (by decide)
                | exact congrArg Value.bool (decide_eq_true rfl)
                | exact rfl
            · have hBa := hA (Classical.not_not.1 h44)
              have hBb := hB (Classical.not_not.1 h47)
              refine W_skip ?_
              refine W_seq ?_
              refine W_draw (fun W => By W va (put (putM m)) ∧ By W vb (put (putM n)) ∧ Bk W b2 #[.int .i64 m.kind, .int .u64 m.life, .int .u64 m.seq, .int .u64 m.below, .int .u64 m.object, .string m.method, .int .i64 m.way, .string m.body] 24 ∧ Bk W b3 #[.int .i64 n.kind, .int .u64 n.life, .int .u64 n.seq, .int .u64 n.below, .int .u64 n.object, .string n.method, .int .i64 n.way, .string n.body] 24) 13 (m := 13) (by kernel_rfl) rfl (fun w15 c15 hs15 => ?_)
              refine held (by exact ⟨by (exact Sl.to (by first | assumption | exact Sl.own (by assumption) | exact Mu.sl (by assumption) | exact Ow.sl (by assumption)) (fun i hi => by (repeat (first | exact Sm.refl _ _ | (refine Sm.stepT (by assumption) (by intro hlt hsm; exact not_no) ?_))))), by (exact Sl.to (by first | assumption | exact Sl.own (by assumption) | exact Mu.sl (by assumption) | exact Ow.sl (by assumption)) (fun i hi => by (repeat (first | exact Sm.refl _ _ | (refine Sm.stepT (by assumption) (by intro hlt hsm; exact not_no) ?_))))), by (exact Bk.to (by assumption) (by (repeat (first | exact Sm.refl _ _ | (refine Sm.stepT (by assumption) (by intro hlt hsm; exact not_no) ?_))))), by (exact Bk.to (by assumption) (by (repeat (first | exact Sm.refl _ _ | (refine Sm.stepT (by assumption) (by intro hlt hsm; exact not_no) ?_)))))⟩) (fun hS => ?_)
              refine D_ev 0 (by kernel_rfl) rfl ?_
              refine L_call (.plain rfl) rfl rfl (r_call Tryd.func9 rfl rfl rfl (by rfl)) (awake_walk _ ((hT.nw (by (repeat (first | exact Ch.refl _ | assumption | (refine Ch.fresh ?_ (by assumption) (by intro i hi he; exact he))))) (by omega)).mono (by omega))) ?_
              rintro v61 w16 ⟨rfl, c16⟩
              have hz16 := c16.size
              refine L_nil ?_
              refine heldK (by exact ⟨by (exact Sl.to (by first | assumption | exact Sl.own (by assumption) | exact Mu.sl (by assumption) | exact Ow.sl (by assumption)) (fun i hi => by (repeat (first | exact Sm.refl _ _ | (refine Sm.stepT (by assumption) (by intro hlt hsm; exact not_no) ?_))))), by (exact Sl.to (by first | assumption | exact Sl.own (by assumption) | exact Mu.sl (by assumption) | exact Ow.sl (by assumption)) (fun i hi => by (repeat (first | exact Sm.refl _ _ | (refine Sm.stepT (by assumption) (by intro hlt hsm; exact not_no) ?_))))), by (exact Bk.to (by assumption) (by (repeat (first | exact Sm.refl _ _ | (refine Sm.stepT (by assumption) (by intro hlt hsm; exact not_no) ?_))))), by (exact Bk.to (by assumption) (by (repeat (first | exact Sm.refl _ _ | (refine Sm.stepT (by assumption) (by intro hlt hsm; exact not_no) ?_)))))⟩) (fun hS => ?_)
              refine D_take 1 rfl (by kernel_rfl) (by kernel_rfl) (by kernel_rfl) (by kernel_rfl) (.plain rfl) rfl rfl (by assumption) (fun W hW => r_move (v := .bool _) rfl) ?_
              refine D_caseb (d := 62) rfl (fun h62 => ?_) (fun h62 => ?_)
              · refine D_take 2 rfl (by kernel_rfl) (by kernel_rfl) (by kernel_rfl) (by kernel_rfl) (.yes 1 true rfl rfl) rfl rfl (by assumption) (fun W hW => r_move (by conv => lhs; whnf)) ?_
                refine D_take 3 rfl (by kernel_rfl) (by kernel_rfl) (by kernel_rfl) (by kernel_rfl) (.yes 1 true rfl rfl) rfl rfl (by assumption) (fun W hW => r_bstr Tryd.underlying26 Tryd.underlying5 Tryd.underlying9 (by conv => lhs; whnf) (by first | exact hW | exact hW.1 | exact hW.2 | exact hW.2.1 | exact hW.2.2 | exact hW.2.2.1 | exact hW.2.2.2)) ?_
                refine D_take 4 rfl (by kernel_rfl) (by kernel_rfl) (by kernel_rfl) (by kernel_rfl) (.yes 1 true rfl rfl) rfl rfl (by assumption) (fun W hW => r_move (by conv => lhs; whnf)) ?_
                refine D_take 5 rfl (by kernel_rfl) (by kernel_rfl) (by kernel_rfl) (by kernel_rfl) (.yes 1 true rfl rfl) rfl rfl (by assumption) (fun W hW => r_bstr Tryd.underlying26 Tryd.underlying5 Tryd.underlying9 (by conv => lhs; whnf) (by first | exact hW | exact hW.1 | exact hW.2 | exact hW.2.1 | exact hW.2.2 | exact hW.2.2.1 | exact hW.2.2.2)) ?_
                refine D_take 6 rfl (by kernel_rfl) (by kernel_rfl) (by kernel_rfl) (by kernel_rfl) (.yes 1 true rfl rfl) rfl rfl (by assumption) (fun W hW => r_eqls rfl rfl) ?_
                refine D_take 7 rfl (by kernel_rfl) (by kernel_rfl) (by kernel_rfl) (by kernel_rfl) (.yes 1 true rfl rfl) rfl rfl (by assumption) (fun W hW => r_loadrow Tryd.underlying24 rfl rfl (by first | exact hW | exact hW.1 | exact hW.2 | exact hW.2.1 | exact hW.2.2 | exact hW.2.2.1 | exact hW.2.2.2) (by first | rfl | assumption)) ?_
                refine D_take 8 rfl (by kernel_rfl) (by kernel_rfl) (by kernel_rfl) (by kernel_rfl) (.yes 1 true rfl rfl) rfl rfl (by assumption) (fun W hW => r_loadrow Tryd.underlying24 rfl rfl (by first | exact hW | exact hW.1 | exact hW.2 | exact hW.2.1 | exact hW.2.2 | exact hW.2.2.1 | exact hW.2.2.2) (by first | rfl | assumption)) ?_
                refine D_take 9 rfl (by kernel_rfl) (by kernel_rfl) (by kernel_rfl) (by kernel_rfl) (.yes 1 true rfl rfl) rfl rfl (by assumption) (fun W hW => r_eqlR (xs := #[.int _ _, .int _ _, .int _ _, .int _ _, .int _ _, .string _, .int _ _, .string _]) (ys := #[.int _ _, .int _ _, .int _ _, .int _ _, .int _ _, .string _, .int _ _, .string _]) rfl rfl (by kernel_rfl) (eqMsg _ _ _ _ _ _ _ _ _ _ _ _ _ _ _ _ _)) ?_
                refine D_take 10 rfl (by kernel_rfl) (by kernel_rfl) (by kernel_rfl) (by kernel_rfl) (.yes 1 true rfl rfl) rfl rfl (by assumption) (fun W hW => r_eqlb Tryd.underlying4 rfl rfl) ?_
                refine D_take 11 rfl (by kernel_rfl) (by kernel_rfl) (by kernel_rfl) (by kernel_rfl) (.plain rfl) rfl rfl (by assumption) (fun W hW => r_pick_t (v := .bool _) rfl rfl) ?_
                refine D_take 12 rfl (by kernel_rfl) (by kernel_rfl) (by kernel_rfl) (by kernel_rfl) (.plain rfl) rfl rfl (by assumption) (fun W hW => r_assign (v := .bool _) rfl) ?_
                refine D_done (by kernel_rfl) ?_
                refine W_ret ?_
                refine ret1 (v := .bool _) rfl rfl ?_
                refine ⟨?_, by (repeat (first | exact Ch.refl _ | assumption | (refine Ch.fresh ?_ (by assumption) (by intro i hi he; exact he))))⟩
                first
                | exact congrArg Value.bool (decide_eq_true (decide_eq_decide.2 (apart hm hn h44 h47)))
                | exact absurd h49 (by decide)
                | exact absurd h62 (by decide)
                | exact congrArg Value.bool (decide_eq_true rfl)
                | exact rfl
              · refine D_pass 2 rfl (by kernel_rfl) (by kernel_rfl) (by kernel_rfl) (by kernel_rfl) rfl rfl rfl rfl rfl (by assumption) ?_
                refine D_pass 3 rfl (by kernel_rfl) (by kernel_rfl) (by kernel_rfl) (by kernel_rfl) rfl rfl rfl rfl rfl (by assumption) ?_
                refine D_pass 4 rfl (by kernel_rfl) (by kernel_rfl) (by kernel_rfl) (by kernel_rfl) rfl rfl rfl rfl rfl (by assumption) ?_
                refine D_pass 5 rfl (by kernel_rfl) (by kernel_rfl) (by kernel_rfl) (by kernel_rfl) rfl rfl rfl rfl rfl (by assumption) ?_
                refine D_pass 6 rfl (by kernel_rfl) (by kernel_rfl) (by kernel_rfl) (by kernel_rfl) rfl rfl rfl rfl rfl (by assumption) ?_
                refine D_pass 7 rfl (by kernel_rfl) (by kernel_rfl) (by kernel_rfl) (by kernel_rfl) rfl rfl rfl rfl rfl (by assumption) ?_
                refine D_pass 8 rfl (by kernel_rfl) (by kernel_rfl) (by kernel_rfl) (by kernel_rfl) rfl rfl rfl rfl rfl (by assumption) ?_
                refine D_pass 9 rfl (by kernel_rfl) (by kernel_rfl) (by kernel_rfl) (by kernel_rfl) rfl rfl rfl rfl rfl (by assumption) ?_
                refine D_pass 10 rfl (by kernel_rfl) (by kernel_rfl) (by kernel_rfl) (by kernel_rfl) rfl rfl rfl rfl rfl (by assumption) ?_
                refine D_take 11 rfl (by kernel_rfl) (by kernel_rfl) (by kernel_rfl) (by kernel_rfl) (.plain rfl) rfl rfl (by assumption) (fun W hW => r_pick_f (v := .bool _) rfl rfl) ?_
                refine D_take 12 rfl (by kernel_rfl) (by kernel_rfl) (by kernel_rfl) (by kernel_rfl) (.plain rfl) rfl rfl (by assumption) (fun W hW => r_assign (v := .bool _) rfl) ?_
                refine D_done (by kernel_rfl) ?_
                refine W_ret ?_
                refine ret1 (v := .bool _) rfl rfl ?_
                refine ⟨?_, by (repeat (first | exact Ch.refl _ | assumption | (refine Ch.fresh ?_ (by assumption) (by intro i hi he; exact he))))⟩
                first
                | exact congrArg Value.bool (decide_eq_true (decide_eq_decide.2 (apart hm hn h44 h47)))
                | exact absurd h49 (by decide)
                | exact absurd h62 (by decide)
                | exact congrArg Value.bool (decide_eq_true rfl)
                | exact rfl
end Go.Proofs.YtcbcelfgbelaoaaDoor

