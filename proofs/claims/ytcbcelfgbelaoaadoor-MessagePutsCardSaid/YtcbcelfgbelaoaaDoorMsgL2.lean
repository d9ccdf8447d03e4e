/- The statements MessageReplies, MessagePuts, MessageGets, walked. -/
import Derived.Test.YtcbcelfgbelaoaaDoorMsgL1
namespace Go.Proofs.YtcbcelfgbelaoaaDoor
open Go Go.RowKit
set_option linter.unusedVariables false
set_option linter.unusedSimpArgs false
set_option maxHeartbeats 1000000 in
set_option maxRecDepth 100000 in
theorem MessageReplies_walk (m n : Msg) (way : Int) (body : ByteArray) (w0 : World) (hm : m.ok) (hn : n.ok) (x2 : -9223372036854775808 ≤ way ∧ way ≤ 9223372036854775807) (x3 : body.size ≤ 140737488351232) (hT : Tabs w0.heap.size w0) : Does Tryd.prog 5 #[m.v, n.v, .int .i64 way, .string body] w0 (fun r w' => r = .bool true ∧ Nw w0 w') := by
  refine fn_of (n := 79) (args := [m.v, n.v, .int .i64 way, .string body]) Tryd.func5 rfl rfl rfl ?_
  refine W_seq ?_
  refine W_region ?_
  refine L_new (.plain rfl) rfl rfl (r_boxa rfl) (fun w1 b4 hb4 eb1 hs1 c1 => ?_)
  refine L_new (.plain rfl) rfl rfl (r_boxa rfl) (fun w2 b5 hb5 eb2 hs2 c2 => ?_)
  refine L_run (.plain rfl) rfl rfl (r_assign (v := .bool _) rfl) ?_
  refine L_nil ?_
  refine W_seq ?_
  refine W_seq ?_
  refine W_region ?_
  refine L_run (.plain rfl) rfl rfl (r_move (v := .string _) rfl) ?_
  refine L_run (.plain rfl) rfl rfl (r_lens Tryd.underlying9 rfl) ?_
  refine L_run (.plain rfl) rfl rfl (r_gtr rfl rfl) ?_
  refine L_run (.plain rfl) rfl rfl (r_move (v := .bool _) rfl) ?_
  refine L_case (d := 13) rfl (fun h13 => ?_) (fun h13 => ?_)
  · refine L_pass rfl rfl rfl rfl rfl ?_
    refine L_pass rfl rfl rfl rfl rfl ?_
    refine L_pass rfl rfl rfl rfl rfl ?_
    refine L_pass rfl rfl rfl rfl rfl ?_
    refine L_run (.plain rfl) rfl rfl (r_pick_t (v := .bool _) rfl rfl) ?_
    refine L_run (.plain rfl) rfl rfl (r_move (v := .bool _) rfl) ?_
    refine L_pass rfl rfl rfl rfl rfl ?_
    refine L_pass rfl rfl rfl rfl rfl ?_
    refine L_pass rfl rfl rfl rfl rfl ?_
    refine L_pass rfl rfl rfl rfl rfl ?_
    refine L_run (.plain rfl) rfl rfl (r_pick_t (v := .bool _) rfl rfl) ?_
    refine L_nil ?_
    refine W_true rfl ?_
    refine W_seq ?_
    refine W_region ?_
    refine L_call (.plain rfl) rfl rfl (r_call Tryd.func9 rfl rfl rfl (by rfl)) (awake_walk _ ((hT.nw (by (repeat (first | exact Ch.refl _ | assumption | (refine Ch.fresh ?_ (by assumption) (by intro i hi he; first | exact he | (exfalso; have he2 : i = _ := he; omega)))))) (by omega)).mono (by omega))) ?_
    rintro v25 w3 ⟨rfl, c3⟩
    have hz3 := c3.size
    refine L_run (.plain rfl) rfl rfl (r_assign (v := .bool _) rfl) ?_
    refine L_nil ?_
    refine W_ret ?_
    refine ret1 (v := .bool _) rfl rfl ?_
    refine ⟨?_, by (repeat (first | exact Ch.refl _ | assumption | (refine Ch.fresh ?_ (by assumption) (by intro i hi he; first | exact he | (exfalso; have he2 : i = _ := he; omega)))))⟩
    first
    | exact absurd h31 (by decide)
    | exact congrArg Value.bool (decide_eq_true (decide_eq_decide.2 (by omega)))
    | exact congrArg Value.bool (decide_eq_true (decide_eq_false (by omega)))
    | exact rfl
  · refine L_run (.yes 3 false rfl rfl) rfl rfl (r_fieldb Tryd.underlying24 rfl (show _ = some 1 from rfl) rfl rfl (show _ = 7 from rfl)) ?_
    refine L_run (.yes 3 false rfl rfl) rfl rfl (r_loadb rfl rfl (by (exact Bk.to (by assumption) (by (repeat (first | exact Sm.refl _ _ | (refine Sm.stepT (by assumption) (by intro hlt hsm; first | exact not_no | (intro he; have he2 : _ = _ := he; omega)) ?_)))))) (by first | assumption | (conv => lhs; simp only [List.getElem?_toArray, List.getElem?_cons_succ, List.getElem?_cons_zero]))) ?_
    refine L_run (.yes 3 false rfl rfl) rfl rfl (r_lens Tryd.underlying9 rfl) ?_
    refine L_run (.yes 3 false rfl rfl) rfl rfl (r_gtr rfl rfl) ?_
    refine L_run (.plain rfl) rfl rfl (r_pick_f (v := .bool _) rfl rfl) ?_
    refine L_run (.plain rfl) rfl rfl (r_move (v := .bool _) rfl) ?_
    refine L_case (d := 19) rfl (fun h19 => ?_) (fun h19 => ?_)
    · refine L_pass rfl rfl rfl rfl rfl ?_
      refine L_pass rfl rfl rfl rfl rfl ?_
      refine L_pass rfl rfl rfl rfl rfl ?_
      refine L_pass rfl rfl rfl rfl rfl ?_
      refine L_run (.plain rfl) rfl rfl (r_pick_t (v := .bool _) rfl rfl) ?_
      refine L_nil ?_
      refine W_true rfl ?_
      refine W_seq ?_
      refine W_region ?_
      refine L_call (.plain rfl) rfl rfl (r_call Tryd.func9 rfl rfl rfl (by rfl)) (awake_walk _ ((hT.nw (by (repeat (first | exact Ch.refl _ | assumption | (refine Ch.fresh ?_ (by assumption) (by intro i hi he; first | exact he | (exfalso; have he2 : i = _ := he; omega)))))) (by omega)).mono (by omega))) ?_
      rintro v25 w4 ⟨rfl, c4⟩
      have hz4 := c4.size
      refine L_run (.plain rfl) rfl rfl (r_assign (v := .bool _) rfl) ?_
      refine L_nil ?_
      refine W_ret ?_
      refine ret1 (v := .bool _) rfl rfl ?_
      refine ⟨?_, by (repeat (first | exact Ch.refl _ | assumption | (refine Ch.fresh ?_ (by assumption) (by intro i hi he; first | exact he | (exfalso; have he2 : i = _ := he; omega)))))⟩
      first
      | exact absurd h31 (by decide)
      | exact congrArg Value.bool (decide_eq_true (decide_eq_decide.2 (by omega)))
      | exact congrArg Value.bool (decide_eq_true (decide_eq_false (by omega)))
      | exact rfl
    · refine L_run (.yes 9 false rfl rfl) rfl rfl (r_fieldb Tryd.underlying24 rfl (show _ = some 1 from rfl) rfl rfl (show _ = 7 from rfl)) ?_
      refine L_run (.yes 9 false rfl rfl) rfl rfl (r_loadb rfl rfl (by (exact Bk.to (by assumption) (by (repeat (first | exact Sm.refl _ _ | (refine Sm.stepT (by assumption) (by intro hlt hsm; first | exact not_no | (intro he; have he2 : _ = _ := he; omega)) ?_)))))) (by first | assumption | (conv => lhs; simp only [List.getElem?_toArray, List.getElem?_cons_succ, List.getElem?_cons_zero]))) ?_
      refine L_run (.yes 9 false rfl rfl) rfl rfl (r_lens Tryd.underlying9 rfl) ?_
      refine L_run (.yes 9 false rfl rfl) rfl rfl (r_gtr rfl rfl) ?_
      refine L_run (.plain rfl) rfl rfl (r_pick_f (v := .bool _) rfl rfl) ?_
      refine L_nil ?_
      refine W_if rfl (fun h24 => ?_) (fun h24 => ?_)
      · refine W_seq ?_
        refine W_region ?_
        refine L_call (.plain rfl) rfl rfl (r_call Tryd.func9 rfl rfl rfl (by rfl)) (awake_walk _ ((hT.nw (by (repeat (first | exact Ch.refl _ | assumption | (refine Ch.fresh ?_ (by assumption) (by intro i hi he; first | exact he | (exfalso; have he2 : i = _ := he; omega)))))) (by omega)).mono (by omega))) ?_
        rintro v25 w5 ⟨rfl, c5⟩
        have hz5 := c5.size
        refine L_run (.plain rfl) rfl rfl (r_assign (v := .bool _) rfl) ?_
        refine L_nil ?_
        refine W_ret ?_
        refine ret1 (v := .bool _) rfl rfl ?_
        refine ⟨?_, by (repeat (first | exact Ch.refl _ | assumption | (refine Ch.fresh ?_ (by assumption) (by intro i hi he; first | exact he | (exfalso; have he2 : i = _ := he; omega)))))⟩
        first
        | exact absurd h31 (by decide)
        | exact congrArg Value.bool (decide_eq_true (decide_eq_decide.2 (by omega)))
        | exact congrArg Value.bool (decide_eq_true (decide_eq_false (by omega)))
        | exact rfl
      · refine W_skip ?_
        refine W_seq ?_
        refine W_region ?_
        refine L_run (.plain rfl) rfl rfl (r_loadrow Tryd.underlying24 rfl rfl (by (exact Bk.to (by assumption) (by (repeat (first | exact Sm.refl _ _ | (refine Sm.stepT (by assumption) (by intro hlt hsm; first | exact not_no | (intro he; have he2 : _ = _ := he; omega)) ?_)))))) (by first | rfl | assumption)) ?_
        refine L_run (.plain rfl) rfl rfl (r_move (v := .int _ _) rfl) ?_
        refine L_run (.plain rfl) rfl rfl (r_move (v := .string _) rfl) ?_
        refine L_call (.plain rfl) rfl rfl (r_call Tryd.func16 rfl rfl rfl (by rfl)) (reply_walk m way body _) ?_
        rintro v29 w6 ⟨rfl, c6⟩
        have hz6 := c6.size
        refine L_new (.plain rfl) rfl rfl (r_alloca rfl) (fun w7 b9 hb9 eb7 hs7 c7 => ?_)
        refine L_storerow (.plain rfl) rfl rfl (by (exact Bk.to (by assumption) (by (repeat (first | exact Sm.refl _ _ | (refine Sm.stepT (by assumption) (by intro hlt hsm; first | exact not_no | (intro he; have he2 : _ = _ := he; omega)) ?_)))))) (by first | rfl | (simp; done) | assumption) (by first | rfl | assumption) (by first | rfl | (simp [Value.oneCell']; done) | assumption) (fun w8 hb8 hs8 c8 => ?_)
        refine L_nil ?_
        refine W_seq ?_
        refine W_draw (fun W => Bk W b4 #[.int .i64 m.kind, .int .u64 m.life, .int .u64 m.seq, .int .u64 m.below, .int .u64 m.object, .string m.method, .int .i64 m.way, .string m.body] 24 ∧ Bk W b5 #[.int .i64 n.kind, .int .u64 n.life, .int .u64 n.seq, .int .u64 n.below, .int .u64 n.object, .string n.method, .int .i64 n.way, .string n.body] 24 ∧ Bk W b9 #[.int .i64 1, .int .u64 m.life, .int .u64 m.seq, .int .u64 0, .int .u64 0, .string { data := #[] }, .int .i64 way, .string body] 24) 50 (m := 50) (by kernel_rfl) rfl (fun w9 c9 hs9 => ?_)
        refine held (by exact ⟨by (exact Bk.to (by assumption) (by (repeat (first | exact Sm.refl _ _ | (refine Sm.stepT (by assumption) (by intro hlt hsm; first | exact not_no | (intro he; have he2 : _ = _ := he; omega)) ?_))))), by (exact Bk.to (by assumption) (by (repeat (first | exact Sm.refl _ _ | (refine Sm.stepT (by assumption) (by intro hlt hsm; first | exact not_no | (intro he; have he2 : _ = _ := he; omega)) ?_))))), by (exact Bk.to (by assumption) (by (repeat (first | exact Sm.refl _ _ | (refine Sm.stepT (by assumption) (by intro hlt hsm; first | exact not_no | (intro he; have he2 : _ = _ := he; omega)) ?_)))))⟩) (fun hS => ?_)
        refine D_ev 0 (by kernel_rfl) rfl ?_
        refine L_call (.plain rfl) rfl rfl (r_call Tryd.func9 rfl rfl rfl (by rfl)) (awake_walk _ ((hT.nw (by (repeat (first | exact Ch.refl _ | assumption | (refine Ch.fresh ?_ (by assumption) (by intro i hi he; first | exact he | (exfalso; have he2 : i = _ := he; omega)))))) (by omega)).mono (by omega))) ?_
        rintro v30 w10 ⟨rfl, c10⟩
        have hz10 := c10.size
        refine L_nil ?_
        refine heldK (by exact ⟨by (exact Bk.to (by assumption) (by (repeat (first | exact Sm.refl _ _ | (refine Sm.stepT (by assumption) (by intro hlt hsm; first | exact not_no | (intro he; have he2 : _ = _ := he; omega)) ?_))))), by (exact Bk.to (by assumption) (by (repeat (first | exact Sm.refl _ _ | (refine Sm.stepT (by assumption) (by intro hlt hsm; first | exact not_no | (intro he; have he2 : _ = _ := he; omega)) ?_))))), by (exact Bk.to (by assumption) (by (repeat (first | exact Sm.refl _ _ | (refine Sm.stepT (by assumption) (by intro hlt hsm; first | exact not_no | (intro he; have he2 : _ = _ := he; omega)) ?_)))))⟩) (fun hS => ?_)
        refine D_take 1 rfl (by kernel_rfl) (by kernel_rfl) (by kernel_rfl) (by kernel_rfl) (.plain rfl) rfl rfl (by assumption) (fun W hW => r_move (v := .bool _) rfl) ?_
        refine D_caseb (d := 31) rfl (fun h31 => ?_) (fun h31 => ?_)
        · refine D_take 2 rfl (by kernel_rfl) (by kernel_rfl) (by kernel_rfl) (by kernel_rfl) (.yes 1 true rfl rfl) rfl rfl (by assumption) (fun W hW => r_loadrow Tryd.underlying24 rfl rfl (by first | exact hW | exact hW.1 | exact hW.2 | exact hW.2.1 | exact hW.2.2 | exact hW.2.2.1 | exact hW.2.2.2) (by first | rfl | assumption)) ?_
          refine D_take 3 rfl (by kernel_rfl) (by kernel_rfl) (by kernel_rfl) (by kernel_rfl) (.yes 1 true rfl rfl) rfl rfl (by assumption) (fun W hW => r_fieldb Tryd.underlying24 rfl (show _ = some 1 from rfl) rfl rfl (show _ = 1 from rfl)) ?_
          refine D_take 4 rfl (by kernel_rfl) (by kernel_rfl) (by kernel_rfl) (by kernel_rfl) (.yes 1 true rfl rfl) rfl rfl (by assumption) (fun W hW => r_loadb rfl rfl (by first | exact hW | exact hW.1 | exact hW.2 | exact hW.2.1 | exact hW.2.2 | exact hW.2.2.1 | exact hW.2.2.2) (by first | assumption | (conv => lhs; simp only [List.getElem?_toArray, List.getElem?_cons_succ, List.getElem?_cons_zero]))) ?_
          refine D_take 5 rfl (by kernel_rfl) (by kernel_rfl) (by kernel_rfl) (by kernel_rfl) (.yes 1 true rfl rfl) rfl rfl (by assumption) (fun W hW => r_fieldb Tryd.underlying24 rfl (show _ = some 1 from rfl) rfl rfl (show _ = 2 from rfl)) ?_
          refine D_take 6 rfl (by kernel_rfl) (by kernel_rfl) (by kernel_rfl) (by kernel_rfl) (.yes 1 true rfl rfl) rfl rfl (by assumption) (fun W hW => r_loadb rfl rfl (by first | exact hW | exact hW.1 | exact hW.2 | exact hW.2.1 | exact hW.2.2 | exact hW.2.2.1 | exact hW.2.2.2) (by first | assumption | (conv => lhs; simp only [List.getElem?_toArray, List.getElem?_cons_succ, List.getElem?_cons_zero]))) ?_
          refine D_take 7 rfl (by kernel_rfl) (by kernel_rfl) (by kernel_rfl) (by kernel_rfl) (.yes 1 true rfl rfl) rfl rfl (by assumption) (fun W hW => r_move (v := .int _ _) rfl) ?_
          refine D_take 8 rfl (by kernel_rfl) (by kernel_rfl) (by kernel_rfl) (by kernel_rfl) (.yes 1 true rfl rfl) rfl rfl (by assumption) (fun W hW => r_move (v := .string _) rfl) ?_
          refine D_take 9 rfl (by kernel_rfl) (by kernel_rfl) (by kernel_rfl) (by kernel_rfl) (.yes 1 true rfl rfl) rfl rfl (by assumption) (fun W hW => r_build1 (pl := [(0, 1), (1, 1), (2, 1), (3, 1), (4, 1), (5, 1), (6, 1), (7, 1)]) (vs := [(0, .int _ _), (1, .int _ _), (2, .int _ _), (6, .int _ _), (7, .string _)]) (cells := [_, _, _, _, _, _, _, _]) Tryd.underlying24 rfl rfl (by rfl) rfl (by rfl)) ?_
          refine D_take 10 rfl (by kernel_rfl) (by kernel_rfl) (by kernel_rfl) (by kernel_rfl) (.yes 1 true rfl rfl) rfl rfl (by assumption) (fun W hW => r_eqlR (xs := #[.int _ _, .int _ _, .int _ _, .int _ _, .int _ _, .string _, .int _ _, .string _]) (ys := #[.int _ _, .int _ _, .int _ _, .int _ _, .int _ _, .string _, .int _ _, .string _]) rfl rfl (by kernel_rfl) (eqMsg _ _ _ _ _ _ _ _ _ _ _ _ _ _ _ _ _)) ?_
          refine D_as (v := .bool _) (v' := .bool true) 40 rfl (dec_t (by simp)).symm ?_
          refine D_take 11 rfl (by kernel_rfl) (by kernel_rfl) (by kernel_rfl) (by kernel_rfl) (.plain rfl) rfl rfl (by assumption) (fun W hW => r_pick_t (v := .bool _) rfl rfl) ?_
          refine D_take 12 rfl (by kernel_rfl) (by kernel_rfl) (by kernel_rfl) (by kernel_rfl) (.plain rfl) rfl rfl (by assumption) (fun W hW => r_move (v := .bool _) rfl) ?_
          refine D_take 13 rfl (by kernel_rfl) (by kernel_rfl) (by kernel_rfl) (by kernel_rfl) (.yes 12 true rfl rfl) rfl rfl (by assumption) (fun W hW => r_loadrow Tryd.underlying24 rfl rfl (by first | exact hW | exact hW.1 | exact hW.2 | exact hW.2.1 | exact hW.2.2 | exact hW.2.2.1 | exact hW.2.2.2) (by first | rfl | assumption)) ?_
          refine D_take 14 rfl (by kernel_rfl) (by kernel_rfl) (by kernel_rfl) (by kernel_rfl) (.yes 12 true rfl rfl) rfl rfl (by assumption) (fun W hW => r_loadrow Tryd.underlying24 rfl rfl (by first | exact hW | exact hW.1 | exact hW.2 | exact hW.2.1 | exact hW.2.2 | exact hW.2.2.1 | exact hW.2.2.2) (by first | rfl | assumption)) ?_
          refine D_take 16 rfl (by kernel_rfl) (by kernel_rfl) (by kernel_rfl) (by kernel_rfl) (.yes 12 true rfl rfl) rfl rfl (by assumption) (fun W hW => r_fieldb Tryd.underlying24 rfl (show _ = some 1 from rfl) rfl rfl (show _ = 0 from rfl)) ?_
          refine D_take 17 rfl (by kernel_rfl) (by kernel_rfl) (by kernel_rfl) (by kernel_rfl) (.yes 12 true rfl rfl) rfl rfl (by assumption) (fun W hW => r_loadb rfl rfl (by first | exact hW | exact hW.1 | exact hW.2 | exact hW.2.1 | exact hW.2.2 | exact hW.2.2.1 | exact hW.2.2.2) (by first | assumption | (conv => lhs; simp only [List.getElem?_toArray, List.getElem?_cons_succ, List.getElem?_cons_zero]))) ?_
          refine D_take 18 rfl (by kernel_rfl) (by kernel_rfl) (by kernel_rfl) (by kernel_rfl) (.yes 12 true rfl rfl) rfl rfl (by assumption) (fun W hW => r_eql rfl rfl) ?_
          refine D_ev 15 (by kernel_rfl) rfl ?_
          refine L_call (.yes 12 true rfl rfl) rfl rfl (r_call Tryd.func17 rfl rfl rfl (by rfl)) (answers_walk ⟨1, m.life, m.seq, 0, 0, { data := #[] }, way, body⟩ m _) ?_
          rintro v45 w11 ⟨rfl, c11⟩
          have hz11 := c11.size
          refine L_nil ?_
          refine heldK (by exact ⟨by (exact Bk.to (by assumption) (by (repeat (first | exact Sm.refl _ _ | (refine Sm.stepT (by assumption) (by intro hlt hsm; first | exact not_no | (intro he; have he2 : _ = _ := he; omega)) ?_))))), by (exact Bk.to (by assumption) (by (repeat (first | exact Sm.refl _ _ | (refine Sm.stepT (by assumption) (by intro hlt hsm; first | exact not_no | (intro he; have he2 : _ = _ := he; omega)) ?_))))), by (exact Bk.to (by assumption) (by (repeat (first | exact Sm.refl _ _ | (refine Sm.stepT (by assumption) (by intro hlt hsm; first | exact not_no | (intro he; have he2 : _ = _ := he; omega)) ?_)))))⟩) (fun hS => ?_)
          refine D_take 19 rfl (by kernel_rfl) (by kernel_rfl) (by kernel_rfl) (by kernel_rfl) (.yes 12 true rfl rfl) rfl rfl (by assumption) (fun W hW => r_eqlb Tryd.underlying4 rfl rfl) ?_
          refine D_as (v := .bool _) (v' := .bool true) 49 rfl (dec_t (by exact decide_eq_decide.2 ⟨fun h => h.2.1, fun h => ⟨rfl, h, rfl, rfl⟩⟩)).symm ?_
          refine D_take 20 rfl (by kernel_rfl) (by kernel_rfl) (by kernel_rfl) (by kernel_rfl) (.plain rfl) rfl rfl (by assumption) (fun W hW => r_pick_t (v := .bool _) rfl rfl) ?_
          refine D_take 21 rfl (by kernel_rfl) (by kernel_rfl) (by kernel_rfl) (by kernel_rfl) (.plain rfl) rfl rfl (by assumption) (fun W hW => r_move (v := .bool _) rfl) ?_
          refine D_take 22 rfl (by kernel_rfl) (by kernel_rfl) (by kernel_rfl) (by kernel_rfl) (.yes 21 true rfl rfl) rfl rfl (by assumption) (fun W hW => r_loadrow Tryd.underlying24 rfl rfl (by first | exact hW | exact hW.1 | exact hW.2 | exact hW.2.1 | exact hW.2.2 | exact hW.2.2.1 | exact hW.2.2.2) (by first | rfl | assumption)) ?_
          refine D_take 23 rfl (by kernel_rfl) (by kernel_rfl) (by kernel_rfl) (by kernel_rfl) (.yes 21 true rfl rfl) rfl rfl (by assumption) (fun W hW => r_loadrow Tryd.underlying24 rfl rfl (by first | exact hW | exact hW.1 | exact hW.2 | exact hW.2.1 | exact hW.2.2 | exact hW.2.2.1 | exact hW.2.2.2) (by first | rfl | assumption)) ?_
          refine D_take 25 rfl (by kernel_rfl) (by kernel_rfl) (by kernel_rfl) (by kernel_rfl) (.yes 21 true rfl rfl) rfl rfl (by assumption) (fun W hW => r_fieldb Tryd.underlying24 rfl (show _ = some 1 from rfl) rfl rfl (show _ = 0 from rfl)) ?_
          refine D_take 26 rfl (by kernel_rfl) (by kernel_rfl) (by kernel_rfl) (by kernel_rfl) (.yes 21 true rfl rfl) rfl rfl (by assumption) (fun W hW => r_loadb rfl rfl (by first | exact hW | exact hW.1 | exact hW.2 | exact hW.2.1 | exact hW.2.2 | exact hW.2.2.1 | exact hW.2.2.2) (by first | assumption | (conv => lhs; simp only [List.getElem?_toArray, List.getElem?_cons_succ, List.getElem?_cons_zero]))) ?_
          refine D_take 27 rfl (by kernel_rfl) (by kernel_rfl) (by kernel_rfl) (by kernel_rfl) (.yes 21 true rfl rfl) rfl rfl (by assumption) (fun W hW => r_eql rfl rfl) ?_
          refine D_ev 24 (by kernel_rfl) rfl ?_
          refine L_call (.yes 21 true rfl rfl) rfl rfl (r_call Tryd.func17 rfl rfl rfl (by rfl)) (answers_walk n m _) ?_
          rintro v54 w12 ⟨rfl, c12⟩
          have hz12 := c12.size
          refine L_nil ?_
          refine heldK (by exact ⟨by (exact Bk.to (by assumption) (by (repeat (first | exact Sm.refl _ _ | (refine Sm.stepT (by assumption) (by intro hlt hsm; first | exact not_no | (intro he; have he2 : _ = _ := he; omega)) ?_))))), by (exact Bk.to (by assumption) (by (repeat (first | exact Sm.refl _ _ | (refine Sm.stepT (by assumption) (by intro hlt hsm; first | exact not_no | (intro he; have he2 : _ = _ := he; omega)) ?_))))), by (exact Bk.to (by assumption) (by (repeat (first | exact Sm.refl _ _ | (refine Sm.stepT (by assumption) (by intro hlt hsm; first | exact not_no | (intro he; have he2 : _ = _ := he; omega)) ?_)))))⟩) (fun hS => ?_)
          refine D_take 28 rfl (by kernel_rfl) (by kernel_rfl) (by kernel_rfl) (by kernel_rfl) (.yes 21 true rfl rfl) rfl rfl (by assumption) (fun W hW => r_move (v := .bool _) rfl) ?_
          refine D_case (d := 58) rfl (fun h58 => ?_) (fun h58 => ?_)
          · refine D_take 29 rfl (by kernel_rfl) (by kernel_rfl) (by kernel_rfl) (by kernel_rfl) (.yes 28 true rfl rfl) rfl rfl (by assumption) (fun W hW => r_fieldb Tryd.underlying24 rfl (show _ = some 1 from rfl) rfl rfl (show _ = 0 from rfl)) ?_
            refine D_take 30 rfl (by kernel_rfl) (by kernel_rfl) (by kernel_rfl) (by kernel_rfl) (.yes 28 true rfl rfl) rfl rfl (by assumption) (fun W hW => r_loadb rfl rfl (by first | exact hW | exact hW.1 | exact hW.2 | exact hW.2.1 | exact hW.2.2 | exact hW.2.2.1 | exact hW.2.2.2) (by first | assumption | (conv => lhs; simp only [List.getElem?_toArray, List.getElem?_cons_succ, List.getElem?_cons_zero]))) ?_
            refine D_take 31 rfl (by kernel_rfl) (by kernel_rfl) (by kernel_rfl) (by kernel_rfl) (.yes 28 true rfl rfl) rfl rfl (by assumption) (fun W hW => r_eql rfl rfl) ?_
            refine D_take 32 rfl (by kernel_rfl) (by kernel_rfl) (by kernel_rfl) (by kernel_rfl) (.yes 21 true rfl rfl) rfl rfl (by assumption) (fun W hW => r_pick_t (v := .bool _) rfl rfl) ?_
            refine D_take 33 rfl (by kernel_rfl) (by kernel_rfl) (by kernel_rfl) (by kernel_rfl) (.yes 21 true rfl rfl) rfl rfl (by assumption) (fun W hW => r_move (v := .bool _) rfl) ?_
            refine D_case (d := 63) rfl (fun h63 => ?_) (fun h63 => ?_)
            · refine D_take 34 rfl (by kernel_rfl) (by kernel_rfl) (by kernel_rfl) (by kernel_rfl) (.yes 33 true rfl rfl) rfl rfl (by assumption) (fun W hW => r_fieldb Tryd.underlying24 rfl (show _ = some 1 from rfl) rfl rfl (show _ = 1 from rfl)) ?_
              refine D_take 35 rfl (by kernel_rfl) (by kernel_rfl) (by kernel_rfl) (by kernel_rfl) (.yes 33 true rfl rfl) rfl rfl (by assumption) (fun W hW => r_loadb rfl rfl (by first | exact hW | exact hW.1 | exact hW.2 | exact hW.2.1 | exact hW.2.2 | exact hW.2.2.1 | exact hW.2.2.2) (by first | assumption | (conv => lhs; simp only [List.getElem?_toArray, List.getElem?_cons_succ, List.getElem?_cons_zero]))) ?_
              refine D_take 36 rfl (by kernel_rfl) (by kernel_rfl) (by kernel_rfl) (by kernel_rfl) (.yes 33 true rfl rfl) rfl rfl (by assumption) (fun W hW => r_fieldb Tryd.underlying24 rfl (show _ = some 1 from rfl) rfl rfl (show _ = 1 from rfl)) ?_
              refine D_take 37 rfl (by kernel_rfl) (by kernel_rfl) (by kernel_rfl) (by kernel_rfl) (.yes 33 true rfl rfl) rfl rfl (by assumption) (fun W hW => r_loadb rfl rfl (by first | exact hW | exact hW.1 | exact hW.2 | exact hW.2.1 | exact hW.2.2 | exact hW.2.2.1 | exact hW.2.2.2) (by first | assumption | (conv => lhs; simp only [List.getElem?_toArray, List.getElem?_cons_succ, List.getElem?_cons_zero]))) ?_
              refine D_take 38 rfl (by kernel_rfl) (by kernel_rfl) (by kernel_rfl) (by kernel_rfl) (.yes 33 true rfl rfl) rfl rfl (by assumption) (fun W hW => r_eql rfl rfl) ?_
              refine D_take 39 rfl (by kernel_rfl) (by kernel_rfl) (by kernel_rfl) (by kernel_rfl) (.yes 21 true rfl rfl) rfl rfl (by assumption) (fun W hW => r_pick_t (v := .bool _) rfl rfl) ?_
              refine D_take 40 rfl (by kernel_rfl) (by kernel_rfl) (by kernel_rfl) (by kernel_rfl) (.yes 21 true rfl rfl) rfl rfl (by assumption) (fun W hW => r_move (v := .bool _) rfl) ?_
              refine D_case (d := 70) rfl (fun h70 => ?_) (fun h70 => ?_)
              · refine D_take 41 rfl (by kernel_rfl) (by kernel_rfl) (by kernel_rfl) (by kernel_rfl) (.yes 40 true rfl rfl) rfl rfl (by assumption) (fun W hW => r_fieldb Tryd.underlying24 rfl (show _ = some 1 from rfl) rfl rfl (show _ = 2 from rfl)) ?_
                refine D_take 42 rfl (by kernel_rfl) (by kernel_rfl) (by kernel_rfl) (by kernel_rfl) (.yes 40 true rfl rfl) rfl rfl (by assumption) (fun W hW => r_loadb rfl rfl (by first | exact hW | exact hW.1 | exact hW.2 | exact hW.2.1 | exact hW.2.2 | exact hW.2.2.1 | exact hW.2.2.2) (by first | assumption | (conv => lhs; simp only [List.getElem?_toArray, List.getElem?_cons_succ, List.getElem?_cons_zero]))) ?_
                refine D_take 43 rfl (by kernel_rfl) (by kernel_rfl) (by kernel_rfl) (by kernel_rfl) (.yes 40 true rfl rfl) rfl rfl (by assumption) (fun W hW => r_fieldb Tryd.underlying24 rfl (show _ = some 1 from rfl) rfl rfl (show _ = 2 from rfl)) ?_
                refine D_take 44 rfl (by kernel_rfl) (by kernel_rfl) (by kernel_rfl) (by kernel_rfl) (.yes 40 true rfl rfl) rfl rfl (by assumption) (fun W hW => r_loadb rfl rfl (by first | exact hW | exact hW.1 | exact hW.2 | exact hW.2.1 | exact hW.2.2 | exact hW.2.2.1 | exact hW.2.2.2) (by first | assumption | (conv => lhs; simp only [List.getElem?_toArray, List.getElem?_cons_succ, List.getElem?_cons_zero]))) ?_
                refine D_take 45 rfl (by kernel_rfl) (by kernel_rfl) (by kernel_rfl) (by kernel_rfl) (.yes 40 true rfl rfl) rfl rfl (by assumption) (fun W hW => r_eql rfl rfl) ?_
                refine D_take 46 rfl (by kernel_rfl) (by kernel_rfl) (by kernel_rfl) (by kernel_rfl) (.yes 21 true rfl rfl) rfl rfl (by assumption) (fun W hW => r_pick_t (v := .bool _) rfl rfl) ?_
                refine D_take 47 rfl (by kernel_rfl) (by kernel_rfl) (by kernel_rfl) (by kernel_rfl) (.yes 21 true rfl rfl) rfl rfl (by assumption) (fun W hW => r_eqlb Tryd.underlying4 rfl rfl) ?_
                refine D_take 48 rfl (by kernel_rfl) (by kernel_rfl) (by kernel_rfl) (by kernel_rfl) (.plain rfl) rfl rfl (by assumption) (fun W hW => r_pick_t (v := .bool _) rfl rfl) ?_
                refine D_take 49 rfl (by kernel_rfl) (by kernel_rfl) (by kernel_rfl) (by kernel_rfl) (.plain rfl) rfl rfl (by assumption) (fun W hW => r_assign (v := .bool _) rfl) ?_
                refine D_done (by kernel_rfl) ?_
                refine W_ret ?_
                refine ret1 (v := .bool _) rfl rfl ?_
                refine ⟨?_, by (repeat (first | exact Ch.refl _ | assumption | (refine Ch.fresh ?_ (by assumption) (by intro i hi he; first | exact he | (exfalso; have he2 : i = _ := he; omega)))))⟩
                first
                | exact absurd h31 (by decide)
                | exact congrArg Value.bool (decide_eq_true (decide_eq_decide.2 (by omega)))
                | exact congrArg Value.bool (decide_eq_true (decide_eq_false (by omega)))
                | exact rfl
              · refine D_pass 41 rfl (by kernel_rfl) (by kernel_rfl) (by kernel_rfl) (by kernel_rfl) rfl rfl rfl rfl rfl (by assumption) ?_
                refine D_pass 42 rfl (by kernel_rfl) (by kernel_rfl) (by kernel_rfl) (by kernel_rfl) rfl rfl rfl rfl rfl (by assumption) ?_
                refine D_pass 43 rfl (by kernel_rfl) (by kernel_rfl) (by kernel_rfl) (by kernel_rfl) rfl rfl rfl rfl rfl (by assumption) ?_
                refine D_pass 44 rfl (by kernel_rfl) (by kernel_rfl) (by kernel_rfl) (by kernel_rfl) rfl rfl rfl rfl rfl (by assumption) ?_
                refine D_pass 45 rfl (by kernel_rfl) (by kernel_rfl) (by kernel_rfl) (by kernel_rfl) rfl rfl rfl rfl rfl (by assumption) ?_
                refine D_take 46 rfl (by kernel_rfl) (by kernel_rfl) (by kernel_rfl) (by kernel_rfl) (.yes 21 true rfl rfl) rfl rfl (by assumption) (fun W hW => r_pick_f (v := .bool _) rfl rfl) ?_
                refine D_take 47 rfl (by kernel_rfl) (by kernel_rfl) (by kernel_rfl) (by kernel_rfl) (.yes 21 true rfl rfl) rfl rfl (by assumption) (fun W hW => r_eqlb Tryd.underlying4 rfl rfl) ?_
                refine D_take 48 rfl (by kernel_rfl) (by kernel_rfl) (by kernel_rfl) (by kernel_rfl) (.plain rfl) rfl rfl (by assumption) (fun W hW => r_pick_t (v := .bool _) rfl rfl) ?_
                refine D_take 49 rfl (by kernel_rfl) (by kernel_rfl) (by kernel_rfl) (by kernel_rfl) (.plain rfl) rfl rfl (by assumption) (fun W hW => r_assign (v := .bool _) rfl) ?_
                refine D_done (by kernel_rfl) ?_
                refine W_ret ?_
                refine ret1 (v := .bool _) rfl rfl ?_
                refine ⟨?_, by (repeat (first | exact Ch.refl _ | assumption | (refine Ch.fresh ?_ (by assumption) (by intro i hi he; first | exact he | (exfalso; have he2 : i = _ := he; omega)))))⟩
                first
                | exact absurd h31 (by decide)
                | exact congrArg Value.bool (decide_eq_true (decide_eq_decide.2 (by omega)))
                | exact congrArg Value.bool (decide_eq_true (decide_eq_false (by omega)))
                | exact rfl
            · refine D_pass 34 rfl (by kernel_rfl) (by kernel_rfl) (by kernel_rfl) (by kernel_rfl) rfl rfl rfl rfl rfl (by assumption) ?_
              refine D_pass 35 rfl (by kernel_rfl) (by kernel_rfl) (by kernel_rfl) (by kernel_rfl) rfl rfl rfl rfl rfl (by assumption) ?_
              refine D_pass 36 rfl (by kernel_rfl) (by kernel_rfl) (by kernel_rfl) (by kernel_rfl) rfl rfl rfl rfl rfl (by assumption) ?_
              refine D_pass 37 rfl (by kernel_rfl) (by kernel_rfl) (by kernel_rfl) (by kernel_rfl) rfl rfl rfl rfl rfl (by assumption) ?_
              refine D_pass 38 rfl (by kernel_rfl) (by kernel_rfl) (by kernel_rfl) (by kernel_rfl) rfl rfl rfl rfl rfl (by assumption) ?_
              refine D_take 39 rfl (by kernel_rfl) (by kernel_rfl) (by kernel_rfl) (by kernel_rfl) (.yes 21 true rfl rfl) rfl rfl (by assumption) (fun W hW => r_pick_f (v := .bool _) rfl rfl) ?_
              refine D_take 40 rfl (by kernel_rfl) (by kernel_rfl) (by kernel_rfl) (by kernel_rfl) (.yes 21 true rfl rfl) rfl rfl (by assumption) (fun W hW => r_move (v := .bool _) rfl) ?_
              refine D_pass 41 rfl (by kernel_rfl) (by kernel_rfl) (by kernel_rfl) (by kernel_rfl) rfl rfl rfl rfl rfl (by assumption) ?_
              refine D_pass 42 rfl (by kernel_rfl) (by kernel_rfl) (by kernel_rfl) (by kernel_rfl) rfl rfl rfl rfl rfl (by assumption) ?_
              refine D_pass 43 rfl (by kernel_rfl) (by kernel_rfl) (by kernel_rfl) (by kernel_rfl) rfl rfl rfl rfl rfl (by assumption) ?_
              refine D_pass 44 rfl (by kernel_rfl) (by kernel_rfl) (by kernel_rfl) (by kernel_rfl) rfl rfl rfl rfl rfl (by assumption) ?_
              refine D_pass 45 rfl (by kernel_rfl) (by kernel_rfl) (by kernel_rfl) (by kernel_rfl) rfl rfl rfl rfl rfl (by assumption) ?_
              refine D_take 46 rfl (by kernel_rfl) (by kernel_rfl) (by kernel_rfl) (by kernel_rfl) (.yes 21 true rfl rfl) rfl rfl (by assumption) (fun W hW => r_pick_f (v := .bool _) rfl rfl) ?_
              refine D_take 47 rfl (by kernel_rfl) (by kernel_rfl) (by kernel_rfl) (by kernel_rfl) (.yes 21 true rfl rfl) rfl rfl (by assumption) (fun W hW => r_eqlb Tryd.underlying4 rfl rfl) ?_
              refine D_take 48 rfl (by kernel_rfl) (by kernel_rfl) (by kernel_rfl) (by kernel_rfl) (.plain rfl) rfl rfl (by assumption) (fun W hW => r_pick_t (v := .bool _) rfl rfl) ?_
              refine D_take 49 rfl (by kernel_rfl) (by kernel_rfl) (by kernel_rfl) (by kernel_rfl) (.plain rfl) rfl rfl (by assumption) (fun W hW => r_assign (v := .bool _) rfl) ?_
              refine D_done (by kernel_rfl) ?_
              refine W_ret ?_
              refine ret1 (v := .bool _) rfl rfl ?_
              refine ⟨?_, by (repeat (first | exact Ch.refl _ | assumption | (refine Ch.fresh ?_ (by assumption) (by intro i hi he; first | exact he | (exfalso; have he2 : i = _ := he; omega)))))⟩
              first
              | exact absurd h31 (by decide)
              | exact congrArg Value.bool (decide_eq_true (decide_eq_decide.2 (by omega)))
              | exact congrArg Value.bool (decide_eq_true (decide_eq_false (by omega)))
              | exact rfl
          · refine D_pass 29 rfl (by kernel_rfl) (by kernel_rfl) (by kernel_rfl) (by kernel_rfl) rfl rfl rfl rfl rfl (by assumption) ?_
            refine D_pass 30 rfl (by kernel_rfl) (by kernel_rfl) (by kernel_rfl) (by kernel_rfl) rfl rfl rfl rfl rfl (by assumption) ?_
            refine D_pass 31 rfl (by kernel_rfl) (by kernel_rfl) (by kernel_rfl) (by kernel_rfl) rfl rfl rfl rfl rfl (by assumption) ?_
            refine D_take 32 rfl (by kernel_rfl) (by kernel_rfl) (by kernel_rfl) (by kernel_rfl) (.yes 21 true rfl rfl) rfl rfl (by assumption) (fun W hW => r_pick_f (v := .bool _) rfl rfl) ?_
            refine D_take 33 rfl (by kernel_rfl) (by kernel_rfl) (by kernel_rfl) (by kernel_rfl) (.yes 21 true rfl rfl) rfl rfl (by assumption) (fun W hW => r_move (v := .bool _) rfl) ?_
            refine D_pass 34 rfl (by kernel_rfl) (by kernel_rfl) (by kernel_rfl) (by kernel_rfl) rfl rfl rfl rfl rfl (by assumption) ?_
            refine D_pass 35 rfl (by kernel_rfl) (by kernel_rfl) (by kernel_rfl) (by kernel_rfl) rfl rfl rfl rfl rfl (by assumption) ?_
            refine D_pass 36 rfl (by kernel_rfl) (by kernel_rfl) (by kernel_rfl) (by kernel_rfl) rfl rfl rfl rfl rfl (by assumption) ?_
            refine D_pass 37 rfl (by kernel_rfl) (by kernel_rfl) (by kernel_rfl) (by kernel_rfl) rfl rfl rfl rfl rfl (by assumption) ?_
            refine D_pass 38 rfl (by kernel_rfl) (by kernel_rfl) (by kernel_rfl) (by kernel_rfl) rfl rfl rfl rfl rfl (by assumption) ?_
            refine D_take 39 rfl (by kernel_rfl) (by kernel_rfl) (by kernel_rfl) (by kernel_rfl) (.yes 21 true rfl rfl) rfl rfl (by assumption) (fun W hW => r_pick_f (v := .bool _) rfl rfl) ?_
            refine D_take 40 rfl (by kernel_rfl) (by kernel_rfl) (by kernel_rfl) (by kernel_rfl) (.yes 21 true rfl rfl) rfl rfl (by assumption) (fun W hW => r_move (v := .bool _) rfl) ?_
            refine D_pass 41 rfl (by kernel_rfl) (by kernel_rfl) (by kernel_rfl) (by kernel_rfl) rfl rfl rfl rfl rfl (by assumption) ?_
            refine D_pass 42 rfl (by kernel_rfl) (by kernel_rfl) (by kernel_rfl) (by kernel_rfl) rfl rfl rfl rfl rfl (by assumption) ?_
            refine D_pass 43 rfl (by kernel_rfl) (by kernel_rfl) (by kernel_rfl) (by kernel_rfl) rfl rfl rfl rfl rfl (by assumption) ?_
            refine D_pass 44 rfl (by kernel_rfl) (by kernel_rfl) (by kernel_rfl) (by kernel_rfl) rfl rfl rfl rfl rfl (by assumption) ?_
            refine D_pass 45 rfl (by kernel_rfl) (by kernel_rfl) (by kernel_rfl) (by kernel_rfl) rfl rfl rfl rfl rfl (by assumption) ?_
            refine D_take 46 rfl (by kernel_rfl) (by kernel_rfl) (by kernel_rfl) (by kernel_rfl) (.yes 21 true rfl rfl) rfl rfl (by assumption) (fun W hW => r_pick_f (v := .bool _) rfl rfl) ?_
            refine D_take 47 rfl (by kernel_rfl) (by kernel_rfl) (by kernel_rfl) (by kernel_rfl) (.yes 21 true rfl rfl) rfl rfl (by assumption) (fun W hW => r_eqlb Tryd.underlying4 rfl rfl) ?_
            refine D_take 48 rfl (by kernel_rfl) (by kernel_rfl) (by kernel_rfl) (by kernel_rfl) (.plain rfl) rfl rfl (by assumption) (fun W hW => r_pick_t (v := .bool _) rfl rfl) ?_
            refine D_take 49 rfl (by kernel_rfl) (by kernel_rfl) (by kernel_rfl) (by kernel_rfl) (.plain rfl) rfl rfl (by assumption) (fun W hW => r_assign (v := .bool _) rfl) ?_
            refine D_done (by kernel_rfl) ?_
            refine W_ret ?_
            refine ret1 (v := .bool _) rfl rfl ?_
            refine ⟨?_, by (repeat (first | exact Ch.refl _ | assumption | (refine Ch.fresh ?_ (by assumption) (by intro i hi he; first | exact he | (exfalso; have he2 : i = _ := he; omega)))))⟩
            first
            | exact absurd h31 (by decide)
            | exact congrArg Value.bool (decide_eq_true (decide_eq_decide.2 (by omega)))
            | exact congrArg Value.bool (decide_eq_true (decide_eq_false (by omega)))
            | exact rfl
        · refine D_pass 2 rfl (by kernel_rfl) (by kernel_rfl) (by kernel_rfl) (by kernel_rfl) rfl rfl rfl rfl rfl (by assumption) ?_
          refine D_pass 3 rfl (by kernel_rfl) (by kernel_rfl) (by kernel_rfl) (by kernel_rfl) rfl rfl rfl rfl rfl (by assumption) ?_
          refine D_pass 4 rfl (by kernel_rfl) (by kernel_rfl) (by kernel_rfl) (by kernel_rfl) rfl rfl rfl rfl rfl (by assumption) ?_
          refine D_pass 5 rfl (by kernel_rfl) (by kernel_rfl) (by kernel_rfl) (by kernel_rfl) rfl rfl rfl rfl rfl (by assumption) ?_
          refine D_pass 6 rfl (by kernel_rfl) (by kernel_rfl) (by kernel_rfl) (by kernel_rfl) rfl rfl rfl rfl rfl (by assumption) ?_
          refine D_pass 7 rfl (by kernel_rfl) (by kernel_rfl) (by kernel_rfl) (by kernel_rfl) rfl rfl rfl rfl rfl (by assumption) ?_
          refine D_pass 8 rfl (by kernel_rfl) (by kernel_rfl) (by kernel_rfl) (by kernel_rfl) rfl rfl rfl rfl rfl (by assumption) ?_
          refine D_pass 9 rfl (by kernel_rfl) (by kernel_rfl) (by kernel_rfl) (by kernel_rfl) rfl rfl rfl rfl rfl (by assumption) ?_
          refine D_pass 10 rfl (by kernel_rfl) (by kernel_rfl) (by kernel_rfl) (by kernel_rfl) rfl rfl rfl rfl rfl (by assumption) ?_
          refine D_take 11 rfl (by kernel_rfl) (by kernel_rfl) (by kernel_rfl) (by kernel_rfl) (.plain rfl) rfl rfl (by assumption) (fun W hW => r_pick_f (v := .bool _) rfl rfl) ?_
          refine D_take 12 rfl (by kernel_rfl) (by kernel_rfl) (by kernel_rfl) (by kernel_rfl) (.plain rfl) rfl rfl (by assumption) (fun W hW => r_move (v := .bool _) rfl) ?_
          refine D_pass 13 rfl (by kernel_rfl) (by kernel_rfl) (by kernel_rfl) (by kernel_rfl) rfl rfl rfl rfl rfl (by assumption) ?_
          refine D_pass 14 rfl (by kernel_rfl) (by kernel_rfl) (by kernel_rfl) (by kernel_rfl) rfl rfl rfl rfl rfl (by assumption) ?_
          refine D_pass 15 rfl (by kernel_rfl) (by kernel_rfl) (by kernel_rfl) (by kernel_rfl) rfl rfl rfl rfl rfl (by assumption) ?_
          refine D_pass 16 rfl (by kernel_rfl) (by kernel_rfl) (by kernel_rfl) (by kernel_rfl) rfl rfl rfl rfl rfl (by assumption) ?_
          refine D_pass 17 rfl (by kernel_rfl) (by kernel_rfl) (by kernel_rfl) (by kernel_rfl) rfl rfl rfl rfl rfl (by assumption) ?_
          refine D_pass 18 rfl (by kernel_rfl) (by kernel_rfl) (by kernel_rfl) (by kernel_rfl) rfl rfl rfl rfl rfl (by assumption) ?_
          refine D_pass 19 rfl (by kernel_rfl) (by kernel_rfl) (by kernel_rfl) (by kernel_rfl) rfl rfl rfl rfl rfl (by assumption) ?_
          refine D_take 20 rfl (by kernel_rfl) (by kernel_rfl) (by kernel_rfl) (by kernel_rfl) (.plain rfl) rfl rfl (by assumption) (fun W hW => r_pick_f (v := .bool _) rfl rfl) ?_
          refine D_take 21 rfl (by kernel_rfl) (by kernel_rfl) (by kernel_rfl) (by kernel_rfl) (.plain rfl) rfl rfl (by assumption) (fun W hW => r_move (v := .bool _) rfl) ?_
          refine D_pass 22 rfl (by kernel_rfl) (by kernel_rfl) (by kernel_rfl) (by kernel_rfl) rfl rfl rfl rfl rfl (by assumption) ?_
          refine D_pass 23 rfl (by kernel_rfl) (by kernel_rfl) (by kernel_rfl) (by kernel_rfl) rfl rfl rfl rfl rfl (by assumption) ?_
          refine D_pass 24 rfl (by kernel_rfl) (by kernel_rfl) (by kernel_rfl) (by kernel_rfl) rfl rfl rfl rfl rfl (by assumption) ?_
          refine D_pass 25 rfl (by kernel_rfl) (by kernel_rfl) (by kernel_rfl) (by kernel_rfl) rfl rfl rfl rfl rfl (by assumption) ?_
          refine D_pass 26 rfl (by kernel_rfl) (by kernel_rfl) (by kernel_rfl) (by kernel_rfl) rfl rfl rfl rfl rfl (by assumption) ?_
          refine D_pass 27 rfl (by kernel_rfl) (by kernel_rfl) (by kernel_rfl) (by kernel_rfl) rfl rfl rfl rfl rfl (by assumption) ?_
          refine D_pass 28 rfl (by kernel_rfl) (by kernel_rfl) (by kernel_rfl) (by kernel_rfl) rfl rfl rfl rfl rfl (by assumption) ?_
          refine D_passu 29 rfl (by kernel_rfl) (by kernel_rfl) (by kernel_rfl) (by kernel_rfl) rfl rfl rfl rfl (by assumption) ?_
          refine D_passu 30 rfl (by kernel_rfl) (by kernel_rfl) (by kernel_rfl) (by kernel_rfl) rfl rfl rfl rfl (by assumption) ?_
          refine D_passu 31 rfl (by kernel_rfl) (by kernel_rfl) (by kernel_rfl) (by kernel_rfl) rfl rfl rfl rfl (by assumption) ?_
          refine D_pass 32 rfl (by kernel_rfl) (by kernel_rfl) (by kernel_rfl) (by kernel_rfl) rfl rfl rfl rfl rfl (by assumption) ?_
          refine D_pass 33 rfl (by kernel_rfl) (by kernel_rfl) (by kernel_rfl) (by kernel_rfl) rfl rfl rfl rfl rfl (by assumption) ?_
          refine D_passu 34 rfl (by kernel_rfl) (by kernel_rfl) (by kernel_rfl) (by kernel_rfl) rfl rfl rfl rfl (by assumption) ?_
          refine D_passu 35 rfl (by kernel_rfl) (by kernel_rfl) (by kernel_rfl) (by kernel_rfl) rfl rfl rfl rfl (by assumption) ?_
          refine D_passu 36 rfl (by kernel_rfl) (by kernel_rfl) (by kernel_rfl) (by kernel_rfl) rfl rfl rfl rfl (by assumption) ?_
          refine D_passu 37 rfl (by kernel_rfl) (by kernel_rfl) (by kernel_rfl) (by kernel_rfl) rfl rfl rfl rfl (by assumption) ?_
          refine D_passu 38 rfl (by kernel_rfl) (by kernel_rfl) (by kernel_rfl) (by kernel_rfl) rfl rfl rfl rfl (by assumption) ?_
          refine D_pass 39 rfl (by kernel_rfl) (by kernel_rfl) (by kernel_rfl) (by kernel_rfl) rfl rfl rfl rfl rfl (by assumption) ?_
          refine D_pass 40 rfl (by kernel_rfl) (by kernel_rfl) (by kernel_rfl) (by kernel_rfl) rfl rfl rfl rfl rfl (by assumption) ?_
          refine D_passu 41 rfl (by kernel_rfl) (by kernel_rfl) (by kernel_rfl) (by kernel_rfl) rfl rfl rfl rfl (by assumption) ?_
          refine D_passu 42 rfl (by kernel_rfl) (by kernel_rfl) (by kernel_rfl) (by kernel_rfl) rfl rfl rfl rfl (by assumption) ?_
          refine D_passu 43 rfl (by kernel_rfl) (by kernel_rfl) (by kernel_rfl) (by kernel_rfl) rfl rfl rfl rfl (by assumption) ?_
          refine D_passu 44 rfl (by kernel_rfl) (by kernel_rfl) (by kernel_rfl) (by kernel_rfl) rfl rfl rfl rfl (by assumption) ?_
          refine D_passu 45 rfl (by kernel_rfl) (by kernel_rfl) (by kernel_rfl) (by kernel_rfl) rfl rfl rfl rfl (by assumption) ?_
          refine D_pass 46 rfl (by kernel_rfl) (by kernel_rfl) (by kernel_rfl) (by kernel_rfl) rfl rfl rfl rfl rfl (by assumption) ?_
          refine D_pass 47 rfl (by kernel_rfl) (by kernel_rfl) (by kernel_rfl) (by kernel_rfl) rfl rfl rfl rfl rfl (by assumption) ?_
          refine D_take 48 rfl (by kernel_rfl) (by kernel_rfl) (by kernel_rfl) (by kernel_rfl) (.plain rfl) rfl rfl (by assumption) (fun W hW => r_pick_f (v := .bool _) rfl rfl) ?_
          refine D_take 49 rfl (by kernel_rfl) (by kernel_rfl) (by kernel_rfl) (by kernel_rfl) (.plain rfl) rfl rfl (by assumption) (fun W hW => r_assign (v := .bool _) rfl) ?_
          refine D_done (by kernel_rfl) ?_
          refine W_ret ?_
          refine ret1 (v := .bool _) rfl rfl ?_
          refine ⟨?_, by (repeat (first | exact Ch.refl _ | assumption | (refine Ch.fresh ?_ (by assumption) (by intro i hi he; first | exact he | (exfalso; have he2 : i = _ := he; omega)))))⟩
          first
          | exact absurd h31 (by decide)
          | exact congrArg Value.bool (decide_eq_true (decide_eq_decide.2 (by omega)))
          | exact congrArg Value.bool (decide_eq_true (decide_eq_false (by omega)))
          | exact rfl
theorem MessagePuts_big (m : Msg) (w0 : World) (hm : m.ok) (hT : Tabs w0.heap.size w0) (hb : 9000 < m.body.size ∨ 100 < m.method.size) : Does Tryd.prog 3 #[m.v] w0 (fun r w' => r = .bool true ∧ Nw w0 w') := by
  refine fn_of (n := 76) (args := [m.v]) Tryd.func3 rfl rfl rfl ?_
  refine W_seq ?_
  refine W_region ?_
  refine L_new (.plain rfl) rfl rfl (r_boxa rfl) (fun w1 b1 hb1 eb1 hs1 c1 => ?_)
  refine L_run (.plain rfl) rfl rfl (r_assign (v := .bool _) rfl) ?_
  refine L_nil ?_
  refine W_seq ?_
  refine W_seq ?_
  refine W_region ?_
  refine L_run (.plain rfl) rfl rfl (r_fieldb Tryd.underlying24 rfl (show _ = some 1 from rfl) rfl rfl (show _ = 7 from rfl)) ?_
  refine L_run (.plain rfl) rfl rfl (r_loadb rfl rfl (by (exact Bk.to (by assumption) (by (repeat (first | exact Sm.refl _ _ | (refine Sm.stepT (by assumption) (by intro hlt hsm; exact not_no) ?_)))))) (by first | assumption | (conv => lhs; simp only [List.getElem?_toArray, List.getElem?_cons_succ, List.getElem?_cons_zero]))) ?_
  refine L_run (.plain rfl) rfl rfl (r_lens Tryd.underlying9 rfl) ?_
  refine L_run (.plain rfl) rfl rfl (r_gtr rfl rfl) ?_
  refine L_run (.plain rfl) rfl rfl (r_move (v := .bool _) rfl) ?_
  refine L_case (d := 12) rfl (fun h12 => ?_) (fun h12 => ?_)
  · refine L_pass rfl rfl rfl rfl rfl ?_
    refine L_pass rfl rfl rfl rfl rfl ?_
    refine L_pass rfl rfl rfl rfl rfl ?_
    refine L_pass rfl rfl rfl rfl rfl ?_
    refine L_run (.plain rfl) rfl rfl (r_pick_t (v := .bool _) rfl rfl) ?_
    refine L_nil ?_
    refine W_true rfl ?_
    refine W_seq ?_
    refine W_region ?_
    refine L_call (.plain rfl) rfl rfl (r_call Tryd.func9 rfl rfl rfl (by rfl)) (awake_walk _ ((hT.nw (by (repeat (first | exact Ch.refl _ | assumption | (refine Ch.fresh ?_ (by assumption) (by intro i hi he; exact he))))) (by omega)).mono (by omega))) ?_
    rintro v18 w2 ⟨rfl, c2⟩
    have hz2 := c2.size
    refine L_run (.plain rfl) rfl rfl (r_assign (v := .bool _) rfl) ?_
    refine L_nil ?_
    refine W_ret ?_
    refine ret1 (v := .bool _) rfl rfl ?_
    exact ⟨rfl, by (repeat (first | exact Ch.refl _ | assumption | (refine Ch.fresh ?_ (by assumption) (by intro i hi he; exact he))))⟩
  · refine L_run (.yes 4 false rfl rfl) rfl rfl (r_fieldb Tryd.underlying24 rfl (show _ = some 1 from rfl) rfl rfl (show _ = 5 from rfl)) ?_
    refine L_run (.yes 4 false rfl rfl) rfl rfl (r_loadb rfl rfl (by (exact Bk.to (by assumption) (by (repeat (first | exact Sm.refl _ _ | (refine Sm.stepT (by assumption) (by intro hlt hsm; exact not_no) ?_)))))) (by first | assumption | (conv => lhs; simp only [List.getElem?_toArray, List.getElem?_cons_succ, List.getElem?_cons_zero]))) ?_
    refine L_run (.yes 4 false rfl rfl) rfl rfl (r_lens Tryd.underlying9 rfl) ?_
    refine L_run (.yes 4 false rfl rfl) rfl rfl (r_gtr rfl rfl) ?_
    refine L_run (.plain rfl) rfl rfl (r_pick_f (v := .bool _) rfl rfl) ?_
    refine L_nil ?_
    refine W_if rfl (fun h17 => ?_) (fun h17 => ?_)
    · refine W_seq ?_
      refine W_region ?_
      refine L_call (.plain rfl) rfl rfl (r_call Tryd.func9 rfl rfl rfl (by rfl)) (awake_walk _ ((hT.nw (by (repeat (first | exact Ch.refl _ | assumption | (refine Ch.fresh ?_ (by assumption) (by intro i hi he; exact he))))) (by omega)).mono (by omega))) ?_
      rintro v18 w3 ⟨rfl, c3⟩
      have hz3 := c3.size
      refine L_run (.plain rfl) rfl rfl (r_assign (v := .bool _) rfl) ?_
      refine L_nil ?_
      refine W_ret ?_
      refine ret1 (v := .bool _) rfl rfl ?_
      exact ⟨rfl, by (repeat (first | exact Ch.refl _ | assumption | (refine Ch.fresh ?_ (by assumption) (by intro i hi he; exact he))))⟩
    · omega
theorem MessagePuts_bad (m : Msg) (w0 : World) (hm : m.ok) (hT : Tabs w0.heap.size w0) (hb : m.body.size ≤ 9000) (hs : m.method.size ≤ 100) (hc : ¬ checkC m = 0) : Does Tryd.prog 3 #[m.v] w0 (fun r w' => r = .bool true ∧ Nw w0 w') := by
  refine fn_of (n := 76) (args := [m.v]) Tryd.func3 rfl rfl rfl ?_
  refine W_seq ?_
  refine W_region ?_
  refine L_new (.plain rfl) rfl rfl (r_boxa rfl) (fun w1 b1 hb1 eb1 hs1 c1 => ?_)
  refine L_run (.plain rfl) rfl rfl (r_assign (v := .bool _) rfl) ?_
  refine L_nil ?_
  refine W_seq ?_
  refine W_seq ?_
  refine W_region ?_
  refine L_run (.plain rfl) rfl rfl (r_fieldb Tryd.underlying24 rfl (show _ = some 1 from rfl) rfl rfl (show _ = 7 from rfl)) ?_
  refine L_run (.plain rfl) rfl rfl (r_loadb rfl rfl (by (exact Bk.to (by assumption) (by (repeat (first | exact Sm.refl _ _ | (refine Sm.stepT (by assumption) (by intro hlt hsm; exact not_no) ?_)))))) (by first | assumption | (conv => lhs; simp only [List.getElem?_toArray, List.getElem?_cons_succ, List.getElem?_cons_zero]))) ?_
  refine L_run (.plain rfl) rfl rfl (r_lens Tryd.underlying9 rfl) ?_
  refine L_run (.plain rfl) rfl rfl (r_gtr rfl rfl) ?_
  refine L_run (.plain rfl) rfl rfl (r_move (v := .bool _) rfl) ?_
  refine L_case (d := 12) rfl (fun h12 => ?_) (fun h12 => ?_)
  · omega
  · refine L_run (.yes 4 false rfl rfl) rfl rfl (r_fieldb Tryd.underlying24 rfl (show _ = some 1 from rfl) rfl rfl (show _ = 5 from rfl)) ?_
    refine L_run (.yes 4 false rfl rfl) rfl rfl (r_loadb rfl rfl (by (exact Bk.to (by assumption) (by (repeat (first | exact Sm.refl _ _ | (refine Sm.stepT (by assumption) (by intro hlt hsm; exact not_no) ?_)))))) (by first | assumption | (conv => lhs; simp only [List.getElem?_toArray, List.getElem?_cons_succ, List.getElem?_cons_zero]))) ?_
    refine L_run (.yes 4 false rfl rfl) rfl rfl (r_lens Tryd.underlying9 rfl) ?_
    refine L_run (.yes 4 false rfl rfl) rfl rfl (r_gtr rfl rfl) ?_
    refine L_run (.plain rfl) rfl rfl (r_pick_f (v := .bool _) rfl rfl) ?_
    refine L_nil ?_
    refine W_if rfl (fun h17 => ?_) (fun h17 => ?_)
    · omega
    · refine W_skip ?_
      refine W_seq ?_
      refine W_region ?_
      refine L_run (.plain rfl) rfl rfl (r_loadrow Tryd.underlying24 rfl rfl (by (exact Bk.to (by assumption) (by (repeat (first | exact Sm.refl _ _ | (refine Sm.stepT (by assumption) (by intro hlt hsm; exact not_no) ?_)))))) (by first | rfl | assumption)) ?_
      refine L_call (.plain rfl) rfl rfl (r_call Tryd.func10 rfl rfl rfl (by rfl)) (mput_bad m _ hc) ?_
      rintro v21 w2 ⟨rfl, c2⟩
      have hz2 := c2.size
      have hnil : Sl w2 (.slice none 0 0) 1 0 [] := Sl.nil _ _
      refine L_run (.plain rfl) rfl rfl (r_move (by conv => lhs; whnf)) ?_
      refine L_run (.plain rfl) rfl rfl (r_ext2_0 rfl) ?_
      refine L_run (.plain rfl) rfl rfl (r_ext2_1 rfl) ?_
      refine L_run (.plain rfl) rfl rfl (r_assign (by conv => lhs; whnf)) ?_
      refine L_run (.plain rfl) rfl rfl (r_assign (v := .int _ _) rfl) ?_
      refine L_nil ?_
      refine W_seq ?_
      refine W_seq ?_
      refine W_region ?_
      refine L_run (.plain rfl) rfl rfl (r_loadrow Tryd.underlying24 rfl rfl (by (exact Bk.to (by assumption) (by (repeat (first | exact Sm.refl _ _ | (refine Sm.stepT (by assumption) (by intro hlt hsm; exact not_no) ?_)))))) (by first | rfl | assumption)) ?_
      refine L_call (.plain rfl) rfl rfl (r_call Tryd.func11 rfl rfl rfl (by rfl)) (rcheck_walk m _ hm (by omega)) ?_
      rintro v25 w3 ⟨rfl, c3⟩
      have hz3 := c3.size
      refine L_run (.plain rfl) rfl rfl (r_assign (v := .int _ _) rfl) ?_
      refine L_nil ?_
      refine W_seq ?_
      refine W_region ?_
      refine L_run (.plain rfl) rfl rfl (r_move (v := .int _ _) rfl) ?_
      refine L_run (.plain rfl) rfl rfl (r_neq rfl rfl) ?_
      refine L_as (v := .bool _) (v' := .bool true) 27 rfl (dec_t (by exact hc)).symm ?_
      refine L_nil ?_
      refine W_true rfl ?_
      refine W_seq ?_
      refine W_region ?_
      refine L_call (.plain rfl) rfl rfl (r_call Tryd.func9 rfl rfl rfl (by rfl)) (awake_walk _ ((hT.nw (by (repeat (first | exact Ch.refl _ | assumption | (refine Ch.fresh ?_ (by assumption) (by intro i hi he; exact he))))) (by omega)).mono (by omega))) ?_
      rintro v28 w4 ⟨rfl, c4⟩
      have hz4 := c4.size
      refine L_run (.plain rfl) rfl rfl (r_move (v := .bool _) rfl) ?_
      refine L_caseb (d := 29) rfl (fun h29 => ?_) (fun h29 => ?_)
      · refine L_run (.yes 1 true rfl rfl) rfl rfl (r_move (by conv => lhs; whnf)) ?_
        refine L_run (.yes 1 true rfl rfl) rfl rfl (r_lenSl Tryd.underlying26 (by conv => lhs; whnf) (by (exact Sl.to (by first | assumption | exact Sl.own (by assumption) | exact Mu.sl (by assumption) | exact Ow.sl (by assumption)) (fun i hi => by (repeat (first | exact Sm.refl _ _ | (refine Sm.stepT (by assumption) (by intro hlt hsm; exact not_no) ?_))))))) ?_
        refine L_run (.yes 1 true rfl rfl) rfl rfl (r_eql rfl rfl) ?_
        refine L_as (v := .bool _) (v' := .bool true) 32 rfl (dec_t (by rfl)).symm ?_
        refine L_run (.plain rfl) rfl rfl (r_pick_t (v := .bool _) rfl rfl) ?_
        refine L_run (.plain rfl) rfl rfl (r_move (v := .bool _) rfl) ?_
        refine L_run (.yes 6 true rfl rfl) rfl rfl (r_move (v := .int _ _) rfl) ?_
        refine L_run (.yes 6 true rfl rfl) rfl rfl (r_move (v := .int _ _) rfl) ?_
        refine L_run (.yes 6 true rfl rfl) rfl rfl (r_eql rfl rfl) ?_
        refine L_as (v := .bool _) (v' := .bool true) 37 rfl (dec_t (by rfl)).symm ?_
        refine L_run (.plain rfl) rfl rfl (r_pick_t (v := .bool _) rfl rfl) ?_
        refine L_run (.plain rfl) rfl rfl (r_move (v := .bool _) rfl) ?_
        refine L_run (.yes 11 true rfl rfl) rfl rfl (r_loadrow Tryd.underlying24 rfl rfl (by (exact Bk.to (by assumption) (by (repeat (first | exact Sm.refl _ _ | (refine Sm.stepT (by assumption) (by intro hlt hsm; exact not_no) ?_)))))) (by first | rfl | assumption)) ?_
        refine L_call (.yes 11 true rfl rfl) rfl rfl (r_call Tryd.func12 rfl rfl rfl (by rfl)) (check_walk m _) ?_
        rintro v41 w5 ⟨rfl, c5⟩
        have hz5 := c5.size
        refine L_run (.yes 11 true rfl rfl) rfl rfl (r_move (v := .int _ _) rfl) ?_
        refine L_run (.yes 11 true rfl rfl) rfl rfl (r_eql rfl rfl) ?_
        refine L_run (.plain rfl) rfl rfl (r_pick_t (v := .bool _) rfl rfl) ?_
        refine L_run (.plain rfl) rfl rfl (r_assign (v := .bool _) rfl) ?_
        refine L_nil ?_
        refine W_ret ?_
        refine ret1 (v := .bool _) rfl rfl ?_
        first
        | exact absurd h29 (by decide)
        | exact ⟨congrArg Value.bool (decide_eq_true rfl), by (repeat (first | exact Ch.refl _ | assumption | (refine Ch.fresh ?_ (by assumption) (by intro i hi he; exact he))))⟩
      · refine L_pass rfl rfl rfl rfl rfl ?_
        refine L_pass rfl rfl rfl rfl rfl ?_
        refine L_pass rfl rfl rfl rfl rfl ?_
        refine L_run (.plain rfl) rfl rfl (r_pick_f (v := .bool _) rfl rfl) ?_
        refine L_run (.plain rfl) rfl rfl (r_move (v := .bool _) rfl) ?_
        refine L_pass rfl rfl rfl rfl rfl ?_
        refine L_pass rfl rfl rfl rfl rfl ?_
        refine L_pass rfl rfl rfl rfl rfl ?_
        refine L_run (.plain rfl) rfl rfl (r_pick_f (v := .bool _) rfl rfl) ?_
        refine L_run (.plain rfl) rfl rfl (r_move (v := .bool _) rfl) ?_
        refine L_pass rfl rfl rfl rfl rfl ?_
        refine L_pass rfl rfl rfl rfl rfl ?_
        refine L_pass rfl rfl rfl rfl rfl ?_
        refine L_pass rfl rfl rfl rfl rfl ?_
        refine L_run (.plain rfl) rfl rfl (r_pick_f (v := .bool _) rfl rfl) ?_
        refine L_run (.plain rfl) rfl rfl (r_assign (v := .bool _) rfl) ?_
        refine L_nil ?_
        refine W_ret ?_
        refine ret1 (v := .bool _) rfl rfl ?_
        first
        | exact absurd h29 (by decide)
        | exact ⟨congrArg Value.bool (decide_eq_true rfl), by (repeat (first | exact Ch.refl _ | assumption | (refine Ch.fresh ?_ (by assumption) (by intro i hi he; exact he))))⟩
set_option maxHeartbeats 1000000 in
set_option maxRecDepth 100000 in
theorem MessagePuts_good (m : Msg) (w0 : World) (hm : m.ok) (hT : Tabs w0.heap.size w0) (hb : m.body.size ≤ 9000) (hs : m.method.size ≤ 100) (hc : checkC m = 0) : Does Tryd.prog 3 #[m.v] w0 (fun r w' => r = .bool true ∧ Nw w0 w') := by
  have hpl := putM_le hm hc
  have hpl2 := put_length (putM m)
  refine fn_of (n := 76) (args := [m.v]) Tryd.func3 rfl rfl rfl ?_
  refine W_seq ?_
  refine W_region ?_
  refine L_new (.plain rfl) rfl rfl (r_boxa rfl) (fun w1 b1 hb1 eb1 hs1 c1 => ?_)
  refine L_run (.plain rfl) rfl rfl (r_assign (v := .bool _) rfl) ?_
  refine L_nil ?_
  refine W_seq ?_
  refine W_seq ?_
  refine W_region ?_
  refine L_run (.plain rfl) rfl rfl (r_fieldb Tryd.underlying24 rfl (show _ = some 1 from rfl) rfl rfl (show _ = 7 from rfl)) ?_
  refine L_run (.plain rfl) rfl rfl (r_loadb rfl rfl (by (exact Bk.to (by assumption) (by (repeat (first | exact Sm.refl _ _ | (refine Sm.stepT (by assumption) (by intro hlt hsm; first | exact not_no | (intro he; have he2 : _ = _ := he; omega)) ?_)))))) (by first | assumption | (conv => lhs; simp only [List.getElem?_toArray, List.getElem?_cons_succ, List.getElem?_cons_zero]))) ?_
  refine L_run (.plain rfl) rfl rfl (r_lens Tryd.underlying9 rfl) ?_
  refine L_run (.plain rfl) rfl rfl (r_gtr rfl rfl) ?_
  refine L_run (.plain rfl) rfl rfl (r_move (v := .bool _) rfl) ?_
  refine L_case (d := 12) rfl (fun h12 => ?_) (fun h12 => ?_)
  · omega
  · refine L_run (.yes 4 false rfl rfl) rfl rfl (r_fieldb Tryd.underlying24 rfl (show _ = some 1 from rfl) rfl rfl (show _ = 5 from rfl)) ?_
    refine L_run (.yes 4 false rfl rfl) rfl rfl (r_loadb rfl rfl (by (exact Bk.to (by assumption) (by (repeat (first | exact Sm.refl _ _ | (refine Sm.stepT (by assumption) (by intro hlt hsm; first | exact not_no | (intro he; have he2 : _ = _ := he; omega)) ?_)))))) (by first | assumption | (conv => lhs; simp only [List.getElem?_toArray, List.getElem?_cons_succ, List.getElem?_cons_zero]))) ?_
    refine L_run (.yes 4 false rfl rfl) rfl rfl (r_lens Tryd.underlying9 rfl) ?_
    refine L_run (.yes 4 false rfl rfl) rfl rfl (r_gtr rfl rfl) ?_
    refine L_run (.plain rfl) rfl rfl (r_pick_f (v := .bool _) rfl rfl) ?_
    refine L_nil ?_
    refine W_if rfl (fun h17 => ?_) (fun h17 => ?_)
    · omega
    · refine W_skip ?_
      refine W_seq ?_
      refine W_region ?_
      refine L_run (.plain rfl) rfl rfl (r_loadrow Tryd.underlying24 rfl rfl (by (exact Bk.to (by assumption) (by (repeat (first | exact Sm.refl _ _ | (refine Sm.stepT (by assumption) (by intro hlt hsm; first | exact not_no | (intro he; have he2 : _ = _ := he; omega)) ?_)))))) (by first | rfl | assumption)) ?_
      refine L_call (.plain rfl) rfl rfl (r_call Tryd.func10 rfl rfl rfl (by rfl)) (mput_good m _ hm hc) ?_
      rintro v21 w2 ⟨v2, rfl, ho2, c2⟩
      have hz2 := c2.size
      have hB2 : By w2 v2 (put (putM m)) := by have h := Sl.own ho2; show Sl _ _ 1 (put (putM m)).length _; rw [put_length]; exact h
      refine L_run (.plain rfl) rfl rfl (r_move (by conv => lhs; whnf)) ?_
      refine L_run (.plain rfl) rfl rfl (r_ext2_0 rfl) ?_
      refine L_run (.plain rfl) rfl rfl (r_ext2_1 rfl) ?_
      refine L_run (.plain rfl) rfl rfl (r_assign (by conv => lhs; whnf)) ?_
      refine L_run (.plain rfl) rfl rfl (r_assign (v := .int _ _) rfl) ?_
      refine L_nil ?_
      refine W_seq ?_
      refine W_seq ?_
      refine W_region ?_
      refine L_run (.plain rfl) rfl rfl (r_loadrow Tryd.underlying24 rfl rfl (by (exact Bk.to (by assumption) (by (repeat (first | exact Sm.refl _ _ | (refine Sm.stepT (by assumption) (by intro hlt hsm; first | exact not_no | (intro he; have he2 : _ = _ := he; omega)) ?_)))))) (by first | rfl | assumption)) ?_
      refine L_call (.plain rfl) rfl rfl (r_call Tryd.func11 rfl rfl rfl (by rfl)) (rcheck_walk m _ hm (by omega)) ?_
      rintro v25 w3 ⟨rfl, c3⟩
      have hz3 := c3.size
      rw [hc]
      refine L_run (.plain rfl) rfl rfl (r_assign (v := .int _ _) rfl) ?_
      refine L_nil ?_
      refine W_seq ?_
      refine W_region ?_
      refine L_run (.plain rfl) rfl rfl (r_move (v := .int _ _) rfl) ?_
      refine L_run (.plain rfl) rfl rfl (r_neq rfl rfl) ?_
      refine L_as (v := .bool _) (v' := .bool false) 27 rfl (dec_f (by simp)).symm ?_
      refine L_nil ?_
      refine W_false rfl ?_
      refine W_skip ?_
      refine W_seq ?_
      refine W_region ?_
      refine L_run (.plain rfl) rfl rfl (r_move (by conv => lhs; whnf)) ?_
      refine L_call (.plain rfl) rfl rfl (r_call Tryd.func13 rfl rfl rfl (by rfl)) (getm_all _ (put (putM m)) _ (by (exact Sl.to (by first | assumption | exact Sl.own (by assumption) | exact Mu.sl (by assumption) | exact Ow.sl (by assumption)) (fun i hi => by (repeat (first | exact Sm.refl _ _ | (refine Sm.stepT (by assumption) (by intro hlt hsm; first | exact not_no | (intro he; have he2 : _ = _ := he; omega)) ?_)))))) (by omega) ((hT.nw (by (repeat (first | exact Ch.refl _ | assumption | (refine Ch.fresh ?_ (by assumption) (by intro i hi he; first | exact he | (exfalso; have he2 : i = _ := he; omega)))))) (by omega)).mono (by omega))) ?_
      rintro v47 w4 ⟨rfl, c4⟩
      have hz4 := c4.size
      rw [(getm_put hm hc).1, (getm_put hm hc).2]
      refine L_run (.plain rfl) rfl rfl (r_move (by conv => lhs; whnf)) ?_
      refine L_run (.plain rfl) rfl rfl (r_ext2_0 rfl) ?_
      refine L_run (.plain rfl) rfl rfl (r_ext2_1 rfl) ?_
      refine L_new (.plain rfl) rfl rfl (r_alloca rfl) (fun w5 b6 hb6 eb5 hs5 c5 => ?_)
      refine L_storerow (.plain rfl) rfl rfl (by (exact Bk.to (by assumption) (by (repeat (first | exact Sm.refl _ _ | (refine Sm.stepT (by assumption) (by intro hlt hsm; first | exact not_no | (intro he; have he2 : _ = _ := he; omega)) ?_)))))) (by first | rfl | (simp; done) | assumption) (by first | rfl | assumption) (by first | rfl | (simp [Value.oneCell']; done) | assumption) (fun w6 hb6 hs6 c6 => ?_)
      refine L_run (.plain rfl) rfl rfl (r_assign (v := .int _ _) rfl) ?_
      refine L_nil ?_
      refine W_seq ?_
      refine W_draw (fun W => By W v2 (put (putM m)) ∧ Bk W b1 #[.int .i64 m.kind, .int .u64 m.life, .int .u64 m.seq, .int .u64 m.below, .int .u64 m.object, .string m.method, .int .i64 m.way, .string m.body] 24 ∧ Bk W b6 #[.int .i64 m.kind, .int .u64 m.life, .int .u64 m.seq, .int .u64 m.below, .int .u64 m.object, .string m.method, .int .i64 m.way, .string m.body] 24) 27 (m := 27) (by kernel_rfl) rfl (fun w7 c7 hs7 => ?_)
      refine held (by exact ⟨by (exact Sl.to (by first | assumption | exact Sl.own (by assumption) | exact Mu.sl (by assumption) | exact Ow.sl (by assumption)) (fun i hi => by (repeat (first | exact Sm.refl _ _ | (refine Sm.stepT (by assumption) (by intro hlt hsm; first | exact not_no | (intro he; have he2 : _ = _ := he; omega)) ?_))))), by (exact Bk.to (by assumption) (by (repeat (first | exact Sm.refl _ _ | (refine Sm.stepT (by assumption) (by intro hlt hsm; first | exact not_no | (intro he; have he2 : _ = _ := he; omega)) ?_))))), by (exact Bk.to (by assumption) (by (repeat (first | exact Sm.refl _ _ | (refine Sm.stepT (by assumption) (by intro hlt hsm; first | exact not_no | (intro he; have he2 : _ = _ := he; omega)) ?_)))))⟩) (fun hS => ?_)
      refine D_ev 0 (by kernel_rfl) rfl ?_
      refine L_call (.plain rfl) rfl rfl (r_call Tryd.func9 rfl rfl rfl (by rfl)) (awake_walk _ ((hT.nw (by (repeat (first | exact Ch.refl _ | assumption | (refine Ch.fresh ?_ (by assumption) (by intro i hi he; first | exact he | (exfalso; have he2 : i = _ := he; omega)))))) (by omega)).mono (by omega))) ?_
      rintro v50 w8 ⟨rfl, c8⟩
      have hz8 := c8.size
      refine L_nil ?_
      refine heldK (by exact ⟨by (exact Sl.to (by first | assumption | exact Sl.own (by assumption) | exact Mu.sl (by assumption) | exact Ow.sl (by assumption)) (fun i hi => by (repeat (first | exact Sm.refl _ _ | (refine Sm.stepT (by assumption) (by intro hlt hsm; first | exact not_no | (intro he; have he2 : _ = _ := he; omega)) ?_))))), by (exact Bk.to (by assumption) (by (repeat (first | exact Sm.refl _ _ | (refine Sm.stepT (by assumption) (by intro hlt hsm; first | exact not_no | (intro he; have he2 : _ = _ := he; omega)) ?_))))), by (exact Bk.to (by assumption) (by (repeat (first | exact Sm.refl _ _ | (refine Sm.stepT (by assumption) (by intro hlt hsm; first | exact not_no | (intro he; have he2 : _ = _ := he; omega)) ?_)))))⟩) (fun hS => ?_)
      refine D_take 1 rfl (by kernel_rfl) (by kernel_rfl) (by kernel_rfl) (by kernel_rfl) (.plain rfl) rfl rfl (by assumption) (fun W hW => r_move (v := .bool _) rfl) ?_
      refine D_caseb (d := 51) rfl (fun h51 => ?_) (fun h51 => ?_)
      · refine D_take 2 rfl (by kernel_rfl) (by kernel_rfl) (by kernel_rfl) (by kernel_rfl) (.yes 1 true rfl rfl) rfl rfl (by assumption) (fun W hW => r_move (v := .int _ _) rfl) ?_
        refine D_take 3 rfl (by kernel_rfl) (by kernel_rfl) (by kernel_rfl) (by kernel_rfl) (.yes 1 true rfl rfl) rfl rfl (by assumption) (fun W hW => r_eql rfl rfl) ?_
        refine D_as (v := .bool _) (v' := .bool true) 53 rfl (dec_t (by rfl)).symm ?_
        refine D_take 4 rfl (by kernel_rfl) (by kernel_rfl) (by kernel_rfl) (by kernel_rfl) (.plain rfl) rfl rfl (by assumption) (fun W hW => r_pick_t (v := .bool _) rfl rfl) ?_
        refine D_take 5 rfl (by kernel_rfl) (by kernel_rfl) (by kernel_rfl) (by kernel_rfl) (.plain rfl) rfl rfl (by assumption) (fun W hW => r_move (v := .bool _) rfl) ?_
        refine D_take 6 rfl (by kernel_rfl) (by kernel_rfl) (by kernel_rfl) (by kernel_rfl) (.yes 5 true rfl rfl) rfl rfl (by assumption) (fun W hW => r_move (by conv => lhs; whnf)) ?_
        refine D_take 7 rfl (by kernel_rfl) (by kernel_rfl) (by kernel_rfl) (by kernel_rfl) (.yes 5 true rfl rfl) rfl rfl (by assumption) (fun W hW => r_bstr Tryd.underlying26 Tryd.underlying5 Tryd.underlying9 (by conv => lhs; whnf) (by first | exact hW | exact hW.1 | exact hW.2 | exact hW.2.1 | exact hW.2.2 | exact hW.2.2.1 | exact hW.2.2.2)) ?_
        refine D_take 8 rfl (by kernel_rfl) (by kernel_rfl) (by kernel_rfl) (by kernel_rfl) (.yes 5 true rfl rfl) rfl rfl (by assumption) (fun W hW => r_loadrow Tryd.underlying24 rfl rfl (by first | exact hW | exact hW.1 | exact hW.2 | exact hW.2.1 | exact hW.2.2 | exact hW.2.2.1 | exact hW.2.2.2) (by first | rfl | assumption)) ?_
        refine D_ev 9 (by kernel_rfl) rfl ?_
        refine L_call (.yes 5 true rfl rfl) rfl rfl (r_call Tryd.func14 rfl rfl rfl (by rfl)) (rmput_walk m _ hm hc) ?_
        rintro v59 w9 ⟨rfl, c9⟩
        have hz9 := c9.size
        refine L_nil ?_
        refine heldK (by exact ⟨by (exact Sl.to (by first | assumption | exact Sl.own (by assumption) | exact Mu.sl (by assumption) | exact Ow.sl (by assumption)) (fun i hi => by (repeat (first | exact Sm.refl _ _ | (refine Sm.stepT (by assumption) (by intro hlt hsm; first | exact not_no | (intro he; have he2 : _ = _ := he; omega)) ?_))))), by (exact Bk.to (by assumption) (by (repeat (first | exact Sm.refl _ _ | (refine Sm.stepT (by assumption) (by intro hlt hsm; first | exact not_no | (intro he; have he2 : _ = _ := he; omega)) ?_))))), by (exact Bk.to (by assumption) (by (repeat (first | exact Sm.refl _ _ | (refine Sm.stepT (by assumption) (by intro hlt hsm; first | exact not_no | (intro he; have he2 : _ = _ := he; omega)) ?_)))))⟩) (fun hS => ?_)
        refine D_take 10 rfl (by kernel_rfl) (by kernel_rfl) (by kernel_rfl) (by kernel_rfl) (.yes 5 true rfl rfl) rfl rfl (by assumption) (fun W hW => r_eqls rfl rfl) ?_
        refine D_as (v := .bool _) (v' := .bool true) 60 rfl (dec_t (by rfl)).symm ?_
        refine D_take 11 rfl (by kernel_rfl) (by kernel_rfl) (by kernel_rfl) (by kernel_rfl) (.plain rfl) rfl rfl (by assumption) (fun W hW => r_pick_t (v := .bool _) rfl rfl) ?_
        refine D_take 12 rfl (by kernel_rfl) (by kernel_rfl) (by kernel_rfl) (by kernel_rfl) (.plain rfl) rfl rfl (by assumption) (fun W hW => r_move (v := .bool _) rfl) ?_
        refine D_take 13 rfl (by kernel_rfl) (by kernel_rfl) (by kernel_rfl) (by kernel_rfl) (.yes 12 true rfl rfl) rfl rfl (by assumption) (fun W hW => r_loadrow Tryd.underlying24 rfl rfl (by first | exact hW | exact hW.1 | exact hW.2 | exact hW.2.1 | exact hW.2.2 | exact hW.2.2.1 | exact hW.2.2.2) (by first | rfl | assumption)) ?_
        refine D_take 14 rfl (by kernel_rfl) (by kernel_rfl) (by kernel_rfl) (by kernel_rfl) (.yes 12 true rfl rfl) rfl rfl (by assumption) (fun W hW => r_loadrow Tryd.underlying24 rfl rfl (by first | exact hW | exact hW.1 | exact hW.2 | exact hW.2.1 | exact hW.2.2 | exact hW.2.2.1 | exact hW.2.2.2) (by first | rfl | assumption)) ?_
        refine D_take 15 rfl (by kernel_rfl) (by kernel_rfl) (by kernel_rfl) (by kernel_rfl) (.yes 12 true rfl rfl) rfl rfl (by assumption) (fun W hW => r_eqlR (xs := #[.int _ _, .int _ _, .int _ _, .int _ _, .int _ _, .string _, .int _ _, .string _]) (ys := #[.int _ _, .int _ _, .int _ _, .int _ _, .int _ _, .string _, .int _ _, .string _]) rfl rfl (by kernel_rfl) (eqMsg _ _ _ _ _ _ _ _ _ _ _ _ _ _ _ _ _)) ?_
        refine D_as (v := .bool _) (v' := .bool true) 65 rfl (dec_t (by exact ⟨rfl, rfl, rfl, rfl, rfl, rfl, rfl, rfl⟩)).symm ?_
        refine D_take 16 rfl (by kernel_rfl) (by kernel_rfl) (by kernel_rfl) (by kernel_rfl) (.plain rfl) rfl rfl (by assumption) (fun W hW => r_pick_t (v := .bool _) rfl rfl) ?_
        refine D_take 17 rfl (by kernel_rfl) (by kernel_rfl) (by kernel_rfl) (by kernel_rfl) (.plain rfl) rfl rfl (by assumption) (fun W hW => r_move (v := .bool _) rfl) ?_
        refine D_take 18 rfl (by kernel_rfl) (by kernel_rfl) (by kernel_rfl) (by kernel_rfl) (.yes 17 true rfl rfl) rfl rfl (by assumption) (fun W hW => r_move (v := .int _ _) rfl) ?_
        refine D_take 19 rfl (by kernel_rfl) (by kernel_rfl) (by kernel_rfl) (by kernel_rfl) (.yes 17 true rfl rfl) rfl rfl (by assumption) (fun W hW => r_eql rfl rfl) ?_
        refine D_as (v := .bool _) (v' := .bool true) 69 rfl (dec_t (by rfl)).symm ?_
        refine D_take 20 rfl (by kernel_rfl) (by kernel_rfl) (by kernel_rfl) (by kernel_rfl) (.plain rfl) rfl rfl (by assumption) (fun W hW => r_pick_t (v := .bool _) rfl rfl) ?_
        refine D_take 21 rfl (by kernel_rfl) (by kernel_rfl) (by kernel_rfl) (by kernel_rfl) (.plain rfl) rfl rfl (by assumption) (fun W hW => r_move (v := .bool _) rfl) ?_
        refine D_take 22 rfl (by kernel_rfl) (by kernel_rfl) (by kernel_rfl) (by kernel_rfl) (.yes 21 true rfl rfl) rfl rfl (by assumption) (fun W hW => r_loadrow Tryd.underlying24 rfl rfl (by first | exact hW | exact hW.1 | exact hW.2 | exact hW.2.1 | exact hW.2.2 | exact hW.2.2.1 | exact hW.2.2.2) (by first | rfl | assumption)) ?_
        refine D_ev 23 (by kernel_rfl) rfl ?_
        refine L_call (.yes 21 true rfl rfl) rfl rfl (r_call Tryd.func12 rfl rfl rfl (by rfl)) (check_walk m _) ?_
        rintro v73 w10 ⟨rfl, c10⟩
        have hz10 := c10.size
        rw [hc]
        refine L_nil ?_
        refine heldK (by exact ⟨by (exact Sl.to (by first | assumption | exact Sl.own (by assumption) | exact Mu.sl (by assumption) | exact Ow.sl (by assumption)) (fun i hi => by (repeat (first | exact Sm.refl _ _ | (refine Sm.stepT (by assumption) (by intro hlt hsm; first | exact not_no | (intro he; have he2 : _ = _ := he; omega)) ?_))))), by (exact Bk.to (by assumption) (by (repeat (first | exact Sm.refl _ _ | (refine Sm.stepT (by assumption) (by intro hlt hsm; first | exact not_no | (intro he; have he2 : _ = _ := he; omega)) ?_))))), by (exact Bk.to (by assumption) (by (repeat (first | exact Sm.refl _ _ | (refine Sm.stepT (by assumption) (by intro hlt hsm; first | exact not_no | (intro he; have he2 : _ = _ := he; omega)) ?_)))))⟩) (fun hS => ?_)
        refine D_take 24 rfl (by kernel_rfl) (by kernel_rfl) (by kernel_rfl) (by kernel_rfl) (.yes 21 true rfl rfl) rfl rfl (by assumption) (fun W hW => r_eql rfl rfl) ?_
        refine D_take 25 rfl (by kernel_rfl) (by kernel_rfl) (by kernel_rfl) (by kernel_rfl) (.plain rfl) rfl rfl (by assumption) (fun W hW => r_pick_t (v := .bool _) rfl rfl) ?_
        refine D_take 26 rfl (by kernel_rfl) (by kernel_rfl) (by kernel_rfl) (by kernel_rfl) (.plain rfl) rfl rfl (by assumption) (fun W hW => r_assign (v := .bool _) rfl) ?_
        refine D_done (by kernel_rfl) ?_
        refine W_ret ?_
        refine ret1 (v := .bool _) rfl rfl ?_
        first
        | exact absurd h51 (by decide)
        | exact ⟨congrArg Value.bool (decide_eq_true rfl), by (repeat (first | exact Ch.refl _ | assumption | (refine Ch.fresh ?_ (by assumption) (by intro i hi he; first | exact he | (exfalso; have he2 : i = _ := he; omega)))))⟩
      · refine D_pass 2 rfl (by kernel_rfl) (by kernel_rfl) (by kernel_rfl) (by kernel_rfl) rfl rfl rfl rfl rfl (by assumption) ?_
        refine D_pass 3 rfl (by kernel_rfl) (by kernel_rfl) (by kernel_rfl) (by kernel_rfl) rfl rfl rfl rfl rfl (by assumption) ?_
        refine D_take 4 rfl (by kernel_rfl) (by kernel_rfl) (by kernel_rfl) (by kernel_rfl) (.plain rfl) rfl rfl (by assumption) (fun W hW => r_pick_f (v := .bool _) rfl rfl) ?_
        refine D_take 5 rfl (by kernel_rfl) (by kernel_rfl) (by kernel_rfl) (by kernel_rfl) (.plain rfl) rfl rfl (by assumption) (fun W hW => r_move (v := .bool _) rfl) ?_
        refine D_pass 6 rfl (by kernel_rfl) (by kernel_rfl) (by kernel_rfl) (by kernel_rfl) rfl rfl rfl rfl rfl (by assumption) ?_
        refine D_pass 7 rfl (by kernel_rfl) (by kernel_rfl) (by kernel_rfl) (by kernel_rfl) rfl rfl rfl rfl rfl (by assumption) ?_
        refine D_pass 8 rfl (by kernel_rfl) (by kernel_rfl) (by kernel_rfl) (by kernel_rfl) rfl rfl rfl rfl rfl (by assumption) ?_
        refine D_pass 9 rfl (by kernel_rfl) (by kernel_rfl) (by kernel_rfl) (by kernel_rfl) rfl rfl rfl rfl rfl (by assumption) ?_
        refine D_pass 10 rfl (by kernel_rfl) (by kernel_rfl) (by kernel_rfl) (by kernel_rfl) rfl rfl rfl rfl rfl (by assumption) ?_
        refine D_take 11 rfl (by kernel_rfl) (by kernel_rfl) (by kernel_rfl) (by kernel_rfl) (.plain rfl) rfl rfl (by assumption) (fun W hW => r_pick_f (v := .bool _) rfl rfl) ?_
        refine D_take 12 rfl (by kernel_rfl) (by kernel_rfl) (by kernel_rfl) (by kernel_rfl) (.plain rfl) rfl rfl (by assumption) (fun W hW => r_move (v := .bool _) rfl) ?_
        refine D_pass 13 rfl (by kernel_rfl) (by kernel_rfl) (by kernel_rfl) (by kernel_rfl) rfl rfl rfl rfl rfl (by assumption) ?_
        refine D_pass 14 rfl (by kernel_rfl) (by kernel_rfl) (by kernel_rfl) (by kernel_rfl) rfl rfl rfl rfl rfl (by assumption) ?_
        refine D_pass 15 rfl (by kernel_rfl) (by kernel_rfl) (by kernel_rfl) (by kernel_rfl) rfl rfl rfl rfl rfl (by assumption) ?_
        refine D_take 16 rfl (by kernel_rfl) (by kernel_rfl) (by kernel_rfl) (by kernel_rfl) (.plain rfl) rfl rfl (by assumption) (fun W hW => r_pick_f (v := .bool _) rfl rfl) ?_
        refine D_take 17 rfl (by kernel_rfl) (by kernel_rfl) (by kernel_rfl) (by kernel_rfl) (.plain rfl) rfl rfl (by assumption) (fun W hW => r_move (v := .bool _) rfl) ?_
        refine D_pass 18 rfl (by kernel_rfl) (by kernel_rfl) (by kernel_rfl) (by kernel_rfl) rfl rfl rfl rfl rfl (by assumption) ?_
        refine D_pass 19 rfl (by kernel_rfl) (by kernel_rfl) (by kernel_rfl) (by kernel_rfl) rfl rfl rfl rfl rfl (by assumption) ?_
        refine D_take 20 rfl (by kernel_rfl) (by kernel_rfl) (by kernel_rfl) (by kernel_rfl) (.plain rfl) rfl rfl (by assumption) (fun W hW => r_pick_f (v := .bool _) rfl rfl) ?_
        refine D_take 21 rfl (by kernel_rfl) (by kernel_rfl) (by kernel_rfl) (by kernel_rfl) (.plain rfl) rfl rfl (by assumption) (fun W hW => r_move (v := .bool _) rfl) ?_
        refine D_pass 22 rfl (by kernel_rfl) (by kernel_rfl) (by kernel_rfl) (by kernel_rfl) rfl rfl rfl rfl rfl (by assumption) ?_
        refine D_pass 23 rfl (by kernel_rfl) (by kernel_rfl) (by kernel_rfl) (by kernel_rfl) rfl rfl rfl rfl rfl (by assumption) ?_
        refine D_pass 24 rfl (by kernel_rfl) (by kernel_rfl) (by kernel_rfl) (by kernel_rfl) rfl rfl rfl rfl rfl (by assumption) ?_
        refine D_take 25 rfl (by kernel_rfl) (by kernel_rfl) (by kernel_rfl) (by kernel_rfl) (.plain rfl) rfl rfl (by assumption) (fun W hW => r_pick_f (v := .bool _) rfl rfl) ?_
        refine D_take 26 rfl (by kernel_rfl) (by kernel_rfl) (by kernel_rfl) (by kernel_rfl) (.plain rfl) rfl rfl (by assumption) (fun W hW => r_assign (v := .bool _) rfl) ?_
        refine D_done (by kernel_rfl) ?_
        refine W_ret ?_
        refine ret1 (v := .bool _) rfl rfl ?_
        first
        | exact absurd h51 (by decide)
        | exact ⟨congrArg Value.bool (decide_eq_true rfl), by (repeat (first | exact Ch.refl _ | assumption | (refine Ch.fresh ?_ (by assumption) (by intro i hi he; first | exact he | (exfalso; have he2 : i = _ := he; omega)))))⟩
theorem MessagePuts_walk (m : Msg) (w0 : World) (hm : m.ok) (hT : Tabs w0.heap.size w0) : Does Tryd.prog 3 #[m.v] w0 (fun r w' => r = .bool true ∧ Nw w0 w') := by
  by_cases hb : 9000 < m.body.size ∨ 100 < m.method.size
  · exact MessagePuts_big m w0 hm hT hb
  · by_cases hc : checkC m = 0
    · exact MessagePuts_good m w0 hm hT (by omega) (by omega) hc
    · exact MessagePuts_bad m w0 hm hT (by omega) (by omega) hc
end Go.Proofs.YtcbcelfgbelaoaaDoor

