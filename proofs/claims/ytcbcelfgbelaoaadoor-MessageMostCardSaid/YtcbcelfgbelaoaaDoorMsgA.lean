/- The chapter's example, walked. -/
import Derived.Test.YtcbcelfgbelaoaaDoorRef14b
namespace Go.Proofs.YtcbcelfgbelaoaaDoor
open Go Go.RowKit
set_option linter.unusedVariables false
set_option linter.unusedSimpArgs false
theorem getm_put {m : Msg} (hok : m.ok) (hc : checkC m = 0) : mgetM (put (putM m)) = m ∧ mgetE (put (putM m)) = 0 := by
  have hl := putM_le hok hc
  obtain ⟨h1, h2⟩ := getL_put (putM m) (by omega)
  obtain ⟨h3, h4⟩ := get_put hok hc
  unfold mgetM mgetE
  rw [h1, h2, if_pos ⟨rfl, h3⟩, if_pos ⟨rfl, h3⟩]
  exact ⟨h4, rfl⟩
def M0 : Msg := ⟨0, 1, 2, 2, 3, { data := #[103, 111] }, 0, { data := #[120] }⟩
theorem M0_ok : M0.ok := ⟨by decide, by decide, by decide, by decide⟩
theorem M0_check : checkC M0 = 0 := by decide +kernel
theorem M0_put : putM M0 = [0, 1, 2, 2, 3, 2, 103, 111, 1, 120] := by
  show varL 0 ++ (varL 1 ++ (varL 2 ++ ((varL 2 ++ (varL 3 ++ (varL 2 ++ [103, 111]))) ++ (varL 1 ++ [120])))) = _
  rw [varL_low (v := 0) (by decide), varL_low (v := 1) (by decide), varL_low (v := 2) (by decide), varL_low (v := 3) (by decide)]; rfl
set_option maxHeartbeats 1000000 in
set_option maxRecDepth 100000 in
theorem awake_walk  (w0 : World) (hT : Tabs w0.heap.size w0) : Does Tryd.prog 9 #[] w0 (fun r w' => r = .bool true ∧ Nw w0 w') := by
  have hlen : (put (putM M0)).length = 14 := by rw [put_length, M0_put]; rfl
  have ht10 : ((put (putM M0)).take 10).length = 10 := by rw [List.length_take, hlen]; rfl
  have htk : (put (putM M0)).take 10 = [0, 1, 2, 2, 3, 2, 103, 111, 1, 120] := by
    show (putM M0 ++ _).take 10 = _
    rw [M0_put]; rfl
  refine fn_of (n := 45) (args := []) Tryd.func9 rfl rfl rfl ?_
  refine W_seq ?_
  refine W_region ?_
  refine L_run (.plain rfl) rfl rfl (r_assign (v := .bool _) rfl) ?_
  refine L_nil ?_
  refine W_seq ?_
  refine W_region ?_
  refine L_run (.plain rfl) rfl rfl (r_build1 (pl := [(0, 1), (1, 1), (2, 1), (3, 1), (4, 1), (5, 1), (6, 1), (7, 1)]) (vs := [(1, .int _ _), (2, .int _ _), (3, .int _ _), (4, .int _ _), (5, .string _), (7, .string _)]) (cells := [_, _, _, _, _, _, _, _]) Tryd.underlying24 rfl rfl (by rfl) rfl (by rfl)) ?_
  refine L_new (.plain rfl) rfl rfl (r_alloca rfl) (fun w1 b1 hb1 eb1 hs1 c1 => ?_)
  refine L_storerow (.plain rfl) rfl rfl (by (exact Bk.to (by assumption) (by (repeat (first | exact Sm.refl _ _ | (refine Sm.stepT (by assumption) (by intro hlt hsm; first | exact not_no | (intro he; have he2 : _ = _ := he; omega)) ?_)))))) (by first | rfl | (simp; done) | assumption) (by first | rfl | assumption) (by first | rfl | (simp [Value.oneCell']; done) | assumption) (fun w2 hb2 hs2 c2 => ?_)
  refine L_nil ?_
  refine W_seq ?_
  refine W_region ?_
  refine L_run (.plain rfl) rfl rfl (r_loadrow Tryd.underlying24 rfl rfl (by (exact Bk.to (by assumption) (by (repeat (first | exact Sm.refl _ _ | (refine Sm.stepT (by assumption) (by intro hlt hsm; first | exact not_no | (intro he; have he2 : _ = _ := he; omega)) ?_)))))) (by first | rfl | assumption)) ?_
  refine L_call (.plain rfl) rfl rfl (r_call Tryd.func10 rfl rfl rfl (by rfl)) (mput_good M0 _ M0_ok M0_check) ?_
  rintro v9 w3 ⟨v2, rfl, ho3, c3⟩
  have hz3 := c3.size
  have hB2 : By w3 v2 (put (putM M0)) := by have h := Sl.own ho3; show Sl _ _ 1 (put (putM M0)).length _; rw [put_length]; exact h
  refine L_run (.plain rfl) rfl rfl (r_move (by conv => lhs; whnf)) ?_
  refine L_run (.plain rfl) rfl rfl (r_ext2_0 rfl) ?_
  refine L_run (.plain rfl) rfl rfl (r_ext2_1 rfl) ?_
  refine L_run (.plain rfl) rfl rfl (r_assign (by conv => lhs; whnf)) ?_
  refine L_run (.plain rfl) rfl rfl (r_assign (v := .int _ _) rfl) ?_
  refine L_nil ?_
  refine W_seq ?_
  refine W_region ?_
  refine L_run (.plain rfl) rfl rfl (r_move (by conv => lhs; whnf)) ?_
  refine L_call (.plain rfl) rfl rfl (r_call Tryd.func13 rfl rfl rfl (by rfl)) (getm_all _ (put (putM M0)) _ (by (exact Sl.to (by first | assumption | exact Sl.own (by assumption) | exact Mu.sl (by assumption) | exact Ow.sl (by assumption)) (fun i hi => by (repeat (first | exact Sm.refl _ _ | (refine Sm.stepT (by assumption) (by intro hlt hsm; first | exact not_no | (intro he; have he2 : _ = _ := he; omega)) ?_)))))) (by rw [put_length, M0_put]; decide) ((hT.nw (by (repeat (first | exact Ch.refl _ | assumption | (refine Ch.fresh ?_ (by assumption) (by intro i hi he; first | exact he | (exfalso; have he2 : i = _ := he; omega)))))) (by omega)).mono (by omega))) ?_
  rintro v14 w4 ⟨rfl, c4⟩
  have hz4 := c4.size
  rw [(getm_put M0_ok M0_check).1, (getm_put M0_ok M0_check).2]
  refine L_run (.plain rfl) rfl rfl (r_move (by conv => lhs; whnf)) ?_
  refine L_run (.plain rfl) rfl rfl (r_ext2_0 rfl) ?_
  refine L_run (.plain rfl) rfl rfl (r_ext2_1 rfl) ?_
  refine L_new (.plain rfl) rfl rfl (r_alloca rfl) (fun w5 b4 hb4 eb5 hs5 c5 => ?_)
  refine L_storerow (.plain rfl) rfl rfl (by (exact Bk.to (by assumption) (by (repeat (first | exact Sm.refl _ _ | (refine Sm.stepT (by assumption) (by intro hlt hsm; first | exact not_no | (intro he; have he2 : _ = _ := he; omega)) ?_)))))) (by first | rfl | (simp; done) | assumption) (by first | rfl | assumption) (by first | rfl | (simp [Value.oneCell']; done) | assumption) (fun w6 hb6 hs6 c6 => ?_)
  refine L_run (.plain rfl) rfl rfl (r_assign (v := .int _ _) rfl) ?_
  refine L_nil ?_
  refine W_seq ?_
  refine W_draw (fun W => By W v2 (put (putM M0)) ∧ Bk W b1 #[.int .i64 0, .int .u64 1, .int .u64 2, .int .u64 2, .int .u64 3, .string { data := #[103, 111] }, .int .i64 0, .string { data := #[120] }] 24 ∧ Bk W b4 #[.int .i64 0, .int .u64 1, .int .u64 2, .int .u64 2, .int .u64 3, .string { data := #[103, 111] }, .int .i64 0, .string { data := #[120] }] 24) 29 (m := 29) (by kernel_rfl) rfl (fun w7 c7 hs7 => ?_)
  refine held (by exact ⟨by (exact Sl.to (by first | assumption | exact Sl.own (by assumption) | exact Mu.sl (by assumption) | exact Ow.sl (by assumption)) (fun i hi => by (repeat (first | exact Sm.refl _ _ | (refine Sm.stepT (by assumption) (by intro hlt hsm; first | exact not_no | (intro he; have he2 : _ = _ := he; omega)) ?_))))), by (exact Bk.to (by assumption) (by (repeat (first | exact Sm.refl _ _ | (refine Sm.stepT (by assumption) (by intro hlt hsm; first | exact not_no | (intro he; have he2 : _ = _ := he; omega)) ?_))))), by (exact Bk.to (by assumption) (by (repeat (first | exact Sm.refl _ _ | (refine Sm.stepT (by assumption) (by intro hlt hsm; first | exact not_no | (intro he; have he2 : _ = _ := he; omega)) ?_)))))⟩) (fun hS => ?_)
  refine D_take 0 rfl (by kernel_rfl) (by kernel_rfl) (by kernel_rfl) (by kernel_rfl) (.plain rfl) rfl rfl (by assumption) (fun W hW => r_move (by conv => lhs; whnf)) ?_
  refine D_take 1 rfl (by kernel_rfl) (by kernel_rfl) (by kernel_rfl) (by kernel_rfl) (.plain rfl) rfl rfl (by assumption) (fun W hW => r_lenSl Tryd.underlying26 (by conv => lhs; whnf) (by first | exact hW | exact hW.1 | exact hW.2 | exact hW.2.1 | exact hW.2.2 | exact hW.2.2.1 | exact hW.2.2.2)) ?_
  refine D_take 2 rfl (by kernel_rfl) (by kernel_rfl) (by kernel_rfl) (by kernel_rfl) (.plain rfl) rfl rfl (by assumption) (fun W hW => r_eql rfl rfl) ?_
  refine D_as (v := .bool _) (v' := .bool true) 19 rfl (dec_t (by exact congrArg Int.ofNat hlen)).symm ?_
  refine D_take 3 rfl (by kernel_rfl) (by kernel_rfl) (by kernel_rfl) (by kernel_rfl) (.plain rfl) rfl rfl (by assumption) (fun W hW => r_move (v := .bool _) rfl) ?_
  refine D_take 4 rfl (by kernel_rfl) (by kernel_rfl) (by kernel_rfl) (by kernel_rfl) (.yes 3 true rfl rfl) rfl rfl (by assumption) (fun W hW => r_move (by conv => lhs; whnf)) ?_
  refine D_pure 5 rfl (by kernel_rfl) (by kernel_rfl) (by kernel_rfl) (by kernel_rfl) (.yes 3 true rfl rfl) rfl rfl (by assumption) (cut_h (w := w7) Tryd.underlying26 (show _ = some 1 from rfl) (by conv => lhs; whnf) (by (exact Sl.to (by first | assumption | exact Sl.own (by assumption) | exact Mu.sl (by assumption) | exact Ow.sl (by assumption)) (fun i hi => by (repeat (first | exact Sm.refl _ _ | (refine Sm.stepT (by assumption) (by intro hlt hsm; first | exact not_no | (intro he; have he2 : _ = _ := he; omega)) ?_)))))) rfl (by omega) (by omega)) ?_
  rintro v22 ⟨hv22, ho22⟩
  refine D_more (S' := fun W => (fun W => By W v2 (put (putM M0)) ∧ Bk W b1 #[.int .i64 0, .int .u64 1, .int .u64 2, .int .u64 2, .int .u64 3, .string { data := #[103, 111] }, .int .i64 0, .string { data := #[120] }] 24 ∧ Bk W b4 #[.int .i64 0, .int .u64 1, .int .u64 2, .int .u64 2, .int .u64 3, .string { data := #[103, 111] }, .int .i64 0, .string { data := #[120] }] 24) W ∧ (fun W => By W v22 ((put (putM M0)).take 10)) W) (fun W h => h.1) ⟨by assumption, by (show Sl _ v22 1 ((put (putM M0)).take 10).length (((put (putM M0)).take 10).map b8); rw [ht10, List.map_take]; (exact Sl.to (by first | assumption | exact Sl.own (by assumption) | exact Mu.sl (by assumption) | exact Ow.sl (by assumption)) (fun i hi => by (repeat (first | exact Sm.refl _ _ | (refine Sm.stepT (by assumption) (by intro hlt hsm; first | exact not_no | (intro he; have he2 : _ = _ := he; omega)) ?_))))))⟩ (fun hS => ?_)
  refine D_take 6 rfl (by kernel_rfl) (by kernel_rfl) (by kernel_rfl) (by kernel_rfl) (.yes 3 true rfl rfl) rfl rfl (by assumption) (fun W hW => r_bstr Tryd.underlying26 Tryd.underlying5 Tryd.underlying9 (by conv => lhs; whnf) (by first | exact hW.2 | (have hW := hW.1; first | exact hW | exact hW.1 | exact hW.2 | exact hW.2.1 | exact hW.2.2 | exact hW.2.2.1 | exact hW.2.2.2))) ?_
  refine D_take 7 rfl (by kernel_rfl) (by kernel_rfl) (by kernel_rfl) (by kernel_rfl) (.yes 3 true rfl rfl) rfl rfl (by assumption) (fun W hW => r_eqls rfl rfl) ?_
  refine D_as (v := .bool _) (v' := .bool true) 24 rfl (dec_t (by exact congrArg sb htk)).symm ?_
  refine D_take 8 rfl (by kernel_rfl) (by kernel_rfl) (by kernel_rfl) (by kernel_rfl) (.plain rfl) rfl rfl (by assumption) (fun W hW => r_pick_t (v := .bool _) rfl rfl) ?_
  refine D_take 9 rfl (by kernel_rfl) (by kernel_rfl) (by kernel_rfl) (by kernel_rfl) (.plain rfl) rfl rfl (by assumption) (fun W hW => r_move (v := .bool _) rfl) ?_
  refine D_take 10 rfl (by kernel_rfl) (by kernel_rfl) (by kernel_rfl) (by kernel_rfl) (.yes 9 true rfl rfl) rfl rfl (by assumption) (fun W hW => r_move (v := .int _ _) rfl) ?_
  refine D_take 11 rfl (by kernel_rfl) (by kernel_rfl) (by kernel_rfl) (by kernel_rfl) (.yes 9 true rfl rfl) rfl rfl (by assumption) (fun W hW => r_eql rfl rfl) ?_
  refine D_as (v := .bool _) (v' := .bool true) 28 rfl (dec_t (by rfl)).symm ?_
  refine D_take 12 rfl (by kernel_rfl) (by kernel_rfl) (by kernel_rfl) (by kernel_rfl) (.plain rfl) rfl rfl (by assumption) (fun W hW => r_pick_t (v := .bool _) rfl rfl) ?_
  refine D_take 13 rfl (by kernel_rfl) (by kernel_rfl) (by kernel_rfl) (by kernel_rfl) (.plain rfl) rfl rfl (by assumption) (fun W hW => r_move (v := .bool _) rfl) ?_
  refine D_take 14 rfl (by kernel_rfl) (by kernel_rfl) (by kernel_rfl) (by kernel_rfl) (.yes 13 true rfl rfl) rfl rfl (by assumption) (fun W hW => r_loadrow Tryd.underlying24 rfl rfl (by first | exact hW.2 | (have hW := hW.1; first | exact hW | exact hW.1 | exact hW.2 | exact hW.2.1 | exact hW.2.2 | exact hW.2.2.1 | exact hW.2.2.2)) (by first | rfl | assumption)) ?_
  refine D_take 15 rfl (by kernel_rfl) (by kernel_rfl) (by kernel_rfl) (by kernel_rfl) (.yes 13 true rfl rfl) rfl rfl (by assumption) (fun W hW => r_loadrow Tryd.underlying24 rfl rfl (by first | exact hW.2 | (have hW := hW.1; first | exact hW | exact hW.1 | exact hW.2 | exact hW.2.1 | exact hW.2.2 | exact hW.2.2.1 | exact hW.2.2.2)) (by first | rfl | assumption)) ?_
  refine D_take 16 rfl (by kernel_rfl) (by kernel_rfl) (by kernel_rfl) (by kernel_rfl) (.yes 13 true rfl rfl) rfl rfl (by assumption) (fun W hW => r_eqlR (xs := #[.int _ _, .int _ _, .int _ _, .int _ _, .int _ _, .string _, .int _ _, .string _]) (ys := #[.int _ _, .int _ _, .int _ _, .int _ _, .int _ _, .string _, .int _ _, .string _]) rfl rfl (by kernel_rfl) (eqMsg _ _ _ _ _ _ _ _ _ _ _ _ _ _ _ _ _)) ?_
  refine D_as (v := .bool _) (v' := .bool true) 33 rfl (dec_t (by exact ⟨rfl, rfl, rfl, rfl, rfl, rfl, rfl, rfl⟩)).symm ?_
  refine D_take 17 rfl (by kernel_rfl) (by kernel_rfl) (by kernel_rfl) (by kernel_rfl) (.plain rfl) rfl rfl (by assumption) (fun W hW => r_pick_t (v := .bool _) rfl rfl) ?_
  refine D_take 18 rfl (by kernel_rfl) (by kernel_rfl) (by kernel_rfl) (by kernel_rfl) (.plain rfl) rfl rfl (by assumption) (fun W hW => r_move (v := .bool _) rfl) ?_
  refine D_take 19 rfl (by kernel_rfl) (by kernel_rfl) (by kernel_rfl) (by kernel_rfl) (.yes 18 true rfl rfl) rfl rfl (by assumption) (fun W hW => r_move (v := .int _ _) rfl) ?_
  refine D_take 20 rfl (by kernel_rfl) (by kernel_rfl) (by kernel_rfl) (by kernel_rfl) (.yes 18 true rfl rfl) rfl rfl (by assumption) (fun W hW => r_eql rfl rfl) ?_
  refine D_as (v := .bool _) (v' := .bool true) 37 rfl (dec_t (by rfl)).symm ?_
  refine D_take 21 rfl (by kernel_rfl) (by kernel_rfl) (by kernel_rfl) (by kernel_rfl) (.plain rfl) rfl rfl (by assumption) (fun W hW => r_pick_t (v := .bool _) rfl rfl) ?_
  refine D_take 22 rfl (by kernel_rfl) (by kernel_rfl) (by kernel_rfl) (by kernel_rfl) (.plain rfl) rfl rfl (by assumption) (fun W hW => r_move (v := .bool _) rfl) ?_
  refine D_take 23 rfl (by kernel_rfl) (by kernel_rfl) (by kernel_rfl) (by kernel_rfl) (.yes 22 true rfl rfl) rfl rfl (by assumption) (fun W hW => r_loadrow Tryd.underlying24 rfl rfl (by first | exact hW.2 | (have hW := hW.1; first | exact hW | exact hW.1 | exact hW.2 | exact hW.2.1 | exact hW.2.2 | exact hW.2.2.1 | exact hW.2.2.2)) (by first | rfl | assumption)) ?_
  refine D_take 25 rfl (by kernel_rfl) (by kernel_rfl) (by kernel_rfl) (by kernel_rfl) (.yes 22 true rfl rfl) rfl rfl (by assumption) (fun W hW => r_loadrow Tryd.underlying24 rfl rfl (by first | exact hW.2 | (have hW := hW.1; first | exact hW | exact hW.1 | exact hW.2 | exact hW.2.1 | exact hW.2.2 | exact hW.2.2.1 | exact hW.2.2.2)) (by first | rfl | assumption)) ?_
  refine D_ev 24 (by kernel_rfl) rfl ?_
  refine L_call (.yes 22 true rfl rfl) rfl rfl (r_call Tryd.func16 rfl rfl rfl (by rfl)) (reply_walk M0 1 { data := #[121] } _) ?_
  rintro v41 w8 ⟨rfl, c8⟩
  have hz8 := c8.size
  refine L_nil ?_
  refine heldK (by exact ⟨by exact ⟨by (exact Sl.to (by first | assumption | exact Sl.own (by assumption) | exact Mu.sl (by assumption) | exact Ow.sl (by assumption)) (fun i hi => by (repeat (first | exact Sm.refl _ _ | (refine Sm.stepT (by assumption) (by intro hlt hsm; first | exact not_no | (intro he; have he2 : _ = _ := he; omega)) ?_))))), by (exact Bk.to (by assumption) (by (repeat (first | exact Sm.refl _ _ | (refine Sm.stepT (by assumption) (by intro hlt hsm; first | exact not_no | (intro he; have he2 : _ = _ := he; omega)) ?_))))), by (exact Bk.to (by assumption) (by (repeat (first | exact Sm.refl _ _ | (refine Sm.stepT (by assumption) (by intro hlt hsm; first | exact not_no | (intro he; have he2 : _ = _ := he; omega)) ?_)))))⟩, by (show Sl _ v22 1 ((put (putM M0)).take 10).length (((put (putM M0)).take 10).map b8); rw [ht10, List.map_take]; (exact Sl.to (by first | assumption | exact Sl.own (by assumption) | exact Mu.sl (by assumption) | exact Ow.sl (by assumption)) (fun i hi => by (repeat (first | exact Sm.refl _ _ | (refine Sm.stepT (by assumption) (by intro hlt hsm; first | exact not_no | (intro he; have he2 : _ = _ := he; omega)) ?_))))))⟩) (fun hS => ?_)
  refine D_ev 26 (by kernel_rfl) rfl ?_
  refine L_call (.yes 22 true rfl rfl) rfl rfl (r_call Tryd.func17 rfl rfl rfl (by rfl)) (answers_walk ⟨1, 1, 2, 0, 0, { data := #[] }, 1, { data := #[121] }⟩ M0 _) ?_
  rintro v43 w9 ⟨rfl, c9⟩
  have hz9 := c9.size
  refine L_nil ?_
  refine heldK (by exact ⟨by exact ⟨by (exact Sl.to (by first | assumption | exact Sl.own (by assumption) | exact Mu.sl (by assumption) | exact Ow.sl (by assumption)) (fun i hi => by (repeat (first | exact Sm.refl _ _ | (refine Sm.stepT (by assumption) (by intro hlt hsm; first | exact not_no | (intro he; have he2 : _ = _ := he; omega)) ?_))))), by (exact Bk.to (by assumption) (by (repeat (first | exact Sm.refl _ _ | (refine Sm.stepT (by assumption) (by intro hlt hsm; first | exact not_no | (intro he; have he2 : _ = _ := he; omega)) ?_))))), by (exact Bk.to (by assumption) (by (repeat (first | exact Sm.refl _ _ | (refine Sm.stepT (by assumption) (by intro hlt hsm; first | exact not_no | (intro he; have he2 : _ = _ := he; omega)) ?_)))))⟩, by (show Sl _ v22 1 ((put (putM M0)).take 10).length (((put (putM M0)).take 10).map b8); rw [ht10, List.map_take]; (exact Sl.to (by first | assumption | exact Sl.own (by assumption) | exact Mu.sl (by assumption) | exact Ow.sl (by assumption)) (fun i hi => by (repeat (first | exact Sm.refl _ _ | (refine Sm.stepT (by assumption) (by intro hlt hsm; first | exact not_no | (intro he; have he2 : _ = _ := he; omega)) ?_))))))⟩) (fun hS => ?_)
  refine D_take 27 rfl (by kernel_rfl) (by kernel_rfl) (by kernel_rfl) (by kernel_rfl) (.plain rfl) rfl rfl (by assumption) (fun W hW => r_pick_t (v := .bool _) rfl rfl) ?_
  refine D_take 28 rfl (by kernel_rfl) (by kernel_rfl) (by kernel_rfl) (by kernel_rfl) (.plain rfl) rfl rfl (by assumption) (fun W hW => r_assign (v := .bool _) rfl) ?_
  refine D_done (by kernel_rfl) ?_
  refine W_ret ?_
  refine ret1 (v := .bool _) rfl rfl ?_
  exact ⟨congrArg Value.bool (decide_eq_true (by decide)), by (repeat (first | exact Ch.refl _ | assumption | (refine Ch.fresh ?_ (by assumption) (by intro i hi he; first | exact he | (exfalso; have he2 : i = _ := he; omega)))))⟩
end Go.Proofs.YtcbcelfgbelaoaaDoor

