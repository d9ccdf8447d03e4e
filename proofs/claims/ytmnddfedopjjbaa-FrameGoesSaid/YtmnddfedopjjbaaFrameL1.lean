/- The first statements of layer 2, walked: their answer is true, and only new memory is written. -/
import Derived.Test.YtmnddfedopjjbaaFrameP
namespace Go.Proofs.Ytmnddfedopjjbaa
open Go Go.RowKit
set_option linter.unusedVariables false
set_option linter.unusedSimpArgs false
theorem turn_turn (l : List UInt8) (a : Int) (b : List UInt8) : turn (turn l a b) a b = l := by
  apply List.ext_getElem?
  intro i
  have hlen := turn_length l a b
  by_cases h : i < l.length
  · have h1 := turnK_get l.length l a b i h
    have h2 : (turn l a b)[i]'(by rw [hlen]; exact h) = if i < l.length ∧ a ≤ i ∧ i - a < b.length then l[i] ^^^ b.getD (i - a).toNat 0 else l[i] := by
      apply Option.some.inj
      rw [← List.getElem?_eq_getElem]
      exact h1
    unfold turn
    rw [turnK_get _ _ _ _ _ (by rw [turnK_length]; exact h)]
    simp only [turnK_length]
    have h3 : (turnK l.length l a b)[i]'(by rw [turnK_length]; exact h) = if i < l.length ∧ a ≤ i ∧ i - a < b.length then l[i] ^^^ b.getD (i - a).toNat 0 else l[i] := h2
    rw [h3, List.getElem?_eq_getElem h]
    by_cases hc : i < l.length ∧ a ≤ i ∧ i - a < b.length
    · rw [if_pos hc, if_pos hc, UInt8.xor_assoc, UInt8.xor_self, UInt8.xor_zero]
    · rw [if_neg hc, if_neg hc]
  · rw [List.getElem?_eq_none (by rw [turn_length, turn_length]; omega), List.getElem?_eq_none (by omega)]

theorem FrameSums_walk (a0 a1 : ByteArray) (w0 : World) (y0 : a0.size ≤ 140737488351232) (y1 : a1.size ≤ 140737488351232) : Does Try.prog 3 #[.string a0, .string a1] w0 (fun r w' => r = .bool true ∧ Nw w0 w') := by
  refine fn_of (n := 36) (args := [.string a0, .string a1]) Try.func3 rfl rfl rfl ?_
  refine W_seq ?_
  refine W_region ?_
  refine L_run (.plain rfl) rfl rfl (r_assign (v := .bool _) rfl) ?_
  refine L_nil ?_
  refine W_seq ?_
  refine W_seq ?_
  refine W_region ?_
  refine L_run (.plain rfl) rfl rfl (r_move (v := .string _) rfl) ?_
  refine L_run (.plain rfl) rfl rfl (r_lens Try.underlying9 rfl) ?_
  refine L_run (.plain rfl) rfl rfl (r_gtr rfl rfl) ?_
  refine L_run (.plain rfl) rfl rfl (r_move (v := .bool _) rfl) ?_
  refine L_case (d := 9) rfl (fun h9 => ?_) (fun h9 => ?_)
  · refine L_pass rfl rfl rfl rfl rfl ?_
    refine L_pass rfl rfl rfl rfl rfl ?_
    refine L_pass rfl rfl rfl rfl rfl ?_
    refine L_run (.plain rfl) rfl rfl (r_pick_t (v := .bool _) rfl rfl) ?_
    refine L_nil ?_
    refine W_true rfl ?_
    refine W_seq ?_
    refine W_region ?_
    refine L_call (.plain rfl) rfl rfl (r_call Try.func10 rfl rfl rfl (by rfl)) (awake_walk _) ?_
    rintro v14 w1 ⟨rfl, c1⟩
    have hz1 := c1.size
    refine L_run (.plain rfl) rfl rfl (r_assign (v := .bool _) rfl) ?_
    refine L_nil ?_
    refine W_ret ?_
    refine ret1 (v := .bool _) rfl rfl ?_
    first
      | exact ⟨rfl, by (repeat (first | exact Ch.refl _ | assumption | (refine Ch.fresh ?_ (by assumption) (by intro i hi he; first | exact he | (exfalso; have he2 : _ = some i := he; have := own_base (by assumption) he2; omega) | (exfalso; have he2 : i = _ := he; omega)))))⟩
      | exact ⟨(dec_t (by rw [more_more, sum_eq, bs_append])).symm, by (repeat (first | exact Ch.refl _ | assumption | (refine Ch.fresh ?_ (by assumption) (by intro i hi he; first | exact he | (exfalso; have he2 : _ = some i := he; have := own_base (by assumption) he2; omega) | (exfalso; have he2 : i = _ := he; omega)))))⟩
  · refine L_run (.yes 3 false rfl rfl) rfl rfl (r_move (v := .string _) rfl) ?_
    refine L_run (.yes 3 false rfl rfl) rfl rfl (r_lens Try.underlying9 rfl) ?_
    refine L_run (.yes 3 false rfl rfl) rfl rfl (r_gtr rfl rfl) ?_
    refine L_run (.plain rfl) rfl rfl (r_pick_f (v := .bool _) rfl rfl) ?_
    refine L_nil ?_
    refine W_if rfl (fun h13 => ?_) (fun h13 => ?_)
    · refine W_seq ?_
      refine W_region ?_
      refine L_call (.plain rfl) rfl rfl (r_call Try.func10 rfl rfl rfl (by rfl)) (awake_walk _) ?_
      rintro v14 w2 ⟨rfl, c2⟩
      have hz2 := c2.size
      refine L_run (.plain rfl) rfl rfl (r_assign (v := .bool _) rfl) ?_
      refine L_nil ?_
      refine W_ret ?_
      refine ret1 (v := .bool _) rfl rfl ?_
      first
        | exact ⟨rfl, by (repeat (first | exact Ch.refl _ | assumption | (refine Ch.fresh ?_ (by assumption) (by intro i hi he; first | exact he | (exfalso; have he2 : _ = some i := he; have := own_base (by assumption) he2; omega) | (exfalso; have he2 : i = _ := he; omega)))))⟩
        | exact ⟨(dec_t (by rw [more_more, sum_eq, bs_append])).symm, by (repeat (first | exact Ch.refl _ | assumption | (refine Ch.fresh ?_ (by assumption) (by intro i hi he; first | exact he | (exfalso; have he2 : _ = some i := he; have := own_base (by assumption) he2; omega) | (exfalso; have he2 : i = _ := he; omega)))))⟩
    · refine W_skip ?_
      refine W_seq ?_
      refine W_region ?_
      refine L_run (.plain rfl) rfl rfl (r_move (v := .string _) rfl) ?_
      refine L_sbytes Try.underlying9 Try.underlying25 Try.underlying5 (by first | omega | (simp only [sb_size, ByteArray.size_append]; omega)) (.plain rfl) rfl rfl (fun v16 w3 hv16 c3 eb3 hs3 => ?_)
      refine L_call (.plain rfl) rfl rfl (r_call Try.func11 rfl rfl rfl (by rfl)) (sum_walk _ (bs a0) _ (by (exact Sl.to (by first | assumption | exact Sl.own (by assumption) | exact Mu.sl (by assumption)) (fun i hi => by (repeat (first | exact Sm.refl _ _ | (refine Sm.step (by assumption) (by intro hlt; first | exact not_no | (intro he; have he2 : _ = some _ := he; have := own_base (by assumption) he2; omega) | (intro he; have he2 : _ = _ := he; omega)) ?_)))))) (by rw [bs_length]; omega)) ?_
      rintro v17 w4 ⟨rfl, c4⟩
      have hz4 := c4.size
      refine L_run (.plain rfl) rfl rfl (r_assign (v := .int _ _) rfl) ?_
      refine L_nil ?_
      refine W_seq ?_
      refine W_region ?_
      refine L_call (.plain rfl) rfl rfl (r_call Try.func10 rfl rfl rfl (by rfl)) (awake_walk _) ?_
      rintro v18 w5 ⟨rfl, c5⟩
      have hz5 := c5.size
      refine L_run (.plain rfl) rfl rfl (r_move (v := .bool _) rfl) ?_
      refine L_as (v := .bool _) (v' := .bool true) 19 rfl (congrArg Value.bool (by rfl)) ?_
      refine L_run (.yes 1 true rfl rfl) rfl rfl (r_move (v := .int _ _) rfl) ?_
      refine L_run (.yes 1 true rfl rfl) rfl rfl (r_move (v := .string _) rfl) ?_
      refine L_call (.yes 1 true rfl rfl) rfl rfl (r_call Try.func12 rfl rfl rfl (by rfl)) (rsum_walk a0 _ (by omega)) ?_
      rintro v22 w6 ⟨rfl, rfl⟩
      refine L_run (.yes 1 true rfl rfl) rfl rfl (r_eql rfl rfl) ?_
      refine L_run (.plain rfl) rfl rfl (r_pick_t (v := .bool _) rfl rfl) ?_
      refine L_run (.plain rfl) rfl rfl (r_move (v := .bool _) rfl) ?_
      refine L_as (v := .bool _) (v' := .bool true) 25 rfl (dec_t (by exact sum_eq _)).symm ?_
      refine L_run (.yes 7 true rfl rfl) rfl rfl (r_move (v := .int _ _) rfl) ?_
      refine L_run (.yes 7 true rfl rfl) rfl rfl (r_move (v := .string _) rfl) ?_
      refine L_sbytes Try.underlying9 Try.underlying25 Try.underlying5 (by first | omega | (simp only [sb_size, ByteArray.size_append]; omega)) (.yes 7 true rfl rfl) rfl rfl (fun v28 w7 hv28 c7 eb7 hs7 => ?_)
      refine L_call (.yes 7 true rfl rfl) rfl rfl (r_call Try.func13 rfl rfl rfl (by rfl)) (more_walk _ _ (bs a1) _ (by (exact Sl.to (by first | assumption | exact Sl.own (by assumption) | exact Mu.sl (by assumption)) (fun i hi => by (repeat (first | exact Sm.refl _ _ | (refine Sm.step (by assumption) (by intro hlt; first | exact not_no | (intro he; have he2 : _ = some _ := he; have := own_base (by assumption) he2; omega) | (intro he; have he2 : _ = _ := he; omega)) ?_)))))) (by rw [bs_length]; omega)) ?_
      rintro v29 w8 ⟨rfl, c8⟩
      have hz8 := c8.size
      refine L_run (.yes 7 true rfl rfl) rfl rfl (r_move (v := .string _) rfl) ?_
      refine L_run (.yes 7 true rfl rfl) rfl rfl (r_move (v := .string _) rfl) ?_
      refine L_run (.yes 7 true rfl rfl) rfl rfl (r_adds rfl rfl (by first | omega | (simp only [ByteArray.size_append]; omega))) ?_
      refine L_call (.yes 7 true rfl rfl) rfl rfl (r_call Try.func12 rfl rfl rfl (by rfl)) (rsum_walk (a0 ++ a1) _ (by simp only [ByteArray.size_append]; omega)) ?_
      rintro v33 w9 ⟨rfl, rfl⟩
      refine L_run (.yes 7 true rfl rfl) rfl rfl (r_eql rfl rfl) ?_
      refine L_run (.plain rfl) rfl rfl (r_pick_t (v := .bool _) rfl rfl) ?_
      refine L_run (.plain rfl) rfl rfl (r_assign (v := .bool _) rfl) ?_
      refine L_nil ?_
      refine W_ret ?_
      refine ret1 (v := .bool _) rfl rfl ?_
      first
        | exact ⟨rfl, by (repeat (first | exact Ch.refl _ | assumption | (refine Ch.fresh ?_ (by assumption) (by intro i hi he; first | exact he | (exfalso; have he2 : _ = some i := he; have := own_base (by assumption) he2; omega) | (exfalso; have he2 : i = _ := he; omega)))))⟩
        | exact ⟨(dec_t (by rw [more_more, sum_eq, bs_append])).symm, by (repeat (first | exact Ch.refl _ | assumption | (refine Ch.fresh ?_ (by assumption) (by intro i hi he; first | exact he | (exfalso; have he2 : _ = some i := he; have := own_base (by assumption) he2; omega) | (exfalso; have he2 : i = _ := he; omega)))))⟩
theorem FrameTurns_walk (a0 : ByteArray) (a1 : Int) (a2 : ByteArray) (w0 : World) (y0 : a0.size ≤ 140737488351232) (y1 : -9223372036854775808 ≤ a1 ∧ a1 ≤ 9223372036854775807) (y2 : a2.size ≤ 140737488351232) : Does Try.prog 4 #[.string a0, .int .i64 a1, .string a2] w0 (fun r w' => r = .bool true ∧ Nw w0 w') := by
  refine fn_of (n := 51) (args := [.string a0, .int .i64 a1, .string a2]) Try.func4 rfl rfl rfl ?_
  refine W_seq ?_
  refine W_region ?_
  refine L_run (.plain rfl) rfl rfl (r_assign (v := .bool _) rfl) ?_
  refine L_nil ?_
  refine W_seq ?_
  refine W_seq ?_
  refine W_region ?_
  refine L_run (.plain rfl) rfl rfl (r_move (v := .string _) rfl) ?_
  refine L_run (.plain rfl) rfl rfl (r_lens Try.underlying9 rfl) ?_
  refine L_run (.plain rfl) rfl rfl (r_gtr rfl rfl) ?_
  refine L_run (.plain rfl) rfl rfl (r_move (v := .bool _) rfl) ?_
  refine L_case (d := 11) rfl (fun h11 => ?_) (fun h11 => ?_)
  · refine L_pass rfl rfl rfl rfl rfl ?_
    refine L_pass rfl rfl rfl rfl rfl ?_
    refine L_pass rfl rfl rfl rfl rfl ?_
    refine L_run (.plain rfl) rfl rfl (r_pick_t (v := .bool _) rfl rfl) ?_
    refine L_run (.plain rfl) rfl rfl (r_move (v := .bool _) rfl) ?_
    refine L_pass rfl rfl rfl rfl rfl ?_
    refine L_pass rfl rfl rfl rfl rfl ?_
    refine L_run (.plain rfl) rfl rfl (r_pick_t (v := .bool _) rfl rfl) ?_
    refine L_run (.plain rfl) rfl rfl (r_move (v := .bool _) rfl) ?_
    refine L_pass rfl rfl rfl rfl rfl ?_
    refine L_pass rfl rfl rfl rfl rfl ?_
    refine L_run (.plain rfl) rfl rfl (r_pick_t (v := .bool _) rfl rfl) ?_
    refine L_nil ?_
    refine W_true rfl ?_
    refine W_seq ?_
    refine W_region ?_
    refine L_call (.plain rfl) rfl rfl (r_call Try.func10 rfl rfl rfl (by rfl)) (awake_walk _) ?_
    rintro v24 w1 ⟨rfl, c1⟩
    have hz1 := c1.size
    refine L_run (.plain rfl) rfl rfl (r_assign (v := .bool _) rfl) ?_
    refine L_nil ?_
    refine W_ret ?_
    refine ret1 (v := .bool _) rfl rfl ?_
    first
      | exact ⟨rfl, by (repeat (first | exact Ch.refl _ | assumption | (refine Ch.fresh ?_ (by assumption) (by intro i hi he; first | exact he | (exfalso; have he2 : _ = some i := he; have := own_base (by assumption) he2; omega) | (exfalso; have he2 : i = _ := he; omega)))))⟩
      | exact ⟨(dec_t (by rw [turn_turn, sb_bs])).symm, by (repeat (first | exact Ch.refl _ | assumption | (refine Ch.fresh ?_ (by assumption) (by intro i hi he; first | exact he | (exfalso; have he2 : _ = some i := he; have := own_base (by assumption) he2; omega) | (exfalso; have he2 : i = _ := he; omega)))))⟩
  · refine L_run (.yes 3 false rfl rfl) rfl rfl (r_move (v := .string _) rfl) ?_
    refine L_run (.yes 3 false rfl rfl) rfl rfl (r_lens Try.underlying9 rfl) ?_
    refine L_run (.yes 3 false rfl rfl) rfl rfl (r_gtr rfl rfl) ?_
    refine L_run (.plain rfl) rfl rfl (r_pick_f (v := .bool _) rfl rfl) ?_
    refine L_run (.plain rfl) rfl rfl (r_move (v := .bool _) rfl) ?_
    refine L_case (d := 16) rfl (fun h16 => ?_) (fun h16 => ?_)
    · refine L_pass rfl rfl rfl rfl rfl ?_
      refine L_pass rfl rfl rfl rfl rfl ?_
      refine L_run (.plain rfl) rfl rfl (r_pick_t (v := .bool _) rfl rfl) ?_
      refine L_run (.plain rfl) rfl rfl (r_move (v := .bool _) rfl) ?_
      refine L_pass rfl rfl rfl rfl rfl ?_
      refine L_pass rfl rfl rfl rfl rfl ?_
      refine L_run (.plain rfl) rfl rfl (r_pick_t (v := .bool _) rfl rfl) ?_
      refine L_nil ?_
      refine W_true rfl ?_
      refine W_seq ?_
      refine W_region ?_
      refine L_call (.plain rfl) rfl rfl (r_call Try.func10 rfl rfl rfl (by rfl)) (awake_walk _) ?_
      rintro v24 w2 ⟨rfl, c2⟩
      have hz2 := c2.size
      refine L_run (.plain rfl) rfl rfl (r_assign (v := .bool _) rfl) ?_
      refine L_nil ?_
      refine W_ret ?_
      refine ret1 (v := .bool _) rfl rfl ?_
      first
        | exact ⟨rfl, by (repeat (first | exact Ch.refl _ | assumption | (refine Ch.fresh ?_ (by assumption) (by intro i hi he; first | exact he | (exfalso; have he2 : _ = some i := he; have := own_base (by assumption) he2; omega) | (exfalso; have he2 : i = _ := he; omega)))))⟩
        | exact ⟨(dec_t (by rw [turn_turn, sb_bs])).symm, by (repeat (first | exact Ch.refl _ | assumption | (refine Ch.fresh ?_ (by assumption) (by intro i hi he; first | exact he | (exfalso; have he2 : _ = some i := he; have := own_base (by assumption) he2; omega) | (exfalso; have he2 : i = _ := he; omega)))))⟩
    · refine L_run (.yes 8 false rfl rfl) rfl rfl (r_move (v := .int _ _) rfl) ?_
      refine L_run (.yes 8 false rfl rfl) rfl rfl (r_lss rfl rfl) ?_
      refine L_run (.plain rfl) rfl rfl (r_pick_f (v := .bool _) rfl rfl) ?_
      refine L_run (.plain rfl) rfl rfl (r_move (v := .bool _) rfl) ?_
      refine L_case (d := 20) rfl (fun h20 => ?_) (fun h20 => ?_)
      · refine L_pass rfl rfl rfl rfl rfl ?_
        refine L_pass rfl rfl rfl rfl rfl ?_
        refine L_run (.plain rfl) rfl rfl (r_pick_t (v := .bool _) rfl rfl) ?_
        refine L_nil ?_
        refine W_true rfl ?_
        refine W_seq ?_
        refine W_region ?_
        refine L_call (.plain rfl) rfl rfl (r_call Try.func10 rfl rfl rfl (by rfl)) (awake_walk _) ?_
        rintro v24 w3 ⟨rfl, c3⟩
        have hz3 := c3.size
        refine L_run (.plain rfl) rfl rfl (r_assign (v := .bool _) rfl) ?_
        refine L_nil ?_
        refine W_ret ?_
        refine ret1 (v := .bool _) rfl rfl ?_
        first
          | exact ⟨rfl, by (repeat (first | exact Ch.refl _ | assumption | (refine Ch.fresh ?_ (by assumption) (by intro i hi he; first | exact he | (exfalso; have he2 : _ = some i := he; have := own_base (by assumption) he2; omega) | (exfalso; have he2 : i = _ := he; omega)))))⟩
          | exact ⟨(dec_t (by rw [turn_turn, sb_bs])).symm, by (repeat (first | exact Ch.refl _ | assumption | (refine Ch.fresh ?_ (by assumption) (by intro i hi he; first | exact he | (exfalso; have he2 : _ = some i := he; have := own_base (by assumption) he2; omega) | (exfalso; have he2 : i = _ := he; omega)))))⟩
      · refine L_run (.yes 12 false rfl rfl) rfl rfl (r_move (v := .int _ _) rfl) ?_
        refine L_run (.yes 12 false rfl rfl) rfl rfl (r_gtr rfl rfl) ?_
        refine L_run (.plain rfl) rfl rfl (r_pick_f (v := .bool _) rfl rfl) ?_
        refine L_nil ?_
        refine W_if rfl (fun h23 => ?_) (fun h23 => ?_)
        · refine W_seq ?_
          refine W_region ?_
          refine L_call (.plain rfl) rfl rfl (r_call Try.func10 rfl rfl rfl (by rfl)) (awake_walk _) ?_
          rintro v24 w4 ⟨rfl, c4⟩
          have hz4 := c4.size
          refine L_run (.plain rfl) rfl rfl (r_assign (v := .bool _) rfl) ?_
          refine L_nil ?_
          refine W_ret ?_
          refine ret1 (v := .bool _) rfl rfl ?_
          first
            | exact ⟨rfl, by (repeat (first | exact Ch.refl _ | assumption | (refine Ch.fresh ?_ (by assumption) (by intro i hi he; first | exact he | (exfalso; have he2 : _ = some i := he; have := own_base (by assumption) he2; omega) | (exfalso; have he2 : i = _ := he; omega)))))⟩
            | exact ⟨(dec_t (by rw [turn_turn, sb_bs])).symm, by (repeat (first | exact Ch.refl _ | assumption | (refine Ch.fresh ?_ (by assumption) (by intro i hi he; first | exact he | (exfalso; have he2 : _ = some i := he; have := own_base (by assumption) he2; omega) | (exfalso; have he2 : i = _ := he; omega)))))⟩
        · refine W_skip ?_
          refine W_seq ?_
          refine W_region ?_
          refine L_run (.plain rfl) rfl rfl (r_move (v := .string _) rfl) ?_
          refine L_sbytes Try.underlying9 Try.underlying25 Try.underlying5 (by first | omega | (simp only [sb_size, ByteArray.size_append]; omega)) (.plain rfl) rfl rfl (fun v26 w5 hv26 c5 eb5 hs5 => ?_)
          refine L_run (.plain rfl) rfl rfl (r_move (v := .int _ _) rfl) ?_
          refine L_run (.plain rfl) rfl rfl (r_move (v := .string _) rfl) ?_
          refine L_sbytes Try.underlying9 Try.underlying25 Try.underlying5 (by first | omega | (simp only [sb_size, ByteArray.size_append]; omega)) (.plain rfl) rfl rfl (fun v29 w6 hv29 c6 eb6 hs6 => ?_)
          refine L_call (.plain rfl) rfl rfl (r_call Try.func14 rfl rfl rfl (by rfl)) (turn_walk _ _ (bs a0) (bs a2) a1 _ (by (exact Sl.to (by first | assumption | exact Sl.own (by assumption) | exact Mu.sl (by assumption)) (fun i hi => by (repeat (first | exact Sm.refl _ _ | (refine Sm.step (by assumption) (by intro hlt; first | exact not_no | (intro he; have he2 : _ = some _ := he; have := own_base (by assumption) he2; omega) | (intro he; have he2 : _ = _ := he; omega)) ?_)))))) (by (exact Sl.to (by first | assumption | exact Sl.own (by assumption) | exact Mu.sl (by assumption)) (fun i hi => by (repeat (first | exact Sm.refl _ _ | (refine Sm.step (by assumption) (by intro hlt; first | exact not_no | (intro he; have he2 : _ = some _ := he; have := own_base (by assumption) he2; omega) | (intro he; have he2 : _ = _ := he; omega)) ?_)))))) (by rw [bs_length]; omega) (by rw [bs_length]; omega) (by omega)) ?_
          rintro v30 w7 ⟨ho7, c7⟩
          have hz7 := c7.size
          have hb1 := turn_by ho7
          refine L_run (.plain rfl) rfl rfl (r_assign (by conv => lhs; whnf)) ?_
          refine L_nil ?_
          refine W_seq ?_
          refine W_draw (fun W => By W v30 (turn (bs a0) a1 (bs a2))) (m := 21) (by kernel_rfl) rfl (fun w8 c8 hs8 => ?_)
          refine held (by (exact Sl.to (by first | assumption | exact Sl.own (by assumption) | exact Mu.sl (by assumption)) (fun i hi => by (repeat (first | exact Sm.refl _ _ | (refine Sm.step (by assumption) (by intro hlt; first | exact not_no | (intro he; have he2 : _ = some _ := he; have := own_base (by assumption) he2; omega) | (intro he; have he2 : _ = _ := he; omega)) ?_)))))) (fun hS => ?_)
          refine D_one (i := 0) (by kernel_rfl) ?_
          refine St_call rfl (.plain rfl) rfl rfl (r_call Try.func10 rfl rfl rfl (by rfl)) (awake_walk _) ?_
          rintro v31 w9 ⟨rfl, c9⟩
          have hz9 := c9.size
          refine held (by (exact Sl.to (by first | assumption | exact Sl.own (by assumption) | exact Mu.sl (by assumption)) (fun i hi => by (repeat (first | exact Sm.refl _ _ | (refine Sm.step (by assumption) (by intro hlt; first | exact not_no | (intro he; have he2 : _ = some _ := he; have := own_base (by assumption) he2; omega) | (intro he; have he2 : _ = _ := he; omega)) ?_)))))) (fun hS => ?_)
          refine D_take 1 rfl (by kernel_rfl) (by kernel_rfl) (by kernel_rfl) (.plain rfl) rfl rfl (by assumption) (fun W hW => r_move (v := .bool _) rfl) ?_
          refine D_as (v := .bool _) (v' := .bool true) 32 rfl (congrArg Value.bool (by rfl)) ?_
          refine D_take 2 rfl (by kernel_rfl) (by kernel_rfl) (by kernel_rfl) (.yes 1 true rfl rfl) rfl rfl (by assumption) (fun W hW => r_move (by conv => lhs; whnf)) ?_
          refine D_take 3 rfl (by kernel_rfl) (by kernel_rfl) (by kernel_rfl) (.yes 1 true rfl rfl) rfl rfl (by assumption) (fun W hW => r_bstr Try.underlying25 Try.underlying5 Try.underlying9 (by conv => lhs; whnf) (by first | exact hW | exact hW.1 | exact hW.2 | exact hW.2.1 | exact hW.2.2 | exact hW.2.2.1 | exact hW.2.2.2)) ?_
          refine D_take 4 rfl (by kernel_rfl) (by kernel_rfl) (by kernel_rfl) (.yes 1 true rfl rfl) rfl rfl (by assumption) (fun W hW => r_move (v := .string _) rfl) ?_
          refine D_take 5 rfl (by kernel_rfl) (by kernel_rfl) (by kernel_rfl) (.yes 1 true rfl rfl) rfl rfl (by assumption) (fun W hW => r_move (v := .int _ _) rfl) ?_
          refine D_take 6 rfl (by kernel_rfl) (by kernel_rfl) (by kernel_rfl) (.yes 1 true rfl rfl) rfl rfl (by assumption) (fun W hW => r_move (v := .string _) rfl) ?_
          refine D_one (i := 7) (by kernel_rfl) ?_
          refine St_call rfl (.yes 1 true rfl rfl) rfl rfl (r_call Try.func15 rfl rfl rfl (by rfl)) (rturn_walk a0 a2 a1 _ (by omega) (by omega) (by omega)) ?_
          rintro v38 w10 ⟨rfl, c10⟩
          have hz10 := c10.size
          refine held (by (exact Sl.to (by first | assumption | exact Sl.own (by assumption) | exact Mu.sl (by assumption)) (fun i hi => by (repeat (first | exact Sm.refl _ _ | (refine Sm.step (by assumption) (by intro hlt; first | exact not_no | (intro he; have he2 : _ = some _ := he; have := own_base (by assumption) he2; omega) | (intro he; have he2 : _ = _ := he; omega)) ?_)))))) (fun hS => ?_)
          refine D_take 8 rfl (by kernel_rfl) (by kernel_rfl) (by kernel_rfl) (.yes 1 true rfl rfl) rfl rfl (by assumption) (fun W hW => r_eqls rfl rfl) ?_
          refine D_take 9 rfl (by kernel_rfl) (by kernel_rfl) (by kernel_rfl) (.plain rfl) rfl rfl (by assumption) (fun W hW => r_pick_t (v := .bool _) rfl rfl) ?_
          refine D_take 10 rfl (by kernel_rfl) (by kernel_rfl) (by kernel_rfl) (.plain rfl) rfl rfl (by assumption) (fun W hW => r_move (v := .bool _) rfl) ?_
          refine D_as (v := .bool _) (v' := .bool true) 41 rfl (dec_t (by rfl)).symm ?_
          refine D_take 11 rfl (by kernel_rfl) (by kernel_rfl) (by kernel_rfl) (.yes 10 true rfl rfl) rfl rfl (by assumption) (fun W hW => r_move (by conv => lhs; whnf)) ?_
          refine D_take 12 rfl (by kernel_rfl) (by kernel_rfl) (by kernel_rfl) (.yes 10 true rfl rfl) rfl rfl (by assumption) (fun W hW => r_move (v := .int _ _) rfl) ?_
          refine D_take 13 rfl (by kernel_rfl) (by kernel_rfl) (by kernel_rfl) (.yes 10 true rfl rfl) rfl rfl (by assumption) (fun W hW => r_move (v := .string _) rfl) ?_
          refine D_take 17 rfl (by kernel_rfl) (by kernel_rfl) (by kernel_rfl) (.yes 10 true rfl rfl) rfl rfl (by assumption) (fun W hW => r_move (v := .string _) rfl) ?_
          refine D_one (i := 14) (by kernel_rfl) ?_
          refine St_sbytes Try.underlying9 Try.underlying25 Try.underlying5 (by first | omega | (simp only [sb_size, ByteArray.size_append]; omega)) rfl (.yes 10 true rfl rfl) rfl rfl (fun v45 w11 hv45 c11 eb11 hs11 => ?_)
          refine held (by (exact Sl.to (by first | assumption | exact Sl.own (by assumption) | exact Mu.sl (by assumption)) (fun i hi => by (repeat (first | exact Sm.refl _ _ | (refine Sm.step (by assumption) (by intro hlt; first | exact not_no | (intro he; have he2 : _ = some _ := he; have := own_base (by assumption) he2; omega) | (intro he; have he2 : _ = _ := he; omega)) ?_)))))) (fun hS => ?_)
          refine D_one (i := 15) (by kernel_rfl) ?_
          refine St_call rfl (.yes 10 true rfl rfl) rfl rfl (r_call Try.func14 rfl rfl rfl (by rfl)) (turn_walk _ _ (turn (bs a0) a1 (bs a2)) (bs a2) a1 _ (by (exact Sl.to (by first | assumption | exact Sl.own (by assumption) | exact Mu.sl (by assumption)) (fun i hi => by (repeat (first | exact Sm.refl _ _ | (refine Sm.step (by assumption) (by intro hlt; first | exact not_no | (intro he; have he2 : _ = some _ := he; have := own_base (by assumption) he2; omega) | (intro he; have he2 : _ = _ := he; omega)) ?_)))))) (by (exact Sl.to (by first | assumption | exact Sl.own (by assumption) | exact Mu.sl (by assumption)) (fun i hi => by (repeat (first | exact Sm.refl _ _ | (refine Sm.step (by assumption) (by intro hlt; first | exact not_no | (intro he; have he2 : _ = some _ := he; have := own_base (by assumption) he2; omega) | (intro he; have he2 : _ = _ := he; omega)) ?_)))))) (by rw [turn_length, bs_length]; omega) (by rw [bs_length]; omega) (by omega)) ?_
          rintro v46 w12 ⟨ho12, c12⟩
          have hz12 := c12.size
          rw [turn_length] at ho12
          have hb2 : By _ _ (turn (turn (bs a0) a1 (bs a2)) a1 (bs a2)) := turn_by (l := turn (bs a0) a1 (bs a2)) (by rw [turn_length]; exact ho12)
          refine held (by (exact Sl.to (by first | assumption | exact Sl.own (by assumption) | exact Mu.sl (by assumption)) (fun i hi => by (repeat (first | exact Sm.refl _ _ | (refine Sm.step (by assumption) (by intro hlt; first | exact not_no | (intro he; have he2 : _ = some _ := he; have := own_base (by assumption) he2; omega) | (intro he; have he2 : _ = _ := he; omega)) ?_)))))) (fun hS => ?_)
          refine D_one (i := 16) (by kernel_rfl) ?_
          refine St_run rfl (.yes 10 true rfl rfl) rfl rfl (r_bstr Try.underlying25 Try.underlying5 Try.underlying9 (by conv => lhs; whnf) (by (exact Sl.to (by first | assumption | exact Sl.own (by assumption) | exact Mu.sl (by assumption)) (fun i hi => by (repeat (first | exact Sm.refl _ _ | (refine Sm.step (by assumption) (by intro hlt; first | exact not_no | (intro he; have he2 : _ = some _ := he; have := own_base (by assumption) he2; omega) | (intro he; have he2 : _ = _ := he; omega)) ?_))))))) (by (exact Sl.to (by first | assumption | exact Sl.own (by assumption) | exact Mu.sl (by assumption)) (fun i hi => by (repeat (first | exact Sm.refl _ _ | (refine Sm.step (by assumption) (by intro hlt; first | exact not_no | (intro he; have he2 : _ = some _ := he; have := own_base (by assumption) he2; omega) | (intro he; have he2 : _ = _ := he; omega)) ?_)))))) ?_
          refine D_take 18 rfl (by kernel_rfl) (by kernel_rfl) (by kernel_rfl) (.yes 10 true rfl rfl) rfl rfl (by assumption) (fun W hW => r_eqls rfl rfl) ?_
          refine D_take 19 rfl (by kernel_rfl) (by kernel_rfl) (by kernel_rfl) (.plain rfl) rfl rfl (by assumption) (fun W hW => r_pick_t (v := .bool _) rfl rfl) ?_
          refine D_take 20 rfl (by kernel_rfl) (by kernel_rfl) (by kernel_rfl) (.plain rfl) rfl rfl (by assumption) (fun W hW => r_assign (v := .bool _) rfl) ?_
          refine D_done (by kernel_rfl) ?_
          refine W_ret ?_
          refine ret1 (v := .bool _) rfl rfl ?_
          first
            | exact ⟨rfl, by (repeat (first | exact Ch.refl _ | assumption | (refine Ch.fresh ?_ (by assumption) (by intro i hi he; first | exact he | (exfalso; have he2 : _ = some i := he; have := own_base (by assumption) he2; omega) | (exfalso; have he2 : i = _ := he; omega)))))⟩
            | exact ⟨(dec_t (by rw [turn_turn, sb_bs])).symm, by (repeat (first | exact Ch.refl _ | assumption | (refine Ch.fresh ?_ (by assumption) (by intro i hi he; first | exact he | (exfalso; have he2 : _ = some i := he; have := own_base (by assumption) he2; omega) | (exfalso; have he2 : i = _ := he; omega)))))⟩
theorem FrameGoes_walk (a0 a1 a2 : ByteArray) (w0 : World) (y0 : a0.size ≤ 140737488351232) (y1 : a1.size ≤ 140737488351232) (y2 : a2.size ≤ 140737488351232) : Does Try.prog 6 #[.string a0, .string a1, .string a2] w0 (fun r w' => r = .bool true ∧ Nw w0 w') := by
  refine fn_of (n := 49) (args := [.string a0, .string a1, .string a2]) Try.func6 rfl rfl rfl ?_
  refine W_seq ?_
  refine W_region ?_
  refine L_run (.plain rfl) rfl rfl (r_assign (v := .bool _) rfl) ?_
  refine L_nil ?_
  refine W_seq ?_
  refine W_seq ?_
  refine W_region ?_
  refine L_run (.plain rfl) rfl rfl (r_move (v := .string _) rfl) ?_
  refine L_run (.plain rfl) rfl rfl (r_lens Try.underlying9 rfl) ?_
  refine L_run (.plain rfl) rfl rfl (r_gtr rfl rfl) ?_
  refine L_run (.plain rfl) rfl rfl (r_move (v := .bool _) rfl) ?_
  refine L_case (d := 11) rfl (fun h11 => ?_) (fun h11 => ?_)
  · refine L_pass rfl rfl rfl rfl rfl ?_
    refine L_pass rfl rfl rfl rfl rfl ?_
    refine L_pass rfl rfl rfl rfl rfl ?_
    refine L_run (.plain rfl) rfl rfl (r_pick_t (v := .bool _) rfl rfl) ?_
    refine L_run (.plain rfl) rfl rfl (r_move (v := .bool _) rfl) ?_
    refine L_pass rfl rfl rfl rfl rfl ?_
    refine L_pass rfl rfl rfl rfl rfl ?_
    refine L_pass rfl rfl rfl rfl rfl ?_
    refine L_run (.plain rfl) rfl rfl (r_pick_t (v := .bool _) rfl rfl) ?_
    refine L_nil ?_
    refine W_true rfl ?_
    refine W_seq ?_
    refine W_region ?_
    refine L_call (.plain rfl) rfl rfl (r_call Try.func10 rfl rfl rfl (by rfl)) (awake_walk _) ?_
    rintro v21 w1 ⟨rfl, c1⟩
    have hz1 := c1.size
    refine L_run (.plain rfl) rfl rfl (r_assign (v := .bool _) rfl) ?_
    refine L_nil ?_
    refine W_ret ?_
    refine ret1 (v := .bool _) rfl rfl ?_
    first
      | exact ⟨rfl, by (repeat (first | exact Ch.refl _ | assumption | (refine Ch.fresh ?_ (by assumption) (by intro i hi he; first | exact he | (exfalso; have he2 : _ = some i := he; have := own_base (by assumption) he2; omega) | (exfalso; have he2 : i = _ := he; omega)))))⟩
      | exact ⟨(dec_t (by rw [more_more, more_more, more_more, List.append_nil])).symm, by (repeat (first | exact Ch.refl _ | assumption | (refine Ch.fresh ?_ (by assumption) (by intro i hi he; first | exact he | (exfalso; have he2 : _ = some i := he; have := own_base (by assumption) he2; omega) | (exfalso; have he2 : i = _ := he; omega)))))⟩
  · refine L_run (.yes 3 false rfl rfl) rfl rfl (r_move (v := .string _) rfl) ?_
    refine L_run (.yes 3 false rfl rfl) rfl rfl (r_lens Try.underlying9 rfl) ?_
    refine L_run (.yes 3 false rfl rfl) rfl rfl (r_gtr rfl rfl) ?_
    refine L_run (.plain rfl) rfl rfl (r_pick_f (v := .bool _) rfl rfl) ?_
    refine L_run (.plain rfl) rfl rfl (r_move (v := .bool _) rfl) ?_
    refine L_case (d := 16) rfl (fun h16 => ?_) (fun h16 => ?_)
    · refine L_pass rfl rfl rfl rfl rfl ?_
      refine L_pass rfl rfl rfl rfl rfl ?_
      refine L_pass rfl rfl rfl rfl rfl ?_
      refine L_run (.plain rfl) rfl rfl (r_pick_t (v := .bool _) rfl rfl) ?_
      refine L_nil ?_
      refine W_true rfl ?_
      refine W_seq ?_
      refine W_region ?_
      refine L_call (.plain rfl) rfl rfl (r_call Try.func10 rfl rfl rfl (by rfl)) (awake_walk _) ?_
      rintro v21 w2 ⟨rfl, c2⟩
      have hz2 := c2.size
      refine L_run (.plain rfl) rfl rfl (r_assign (v := .bool _) rfl) ?_
      refine L_nil ?_
      refine W_ret ?_
      refine ret1 (v := .bool _) rfl rfl ?_
      first
        | exact ⟨rfl, by (repeat (first | exact Ch.refl _ | assumption | (refine Ch.fresh ?_ (by assumption) (by intro i hi he; first | exact he | (exfalso; have he2 : _ = some i := he; have := own_base (by assumption) he2; omega) | (exfalso; have he2 : i = _ := he; omega)))))⟩
        | exact ⟨(dec_t (by rw [more_more, more_more, more_more, List.append_nil])).symm, by (repeat (first | exact Ch.refl _ | assumption | (refine Ch.fresh ?_ (by assumption) (by intro i hi he; first | exact he | (exfalso; have he2 : _ = some i := he; have := own_base (by assumption) he2; omega) | (exfalso; have he2 : i = _ := he; omega)))))⟩
    · refine L_run (.yes 8 false rfl rfl) rfl rfl (r_move (v := .string _) rfl) ?_
      refine L_run (.yes 8 false rfl rfl) rfl rfl (r_lens Try.underlying9 rfl) ?_
      refine L_run (.yes 8 false rfl rfl) rfl rfl (r_gtr rfl rfl) ?_
      refine L_run (.plain rfl) rfl rfl (r_pick_f (v := .bool _) rfl rfl) ?_
      refine L_nil ?_
      refine W_if rfl (fun h20 => ?_) (fun h20 => ?_)
      · refine W_seq ?_
        refine W_region ?_
        refine L_call (.plain rfl) rfl rfl (r_call Try.func10 rfl rfl rfl (by rfl)) (awake_walk _) ?_
        rintro v21 w3 ⟨rfl, c3⟩
        have hz3 := c3.size
        refine L_run (.plain rfl) rfl rfl (r_assign (v := .bool _) rfl) ?_
        refine L_nil ?_
        refine W_ret ?_
        refine ret1 (v := .bool _) rfl rfl ?_
        first
          | exact ⟨rfl, by (repeat (first | exact Ch.refl _ | assumption | (refine Ch.fresh ?_ (by assumption) (by intro i hi he; first | exact he | (exfalso; have he2 : _ = some i := he; have := own_base (by assumption) he2; omega) | (exfalso; have he2 : i = _ := he; omega)))))⟩
          | exact ⟨(dec_t (by rw [more_more, more_more, more_more, List.append_nil])).symm, by (repeat (first | exact Ch.refl _ | assumption | (refine Ch.fresh ?_ (by assumption) (by intro i hi he; first | exact he | (exfalso; have he2 : _ = some i := he; have := own_base (by assumption) he2; omega) | (exfalso; have he2 : i = _ := he; omega)))))⟩
      · refine W_skip ?_
        refine W_seq ?_
        refine W_region ?_
        refine L_run (.plain rfl) rfl rfl (r_move (v := .string _) rfl) ?_
        refine L_sbytes Try.underlying9 Try.underlying25 Try.underlying5 (by first | omega | (simp only [sb_size, ByteArray.size_append]; omega)) (.plain rfl) rfl rfl (fun v23 w4 hv23 c4 eb4 hs4 => ?_)
        refine L_call (.plain rfl) rfl rfl (r_call Try.func11 rfl rfl rfl (by rfl)) (sum_walk _ (bs a0) _ (by (exact Sl.to (by first | assumption | exact Sl.own (by assumption) | exact Mu.sl (by assumption)) (fun i hi => by (repeat (first | exact Sm.refl _ _ | (refine Sm.step (by assumption) (by intro hlt; first | exact not_no | (intro he; have he2 : _ = some _ := he; have := own_base (by assumption) he2; omega) | (intro he; have he2 : _ = _ := he; omega)) ?_)))))) (by rw [bs_length]; omega)) ?_
        rintro v24 w5 ⟨rfl, c5⟩
        have hz5 := c5.size
        refine L_run (.plain rfl) rfl rfl (r_move (v := .string _) rfl) ?_
        refine L_sbytes Try.underlying9 Try.underlying25 Try.underlying5 (by first | omega | (simp only [sb_size, ByteArray.size_append]; omega)) (.plain rfl) rfl rfl (fun v26 w6 hv26 c6 eb6 hs6 => ?_)
        refine L_call (.plain rfl) rfl rfl (r_call Try.func13 rfl rfl rfl (by rfl)) (more_walk _ _ (bs a1) _ (by (exact Sl.to (by first | assumption | exact Sl.own (by assumption) | exact Mu.sl (by assumption)) (fun i hi => by (repeat (first | exact Sm.refl _ _ | (refine Sm.step (by assumption) (by intro hlt; first | exact not_no | (intro he; have he2 : _ = some _ := he; have := own_base (by assumption) he2; omega) | (intro he; have he2 : _ = _ := he; omega)) ?_)))))) (by rw [bs_length]; omega)) ?_
        rintro v27 w7 ⟨rfl, c7⟩
        have hz7 := c7.size
        refine L_run (.plain rfl) rfl rfl (r_move (v := .string _) rfl) ?_
        refine L_sbytes Try.underlying9 Try.underlying25 Try.underlying5 (by first | omega | (simp only [sb_size, ByteArray.size_append]; omega)) (.plain rfl) rfl rfl (fun v29 w8 hv29 c8 eb8 hs8 => ?_)
        refine L_call (.plain rfl) rfl rfl (r_call Try.func13 rfl rfl rfl (by rfl)) (more_walk _ _ (bs a2) _ (by (exact Sl.to (by first | assumption | exact Sl.own (by assumption) | exact Mu.sl (by assumption)) (fun i hi => by (repeat (first | exact Sm.refl _ _ | (refine Sm.step (by assumption) (by intro hlt; first | exact not_no | (intro he; have he2 : _ = some _ := he; have := own_base (by assumption) he2; omega) | (intro he; have he2 : _ = _ := he; omega)) ?_)))))) (by rw [bs_length]; omega)) ?_
        rintro v30 w9 ⟨rfl, c9⟩
        have hz9 := c9.size
        refine L_run (.plain rfl) rfl rfl (r_assign (v := .int _ _) rfl) ?_
        refine L_nil ?_
        refine W_seq ?_
        refine W_region ?_
        refine L_call (.plain rfl) rfl rfl (r_call Try.func10 rfl rfl rfl (by rfl)) (awake_walk _) ?_
        rintro v31 w10 ⟨rfl, c10⟩
        have hz10 := c10.size
        refine L_run (.plain rfl) rfl rfl (r_move (v := .bool _) rfl) ?_
        refine L_as (v := .bool _) (v' := .bool true) 32 rfl (congrArg Value.bool (by rfl)) ?_
        refine L_run (.yes 1 true rfl rfl) rfl rfl (r_move (v := .int _ _) rfl) ?_
        refine L_run (.yes 1 true rfl rfl) rfl rfl (r_move (v := .string _) rfl) ?_
        refine L_run (.yes 1 true rfl rfl) rfl rfl (r_move (v := .string _) rfl) ?_
        refine L_run (.yes 1 true rfl rfl) rfl rfl (r_adds rfl rfl (by first | omega | (simp only [ByteArray.size_append]; omega))) ?_
        refine L_run (.yes 1 true rfl rfl) rfl rfl (r_move (v := .string _) rfl) ?_
        refine L_run (.yes 1 true rfl rfl) rfl rfl (r_adds rfl rfl (by first | omega | (simp only [ByteArray.size_append]; omega))) ?_
        refine L_sbytes Try.underlying9 Try.underlying25 Try.underlying5 (by first | omega | (simp only [sb_size, ByteArray.size_append]; omega)) (.yes 1 true rfl rfl) rfl rfl (fun v39 w11 hv39 c11 eb11 hs11 => ?_)
        refine L_call (.yes 1 true rfl rfl) rfl rfl (r_call Try.func11 rfl rfl rfl (by rfl)) (sum_walk _ (bs (a0 ++ a1 ++ a2)) _ (by (exact Sl.to (by first | assumption | exact Sl.own (by assumption) | exact Mu.sl (by assumption)) (fun i hi => by (repeat (first | exact Sm.refl _ _ | (refine Sm.step (by assumption) (by intro hlt; first | exact not_no | (intro he; have he2 : _ = some _ := he; have := own_base (by assumption) he2; omega) | (intro he; have he2 : _ = _ := he; omega)) ?_)))))) (by rw [bs_length]; simp only [ByteArray.size_append]; omega)) ?_
        rintro v40 w12 ⟨rfl, c12⟩
        have hz12 := c12.size
        refine L_run (.yes 1 true rfl rfl) rfl rfl (r_eql rfl rfl) ?_
        refine L_run (.plain rfl) rfl rfl (r_pick_t (v := .bool _) rfl rfl) ?_
        refine L_run (.plain rfl) rfl rfl (r_move (v := .bool _) rfl) ?_
        refine L_as (v := .bool _) (v' := .bool true) 43 rfl (dec_t (by rw [more_more, more_more, bs_append, bs_append])).symm ?_
        refine L_run (.yes 12 true rfl rfl) rfl rfl (r_move (v := .int _ _) rfl) ?_
        refine L_call (.yes 12 true rfl rfl) rfl rfl (r_call Try.func13 rfl rfl rfl (by rfl)) (more_walk _ _ [] _ (Sl.nil _ 1) (by decide)) ?_
        rintro v45 w13 ⟨rfl, c13⟩
        have hz13 := c13.size
        refine L_run (.yes 12 true rfl rfl) rfl rfl (r_move (v := .int _ _) rfl) ?_
        refine L_run (.yes 12 true rfl rfl) rfl rfl (r_eql rfl rfl) ?_
        refine L_run (.plain rfl) rfl rfl (r_pick_t (v := .bool _) rfl rfl) ?_
        refine L_run (.plain rfl) rfl rfl (r_assign (v := .bool _) rfl) ?_
        refine L_nil ?_
        refine W_ret ?_
        refine ret1 (v := .bool _) rfl rfl ?_
        first
          | exact ⟨rfl, by (repeat (first | exact Ch.refl _ | assumption | (refine Ch.fresh ?_ (by assumption) (by intro i hi he; first | exact he | (exfalso; have he2 : _ = some i := he; have := own_base (by assumption) he2; omega) | (exfalso; have he2 : i = _ := he; omega)))))⟩
          | exact ⟨(dec_t (by rw [more_more, more_more, more_more, List.append_nil])).symm, by (repeat (first | exact Ch.refl _ | assumption | (refine Ch.fresh ?_ (by assumption) (by intro i hi he; first | exact he | (exfalso; have he2 : _ = some i := he; have := own_base (by assumption) he2; omega) | (exfalso; have he2 : i = _ := he; omega)))))⟩
end Go.Proofs.Ytmnddfedopjjbaa

