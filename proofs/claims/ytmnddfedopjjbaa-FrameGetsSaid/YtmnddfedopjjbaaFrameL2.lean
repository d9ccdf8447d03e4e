/- More statements of layer 2, walked. -/
import Derived.Test.YtmnddfedopjjbaaFrameQ
namespace Go.Proofs.Ytmnddfedopjjbaa
open Go Go.RowKit
set_option linter.unusedVariables false
set_option linter.unusedSimpArgs false
theorem replicate_len (n : Nat) : (List.replicate n (0 : UInt8)).length = n := by simp

theorem FrameXor_walk (a0 a1 : ByteArray) (w0 : World) (y0 : a0.size ≤ 140737488351232) (y1 : a1.size ≤ 140737488351232) : Does Try.prog 5 #[.string a0, .string a1] w0 (fun r w' => r = .bool true ∧ Nw w0 w') := by
  refine fn_of (n := 53) (args := [.string a0, .string a1]) Try.func5 rfl rfl rfl ?_
  refine W_seq ?_
  refine W_region ?_
  refine L_run (.plain rfl) rfl rfl (r_assign (v := .bool _) rfl) ?_
  refine L_nil ?_
  refine W_seq ?_
  refine W_seq ?_
  refine W_region ?_
  refine L_run (.plain rfl) rfl rfl (r_move (v := .string _) rfl) ?_
  refine L_run (.plain rfl) rfl rfl (r_lens Try.underlying9 rfl) ?_
  refine L_run (.plain rfl) rfl rfl (r_gtr rfl rfl) ?_
  refine L_run (.plain rfl) rfl rfl (r_move (v := .bool _) rfl) ?_
  refine L_case (d := 11) rfl (fun h11 => ?_) (fun h11 => ?_)
  · refine L_pass rfl rfl rfl rfl rfl ?_
    refine L_pass rfl rfl rfl rfl rfl ?_
    refine L_pass rfl rfl rfl rfl rfl ?_
    refine L_run (.plain rfl) rfl rfl (r_pick_t (v := .bool _) rfl rfl) ?_
    refine L_nil ?_
    refine W_true rfl ?_
    refine W_seq ?_
    refine W_region ?_
    refine L_call (.plain rfl) rfl rfl (r_call Try.func10 rfl rfl rfl (by rfl)) (awake_walk _) ?_
    rintro v16 w1 ⟨rfl, c1⟩
    have hz1 := c1.size
    refine L_run (.plain rfl) rfl rfl (r_assign (v := .bool _) rfl) ?_
    refine L_nil ?_
    refine W_ret ?_
    refine ret1 (v := .bool _) rfl rfl ?_
    first
      | exact ⟨rfl, by (repeat (first | exact Ch.refl _ | assumption | (refine Ch.fresh ?_ (by assumption) (by intro i hi he; first | exact he | (exfalso; have he2 : _ = some i := he; have := own_base (by assumption) he2; omega) | (exfalso; have he2 : i = _ := he; omega)))))⟩
      | exact ⟨(dec_t (by have h := sum_xor (bs a0) (bs b'); rw [bs_length] at h; exact h)).symm, by (repeat (first | exact Ch.refl _ | assumption | (refine Ch.fresh ?_ (by assumption) (by intro i hi he; first | exact he | (exfalso; have he2 : _ = some i := he; have := own_base (by assumption) he2; omega) | (exfalso; have he2 : i = _ := he; omega)))))⟩
  · refine L_run (.yes 3 false rfl rfl) rfl rfl (r_move (v := .string _) rfl) ?_
    refine L_run (.yes 3 false rfl rfl) rfl rfl (r_lens Try.underlying9 rfl) ?_
    refine L_run (.yes 3 false rfl rfl) rfl rfl (r_gtr rfl rfl) ?_
    refine L_run (.plain rfl) rfl rfl (r_pick_f (v := .bool _) rfl rfl) ?_
    refine L_nil ?_
    refine W_if rfl (fun h15 => ?_) (fun h15 => ?_)
    · refine W_seq ?_
      refine W_region ?_
      refine L_call (.plain rfl) rfl rfl (r_call Try.func10 rfl rfl rfl (by rfl)) (awake_walk _) ?_
      rintro v16 w2 ⟨rfl, c2⟩
      have hz2 := c2.size
      refine L_run (.plain rfl) rfl rfl (r_assign (v := .bool _) rfl) ?_
      refine L_nil ?_
      refine W_ret ?_
      refine ret1 (v := .bool _) rfl rfl ?_
      first
        | exact ⟨rfl, by (repeat (first | exact Ch.refl _ | assumption | (refine Ch.fresh ?_ (by assumption) (by intro i hi he; first | exact he | (exfalso; have he2 : _ = some i := he; have := own_base (by assumption) he2; omega) | (exfalso; have he2 : i = _ := he; omega)))))⟩
        | exact ⟨(dec_t (by have h := sum_xor (bs a0) (bs b'); rw [bs_length] at h; exact h)).symm, by (repeat (first | exact Ch.refl _ | assumption | (refine Ch.fresh ?_ (by assumption) (by intro i hi he; first | exact he | (exfalso; have he2 : _ = some i := he; have := own_base (by assumption) he2; omega) | (exfalso; have he2 : i = _ := he; omega)))))⟩
    · refine W_skip ?_
      refine W_seq ?_
      refine W_seq ?_
      refine W_region ?_
      refine L_run (.plain rfl) rfl rfl (r_move (v := .string _) rfl) ?_
      refine L_run (.plain rfl) rfl rfl (r_lens Try.underlying9 rfl) ?_
      refine L_run (.plain rfl) rfl rfl (r_move (v := .string _) rfl) ?_
      refine L_run (.plain rfl) rfl rfl (r_lens Try.underlying9 rfl) ?_
      refine L_run (.plain rfl) rfl rfl (r_gtr rfl rfl) ?_
      refine L_nil ?_
      refine W_endF [0] (fun f W => ∃ (b' : ByteArray), f 1 = .string b' ∧ (b'.size ≤ a0.size ∧ W = w0)) ?_ ?_
      · refine W_if rfl (fun h21 => ?_) (fun h21 => ?_)
        · refine W_region ?_
          refine L_run (.plain rfl) rfl rfl (r_move (v := .string _) rfl) ?_
          refine L_run (.plain rfl) rfl rfl (r_move (v := .string _) rfl) ?_
          refine L_run (.plain rfl) rfl rfl (r_lens Try.underlying9 rfl) ?_
          refine L_run (.plain rfl) rfl rfl (r_slices_h Try.underlying9 rfl rfl (by omega) (by omega)) ?_
          refine L_run (.plain rfl) rfl rfl (r_assign (v := .string _) rfl) ?_
          refine L_nil ?_
          refine ⟨⟨rfl, trivial⟩, _, rfl, ?_⟩
          exact ⟨by first | omega | (simp only [ByteArray.size_extract]; omega), rfl⟩
        · refine W_skip ?_
          refine ⟨⟨rfl, trivial⟩, _, rfl, ?_⟩
          exact ⟨by first | omega | (simp only [ByteArray.size_extract]; omega), rfl⟩
      rintro gct21 w3 ⟨b', hf1, hCt21⟩
      refine W_as 1 hf1 rfl ?_
      clear hf1
      obtain ⟨hb', rfl⟩ := hCt21
      refine W_seq ?_
      refine W_region ?_
      refine L_run (.plain rfl) rfl rfl (r_move (v := .string _) rfl) ?_
      refine L_sbytes Try.underlying9 Try.underlying25 Try.underlying5 (by first | omega | (simp only [sb_size, ByteArray.size_append]; omega)) (.plain rfl) rfl rfl (fun v27 w4 hv27 c4 eb4 hs4 => ?_)
      refine L_run (.plain rfl) rfl rfl (r_move (v := .string _) rfl) ?_
      refine L_sbytes Try.underlying9 Try.underlying25 Try.underlying5 (by first | omega | (simp only [sb_size, ByteArray.size_append]; omega)) (.plain rfl) rfl rfl (fun v29 w5 hv29 c5 eb5 hs5 => ?_)
      refine L_call (.plain rfl) rfl rfl (r_call Try.func14 rfl rfl rfl (by rfl)) (turn_walk _ _ (bs a0) (bs b') 0 _ (by (exact Sl.to (by first | assumption | exact Sl.own (by assumption) | exact Mu.sl (by assumption)) (fun i hi => by (repeat (first | exact Sm.refl _ _ | (refine Sm.step (by assumption) (by intro hlt; first | exact not_no | (intro he; have he2 : _ = some _ := he; have := own_base (by assumption) he2; omega) | (intro he; have he2 : _ = _ := he; omega)) ?_)))))) (by (exact Sl.to (by first | assumption | exact Sl.own (by assumption) | exact Mu.sl (by assumption)) (fun i hi => by (repeat (first | exact Sm.refl _ _ | (refine Sm.step (by assumption) (by intro hlt; first | exact not_no | (intro he; have he2 : _ = some _ := he; have := own_base (by assumption) he2; omega) | (intro he; have he2 : _ = _ := he; omega)) ?_)))))) (by rw [bs_length]; omega) (by rw [bs_length]; omega) (by omega)) ?_
      rintro v30 w6 ⟨ho6, c6⟩
      have hz6 := c6.size
      have hb1 := turn_by ho6
      refine L_run (.plain rfl) rfl rfl (r_assign (by conv => lhs; whnf)) ?_
      refine L_nil ?_
      refine W_seq ?_
      refine W_region ?_
      refine L_run (.plain rfl) rfl rfl (r_move (v := .string _) rfl) ?_
      refine L_run (.plain rfl) rfl rfl (r_lens Try.underlying9 rfl) ?_
      refine L_make1 Try.underlying25 (show _ = some (some _, 1, 1) from rfl) rfl (.plain rfl) rfl rfl rfl (by omega) (by omega) (by unfold maxLen; omega) (fun v33 w7 ho33 c7 => ?_)
      have hz7 := c7.size
      have hb2 : By _ _ (List.replicate a0.size 0) := by_zeros ho33 (by omega)
      refine L_run (.plain rfl) rfl rfl (r_assign (by conv => lhs; whnf)) ?_
      refine L_nil ?_
      refine W_seq ?_
      refine W_region ?_
      refine L_run (.plain rfl) rfl rfl (r_move (by conv => lhs; whnf)) ?_
      refine L_run (.plain rfl) rfl rfl (r_move (v := .string _) rfl) ?_
      refine L_sbytes Try.underlying9 Try.underlying25 Try.underlying5 (by first | omega | (simp only [sb_size, ByteArray.size_append]; omega)) (.plain rfl) rfl rfl (fun v36 w8 hv36 c8 eb8 hs8 => ?_)
      refine L_call (.plain rfl) rfl rfl (r_call Try.func14 rfl rfl rfl (by rfl)) (turn_walk _ _ (List.replicate a0.size 0) (bs b') 0 _ (by (exact Sl.to (by first | assumption | exact Sl.own (by assumption) | exact Mu.sl (by assumption)) (fun i hi => by (repeat (first | exact Sm.refl _ _ | (refine Sm.step (by assumption) (by intro hlt; first | exact not_no | (intro he; have he2 : _ = some _ := he; have := own_base (by assumption) he2; omega) | (intro he; have he2 : _ = _ := he; omega)) ?_)))))) (by (exact Sl.to (by first | assumption | exact Sl.own (by assumption) | exact Mu.sl (by assumption)) (fun i hi => by (repeat (first | exact Sm.refl _ _ | (refine Sm.step (by assumption) (by intro hlt; first | exact not_no | (intro he; have he2 : _ = some _ := he; have := own_base (by assumption) he2; omega) | (intro he; have he2 : _ = _ := he; omega)) ?_)))))) (by rw [replicate_len]; omega) (by rw [bs_length]; omega) (by omega)) ?_
      rintro v37 w9 ⟨ho9, c9⟩
      have hz9 := c9.size
      rw [replicate_len] at ho9
      have hb3 : By _ _ (turn (List.replicate a0.size 0) 0 (bs b')) := turn_by (l := List.replicate a0.size 0) (by rw [replicate_len]; exact ho9)
      refine L_run (.plain rfl) rfl rfl (r_assign (by conv => lhs; whnf)) ?_
      refine L_nil ?_
      refine W_seq ?_
      refine W_region ?_
      refine L_call (.plain rfl) rfl rfl (r_call Try.func10 rfl rfl rfl (by rfl)) (awake_walk _) ?_
      rintro v38 w10 ⟨rfl, c10⟩
      have hz10 := c10.size
      refine L_run (.plain rfl) rfl rfl (r_move (v := .bool _) rfl) ?_
      refine L_as (v := .bool _) (v' := .bool true) 39 rfl (congrArg Value.bool (by rfl)) ?_
      refine L_run (.yes 1 true rfl rfl) rfl rfl (r_move (by conv => lhs; whnf)) ?_
      refine L_call (.yes 1 true rfl rfl) rfl rfl (r_call Try.func11 rfl rfl rfl (by rfl)) (sum_walk _ (turn (bs a0) 0 (bs b')) _ (by (exact Sl.to (by first | assumption | exact Sl.own (by assumption) | exact Mu.sl (by assumption)) (fun i hi => by (repeat (first | exact Sm.refl _ _ | (refine Sm.step (by assumption) (by intro hlt; first | exact not_no | (intro he; have he2 : _ = some _ := he; have := own_base (by assumption) he2; omega) | (intro he; have he2 : _ = _ := he; omega)) ?_)))))) (by rw [turn_length, bs_length]; omega)) ?_
      rintro v41 w11 ⟨rfl, c11⟩
      have hz11 := c11.size
      refine L_run (.yes 1 true rfl rfl) rfl rfl (r_move (v := .string _) rfl) ?_
      refine L_sbytes Try.underlying9 Try.underlying25 Try.underlying5 (by first | omega | (simp only [sb_size, ByteArray.size_append]; omega)) (.yes 1 true rfl rfl) rfl rfl (fun v43 w12 hv43 c12 eb12 hs12 => ?_)
      refine L_call (.yes 1 true rfl rfl) rfl rfl (r_call Try.func11 rfl rfl rfl (by rfl)) (sum_walk _ (bs a0) _ (by (exact Sl.to (by first | assumption | exact Sl.own (by assumption) | exact Mu.sl (by assumption)) (fun i hi => by (repeat (first | exact Sm.refl _ _ | (refine Sm.step (by assumption) (by intro hlt; first | exact not_no | (intro he; have he2 : _ = some _ := he; have := own_base (by assumption) he2; omega) | (intro he; have he2 : _ = _ := he; omega)) ?_)))))) (by rw [bs_length]; omega)) ?_
      rintro v44 w13 ⟨rfl, c13⟩
      have hz13 := c13.size
      refine L_run (.yes 1 true rfl rfl) rfl rfl (r_xor rfl rfl) ?_
      refine L_run (.yes 1 true rfl rfl) rfl rfl (r_move (by conv => lhs; whnf)) ?_
      refine L_call (.yes 1 true rfl rfl) rfl rfl (r_call Try.func11 rfl rfl rfl (by rfl)) (sum_walk _ (turn (List.replicate a0.size 0) 0 (bs b')) _ (by (exact Sl.to (by first | assumption | exact Sl.own (by assumption) | exact Mu.sl (by assumption)) (fun i hi => by (repeat (first | exact Sm.refl _ _ | (refine Sm.step (by assumption) (by intro hlt; first | exact not_no | (intro he; have he2 : _ = some _ := he; have := own_base (by assumption) he2; omega) | (intro he; have he2 : _ = _ := he; omega)) ?_)))))) (by rw [turn_length, replicate_len]; omega)) ?_
      rintro v47 w14 ⟨rfl, c14⟩
      have hz14 := c14.size
      refine L_run (.yes 1 true rfl rfl) rfl rfl (r_move (by conv => lhs; whnf)) ?_
      refine L_call (.yes 1 true rfl rfl) rfl rfl (r_call Try.func11 rfl rfl rfl (by rfl)) (sum_walk _ (List.replicate a0.size 0) _ (by (exact Sl.to (by first | assumption | exact Sl.own (by assumption) | exact Mu.sl (by assumption)) (fun i hi => by (repeat (first | exact Sm.refl _ _ | (refine Sm.step (by assumption) (by intro hlt; first | exact not_no | (intro he; have he2 : _ = some _ := he; have := own_base (by assumption) he2; omega) | (intro he; have he2 : _ = _ := he; omega)) ?_)))))) (by rw [replicate_len]; omega)) ?_
      rintro v49 w15 ⟨rfl, c15⟩
      have hz15 := c15.size
      refine L_run (.yes 1 true rfl rfl) rfl rfl (r_xor rfl rfl) ?_
      refine L_run (.yes 1 true rfl rfl) rfl rfl (r_eql rfl rfl) ?_
      refine L_run (.plain rfl) rfl rfl (r_pick_t (v := .bool _) rfl rfl) ?_
      refine L_run (.plain rfl) rfl rfl (r_assign (v := .bool _) rfl) ?_
      refine L_nil ?_
      refine W_ret ?_
      refine ret1 (v := .bool _) rfl rfl ?_
      first
        | exact ⟨rfl, by (repeat (first | exact Ch.refl _ | assumption | (refine Ch.fresh ?_ (by assumption) (by intro i hi he; first | exact he | (exfalso; have he2 : _ = some i := he; have := own_base (by assumption) he2; omega) | (exfalso; have he2 : i = _ := he; omega)))))⟩
        | exact ⟨(dec_t (by have h := sum_xor (bs a0) (bs b'); rw [bs_length] at h; exact h)).symm, by (repeat (first | exact Ch.refl _ | assumption | (refine Ch.fresh ?_ (by assumption) (by intro i hi he; first | exact he | (exfalso; have he2 : _ = some i := he; have := own_base (by assumption) he2; omega) | (exfalso; have he2 : i = _ := he; omega)))))⟩
theorem FrameGets_walk (a0 : ByteArray) (w0 : World) (y0 : a0.size ≤ 140737488351232) : Does Try.prog 7 #[.string a0] w0 (fun r w' => r = .bool true ∧ Nw w0 w') := by
  refine fn_of (n := 34) (args := [.string a0]) Try.func7 rfl rfl rfl ?_
  refine W_seq ?_
  refine W_region ?_
  refine L_run (.plain rfl) rfl rfl (r_assign (v := .bool _) rfl) ?_
  refine L_nil ?_
  refine W_seq ?_
  refine W_seq ?_
  refine W_region ?_
  refine L_run (.plain rfl) rfl rfl (r_move (v := .string _) rfl) ?_
  refine L_run (.plain rfl) rfl rfl (r_lens Try.underlying9 rfl) ?_
  refine L_run (.plain rfl) rfl rfl (r_gtr rfl rfl) ?_
  refine L_nil ?_
  refine W_if rfl (fun h9 => ?_) (fun h9 => ?_)
  · refine W_seq ?_
    refine W_region ?_
    refine L_call (.plain rfl) rfl rfl (r_call Try.func10 rfl rfl rfl (by rfl)) (awake_walk _) ?_
    rintro v10 w1 ⟨rfl, c1⟩
    have hz1 := c1.size
    refine L_run (.plain rfl) rfl rfl (r_assign (v := .bool _) rfl) ?_
    refine L_nil ?_
    refine W_ret ?_
    refine ret1 (v := .bool _) rfl rfl ?_
    first
      | exact ⟨rfl, by (repeat (first | exact Ch.refl _ | assumption | (refine Ch.fresh ?_ (by assumption) (by intro i hi he; first | exact he | (exfalso; have he2 : _ = some i := he; have := own_base (by assumption) he2; omega) | (exfalso; have he2 : i = _ := he; omega)))))⟩
      | exact ⟨(dec_t (get_same a0).2).symm, by (repeat (first | exact Ch.refl _ | assumption | (refine Ch.fresh ?_ (by assumption) (by intro i hi he; first | exact he | (exfalso; have he2 : _ = some i := he; have := own_base (by assumption) he2; omega) | (exfalso; have he2 : i = _ := he; omega)))))⟩
  · refine W_skip ?_
    refine W_seq ?_
    refine W_region ?_
    refine L_run (.plain rfl) rfl rfl (r_move (v := .string _) rfl) ?_
    refine L_sbytes Try.underlying9 Try.underlying25 Try.underlying5 (by first | omega | (simp only [sb_size, ByteArray.size_append]; omega)) (.plain rfl) rfl rfl (fun v13 w2 hv13 c2 eb2 hs2 => ?_)
    refine L_call (.plain rfl) rfl rfl (r_call Try.func16 rfl rfl rfl (by rfl)) (get_all _ (bs a0) _ (by (exact Sl.to (by first | assumption | exact Sl.own (by assumption) | exact Mu.sl (by assumption)) (fun i hi => by (repeat (first | exact Sm.refl _ _ | (refine Sm.step (by assumption) (by intro hlt; first | exact not_no | (intro he; have he2 : _ = some _ := he; have := own_base (by assumption) he2; omega) | (intro he; have he2 : _ = _ := he; omega)) ?_)))))) (by rw [bs_length]; omega)) ?_
    rintro v14 w3 ⟨vg, rfl, hg3, c3⟩
    have hz3 := c3.size
    refine L_run (.plain rfl) rfl rfl (r_move (by conv => lhs; whnf)) ?_
    refine L_run (.plain rfl) rfl rfl (r_ext2_0 rfl) ?_
    refine L_run (.plain rfl) rfl rfl (r_ext2_1 rfl) ?_
    refine L_run (.plain rfl) rfl rfl (r_assign (by conv => lhs; whnf)) ?_
    refine L_run (.plain rfl) rfl rfl (r_assign (v := .int _ _) rfl) ?_
    refine L_nil ?_
    refine W_seq ?_
    refine W_region ?_
    refine L_run (.plain rfl) rfl rfl (r_move (v := .string _) rfl) ?_
    refine L_call (.plain rfl) rfl rfl (r_call Try.func17 rfl rfl rfl (by rfl)) (rget_all a0 _ (by omega)) ?_
    rintro v19 w4 ⟨rfl, c4⟩
    have hz4 := c4.size
    refine L_run (.plain rfl) rfl rfl (r_move (by conv => lhs; whnf)) ?_
    refine L_run (.plain rfl) rfl rfl (r_ext2_0 rfl) ?_
    refine L_run (.plain rfl) rfl rfl (r_ext2_1 rfl) ?_
    refine L_run (.plain rfl) rfl rfl (r_assign (v := .string _) rfl) ?_
    refine L_run (.plain rfl) rfl rfl (r_assign (v := .int _ _) rfl) ?_
    refine L_nil ?_
    refine W_seq ?_
    refine W_region ?_
    refine L_call (.plain rfl) rfl rfl (r_call Try.func10 rfl rfl rfl (by rfl)) (awake_walk _) ?_
    rintro v22 w5 ⟨rfl, c5⟩
    have hz5 := c5.size
    refine L_run (.plain rfl) rfl rfl (r_move (v := .bool _) rfl) ?_
    refine L_as (v := .bool _) (v' := .bool true) 23 rfl (congrArg Value.bool (by rfl)) ?_
    refine L_run (.yes 1 true rfl rfl) rfl rfl (r_move (by conv => lhs; whnf)) ?_
    refine L_run (.yes 1 true rfl rfl) rfl rfl (r_bstr Try.underlying25 Try.underlying5 Try.underlying9 (by conv => lhs; whnf) (by (exact Sl.to (by first | assumption | exact Sl.own (by assumption) | exact Mu.sl (by assumption)) (fun i hi => by (repeat (first | exact Sm.refl _ _ | (refine Sm.step (by assumption) (by intro hlt; first | exact not_no | (intro he; have he2 : _ = some _ := he; have := own_base (by assumption) he2; omega) | (intro he; have he2 : _ = _ := he; omega)) ?_))))))) ?_
    refine L_run (.yes 1 true rfl rfl) rfl rfl (r_move (v := .string _) rfl) ?_
    refine L_run (.yes 1 true rfl rfl) rfl rfl (r_eqls rfl rfl) ?_
    refine L_run (.plain rfl) rfl rfl (r_pick_t (v := .bool _) rfl rfl) ?_
    refine L_run (.plain rfl) rfl rfl (r_move (v := .bool _) rfl) ?_
    refine L_as (v := .bool _) (v' := .bool true) 29 rfl (dec_t (by exact (get_same a0).1)).symm ?_
    refine L_run (.yes 7 true rfl rfl) rfl rfl (r_move (v := .int _ _) rfl) ?_
    refine L_run (.yes 7 true rfl rfl) rfl rfl (r_move (v := .int _ _) rfl) ?_
    refine L_run (.yes 7 true rfl rfl) rfl rfl (r_eql rfl rfl) ?_
    refine L_run (.plain rfl) rfl rfl (r_pick_t (v := .bool _) rfl rfl) ?_
    refine L_run (.plain rfl) rfl rfl (r_assign (v := .bool _) rfl) ?_
    refine L_nil ?_
    refine W_ret ?_
    refine ret1 (v := .bool _) rfl rfl ?_
    first
      | exact ⟨rfl, by (repeat (first | exact Ch.refl _ | assumption | (refine Ch.fresh ?_ (by assumption) (by intro i hi he; first | exact he | (exfalso; have he2 : _ = some i := he; have := own_base (by assumption) he2; omega) | (exfalso; have he2 : i = _ := he; omega)))))⟩
      | exact ⟨(dec_t (get_same a0).2).symm, by (repeat (first | exact Ch.refl _ | assumption | (refine Ch.fresh ?_ (by assumption) (by intro i hi he; first | exact he | (exfalso; have he2 : _ = some i := he; have := own_base (by assumption) he2; omega) | (exfalso; have he2 : i = _ := he; omega)))))⟩
end Go.Proofs.Ytmnddfedopjjbaa

