/- FramePuts and FrameBursts, walked. -/
import Derived.Test.YtmnddfedopjjbaaFrameQ
namespace Go.Proofs.Ytmnddfedopjjbaa
open Go Go.RowKit
set_option linter.unusedVariables false
set_option linter.unusedSimpArgs false
theorem put_iff (a1 : Int) (h : 0 ≤ a1 ∧ a1 ≤ 65535) : decide ((if (List.replicate a1.toNat (0 : UInt8)).length ≤ 32768 then (0 : Int) else 21) = 0) = decide (a1 ≤ 32768) := by
  have e : (List.replicate a1.toNat (0 : UInt8)).length = a1.toNat := by simp
  rw [e]
  by_cases h2 : a1 ≤ 32768
  · rw [if_pos (by omega)]; simp [h2]
  · rw [if_neg (by omega)]; simp [h2]
theorem FramePuts_walk (a0 : ByteArray) (a1 : Int) (w0 : World) (y0 : a0.size ≤ 140737488351232) (y1 : 0 ≤ a1 ∧ a1 ≤ 65535) : Does Try.prog 8 #[.string a0, .int .u16 a1] w0 (fun r w' => r = .bool true ∧ Nw w0 w') := by
  refine fn_of (n := 72) (args := [.string a0, .int .u16 a1]) Try.func8 rfl rfl rfl ?_
  refine W_seq ?_
  refine W_region ?_
  refine L_run (.plain rfl) rfl rfl (r_assign (v := .bool _) rfl) ?_
  refine L_nil ?_
  refine W_seq ?_
  refine W_seq ?_
  refine W_region ?_
  refine L_run (.plain rfl) rfl rfl (r_move (v := .string _) rfl) ?_
  refine L_run (.plain rfl) rfl rfl (r_lens Try.underlying9 rfl) ?_
  refine L_run (.plain rfl) rfl rfl (r_gtr rfl rfl) ?_
  refine L_nil ?_
  refine W_if rfl (fun h14 => ?_) (fun h14 => ?_)
  · refine W_seq ?_
    refine W_region ?_
    refine L_call (.plain rfl) rfl rfl (r_call Try.func10 rfl rfl rfl (by rfl)) (awake_walk _) ?_
    rintro v15 w1 ⟨rfl, c1⟩
    have hz1 := c1.size
    refine L_run (.plain rfl) rfl rfl (r_assign (v := .bool _) rfl) ?_
    refine L_nil ?_
    refine W_ret ?_
    refine ret1 (v := .bool _) rfl rfl ?_
    first
      | exact ⟨rfl, by (repeat (first | exact Ch.refl _ | assumption | (refine Ch.fresh ?_ (by assumption) (by intro i hi he; first | exact he | (exfalso; have he2 : _ = some i := he; have := own_base (by assumption) he2; omega) | (exfalso; have he2 : i = _ := he; omega)))))⟩
      | (refine ⟨(dec_t ?_).symm, by (repeat (first | exact Ch.refl _ | assumption | (refine Ch.fresh ?_ (by assumption) (by intro i hi he; first | exact he | (exfalso; have he2 : _ = some i := he; have := own_base (by assumption) he2; omega) | (exfalso; have he2 : i = _ := he; omega)))))⟩
         by_cases h : (List.replicate a1.toNat (0 : UInt8)).length ≤ 32768
         · rw [if_pos h] at h67; exact absurd rfl h67
         · rw [if_neg h])
  · refine W_skip ?_
    refine W_seq ?_
    refine W_region ?_
    refine L_run (.plain rfl) rfl rfl (r_move (v := .string _) rfl) ?_
    refine L_sbytes Try.underlying9 Try.underlying25 Try.underlying5 (by first | omega | (simp only [sb_size, ByteArray.size_append]; omega)) (.plain rfl) rfl rfl (fun v18 w2 hv18 c2 eb2 hs2 => ?_)
    refine L_call (.plain rfl) rfl rfl (r_call Try.func18 rfl rfl rfl (by rfl)) (put_walk _ (bs a0) _ (by (exact Sl.to (by first | assumption | exact Sl.own (by assumption) | exact Mu.sl (by assumption)) (fun i hi => by (repeat (first | exact Sm.refl _ _ | (refine Sm.step (by assumption) (by intro hlt; first | exact not_no | (intro he; have he2 : _ = some _ := he; have := own_base (by assumption) he2; omega) | (intro he; have he2 : _ = _ := he; omega)) ?_)))))) (by rw [bs_length]; omega)) ?_
    rintro v19 w3 ⟨vp, rfl, ho3, c3⟩
    have hz3 := c3.size
    have hp3 := own_by ho3 (by rw [put_length])
    refine L_run (.plain rfl) rfl rfl (r_move (by conv => lhs; whnf)) ?_
    refine L_run (.plain rfl) rfl rfl (r_ext2_0 rfl) ?_
    refine L_run (.plain rfl) rfl rfl (r_ext2_1 rfl) ?_
    refine L_run (.plain rfl) rfl rfl (r_assign (by conv => lhs; whnf)) ?_
    refine L_run (.plain rfl) rfl rfl (r_assign (v := .int _ _) rfl) ?_
    refine L_nil ?_
    refine W_seq ?_
    refine W_region ?_
    refine L_run (.plain rfl) rfl rfl (r_move (by conv => lhs; whnf)) ?_
    refine L_call (.plain rfl) rfl rfl (r_call Try.func16 rfl rfl rfl (by rfl)) (get_all _ (put (bs a0)) _ (by (exact Sl.to (by first | assumption | exact Sl.own (by assumption) | exact Mu.sl (by assumption)) (fun i hi => by (repeat (first | exact Sm.refl _ _ | (refine Sm.step (by assumption) (by intro hlt; first | exact not_no | (intro he; have he2 : _ = some _ := he; have := own_base (by assumption) he2; omega) | (intro he; have he2 : _ = _ := he; omega)) ?_)))))) (by rw [put_length, bs_length]; omega)) ?_
    rintro v24 w4 ⟨vg, rfl, hg4, c4⟩
    have hz4 := c4.size
    rw [(getL_put (bs a0) (by rw [bs_length]; omega)).1] at hg4
    refine L_run (.plain rfl) rfl rfl (r_move (by conv => lhs; whnf)) ?_
    refine L_run (.plain rfl) rfl rfl (r_ext2_0 rfl) ?_
    refine L_run (.plain rfl) rfl rfl (r_ext2_1 rfl) ?_
    refine L_run (.plain rfl) rfl rfl (r_assign (by conv => lhs; whnf)) ?_
    refine L_run (.plain rfl) rfl rfl (r_assign (v := .int _ _) rfl) ?_
    refine L_nil ?_
    refine W_seq ?_
    refine W_region ?_
    refine L_run (.plain rfl) rfl rfl (r_move (v := .int _ _) rfl) ?_
    refine L_run (.plain rfl) rfl rfl (r_conv Try.underlying39 Try.underlying3 rfl (by first | exact wr_i64 (by omega) | rfl)) ?_
    refine L_make1 Try.underlying25 (show _ = some (some _, 1, 1) from rfl) rfl (.plain rfl) rfl rfl rfl (by omega) (by omega) (by unfold maxLen; omega) (fun v29 w5 ho29 c5 => ?_)
    have hz5 := c5.size
    have hlong : By _ _ (List.replicate a1.toNat 0) := by_zeros ho29 (by omega)
    refine L_run (.plain rfl) rfl rfl (r_assign (by conv => lhs; whnf)) ?_
    refine L_nil ?_
    refine W_seq ?_
    refine W_region ?_
    refine L_run (.plain rfl) rfl rfl (r_move (by conv => lhs; whnf)) ?_
    refine L_call (.plain rfl) rfl rfl (r_call Try.func18 rfl rfl rfl (by rfl)) (put_all _ (List.replicate a1.toNat 0) _ (by (exact Sl.to (by first | assumption | exact Sl.own (by assumption) | exact Mu.sl (by assumption)) (fun i hi => by (repeat (first | exact Sm.refl _ _ | (refine Sm.step (by assumption) (by intro hlt; first | exact not_no | (intro he; have he2 : _ = some _ := he; have := own_base (by assumption) he2; omega) | (intro he; have he2 : _ = _ := he; omega)) ?_)))))) (by simp; omega)) ?_
    rintro v32 w6 ⟨vq, rfl, c6⟩
    have hz6 := c6.size
    refine L_run (.plain rfl) rfl rfl (r_move (by conv => lhs; whnf)) ?_
    refine L_run (.plain rfl) rfl rfl (r_ext2_0 rfl) ?_
    refine L_run (.plain rfl) rfl rfl (r_ext2_1 rfl) ?_
    refine L_run (.plain rfl) rfl rfl (r_assign (by conv => lhs; whnf)) ?_
    refine L_run (.plain rfl) rfl rfl (r_assign (v := .int _ _) rfl) ?_
    refine L_nil ?_
    refine W_seq ?_
    refine W_draw (fun W => By W vp (put (bs a0)) ∧ By W vg (bs a0)) (m := 38) (by kernel_rfl) rfl (fun w7 c7 hs7 => ?_)
    refine held (by exact ⟨by (exact Sl.to (by first | assumption | exact Sl.own (by assumption) | exact Mu.sl (by assumption)) (fun i hi => by (repeat (first | exact Sm.refl _ _ | (refine Sm.step (by assumption) (by intro hlt; first | exact not_no | (intro he; have he2 : _ = some _ := he; have := own_base (by assumption) he2; omega) | (intro he; have he2 : _ = _ := he; omega)) ?_))))), by (exact Sl.to (by first | assumption | exact Sl.own (by assumption) | exact Mu.sl (by assumption)) (fun i hi => by (repeat (first | exact Sm.refl _ _ | (refine Sm.step (by assumption) (by intro hlt; first | exact not_no | (intro he; have he2 : _ = some _ := he; have := own_base (by assumption) he2; omega) | (intro he; have he2 : _ = _ := he; omega)) ?_)))))⟩) (fun hS => ?_)
    refine D_one (i := 0) (by kernel_rfl) ?_
    refine St_call rfl (.plain rfl) rfl rfl (r_call Try.func10 rfl rfl rfl (by rfl)) (awake_walk _) ?_
    rintro v35 w8 ⟨rfl, c8⟩
    have hz8 := c8.size
    refine held (by exact ⟨by (exact Sl.to (by first | assumption | exact Sl.own (by assumption) | exact Mu.sl (by assumption)) (fun i hi => by (repeat (first | exact Sm.refl _ _ | (refine Sm.step (by assumption) (by intro hlt; first | exact not_no | (intro he; have he2 : _ = some _ := he; have := own_base (by assumption) he2; omega) | (intro he; have he2 : _ = _ := he; omega)) ?_))))), by (exact Sl.to (by first | assumption | exact Sl.own (by assumption) | exact Mu.sl (by assumption)) (fun i hi => by (repeat (first | exact Sm.refl _ _ | (refine Sm.step (by assumption) (by intro hlt; first | exact not_no | (intro he; have he2 : _ = some _ := he; have := own_base (by assumption) he2; omega) | (intro he; have he2 : _ = _ := he; omega)) ?_)))))⟩) (fun hS => ?_)
    refine D_take 1 rfl (by kernel_rfl) (by kernel_rfl) (by kernel_rfl) (.plain rfl) rfl rfl (by assumption) (fun W hW => r_move (v := .bool _) rfl) ?_
    refine D_as (v := .bool _) (v' := .bool true) 36 rfl (congrArg Value.bool (by rfl)) ?_
    refine D_take 2 rfl (by kernel_rfl) (by kernel_rfl) (by kernel_rfl) (.yes 1 true rfl rfl) rfl rfl (by assumption) (fun W hW => r_move (v := .int _ _) rfl) ?_
    refine D_take 3 rfl (by kernel_rfl) (by kernel_rfl) (by kernel_rfl) (.yes 1 true rfl rfl) rfl rfl (by assumption) (fun W hW => r_eql rfl rfl) ?_
    refine D_take 4 rfl (by kernel_rfl) (by kernel_rfl) (by kernel_rfl) (.plain rfl) rfl rfl (by assumption) (fun W hW => r_pick_t (v := .bool _) rfl rfl) ?_
    refine D_take 5 rfl (by kernel_rfl) (by kernel_rfl) (by kernel_rfl) (.plain rfl) rfl rfl (by assumption) (fun W hW => r_move (v := .bool _) rfl) ?_
    refine D_as (v := .bool _) (v' := .bool true) 40 rfl (dec_t (by rfl)).symm ?_
    refine D_take 6 rfl (by kernel_rfl) (by kernel_rfl) (by kernel_rfl) (.yes 5 true rfl rfl) rfl rfl (by assumption) (fun W hW => r_move (by conv => lhs; whnf)) ?_
    refine D_take 7 rfl (by kernel_rfl) (by kernel_rfl) (by kernel_rfl) (.yes 5 true rfl rfl) rfl rfl (by assumption) (fun W hW => r_bstr Try.underlying25 Try.underlying5 Try.underlying9 (by conv => lhs; whnf) (by first | exact hW | exact hW.1 | exact hW.2 | exact hW.2.1 | exact hW.2.2 | exact hW.2.2.1 | exact hW.2.2.2)) ?_
    refine D_take 8 rfl (by kernel_rfl) (by kernel_rfl) (by kernel_rfl) (.yes 5 true rfl rfl) rfl rfl (by assumption) (fun W hW => r_move (v := .string _) rfl) ?_
    refine D_one (i := 9) (by kernel_rfl) ?_
    refine St_call rfl (.yes 5 true rfl rfl) rfl rfl (r_call Try.func19 rfl rfl rfl (by rfl)) (rput_walk a0 _ (by omega)) ?_
    rintro v44 w9 ⟨rfl, c9⟩
    have hz9 := c9.size
    refine held (by exact ⟨by (exact Sl.to (by first | assumption | exact Sl.own (by assumption) | exact Mu.sl (by assumption)) (fun i hi => by (repeat (first | exact Sm.refl _ _ | (refine Sm.step (by assumption) (by intro hlt; first | exact not_no | (intro he; have he2 : _ = some _ := he; have := own_base (by assumption) he2; omega) | (intro he; have he2 : _ = _ := he; omega)) ?_))))), by (exact Sl.to (by first | assumption | exact Sl.own (by assumption) | exact Mu.sl (by assumption)) (fun i hi => by (repeat (first | exact Sm.refl _ _ | (refine Sm.step (by assumption) (by intro hlt; first | exact not_no | (intro he; have he2 : _ = some _ := he; have := own_base (by assumption) he2; omega) | (intro he; have he2 : _ = _ := he; omega)) ?_)))))⟩) (fun hS => ?_)
    refine D_take 10 rfl (by kernel_rfl) (by kernel_rfl) (by kernel_rfl) (.yes 5 true rfl rfl) rfl rfl (by assumption) (fun W hW => r_eqls rfl rfl) ?_
    refine D_take 11 rfl (by kernel_rfl) (by kernel_rfl) (by kernel_rfl) (.plain rfl) rfl rfl (by assumption) (fun W hW => r_pick_t (v := .bool _) rfl rfl) ?_
    refine D_take 12 rfl (by kernel_rfl) (by kernel_rfl) (by kernel_rfl) (.plain rfl) rfl rfl (by assumption) (fun W hW => r_move (v := .bool _) rfl) ?_
    refine D_as (v := .bool _) (v' := .bool true) 47 rfl (dec_t (by exact sb_put a0)).symm ?_
    refine D_take 13 rfl (by kernel_rfl) (by kernel_rfl) (by kernel_rfl) (.yes 12 true rfl rfl) rfl rfl (by assumption) (fun W hW => r_move (v := .int _ _) rfl) ?_
    refine D_take 14 rfl (by kernel_rfl) (by kernel_rfl) (by kernel_rfl) (.yes 12 true rfl rfl) rfl rfl (by assumption) (fun W hW => r_eql rfl rfl) ?_
    refine D_take 15 rfl (by kernel_rfl) (by kernel_rfl) (by kernel_rfl) (.plain rfl) rfl rfl (by assumption) (fun W hW => r_pick_t (v := .bool _) rfl rfl) ?_
    refine D_take 16 rfl (by kernel_rfl) (by kernel_rfl) (by kernel_rfl) (.plain rfl) rfl rfl (by assumption) (fun W hW => r_move (v := .bool _) rfl) ?_
    refine D_as (v := .bool _) (v' := .bool true) 51 rfl (dec_t (by exact (getL_put (bs a0) (by rw [bs_length]; omega)).2)).symm ?_
    refine D_take 17 rfl (by kernel_rfl) (by kernel_rfl) (by kernel_rfl) (.yes 16 true rfl rfl) rfl rfl (by assumption) (fun W hW => r_move (by conv => lhs; whnf)) ?_
    refine D_take 18 rfl (by kernel_rfl) (by kernel_rfl) (by kernel_rfl) (.yes 16 true rfl rfl) rfl rfl (by assumption) (fun W hW => r_bstr Try.underlying25 Try.underlying5 Try.underlying9 (by conv => lhs; whnf) (by first | exact hW | exact hW.1 | exact hW.2 | exact hW.2.1 | exact hW.2.2 | exact hW.2.2.1 | exact hW.2.2.2)) ?_
    refine D_take 19 rfl (by kernel_rfl) (by kernel_rfl) (by kernel_rfl) (.yes 16 true rfl rfl) rfl rfl (by assumption) (fun W hW => r_move (v := .string _) rfl) ?_
    refine D_take 20 rfl (by kernel_rfl) (by kernel_rfl) (by kernel_rfl) (.yes 16 true rfl rfl) rfl rfl (by assumption) (fun W hW => r_eqls rfl rfl) ?_
    refine D_take 21 rfl (by kernel_rfl) (by kernel_rfl) (by kernel_rfl) (.plain rfl) rfl rfl (by assumption) (fun W hW => r_pick_t (v := .bool _) rfl rfl) ?_
    refine D_take 22 rfl (by kernel_rfl) (by kernel_rfl) (by kernel_rfl) (.plain rfl) rfl rfl (by assumption) (fun W hW => r_move (v := .bool _) rfl) ?_
    refine D_as (v := .bool _) (v' := .bool true) 57 rfl (dec_t (by exact sb_bs a0)).symm ?_
    refine D_take 23 rfl (by kernel_rfl) (by kernel_rfl) (by kernel_rfl) (.yes 22 true rfl rfl) rfl rfl (by assumption) (fun W hW => r_move (v := .int _ _) rfl) ?_
    refine D_take 24 rfl (by kernel_rfl) (by kernel_rfl) (by kernel_rfl) (.yes 22 true rfl rfl) rfl rfl (by assumption) (fun W hW => r_eql rfl rfl) ?_
    refine D_take 25 rfl (by kernel_rfl) (by kernel_rfl) (by kernel_rfl) (.yes 22 true rfl rfl) rfl rfl (by assumption) (fun W hW => r_move (v := .int _ _) rfl) ?_
    refine D_take 26 rfl (by kernel_rfl) (by kernel_rfl) (by kernel_rfl) (.yes 22 true rfl rfl) rfl rfl (by assumption) (fun W hW => r_leq rfl rfl) ?_
    refine D_take 27 rfl (by kernel_rfl) (by kernel_rfl) (by kernel_rfl) (.yes 22 true rfl rfl) rfl rfl (by assumption) (fun W hW => r_eqlb Try.underlying4 rfl rfl) ?_
    refine D_take 28 rfl (by kernel_rfl) (by kernel_rfl) (by kernel_rfl) (.plain rfl) rfl rfl (by assumption) (fun W hW => r_pick_t (v := .bool _) rfl rfl) ?_
    refine D_take 29 rfl (by kernel_rfl) (by kernel_rfl) (by kernel_rfl) (.plain rfl) rfl rfl (by assumption) (fun W hW => r_move (v := .bool _) rfl) ?_
    refine D_as (v := .bool _) (v' := .bool true) 64 rfl (dec_t (by exact put_iff a1 y1)).symm ?_
    refine D_take 30 rfl (by kernel_rfl) (by kernel_rfl) (by kernel_rfl) (.yes 29 true rfl rfl) rfl rfl (by assumption) (fun W hW => r_move (v := .int _ _) rfl) ?_
    refine D_take 31 rfl (by kernel_rfl) (by kernel_rfl) (by kernel_rfl) (.yes 29 true rfl rfl) rfl rfl (by assumption) (fun W hW => r_eql rfl rfl) ?_
    refine D_take 32 rfl (by kernel_rfl) (by kernel_rfl) (by kernel_rfl) (.yes 29 true rfl rfl) rfl rfl (by assumption) (fun W hW => r_move (v := .bool _) rfl) ?_
    refine D_case (d := 67) rfl (fun h67 => ?_) (fun h67 => ?_)
    · refine D_pass 33 rfl (by kernel_rfl) (by kernel_rfl) (by kernel_rfl) rfl rfl rfl rfl rfl (by assumption) ?_
      refine D_pass 34 rfl (by kernel_rfl) (by kernel_rfl) (by kernel_rfl) rfl rfl rfl rfl rfl (by assumption) ?_
      refine D_take 35 rfl (by kernel_rfl) (by kernel_rfl) (by kernel_rfl) (.yes 29 true rfl rfl) rfl rfl (by assumption) (fun W hW => r_pick_t (v := .bool _) rfl rfl) ?_
      refine D_take 36 rfl (by kernel_rfl) (by kernel_rfl) (by kernel_rfl) (.plain rfl) rfl rfl (by assumption) (fun W hW => r_pick_t (v := .bool _) rfl rfl) ?_
      refine D_take 37 rfl (by kernel_rfl) (by kernel_rfl) (by kernel_rfl) (.plain rfl) rfl rfl (by assumption) (fun W hW => r_assign (v := .bool _) rfl) ?_
      refine D_done (by kernel_rfl) ?_
      refine W_ret ?_
      refine ret1 (v := .bool _) rfl rfl ?_
      first
        | exact ⟨rfl, by (repeat (first | exact Ch.refl _ | assumption | (refine Ch.fresh ?_ (by assumption) (by intro i hi he; first | exact he | (exfalso; have he2 : _ = some i := he; have := own_base (by assumption) he2; omega) | (exfalso; have he2 : i = _ := he; omega)))))⟩
        | (refine ⟨(dec_t ?_).symm, by (repeat (first | exact Ch.refl _ | assumption | (refine Ch.fresh ?_ (by assumption) (by intro i hi he; first | exact he | (exfalso; have he2 : _ = some i := he; have := own_base (by assumption) he2; omega) | (exfalso; have he2 : i = _ := he; omega)))))⟩
           by_cases h : (List.replicate a1.toNat (0 : UInt8)).length ≤ 32768
           · rw [if_pos h] at h67; exact absurd rfl h67
           · rw [if_neg h])
    · refine D_take 33 rfl (by kernel_rfl) (by kernel_rfl) (by kernel_rfl) (.yes 32 false rfl rfl) rfl rfl (by assumption) (fun W hW => r_move (v := .int _ _) rfl) ?_
      refine D_take 34 rfl (by kernel_rfl) (by kernel_rfl) (by kernel_rfl) (.yes 32 false rfl rfl) rfl rfl (by assumption) (fun W hW => r_eql rfl rfl) ?_
      refine D_take 35 rfl (by kernel_rfl) (by kernel_rfl) (by kernel_rfl) (.yes 29 true rfl rfl) rfl rfl (by assumption) (fun W hW => r_pick_f (v := .bool _) rfl rfl) ?_
      refine D_take 36 rfl (by kernel_rfl) (by kernel_rfl) (by kernel_rfl) (.plain rfl) rfl rfl (by assumption) (fun W hW => r_pick_t (v := .bool _) rfl rfl) ?_
      refine D_take 37 rfl (by kernel_rfl) (by kernel_rfl) (by kernel_rfl) (.plain rfl) rfl rfl (by assumption) (fun W hW => r_assign (v := .bool _) rfl) ?_
      refine D_done (by kernel_rfl) ?_
      refine W_ret ?_
      refine ret1 (v := .bool _) rfl rfl ?_
      first
        | exact ⟨rfl, by (repeat (first | exact Ch.refl _ | assumption | (refine Ch.fresh ?_ (by assumption) (by intro i hi he; first | exact he | (exfalso; have he2 : _ = some i := he; have := own_base (by assumption) he2; omega) | (exfalso; have he2 : i = _ := he; omega)))))⟩
        | (refine ⟨(dec_t ?_).symm, by (repeat (first | exact Ch.refl _ | assumption | (refine Ch.fresh ?_ (by assumption) (by intro i hi he; first | exact he | (exfalso; have he2 : _ = some i := he; have := own_base (by assumption) he2; omega) | (exfalso; have he2 : i = _ := he; omega)))))⟩
           by_cases h : (List.replicate a1.toNat (0 : UInt8)).length ≤ 32768
           · rw [if_pos h] at h67; exact absurd rfl h67
           · rw [if_neg h])
/-! ### bursts -/
theorem bstep_c (y : BitVec 32) (c d : UInt8) : bstep y (c ^^^ d) = bstep y c ^^^ Sn 8 (c32 d) := by
  unfold bstep
  rw [c32_xor, ← BitVec.xor_assoc, Sn_xor]
theorem crc_turn : ∀ (l : List UInt8) (y z : BitVec 32), crc (y ^^^ z) l = crc y l ^^^ Sn (8 * l.length) z
  | [], y, z => rfl
  | c :: l, y, z => by
    have e : bstep (y ^^^ z) c = bstep y c ^^^ Sn 8 z := by
      unfold bstep
      rw [← Sn_xor]
      congr 1
      rw [BitVec.xor_assoc, BitVec.xor_comm z, ← BitVec.xor_assoc]
    show crc (bstep (y ^^^ z) c) l = crc (bstep y c) l ^^^ _
    rw [e, crc_turn l, ← Sn_add, List.length_cons, Nat.mul_succ]
theorem crc_set : ∀ (l : List UInt8) (j : Nat) (h : j < l.length) (d : UInt8) (x : BitVec 32), crc x (l.set j (l[j] ^^^ d)) = crc x l ^^^ Sn (8 * (l.length - j)) (c32 d)
  | c :: l, 0, _, d, x => by
    show crc (bstep x (c ^^^ d)) l = crc (bstep x c) l ^^^ _
    rw [bstep_c, crc_turn, ← Sn_add]
    rfl
  | c :: l, j + 1, h, d, x => by
    have ih := crc_set l j (by simpa using h) d (bstep x c)
    show crc (bstep x c) (l.set j (l[j]'(by simpa using h) ^^^ d)) = crc (bstep x c) l ^^^ _
    rw [ih]
    congr 2
    simp only [List.length_cons]
    omega
theorem c32_shift : ∀ m, m < 8 → c32 ((1 : UInt8) <<< (UInt8.ofNat m)) = BitVec.twoPow 32 m := by decide +kernel
/-- One bit of a list turned, bits counted from the first byte's lowest. -/
def bitAt (l : List UInt8) (i : Nat) : List UInt8 := l.set (i / 8) (l.getD (i / 8) 0 ^^^ ((1 : UInt8) <<< (UInt8.ofNat (i % 8))))
theorem bitAt_length (l : List UInt8) (i : Nat) : (bitAt l i).length = l.length := by simp [bitAt]
theorem crc_bit (l : List UInt8) (at_ k : Nat) (hk : k < 32) (h : at_ + k < 8 * l.length) (x : BitVec 32) : crc x (bitAt l (at_ + k)) = crc x l ^^^ Sn (8 * l.length - at_) (BitVec.twoPow 32 k) := by
  have hj : (at_ + k) / 8 < l.length := by omega
  unfold bitAt
  rw [List.getD_eq_getElem?_getD, List.getElem?_eq_getElem hj, Option.getD_some, crc_set _ _ hj, c32_shift _ (Nat.mod_lt _ (by omega))]
  congr 1
  have e1 := Sn_bit k hk true
  have e2 := Sn_bit ((at_ + k) % 8) (by omega) true
  simp only [if_true] at e1 e2
  have a1 := Sn_add (8 * l.length - at_ - k) k (BitVec.twoPow 32 k)
  have a2 := Sn_add (8 * l.length - at_ - k) ((at_ + k) % 8) (BitVec.twoPow 32 ((at_ + k) % 8))
  rw [e1, show 8 * l.length - at_ - k + k = 8 * l.length - at_ by omega] at a1
  rw [e2, show 8 * l.length - at_ - k + (at_ + k) % 8 = 8 * (l.length - (at_ + k) / 8) by omega] at a2
  rw [a1, a2]
theorem S1_ne (x : BitVec 32) (h : S1 x = 0#32) : x = 0#32 := by
  unfold S1 at h
  cases hb : x.getLsbD 0 with
  | false =>
    rw [hb] at h
    simp at h
    apply BitVec.eq_of_getLsbD_eq
    intro i hi
    cases i with
    | zero => rw [hb]; simp
    | succ i =>
      have := congrArg (fun y => y.getLsbD i) h
      simp only [BitVec.getLsbD_ushiftRight] at this
      rw [Nat.add_comm, this]; simp
  | true =>
    rw [hb] at h
    have := congrArg (fun y => y.getLsbD 31) h
    simp at this
theorem Sn_ne (k : Nat) (x : BitVec 32) (h : Sn k x = 0#32) : x = 0#32 := by
  induction k with
  | zero => exact h
  | succ k ih => exact ih (S1_ne _ h)
/-- What a frame's whole crc is: always the same. -/
theorem word4 (x : BitVec 32) (a b c d : UInt8) : crc x [a, b, c, d] = Sn 32 (x ^^^ (c32 a ^^^ (c32 b <<< 8) ^^^ (c32 c <<< 16) ^^^ (c32 d <<< 24))) := by
  have hs : ∀ (k : Nat) (z : BitVec 32) (c : UInt8), k ≤ 24 → Sn k (z ^^^ (c32 c <<< k)) = Sn k z ^^^ c32 c := by
    intro k z c hk
    rw [Sn_xor]
    congr 1
    have hc : (c32 c).toNat < 256 := by rw [c32_toNat]; exact c.toNat_lt
    rw [Sn_low k _ (fun i hi => by simp [BitVec.getLsbD_shiftLeft, hi])]
    apply BitVec.eq_of_toNat_eq
    have : 2 ^ k ≤ 2 ^ 24 := Nat.pow_le_pow_right (by omega) hk
    have h2 : (c32 c).toNat * 2 ^ k < 2 ^ 32 := by
      calc (c32 c).toNat * 2 ^ k ≤ (c32 c).toNat * 2 ^ 24 := Nat.mul_le_mul_left _ this
        _ < 256 * 2 ^ 24 := (Nat.mul_lt_mul_right (by decide)).2 hc
        _ = 2 ^ 32 := by decide
    simp only [BitVec.toNat_ushiftRight, BitVec.toNat_shiftLeft, Nat.shiftLeft_eq, Nat.shiftRight_eq_div_pow]
    rw [Nat.mod_eq_of_lt h2, Nat.mul_div_cancel _ (Nat.two_pow_pos k)]
  show bstep (bstep (bstep (bstep x a) b) c) d = _
  unfold bstep
  rw [← hs 8 (x ^^^ c32 a) b (by omega), ← Sn_add, ← hs 16 _ c (by omega), ← Sn_add, ← hs 24 _ d (by omega), ← Sn_add]
  congr 1
  simp only [BitVec.xor_assoc]
theorem m255 (i : Nat) : (255#32).getLsbD i = decide (i < 8) := by
  by_cases h : i < 32
  · revert h; revert i; decide +kernel
  · rw [BitVec.getLsbD_of_ge _ _ (by omega)]; simp; omega
theorem u8w_b (y : BitVec 32) (q : Nat) (i : Nat) : (c32 (u8w ((y.toNat : Int) / ((2 ^ q : Nat) : Int)))).getLsbD i = (y.getLsbD (q + i) && decide (i < 8)) := by
  have e : (c32 (u8w ((y.toNat : Int) / ((2 ^ q : Nat) : Int)))) = (y >>> q) &&& 255#32 := by
    apply BitVec.eq_of_toNat_eq
    rw [c32_toNat, BitVec.toNat_and, BitVec.toNat_ushiftRight, Nat.shiftRight_eq_div_pow, show (255#32).toNat = 2 ^ 8 - 1 from rfl, Nat.and_two_pow_sub_one_eq_mod]
    unfold u8w
    rw [← Int.natCast_ediv, show ((y.toNat / 2 ^ q : Nat) : Int) % 256 = ((y.toNat / 2 ^ q % 256 : Nat) : Int) from (Int.natCast_emod _ _).symm, Int.toNat_natCast, UInt8.toNat_ofNat']
    omega
  rw [e, BitVec.getLsbD_and, BitVec.getLsbD_ushiftRight, m255]
theorem le4_b (y : BitVec 32) : ∃ a b c d : UInt8, le4 (y.toNat : Int) = [a, b, c, d] ∧ c32 a ^^^ (c32 b <<< 8) ^^^ (c32 c <<< 16) ^^^ (c32 d <<< 24) = y := by
  refine ⟨_, _, _, _, rfl, ?_⟩
  apply BitVec.eq_of_getLsbD_eq
  intro i hi
  have e0 := u8w_b y 0
  have e1 := u8w_b y 8
  have e2 := u8w_b y 16
  have e3 := u8w_b y 24
  simp only [Nat.reducePow, Int.cast_ofNat_Int, Int.ediv_one] at e0 e1 e2 e3
  simp only [BitVec.getLsbD_xor, BitVec.getLsbD_shiftLeft, e0, e1, e2, e3, hi, decide_true, Bool.true_and]
  by_cases h1 : i < 8
  · simp [h1, show i < 16 by omega, show i < 24 by omega]
  · by_cases h2 : i < 16
    · simp [h1, h2, show i < 24 by omega, show i - 8 < 8 by omega, show 8 + (i - 8) = i by omega]
    · by_cases h3 : i < 24
      · simp [h1, h2, h3, show ¬ i - 8 < 8 by omega, show i - 16 < 8 by omega, show 16 + (i - 16) = i by omega]
      · simp [h1, h2, h3, show ¬ i - 8 < 8 by omega, show ¬ i - 16 < 8 by omega, show i - 24 < 8 by omega, show 24 + (i - 24) = i by omega]
theorem crc_le4 (x : BitVec 32) : crc x (le4 ((~~~x).toNat : Int)) = Sn 32 4294967295#32 := by
  obtain ⟨a, b, c, d, h1, h2⟩ := le4_b (~~~x)
  rw [h1, word4, h2]
  congr 1
  apply BitVec.eq_of_getLsbD_eq
  intro i hi
  have : (4294967295#32).getLsbD i = true := by revert hi; revert i; decide +kernel
  rw [this, BitVec.getLsbD_xor, BitVec.getLsbD_not]
  simp [hi]
theorem crc_get (l : List UInt8) (h : getB l) : crc 4294967295#32 l = Sn 32 4294967295#32 := by
  obtain ⟨h1, h2, h3⟩ := h
  conv => lhs; rw [← List.take_append_drop (l.length - 4) l]
  rw [crc_append, h3, sum_b]
  exact crc_le4 _
/-- The frame while its bits are being turned: the pattern p is what was turned so far, from at_ on. -/
def turned (l0 l : List UInt8) (at_ k : Nat) (p : BitVec 32) : Prop :=
  l.length = l0.length ∧ crc 4294967295#32 l = crc 4294967295#32 l0 ^^^ Sn (8 * l0.length - at_) p ∧ (∀ i, k ≤ i → p.getLsbD i = false) ∧ (p = 0#32 → l = l0)
theorem turned_zero (l0 : List UInt8) (at_ : Nat) : turned l0 l0 at_ 0 0#32 := ⟨rfl, by rw [Sn_zero, BitVec.xor_zero], by simp, fun _ => rfl⟩
theorem turned_skip {l0 l : List UInt8} {at_ k : Nat} {p : BitVec 32} (h : turned l0 l at_ k p) : turned l0 l at_ (k + 1) p := ⟨h.1, h.2.1, fun i hi => h.2.2.1 i (by omega), h.2.2.2⟩
theorem turned_bit {l0 l : List UInt8} {at_ k : Nat} {p : BitVec 32} (h : turned l0 l at_ k p) (hk : k < 32) (hb : at_ + k < 8 * l0.length) : turned l0 (bitAt l (at_ + k)) at_ (k + 1) (p ^^^ BitVec.twoPow 32 k) ∧ p ^^^ BitVec.twoPow 32 k ≠ 0#32 := by
  have hbit : (p ^^^ BitVec.twoPow 32 k).getLsbD k = true := by
    rw [BitVec.getLsbD_xor, h.2.2.1 k (Nat.le_refl _), BitVec.getLsbD_twoPow]; simp [hk]
  have hne : p ^^^ BitVec.twoPow 32 k ≠ 0#32 := by
    intro e; rw [e] at hbit; simp at hbit
  refine ⟨⟨?_, ?_, ?_, fun e => absurd e hne⟩, hne⟩
  · rw [bitAt_length, h.1]
  · rw [crc_bit _ _ _ hk (by rw [h.1]; exact hb), h.2.1, h.1, Sn_xor, BitVec.xor_assoc]
  · intro i hi
    rw [BitVec.getLsbD_xor, h.2.2.1 i (by omega), BitVec.getLsbD_twoPow]
    simp; omega
theorem turned_get {l0 l : List UInt8} {at_ k : Nat} {p : BitVec 32} (h : turned l0 l at_ k p) (h0 : getB l0) : getE l = if p = 0#32 then 0 else 20 := by
  by_cases hp : p = 0#32
  · rw [if_pos hp, h.2.2.2 hp]; unfold getE; rw [if_pos h0]
  · rw [if_neg hp]
    have hn : ¬ getB l := by
      intro hg
      have e := h.2.1
      rw [crc_get l hg, crc_get l0 h0] at e
      have e2 : Sn (8 * l0.length - at_) p = 0#32 := by
        have := congrArg (fun y => Sn 32 4294967295#32 ^^^ y) e
        simp only [BitVec.xor_self, ← BitVec.xor_assoc, BitVec.zero_xor] at this
        exact this.symm
      exact hp (Sn_ne _ _ e2)
    unfold getE
    have := h0.2.1
    rw [if_neg hn, if_neg (by rw [h.1]; omega)]
theorem shl_u8 : ∀ m, m < 8 → IntKind.u8.wrap (1 * 2 ^ min m 8) = (((1 : UInt8) <<< (UInt8.ofNat m)).toNat : Int) := by decide +kernel
theorem bitAt_row (l : List UInt8) (q : Int) (i : Nat) (h : q = i) : (l.map b8).set (q / 8).toNat (.int .u8 (bits .xor .u8 ((l.getD (q / 8).toNat 0).toNat : Int) (IntKind.u8.wrap (1 * 2 ^ min (q % 8).toNat IntKind.u8.bits)))) = (bitAt l i).map b8 := by
  subst h
  have e1 : ((i : Int) / 8).toNat = i / 8 := by omega
  have e2 : ((i : Int) % 8).toNat = i % 8 := by omega
  rw [e1, e2, show IntKind.u8.bits = 8 from rfl, shl_u8 _ (Nat.mod_lt _ (by omega)), b8_xor]
  unfold bitAt
  rw [List.map_set]
  rfl
theorem turned_same {l0 l : List UInt8} {at_ k : Nat} {p : BitVec 32} (h : turned l0 l at_ k p) (h0 : getB l0) : decide (getE l = 20) = decide (p ≠ 0#32) := by
  rw [turned_get h h0]
  by_cases hp : p = 0#32 <;> simp [hp]

theorem FrameBursts_walk (a0 : ByteArray) (a1 a2 : Int) (w0 : World) (y0 : a0.size ≤ 140737488351232) (y1 : 0 ≤ a1 ∧ a1 ≤ 65535) (y2 : 0 ≤ a2 ∧ a2 ≤ 4294967295) : Does Try.prog 9 #[.string a0, .int .u16 a1, .int .u32 a2] w0 (fun r w' => r = .bool true ∧ Nw w0 w') := by
  refine fn_of (n := 89) (args := [.string a0, .int .u16 a1, .int .u32 a2]) Try.func9 rfl rfl rfl ?_
  refine W_seq ?_
  refine W_region ?_
  refine L_run (.plain rfl) rfl rfl (r_assign (v := .bool _) rfl) ?_
  refine L_nil ?_
  refine W_seq ?_
  refine W_seq ?_
  refine W_region ?_
  refine L_run (.plain rfl) rfl rfl (r_move (v := .string _) rfl) ?_
  refine L_run (.plain rfl) rfl rfl (r_lens Try.underlying9 rfl) ?_
  refine L_run (.plain rfl) rfl rfl (r_gtr rfl rfl) ?_
  refine L_run (.plain rfl) rfl rfl (r_move (v := .bool _) rfl) ?_
  refine L_case (d := 18) rfl (fun h18 => ?_) (fun h18 => ?_)
  · refine L_pass rfl rfl rfl rfl rfl ?_
    refine L_pass rfl rfl rfl rfl rfl ?_
    refine L_run (.plain rfl) rfl rfl (r_pick_t (v := .bool _) rfl rfl) ?_
    refine L_nil ?_
    refine W_true rfl ?_
    refine W_seq ?_
    refine W_region ?_
    refine L_call (.plain rfl) rfl rfl (r_call Try.func10 rfl rfl rfl (by rfl)) (awake_walk _) ?_
    rintro v22 w1 ⟨rfl, c1⟩
    have hz1 := c1.size
    refine L_run (.plain rfl) rfl rfl (r_assign (v := .bool _) rfl) ?_
    refine L_nil ?_
    refine W_ret ?_
    refine ret1 (v := .bool _) rfl rfl ?_
    first
      | exact ⟨rfl, by (repeat (first | exact Ch.refl _ | assumption | (refine Ch.fresh ?_ (by assumption) (by intro i hi he; first | exact he | (exfalso; have he2 : _ = some i := he; have := own_base (by assumption) he2; omega) | (exfalso; have he2 : i = _ := he; omega)))))⟩
      | exact ⟨(dec_t (turned_same htu (getB_put _ (by omega)))).symm, by (repeat (first | exact Ch.refl _ | assumption | (refine Ch.fresh ?_ (by assumption) (by intro i hi he; first | exact he | (exfalso; have he2 : _ = some i := he; have := own_base (by assumption) he2; omega) | (exfalso; have he2 : i = _ := he; omega)))))⟩
  · refine L_run (.yes 3 false rfl rfl) rfl rfl (r_move (v := .int _ _) rfl) ?_
    refine L_run (.yes 3 false rfl rfl) rfl rfl (r_eql rfl rfl) ?_
    refine L_run (.plain rfl) rfl rfl (r_pick_f (v := .bool _) rfl rfl) ?_
    refine L_nil ?_
    refine W_if rfl (fun h21 => ?_) (fun h21 => ?_)
    · refine W_seq ?_
      refine W_region ?_
      refine L_call (.plain rfl) rfl rfl (r_call Try.func10 rfl rfl rfl (by rfl)) (awake_walk _) ?_
      rintro v22 w2 ⟨rfl, c2⟩
      have hz2 := c2.size
      refine L_run (.plain rfl) rfl rfl (r_assign (v := .bool _) rfl) ?_
      refine L_nil ?_
      refine W_ret ?_
      refine ret1 (v := .bool _) rfl rfl ?_
      first
        | exact ⟨rfl, by (repeat (first | exact Ch.refl _ | assumption | (refine Ch.fresh ?_ (by assumption) (by intro i hi he; first | exact he | (exfalso; have he2 : _ = some i := he; have := own_base (by assumption) he2; omega) | (exfalso; have he2 : i = _ := he; omega)))))⟩
        | exact ⟨(dec_t (turned_same htu (getB_put _ (by omega)))).symm, by (repeat (first | exact Ch.refl _ | assumption | (refine Ch.fresh ?_ (by assumption) (by intro i hi he; first | exact he | (exfalso; have he2 : _ = some i := he; have := own_base (by assumption) he2; omega) | (exfalso; have he2 : i = _ := he; omega)))))⟩
    · refine W_skip ?_
      refine W_seq ?_
      refine W_region ?_
      refine L_run (.plain rfl) rfl rfl (r_move (v := .string _) rfl) ?_
      refine L_sbytes Try.underlying9 Try.underlying25 Try.underlying5 (by first | omega | (simp only [sb_size, ByteArray.size_append]; omega)) (.plain rfl) rfl rfl (fun v25 w3 hv25 c3 eb3 hs3 => ?_)
      refine L_call (.plain rfl) rfl rfl (r_call Try.func18 rfl rfl rfl (by rfl)) (put_walk _ (bs a0) _ (by (exact Sl.to (by first | assumption | exact Sl.own (by assumption) | exact Mu.sl (by assumption)) (fun i hi => by (repeat (first | exact Sm.refl _ _ | (refine Sm.step (by assumption) (by intro hlt; first | exact not_no | (intro he; have he2 : _ = some _ := he; have := own_base (by assumption) he2; omega) | (intro he; have he2 : _ = _ := he; omega)) ?_)))))) (by rw [bs_length]; omega)) ?_
      rintro v26 w4 ⟨vp, rfl, ho4, c4⟩
      have hz4 := c4.size
      have hsz : (bs a0).length = a0.size := bs_length a0
      have hown0 := own_mono (b := w0.heap.size) ho4 (by omega)
      refine L_run (.plain rfl) rfl rfl (r_move (by conv => lhs; whnf)) ?_
      refine L_run (.plain rfl) rfl rfl (r_ext2_0 rfl) ?_
      refine L_run (.plain rfl) rfl rfl (r_ext2_1 rfl) ?_
      refine L_run (.plain rfl) rfl rfl (r_assign (by conv => lhs; whnf)) ?_
      refine L_run (.plain rfl) rfl rfl (r_assign (v := .int _ _) rfl) ?_
      refine L_nil ?_
      refine W_seq ?_
      refine W_seq ?_
      refine W_region ?_
      refine L_call (.plain rfl) rfl rfl (r_call Try.func10 rfl rfl rfl (by rfl)) (awake_walk _) ?_
      rintro v29 w5 ⟨rfl, c5⟩
      have hz5 := c5.size
      refine L_run (.plain rfl) rfl rfl (r_not rfl) ?_
      refine L_run (.plain rfl) rfl rfl (r_move (v := .bool _) rfl) ?_
      refine L_as (v := .bool _) (v' := .bool false) 31 rfl (congrArg Value.bool (by rfl)) ?_
      refine L_run (.yes 2 false rfl rfl) rfl rfl (r_move (v := .int _ _) rfl) ?_
      refine L_run (.yes 2 false rfl rfl) rfl rfl (r_neq rfl rfl) ?_
      refine L_run (.plain rfl) rfl rfl (r_pick_f (v := .bool _) rfl rfl) ?_
      refine L_run (.plain rfl) rfl rfl (r_move (v := .bool _) rfl) ?_
      refine L_as (v := .bool _) (v' := .bool false) 35 rfl (dec_f (by simp)).symm ?_
      refine L_run (.yes 6 false rfl rfl) rfl rfl (r_move (by conv => lhs; whnf)) ?_
      refine L_run (.yes 6 false rfl rfl) rfl rfl (r_lenSl Try.underlying25 (by conv => lhs; whnf) (by (exact Sl.to (by first | assumption | exact Sl.own (by assumption) | exact Mu.sl (by assumption)) (fun i hi => by (repeat (first | exact Sm.refl _ _ | (refine Sm.step (by assumption) (by intro hlt; first | exact not_no | (intro he; have he2 : _ = some _ := he; have := own_base (by assumption) he2; omega) | (intro he; have he2 : _ = _ := he; omega)) ?_))))))) ?_
      refine L_run (.yes 6 false rfl rfl) rfl rfl (r_lss rfl rfl) ?_
      refine L_run (.plain rfl) rfl rfl (r_pick_f (v := .bool _) rfl rfl) ?_
      refine L_nil ?_
      refine W_if rfl (fun h39 => ?_) (fun h39 => ?_)
      · omega
      · refine W_skip ?_
        refine W_cutF [2, 7] (fun f W => ∃ (at_ : Nat), f 9 = .int .i64 at_ ∧ (at_ < 8 * (a0.size + 4) ∧ W = w5)) ?_ ?_
        · refine W_region ?_
          refine L_run (.plain rfl) rfl rfl (r_move (v := .int _ _) rfl) ?_
          refine L_run (.plain rfl) rfl rfl (r_conv Try.underlying39 Try.underlying3 rfl (by first | exact wr_i64 (by omega) | rfl)) ?_
          refine L_run (.plain rfl) rfl rfl (r_move (by conv => lhs; whnf)) ?_
          refine L_run (.plain rfl) rfl rfl (r_lenSl Try.underlying25 (by conv => lhs; whnf) (by (exact Sl.to (by first | assumption | exact Sl.own (by assumption) | exact Mu.sl (by assumption)) (fun i hi => by (repeat (first | exact Sm.refl _ _ | (refine Sm.step (by assumption) (by intro hlt; first | exact not_no | (intro he; have he2 : _ = some _ := he; have := own_base (by assumption) he2; omega) | (intro he; have he2 : _ = _ := he; omega)) ?_))))))) ?_
          refine L_run (.plain rfl) rfl rfl (r_mul rfl rfl (by first | exact wr_i64 (by omega) | rfl)) ?_
          refine L_run (.plain rfl) rfl rfl (r_remn rfl rfl (by omega) (by omega)) ?_
          refine L_run (.plain rfl) rfl rfl (r_assign (v := .int _ _) rfl) ?_
          refine L_nil ?_
          refine ⟨⟨rfl, rfl, trivial⟩, (a1 % (8 * (((bs a0).length + 4 : Nat) : Int))).toNat, (by exact congrArg (Value.int .i64) (Int.toNat_of_nonneg (Int.emod_nonneg _ (by omega))).symm), ?_⟩
          refine ⟨?_, rfl⟩
          have := Int.emod_lt_of_pos a1 (b := 8 * (((bs a0).length + 4 : Nat) : Int)) (by omega)
          omega
        rintro gcr6 w6 ⟨at_, hf9, hCr6⟩
        refine W_as 9 hf9 rfl ?_
        clear hf9
        obtain ⟨hat, rfl⟩ := hCr6
        refine W_seq ?_
        refine W_region ?_
        refine L_run (.plain rfl) rfl rfl (r_assign (v := .bool _) rfl) ?_
        refine L_nil ?_
        refine W_seq ?_
        refine W_seq ?_
        refine W_region ?_
        refine L_run (.plain rfl) rfl rfl (r_assign (v := .int _ _) rfl) ?_
        refine L_nil ?_
        refine W_block ?_
        refine W_loopF [2, 7, 9] (fun m f W => ∃ (k : Nat) (l : List UInt8) (p : BitVec 32), f 10 = .bool (decide (p ≠ 0#32)) ∧ f 11 = .int .i64 k ∧ (k ≤ 32 ∧ turned (put (bs a0)) l at_ k p ∧ W.ownsRow w0.heap.size 5 1 vp ((bs a0).length + 4) (l.map b8) ∧ Nw w0 W) ∧ m = 32 - k) ?_ ?_
        · refine ⟨_, 0, put (bs a0), 0#32, rfl, rfl, ?_, rfl⟩
          exact ⟨by omega, turned_zero _ _, by first | exact hown0 | (exact Own.to (by assumption) (fun i hi => by (repeat (first | exact Sm.refl _ _ | (refine Sm.step (by assumption) (by intro hlt; first | exact not_no | (intro he; have he2 : _ = some _ := he; have := own_base (by assumption) he2; omega) | (intro he; have he2 : _ = _ := he; omega)) ?_))))), by (repeat (first | exact Ch.refl _ | assumption | (refine Ch.fresh ?_ (by assumption) (by intro i hi he; first | exact he | (exfalso; have he2 : _ = some i := he; have := own_base (by assumption) he2; omega) | (exfalso; have he2 : i = _ := he; omega)))))⟩
        rintro m0 g0 w7 ⟨k, l, p, hf10, hf11, hR0, rfl⟩
        refine W_as 10 hf10 rfl ?_
        refine W_as 11 hf11 rfl ?_
        clear hf10 hf11
        obtain ⟨hk, htu, hown, hnw⟩ := hR0
        have hz := hnw.size
        have hlen : l.length = a0.size + 4 := by rw [htu.1, put_length, hsz]
        refine W_seq ?_
        refine W_seq ?_
        refine W_region ?_
        refine L_run (.plain rfl) rfl rfl (r_move (v := .int _ _) rfl) ?_
        refine L_run (.plain rfl) rfl rfl (r_lss rfl rfl) ?_
        refine L_nil ?_
        refine W_if rfl (fun h47 => ?_) (fun h47 => ?_)
        · refine W_skip ?_
          refine W_cutF [2, 7, 9, 11] (fun f W => ∃ (l' : List UInt8) (p' : BitVec 32), f 10 = .bool (decide (p' ≠ 0#32)) ∧ (turned (put (bs a0)) l' at_ (k + 1) p' ∧ W.ownsRow w0.heap.size 5 1 vp ((bs a0).length + 4) (l'.map b8) ∧ Nw w0 W)) ?_ ?_
          · refine W_block ?_
            refine W_seq ?_
            refine W_region ?_
            refine L_run (.plain rfl) rfl rfl (r_move (v := .int _ _) rfl) ?_
            refine L_run (.plain rfl) rfl rfl (r_move (v := .int _ _) rfl) ?_
            refine L_run (.plain rfl) rfl rfl (r_add rfl rfl (by first | exact wr_i64 (by omega) | rfl)) ?_
            refine L_run (.plain rfl) rfl rfl (r_assign (v := .int _ _) rfl) ?_
            refine L_nil ?_
            refine W_seq ?_
            refine W_region ?_
            refine L_run (.plain rfl) rfl rfl (r_move (v := .int _ _) rfl) ?_
            refine L_run (.plain rfl) rfl rfl (r_move (v := .int _ _) rfl) ?_
            refine L_run (.plain rfl) rfl rfl (r_conv Try.underlying3 Try.underlying42 rfl (by first | exact wr_u64 (by omega) | rfl)) ?_
            refine L_run (.plain rfl) rfl rfl (r_shr rfl rfl (by omega) rfl) ?_
            refine L_run (.plain rfl) rfl rfl (r_and rfl rfl) ?_
            refine L_run (.plain rfl) rfl rfl (r_eql rfl rfl) ?_
            refine L_run (.plain rfl) rfl rfl (r_move (v := .bool _) rfl) ?_
            refine L_case (d := 59) rfl (fun h59 => ?_) (fun h59 => ?_)
            · refine L_run (.yes 6 true rfl rfl) rfl rfl (r_move (v := .int _ _) rfl) ?_
              refine L_run (.yes 6 true rfl rfl) rfl rfl (r_move (by conv => lhs; whnf)) ?_
              refine L_run (.yes 6 true rfl rfl) rfl rfl (r_lenSl Try.underlying25 (by conv => lhs; whnf) (by (exact Sl.to (by first | assumption | exact Sl.own (by assumption) | exact Mu.sl (by assumption)) (fun i hi => by (repeat (first | exact Sm.refl _ _ | (refine Sm.step (by assumption) (by intro hlt; first | exact not_no | (intro he; have he2 : _ = some _ := he; have := own_base (by assumption) he2; omega) | (intro he; have he2 : _ = _ := he; omega)) ?_))))))) ?_
              refine L_run (.yes 6 true rfl rfl) rfl rfl (r_mul rfl rfl (by first | exact wr_i64 (by omega) | rfl)) ?_
              refine L_run (.yes 6 true rfl rfl) rfl rfl (r_lss rfl rfl) ?_
              refine L_run (.plain rfl) rfl rfl (r_pick_t (v := .bool _) rfl rfl) ?_
              refine L_nil ?_
              refine W_if rfl (fun h65 => ?_) (fun h65 => ?_)
              · refine W_seq ?_
                have hbit := turned_bit htu (k := k) (by omega) (by rw [put_length, hsz]; omega)
                obtain ⟨l1, hl1⟩ : ∃ x, x = bitAt l (at_ + k) := ⟨_, rfl⟩
                obtain ⟨p1, hp1⟩ : ∃ x, x = p ^^^ BitVec.twoPow 32 k := ⟨_, rfl⟩
                rw [← hl1, ← hp1] at hbit
                refine W_region ?_
                refine L_run (.plain rfl) rfl rfl (r_move (by conv => lhs; whnf)) ?_
                refine L_run (.plain rfl) rfl rfl (r_move (v := .int _ _) rfl) ?_
                refine L_run (.plain rfl) rfl rfl (r_quon rfl rfl (by omega) (by omega) (by first | exact wr_i64 (by omega) | rfl)) ?_
                refine L_run (.plain rfl) rfl rfl (r_move (by conv => lhs; whnf)) ?_
                refine L_run (.plain rfl) rfl rfl (r_move (v := .int _ _) rfl) ?_
                refine L_run (.plain rfl) rfl rfl (r_quon rfl rfl (by omega) (by omega) (by first | exact wr_i64 (by omega) | rfl)) ?_
                refine L_run (.plain rfl) rfl rfl (r_idxSl Try.underlying25 (show _ = some 1 from rfl) (by conv => lhs; whnf) rfl (by (exact Sl.to (by first | assumption | exact Sl.own (by assumption) | exact Mu.sl (by assumption)) (fun i hi => by (repeat (first | exact Sm.refl _ _ | (refine Sm.step (by assumption) (by intro hlt; first | exact not_no | (intro he; have he2 : _ = some _ := he; have := own_base (by assumption) he2; omega) | (intro he; have he2 : _ = _ := he; omega)) ?_)))))) (by omega) (by omega) (by conv => lhs; (try simp only [Nat.mul_one, Nat.zero_add, Int.toNat_natCast, Int.toNat_zero, Int.reduceToNat, Nat.reduceMul, Nat.reduceAdd]))) ?_
                refine L_run (.plain rfl) rfl rfl (r_loadSl rfl rfl (by (exact Sl.to (by first | assumption | exact Sl.own (by assumption) | exact Mu.sl (by assumption)) (fun i hi => by (repeat (first | exact Sm.refl _ _ | (refine Sm.step (by assumption) (by intro hlt; first | exact not_no | (intro he; have he2 : _ = some _ := he; have := own_base (by assumption) he2; omega) | (intro he; have he2 : _ = _ := he; omega)) ?_)))))) (by exact map_b8 l _ (by omega))) ?_
                refine L_run (.plain rfl) rfl rfl (r_move (v := .int _ _) rfl) ?_
                refine L_run (.plain rfl) rfl rfl (r_remn rfl rfl (by omega) (by omega)) ?_
                refine L_run (.plain rfl) rfl rfl (r_conv Try.underlying3 Try.underlying42 rfl (by first | exact wr_u64 (by omega) | rfl)) ?_
                refine L_run (.plain rfl) rfl rfl (r_shl rfl rfl (by omega) rfl) ?_
                refine L_run (.plain rfl) rfl rfl (r_xor rfl rfl) ?_
                refine L_run (.plain rfl) rfl rfl (r_idxSl Try.underlying25 (show _ = some 1 from rfl) (by conv => lhs; whnf) rfl (by (exact Sl.to (by first | assumption | exact Sl.own (by assumption) | exact Mu.sl (by assumption)) (fun i hi => by (repeat (first | exact Sm.refl _ _ | (refine Sm.step (by assumption) (by intro hlt; first | exact not_no | (intro he; have he2 : _ = some _ := he; have := own_base (by assumption) he2; omega) | (intro he; have he2 : _ = _ := he; omega)) ?_)))))) (by omega) (by omega) (by conv => lhs; (try simp only [Nat.mul_one, Nat.zero_add, Int.toNat_natCast, Int.toNat_zero, Int.reduceToNat, Nat.reduceMul, Nat.reduceAdd]))) ?_
                refine L_setOwn (.plain rfl) rfl rfl (u := .int _ _) rfl rfl (by (exact Own.to (by assumption) (fun i hi => by (repeat (first | exact Sm.refl _ _ | (refine Sm.step (by assumption) (by intro hlt; first | exact not_no | (intro he; have he2 : _ = some _ := he; have := own_base (by assumption) he2; omega) | (intro he; have he2 : _ = _ := he; omega)) ?_)))))) (by rw [List.length_map]; omega) (fun w8 hb8 hs8 c8 => ?_)
                refine L_nil ?_
                refine W_region ?_
                refine L_run (.plain rfl) rfl rfl (r_assign (v := .bool _) rfl) ?_
                refine L_nil ?_
                refine ⟨⟨rfl, rfl, rfl, rfl, trivial⟩, l1, p1, (by first | exact dec_t hbit.2 | (rw [hp1]; rfl)), ?_⟩
                first
                  | (subst hl1 hp1; exact ⟨turned_skip htu, hown, hnw⟩)
                  | (refine ⟨hbit.1, ?_, by (repeat (first | exact Ch.refl _ | assumption | (refine Ch.fresh ?_ (by assumption) (by intro i hi he; first | exact he | (exfalso; have he2 : _ = some i := he; have := own_base (by assumption) he2; omega) | (exfalso; have he2 : i = _ := he; omega)))))⟩
                     rw [hl1, ← bitAt_row l (at_ + k) (at_ + k) (by omega)]
                     assumption)
              · obtain ⟨l1, hl1⟩ : ∃ x, x = l := ⟨_, rfl⟩
                obtain ⟨p1, hp1⟩ : ∃ x, x = p := ⟨_, rfl⟩
                refine W_skip ?_
                refine ⟨⟨rfl, rfl, rfl, rfl, trivial⟩, l1, p1, (by first | exact dec_t hbit.2 | (rw [hp1]; rfl)), ?_⟩
                first
                  | (subst hl1 hp1; exact ⟨turned_skip htu, hown, hnw⟩)
                  | (refine ⟨hbit.1, ?_, by (repeat (first | exact Ch.refl _ | assumption | (refine Ch.fresh ?_ (by assumption) (by intro i hi he; first | exact he | (exfalso; have he2 : _ = some i := he; have := own_base (by assumption) he2; omega) | (exfalso; have he2 : i = _ := he; omega)))))⟩
                     rw [hl1, ← bitAt_row l (at_ + k) (at_ + k) (by omega)]
                     assumption)
            · obtain ⟨l1, hl1⟩ : ∃ x, x = l := ⟨_, rfl⟩
              obtain ⟨p1, hp1⟩ : ∃ x, x = p := ⟨_, rfl⟩
              refine L_pass rfl rfl rfl rfl rfl ?_
              refine L_pass rfl rfl rfl rfl rfl ?_
              refine L_pass rfl rfl rfl rfl rfl ?_
              refine L_pass rfl rfl rfl rfl rfl ?_
              refine L_pass rfl rfl rfl rfl rfl ?_
              refine L_run (.plain rfl) rfl rfl (r_pick_f (v := .bool _) rfl rfl) ?_
              refine L_nil ?_
              refine W_false rfl ?_
              refine W_skip ?_
              refine ⟨⟨rfl, rfl, rfl, rfl, trivial⟩, l1, p1, (by first | exact dec_t hbit.2 | (rw [hp1]; rfl)), ?_⟩
              first
                | (subst hl1 hp1; exact ⟨turned_skip htu, hown, hnw⟩)
                | (refine ⟨hbit.1, ?_, by (repeat (first | exact Ch.refl _ | assumption | (refine Ch.fresh ?_ (by assumption) (by intro i hi he; first | exact he | (exfalso; have he2 : _ = some i := he; have := own_base (by assumption) he2; omega) | (exfalso; have he2 : i = _ := he; omega)))))⟩
                   rw [hl1, ← bitAt_row l (at_ + k) (at_ + k) (by omega)]
                   assumption)
          rintro gcb1 w9 ⟨l', p', hf10, hCb1⟩
          refine W_as 10 hf10 rfl ?_
          clear hf10
          refine W_region ?_
          refine L_run (.plain rfl) rfl rfl (r_move (v := .int _ _) rfl) ?_
          refine L_run (.plain rfl) rfl rfl (r_add rfl rfl (by first | exact wr_i64 (by omega) | rfl)) ?_
          refine L_run (.plain rfl) rfl rfl (r_assign (v := .int _ _) rfl) ?_
          refine L_nil ?_
          refine ⟨⟨rfl, rfl, rfl, trivial⟩, _, ?_, k + 1, l', p', rfl, rfl, ?_, rfl⟩
          · omega
          exact ⟨by omega, hCb1⟩
        · refine W_exit ?_
          repeat (first | refine blk_hit ?_ | refine blk_miss rfl ?_)
          refine W_seq ?_
          refine W_region ?_
          refine L_run (.plain rfl) rfl rfl (r_move (by conv => lhs; whnf)) ?_
          refine L_call (.plain rfl) rfl rfl (r_call Try.func16 rfl rfl rfl (by rfl)) (get_all _ l _ (own_by (by assumption) (by omega)) (by omega)) ?_
          rintro v82 w10 ⟨vg, rfl, hg10, c10⟩
          have hz10 := c10.size
          refine L_run (.plain rfl) rfl rfl (r_move (by conv => lhs; whnf)) ?_
          refine L_run (.plain rfl) rfl rfl (r_ext2_0 rfl) ?_
          refine L_run (.plain rfl) rfl rfl (r_ext2_1 rfl) ?_
          refine L_run (.plain rfl) rfl rfl (r_assign (by conv => lhs; whnf)) ?_
          refine L_run (.plain rfl) rfl rfl (r_assign (v := .int _ _) rfl) ?_
          refine L_nil ?_
          refine W_seq ?_
          refine W_region ?_
          refine L_run (.plain rfl) rfl rfl (r_move (v := .int _ _) rfl) ?_
          refine L_run (.plain rfl) rfl rfl (r_eql rfl rfl) ?_
          refine L_run (.plain rfl) rfl rfl (r_move (v := .bool _) rfl) ?_
          refine L_run (.plain rfl) rfl rfl (r_eqlb Try.underlying4 rfl rfl) ?_
          refine L_run (.plain rfl) rfl rfl (r_assign (v := .bool _) rfl) ?_
          refine L_nil ?_
          refine W_ret ?_
          refine ret1 (v := .bool _) rfl rfl ?_
          first
            | exact ⟨rfl, by (repeat (first | exact Ch.refl _ | assumption | (refine Ch.fresh ?_ (by assumption) (by intro i hi he; first | exact he | (exfalso; have he2 : _ = some i := he; have := own_base (by assumption) he2; omega) | (exfalso; have he2 : i = _ := he; omega)))))⟩
            | exact ⟨(dec_t (turned_same htu (getB_put _ (by omega)))).symm, by (repeat (first | exact Ch.refl _ | assumption | (refine Ch.fresh ?_ (by assumption) (by intro i hi he; first | exact he | (exfalso; have he2 : _ = some i := he; have := own_base (by assumption) he2; omega) | (exfalso; have he2 : i = _ := he; omega)))))⟩
end Go.Proofs.Ytmnddfedopjjbaa

