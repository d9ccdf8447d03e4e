/- A text that was written, read: PackTexts, walked. -/
import Derived.Test.YtikpcphlmlgojaaDoorRef01b
namespace Go.Proofs.YtikpcphlmlgojaaDoor
open Go Go.RowKit
set_option linter.unusedVariables false
set_option linter.unusedSimpArgs false
theorem numL_var (rest : List UInt8) : ∀ (n v i : Nat), v < n → v * 128 ^ i ≤ 18446744073709551615 → i ≤ 9 → (v = 0 → i = 0) → numL i (varL v ++ rest) = (0, v, (varL v).length)
  | 0, v, i, hn, _, _, _ => absurd hn (by omega)
  | n + 1, v, i, hn, h, h9, h0 => by
    have hv9 : i = 9 → v ≤ 1 := by
      intro e; subst e
      have e2 : (128 : Nat) ^ 9 = 9223372036854775808 := by decide
      rw [e2] at h; omega
    by_cases hv : v < 128
    · rw [varL_low hv]
      have ec : (UInt8.ofNat v).toNat = v := by rw [UInt8.toNat_ofNat']; omega
      show numL i (UInt8.ofNat v :: rest) = _
      rw [numL, ec, if_neg (by omega), if_pos hv, if_neg (by omega)]
      rfl
    · rw [varL_high hv]
      have ec : (UInt8.ofNat (v % 128 + 128)).toNat = v % 128 + 128 := by rw [UInt8.toNat_ofNat']; omega
      have hi : i ≠ 9 := fun e => by have := hv9 e; omega
      have h2 : v / 128 * 128 ^ (i + 1) ≤ 18446744073709551615 := by
        rw [Nat.pow_succ, ← Nat.mul_assoc, Nat.mul_right_comm]
        exact Nat.le_trans (Nat.mul_le_mul_right _ (Nat.div_mul_le_self v 128)) h
      have ih := numL_var rest n (v / 128) (i + 1) (by omega) h2 (by omega) (by omega)
      show numL i (UInt8.ofNat (v % 128 + 128) :: (varL (v / 128) ++ rest)) = _
      rw [numL_step i _ _ (by omega) (by omega), ih, ec]
      simp only [List.length_cons]
      congr 2
      omega
theorem numL_v (v : Nat) (rest : List UInt8) (h : v ≤ 18446744073709551615) : numL 0 (varL v ++ rest) = (0, v, (varL v).length) := numL_var rest (v + 1) v 0 (by omega) (by omega) (by omega) (fun _ => rfl)
/-- What reading a text comes to, where it was written. -/
theorem textR_of (s : ByteArray) (rest : List UInt8) (hs : s.size ≤ 100000000) : textR (textL s ++ rest) = if 4096 < s.size then (12, [], 0) else if Lib.validD (bs s) = true then (0, bs s, (textL s).length) else (11, [], 0) := by
  have e : numL 0 (textL s ++ rest) = (0, s.size, (varL s.size).length) := by rw [textL, List.append_assoc]; exact numL_v _ _ (by omega)
  have ed : (textL s ++ rest).drop (varL s.size).length = bs s ++ rest := by rw [textL, List.append_assoc, List.drop_left]
  have et : (bs s ++ rest).take s.size = bs s := by rw [← bs_length, List.take_left]
  have el : (textL s ++ rest).length - (varL s.size).length = s.size + rest.length := by rw [textL, List.length_append, List.length_append, bs_length]; omega
  have el2 : (textL s).length = (varL s.size).length + s.size := by rw [textL, List.length_append, bs_length]
  rw [textR, e]
  simp only [ne_eq, not_true_eq_false, if_false, ed, et, el, el2]
  rw [if_neg (show ¬ s.size + rest.length < s.size by omega)]
theorem texts_case (s : ByteArray) (hs : s.size ≤ 5000) : ∃ (x : List UInt8) (a' : Nat) (e' : Int), got (0, 0) (textR ((textL s).drop 0)).1 (textR ((textL s).drop 0)).2.1 [] = x ∧ nxt (0, 0) (textR ((textL s).drop 0)).1 (textR ((textL s).drop 0)).2.2 = (a', e') ∧
    ((4096 < s.size ∧ x = [] ∧ e' = 12) ∨ (¬ 4096 < s.size ∧ Lib.validD (bs s) = false ∧ x = [] ∧ e' = 11) ∨ (¬ 4096 < s.size ∧ Lib.validD (bs s) = true ∧ x = bs s ∧ e' = 0 ∧ a' = (textL s).length)) := by
  have h := textR_of s [] (by omega)
  rw [List.append_nil] at h
  refine ⟨_, _, _, rfl, rfl, ?_⟩
  rw [List.drop_zero, h]
  by_cases h1 : 4096 < s.size
  · rw [if_pos h1]; exact .inl ⟨h1, rfl, rfl⟩
  · rw [if_neg h1]
    cases h2 : Lib.validD (bs s) with
    | true => rw [if_pos rfl]; exact .inr (.inr ⟨h1, rfl, rfl, rfl, Nat.zero_add _⟩)
    | false => rw [if_neg (by decide)]; exact .inr (.inl ⟨h1, rfl, rfl, rfl⟩)
theorem PackTexts_walk (s : ByteArray) (w0 : World) (x0 : s.size ≤ 140737488351232) (hT : Tabs w0.heap.size w0) : Does Tryd.prog 7 #[.string s] w0 (fun r w' => r = .bool true ∧ Nw w0 w') := by
  refine fn_of (n := 53) (args := [.string s]) Tryd.func7 rfl rfl rfl ?_
  refine W_seq ?_
  refine W_region ?_
  refine L_run (.plain rfl) rfl rfl (r_assign (v := .bool _) rfl) ?_
  refine L_nil ?_
  refine W_seq ?_
  refine W_seq ?_
  refine W_region ?_
  refine L_run (.plain rfl) rfl rfl (r_move (v := .string _) rfl) ?_
  refine L_run (.plain rfl) rfl rfl (r_lens Tryd.underlying9 rfl) ?_
  refine L_run (.plain rfl) rfl rfl (r_gtr rfl rfl) ?_
  refine L_nil ?_
  refine W_if rfl (fun h9 => ?_) (fun h9 => ?_)
  · refine W_seq ?_
    refine W_region ?_
    refine L_call (.plain rfl) rfl rfl (r_call Tryd.func11 rfl rfl rfl (by rfl)) (awake_walk w0.heap.size _ (hT.nw (by (repeat (first | exact Ch.refl _ | assumption | (refine Ch.fresh ?_ (by assumption) (by intro i hi he; first | exact he | (exfalso; have he2 : i = _ := he; omega)))))) (by omega)) (by omega)) ?_
    rintro v10 w1 ⟨rfl, c1⟩
    have hz1 := c1.size
    refine L_run (.plain rfl) rfl rfl (r_assign (v := .bool _) rfl) ?_
    refine L_nil ?_
    refine W_ret ?_
    refine ret1 (v := .bool _) rfl rfl ?_
    first
    | exact ⟨rfl, by (repeat (first | exact Ch.refl _ | assumption | (refine Ch.fresh ?_ (by assumption) (by intro i hi he; first | exact he | (exfalso; have he2 : i = _ := he; omega)))))⟩
    | (rcases hcase with ⟨k1, rfl, rfl⟩ | ⟨k1, k2, rfl, rfl⟩ | ⟨k1, k2, rfl, rfl, rfl⟩
       all_goals first
       | (exfalso; omega)
       | (exfalso; first | exact h33 rfl | exact h42 rfl | exact h49 (sb_bs s))
       | (exfalso; rw [k2] at h39; exact absurd h39 (by decide))
       | exact ⟨congrArg Value.bool (decide_eq_true rfl), by (repeat (first | exact Ch.refl _ | assumption | (refine Ch.fresh ?_ (by assumption) (by intro i hi he; first | exact he | (exfalso; have he2 : i = _ := he; omega)))))⟩
       | exact ⟨congrArg Value.bool (decide_eq_true (if_neg (fun h => h.2 rfl))), by (repeat (first | exact Ch.refl _ | assumption | (refine Ch.fresh ?_ (by assumption) (by intro i hi he; first | exact he | (exfalso; have he2 : i = _ := he; omega)))))⟩)
  · obtain ⟨x, a', e', hx, hn, hcase⟩ := texts_case s (by omega)
    have hten := varL_ten (v := s.size) (by omega)
    have hll : (textL s).length = (varL s.size).length + s.size := by rw [textL, List.length_append, bs_length]
    refine W_skip ?_
    refine W_seq ?_
    refine W_region ?_
    refine L_run (.plain rfl) rfl rfl (r_move (v := .string _) rfl) ?_
    refine L_call (.plain rfl) rfl rfl (r_call Tryd.func24 rfl rfl rfl (by rfl)) (rtext_walk s _ (by omega)) ?_
    rintro v12 w2 ⟨rfl, c2⟩
    have hz2 := c2.size
    rw [← sb_text]
    refine L_sbytes Tryd.underlying9 Tryd.underlying26 Tryd.underlying5 (by first | omega | (simp only [sb_size, ByteArray.size_append]; omega)) (.plain rfl) rfl rfl (fun v13 w3 hv13 c3 eb3 hs3 => ?_)
    refine L_call (.plain rfl) rfl rfl (r_call Tryd.func27 rfl rfl rfl (by rfl)) (read_walk _ (textL s) _ (by (exact Sl.to (by first | assumption | exact Sl.own (by assumption) | exact Mu.sl (by assumption) | exact Ow.sl (by assumption)) (fun i hi => by (repeat (first | exact Sm.refl _ _ | (refine Sm.stepT (by assumption) (by intro hlt hsm; exact not_no) ?_)))))) (by omega)) ?_
    rintro v14 w4 ⟨b3, v3, rfl, hR3, c4⟩
    have hz4 := c4.size
    have hlo3 := hR3.hb
    refine L_run (.plain rfl) rfl rfl (r_assign (v := .pointer _) rfl) ?_
    refine L_nil ?_
    refine W_seq ?_
    refine W_seq ?_
    refine W_region ?_
    refine L_call (.plain rfl) rfl rfl (r_call Tryd.func11 rfl rfl rfl (by rfl)) (awake_walk w0.heap.size _ (hT.nw (by (repeat (first | exact Ch.refl _ | assumption | (refine Ch.fresh ?_ (by assumption) (by intro i hi he; first | exact he | (exfalso; have he2 : i = _ := he; omega)))))) (by omega)) (by omega)) ?_
    rintro v15 w5 ⟨rfl, c5⟩
    have hz5 := c5.size
    refine L_run (.plain rfl) rfl rfl (r_not rfl) ?_
    refine L_as (v := .bool _) (v' := .bool false) 16 rfl (congrArg Value.bool (by simp)) ?_
    refine L_run (.plain rfl) rfl rfl (r_move (v := .bool _) rfl) ?_
    refine L_run (.yes 2 false rfl rfl) rfl rfl (r_move (v := .pointer _) rfl) ?_
    refine L_run (.yes 2 false rfl rfl) rfl rfl (r_eqpnil Tryd.underlying46 rfl rfl) ?_
    refine L_run (.plain rfl) rfl rfl (r_pick_f (v := .bool _) rfl rfl) ?_
    refine L_as (v := .bool _) (v' := .bool false) 20 rfl (congrArg Value.bool (by simp)) ?_
    refine L_nil ?_
    refine W_false rfl ?_
    refine W_skip ?_
    refine W_seq ?_
    refine W_region ?_
    refine L_run (.plain rfl) rfl rfl (r_move (v := .pointer _) rfl) ?_
    refine L_call (.plain rfl) rfl rfl (r_call Tryd.func31 rfl rfl rfl (by rfl)) (rdtext_to (hR3.nw (by (repeat (first | exact Ch.refl _ | assumption | (refine Ch.fresh ?_ (by assumption) (by intro i hi he; first | exact he | (exfalso; have he2 : i = _ := he; omega))))))) ((hT.nw (by (repeat (first | exact Ch.refl _ | assumption | (refine Ch.fresh ?_ (by assumption) (by intro i hi he; first | exact he | (exfalso; have he2 : i = _ := he; omega)))))) (by omega)).mono (by omega)) (by omega) x a' e' hx hn) ?_
    rintro v22 w6 ⟨rfl, hR4, c6⟩
    have hz6 := c6.size
    refine L_run (.plain rfl) rfl rfl (r_assign (v := .string _) rfl) ?_
    refine L_nil ?_
    refine W_seq ?_
    refine W_region ?_
    refine L_run (.plain rfl) rfl rfl (r_move (v := .pointer _) rfl) ?_
    refine L_call (.plain rfl) rfl rfl (r_call Tryd.func32 rfl rfl rfl (by rfl)) (rdend_walk _ b3 _ _ _ _ _ (hR4.nw (by (repeat (first | exact Ch.refl _ | assumption | (refine Ch.fresh ?_ (by assumption) (by intro i hi he; first | exact he | (exfalso; have he2 : i = _ := he; omega)))))))) ?_
    rintro v25 w7 ⟨rfl, c7⟩
    have hz7 := c7.size
    refine L_run (.plain rfl) rfl rfl (r_move (by conv => lhs; whnf)) ?_
    refine L_run (.plain rfl) rfl rfl (r_ext2_0 rfl) ?_
    refine L_run (.plain rfl) rfl rfl (r_ext2_1 rfl) ?_
    refine L_run (.plain rfl) rfl rfl (r_assign (v := .int _ _) rfl) ?_
    refine L_run (.plain rfl) rfl rfl (r_assign (v := .int _ _) rfl) ?_
    refine L_nil ?_
    refine W_seq ?_
    refine W_seq ?_
    refine W_region ?_
    refine L_run (.plain rfl) rfl rfl (r_move (v := .string _) rfl) ?_
    refine L_run (.plain rfl) rfl rfl (r_lens Tryd.underlying9 rfl) ?_
    refine L_run (.plain rfl) rfl rfl (r_gtr rfl rfl) ?_
    refine L_nil ?_
    refine W_if rfl (fun h30 => ?_) (fun h30 => ?_)
    · refine W_seq ?_
      refine W_region ?_
      refine L_run (.plain rfl) rfl rfl (r_move (v := .string _) rfl) ?_
      refine L_run (.plain rfl) rfl rfl (r_eqls rfl rfl) ?_
      refine L_run (.plain rfl) rfl rfl (r_move (v := .bool _) rfl) ?_
      refine L_case (d := 33) rfl (fun h33 => ?_) (fun h33 => ?_)
      · refine L_run (.yes 2 true rfl rfl) rfl rfl (r_move (v := .int _ _) rfl) ?_
        refine L_run (.yes 2 true rfl rfl) rfl rfl (r_eql rfl rfl) ?_
        refine L_run (.plain rfl) rfl rfl (r_pick_t (v := .bool _) rfl rfl) ?_
        refine L_run (.plain rfl) rfl rfl (r_assign (v := .bool _) rfl) ?_
        refine L_nil ?_
        refine W_ret ?_
        refine ret1 (v := .bool _) rfl rfl ?_
        first
        | exact ⟨rfl, by (repeat (first | exact Ch.refl _ | assumption | (refine Ch.fresh ?_ (by assumption) (by intro i hi he; first | exact he | (exfalso; have he2 : i = _ := he; omega)))))⟩
        | (rcases hcase with ⟨k1, rfl, rfl⟩ | ⟨k1, k2, rfl, rfl⟩ | ⟨k1, k2, rfl, rfl, rfl⟩
           all_goals first
           | (exfalso; omega)
           | (exfalso; first | exact h33 rfl | exact h42 rfl | exact h49 (sb_bs s))
           | (exfalso; rw [k2] at h39; exact absurd h39 (by decide))
           | exact ⟨congrArg Value.bool (decide_eq_true rfl), by (repeat (first | exact Ch.refl _ | assumption | (refine Ch.fresh ?_ (by assumption) (by intro i hi he; first | exact he | (exfalso; have he2 : i = _ := he; omega)))))⟩
           | exact ⟨congrArg Value.bool (decide_eq_true (if_neg (fun h => h.2 rfl))), by (repeat (first | exact Ch.refl _ | assumption | (refine Ch.fresh ?_ (by assumption) (by intro i hi he; first | exact he | (exfalso; have he2 : i = _ := he; omega)))))⟩)
      · refine L_pass rfl rfl rfl rfl rfl ?_
        refine L_pass rfl rfl rfl rfl rfl ?_
        refine L_run (.plain rfl) rfl rfl (r_pick_f (v := .bool _) rfl rfl) ?_
        refine L_run (.plain rfl) rfl rfl (r_assign (v := .bool _) rfl) ?_
        refine L_nil ?_
        refine W_ret ?_
        refine ret1 (v := .bool _) rfl rfl ?_
        first
        | exact ⟨rfl, by (repeat (first | exact Ch.refl _ | assumption | (refine Ch.fresh ?_ (by assumption) (by intro i hi he; first | exact he | (exfalso; have he2 : i = _ := he; omega)))))⟩
        | (rcases hcase with ⟨k1, rfl, rfl⟩ | ⟨k1, k2, rfl, rfl⟩ | ⟨k1, k2, rfl, rfl, rfl⟩
           all_goals first
           | (exfalso; omega)
           | (exfalso; first | exact h33 rfl | exact h42 rfl | exact h49 (sb_bs s))
           | (exfalso; rw [k2] at h39; exact absurd h39 (by decide))
           | exact ⟨congrArg Value.bool (decide_eq_true rfl), by (repeat (first | exact Ch.refl _ | assumption | (refine Ch.fresh ?_ (by assumption) (by intro i hi he; first | exact he | (exfalso; have he2 : i = _ := he; omega)))))⟩
           | exact ⟨congrArg Value.bool (decide_eq_true (if_neg (fun h => h.2 rfl))), by (repeat (first | exact Ch.refl _ | assumption | (refine Ch.fresh ?_ (by assumption) (by intro i hi he; first | exact he | (exfalso; have he2 : i = _ := he; omega)))))⟩)
    · refine W_skip ?_
      refine W_seq ?_
      refine W_seq ?_
      refine W_region ?_
      refine L_run (.plain rfl) rfl rfl (r_move (v := .string _) rfl) ?_
      refine L_call (.plain rfl) rfl rfl (r_call Tryd.func26 rfl rfl rfl (by rfl)) (whole_walk s _) ?_
      rintro v38 w8 ⟨rfl, c8⟩
      have hz8 := c8.size
      refine L_run (.plain rfl) rfl rfl (r_not rfl) ?_
      refine L_nil ?_
      refine W_bool rfl (fun h39 => ?_) (fun h39 => ?_)
      · refine W_seq ?_
        refine W_region ?_
        refine L_run (.plain rfl) rfl rfl (r_move (v := .string _) rfl) ?_
        refine L_run (.plain rfl) rfl rfl (r_eqls rfl rfl) ?_
        refine L_run (.plain rfl) rfl rfl (r_move (v := .bool _) rfl) ?_
        refine L_case (d := 42) rfl (fun h42 => ?_) (fun h42 => ?_)
        · refine L_run (.yes 2 true rfl rfl) rfl rfl (r_move (v := .int _ _) rfl) ?_
          refine L_run (.yes 2 true rfl rfl) rfl rfl (r_eql rfl rfl) ?_
          refine L_run (.plain rfl) rfl rfl (r_pick_t (v := .bool _) rfl rfl) ?_
          refine L_run (.plain rfl) rfl rfl (r_assign (v := .bool _) rfl) ?_
          refine L_nil ?_
          refine W_ret ?_
          refine ret1 (v := .bool _) rfl rfl ?_
          first
          | exact ⟨rfl, by (repeat (first | exact Ch.refl _ | assumption | (refine Ch.fresh ?_ (by assumption) (by intro i hi he; first | exact he | (exfalso; have he2 : i = _ := he; omega)))))⟩
          | (rcases hcase with ⟨k1, rfl, rfl⟩ | ⟨k1, k2, rfl, rfl⟩ | ⟨k1, k2, rfl, rfl, rfl⟩
             all_goals first
             | (exfalso; omega)
             | (exfalso; first | exact h33 rfl | exact h42 rfl | exact h49 (sb_bs s))
             | (exfalso; rw [k2] at h39; exact absurd h39 (by decide))
             | exact ⟨congrArg Value.bool (decide_eq_true rfl), by (repeat (first | exact Ch.refl _ | assumption | (refine Ch.fresh ?_ (by assumption) (by intro i hi he; first | exact he | (exfalso; have he2 : i = _ := he; omega)))))⟩
             | exact ⟨congrArg Value.bool (decide_eq_true (if_neg (fun h => h.2 rfl))), by (repeat (first | exact Ch.refl _ | assumption | (refine Ch.fresh ?_ (by assumption) (by intro i hi he; first | exact he | (exfalso; have he2 : i = _ := he; omega)))))⟩)
        · refine L_pass rfl rfl rfl rfl rfl ?_
          refine L_pass rfl rfl rfl rfl rfl ?_
          refine L_run (.plain rfl) rfl rfl (r_pick_f (v := .bool _) rfl rfl) ?_
          refine L_run (.plain rfl) rfl rfl (r_assign (v := .bool _) rfl) ?_
          refine L_nil ?_
          refine W_ret ?_
          refine ret1 (v := .bool _) rfl rfl ?_
          first
          | exact ⟨rfl, by (repeat (first | exact Ch.refl _ | assumption | (refine Ch.fresh ?_ (by assumption) (by intro i hi he; first | exact he | (exfalso; have he2 : i = _ := he; omega)))))⟩
          | (rcases hcase with ⟨k1, rfl, rfl⟩ | ⟨k1, k2, rfl, rfl⟩ | ⟨k1, k2, rfl, rfl, rfl⟩
             all_goals first
             | (exfalso; omega)
             | (exfalso; first | exact h33 rfl | exact h42 rfl | exact h49 (sb_bs s))
             | (exfalso; rw [k2] at h39; exact absurd h39 (by decide))
             | exact ⟨congrArg Value.bool (decide_eq_true rfl), by (repeat (first | exact Ch.refl _ | assumption | (refine Ch.fresh ?_ (by assumption) (by intro i hi he; first | exact he | (exfalso; have he2 : i = _ := he; omega)))))⟩
             | exact ⟨congrArg Value.bool (decide_eq_true (if_neg (fun h => h.2 rfl))), by (repeat (first | exact Ch.refl _ | assumption | (refine Ch.fresh ?_ (by assumption) (by intro i hi he; first | exact he | (exfalso; have he2 : i = _ := he; omega)))))⟩)
      · refine W_skip ?_
        refine W_seq ?_
        refine W_region ?_
        refine L_run (.plain rfl) rfl rfl (r_move (v := .string _) rfl) ?_
        refine L_run (.plain rfl) rfl rfl (r_move (v := .string _) rfl) ?_
        refine L_run (.plain rfl) rfl rfl (r_eqls rfl rfl) ?_
        refine L_run (.plain rfl) rfl rfl (r_move (v := .bool _) rfl) ?_
        refine L_case (d := 49) rfl (fun h49 => ?_) (fun h49 => ?_)
        · refine L_run (.yes 3 true rfl rfl) rfl rfl (r_move (v := .int _ _) rfl) ?_
          refine L_run (.yes 3 true rfl rfl) rfl rfl (r_eql rfl rfl) ?_
          refine L_run (.plain rfl) rfl rfl (r_pick_t (v := .bool _) rfl rfl) ?_
          refine L_run (.plain rfl) rfl rfl (r_assign (v := .bool _) rfl) ?_
          refine L_nil ?_
          refine W_ret ?_
          refine ret1 (v := .bool _) rfl rfl ?_
          first
          | exact ⟨rfl, by (repeat (first | exact Ch.refl _ | assumption | (refine Ch.fresh ?_ (by assumption) (by intro i hi he; first | exact he | (exfalso; have he2 : i = _ := he; omega)))))⟩
          | (rcases hcase with ⟨k1, rfl, rfl⟩ | ⟨k1, k2, rfl, rfl⟩ | ⟨k1, k2, rfl, rfl, rfl⟩
             all_goals first
             | (exfalso; omega)
             | (exfalso; first | exact h33 rfl | exact h42 rfl | exact h49 (sb_bs s))
             | (exfalso; rw [k2] at h39; exact absurd h39 (by decide))
             | exact ⟨congrArg Value.bool (decide_eq_true rfl), by (repeat (first | exact Ch.refl _ | assumption | (refine Ch.fresh ?_ (by assumption) (by intro i hi he; first | exact he | (exfalso; have he2 : i = _ := he; omega)))))⟩
             | exact ⟨congrArg Value.bool (decide_eq_true (if_neg (fun h => h.2 rfl))), by (repeat (first | exact Ch.refl _ | assumption | (refine Ch.fresh ?_ (by assumption) (by intro i hi he; first | exact he | (exfalso; have he2 : i = _ := he; omega)))))⟩)
        · refine L_pass rfl rfl rfl rfl rfl ?_
          refine L_pass rfl rfl rfl rfl rfl ?_
          refine L_run (.plain rfl) rfl rfl (r_pick_f (v := .bool _) rfl rfl) ?_
          refine L_run (.plain rfl) rfl rfl (r_assign (v := .bool _) rfl) ?_
          refine L_nil ?_
          refine W_ret ?_
          refine ret1 (v := .bool _) rfl rfl ?_
          first
          | exact ⟨rfl, by (repeat (first | exact Ch.refl _ | assumption | (refine Ch.fresh ?_ (by assumption) (by intro i hi he; first | exact he | (exfalso; have he2 : i = _ := he; omega)))))⟩
          | (rcases hcase with ⟨k1, rfl, rfl⟩ | ⟨k1, k2, rfl, rfl⟩ | ⟨k1, k2, rfl, rfl, rfl⟩
             all_goals first
             | (exfalso; omega)
             | (exfalso; first | exact h33 rfl | exact h42 rfl | exact h49 (sb_bs s))
             | (exfalso; rw [k2] at h39; exact absurd h39 (by decide))
             | exact ⟨congrArg Value.bool (decide_eq_true rfl), by (repeat (first | exact Ch.refl _ | assumption | (refine Ch.fresh ?_ (by assumption) (by intro i hi he; first | exact he | (exfalso; have he2 : i = _ := he; omega)))))⟩
             | exact ⟨congrArg Value.bool (decide_eq_true (if_neg (fun h => h.2 rfl))), by (repeat (first | exact Ch.refl _ | assumption | (refine Ch.fresh ?_ (by assumption) (by intro i hi he; first | exact he | (exfalso; have he2 : i = _ := he; omega)))))⟩)
end Go.Proofs.YtikpcphlmlgojaaDoor

