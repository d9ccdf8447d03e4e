/- Names, walked. -/
import Derived.Test.YtcbcelfgbelaoaaDoorRows
import Derived.Test.YtcbcelfgbelaoaaDoorIter
namespace Go.Proofs.YtcbcelfgbelaoaaDoor
open Go Go.RowKit
set_option linter.unusedVariables false
set_option linter.unusedSimpArgs false
def greatC (c : Int) : Prop := 65 ≤ c ∧ c ≤ 90
def smallC (c : Int) : Prop := 97 ≤ c ∧ c ≤ 122
def digitC (c : Int) : Prop := 48 ≤ c ∧ c ≤ 57
instance (c : Int) : Decidable (greatC c) := inferInstanceAs (Decidable (_ ∧ _))
instance (c : Int) : Decidable (smallC c) := inferInstanceAs (Decidable (_ ∧ _))
instance (c : Int) : Decidable (digitC c) := inferInstanceAs (Decidable (_ ∧ _))
def nameC (c : Int) : Prop := greatC c ∨ smallC c ∨ digitC c
instance (c : Int) : Decidable (nameC c) := inferInstanceAs (Decidable (_ ∨ _))
theorem bool_dec {p q : Prop} [Decidable p] [Decidable q] (h : p ↔ q) : (Value.bool (decide p)) = .bool (decide q) := by
  by_cases hp : p
  · rw [decide_eq_true hp, decide_eq_true (h.1 hp)]
  · rw [decide_eq_false hp, decide_eq_false (fun hq => hp (h.2 hq))]
theorem bool_t {q : Prop} [Decidable q] (h : q) : (Value.bool true) = .bool (decide q) := by rw [decide_eq_true h]
theorem bool_f {q : Prop} [Decidable q] (h : ¬ q) : (Value.bool false) = .bool (decide q) := by rw [decide_eq_false h]
theorem great_walk (c : Int) (w0 : World) : Does Tryd.prog 49 #[.int .i32 c] w0 (fun r w' => r = .bool (decide (greatC c)) ∧ w' = w0) := by
  refine fn_of (n := 9) (args := [.int .i32 c]) Tryd.func49 rfl rfl rfl ?_
  refine W_seq ?_
  refine W_region ?_
  refine L_run (.plain rfl) rfl rfl (r_assign (v := .bool _) rfl) ?_
  refine L_nil ?_
  refine W_seq ?_
  refine W_region ?_
  refine L_run (.plain rfl) rfl rfl (r_move (v := .int _ _) rfl) ?_
  refine L_run (.plain rfl) rfl rfl (r_geq rfl rfl) ?_
  refine L_run (.plain rfl) rfl rfl (r_move (v := .bool _) rfl) ?_
  refine L_case (d := 5) rfl (fun h5 => ?_) (fun h5 => ?_)
  · refine L_run (.yes 2 true rfl rfl) rfl rfl (r_move (v := .int _ _) rfl) ?_
    refine L_run (.yes 2 true rfl rfl) rfl rfl (r_leq rfl rfl) ?_
    refine L_run (.plain rfl) rfl rfl (r_pick_t (v := .bool _) rfl rfl) ?_
    refine L_run (.plain rfl) rfl rfl (r_assign (v := .bool _) rfl) ?_
    refine L_nil ?_
    refine W_ret ?_
    refine ret1 (v := .bool _) rfl rfl ?_
    exact ⟨by first | (apply bool_dec; unfold greatC; omega) | (apply bool_t; unfold greatC; omega) | (apply bool_f; unfold greatC; omega), rfl⟩
  · refine L_pass rfl rfl rfl rfl rfl ?_
    refine L_pass rfl rfl rfl rfl rfl ?_
    refine L_run (.plain rfl) rfl rfl (r_pick_f (v := .bool _) rfl rfl) ?_
    refine L_run (.plain rfl) rfl rfl (r_assign (v := .bool _) rfl) ?_
    refine L_nil ?_
    refine W_ret ?_
    refine ret1 (v := .bool _) rfl rfl ?_
    exact ⟨by first | (apply bool_dec; unfold greatC; omega) | (apply bool_t; unfold greatC; omega) | (apply bool_f; unfold greatC; omega), rfl⟩
theorem small_walk (c : Int) (w0 : World) : Does Tryd.prog 50 #[.int .i32 c] w0 (fun r w' => r = .bool (decide (smallC c)) ∧ w' = w0) := by
  refine fn_of (n := 9) (args := [.int .i32 c]) Tryd.func50 rfl rfl rfl ?_
  refine W_seq ?_
  refine W_region ?_
  refine L_run (.plain rfl) rfl rfl (r_assign (v := .bool _) rfl) ?_
  refine L_nil ?_
  refine W_seq ?_
  refine W_region ?_
  refine L_run (.plain rfl) rfl rfl (r_move (v := .int _ _) rfl) ?_
  refine L_run (.plain rfl) rfl rfl (r_geq rfl rfl) ?_
  refine L_run (.plain rfl) rfl rfl (r_move (v := .bool _) rfl) ?_
  refine L_case (d := 5) rfl (fun h5 => ?_) (fun h5 => ?_)
  · refine L_run (.yes 2 true rfl rfl) rfl rfl (r_move (v := .int _ _) rfl) ?_
    refine L_run (.yes 2 true rfl rfl) rfl rfl (r_leq rfl rfl) ?_
    refine L_run (.plain rfl) rfl rfl (r_pick_t (v := .bool _) rfl rfl) ?_
    refine L_run (.plain rfl) rfl rfl (r_assign (v := .bool _) rfl) ?_
    refine L_nil ?_
    refine W_ret ?_
    refine ret1 (v := .bool _) rfl rfl ?_
    exact ⟨by first | (apply bool_dec; unfold smallC; omega) | (apply bool_t; unfold smallC; omega) | (apply bool_f; unfold smallC; omega), rfl⟩
  · refine L_pass rfl rfl rfl rfl rfl ?_
    refine L_pass rfl rfl rfl rfl rfl ?_
    refine L_run (.plain rfl) rfl rfl (r_pick_f (v := .bool _) rfl rfl) ?_
    refine L_run (.plain rfl) rfl rfl (r_assign (v := .bool _) rfl) ?_
    refine L_nil ?_
    refine W_ret ?_
    refine ret1 (v := .bool _) rfl rfl ?_
    exact ⟨by first | (apply bool_dec; unfold smallC; omega) | (apply bool_t; unfold smallC; omega) | (apply bool_f; unfold smallC; omega), rfl⟩
theorem nmc_walk (c : Int) (w0 : World) : Does Tryd.prog 48 #[.int .i32 c] w0 (fun r w' => r = .bool (decide (nameC c)) ∧ w' = w0) := by
  refine fn_of (n := 17) (args := [.int .i32 c]) Tryd.func48 rfl rfl rfl ?_
  refine W_seq ?_
  refine W_region ?_
  refine L_run (.plain rfl) rfl rfl (r_assign (v := .bool _) rfl) ?_
  refine L_nil ?_
  refine W_seq ?_
  refine W_region ?_
  refine L_run (.plain rfl) rfl rfl (r_move (v := .int _ _) rfl) ?_
  refine L_call (.plain rfl) rfl rfl (r_call Tryd.func49 rfl rfl rfl (by rfl)) (great_walk c _) ?_
  rintro v4 w1 ⟨rfl, rfl⟩
  refine L_run (.plain rfl) rfl rfl (r_move (v := .bool _) rfl) ?_
  refine L_caseb (d := 5) rfl (fun h5 => ?_) (fun h5 => ?_)
  · refine L_pass rfl rfl rfl rfl rfl ?_
    refine L_pass rfl rfl rfl rfl rfl ?_
    refine L_run (.plain rfl) rfl rfl (r_pick_t (v := .bool _) rfl rfl) ?_
    refine L_run (.plain rfl) rfl rfl (r_move (v := .bool _) rfl) ?_
    refine L_pass rfl rfl rfl rfl rfl ?_
    refine L_pass rfl rfl rfl rfl rfl ?_
    refine L_pass rfl rfl rfl rfl rfl ?_
    refine L_passu rfl rfl rfl rfl ?_
    refine L_passu rfl rfl rfl rfl ?_
    refine L_pass rfl rfl rfl rfl rfl ?_
    refine L_run (.plain rfl) rfl rfl (r_pick_t (v := .bool _) rfl rfl) ?_
    refine L_run (.plain rfl) rfl rfl (r_assign (v := .bool _) rfl) ?_
    refine L_nil ?_
    refine W_ret ?_
    refine ret1 (v := .bool _) rfl rfl ?_
    refine ⟨?_, rfl⟩
    (try simp only [decide_eq_true_eq, decide_eq_false_iff_not] at *)
    first | (apply bool_dec; unfold nameC greatC smallC digitC at *; omega) | (apply bool_t; unfold nameC greatC smallC digitC at *; omega) | (apply bool_f; unfold nameC greatC smallC digitC at *; omega)
  · refine L_run (.yes 2 false rfl rfl) rfl rfl (r_move (v := .int _ _) rfl) ?_
    refine L_call (.yes 2 false rfl rfl) rfl rfl (r_call Tryd.func50 rfl rfl rfl (by rfl)) (small_walk c _) ?_
    rintro v7 w2 ⟨rfl, rfl⟩
    refine L_run (.plain rfl) rfl rfl (r_pick_f (v := .bool _) rfl rfl) ?_
    refine L_run (.plain rfl) rfl rfl (r_move (v := .bool _) rfl) ?_
    refine L_caseb (d := 9) rfl (fun h9 => ?_) (fun h9 => ?_)
    · refine L_pass rfl rfl rfl rfl rfl ?_
      refine L_pass rfl rfl rfl rfl rfl ?_
      refine L_pass rfl rfl rfl rfl rfl ?_
      refine L_passu rfl rfl rfl rfl ?_
      refine L_passu rfl rfl rfl rfl ?_
      refine L_pass rfl rfl rfl rfl rfl ?_
      refine L_run (.plain rfl) rfl rfl (r_pick_t (v := .bool _) rfl rfl) ?_
      refine L_run (.plain rfl) rfl rfl (r_assign (v := .bool _) rfl) ?_
      refine L_nil ?_
      refine W_ret ?_
      refine ret1 (v := .bool _) rfl rfl ?_
      refine ⟨?_, rfl⟩
      (try simp only [decide_eq_true_eq, decide_eq_false_iff_not] at *)
      first | (apply bool_dec; unfold nameC greatC smallC digitC at *; omega) | (apply bool_t; unfold nameC greatC smallC digitC at *; omega) | (apply bool_f; unfold nameC greatC smallC digitC at *; omega)
    · refine L_run (.yes 6 false rfl rfl) rfl rfl (r_move (v := .int _ _) rfl) ?_
      refine L_run (.yes 6 false rfl rfl) rfl rfl (r_geq rfl rfl) ?_
      refine L_run (.yes 6 false rfl rfl) rfl rfl (r_move (v := .bool _) rfl) ?_
      refine L_case (d := 12) rfl (fun h12 => ?_) (fun h12 => ?_)
      · refine L_run (.yes 9 true rfl rfl) rfl rfl (r_move (v := .int _ _) rfl) ?_
        refine L_run (.yes 9 true rfl rfl) rfl rfl (r_leq rfl rfl) ?_
        refine L_run (.yes 6 false rfl rfl) rfl rfl (r_pick_t (v := .bool _) rfl rfl) ?_
        refine L_run (.plain rfl) rfl rfl (r_pick_f (v := .bool _) rfl rfl) ?_
        refine L_run (.plain rfl) rfl rfl (r_assign (v := .bool _) rfl) ?_
        refine L_nil ?_
        refine W_ret ?_
        refine ret1 (v := .bool _) rfl rfl ?_
        refine ⟨?_, rfl⟩
        (try simp only [decide_eq_true_eq, decide_eq_false_iff_not] at *)
        first | (apply bool_dec; unfold nameC greatC smallC digitC at *; omega) | (apply bool_t; unfold nameC greatC smallC digitC at *; omega) | (apply bool_f; unfold nameC greatC smallC digitC at *; omega)
      · refine L_pass rfl rfl rfl rfl rfl ?_
        refine L_pass rfl rfl rfl rfl rfl ?_
        refine L_run (.yes 6 false rfl rfl) rfl rfl (r_pick_f (v := .bool _) rfl rfl) ?_
        refine L_run (.plain rfl) rfl rfl (r_pick_f (v := .bool _) rfl rfl) ?_
        refine L_run (.plain rfl) rfl rfl (r_assign (v := .bool _) rfl) ?_
        refine L_nil ?_
        refine W_ret ?_
        refine ret1 (v := .bool _) rfl rfl ?_
        refine ⟨?_, rfl⟩
        (try simp only [decide_eq_true_eq, decide_eq_false_iff_not] at *)
        first | (apply bool_dec; unfold nameC greatC smallC digitC at *; omega) | (apply bool_t; unfold nameC greatC smallC digitC at *; omega) | (apply bool_f; unfold nameC greatC smallC digitC at *; omega)
def allN (s : ByteArray) : Prop := ∀ i, i < s.size → nameC (bat s i).toNat
instance (s : ByteArray) : Decidable (allN s) := inferInstanceAs (Decidable (∀ i, i < s.size → _))
theorem dec_nm (s : ByteArray) (a : Nat) (h : a < s.size) : (nameC ((Utf8.decode s a).1 : Nat) → (Utf8.decode s a).2 = 1 ∧ nameC (bat s a).toNat) ∧ (¬ nameC ((Utf8.decode s a).1 : Nat) → ¬ nameC (bat s a).toNat) := by
  have hb : (bat s a) = s[a]'h := by
    unfold bat bs
    rw [List.getD_eq_getElem?_getD, Array.getElem?_toList, Array.getElem?_eq_getElem (by exact h)]
    rfl
  rw [hb]
  by_cases ha : (s[a]'h).toNat < 128
  · rw [decode_ascii s a h ha]; exact ⟨fun h => ⟨rfl, h⟩, fun h => h⟩
  · have := decode_high s a h (by omega)
    have h2 : ¬ nameC ((s[a]'h).toNat : Int) := by unfold nameC greatC smallC digitC; omega
    exact ⟨fun h3 => by unfold nameC greatC smallC digitC at h3; omega, fun _ => h2⟩
theorem all_walk (s : ByteArray) (w0 : World) : Does Tryd.prog 47 #[.string s, .func (.func 48) #[] #[]] w0 (fun r w' => r = .bool (decide (allN s)) ∧ Nw w0 w') := by
  refine fn_of (n := 16) (args := [.string s, .func (.func 48) #[] #[]]) Tryd.func47 rfl rfl rfl ?_
  refine W_seq ?_
  refine W_region ?_
  refine L_run (.plain rfl) rfl rfl (r_assign (v := .bool _) rfl) ?_
  refine L_nil ?_
  refine W_seq ?_
  refine W_seq ?_
  refine W_region ?_
  refine L_run (.plain rfl) rfl rfl (r_move (v := .string _) rfl) ?_
  refine L_ranges Tryd.underlying9 (.plain rfl) rfl rfl (fun w1 b8 hit8 eb1 hs1 c1 => ?_)
  refine L_nil ?_
  refine W_block ?_
  refine W_loopF [1, 8] (fun mz_ f W => ∃ (a : Nat), True ∧ (a ≤ s.size ∧ Its W b8 s a ∧ (∀ i, i < a → nameC (bat s i).toNat) ∧ Nw w0 W) ∧ mz_ = s.size - a) ?_ ?_
  · refine ⟨_, 0, trivial, ?_, rfl⟩
    exact ⟨by omega, by (first | assumption | exact Its.to (by assumption) (by (repeat (first | exact Sm.refl _ _ | (refine Sm.stepT (by assumption) (by intro hlt hsm; first | exact not_no | (intro he; have he2 : _ = some _ := he; have := own_base (by assumption) he2; omega) | (intro he; have he2 : _ = _ := he; omega) | (intro he; have he2 : _ = some _ := he; have := ow_base (by assumption) he2; omega) | (intro he; have := he.1; omega) | exact bk_not (by assumption) hsm rfl | exact mp_not (by assumption) hsm | exact bkm_not (by assumption) hsm rfl | exact ownm_not (by assumption) hi hsm rfl | exact owm_not (by assumption) hi hsm rfl | exact own_not (by assumption) hi hsm rfl | exact ow_not (by assumption) hi hsm rfl | (intro he; have he2 : _ = some _ := he; have := Ow.lt (by assumption) he2; omega) | (intro he; have he2 : _ = some _ := he; have := Ow.lt (by assumption) he2; have := own_base (by assumption) hi; omega) | (intro he; have he2 : _ = some _ := he; have := Ow.lt how he2; first | omega | (have := own_base (by assumption) hi; omega)) | (intro he; have he2 : _ = _ := he; have := Ow.lt how hi; omega) | (intro he; have he2 : _ = _ := he; have := own_base (by assumption) hi; omega) | (intro he; have he2 : _ = _ := he; have := ow_base (by assumption) hi; omega) | (intro he; have he2 : _ = _ := he; rw [he2] at hi; exact absurd hi (by assumption)) | (intro he; have he2 : _ = some _ := he; have h3 := own_lt (by assumption) he2; first | omega | (have h4 : _ = some _ := hi; simp [Value.ownBlock] at h4; omega)) | (intro he; have he2 : _ = some _ := he; have h3 := ow_base (by assumption) he2; have h4 : _ = some _ := hi; simp [Value.ownBlock] at h4; omega) | (intro he; have he2 : _ = some _ := he; exact absurd he2 (hsep _ hi)) | (intro he; have he2 : _ = _ := he; have := hlo _ hi; omega) | (intro he; have he2 : _ = some _ := he; have := hlo _ he2; omega) | (intro he; first | exact absurd he (by assumption) | exact absurd he.symm (by assumption)) | (intro he; have he2 : _ = _ ∨ _ = _ := he; omega)) ?_))))), fun i hi => by omega, by (repeat (first | exact Ch.refl _ | assumption | (refine Ch.fresh ?_ (by assumption) (by intro i hi he; first | exact he | exact (not_no he).elim | exact Or.inl he | exact Or.inr (Or.inl he) | exact Or.inr (Or.inr he) | (exfalso; have he2 : _ = some i := he; have := own_base (by assumption) he2; omega) | (exfalso; have he2 : i = _ := he; omega) | (exfalso; have he2 : _ = some i := he; have := ow_base (by assumption) he2; omega) | (exfalso; have := he.1; omega) | (exfalso; have he2 : _ = some i := he; have := hlo _ he2; omega) | exact Or.inr he | (rcases he with he | he <;> (first | exact he | exact Or.inl he | exact Or.inr he | (exfalso; have he2 : i = _ := he; omega)))))))⟩
  rintro m0 g0 w2 ⟨a, -, hR0, rfl⟩
  obtain ⟨ha, hit, hok, hnw⟩ := hR0
  have hz := hnw.size
  refine W_seq ?_
  refine W_region ?_
  refine L_nexts (.plain rfl) rfl rfl (by (first | assumption | exact Its.to (by assumption) (by (repeat (first | exact Sm.refl _ _ | (refine Sm.stepT (by assumption) (by intro hlt hsm; first | exact not_no | (intro he; have he2 : _ = some _ := he; have := own_base (by assumption) he2; omega) | (intro he; have he2 : _ = _ := he; omega) | (intro he; have he2 : _ = some _ := he; have := ow_base (by assumption) he2; omega) | (intro he; have := he.1; omega) | exact bk_not (by assumption) hsm rfl | exact mp_not (by assumption) hsm | exact bkm_not (by assumption) hsm rfl | exact ownm_not (by assumption) hi hsm rfl | exact owm_not (by assumption) hi hsm rfl | exact own_not (by assumption) hi hsm rfl | exact ow_not (by assumption) hi hsm rfl | (intro he; have he2 : _ = some _ := he; have := Ow.lt (by assumption) he2; omega) | (intro he; have he2 : _ = some _ := he; have := Ow.lt (by assumption) he2; have := own_base (by assumption) hi; omega) | (intro he; have he2 : _ = some _ := he; have := Ow.lt how he2; first | omega | (have := own_base (by assumption) hi; omega)) | (intro he; have he2 : _ = _ := he; have := Ow.lt how hi; omega) | (intro he; have he2 : _ = _ := he; have := own_base (by assumption) hi; omega) | (intro he; have he2 : _ = _ := he; have := ow_base (by assumption) hi; omega) | (intro he; have he2 : _ = _ := he; rw [he2] at hi; exact absurd hi (by assumption)) | (intro he; have he2 : _ = some _ := he; have h3 := own_lt (by assumption) he2; first | omega | (have h4 : _ = some _ := hi; simp [Value.ownBlock] at h4; omega)) | (intro he; have he2 : _ = some _ := he; have h3 := ow_base (by assumption) he2; have h4 : _ = some _ := hi; simp [Value.ownBlock] at h4; omega) | (intro he; have he2 : _ = some _ := he; exact absurd he2 (hsep _ hi)) | (intro he; have he2 : _ = _ := he; have := hlo _ hi; omega) | (intro he; have he2 : _ = some _ := he; have := hlo _ he2; omega) | (intro he; first | exact absurd he (by assumption) | exact absurd he.symm (by assumption)) | (intro he; have he2 : _ = _ ∨ _ = _ := he; omega)) ?_)))))) (fun hall9 => ?_) (fun w3 hin9 hit9 hs3 c3 => ?_)
  · refine L_run (.plain rfl) rfl rfl (r_ext1_0 rfl) ?_
    refine L_nil ?_
    refine W_seq ?_
    refine W_false rfl ?_
    refine W_exit ?_
    repeat (first | refine blk_hit ?_ | refine blk_miss rfl ?_)
    refine W_seq ?_
    refine W_region ?_
    refine L_run (.plain rfl) rfl rfl (r_assign (v := .bool _) rfl) ?_
    refine L_nil ?_
    refine W_ret ?_
    refine ret1 (v := .bool _) rfl rfl ?_
    first
      | (refine ⟨bool_f (fun h => ?_), by (repeat (first | exact Ch.refl _ | assumption | (refine Ch.fresh ?_ (by assumption) (by intro i hi he; first | exact he | exact (not_no he).elim | exact Or.inl he | exact Or.inr (Or.inl he) | exact Or.inr (Or.inr he) | (exfalso; have he2 : _ = some i := he; have := own_base (by assumption) he2; omega) | (exfalso; have he2 : i = _ := he; omega) | (exfalso; have he2 : _ = some i := he; have := ow_base (by assumption) he2; omega) | (exfalso; have := he.1; omega) | (exfalso; have he2 : _ = some i := he; have := hlo _ he2; omega) | exact Or.inr he | (rcases he with he | he <;> (first | exact he | exact Or.inl he | exact Or.inr he | (exfalso; have he2 : i = _ := he; omega)))))))⟩
         simp only [Bool.not_eq_true', decide_eq_false_iff_not] at h15
         exact (dec_nm s a hin9).2 h15 (h a hin9))
      | exact ⟨bool_t (fun i hi => hok i (by omega)), by (repeat (first | exact Ch.refl _ | assumption | (refine Ch.fresh ?_ (by assumption) (by intro i hi he; first | exact he | exact (not_no he).elim | exact Or.inl he | exact Or.inr (Or.inl he) | exact Or.inr (Or.inr he) | (exfalso; have he2 : _ = some i := he; have := own_base (by assumption) he2; omega) | (exfalso; have he2 : i = _ := he; omega) | (exfalso; have he2 : _ = some i := he; have := ow_base (by assumption) he2; omega) | (exfalso; have := he.1; omega) | (exfalso; have he2 : _ = some i := he; have := hlo _ he2; omega) | exact Or.inr he | (rcases he with he | he <;> (first | exact he | exact Or.inl he | exact Or.inr he | (exfalso; have he2 : i = _ := he; omega)))))))⟩
  · refine L_run (.plain rfl) rfl rfl (r_ext3_0 rfl) ?_
    refine L_nil ?_
    refine W_seq ?_
    refine W_true rfl ?_
    refine W_skip ?_
    refine W_block ?_
    refine W_seq ?_
    refine W_region ?_
    refine L_run (.plain rfl) rfl rfl (r_ext3_2 rfl) ?_
    refine L_run (.plain rfl) rfl rfl (r_assign (v := .int _ _) rfl) ?_
    refine L_nil ?_
    refine W_seq ?_
    refine W_region ?_
    refine L_run (.plain rfl) rfl rfl (r_move (by conv => lhs; whnf)) ?_
    refine L_run (.plain rfl) rfl rfl (r_move (v := .int _ _) rfl) ?_
    refine L_call (.plain rfl) rfl rfl (r_call Tryd.func48 rfl rfl rfl (by rfl)) (nmc_walk _ _) ?_
    rintro v14 w4 ⟨rfl, rfl⟩
    refine L_run (.plain rfl) rfl rfl (r_not rfl) ?_
    refine L_nil ?_
    refine W_bool rfl (fun h15 => ?_) (fun h15 => ?_)
    · refine W_seq ?_
      refine W_region ?_
      refine L_run (.plain rfl) rfl rfl (r_assign (v := .bool _) rfl) ?_
      refine L_nil ?_
      refine W_ret ?_
      refine ret1 (v := .bool _) rfl rfl ?_
      first
        | (refine ⟨bool_f (fun h => ?_), by (repeat (first | exact Ch.refl _ | assumption | (refine Ch.fresh ?_ (by assumption) (by intro i hi he; first | exact he | exact (not_no he).elim | exact Or.inl he | exact Or.inr (Or.inl he) | exact Or.inr (Or.inr he) | (exfalso; have he2 : _ = some i := he; have := own_base (by assumption) he2; omega) | (exfalso; have he2 : i = _ := he; omega) | (exfalso; have he2 : _ = some i := he; have := ow_base (by assumption) he2; omega) | (exfalso; have := he.1; omega) | (exfalso; have he2 : _ = some i := he; have := hlo _ he2; omega) | exact Or.inr he | (rcases he with he | he <;> (first | exact he | exact Or.inl he | exact Or.inr he | (exfalso; have he2 : i = _ := he; omega)))))))⟩
           simp only [Bool.not_eq_true', decide_eq_false_iff_not] at h15
           exact (dec_nm s a hin9).2 h15 (h a hin9))
        | exact ⟨bool_t (fun i hi => hok i (by omega)), by (repeat (first | exact Ch.refl _ | assumption | (refine Ch.fresh ?_ (by assumption) (by intro i hi he; first | exact he | exact (not_no he).elim | exact Or.inl he | exact Or.inr (Or.inl he) | exact Or.inr (Or.inr he) | (exfalso; have he2 : _ = some i := he; have := own_base (by assumption) he2; omega) | (exfalso; have he2 : i = _ := he; omega) | (exfalso; have he2 : _ = some i := he; have := ow_base (by assumption) he2; omega) | (exfalso; have := he.1; omega) | (exfalso; have he2 : _ = some i := he; have := hlo _ he2; omega) | exact Or.inr he | (rcases he with he | he <;> (first | exact he | exact Or.inl he | exact Or.inr he | (exfalso; have he2 : i = _ := he; omega)))))))⟩
    · refine W_skip ?_
      refine ⟨⟨rfl, rfl, trivial⟩, _, ?_, a + 1, trivial, ?_, rfl⟩
      · omega
      simp only [Bool.not_eq_false', decide_eq_true_eq] at h15
      have hd := (dec_nm s a hin9).1 h15
      rw [hd.1] at hit9
      refine ⟨by omega, by (first | assumption | exact Its.to (by assumption) (by (repeat (first | exact Sm.refl _ _ | (refine Sm.stepT (by assumption) (by intro hlt hsm; first | exact not_no | (intro he; have he2 : _ = some _ := he; have := own_base (by assumption) he2; omega) | (intro he; have he2 : _ = _ := he; omega) | (intro he; have he2 : _ = some _ := he; have := ow_base (by assumption) he2; omega) | (intro he; have := he.1; omega) | exact bk_not (by assumption) hsm rfl | exact mp_not (by assumption) hsm | exact bkm_not (by assumption) hsm rfl | exact ownm_not (by assumption) hi hsm rfl | exact owm_not (by assumption) hi hsm rfl | exact own_not (by assumption) hi hsm rfl | exact ow_not (by assumption) hi hsm rfl | (intro he; have he2 : _ = some _ := he; have := Ow.lt (by assumption) he2; omega) | (intro he; have he2 : _ = some _ := he; have := Ow.lt (by assumption) he2; have := own_base (by assumption) hi; omega) | (intro he; have he2 : _ = some _ := he; have := Ow.lt how he2; first | omega | (have := own_base (by assumption) hi; omega)) | (intro he; have he2 : _ = _ := he; have := Ow.lt how hi; omega) | (intro he; have he2 : _ = _ := he; have := own_base (by assumption) hi; omega) | (intro he; have he2 : _ = _ := he; have := ow_base (by assumption) hi; omega) | (intro he; have he2 : _ = _ := he; rw [he2] at hi; exact absurd hi (by assumption)) | (intro he; have he2 : _ = some _ := he; have h3 := own_lt (by assumption) he2; first | omega | (have h4 : _ = some _ := hi; simp [Value.ownBlock] at h4; omega)) | (intro he; have he2 : _ = some _ := he; have h3 := ow_base (by assumption) he2; have h4 : _ = some _ := hi; simp [Value.ownBlock] at h4; omega) | (intro he; have he2 : _ = some _ := he; exact absurd he2 (hsep _ hi)) | (intro he; have he2 : _ = _ := he; have := hlo _ hi; omega) | (intro he; have he2 : _ = some _ := he; have := hlo _ he2; omega) | (intro he; first | exact absurd he (by assumption) | exact absurd he.symm (by assumption)) | (intro he; have he2 : _ = _ ∨ _ = _ := he; omega)) ?_))))), fun i hi => ?_, by (repeat (first | exact Ch.refl _ | assumption | (refine Ch.fresh ?_ (by assumption) (by intro i hi he; first | exact he | exact (not_no he).elim | exact Or.inl he | exact Or.inr (Or.inl he) | exact Or.inr (Or.inr he) | (exfalso; have he2 : _ = some i := he; have := own_base (by assumption) he2; omega) | (exfalso; have he2 : i = _ := he; omega) | (exfalso; have he2 : _ = some i := he; have := ow_base (by assumption) he2; omega) | (exfalso; have := he.1; omega) | (exfalso; have he2 : _ = some i := he; have := hlo _ he2; omega) | exact Or.inr he | (rcases he with he | he <;> (first | exact he | exact Or.inl he | exact Or.inr he | (exfalso; have he2 : i = _ := he; omega)))))))⟩
      by_cases e : i < a
      · exact hok i e
      · have : i = a := by omega
        rw [this]; exact hd.2
def nameP (s : ByteArray) : Prop := 0 < s.size ∧ s.size ≤ 32 ∧ ¬ digitC (bat s 0).toNat ∧ allN s
instance (s : ByteArray) : Decidable (nameP s) := inferInstanceAs (Decidable (_ ∧ _))
theorem empty_size {s : ByteArray} (h : ¬ s = { data := #[] }) : 0 < s.size := by
  rcases Nat.eq_zero_or_pos s.size with h0 | h0
  · exact absurd (by
      obtain ⟨d⟩ := s
      have : d.size = 0 := h0
      rw [Array.eq_empty_of_size_eq_zero this]) h
  · exact h0
theorem name_walk (s : ByteArray) (w0 : World) : Does Tryd.prog 39 #[.string s] w0 (fun r w' => r = .bool (decide (nameP s)) ∧ Nw w0 w') := by
  refine fn_of (n := 22) (args := [.string s]) Tryd.func39 rfl rfl rfl ?_
  refine W_seq ?_
  refine W_region ?_
  refine L_run (.plain rfl) rfl rfl (r_assign (v := .bool _) rfl) ?_
  refine L_nil ?_
  refine W_seq ?_
  refine W_seq ?_
  refine W_region ?_
  refine L_run (.plain rfl) rfl rfl (r_move (v := .string _) rfl) ?_
  refine L_run (.plain rfl) rfl rfl (r_eqls rfl rfl) ?_
  refine L_run (.plain rfl) rfl rfl (r_move (v := .bool _) rfl) ?_
  refine L_case (d := 5) rfl (fun h5 => ?_) (fun h5 => ?_)
  · refine L_pass rfl rfl rfl rfl rfl ?_
    refine L_pass rfl rfl rfl rfl rfl ?_
    refine L_pass rfl rfl rfl rfl rfl ?_
    refine L_run (.plain rfl) rfl rfl (r_pick_t (v := .bool _) rfl rfl) ?_
    refine L_run (.plain rfl) rfl rfl (r_move (v := .bool _) rfl) ?_
    refine L_pass rfl rfl rfl rfl rfl ?_
    refine L_pass rfl rfl rfl rfl rfl ?_
    refine L_pass rfl rfl rfl rfl rfl ?_
    refine L_pass rfl rfl rfl rfl rfl ?_
    refine L_passu rfl rfl rfl rfl ?_
    refine L_passu rfl rfl rfl rfl ?_
    refine L_passu rfl rfl rfl rfl ?_
    refine L_pass rfl rfl rfl rfl rfl ?_
    refine L_run (.plain rfl) rfl rfl (r_pick_t (v := .bool _) rfl rfl) ?_
    refine L_nil ?_
    refine W_true rfl ?_
    refine W_seq ?_
    refine W_region ?_
    refine L_run (.plain rfl) rfl rfl (r_assign (v := .bool _) rfl) ?_
    refine L_nil ?_
    refine W_ret ?_
    refine ret1 (v := .bool _) rfl rfl ?_
    refine ⟨?_, by (repeat (first | exact Ch.refl _ | assumption | (refine Ch.fresh ?_ (by assumption) (by intro i hi he; first | exact he | exact (not_no he).elim | exact Or.inl he | exact Or.inr (Or.inl he) | exact Or.inr (Or.inr he) | (exfalso; have he2 : _ = some i := he; have := own_base (by assumption) he2; omega) | (exfalso; have he2 : i = _ := he; omega) | (exfalso; have he2 : _ = some i := he; have := ow_base (by assumption) he2; omega) | (exfalso; have := he.1; omega) | (exfalso; have he2 : _ = some i := he; have := hlo _ he2; omega) | exact Or.inr he | (rcases he with he | he <;> (first | exact he | exact Or.inl he | exact Or.inr he | (exfalso; have he2 : i = _ := he; omega)))))))⟩
    first
      | (apply bool_f; unfold nameP digitC; rintro ⟨k1, k2, k3, _⟩; first | omega | (subst h5; exact absurd k1 (by decide)))
      | (apply bool_dec; unfold nameP digitC; exact ⟨fun h => ⟨hpos, by omega, by omega, h⟩, fun h => h.2.2.2⟩)
  · have hpos := empty_size (by assumption)
    refine L_run (.yes 2 false rfl rfl) rfl rfl (r_move (v := .string _) rfl) ?_
    refine L_run (.yes 2 false rfl rfl) rfl rfl (r_lens Tryd.underlying9 rfl) ?_
    refine L_run (.yes 2 false rfl rfl) rfl rfl (r_gtr rfl rfl) ?_
    refine L_run (.plain rfl) rfl rfl (r_pick_f (v := .bool _) rfl rfl) ?_
    refine L_run (.plain rfl) rfl rfl (r_move (v := .bool _) rfl) ?_
    refine L_case (d := 10) rfl (fun h10 => ?_) (fun h10 => ?_)
    · refine L_pass rfl rfl rfl rfl rfl ?_
      refine L_pass rfl rfl rfl rfl rfl ?_
      refine L_pass rfl rfl rfl rfl rfl ?_
      refine L_pass rfl rfl rfl rfl rfl ?_
      refine L_passu rfl rfl rfl rfl ?_
      refine L_passu rfl rfl rfl rfl ?_
      refine L_passu rfl rfl rfl rfl ?_
      refine L_pass rfl rfl rfl rfl rfl ?_
      refine L_run (.plain rfl) rfl rfl (r_pick_t (v := .bool _) rfl rfl) ?_
      refine L_nil ?_
      refine W_true rfl ?_
      refine W_seq ?_
      refine W_region ?_
      refine L_run (.plain rfl) rfl rfl (r_assign (v := .bool _) rfl) ?_
      refine L_nil ?_
      refine W_ret ?_
      refine ret1 (v := .bool _) rfl rfl ?_
      refine ⟨?_, by (repeat (first | exact Ch.refl _ | assumption | (refine Ch.fresh ?_ (by assumption) (by intro i hi he; first | exact he | exact (not_no he).elim | exact Or.inl he | exact Or.inr (Or.inl he) | exact Or.inr (Or.inr he) | (exfalso; have he2 : _ = some i := he; have := own_base (by assumption) he2; omega) | (exfalso; have he2 : i = _ := he; omega) | (exfalso; have he2 : _ = some i := he; have := ow_base (by assumption) he2; omega) | (exfalso; have := he.1; omega) | (exfalso; have he2 : _ = some i := he; have := hlo _ he2; omega) | exact Or.inr he | (rcases he with he | he <;> (first | exact he | exact Or.inl he | exact Or.inr he | (exfalso; have he2 : i = _ := he; omega)))))))⟩
      first
        | (apply bool_f; unfold nameP digitC; rintro ⟨k1, k2, k3, _⟩; first | omega | (subst h5; exact absurd k1 (by decide)))
        | (apply bool_dec; unfold nameP digitC; exact ⟨fun h => ⟨hpos, by omega, by omega, h⟩, fun h => h.2.2.2⟩)
    · refine L_run (.yes 7 false rfl rfl) rfl rfl (r_move (v := .string _) rfl) ?_
      refine L_run (.yes 7 false rfl rfl) rfl rfl (r_indexs Tryd.underlying9 rfl rfl (by omega) (by omega) (by conv => lhs; (try simp only [Nat.mul_one, Nat.zero_add, Int.toNat_natCast, Int.toNat_zero, Int.reduceToNat, Nat.reduceMul, Nat.reduceAdd]))) ?_
      refine L_run (.yes 7 false rfl rfl) rfl rfl (r_geq rfl rfl) ?_
      refine L_run (.yes 7 false rfl rfl) rfl rfl (r_move (v := .bool _) rfl) ?_
      refine L_case (d := 14) rfl (fun h14 => ?_) (fun h14 => ?_)
      · refine L_run (.yes 11 true rfl rfl) rfl rfl (r_move (v := .string _) rfl) ?_
        refine L_run (.yes 11 true rfl rfl) rfl rfl (r_indexs Tryd.underlying9 rfl rfl (by omega) (by omega) (by conv => lhs; (try simp only [Nat.mul_one, Nat.zero_add, Int.toNat_natCast, Int.toNat_zero, Int.reduceToNat, Nat.reduceMul, Nat.reduceAdd]))) ?_
        refine L_run (.yes 11 true rfl rfl) rfl rfl (r_leq rfl rfl) ?_
        refine L_run (.yes 7 false rfl rfl) rfl rfl (r_pick_t (v := .bool _) rfl rfl) ?_
        refine L_run (.plain rfl) rfl rfl (r_pick_f (v := .bool _) rfl rfl) ?_
        refine L_nil ?_
        refine W_if rfl (fun h19 => ?_) (fun h19 => ?_)
        · refine W_seq ?_
          refine W_region ?_
          refine L_run (.plain rfl) rfl rfl (r_assign (v := .bool _) rfl) ?_
          refine L_nil ?_
          refine W_ret ?_
          refine ret1 (v := .bool _) rfl rfl ?_
          refine ⟨?_, by (repeat (first | exact Ch.refl _ | assumption | (refine Ch.fresh ?_ (by assumption) (by intro i hi he; first | exact he | exact (not_no he).elim | exact Or.inl he | exact Or.inr (Or.inl he) | exact Or.inr (Or.inr he) | (exfalso; have he2 : _ = some i := he; have := own_base (by assumption) he2; omega) | (exfalso; have he2 : i = _ := he; omega) | (exfalso; have he2 : _ = some i := he; have := ow_base (by assumption) he2; omega) | (exfalso; have := he.1; omega) | (exfalso; have he2 : _ = some i := he; have := hlo _ he2; omega) | exact Or.inr he | (rcases he with he | he <;> (first | exact he | exact Or.inl he | exact Or.inr he | (exfalso; have he2 : i = _ := he; omega)))))))⟩
          first
            | (apply bool_f; unfold nameP digitC; rintro ⟨k1, k2, k3, _⟩; first | omega | (subst h5; exact absurd k1 (by decide)))
            | (apply bool_dec; unfold nameP digitC; exact ⟨fun h => ⟨hpos, by omega, by omega, h⟩, fun h => h.2.2.2⟩)
        · refine W_skip ?_
          refine W_seq ?_
          refine W_region ?_
          refine L_run (.plain rfl) rfl rfl (r_move (v := .string _) rfl) ?_
          refine L_call (.plain rfl) rfl rfl (r_call Tryd.func47 rfl rfl rfl (by rfl)) (all_walk s _) ?_
          rintro v21 w1 ⟨rfl, c1⟩
          have hz1 := c1.size
          refine L_run (.plain rfl) rfl rfl (r_assign (v := .bool _) rfl) ?_
          refine L_nil ?_
          refine W_ret ?_
          refine ret1 (v := .bool _) rfl rfl ?_
          refine ⟨?_, by (repeat (first | exact Ch.refl _ | assumption | (refine Ch.fresh ?_ (by assumption) (by intro i hi he; first | exact he | exact (not_no he).elim | exact Or.inl he | exact Or.inr (Or.inl he) | exact Or.inr (Or.inr he) | (exfalso; have he2 : _ = some i := he; have := own_base (by assumption) he2; omega) | (exfalso; have he2 : i = _ := he; omega) | (exfalso; have he2 : _ = some i := he; have := ow_base (by assumption) he2; omega) | (exfalso; have := he.1; omega) | (exfalso; have he2 : _ = some i := he; have := hlo _ he2; omega) | exact Or.inr he | (rcases he with he | he <;> (first | exact he | exact Or.inl he | exact Or.inr he | (exfalso; have he2 : i = _ := he; omega)))))))⟩
          first
            | (apply bool_f; unfold nameP digitC; rintro ⟨k1, k2, k3, _⟩; first | omega | (subst h5; exact absurd k1 (by decide)))
            | (apply bool_dec; unfold nameP digitC; exact ⟨fun h => ⟨hpos, by omega, by omega, h⟩, fun h => h.2.2.2⟩)
      · refine L_pass rfl rfl rfl rfl rfl ?_
        refine L_pass rfl rfl rfl rfl rfl ?_
        refine L_pass rfl rfl rfl rfl rfl ?_
        refine L_run (.yes 7 false rfl rfl) rfl rfl (r_pick_f (v := .bool _) rfl rfl) ?_
        refine L_run (.plain rfl) rfl rfl (r_pick_f (v := .bool _) rfl rfl) ?_
        refine L_nil ?_
        refine W_false rfl ?_
        refine W_skip ?_
        refine W_seq ?_
        refine W_region ?_
        refine L_run (.plain rfl) rfl rfl (r_move (v := .string _) rfl) ?_
        refine L_call (.plain rfl) rfl rfl (r_call Tryd.func47 rfl rfl rfl (by rfl)) (all_walk s _) ?_
        rintro v21 w2 ⟨rfl, c2⟩
        have hz2 := c2.size
        refine L_run (.plain rfl) rfl rfl (r_assign (v := .bool _) rfl) ?_
        refine L_nil ?_
        refine W_ret ?_
        refine ret1 (v := .bool _) rfl rfl ?_
        refine ⟨?_, by (repeat (first | exact Ch.refl _ | assumption | (refine Ch.fresh ?_ (by assumption) (by intro i hi he; first | exact he | exact (not_no he).elim | exact Or.inl he | exact Or.inr (Or.inl he) | exact Or.inr (Or.inr he) | (exfalso; have he2 : _ = some i := he; have := own_base (by assumption) he2; omega) | (exfalso; have he2 : i = _ := he; omega) | (exfalso; have he2 : _ = some i := he; have := ow_base (by assumption) he2; omega) | (exfalso; have := he.1; omega) | (exfalso; have he2 : _ = some i := he; have := hlo _ he2; omega) | exact Or.inr he | (rcases he with he | he <;> (first | exact he | exact Or.inl he | exact Or.inr he | (exfalso; have he2 : i = _ := he; omega)))))))⟩
        first
          | (apply bool_f; unfold nameP digitC; rintro ⟨k1, k2, k3, _⟩; first | omega | (subst h5; exact absurd k1 (by decide)))
          | (apply bool_dec; unfold nameP digitC; exact ⟨fun h => ⟨hpos, by omega, by omega, h⟩, fun h => h.2.2.2⟩)
def classP (s : ByteArray) : Prop := nameP s ∧ greatC (bat s 0).toNat
instance (s : ByteArray) : Decidable (classP s) := inferInstanceAs (Decidable (_ ∧ _))
theorem class_walk (s : ByteArray) (w0 : World) : Does Tryd.prog 40 #[.string s] w0 (fun r w' => r = .bool (decide (classP s)) ∧ Nw w0 w') := by
  refine fn_of (n := 11) (args := [.string s]) Tryd.func40 rfl rfl rfl ?_
  refine W_seq ?_
  refine W_region ?_
  refine L_run (.plain rfl) rfl rfl (r_assign (v := .bool _) rfl) ?_
  refine L_nil ?_
  refine W_seq ?_
  refine W_region ?_
  refine L_run (.plain rfl) rfl rfl (r_move (v := .string _) rfl) ?_
  refine L_call (.plain rfl) rfl rfl (r_call Tryd.func39 rfl rfl rfl (by rfl)) (name_walk s _) ?_
  rintro v4 w1 ⟨rfl, c1⟩
  have hz1 := c1.size
  refine L_run (.plain rfl) rfl rfl (r_move (v := .bool _) rfl) ?_
  refine L_caseb (d := 5) rfl (fun h5 => ?_) (fun h5 => ?_)
  · have hnm : nameP s := by simpa using (by assumption : decide (nameP s) = true)
    have hpos := hnm.1
    have hbt := (bat s 0).toNat_lt
    refine L_run (.yes 2 true rfl rfl) rfl rfl (r_move (v := .string _) rfl) ?_
    refine L_run (.yes 2 true rfl rfl) rfl rfl (r_indexs Tryd.underlying9 rfl rfl (by omega) (by omega) (by conv => lhs; (try simp only [Nat.mul_one, Nat.zero_add, Int.toNat_natCast, Int.toNat_zero, Int.reduceToNat, Nat.reduceMul, Nat.reduceAdd]))) ?_
    refine L_run (.yes 2 true rfl rfl) rfl rfl (r_conv Tryd.underlying5 Tryd.underlying21 rfl (by first | exact wr_i32 (by omega) | rfl)) ?_
    refine L_call (.yes 2 true rfl rfl) rfl rfl (r_call Tryd.func49 rfl rfl rfl (by rfl)) (great_walk _ _) ?_
    rintro v9 w2 ⟨rfl, rfl⟩
    refine L_run (.plain rfl) rfl rfl (r_pick_t (v := .bool _) rfl rfl) ?_
    refine L_run (.plain rfl) rfl rfl (r_assign (v := .bool _) rfl) ?_
    refine L_nil ?_
    refine W_ret ?_
    refine ret1 (v := .bool _) rfl rfl ?_
    refine ⟨?_, by (repeat (first | exact Ch.refl _ | assumption | (refine Ch.fresh ?_ (by assumption) (by intro i hi he; first | exact he | exact (not_no he).elim | exact Or.inl he | exact Or.inr (Or.inl he) | exact Or.inr (Or.inr he) | (exfalso; have he2 : _ = some i := he; have := own_base (by assumption) he2; omega) | (exfalso; have he2 : i = _ := he; omega) | (exfalso; have he2 : _ = some i := he; have := ow_base (by assumption) he2; omega) | (exfalso; have := he.1; omega) | (exfalso; have he2 : _ = some i := he; have := hlo _ he2; omega) | exact Or.inr he | (rcases he with he | he <;> (first | exact he | exact Or.inl he | exact Or.inr he | (exfalso; have he2 : i = _ := he; omega)))))))⟩
    first
      | exact bool_f (fun h => hnm h.1)
      | exact bool_dec ⟨fun h => ⟨hnm, h⟩, fun h => h.2⟩
  · have hnm : ¬ nameP s := by simpa using (by assumption : decide (nameP s) = false)
    refine L_pass rfl rfl rfl rfl rfl ?_
    refine L_pass rfl rfl rfl rfl rfl ?_
    refine L_pass rfl rfl rfl rfl rfl ?_
    refine L_pass rfl rfl rfl rfl rfl ?_
    refine L_run (.plain rfl) rfl rfl (r_pick_f (v := .bool _) rfl rfl) ?_
    refine L_run (.plain rfl) rfl rfl (r_assign (v := .bool _) rfl) ?_
    refine L_nil ?_
    refine W_ret ?_
    refine ret1 (v := .bool _) rfl rfl ?_
    refine ⟨?_, by (repeat (first | exact Ch.refl _ | assumption | (refine Ch.fresh ?_ (by assumption) (by intro i hi he; first | exact he | exact (not_no he).elim | exact Or.inl he | exact Or.inr (Or.inl he) | exact Or.inr (Or.inr he) | (exfalso; have he2 : _ = some i := he; have := own_base (by assumption) he2; omega) | (exfalso; have he2 : i = _ := he; omega) | (exfalso; have he2 : _ = some i := he; have := ow_base (by assumption) he2; omega) | (exfalso; have := he.1; omega) | (exfalso; have he2 : _ = some i := he; have := hlo _ he2; omega) | exact Or.inr he | (rcases he with he | he <;> (first | exact he | exact Or.inl he | exact Or.inr he | (exfalso; have he2 : i = _ := he; omega)))))))⟩
    first
      | exact bool_f (fun h => hnm h.1)
      | exact bool_dec ⟨fun h => ⟨hnm, h⟩, fun h => h.2⟩
end Go.Proofs.YtcbcelfgbelaoaaDoor

