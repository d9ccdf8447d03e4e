/- NetCopies, walked. -/
import Derived.Test.YtplkjhoadnjkmaaNetL1
namespace Go.Proofs.Ytplkjhoadnjkmaa
open Go Go.RowKit
set_option linter.unusedVariables false
set_option linter.unusedSimpArgs false
/-- Turning by these bytes, up to one, turns nothing. -/
def sameB (l : List UInt8) (a : Int) (by_ : List UInt8) (i : Nat) : Prop := ∀ j, j < i → by_.getD j 0 = 0 ∨ (l.length : Int) ≤ a + j
instance (l : List UInt8) (a : Int) (by_ : List UInt8) (i : Nat) : Decidable (sameB l a by_ i) := by unfold sameB; infer_instance
theorem sameB_succ (l : List UInt8) (a : Int) (by_ : List UInt8) (i : Nat) : sameB l a by_ (i + 1) ↔ sameB l a by_ i ∧ (by_.getD i 0 = 0 ∨ (l.length : Int) ≤ a + i) := by
  unfold sameB
  constructor
  · exact fun h => ⟨fun j hj => h j (by omega), h i (by omega)⟩
  · rintro ⟨h1, h2⟩ j hj
    by_cases e : j = i
    · subst e; exact h2
    · exact h1 j (by omega)
theorem turn_same (l : List UInt8) (a : Int) (by_ : List UInt8) (ha : 0 ≤ a) : turn l a by_ = l ↔ sameB l a by_ by_.length := by
  constructor
  · intro h j hj
    by_cases hc : (l.length : Int) ≤ a + j
    · exact .inr hc
    · refine .inl ?_
      have hi : (a + j).toNat < l.length := by omega
      have h1 := turnK_get l.length l a by_ (a + j).toNat hi
      rw [show turnK l.length l a by_ = l from h, List.getElem?_eq_getElem hi, if_pos ⟨hi, by omega, by omega⟩] at h1
      have h2 := Option.some.inj h1
      rw [show (((a + j).toNat : Int) - a).toNat = j by omega] at h2
      have h3 := congrArg (fun x => l[(a + j).toNat] ^^^ x) h2
      simp only [UInt8.xor_self, ← UInt8.xor_assoc, UInt8.zero_xor] at h3
      exact h3.symm
  · intro h
    apply List.ext_getElem?
    intro i
    by_cases hi : i < l.length
    · unfold turn
      rw [turnK_get _ _ _ _ _ hi, List.getElem?_eq_getElem hi]
      split
      · rename_i hc
        rcases h ((i : Int) - a).toNat (by omega) with h1 | h1
        · rw [h1, UInt8.xor_zero]
        · omega
      · rfl
    · rw [List.getElem?_eq_none (by rw [turn_length]; omega), List.getElem?_eq_none (by omega)]
theorem sb_eq (l : List UInt8) (s : ByteArray) : sb l = s ↔ l = bs s := by rw [← bs_inj, bs_sb]
theorem u8_zero (x : UInt8) : (x.toNat : Int) = 0 ↔ x = 0 := by
  constructor
  · intro h; exact UInt8.toNat_inj.1 (by simpa using h)
  · rintro rfl; rfl
theorem NetCopies_walk (a0 : ByteArray) (a1 : Bool) (a2 : Int) (a3 : ByteArray) (w0 : World) (y0 : a0.size ≤ 140737488351232) (y2 : 0 ≤ a2 ∧ a2 ≤ 255) (y3 : a3.size ≤ 140737488351232) : Does Try.prog 8 #[.string a0, .bool a1, .int .u8 a2, .string a3] w0 (fun r w' => r = .bool true ∧ Nw w0 w') := by
  have hs0 := bs_length a0
  have hs3 := bs_length a3
  refine fn_of (n := 149) (args := [.string a0, .bool a1, .int .u8 a2, .string a3]) Try.func8 rfl rfl rfl ?_
  refine W_seq ?_
  refine W_region ?_
  refine L_run (.plain rfl) rfl rfl (r_assign (v := .bool _) rfl) ?_
  refine L_nil ?_
  refine W_seq ?_
  refine W_region ?_
  refine L_call (.plain rfl) rfl rfl (r_call Try.func9 rfl rfl rfl (by rfl)) (new_walk 5 _ (by omega)) ?_
  rintro v25 w1 ⟨b, rfl, hN, c1⟩
  have hz1 := c1.size
  refine L_run (.plain rfl) rfl rfl (r_move (by conv => lhs; whnf)) ?_
  refine L_run (.plain rfl) rfl rfl (r_ext2_0 rfl) ?_
  refine L_run (.plain rfl) rfl rfl (r_ext2_1 rfl) ?_
  refine L_run (.plain rfl) rfl rfl (r_assign (v := .pointer _) rfl) ?_
  refine L_run (.plain rfl) rfl rfl (r_assign (v := .int _ _) rfl) ?_
  refine L_nil ?_
  refine W_seq ?_
  refine W_seq ?_
  refine W_region ?_
  refine L_call (.plain rfl) rfl rfl (r_call Try.func10 rfl rfl rfl (by rfl)) (awake_walk _) ?_
  rintro v28 w2 ⟨rfl, c2⟩
  have hz2 := c2.size
  refine L_run (.plain rfl) rfl rfl (r_not rfl) ?_
  refine L_run (.plain rfl) rfl rfl (r_move (v := .bool _) rfl) ?_
  refine L_as (v := .bool _) (v' := .bool false) 30 rfl (congrArg Value.bool (by rfl)) ?_
  refine L_run (.yes 2 false rfl rfl) rfl rfl (r_move (v := .int _ _) rfl) ?_
  refine L_run (.yes 2 false rfl rfl) rfl rfl (r_neq rfl rfl) ?_
  refine L_run (.plain rfl) rfl rfl (r_pick_f (v := .bool _) rfl rfl) ?_
  refine L_run (.plain rfl) rfl rfl (r_move (v := .bool _) rfl) ?_
  refine L_as (v := .bool _) (v' := .bool false) 34 rfl (dec_f (by simp)).symm ?_
  refine L_run (.yes 6 false rfl rfl) rfl rfl (r_move (v := .pointer _) rfl) ?_
  refine L_run (.yes 6 false rfl rfl) rfl rfl (r_eqpnil Try.underlying24 rfl rfl) ?_
  refine L_run (.plain rfl) rfl rfl (r_pick_f (v := .bool _) rfl rfl) ?_
  refine L_run (.plain rfl) rfl rfl (r_move (v := .bool _) rfl) ?_
  refine L_as (v := .bool _) (v' := .bool false) 38 rfl (congrArg Value.bool (by rfl)) ?_
  refine L_run (.yes 10 false rfl rfl) rfl rfl (r_move (v := .string _) rfl) ?_
  refine L_run (.yes 10 false rfl rfl) rfl rfl (r_lens Try.underlying9 rfl) ?_
  refine L_run (.yes 10 false rfl rfl) rfl rfl (r_gtr rfl rfl) ?_
  refine L_run (.plain rfl) rfl rfl (r_pick_f (v := .bool _) rfl rfl) ?_
  refine L_run (.plain rfl) rfl rfl (r_move (v := .bool _) rfl) ?_
  refine L_case (d := 43) rfl (fun h43 => ?_) (fun h43 => ?_)
  · refine L_pass rfl rfl rfl rfl rfl ?_
    refine L_pass rfl rfl rfl rfl rfl ?_
    refine L_pass rfl rfl rfl rfl rfl ?_
    refine L_run (.plain rfl) rfl rfl (r_pick_t (v := .bool _) rfl rfl) ?_
    refine L_nil ?_
    refine W_true rfl ?_
    refine W_seq ?_
    refine W_region ?_
    refine L_call (.plain rfl) rfl rfl (r_call Try.func10 rfl rfl rfl (by rfl)) (awake_walk _) ?_
    rintro v48 w3 ⟨rfl, c3⟩
    have hz3 := c3.size
    refine L_run (.plain rfl) rfl rfl (r_assign (v := .bool _) rfl) ?_
    refine L_nil ?_
    refine W_ret ?_
    refine ret1 (v := .bool _) rfl rfl ?_
    first
      | exact ⟨rfl, by (repeat (first | exact Ch.refl _ | assumption | (refine Ch.fresh ?_ (by assumption) (by intro i hi he; first | exact he | (exfalso; have he2 : _ = some i := he; have := own_base (by assumption) he2; omega) | (exfalso; have he2 : i = _ := he; omega) | (exfalso; have he2 : _ = some i := he; have := ow_base (by assumption) he2; omega) | (exfalso; have := he.1; omega)))))⟩
      | exact ⟨(dec_t (by show ((turn (bs a0) a2 (bs a3)).length : Int) = _; rw [turn_length]; omega)).symm, by (repeat (first | exact Ch.refl _ | assumption | (refine Ch.fresh ?_ (by assumption) (by intro i hi he; first | exact he | (exfalso; have he2 : _ = some i := he; have := own_base (by assumption) he2; omega) | (exfalso; have he2 : i = _ := he; omega) | (exfalso; have he2 : _ = some i := he; have := ow_base (by assumption) he2; omega) | (exfalso; have := he.1; omega)))))⟩
  · refine L_run (.yes 15 false rfl rfl) rfl rfl (r_move (v := .string _) rfl) ?_
    refine L_run (.yes 15 false rfl rfl) rfl rfl (r_lens Try.underlying9 rfl) ?_
    refine L_run (.yes 15 false rfl rfl) rfl rfl (r_gtr rfl rfl) ?_
    refine L_run (.plain rfl) rfl rfl (r_pick_f (v := .bool _) rfl rfl) ?_
    refine L_nil ?_
    refine W_if rfl (fun h47 => ?_) (fun h47 => ?_)
    · refine W_seq ?_
      refine W_region ?_
      refine L_call (.plain rfl) rfl rfl (r_call Try.func10 rfl rfl rfl (by rfl)) (awake_walk _) ?_
      rintro v48 w4 ⟨rfl, c4⟩
      have hz4 := c4.size
      refine L_run (.plain rfl) rfl rfl (r_assign (v := .bool _) rfl) ?_
      refine L_nil ?_
      refine W_ret ?_
      refine ret1 (v := .bool _) rfl rfl ?_
      first
        | exact ⟨rfl, by (repeat (first | exact Ch.refl _ | assumption | (refine Ch.fresh ?_ (by assumption) (by intro i hi he; first | exact he | (exfalso; have he2 : _ = some i := he; have := own_base (by assumption) he2; omega) | (exfalso; have he2 : i = _ := he; omega) | (exfalso; have he2 : _ = some i := he; have := ow_base (by assumption) he2; omega) | (exfalso; have := he.1; omega)))))⟩
        | exact ⟨(dec_t (by show ((turn (bs a0) a2 (bs a3)).length : Int) = _; rw [turn_length]; omega)).symm, by (repeat (first | exact Ch.refl _ | assumption | (refine Ch.fresh ?_ (by assumption) (by intro i hi he; first | exact he | (exfalso; have he2 : _ = some i := he; have := own_base (by assumption) he2; omega) | (exfalso; have he2 : i = _ := he; omega) | (exfalso; have he2 : _ = some i := he; have := ow_base (by assumption) he2; omega) | (exfalso; have := he.1; omega)))))⟩
    · refine W_skip ?_
      refine W_seq ?_
      refine W_region ?_
      refine L_run (.plain rfl) rfl rfl (r_assign (v := .int _ _) rfl) ?_
      refine L_nil ?_
      refine W_seq ?_
      refine W_seq ?_
      refine W_region ?_
      refine L_run (.plain rfl) rfl rfl (r_move (v := .bool _) rfl) ?_
      refine L_nil ?_
      refine W_endF [0, 2, 3, 9] (fun f W => ∃ (q : Int), f 11 = .int .i64 q ∧ ((0 ≤ q ∧ q ≤ 1) ∧ W = w2)) ?_ ?_
      · refine W_bool rfl (fun h49 => ?_) (fun h49 => ?_)
        · refine W_region ?_
          refine L_run (.plain rfl) rfl rfl (r_assign (v := .int _ _) rfl) ?_
          refine L_nil ?_
          refine ⟨⟨rfl, rfl, rfl, rfl, trivial⟩, _, rfl, ?_⟩
          exact ⟨by omega, rfl⟩
        · refine W_skip ?_
          refine ⟨⟨rfl, rfl, rfl, rfl, trivial⟩, _, rfl, ?_⟩
          exact ⟨by omega, rfl⟩
      rintro gct49 w5 ⟨q, hf11, hCt49⟩
      refine W_as 11 hf11 rfl ?_
      clear hf11
      obtain ⟨hq, rfl⟩ := hCt49
      refine W_seq ?_
      refine W_region ?_
      refine L_run (.plain rfl) rfl rfl (r_move (v := .pointer _) rfl) ?_
      refine L_run (.plain rfl) rfl rfl (r_move (v := .int _ _) rfl) ?_
      refine L_run (.plain rfl) rfl rfl (r_move (v := .string _) rfl) ?_
      refine L_sbytes Try.underlying9 Try.underlying31 Try.underlying5 (by first | omega | (simp only [sb_size, ByteArray.size_append]; omega)) (.plain rfl) rfl rfl (fun v53 w6 hv53 c6 eb6 hs6 => ?_)
      refine L_call (.plain rfl) rfl rfl (r_call Try.func11 rfl rfl rfl (by rfl)) (put_in _ b 5 q _ (bs a0) [] _ (NetAt.nw hN (by (repeat (first | exact Ch.refl _ | assumption | (refine Ch.fresh ?_ (by assumption) (by intro i hi he; first | exact he | (exfalso; have he2 : _ = some i := he; have := own_base (by assumption) he2; omega) | (exfalso; have he2 : i = _ := he; omega) | (exfalso; have he2 : _ = some i := he; have := ow_base (by assumption) he2; omega) | (exfalso; have := he.1; omega))))))) (by simp; omega) (by omega) (by (exact Sl.to (by first | assumption | exact Sl.own (by assumption) | exact Mu.sl (by assumption) | exact Ow.sl (by assumption)) (fun i hi => by (repeat (first | exact Sm.refl _ _ | (refine Sm.stepT (by assumption) (by intro hlt hsm; first | exact not_no | (intro he; have he2 : _ = some _ := he; have := own_base (by assumption) he2; omega) | (intro he; have he2 : _ = _ := he; omega) | (intro he; have he2 : _ = some _ := he; have := ow_base (by assumption) he2; omega) | (intro he; have := he.1; omega) | exact bk_not (by assumption) hsm rfl | (refine own_not ?_ hi hsm rfl <;> assumption) | (refine ow_not ?_ hi hsm rfl <;> assumption) | (intro he; have he2 : _ = some _ := he; have := Ow.lt (by assumption) he2; omega) | (intro he; have he2 : _ = some _ := he; have := Ow.lt (by assumption) he2; have := own_base (by assumption) hi; omega) | (intro he; have he2 : _ = some _ := he; have := Ow.lt how he2; first | omega | (have := own_base (by assumption) hi; omega)) | (intro he; have he2 : _ = _ := he; have := own_base (by assumption) hi; omega) | (intro he; have he2 : _ = _ := he; rw [he2] at hi; exact absurd hi (by assumption)) | (intro he; first | exact absurd he (by assumption) | exact absurd he.symm (by assumption))) ?_)))))) (by omega) (by omega)) ?_
      rintro v54 w7 ⟨rfl, hN1, c7⟩
      have hz7 := c7.size
      refine L_run (.plain rfl) rfl rfl (r_move (v := .bool _) rfl) ?_
      refine L_as (v := .bool _) (v' := .bool true) 55 rfl (congrArg Value.bool (by rfl)) ?_
      refine L_run (.yes 5 true rfl rfl) rfl rfl (r_move (v := .pointer _) rfl) ?_
      refine L_call (.yes 5 true rfl rfl) rfl rfl (r_call Try.func16 rfl rfl rfl (by rfl)) (copy_in _ b 0 5 [(q, bs a0)] _ (NetAt.nw hN1 (by (repeat (first | exact Ch.refl _ | assumption | (refine Ch.fresh ?_ (by assumption) (by intro i hi he; first | exact he | (exfalso; have he2 : _ = some i := he; have := own_base (by assumption) he2; omega) | (exfalso; have he2 : i = _ := he; omega) | (exfalso; have he2 : _ = some i := he; have := ow_base (by assumption) he2; omega) | (exfalso; have := he.1; omega))))))) (by simp) (by simp) (by omega) hq (by show (bs a0).length ≤ _; omega) (by omega)) ?_
      rintro v57 w8 ⟨rfl, hN2, c8⟩
      have hz8 := c8.size
      refine L_run (.plain rfl) rfl rfl (r_pick_t (v := .bool _) rfl rfl) ?_
      refine L_run (.plain rfl) rfl rfl (r_move (v := .bool _) rfl) ?_
      refine L_as (v := .bool _) (v' := .bool true) 59 rfl (congrArg Value.bool (by rfl)) ?_
      refine L_run (.yes 9 true rfl rfl) rfl rfl (r_move (v := .pointer _) rfl) ?_
      refine L_run (.yes 9 true rfl rfl) rfl rfl (r_move (v := .int _ _) rfl) ?_
      refine L_run (.yes 9 true rfl rfl) rfl rfl (r_conv Try.underlying5 Try.underlying3 rfl (by first | exact wr_i64 (by omega) | rfl)) ?_
      refine L_run (.yes 9 true rfl rfl) rfl rfl (r_move (v := .string _) rfl) ?_
      refine L_sbytes Try.underlying9 Try.underlying31 Try.underlying5 (by first | omega | (simp only [sb_size, ByteArray.size_append]; omega)) (.yes 9 true rfl rfl) rfl rfl (fun v64 w9 hv64 c9 eb9 hs9 => ?_)
      refine L_call (.yes 9 true rfl rfl) rfl rfl (r_call Try.func19 rfl rfl rfl (by rfl)) (turn_in_walk _ b 0 5 a2 _ (bs a3) [(q, bs a0), (q, bs a0)] _ (NetAt.nw hN2 (by (repeat (first | exact Ch.refl _ | assumption | (refine Ch.fresh ?_ (by assumption) (by intro i hi he; first | exact he | (exfalso; have he2 : _ = some i := he; have := own_base (by assumption) he2; omega) | (exfalso; have he2 : i = _ := he; omega) | (exfalso; have he2 : _ = some i := he; have := ow_base (by assumption) he2; omega) | (exfalso; have := he.1; omega))))))) (by simp) (by (exact Sl.to (by first | assumption | exact Sl.own (by assumption) | exact Mu.sl (by assumption) | exact Ow.sl (by assumption)) (fun i hi => by (repeat (first | exact Sm.refl _ _ | (refine Sm.stepT (by assumption) (by intro hlt hsm; first | exact not_no | (intro he; have he2 : _ = some _ := he; have := own_base (by assumption) he2; omega) | (intro he; have he2 : _ = _ := he; omega) | (intro he; have he2 : _ = some _ := he; have := ow_base (by assumption) he2; omega) | (intro he; have := he.1; omega) | exact bk_not (by assumption) hsm rfl | (refine own_not ?_ hi hsm rfl <;> assumption) | (refine ow_not ?_ hi hsm rfl <;> assumption) | (intro he; have he2 : _ = some _ := he; have := Ow.lt (by assumption) he2; omega) | (intro he; have he2 : _ = some _ := he; have := Ow.lt (by assumption) he2; have := own_base (by assumption) hi; omega) | (intro he; have he2 : _ = some _ := he; have := Ow.lt how he2; first | omega | (have := own_base (by assumption) hi; omega)) | (intro he; have he2 : _ = _ := he; have := own_base (by assumption) hi; omega) | (intro he; have he2 : _ = _ := he; rw [he2] at hi; exact absurd hi (by assumption)) | (intro he; first | exact absurd he (by assumption) | exact absurd he.symm (by assumption))) ?_)))))) (by show (bs a0).length ≤ _; omega) (by omega) (by omega) (by omega)) ?_
      rintro v65 w10 ⟨rfl, hN3, c10⟩
      have hz10 := c10.size
      refine L_run (.plain rfl) rfl rfl (r_pick_t (v := .bool _) rfl rfl) ?_
      refine L_run (.plain rfl) rfl rfl (r_assign (v := .bool _) rfl) ?_
      refine L_nil ?_
      refine W_seq ?_
      refine W_region ?_
      refine L_run (.plain rfl) rfl rfl (r_move (v := .pointer _) rfl) ?_
      refine L_call (.plain rfl) rfl rfl (r_call Try.func12 rfl rfl rfl (by rfl)) (take_in _ b 1 5 [(q, turn (bs a0) a2 (bs a3)), (q, bs a0)] _ (NetAt.nw hN3 (by (repeat (first | exact Ch.refl _ | assumption | (refine Ch.fresh ?_ (by assumption) (by intro i hi he; first | exact he | (exfalso; have he2 : _ = some i := he; have := own_base (by assumption) he2; omega) | (exfalso; have he2 : i = _ := he; omega) | (exfalso; have he2 : _ = some i := he; have := ow_base (by assumption) he2; omega) | (exfalso; have := he.1; omega))))))) (by simp) (by simp) (by omega)) ?_
      rintro v69 w11 ⟨u1, rfl, hu1, hN4, c11⟩
      have hz11 := c11.size
      refine L_run (.plain rfl) rfl rfl (r_move (by conv => lhs; whnf)) ?_
      refine L_run (.plain rfl) rfl rfl (r_ext3_0 rfl) ?_
      refine L_run (.plain rfl) rfl rfl (r_ext3_1 rfl) ?_
      refine L_run (.plain rfl) rfl rfl (r_ext3_2 rfl) ?_
      refine L_run (.plain rfl) rfl rfl (r_assign (v := .int _ _) rfl) ?_
      refine L_run (.plain rfl) rfl rfl (r_assign (by conv => lhs; whnf)) ?_
      refine L_run (.plain rfl) rfl rfl (r_assign (v := .bool _) rfl) ?_
      refine L_nil ?_
      refine W_seq ?_
      refine W_region ?_
      refine L_run (.plain rfl) rfl rfl (r_move (v := .pointer _) rfl) ?_
      refine L_call (.plain rfl) rfl rfl (r_call Try.func12 rfl rfl rfl (by rfl)) (take_in _ b 0 5 [(q, turn (bs a0) a2 (bs a3))] _ (NetAt.nw hN4 (by (repeat (first | exact Ch.refl _ | assumption | (refine Ch.fresh ?_ (by assumption) (by intro i hi he; first | exact he | (exfalso; have he2 : _ = some i := he; have := own_base (by assumption) he2; omega) | (exfalso; have he2 : i = _ := he; omega) | (exfalso; have he2 : _ = some i := he; have := ow_base (by assumption) he2; omega) | (exfalso; have := he.1; omega))))))) (by simp) (by simp) (by omega)) ?_
      rintro v75 w12 ⟨u2, rfl, hu2, hN5, c12⟩
      have hz12 := c12.size
      have hx1 := (hu1.tb c12 rfl).1
      have hx2 := hu2.1
      refine L_run (.plain rfl) rfl rfl (r_move (by conv => lhs; whnf)) ?_
      refine L_run (.plain rfl) rfl rfl (r_ext3_0 rfl) ?_
      refine L_run (.plain rfl) rfl rfl (r_ext3_1 rfl) ?_
      refine L_run (.plain rfl) rfl rfl (r_ext3_2 rfl) ?_
      refine L_run (.plain rfl) rfl rfl (r_assign (v := .int _ _) rfl) ?_
      refine L_run (.plain rfl) rfl rfl (r_assign (by conv => lhs; whnf)) ?_
      refine L_run (.plain rfl) rfl rfl (r_assign (v := .bool _) rfl) ?_
      refine L_nil ?_
      refine W_seq ?_
      refine W_region ?_
      refine L_run (.plain rfl) rfl rfl (r_move (v := .pointer _) rfl) ?_
      refine L_call (.plain rfl) rfl rfl (r_call Try.func12 rfl rfl rfl (by rfl)) (take_out _ b 5 0 [] _ (NetAt.nw hN5 (by (repeat (first | exact Ch.refl _ | assumption | (refine Ch.fresh ?_ (by assumption) (by intro i hi he; first | exact he | (exfalso; have he2 : _ = some i := he; have := own_base (by assumption) he2; omega) | (exfalso; have he2 : i = _ := he; omega) | (exfalso; have he2 : _ = some i := he; have := ow_base (by assumption) he2; omega) | (exfalso; have := he.1; omega))))))) (by simp)) ?_
      rintro v81 w13 ⟨rfl, rfl⟩
      refine L_run (.plain rfl) rfl rfl (r_move (by conv => lhs; whnf)) ?_
      refine L_run (.plain rfl) rfl rfl (r_ext3_0 rfl) ?_
      refine L_run (.plain rfl) rfl rfl (r_ext3_1 rfl) ?_
      refine L_run (.plain rfl) rfl rfl (r_ext3_2 rfl) ?_
      refine L_run (.plain rfl) rfl rfl (r_assign (v := .int _ _) rfl) ?_
      refine L_run (.plain rfl) rfl rfl (r_assign (by conv => lhs; whnf)) ?_
      refine L_run (.plain rfl) rfl rfl (r_assign (v := .bool _) rfl) ?_
      refine L_nil ?_
      refine W_seq ?_
      refine W_region ?_
      refine L_run (.plain rfl) rfl rfl (r_assign (v := .bool _) rfl) ?_
      refine L_nil ?_
      refine W_seq ?_
      refine W_seq ?_
      refine W_region ?_
      refine L_run (.plain rfl) rfl rfl (r_assign (v := .int _ _) rfl) ?_
      refine L_nil ?_
      refine W_block ?_
      refine W_loopF [0, 2, 3, 11, 12, 13, 14, 15, 16, 17, 18, 21] (fun m f W => ∃ (i : Nat), f 22 = .bool (decide (sameB (bs a0) a2 (bs a3) i)) ∧ f 23 = .int .i64 i ∧ (i ≤ a3.size ∧ W = w12) ∧ m = a3.size - i) ?_ ?_
      · refine ⟨_, 0, rfl, rfl, ?_, rfl⟩
        exact ⟨by omega, rfl⟩
      rintro m0 g0 w14 ⟨i, hf22, hf23, hR0, rfl⟩
      refine W_as 22 hf22 rfl ?_
      refine W_as 23 hf23 rfl ?_
      clear hf22 hf23
      obtain ⟨hi, rfl⟩ := hR0
      refine W_seq ?_
      refine W_seq ?_
      refine W_region ?_
      refine L_run (.plain rfl) rfl rfl (r_move (v := .int _ _) rfl) ?_
      refine L_run (.plain rfl) rfl rfl (r_move (v := .string _) rfl) ?_
      refine L_run (.plain rfl) rfl rfl (r_lens Try.underlying9 rfl) ?_
      refine L_run (.plain rfl) rfl rfl (r_lss rfl rfl) ?_
      refine L_nil ?_
      refine W_if rfl (fun h88 => ?_) (fun h88 => ?_)
      · refine W_skip ?_
        refine W_seq ?_
        refine W_block ?_
        refine W_region ?_
        refine L_run (.plain rfl) rfl rfl (r_move (v := .bool _) rfl) ?_
        refine L_run (.plain rfl) rfl rfl (r_move (v := .bool _) rfl) ?_
        refine L_case (d := 92) rfl (fun h92 => ?_) (fun h92 => ?_)
        · refine L_run (.yes 1 true rfl rfl) rfl rfl (r_move (v := .string _) rfl) ?_
          refine L_run (.yes 1 true rfl rfl) rfl rfl (r_move (v := .int _ _) rfl) ?_
          refine L_run (.yes 1 true rfl rfl) rfl rfl (r_indexs Try.underlying9 rfl rfl (by omega) (by omega) (by conv => lhs; (try simp only [Nat.mul_one, Nat.zero_add, Int.toNat_natCast, Int.toNat_zero, Int.reduceToNat, Nat.reduceMul, Nat.reduceAdd]))) ?_
          refine L_run (.yes 1 true rfl rfl) rfl rfl (r_eql rfl rfl) ?_
          refine L_run (.yes 1 true rfl rfl) rfl rfl (r_move (v := .bool _) rfl) ?_
          refine L_case (d := 97) rfl (fun h97 => ?_) (fun h97 => ?_)
          · refine L_pass rfl rfl rfl rfl rfl ?_
            refine L_pass rfl rfl rfl rfl rfl ?_
            refine L_pass rfl rfl rfl rfl rfl ?_
            refine L_pass rfl rfl rfl rfl rfl ?_
            refine L_pass rfl rfl rfl rfl rfl ?_
            refine L_pass rfl rfl rfl rfl rfl ?_
            refine L_pass rfl rfl rfl rfl rfl ?_
            refine L_run (.yes 1 true rfl rfl) rfl rfl (r_pick_t (v := .bool _) rfl rfl) ?_
            refine L_run (.plain rfl) rfl rfl (r_pick_t (v := .bool _) rfl rfl) ?_
            refine L_run (.plain rfl) rfl rfl (r_assign (v := .bool _) rfl) ?_
            refine L_nil ?_
            refine W_region ?_
            refine L_run (.plain rfl) rfl rfl (r_move (v := .int _ _) rfl) ?_
            refine L_run (.plain rfl) rfl rfl (r_add rfl rfl (by first | exact wr_i64 (by omega) | rfl)) ?_
            refine L_run (.plain rfl) rfl rfl (r_assign (v := .int _ _) rfl) ?_
            refine L_nil ?_
            refine ⟨⟨rfl, rfl, rfl, rfl, rfl, rfl, rfl, rfl, rfl, rfl, rfl, rfl, trivial⟩, _, ?_, i + 1, (by first | exact dec_t (fun j hj => by omega) | (refine dec_f ?_; rw [sameB_succ]; exact fun h => h92 h.1) | (refine dec_t ?_; rw [sameB_succ]; exact ⟨h92, .inl ((u8_zero _).1 h97)⟩) | (refine dec_i ?_; rw [sameB_succ]; exact ⟨fun h => ⟨h92, .inr (by omega)⟩, fun h => by rcases h.2 with h | h; exact absurd ((u8_zero _).2 h) h97; omega⟩)), rfl, ?_, rfl⟩
            · omega
            exact ⟨by omega, rfl⟩
          · refine L_run (.yes 6 false rfl rfl) rfl rfl (r_move (v := .int _ _) rfl) ?_
            refine L_run (.yes 6 false rfl rfl) rfl rfl (r_conv Try.underlying5 Try.underlying3 rfl (by first | exact wr_i64 (by omega) | rfl)) ?_
            refine L_run (.yes 6 false rfl rfl) rfl rfl (r_move (v := .int _ _) rfl) ?_
            refine L_run (.yes 6 false rfl rfl) rfl rfl (r_add rfl rfl (by first | exact wr_i64 (by omega) | rfl)) ?_
            refine L_run (.yes 6 false rfl rfl) rfl rfl (r_move (v := .string _) rfl) ?_
            refine L_run (.yes 6 false rfl rfl) rfl rfl (r_lens Try.underlying9 rfl) ?_
            refine L_run (.yes 6 false rfl rfl) rfl rfl (r_geq rfl rfl) ?_
            refine L_run (.yes 1 true rfl rfl) rfl rfl (r_pick_f (v := .bool _) rfl rfl) ?_
            refine L_run (.plain rfl) rfl rfl (r_pick_t (v := .bool _) rfl rfl) ?_
            refine L_run (.plain rfl) rfl rfl (r_assign (v := .bool _) rfl) ?_
            refine L_nil ?_
            refine W_region ?_
            refine L_run (.plain rfl) rfl rfl (r_move (v := .int _ _) rfl) ?_
            refine L_run (.plain rfl) rfl rfl (r_add rfl rfl (by first | exact wr_i64 (by omega) | rfl)) ?_
            refine L_run (.plain rfl) rfl rfl (r_assign (v := .int _ _) rfl) ?_
            refine L_nil ?_
            refine ⟨⟨rfl, rfl, rfl, rfl, rfl, rfl, rfl, rfl, rfl, rfl, rfl, rfl, trivial⟩, _, ?_, i + 1, (by first | exact dec_t (fun j hj => by omega) | (refine dec_f ?_; rw [sameB_succ]; exact fun h => h92 h.1) | (refine dec_t ?_; rw [sameB_succ]; exact ⟨h92, .inl ((u8_zero _).1 h97)⟩) | (refine dec_i ?_; rw [sameB_succ]; exact ⟨fun h => ⟨h92, .inr (by omega)⟩, fun h => by rcases h.2 with h | h; exact absurd ((u8_zero _).2 h) h97; omega⟩)), rfl, ?_, rfl⟩
            · omega
            exact ⟨by omega, rfl⟩
        · refine L_pass rfl rfl rfl rfl rfl ?_
          refine L_pass rfl rfl rfl rfl rfl ?_
          refine L_pass rfl rfl rfl rfl rfl ?_
          refine L_pass rfl rfl rfl rfl rfl ?_
          refine L_pass rfl rfl rfl rfl rfl ?_
          refine L_passu rfl rfl rfl rfl ?_
          refine L_passu rfl rfl rfl rfl ?_
          refine L_passu rfl rfl rfl rfl ?_
          refine L_passu rfl rfl rfl rfl ?_
          refine L_passu rfl rfl rfl rfl ?_
          refine L_passu rfl rfl rfl rfl ?_
          refine L_passu rfl rfl rfl rfl ?_
          refine L_pass rfl rfl rfl rfl rfl ?_
          refine L_run (.plain rfl) rfl rfl (r_pick_f (v := .bool _) rfl rfl) ?_
          refine L_run (.plain rfl) rfl rfl (r_assign (v := .bool _) rfl) ?_
          refine L_nil ?_
          refine W_region ?_
          refine L_run (.plain rfl) rfl rfl (r_move (v := .int _ _) rfl) ?_
          refine L_run (.plain rfl) rfl rfl (r_add rfl rfl (by first | exact wr_i64 (by omega) | rfl)) ?_
          refine L_run (.plain rfl) rfl rfl (r_assign (v := .int _ _) rfl) ?_
          refine L_nil ?_
          refine ⟨⟨rfl, rfl, rfl, rfl, rfl, rfl, rfl, rfl, rfl, rfl, rfl, rfl, trivial⟩, _, ?_, i + 1, (by first | exact dec_t (fun j hj => by omega) | (refine dec_f ?_; rw [sameB_succ]; exact fun h => h92 h.1) | (refine dec_t ?_; rw [sameB_succ]; exact ⟨h92, .inl ((u8_zero _).1 h97)⟩) | (refine dec_i ?_; rw [sameB_succ]; exact ⟨fun h => ⟨h92, .inr (by omega)⟩, fun h => by rcases h.2 with h | h; exact absurd ((u8_zero _).2 h) h97; omega⟩)), rfl, ?_, rfl⟩
          · omega
          exact ⟨by omega, rfl⟩
      · obtain rfl : i = a3.size := by omega
        refine W_exit ?_
        repeat (first | refine blk_hit ?_ | refine blk_miss rfl ?_)
        refine W_seq ?_
        refine W_region ?_
        refine L_run (.plain rfl) rfl rfl (r_move (v := .bool _) rfl) ?_
        refine L_run (.plain rfl) rfl rfl (r_move (v := .bool _) rfl) ?_
        refine L_as (v := .bool _) (v' := .bool true) 108 rfl (congrArg Value.bool (by rfl)) ?_
        refine L_run (.yes 1 true rfl rfl) rfl rfl (r_move (v := .bool _) rfl) ?_
        refine L_run (.plain rfl) rfl rfl (r_pick_t (v := .bool _) rfl rfl) ?_
        refine L_run (.plain rfl) rfl rfl (r_move (v := .bool _) rfl) ?_
        refine L_as (v := .bool _) (v' := .bool true) 111 rfl (congrArg Value.bool (by rfl)) ?_
        refine L_run (.yes 4 true rfl rfl) rfl rfl (r_move (v := .bool _) rfl) ?_
        refine L_run (.plain rfl) rfl rfl (r_pick_t (v := .bool _) rfl rfl) ?_
        refine L_run (.plain rfl) rfl rfl (r_move (v := .bool _) rfl) ?_
        refine L_as (v := .bool _) (v' := .bool true) 114 rfl (congrArg Value.bool (by rfl)) ?_
        refine L_run (.yes 7 true rfl rfl) rfl rfl (r_move (v := .bool _) rfl) ?_
        refine L_run (.yes 7 true rfl rfl) rfl rfl (r_not rfl) ?_
        refine L_run (.plain rfl) rfl rfl (r_pick_t (v := .bool _) rfl rfl) ?_
        refine L_run (.plain rfl) rfl rfl (r_move (v := .bool _) rfl) ?_
        refine L_as (v := .bool _) (v' := .bool true) 118 rfl (congrArg Value.bool (by rfl)) ?_
        refine L_run (.yes 11 true rfl rfl) rfl rfl (r_move (v := .int _ _) rfl) ?_
        refine L_run (.yes 11 true rfl rfl) rfl rfl (r_move (v := .int _ _) rfl) ?_
        refine L_run (.yes 11 true rfl rfl) rfl rfl (r_eql rfl rfl) ?_
        refine L_run (.plain rfl) rfl rfl (r_pick_t (v := .bool _) rfl rfl) ?_
        refine L_run (.plain rfl) rfl rfl (r_move (v := .bool _) rfl) ?_
        refine L_as (v := .bool _) (v' := .bool true) 123 rfl (dec_t (by rfl)).symm ?_
        refine L_run (.yes 16 true rfl rfl) rfl rfl (r_move (v := .int _ _) rfl) ?_
        refine L_run (.yes 16 true rfl rfl) rfl rfl (r_move (v := .int _ _) rfl) ?_
        refine L_run (.yes 16 true rfl rfl) rfl rfl (r_eql rfl rfl) ?_
        refine L_run (.plain rfl) rfl rfl (r_pick_t (v := .bool _) rfl rfl) ?_
        refine L_run (.plain rfl) rfl rfl (r_move (v := .bool _) rfl) ?_
        refine L_as (v := .bool _) (v' := .bool true) 128 rfl (dec_t (by rfl)).symm ?_
        refine L_run (.yes 21 true rfl rfl) rfl rfl (r_move (by conv => lhs; whnf)) ?_
        refine L_run (.yes 21 true rfl rfl) rfl rfl (r_bstr Try.underlying31 Try.underlying5 Try.underlying9 (by conv => lhs; whnf) (by (exact Sl.to (by first | assumption | exact Sl.own (by assumption) | exact Mu.sl (by assumption) | exact Ow.sl (by assumption)) (fun i hi => by (repeat (first | exact Sm.refl _ _ | (refine Sm.stepT (by assumption) (by intro hlt hsm; first | exact not_no | (intro he; have he2 : _ = some _ := he; have := own_base (by assumption) he2; omega) | (intro he; have he2 : _ = _ := he; omega) | (intro he; have he2 : _ = some _ := he; have := ow_base (by assumption) he2; omega) | (intro he; have := he.1; omega) | exact bk_not (by assumption) hsm rfl | (refine own_not ?_ hi hsm rfl <;> assumption) | (refine ow_not ?_ hi hsm rfl <;> assumption) | (intro he; have he2 : _ = some _ := he; have := Ow.lt (by assumption) he2; omega) | (intro he; have he2 : _ = some _ := he; have := Ow.lt (by assumption) he2; have := own_base (by assumption) hi; omega) | (intro he; have he2 : _ = some _ := he; have := Ow.lt how he2; first | omega | (have := own_base (by assumption) hi; omega)) | (intro he; have he2 : _ = _ := he; have := own_base (by assumption) hi; omega) | (intro he; have he2 : _ = _ := he; rw [he2] at hi; exact absurd hi (by assumption)) | (intro he; first | exact absurd he (by assumption) | exact absurd he.symm (by assumption))) ?_))))))) ?_
        refine L_run (.yes 21 true rfl rfl) rfl rfl (r_move (v := .string _) rfl) ?_
        refine L_run (.yes 21 true rfl rfl) rfl rfl (r_eqls rfl rfl) ?_
        refine L_run (.plain rfl) rfl rfl (r_pick_t (v := .bool _) rfl rfl) ?_
        refine L_run (.plain rfl) rfl rfl (r_move (v := .bool _) rfl) ?_
        refine L_as (v := .bool _) (v' := .bool true) 134 rfl (dec_t (by exact sb_bs a0)).symm ?_
        refine L_run (.yes 27 true rfl rfl) rfl rfl (r_move (by conv => lhs; whnf)) ?_
        refine L_run (.yes 27 true rfl rfl) rfl rfl (r_bstr Try.underlying31 Try.underlying5 Try.underlying9 (by conv => lhs; whnf) (by (exact Sl.to (by first | assumption | exact Sl.own (by assumption) | exact Mu.sl (by assumption) | exact Ow.sl (by assumption)) (fun i hi => by (repeat (first | exact Sm.refl _ _ | (refine Sm.stepT (by assumption) (by intro hlt hsm; first | exact not_no | (intro he; have he2 : _ = some _ := he; have := own_base (by assumption) he2; omega) | (intro he; have he2 : _ = _ := he; omega) | (intro he; have he2 : _ = some _ := he; have := ow_base (by assumption) he2; omega) | (intro he; have := he.1; omega) | exact bk_not (by assumption) hsm rfl | (refine own_not ?_ hi hsm rfl <;> assumption) | (refine ow_not ?_ hi hsm rfl <;> assumption) | (intro he; have he2 : _ = some _ := he; have := Ow.lt (by assumption) he2; omega) | (intro he; have he2 : _ = some _ := he; have := Ow.lt (by assumption) he2; have := own_base (by assumption) hi; omega) | (intro he; have he2 : _ = some _ := he; have := Ow.lt how he2; first | omega | (have := own_base (by assumption) hi; omega)) | (intro he; have he2 : _ = _ := he; have := own_base (by assumption) hi; omega) | (intro he; have he2 : _ = _ := he; rw [he2] at hi; exact absurd hi (by assumption)) | (intro he; first | exact absurd he (by assumption) | exact absurd he.symm (by assumption))) ?_))))))) ?_
        refine L_run (.yes 27 true rfl rfl) rfl rfl (r_move (v := .string _) rfl) ?_
        refine L_run (.yes 27 true rfl rfl) rfl rfl (r_eqls rfl rfl) ?_
        refine L_run (.yes 27 true rfl rfl) rfl rfl (r_move (v := .bool _) rfl) ?_
        refine L_run (.yes 27 true rfl rfl) rfl rfl (r_eqlb Try.underlying4 rfl rfl) ?_
        refine L_run (.plain rfl) rfl rfl (r_pick_t (v := .bool _) rfl rfl) ?_
        refine L_run (.plain rfl) rfl rfl (r_move (v := .bool _) rfl) ?_
        refine L_as (v := .bool _) (v' := .bool true) 142 rfl (dec_t (by (rw [decide_eq_decide, ← bs_length a3, ← turn_same _ _ _ y2.1]; exact sb_eq _ _))).symm ?_
        refine L_run (.yes 35 true rfl rfl) rfl rfl (r_move (by conv => lhs; whnf)) ?_
        refine L_run (.yes 35 true rfl rfl) rfl rfl (r_lenSl Try.underlying31 (by conv => lhs; whnf) (by (exact Sl.to (by first | assumption | exact Sl.own (by assumption) | exact Mu.sl (by assumption) | exact Ow.sl (by assumption)) (fun i hi => by (repeat (first | exact Sm.refl _ _ | (refine Sm.stepT (by assumption) (by intro hlt hsm; first | exact not_no | (intro he; have he2 : _ = some _ := he; have := own_base (by assumption) he2; omega) | (intro he; have he2 : _ = _ := he; omega) | (intro he; have he2 : _ = some _ := he; have := ow_base (by assumption) he2; omega) | (intro he; have := he.1; omega) | exact bk_not (by assumption) hsm rfl | (refine own_not ?_ hi hsm rfl <;> assumption) | (refine ow_not ?_ hi hsm rfl <;> assumption) | (intro he; have he2 : _ = some _ := he; have := Ow.lt (by assumption) he2; omega) | (intro he; have he2 : _ = some _ := he; have := Ow.lt (by assumption) he2; have := own_base (by assumption) hi; omega) | (intro he; have he2 : _ = some _ := he; have := Ow.lt how he2; first | omega | (have := own_base (by assumption) hi; omega)) | (intro he; have he2 : _ = _ := he; have := own_base (by assumption) hi; omega) | (intro he; have he2 : _ = _ := he; rw [he2] at hi; exact absurd hi (by assumption)) | (intro he; first | exact absurd he (by assumption) | exact absurd he.symm (by assumption))) ?_))))))) ?_
        refine L_run (.yes 35 true rfl rfl) rfl rfl (r_move (v := .string _) rfl) ?_
        refine L_run (.yes 35 true rfl rfl) rfl rfl (r_lens Try.underlying9 rfl) ?_
        refine L_run (.yes 35 true rfl rfl) rfl rfl (r_eql rfl rfl) ?_
        refine L_run (.plain rfl) rfl rfl (r_pick_t (v := .bool _) rfl rfl) ?_
        refine L_run (.plain rfl) rfl rfl (r_assign (v := .bool _) rfl) ?_
        refine L_nil ?_
        refine W_ret ?_
        refine ret1 (v := .bool _) rfl rfl ?_
        first
          | exact ⟨rfl, by (repeat (first | exact Ch.refl _ | assumption | (refine Ch.fresh ?_ (by assumption) (by intro i hi he; first | exact he | (exfalso; have he2 : _ = some i := he; have := own_base (by assumption) he2; omega) | (exfalso; have he2 : i = _ := he; omega) | (exfalso; have he2 : _ = some i := he; have := ow_base (by assumption) he2; omega) | (exfalso; have := he.1; omega)))))⟩
          | exact ⟨(dec_t (by show ((turn (bs a0) a2 (bs a3)).length : Int) = _; rw [turn_length]; omega)).symm, by (repeat (first | exact Ch.refl _ | assumption | (refine Ch.fresh ?_ (by assumption) (by intro i hi he; first | exact he | (exfalso; have he2 : _ = some i := he; have := own_base (by assumption) he2; omega) | (exfalso; have he2 : i = _ := he; omega) | (exfalso; have he2 : _ = some i := he; have := ow_base (by assumption) he2; omega) | (exfalso; have := he.1; omega)))))⟩
end Go.Proofs.Ytplkjhoadnjkmaa

