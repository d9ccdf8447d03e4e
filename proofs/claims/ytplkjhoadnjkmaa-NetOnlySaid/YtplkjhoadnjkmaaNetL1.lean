/- The statements of layer 17 without lists, walked. -/
import Derived.Test.YtplkjhoadnjkmaaNet
namespace Go.Proofs.Ytplkjhoadnjkmaa
open Go Go.RowKit
set_option linter.unusedVariables false
set_option linter.unusedSimpArgs false
theorem first_at {l : List Int} {to x : Int} (h : isFirst l to x) (k : Nat) (hk : l[k]? = some to) (hno : ∀ j < k, l[j]? ≠ some to) : x = k := by
  rcases h with ⟨rfl, h⟩ | ⟨k', rfl, h1, h2⟩
  · exact absurd rfl (h k to hk)
  · by_cases e : k' < k
    · exact absurd h1 (hno k' e)
    · by_cases e2 : k < k'
      · exact absurd rfl (h2 k to e2 hk)
      · have : k' = k := by omega
        rw [this]
theorem first_none {l : List Int} {to x : Int} (h : isFirst l to x) (hno : ∀ j : Nat, l[j]? ≠ some to) : x = -1 := by
  rcases h with ⟨rfl, h⟩ | ⟨k', rfl, h1, h2⟩
  · rfl
  · exact absurd h1 (hno k')
theorem awake_walk  (w0 : World) : Does Try.prog 10 #[] w0 (fun r w' => r = .bool true ∧ Nw w0 w') := by
  refine fn_of (n := 66) (args := []) Try.func10 rfl rfl rfl ?_
  refine W_seq ?_
  refine W_region ?_
  refine L_run (.plain rfl) rfl rfl (r_assign (v := .bool _) rfl) ?_
  refine L_nil ?_
  refine W_seq ?_
  refine W_region ?_
  refine L_call (.plain rfl) rfl rfl (r_call Try.func9 rfl rfl rfl (by rfl)) (new_walk 5 _ (by omega)) ?_
  rintro v7 w1 ⟨b, rfl, hN, c1⟩
  have hz1 := c1.size
  refine L_run (.plain rfl) rfl rfl (r_move (by conv => lhs; whnf)) ?_
  refine L_run (.plain rfl) rfl rfl (r_ext2_0 rfl) ?_
  refine L_run (.plain rfl) rfl rfl (r_ext2_1 rfl) ?_
  refine L_run (.plain rfl) rfl rfl (r_assign (v := .pointer _) rfl) ?_
  refine L_run (.plain rfl) rfl rfl (r_assign (v := .int _ _) rfl) ?_
  refine L_nil ?_
  refine W_seq ?_
  refine W_seq ?_
  refine W_region ?_
  refine L_run (.plain rfl) rfl rfl (r_move (v := .int _ _) rfl) ?_
  refine L_run (.plain rfl) rfl rfl (r_neq rfl rfl) ?_
  refine L_run (.plain rfl) rfl rfl (r_move (v := .bool _) rfl) ?_
  refine L_as (v := .bool _) (v' := .bool false) 12 rfl (dec_f (by simp)).symm ?_
  refine L_run (.yes 2 false rfl rfl) rfl rfl (r_move (v := .pointer _) rfl) ?_
  refine L_run (.yes 2 false rfl rfl) rfl rfl (r_eqpnil Try.underlying24 rfl rfl) ?_
  refine L_as (v := .bool _) (v' := .bool false) 14 rfl (congrArg Value.bool (by rfl)) ?_
  refine L_run (.plain rfl) rfl rfl (r_pick_f (v := .bool _) rfl rfl) ?_
  refine L_run (.plain rfl) rfl rfl (r_move (v := .bool _) rfl) ?_
  refine L_run (.yes 6 false rfl rfl) rfl rfl (r_move (v := .pointer _) rfl) ?_
  refine L_build1 [.int _ _] Try.underlying31 rfl rfl rfl (.yes 6 false rfl rfl) rfl (by rfl) (by rfl) (by rfl) (fun b18 w2 hb18 hv18 eb2 hs2 c2 => ?_)
  refine L_mark Try.underlying31 Try.underlying5 (.yes 6 false rfl rfl) rfl rfl (by (exact Bk.to (by assumption) (by (repeat (first | exact Sm.refl _ _ | (refine Sm.stepT (by assumption) (by intro hlt hsm; first | exact not_no | (intro he; have he2 : _ = some _ := he; have := own_base (by assumption) he2; omega) | (intro he; have he2 : _ = _ := he; omega) | (intro he; have he2 : _ = some _ := he; have := ow_base (by assumption) he2; omega) | (intro he; have := he.1; omega) | exact bk_not (by assumption) hsm rfl | (refine own_not ?_ hi hsm rfl <;> assumption) | (refine ow_not ?_ hi hsm rfl <;> assumption) | (intro he; have he2 : _ = some _ := he; have := Ow.lt (by assumption) he2; omega) | (intro he; have he2 : _ = some _ := he; have := Ow.lt (by assumption) he2; have := own_base (by assumption) hi; omega) | (intro he; have he2 : _ = some _ := he; have := Ow.lt how he2; first | omega | (have := own_base (by assumption) hi; omega)) | (intro he; have he2 : _ = _ := he; have := own_base (by assumption) hi; omega) | (intro he; have he2 : _ = _ := he; have := ow_base (by assumption) hi; omega) | (intro he; have he2 : _ = _ := he; rw [he2] at hi; exact absurd hi (by assumption)) | (intro he; have he2 : _ = some _ := he; have h3 := own_lt (by assumption) he2; first | omega | (have h4 : _ = some _ := hi; simp [Value.ownBlock] at h4; omega)) | (intro he; have he2 : _ = some _ := he; have h3 := ow_base (by assumption) he2; have h4 : _ = some _ := hi; simp [Value.ownBlock] at h4; omega) | (intro he; have he2 : _ = some _ := he; exact absurd he2 (hsep _ hi)) | (intro he; first | exact absurd he (by assumption) | exact absurd he.symm (by assumption))) ?_)))))) rfl (fun w3 hb3 hv19 hs3 c3 => ?_)
  have hv19 : By _ _ [97] := hv19
  refine L_call (.yes 6 false rfl rfl) rfl rfl (r_call Try.func11 rfl rfl rfl (by rfl)) (put_in _ b 5 0 _ [97] [] _ (NetAt.nw hN (by (repeat (first | exact Ch.refl _ | assumption | (refine Ch.fresh ?_ (by assumption) (by intro i hi he; first | exact he | (exfalso; have he2 : _ = some i := he; have := own_base (by assumption) he2; omega) | (exfalso; have he2 : i = _ := he; omega) | (exfalso; have he2 : _ = some i := he; have := ow_base (by assumption) he2; omega) | (exfalso; have := he.1; omega))))))) (by simp) (by omega) (by (exact Sl.to (by first | assumption | exact Sl.own (by assumption) | exact Mu.sl (by assumption) | exact Ow.sl (by assumption)) (fun i hi => by (repeat (first | exact Sm.refl _ _ | (refine Sm.stepT (by assumption) (by intro hlt hsm; first | exact not_no | (intro he; have he2 : _ = some _ := he; have := own_base (by assumption) he2; omega) | (intro he; have he2 : _ = _ := he; omega) | (intro he; have he2 : _ = some _ := he; have := ow_base (by assumption) he2; omega) | (intro he; have := he.1; omega) | exact bk_not (by assumption) hsm rfl | (refine own_not ?_ hi hsm rfl <;> assumption) | (refine ow_not ?_ hi hsm rfl <;> assumption) | (intro he; have he2 : _ = some _ := he; have := Ow.lt (by assumption) he2; omega) | (intro he; have he2 : _ = some _ := he; have := Ow.lt (by assumption) he2; have := own_base (by assumption) hi; omega) | (intro he; have he2 : _ = some _ := he; have := Ow.lt how he2; first | omega | (have := own_base (by assumption) hi; omega)) | (intro he; have he2 : _ = _ := he; have := own_base (by assumption) hi; omega) | (intro he; have he2 : _ = _ := he; have := ow_base (by assumption) hi; omega) | (intro he; have he2 : _ = _ := he; rw [he2] at hi; exact absurd hi (by assumption)) | (intro he; have he2 : _ = some _ := he; have h3 := own_lt (by assumption) he2; first | omega | (have h4 : _ = some _ := hi; simp [Value.ownBlock] at h4; omega)) | (intro he; have he2 : _ = some _ := he; have h3 := ow_base (by assumption) he2; have h4 : _ = some _ := hi; simp [Value.ownBlock] at h4; omega) | (intro he; have he2 : _ = some _ := he; exact absurd he2 (hsep _ hi)) | (intro he; first | exact absurd he (by assumption) | exact absurd he.symm (by assumption))) ?_)))))) (by decide) (by omega)) ?_
  rintro v20 w4 ⟨rfl, hN1, c4⟩
  have hz4 := c4.size
  refine L_run (.yes 6 false rfl rfl) rfl rfl (r_not rfl) ?_
  refine L_as (v := .bool _) (v' := .bool false) 21 rfl (congrArg Value.bool (by rfl)) ?_
  refine L_run (.plain rfl) rfl rfl (r_pick_f (v := .bool _) rfl rfl) ?_
  refine L_run (.plain rfl) rfl rfl (r_move (v := .bool _) rfl) ?_
  refine L_run (.yes 13 false rfl rfl) rfl rfl (r_move (v := .pointer _) rfl) ?_
  refine L_build1 [.int _ _] Try.underlying31 rfl rfl rfl (.yes 13 false rfl rfl) rfl (by rfl) (by rfl) (by rfl) (fun b25 w5 hb25 hv25 eb5 hs5 c5 => ?_)
  refine L_mark Try.underlying31 Try.underlying5 (.yes 13 false rfl rfl) rfl rfl (by (exact Bk.to (by assumption) (by (repeat (first | exact Sm.refl _ _ | (refine Sm.stepT (by assumption) (by intro hlt hsm; first | exact not_no | (intro he; have he2 : _ = some _ := he; have := own_base (by assumption) he2; omega) | (intro he; have he2 : _ = _ := he; omega) | (intro he; have he2 : _ = some _ := he; have := ow_base (by assumption) he2; omega) | (intro he; have := he.1; omega) | exact bk_not (by assumption) hsm rfl | (refine own_not ?_ hi hsm rfl <;> assumption) | (refine ow_not ?_ hi hsm rfl <;> assumption) | (intro he; have he2 : _ = some _ := he; have := Ow.lt (by assumption) he2; omega) | (intro he; have he2 : _ = some _ := he; have := Ow.lt (by assumption) he2; have := own_base (by assumption) hi; omega) | (intro he; have he2 : _ = some _ := he; have := Ow.lt how he2; first | omega | (have := own_base (by assumption) hi; omega)) | (intro he; have he2 : _ = _ := he; have := own_base (by assumption) hi; omega) | (intro he; have he2 : _ = _ := he; have := ow_base (by assumption) hi; omega) | (intro he; have he2 : _ = _ := he; rw [he2] at hi; exact absurd hi (by assumption)) | (intro he; have he2 : _ = some _ := he; have h3 := own_lt (by assumption) he2; first | omega | (have h4 : _ = some _ := hi; simp [Value.ownBlock] at h4; omega)) | (intro he; have he2 : _ = some _ := he; have h3 := ow_base (by assumption) he2; have h4 : _ = some _ := hi; simp [Value.ownBlock] at h4; omega) | (intro he; have he2 : _ = some _ := he; exact absurd he2 (hsep _ hi)) | (intro he; first | exact absurd he (by assumption) | exact absurd he.symm (by assumption))) ?_)))))) rfl (fun w6 hb6 hv26 hs6 c6 => ?_)
  have hv26 : By _ _ [98] := hv26
  refine L_call (.yes 13 false rfl rfl) rfl rfl (r_call Try.func11 rfl rfl rfl (by rfl)) (put_in _ b 5 1 _ [98] [(0, [97])] _ (NetAt.nw hN1 (by (repeat (first | exact Ch.refl _ | assumption | (refine Ch.fresh ?_ (by assumption) (by intro i hi he; first | exact he | (exfalso; have he2 : _ = some i := he; have := own_base (by assumption) he2; omega) | (exfalso; have he2 : i = _ := he; omega) | (exfalso; have he2 : _ = some i := he; have := ow_base (by assumption) he2; omega) | (exfalso; have := he.1; omega))))))) (by simp) (by omega) (by (exact Sl.to (by first | assumption | exact Sl.own (by assumption) | exact Mu.sl (by assumption) | exact Ow.sl (by assumption)) (fun i hi => by (repeat (first | exact Sm.refl _ _ | (refine Sm.stepT (by assumption) (by intro hlt hsm; first | exact not_no | (intro he; have he2 : _ = some _ := he; have := own_base (by assumption) he2; omega) | (intro he; have he2 : _ = _ := he; omega) | (intro he; have he2 : _ = some _ := he; have := ow_base (by assumption) he2; omega) | (intro he; have := he.1; omega) | exact bk_not (by assumption) hsm rfl | (refine own_not ?_ hi hsm rfl <;> assumption) | (refine ow_not ?_ hi hsm rfl <;> assumption) | (intro he; have he2 : _ = some _ := he; have := Ow.lt (by assumption) he2; omega) | (intro he; have he2 : _ = some _ := he; have := Ow.lt (by assumption) he2; have := own_base (by assumption) hi; omega) | (intro he; have he2 : _ = some _ := he; have := Ow.lt how he2; first | omega | (have := own_base (by assumption) hi; omega)) | (intro he; have he2 : _ = _ := he; have := own_base (by assumption) hi; omega) | (intro he; have he2 : _ = _ := he; have := ow_base (by assumption) hi; omega) | (intro he; have he2 : _ = _ := he; rw [he2] at hi; exact absurd hi (by assumption)) | (intro he; have he2 : _ = some _ := he; have h3 := own_lt (by assumption) he2; first | omega | (have h4 : _ = some _ := hi; simp [Value.ownBlock] at h4; omega)) | (intro he; have he2 : _ = some _ := he; have h3 := ow_base (by assumption) he2; have h4 : _ = some _ := hi; simp [Value.ownBlock] at h4; omega) | (intro he; have he2 : _ = some _ := he; exact absurd he2 (hsep _ hi)) | (intro he; first | exact absurd he (by assumption) | exact absurd he.symm (by assumption))) ?_)))))) (by decide) (by omega)) ?_
  rintro v27 w7 ⟨rfl, hN2, c7⟩
  have hz7 := c7.size
  refine L_run (.yes 13 false rfl rfl) rfl rfl (r_not rfl) ?_
  refine L_as (v := .bool _) (v' := .bool false) 28 rfl (congrArg Value.bool (by rfl)) ?_
  refine L_run (.plain rfl) rfl rfl (r_pick_f (v := .bool _) rfl rfl) ?_
  refine L_run (.plain rfl) rfl rfl (r_move (v := .bool _) rfl) ?_
  refine L_run (.yes 20 false rfl rfl) rfl rfl (r_move (v := .pointer _) rfl) ?_
  refine L_call (.yes 20 false rfl rfl) rfl rfl (r_call Try.func13 rfl rfl rfl (by rfl)) (first_walk _ b 5 1 [(0, [97]), (1, [98])] _ (NetAt.nw hN2 (by (repeat (first | exact Ch.refl _ | assumption | (refine Ch.fresh ?_ (by assumption) (by intro i hi he; first | exact he | (exfalso; have he2 : _ = some i := he; have := own_base (by assumption) he2; omega) | (exfalso; have he2 : i = _ := he; omega) | (exfalso; have he2 : _ = some i := he; have := ow_base (by assumption) he2; omega) | (exfalso; have := he.1; omega))))))) (by decide)) ?_
  rintro v32 w8 ⟨x, rfl, hx, c8⟩
  have hz8 := c8.size
  obtain rfl := first_at hx 1 rfl (by decide)
  refine L_run (.yes 20 false rfl rfl) rfl rfl (r_neq rfl rfl) ?_
  refine L_as (v := .bool _) (v' := .bool false) 33 rfl (dec_f (by simp)).symm ?_
  refine L_run (.plain rfl) rfl rfl (r_pick_f (v := .bool _) rfl rfl) ?_
  refine L_run (.plain rfl) rfl rfl (r_move (v := .bool _) rfl) ?_
  refine L_run (.yes 25 false rfl rfl) rfl rfl (r_move (v := .pointer _) rfl) ?_
  refine L_call (.yes 25 false rfl rfl) rfl rfl (r_call Try.func15 rfl rfl rfl (by rfl)) (lose_in _ b 0 5 [(0, [97]), (1, [98])] _ (NetAt.nw hN2 (by (repeat (first | exact Ch.refl _ | assumption | (refine Ch.fresh ?_ (by assumption) (by intro i hi he; first | exact he | (exfalso; have he2 : _ = some i := he; have := own_base (by assumption) he2; omega) | (exfalso; have he2 : i = _ := he; omega) | (exfalso; have he2 : _ = some i := he; have := ow_base (by assumption) he2; omega) | (exfalso; have := he.1; omega))))))) (by decide) (by decide) (by omega)) ?_
  rintro v37 w9 ⟨rfl, hN3, c9⟩
  have hz9 := c9.size
  refine L_run (.yes 25 false rfl rfl) rfl rfl (r_not rfl) ?_
  refine L_as (v := .bool _) (v' := .bool false) 38 rfl (congrArg Value.bool (by rfl)) ?_
  refine L_run (.plain rfl) rfl rfl (r_pick_f (v := .bool _) rfl rfl) ?_
  refine L_run (.plain rfl) rfl rfl (r_move (v := .bool _) rfl) ?_
  refine L_run (.yes 30 false rfl rfl) rfl rfl (r_move (v := .pointer _) rfl) ?_
  refine L_call (.yes 30 false rfl rfl) rfl rfl (r_call Try.func13 rfl rfl rfl (by rfl)) (first_walk _ b 5 1 [(1, [98])] _ (NetAt.nw hN3 (by (repeat (first | exact Ch.refl _ | assumption | (refine Ch.fresh ?_ (by assumption) (by intro i hi he; first | exact he | (exfalso; have he2 : _ = some i := he; have := own_base (by assumption) he2; omega) | (exfalso; have he2 : i = _ := he; omega) | (exfalso; have he2 : _ = some i := he; have := ow_base (by assumption) he2; omega) | (exfalso; have := he.1; omega))))))) (by decide)) ?_
  rintro v42 w10 ⟨x, rfl, hx, c10⟩
  have hz10 := c10.size
  obtain rfl := first_at hx 0 rfl (by decide)
  refine L_run (.yes 30 false rfl rfl) rfl rfl (r_neq rfl rfl) ?_
  refine L_as (v := .bool _) (v' := .bool false) 43 rfl (dec_f (by simp)).symm ?_
  refine L_run (.plain rfl) rfl rfl (r_pick_f (v := .bool _) rfl rfl) ?_
  refine L_nil ?_
  refine W_false rfl ?_
  refine W_skip ?_
  refine W_seq ?_
  refine W_region ?_
  refine L_run (.plain rfl) rfl rfl (r_move (v := .pointer _) rfl) ?_
  refine L_call (.plain rfl) rfl rfl (r_call Try.func12 rfl rfl rfl (by rfl)) (take_in _ b 0 5 [(1, [98])] _ (NetAt.nw hN3 (by (repeat (first | exact Ch.refl _ | assumption | (refine Ch.fresh ?_ (by assumption) (by intro i hi he; first | exact he | (exfalso; have he2 : _ = some i := he; have := own_base (by assumption) he2; omega) | (exfalso; have he2 : i = _ := he; omega) | (exfalso; have he2 : _ = some i := he; have := ow_base (by assumption) he2; omega) | (exfalso; have := he.1; omega))))))) (by decide) (by decide) (by omega)) ?_
  rintro v47 w11 ⟨u, rfl, hu, hN4, c11⟩
  have hz11 := c11.size
  have hu1 := hu.1
  refine L_run (.plain rfl) rfl rfl (r_move (by conv => lhs; whnf)) ?_
  refine L_run (.plain rfl) rfl rfl (r_ext3_0 rfl) ?_
  refine L_run (.plain rfl) rfl rfl (r_ext3_1 rfl) ?_
  refine L_run (.plain rfl) rfl rfl (r_ext3_2 rfl) ?_
  refine L_run (.plain rfl) rfl rfl (r_assign (v := .int _ _) rfl) ?_
  refine L_run (.plain rfl) rfl rfl (r_assign (by conv => lhs; whnf)) ?_
  refine L_run (.plain rfl) rfl rfl (r_assign (v := .bool _) rfl) ?_
  refine L_nil ?_
  refine W_seq ?_
  refine W_region ?_
  refine L_run (.plain rfl) rfl rfl (r_move (v := .int _ _) rfl) ?_
  refine L_run (.plain rfl) rfl rfl (r_eql rfl rfl) ?_
  refine L_as (v := .bool _) (v' := .bool true) 52 rfl (dec_t (by rfl)).symm ?_
  refine L_run (.plain rfl) rfl rfl (r_move (v := .bool _) rfl) ?_
  refine L_run (.yes 2 true rfl rfl) rfl rfl (r_move (by conv => lhs; whnf)) ?_
  refine L_run (.yes 2 true rfl rfl) rfl rfl (r_bstr Try.underlying31 Try.underlying5 Try.underlying9 (by conv => lhs; whnf) (by (exact Sl.to (by first | assumption | exact Sl.own (by assumption) | exact Mu.sl (by assumption) | exact Ow.sl (by assumption)) (fun i hi => by (repeat (first | exact Sm.refl _ _ | (refine Sm.stepT (by assumption) (by intro hlt hsm; first | exact not_no | (intro he; have he2 : _ = some _ := he; have := own_base (by assumption) he2; omega) | (intro he; have he2 : _ = _ := he; omega) | (intro he; have he2 : _ = some _ := he; have := ow_base (by assumption) he2; omega) | (intro he; have := he.1; omega) | exact bk_not (by assumption) hsm rfl | (refine own_not ?_ hi hsm rfl <;> assumption) | (refine ow_not ?_ hi hsm rfl <;> assumption) | (intro he; have he2 : _ = some _ := he; have := Ow.lt (by assumption) he2; omega) | (intro he; have he2 : _ = some _ := he; have := Ow.lt (by assumption) he2; have := own_base (by assumption) hi; omega) | (intro he; have he2 : _ = some _ := he; have := Ow.lt how he2; first | omega | (have := own_base (by assumption) hi; omega)) | (intro he; have he2 : _ = _ := he; have := own_base (by assumption) hi; omega) | (intro he; have he2 : _ = _ := he; have := ow_base (by assumption) hi; omega) | (intro he; have he2 : _ = _ := he; rw [he2] at hi; exact absurd hi (by assumption)) | (intro he; have he2 : _ = some _ := he; have h3 := own_lt (by assumption) he2; first | omega | (have h4 : _ = some _ := hi; simp [Value.ownBlock] at h4; omega)) | (intro he; have he2 : _ = some _ := he; have h3 := ow_base (by assumption) he2; have h4 : _ = some _ := hi; simp [Value.ownBlock] at h4; omega) | (intro he; have he2 : _ = some _ := he; exact absurd he2 (hsep _ hi)) | (intro he; first | exact absurd he (by assumption) | exact absurd he.symm (by assumption))) ?_))))))) ?_
  refine L_run (.yes 2 true rfl rfl) rfl rfl (r_eqls rfl rfl) ?_
  refine L_as (v := .bool _) (v' := .bool true) 56 rfl (dec_t (by rfl)).symm ?_
  refine L_run (.plain rfl) rfl rfl (r_pick_t (v := .bool _) rfl rfl) ?_
  refine L_run (.plain rfl) rfl rfl (r_move (v := .bool _) rfl) ?_
  refine L_run (.yes 7 true rfl rfl) rfl rfl (r_move (v := .bool _) rfl) ?_
  refine L_as (v := .bool _) (v' := .bool true) 59 rfl (congrArg Value.bool (by rfl)) ?_
  refine L_run (.plain rfl) rfl rfl (r_pick_t (v := .bool _) rfl rfl) ?_
  refine L_run (.plain rfl) rfl rfl (r_move (v := .bool _) rfl) ?_
  refine L_run (.yes 10 true rfl rfl) rfl rfl (r_move (v := .pointer _) rfl) ?_
  refine L_call (.yes 10 true rfl rfl) rfl rfl (r_call Try.func14 rfl rfl rfl (by rfl)) (len_walk _ b 5 [] _ (NetAt.nw hN4 (by (repeat (first | exact Ch.refl _ | assumption | (refine Ch.fresh ?_ (by assumption) (by intro i hi he; first | exact he | (exfalso; have he2 : _ = some i := he; have := own_base (by assumption) he2; omega) | (exfalso; have he2 : i = _ := he; omega) | (exfalso; have he2 : _ = some i := he; have := ow_base (by assumption) he2; omega) | (exfalso; have := he.1; omega)))))))) ?_
  rintro v63 w12 ⟨rfl, rfl⟩
  refine L_run (.yes 10 true rfl rfl) rfl rfl (r_eql rfl rfl) ?_
  refine L_run (.plain rfl) rfl rfl (r_pick_t (v := .bool _) rfl rfl) ?_
  refine L_run (.plain rfl) rfl rfl (r_assign (v := .bool _) rfl) ?_
  refine L_nil ?_
  refine W_ret ?_
  refine ret1 (v := .bool _) rfl rfl ?_
  exact ⟨rfl, by (repeat (first | exact Ch.refl _ | assumption | (refine Ch.fresh ?_ (by assumption) (by intro i hi he; first | exact he | (exfalso; have he2 : _ = some i := he; have := own_base (by assumption) he2; omega) | (exfalso; have he2 : i = _ := he; omega) | (exfalso; have he2 : _ = some i := he; have := ow_base (by assumption) he2; omega) | (exfalso; have := he.1; omega)))))⟩
theorem NetFull_n (n : Nat) (a1 : ByteArray) (w0 : World) (y0 : n ≤ 255) (y1 : a1.size ≤ 140737488351232) : Does Try.prog 5 #[.int .u8 n, .string a1] w0 (fun r w' => r = .bool true ∧ Nw w0 w') := by
  refine fn_of (n := 85) (args := [.int .u8 n, .string a1]) Try.func5 rfl rfl rfl ?_
  refine W_seq ?_
  refine W_region ?_
  refine L_run (.plain rfl) rfl rfl (r_assign (v := .bool _) rfl) ?_
  refine L_nil ?_
  refine W_seq ?_
  refine W_region ?_
  refine L_run (.plain rfl) rfl rfl (r_move (v := .int _ _) rfl) ?_
  refine L_run (.plain rfl) rfl rfl (r_conv Try.underlying5 Try.underlying3 rfl (by first | exact wr_i64 (by omega) | rfl)) ?_
  refine L_run (.plain rfl) rfl rfl (r_add rfl rfl (by first | exact wr_i64 (by omega) | rfl)) ?_
  refine L_call (.plain rfl) rfl rfl (r_call Try.func9 rfl rfl rfl (by rfl)) (new_walk (1 + n) _ (by omega)) ?_
  rintro v14 w1 ⟨b, rfl, hN, c1⟩
  have hz1 := c1.size
  refine L_run (.plain rfl) rfl rfl (r_move (by conv => lhs; whnf)) ?_
  refine L_run (.plain rfl) rfl rfl (r_ext2_0 rfl) ?_
  refine L_run (.plain rfl) rfl rfl (r_ext2_1 rfl) ?_
  refine L_run (.plain rfl) rfl rfl (r_assign (v := .pointer _) rfl) ?_
  refine L_run (.plain rfl) rfl rfl (r_assign (v := .int _ _) rfl) ?_
  refine L_nil ?_
  refine W_seq ?_
  refine W_seq ?_
  refine W_region ?_
  refine L_call (.plain rfl) rfl rfl (r_call Try.func10 rfl rfl rfl (by rfl)) (awake_walk _) ?_
  rintro v17 w2 ⟨rfl, c2⟩
  have hz2 := c2.size
  refine L_run (.plain rfl) rfl rfl (r_not rfl) ?_
  refine L_run (.plain rfl) rfl rfl (r_move (v := .bool _) rfl) ?_
  refine L_as (v := .bool _) (v' := .bool false) 19 rfl (congrArg Value.bool (by rfl)) ?_
  refine L_run (.yes 2 false rfl rfl) rfl rfl (r_move (v := .int _ _) rfl) ?_
  refine L_run (.yes 2 false rfl rfl) rfl rfl (r_neq rfl rfl) ?_
  refine L_run (.plain rfl) rfl rfl (r_pick_f (v := .bool _) rfl rfl) ?_
  refine L_run (.plain rfl) rfl rfl (r_move (v := .bool _) rfl) ?_
  refine L_as (v := .bool _) (v' := .bool false) 23 rfl (dec_f (by simp)).symm ?_
  refine L_run (.yes 6 false rfl rfl) rfl rfl (r_move (v := .pointer _) rfl) ?_
  refine L_run (.yes 6 false rfl rfl) rfl rfl (r_eqpnil Try.underlying24 rfl rfl) ?_
  refine L_run (.plain rfl) rfl rfl (r_pick_f (v := .bool _) rfl rfl) ?_
  refine L_run (.plain rfl) rfl rfl (r_move (v := .bool _) rfl) ?_
  refine L_as (v := .bool _) (v' := .bool false) 27 rfl (congrArg Value.bool (by rfl)) ?_
  refine L_run (.yes 10 false rfl rfl) rfl rfl (r_move (v := .string _) rfl) ?_
  refine L_run (.yes 10 false rfl rfl) rfl rfl (r_lens Try.underlying9 rfl) ?_
  refine L_run (.yes 10 false rfl rfl) rfl rfl (r_gtr rfl rfl) ?_
  refine L_run (.plain rfl) rfl rfl (r_pick_f (v := .bool _) rfl rfl) ?_
  refine L_nil ?_
  refine W_if rfl (fun h31 => ?_) (fun h31 => ?_)
  · refine W_seq ?_
    refine W_region ?_
    refine L_call (.plain rfl) rfl rfl (r_call Try.func10 rfl rfl rfl (by rfl)) (awake_walk _) ?_
    rintro v32 w3 ⟨rfl, c3⟩
    have hz3 := c3.size
    refine L_run (.plain rfl) rfl rfl (r_assign (v := .bool _) rfl) ?_
    refine L_nil ?_
    refine W_ret ?_
    refine ret1 (v := .bool _) rfl rfl ?_
    first
      | exact ⟨rfl, by (repeat (first | exact Ch.refl _ | assumption | (refine Ch.fresh ?_ (by assumption) (by intro i hi he; first | exact he | (exfalso; have he2 : _ = some i := he; have := own_base (by assumption) he2; omega) | (exfalso; have he2 : i = _ := he; omega) | (exfalso; have he2 : _ = some i := he; have := ow_base (by assumption) he2; omega) | (exfalso; have := he.1; omega)))))⟩
      | exact ⟨(dec_t (by rw [List.length_append, hle]; simp only [List.length_cons, List.length_nil]; omega)).symm, by (repeat (first | exact Ch.refl _ | assumption | (refine Ch.fresh ?_ (by assumption) (by intro i hi he; first | exact he | (exfalso; have he2 : _ = some i := he; have := own_base (by assumption) he2; omega) | (exfalso; have he2 : i = _ := he; omega) | (exfalso; have he2 : _ = some i := he; have := ow_base (by assumption) he2; omega) | (exfalso; have := he.1; omega)))))⟩
  · refine W_skip ?_
    refine W_seq ?_
    refine W_seq ?_
    refine W_region ?_
    refine L_run (.plain rfl) rfl rfl (r_assign (v := .int _ _) rfl) ?_
    refine L_nil ?_
    refine W_block ?_
    refine W_loopF [0, 1, 5] (fun m f W => ∃ (i : Nat) (L : List (Int × List UInt8)), f 7 = .int .i64 i ∧ (i ≤ n + 1 ∧ L.length = i ∧ NetAt w0.heap.size W b (1 + n) L ∧ Nw w0 W) ∧ m = n + 1 - i) ?_ ?_
    · refine ⟨_, 0, [], rfl, ?_, rfl⟩
      exact ⟨by omega, rfl, NetAt.nw hN (by (repeat (first | exact Ch.refl _ | assumption | (refine Ch.fresh ?_ (by assumption) (by intro i hi he; first | exact he | (exfalso; have he2 : _ = some i := he; have := own_base (by assumption) he2; omega) | (exfalso; have he2 : i = _ := he; omega) | (exfalso; have he2 : _ = some i := he; have := ow_base (by assumption) he2; omega) | (exfalso; have := he.1; omega)))))), by (repeat (first | exact Ch.refl _ | assumption | (refine Ch.fresh ?_ (by assumption) (by intro i hi he; first | exact he | (exfalso; have he2 : _ = some i := he; have := own_base (by assumption) he2; omega) | (exfalso; have he2 : i = _ := he; omega) | (exfalso; have he2 : _ = some i := he; have := ow_base (by assumption) he2; omega) | (exfalso; have := he.1; omega)))))⟩
    rintro m0 g0 w4 ⟨i, L, hf7, hR0, rfl⟩
    refine W_as 7 hf7 rfl ?_
    clear hf7
    obtain ⟨hi, hLl, hNi, hnw⟩ := hR0
    have hz := hnw.size
    refine W_seq ?_
    refine W_seq ?_
    refine W_region ?_
    refine L_run (.plain rfl) rfl rfl (r_move (v := .int _ _) rfl) ?_
    refine L_run (.plain rfl) rfl rfl (r_move (v := .int _ _) rfl) ?_
    refine L_run (.plain rfl) rfl rfl (r_conv Try.underlying5 Try.underlying3 rfl (by first | exact wr_i64 (by omega) | rfl)) ?_
    refine L_run (.plain rfl) rfl rfl (r_leq rfl rfl) ?_
    refine L_nil ?_
    refine W_if rfl (fun h36 => ?_) (fun h36 => ?_)
    · refine W_skip ?_
      refine W_seq ?_
      refine W_block ?_
      refine W_seq ?_
      refine W_region ?_
      refine L_run (.plain rfl) rfl rfl (r_move (v := .pointer _) rfl) ?_
      refine L_run (.plain rfl) rfl rfl (r_move (v := .int _ _) rfl) ?_
      refine L_run (.plain rfl) rfl rfl (r_remn rfl rfl (by omega) (by omega)) ?_
      refine L_run (.plain rfl) rfl rfl (r_move (v := .string _) rfl) ?_
      refine L_sbytes Try.underlying9 Try.underlying31 Try.underlying5 (by first | omega | (simp only [sb_size, ByteArray.size_append]; omega)) (.plain rfl) rfl rfl (fun v43 w5 hv43 c5 eb5 hs5 => ?_)
      refine L_call (.plain rfl) rfl rfl (r_call Try.func11 rfl rfl rfl (by rfl)) (put_in _ b (1 + n) (i % 2) _ (bs a1) L _ (NetAt.nw hNi (by (repeat (first | exact Ch.refl _ | assumption | (refine Ch.fresh ?_ (by assumption) (by intro i hi he; first | exact he | (exfalso; have he2 : _ = some i := he; have := own_base (by assumption) he2; omega) | (exfalso; have he2 : i = _ := he; omega) | (exfalso; have he2 : _ = some i := he; have := ow_base (by assumption) he2; omega) | (exfalso; have := he.1; omega))))))) (by omega) (by omega) (by (exact Sl.to (by first | assumption | exact Sl.own (by assumption) | exact Mu.sl (by assumption) | exact Ow.sl (by assumption)) (fun i hi => by (repeat (first | exact Sm.refl _ _ | (refine Sm.stepT (by assumption) (by intro hlt hsm; first | exact not_no | (intro he; have he2 : _ = some _ := he; have := own_base (by assumption) he2; omega) | (intro he; have he2 : _ = _ := he; omega) | (intro he; have he2 : _ = some _ := he; have := ow_base (by assumption) he2; omega) | (intro he; have := he.1; omega) | exact bk_not (by assumption) hsm rfl | (refine own_not ?_ hi hsm rfl <;> assumption) | (refine ow_not ?_ hi hsm rfl <;> assumption) | (intro he; have he2 : _ = some _ := he; have := Ow.lt (by assumption) he2; omega) | (intro he; have he2 : _ = some _ := he; have := Ow.lt (by assumption) he2; have := own_base (by assumption) hi; omega) | (intro he; have he2 : _ = some _ := he; have := Ow.lt how he2; first | omega | (have := own_base (by assumption) hi; omega)) | (intro he; have he2 : _ = _ := he; have := own_base (by assumption) hi; omega) | (intro he; have he2 : _ = _ := he; have := ow_base (by assumption) hi; omega) | (intro he; have he2 : _ = _ := he; rw [he2] at hi; exact absurd hi (by assumption)) | (intro he; have he2 : _ = some _ := he; have h3 := own_lt (by assumption) he2; first | omega | (have h4 : _ = some _ := hi; simp [Value.ownBlock] at h4; omega)) | (intro he; have he2 : _ = some _ := he; have h3 := ow_base (by assumption) he2; have h4 : _ = some _ := hi; simp [Value.ownBlock] at h4; omega) | (intro he; have he2 : _ = some _ := he; exact absurd he2 (hsep _ hi)) | (intro he; first | exact absurd he (by assumption) | exact absurd he.symm (by assumption))) ?_)))))) (by rw [bs_length]; omega) (by omega)) ?_
      rintro v44 w6 ⟨rfl, hN', c6⟩
      have hz6 := c6.size
      refine L_run (.plain rfl) rfl rfl (r_not rfl) ?_
      refine L_as (v := .bool _) (v' := .bool false) 45 rfl (congrArg Value.bool (by rfl)) ?_
      refine L_nil ?_
      refine W_false rfl ?_
      refine W_skip ?_
      refine W_region ?_
      refine L_run (.plain rfl) rfl rfl (r_move (v := .int _ _) rfl) ?_
      refine L_run (.plain rfl) rfl rfl (r_add rfl rfl (by first | exact wr_i64 (by omega) | rfl)) ?_
      refine L_run (.plain rfl) rfl rfl (r_assign (v := .int _ _) rfl) ?_
      refine L_nil ?_
      refine ⟨⟨rfl, rfl, rfl, trivial⟩, _, ?_, i + 1, L ++ [((i : Int) % 2, bs a1)], rfl, ?_, rfl⟩
      · omega
      exact ⟨by omega, by rw [List.length_append, hLl]; rfl, NetAt.nw hN' (by (repeat (first | exact Ch.refl _ | assumption | (refine Ch.fresh ?_ (by assumption) (by intro i hi he; first | exact he | (exfalso; have he2 : _ = some i := he; have := own_base (by assumption) he2; omega) | (exfalso; have he2 : i = _ := he; omega) | (exfalso; have he2 : _ = some i := he; have := ow_base (by assumption) he2; omega) | (exfalso; have := he.1; omega)))))), by (repeat (first | exact Ch.refl _ | assumption | (refine Ch.fresh ?_ (by assumption) (by intro i hi he; first | exact he | (exfalso; have he2 : _ = some i := he; have := own_base (by assumption) he2; omega) | (exfalso; have he2 : i = _ := he; omega) | (exfalso; have he2 : _ = some i := he; have := ow_base (by assumption) he2; omega) | (exfalso; have := he.1; omega)))))⟩
    · have hfull : L.length = n + 1 := by omega
      refine W_exit ?_
      repeat (first | refine blk_hit ?_ | refine blk_miss rfl ?_)
      refine W_seq ?_
      refine W_region ?_
      refine L_run (.plain rfl) rfl rfl (r_move (v := .pointer _) rfl) ?_
      refine L_run (.plain rfl) rfl rfl (r_move (v := .string _) rfl) ?_
      refine L_sbytes Try.underlying9 Try.underlying31 Try.underlying5 (by first | omega | (simp only [sb_size, ByteArray.size_append]; omega)) (.plain rfl) rfl rfl (fun v48 w7 hv48 c7 eb7 hs7 => ?_)
      refine L_call (.plain rfl) rfl rfl (r_call Try.func11 rfl rfl rfl (by rfl)) (put_out _ b (1 + n) 0 _ L _ (NetAt.nw hNi (by (repeat (first | exact Ch.refl _ | assumption | (refine Ch.fresh ?_ (by assumption) (by intro i hi he; first | exact he | (exfalso; have he2 : _ = some i := he; have := own_base (by assumption) he2; omega) | (exfalso; have he2 : i = _ := he; omega) | (exfalso; have he2 : _ = some i := he; have := ow_base (by assumption) he2; omega) | (exfalso; have := he.1; omega))))))) (by omega)) ?_
      rintro v49 w8 ⟨rfl, c8⟩
      have hz8 := c8.size
      refine L_run (.plain rfl) rfl rfl (r_move (v := .bool _) rfl) ?_
      refine L_as (v := .bool _) (v' := .bool false) 50 rfl (congrArg Value.bool (by rfl)) ?_
      refine L_run (.yes 4 false rfl rfl) rfl rfl (r_move (v := .pointer _) rfl) ?_
      refine L_call (.yes 4 false rfl rfl) rfl rfl (r_call Try.func16 rfl rfl rfl (by rfl)) (copy_full _ b 0 (1 + n) L _ (NetAt.nw hNi (by (repeat (first | exact Ch.refl _ | assumption | (refine Ch.fresh ?_ (by assumption) (by intro i hi he; first | exact he | (exfalso; have he2 : _ = some i := he; have := own_base (by assumption) he2; omega) | (exfalso; have he2 : i = _ := he; omega) | (exfalso; have he2 : _ = some i := he; have := ow_base (by assumption) he2; omega) | (exfalso; have := he.1; omega))))))) (by omega) (by omega)) ?_
      rintro v52 w9 ⟨rfl, c9⟩
      have hz9 := c9.size
      refine L_run (.plain rfl) rfl rfl (r_pick_f (v := .bool _) rfl rfl) ?_
      refine L_run (.plain rfl) rfl rfl (r_assign (v := .bool _) rfl) ?_
      refine L_nil ?_
      refine W_seq ?_
      refine W_region ?_
      refine L_run (.plain rfl) rfl rfl (r_move (v := .pointer _) rfl) ?_
      refine L_run (.plain rfl) rfl rfl (r_move (v := .int _ _) rfl) ?_
      refine L_run (.plain rfl) rfl rfl (r_conv Try.underlying5 Try.underlying3 rfl (by first | exact wr_i64 (by omega) | rfl)) ?_
      refine L_run (.plain rfl) rfl rfl (r_quon rfl rfl (by omega) (by omega) (by first | exact wr_i64 (by omega) | rfl)) ?_
      refine L_as (v := .int _ _) (v' := .int .i64 ((n / 2 : Nat) : Int)) 57 rfl (congrArg _ (by omega)) ?_
      refine L_call (.plain rfl) rfl rfl (r_call Try.func15 rfl rfl rfl (by rfl)) (lose_in _ b (n / 2) (1 + n) L _ (NetAt.nw hNi (by (repeat (first | exact Ch.refl _ | assumption | (refine Ch.fresh ?_ (by assumption) (by intro i hi he; first | exact he | (exfalso; have he2 : _ = some i := he; have := own_base (by assumption) he2; omega) | (exfalso; have he2 : i = _ := he; omega) | (exfalso; have he2 : _ = some i := he; have := ow_base (by assumption) he2; omega) | (exfalso; have := he.1; omega))))))) (by omega) (by omega) (by omega)) ?_
      rintro v58 w10 ⟨rfl, hN1, c10⟩
      have hz10 := c10.size
      have hle : (L.eraseIdx (n / 2)).length = n := by rw [List.length_eraseIdx, if_pos (by omega)]; omega
      refine L_run (.plain rfl) rfl rfl (r_assign (v := .bool _) rfl) ?_
      refine L_nil ?_
      refine W_seq ?_
      refine W_region ?_
      refine L_run (.plain rfl) rfl rfl (r_move (v := .bool _) rfl) ?_
      refine L_run (.plain rfl) rfl rfl (r_not rfl) ?_
      refine L_run (.plain rfl) rfl rfl (r_move (v := .bool _) rfl) ?_
      refine L_as (v := .bool _) (v' := .bool true) 61 rfl (congrArg Value.bool (by rfl)) ?_
      refine L_run (.yes 2 true rfl rfl) rfl rfl (r_move (v := .bool _) rfl) ?_
      refine L_run (.plain rfl) rfl rfl (r_pick_t (v := .bool _) rfl rfl) ?_
      refine L_run (.plain rfl) rfl rfl (r_move (v := .bool _) rfl) ?_
      refine L_as (v := .bool _) (v' := .bool true) 64 rfl (congrArg Value.bool (by rfl)) ?_
      refine L_run (.yes 5 true rfl rfl) rfl rfl (r_move (v := .pointer _) rfl) ?_
      refine L_run (.yes 5 true rfl rfl) rfl rfl (r_move (v := .string _) rfl) ?_
      refine L_sbytes Try.underlying9 Try.underlying31 Try.underlying5 (by first | omega | (simp only [sb_size, ByteArray.size_append]; omega)) (.yes 5 true rfl rfl) rfl rfl (fun v67 w11 hv67 c11 eb11 hs11 => ?_)
      refine L_call (.yes 5 true rfl rfl) rfl rfl (r_call Try.func11 rfl rfl rfl (by rfl)) (put_in _ b (1 + n) 1 _ (bs a1) (L.eraseIdx (n / 2)) _ (NetAt.nw hN1 (by (repeat (first | exact Ch.refl _ | assumption | (refine Ch.fresh ?_ (by assumption) (by intro i hi he; first | exact he | (exfalso; have he2 : _ = some i := he; have := own_base (by assumption) he2; omega) | (exfalso; have he2 : i = _ := he; omega) | (exfalso; have he2 : _ = some i := he; have := ow_base (by assumption) he2; omega) | (exfalso; have := he.1; omega))))))) (by omega) (by omega) (by (exact Sl.to (by first | assumption | exact Sl.own (by assumption) | exact Mu.sl (by assumption) | exact Ow.sl (by assumption)) (fun i hi => by (repeat (first | exact Sm.refl _ _ | (refine Sm.stepT (by assumption) (by intro hlt hsm; first | exact not_no | (intro he; have he2 : _ = some _ := he; have := own_base (by assumption) he2; omega) | (intro he; have he2 : _ = _ := he; omega) | (intro he; have he2 : _ = some _ := he; have := ow_base (by assumption) he2; omega) | (intro he; have := he.1; omega) | exact bk_not (by assumption) hsm rfl | (refine own_not ?_ hi hsm rfl <;> assumption) | (refine ow_not ?_ hi hsm rfl <;> assumption) | (intro he; have he2 : _ = some _ := he; have := Ow.lt (by assumption) he2; omega) | (intro he; have he2 : _ = some _ := he; have := Ow.lt (by assumption) he2; have := own_base (by assumption) hi; omega) | (intro he; have he2 : _ = some _ := he; have := Ow.lt how he2; first | omega | (have := own_base (by assumption) hi; omega)) | (intro he; have he2 : _ = _ := he; have := own_base (by assumption) hi; omega) | (intro he; have he2 : _ = _ := he; have := ow_base (by assumption) hi; omega) | (intro he; have he2 : _ = _ := he; rw [he2] at hi; exact absurd hi (by assumption)) | (intro he; have he2 : _ = some _ := he; have h3 := own_lt (by assumption) he2; first | omega | (have h4 : _ = some _ := hi; simp [Value.ownBlock] at h4; omega)) | (intro he; have he2 : _ = some _ := he; have h3 := ow_base (by assumption) he2; have h4 : _ = some _ := hi; simp [Value.ownBlock] at h4; omega) | (intro he; have he2 : _ = some _ := he; exact absurd he2 (hsep _ hi)) | (intro he; first | exact absurd he (by assumption) | exact absurd he.symm (by assumption))) ?_)))))) (by rw [bs_length]; omega) (by omega)) ?_
      rintro v68 w12 ⟨rfl, hN2, c12⟩
      have hz12 := c12.size
      refine L_run (.plain rfl) rfl rfl (r_pick_t (v := .bool _) rfl rfl) ?_
      refine L_run (.plain rfl) rfl rfl (r_move (v := .bool _) rfl) ?_
      refine L_as (v := .bool _) (v' := .bool true) 70 rfl (congrArg Value.bool (by rfl)) ?_
      refine L_run (.yes 11 true rfl rfl) rfl rfl (r_move (v := .pointer _) rfl) ?_
      refine L_run (.yes 11 true rfl rfl) rfl rfl (r_move (v := .string _) rfl) ?_
      refine L_sbytes Try.underlying9 Try.underlying31 Try.underlying5 (by first | omega | (simp only [sb_size, ByteArray.size_append]; omega)) (.yes 11 true rfl rfl) rfl rfl (fun v73 w13 hv73 c13 eb13 hs13 => ?_)
      refine L_call (.yes 11 true rfl rfl) rfl rfl (r_call Try.func11 rfl rfl rfl (by rfl)) (put_out _ b (1 + n) 1 _ (L.eraseIdx (n / 2) ++ [(1, bs a1)]) _ (NetAt.nw hN2 (by (repeat (first | exact Ch.refl _ | assumption | (refine Ch.fresh ?_ (by assumption) (by intro i hi he; first | exact he | (exfalso; have he2 : _ = some i := he; have := own_base (by assumption) he2; omega) | (exfalso; have he2 : i = _ := he; omega) | (exfalso; have he2 : _ = some i := he; have := ow_base (by assumption) he2; omega) | (exfalso; have := he.1; omega))))))) (by rw [List.length_append, hle]; simp only [List.length_cons, List.length_nil]; omega)) ?_
      rintro v74 w14 ⟨rfl, c14⟩
      have hz14 := c14.size
      refine L_run (.yes 11 true rfl rfl) rfl rfl (r_not rfl) ?_
      refine L_run (.plain rfl) rfl rfl (r_pick_t (v := .bool _) rfl rfl) ?_
      refine L_run (.plain rfl) rfl rfl (r_move (v := .bool _) rfl) ?_
      refine L_as (v := .bool _) (v' := .bool true) 77 rfl (congrArg Value.bool (by rfl)) ?_
      refine L_run (.yes 18 true rfl rfl) rfl rfl (r_move (v := .pointer _) rfl) ?_
      refine L_call (.yes 18 true rfl rfl) rfl rfl (r_call Try.func14 rfl rfl rfl (by rfl)) (len_walk _ b (1 + n) (L.eraseIdx (n / 2) ++ [(1, bs a1)]) _ (NetAt.nw hN2 (by (repeat (first | exact Ch.refl _ | assumption | (refine Ch.fresh ?_ (by assumption) (by intro i hi he; first | exact he | (exfalso; have he2 : _ = some i := he; have := own_base (by assumption) he2; omega) | (exfalso; have he2 : i = _ := he; omega) | (exfalso; have he2 : _ = some i := he; have := ow_base (by assumption) he2; omega) | (exfalso; have := he.1; omega)))))))) ?_
      rintro v79 w15 ⟨rfl, rfl⟩
      refine L_run (.yes 18 true rfl rfl) rfl rfl (r_move (v := .int _ _) rfl) ?_
      refine L_run (.yes 18 true rfl rfl) rfl rfl (r_conv Try.underlying5 Try.underlying3 rfl (by first | exact wr_i64 (by omega) | rfl)) ?_
      refine L_run (.yes 18 true rfl rfl) rfl rfl (r_add rfl rfl (by first | exact wr_i64 (by omega) | rfl)) ?_
      refine L_run (.yes 18 true rfl rfl) rfl rfl (r_eql rfl rfl) ?_
      refine L_run (.plain rfl) rfl rfl (r_pick_t (v := .bool _) rfl rfl) ?_
      refine L_run (.plain rfl) rfl rfl (r_assign (v := .bool _) rfl) ?_
      refine L_nil ?_
      refine W_ret ?_
      refine ret1 (v := .bool _) rfl rfl ?_
      first
        | exact ⟨rfl, by (repeat (first | exact Ch.refl _ | assumption | (refine Ch.fresh ?_ (by assumption) (by intro i hi he; first | exact he | (exfalso; have he2 : _ = some i := he; have := own_base (by assumption) he2; omega) | (exfalso; have he2 : i = _ := he; omega) | (exfalso; have he2 : _ = some i := he; have := ow_base (by assumption) he2; omega) | (exfalso; have := he.1; omega)))))⟩
        | exact ⟨(dec_t (by rw [List.length_append, hle]; simp only [List.length_cons, List.length_nil]; omega)).symm, by (repeat (first | exact Ch.refl _ | assumption | (refine Ch.fresh ?_ (by assumption) (by intro i hi he; first | exact he | (exfalso; have he2 : _ = some i := he; have := own_base (by assumption) he2; omega) | (exfalso; have he2 : i = _ := he; omega) | (exfalso; have he2 : _ = some i := he; have := ow_base (by assumption) he2; omega) | (exfalso; have := he.1; omega)))))⟩
theorem NetFull_walk (a0 : Int) (a1 : ByteArray) (w0 : World) (y0 : 0 ≤ a0 ∧ a0 ≤ 255) (y1 : a1.size ≤ 140737488351232) : Does Try.prog 5 #[.int .u8 a0, .string a1] w0 (fun r w' => r = .bool true ∧ Nw w0 w') := by
  obtain ⟨n, rfl⟩ : ∃ n : Nat, a0 = n := ⟨a0.toNat, by omega⟩
  exact NetFull_n n a1 w0 (by omega) y1
end Go.Proofs.Ytplkjhoadnjkmaa

