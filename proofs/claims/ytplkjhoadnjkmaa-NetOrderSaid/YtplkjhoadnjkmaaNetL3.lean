/- NetGone, walked. -/
import Derived.Test.YtplkjhoadnjkmaaNetL1
import Derived.Test.YtplkjhoadnjkmaaArgs
namespace Go.Proofs.Ytplkjhoadnjkmaa
open Go Go.RowKit
set_option linter.unusedVariables false
set_option linter.unusedSimpArgs false
def strs (z : List ByteArray) : List Value := z.flatMap fun s => [.string s]
theorem strs_get : ∀ (z : List ByteArray) (i : Nat) (h : i < z.length), (strs z)[i]? = some (.string z[i])
  | x :: z, 0, _ => rfl
  | x :: z, i + 1, h => strs_get z i (by simpa using h)
theorem rd_22 {H : Type} {enc : TypeId × Value → H} {W : World} {b0 j : Nat} {v : Value} {d : DataW H} {p : List MemPlace} {R : Prop} (_ : R) (_ : 0 = 0) (_ : 0 = 0)
    (hok : Value.okWide Try.prog W .any b0 22 v) (h : DataW.Trod enc Try.prog W 0 (fun _ => true) true 22 v d p) : ∃ z : List ByteArray, Sl W v 1 z.length (strs z) := by
  haveI : Inhabited ByteArray := ⟨ByteArray.empty⟩
  obtain ⟨z, hz, _⟩ := sl_arg (fun s : ByteArray => [Value.string s]) 1 (fun _ => True) (fun _ => rfl) Try.underlying22 rfl (fun n cs y hy => by
    obtain ⟨s, rfl, _⟩ := DataW.trod_string Try.underlying9 hy
    exact ⟨s, rfl, trivial⟩) hok h
  exact ⟨z, hz⟩
def sent (z : List ByteArray) : List (Int × List UInt8) := z.map fun s => (0, bs s)
theorem sent_length (z : List ByteArray) : (sent z).length = z.length := by simp [sent]
theorem sent_succ (z : List ByteArray) (i : Nat) (h : i < z.length) : sent (z.take (i + 1)) = sent (z.take i) ++ [(0, bs z[i])] := by
  rw [List.take_succ_eq_append_getElem h]
  unfold sent
  rw [List.map_append]
  rfl
/-- What is left behind i takes. -/
def left (z : List ByteArray) (k i : Nat) : List (Int × List UInt8) := ((sent z).eraseIdx k).drop (if i ≤ k then i else i - 1)
theorem left_length (z : List ByteArray) (k i : Nat) (hk : k < z.length) : (left z k i).length = z.length - 1 - (if i ≤ k then i else i - 1) := by
  unfold left
  rw [List.length_drop, List.length_eraseIdx, if_pos (by rw [sent_length]; exact hk), sent_length]
theorem left_get (z : List ByteArray) (k i : Nat) (hk : k < z.length) (hi : i < z.length) (hne : i ≠ k) (h : 0 < (left z k i).length) : ((left z k i)[0]).1 = 0 ∧ ((left z k i)[0]).2 = bs z[i] := by
  have e : (left z k i)[0]? = some (0, bs z[i]) := by
    unfold left
    rw [List.getElem?_drop, List.getElem?_eraseIdx]
    by_cases h1 : i ≤ k
    · rw [if_pos h1, if_pos (by omega)]
      simp [sent, hi]
    · rw [if_neg h1, if_neg (by omega)]
      simp [sent, show i - 1 + 0 + 1 = i by omega, show i - 1 + 1 = i by omega, hi]
  rw [List.getElem?_eq_getElem h] at e
  have e2 := Option.some.inj e
  rw [e2]
  exact ⟨rfl, rfl⟩
theorem left_next (z : List ByteArray) (k i : Nat) (hne : i ≠ k) : (left z k i).eraseIdx 0 = left z k (i + 1) := by
  unfold left
  rw [List.eraseIdx_zero, List.tail_drop]
  congr 1
  split <;> split <;> omega
theorem left_skip (z : List ByteArray) (k : Nat) : left z k k = left z k (k + 1) := by
  unfold left
  rw [if_pos (Nat.le_refl _), if_neg (by omega)]
  rfl
theorem NetGone_t (v0 : Value) (z : List ByteArray) (a1 : Int) (w0 : World) (y0 : Sl w0 v0 1 z.length (strs z)) (y1 : 0 ≤ a1 ∧ a1 ≤ 255) : Does Try.prog 4 #[v0, .int .u8 a1, .bool true] w0 (fun r w' => r = .bool true ∧ Nw w0 w') := by
  refine fn_of (n := 132) (args := [v0, .int .u8 a1, .bool true]) Try.func4 rfl rfl rfl ?_
  refine W_seq ?_
  refine W_region ?_
  refine L_run (.plain rfl) rfl rfl (r_assign (v := .bool _) rfl) ?_
  refine L_nil ?_
  refine W_seq ?_
  refine W_region ?_
  refine L_call (.plain rfl) rfl rfl (r_call Try.func9 rfl rfl rfl (by rfl)) (new_walk 50 _ (by omega)) ?_
  rintro v19 w1 ⟨b, rfl, hN, c1⟩
  have hz1 := c1.size
  refine L_run (.plain rfl) rfl rfl (r_move (by conv => lhs; whnf)) ?_
  refine L_run (.plain rfl) rfl rfl (r_ext2_0 rfl) ?_
  refine L_run (.plain rfl) rfl rfl (r_ext2_1 rfl) ?_
  refine L_run (.plain rfl) rfl rfl (r_assign (v := .pointer _) rfl) ?_
  refine L_run (.plain rfl) rfl rfl (r_assign (v := .int _ _) rfl) ?_
  refine L_nil ?_
  refine W_seq ?_
  refine W_seq ?_
  refine W_region ?_
  refine L_call (.plain rfl) rfl rfl (r_call Try.func10 rfl rfl rfl (by rfl)) (awake_walk _) ?_
  rintro v22 w2 ⟨rfl, c2⟩
  have hz2 := c2.size
  refine L_run (.plain rfl) rfl rfl (r_not rfl) ?_
  refine L_run (.plain rfl) rfl rfl (r_move (v := .bool _) rfl) ?_
  refine L_as (v := .bool _) (v' := .bool false) 24 rfl (congrArg Value.bool (by rfl)) ?_
  refine L_run (.yes 2 false rfl rfl) rfl rfl (r_move (v := .int _ _) rfl) ?_
  refine L_run (.yes 2 false rfl rfl) rfl rfl (r_neq rfl rfl) ?_
  refine L_run (.plain rfl) rfl rfl (r_pick_f (v := .bool _) rfl rfl) ?_
  refine L_run (.plain rfl) rfl rfl (r_move (v := .bool _) rfl) ?_
  refine L_as (v := .bool _) (v' := .bool false) 28 rfl (dec_f (by simp)).symm ?_
  refine L_run (.yes 6 false rfl rfl) rfl rfl (r_move (v := .pointer _) rfl) ?_
  refine L_run (.yes 6 false rfl rfl) rfl rfl (r_eqpnil Try.underlying24 rfl rfl) ?_
  refine L_run (.plain rfl) rfl rfl (r_pick_f (v := .bool _) rfl rfl) ?_
  refine L_run (.plain rfl) rfl rfl (r_move (v := .bool _) rfl) ?_
  refine L_as (v := .bool _) (v' := .bool false) 32 rfl (congrArg Value.bool (by rfl)) ?_
  refine L_run (.yes 10 false rfl rfl) rfl rfl (r_move (by conv => lhs; whnf)) ?_
  refine L_run (.yes 10 false rfl rfl) rfl rfl (r_lenSl Try.underlying22 (by conv => lhs; whnf) (by (exact Sl.to (by first | assumption | exact Sl.own (by assumption) | exact Mu.sl (by assumption) | exact Ow.sl (by assumption)) (fun i hi => by (repeat (first | exact Sm.refl _ _ | (refine Sm.stepT (by assumption) (by intro hlt hsm; first | exact not_no | (intro he; have he2 : _ = some _ := he; have := own_base (by assumption) he2; omega) | (intro he; have he2 : _ = _ := he; omega) | (intro he; have he2 : _ = some _ := he; have := ow_base (by assumption) he2; omega) | (intro he; have := he.1; omega) | exact bk_not (by assumption) hsm rfl | (refine own_not ?_ hi hsm rfl <;> assumption) | (refine ow_not ?_ hi hsm rfl <;> assumption) | (intro he; have he2 : _ = some _ := he; have := Ow.lt (by assumption) he2; omega) | (intro he; have he2 : _ = some _ := he; have := Ow.lt (by assumption) he2; have := own_base (by assumption) hi; omega) | (intro he; have he2 : _ = some _ := he; have := Ow.lt how he2; first | omega | (have := own_base (by assumption) hi; omega)) | (intro he; have he2 : _ = _ := he; have := own_base (by assumption) hi; omega) | (intro he; have he2 : _ = _ := he; rw [he2] at hi; exact absurd hi (by assumption)) | (intro he; have he2 : _ = some _ := he; exact absurd he2 (hsep _ hi)) | (intro he; first | exact absurd he (by assumption) | exact absurd he.symm (by assumption))) ?_))))))) ?_
  refine L_run (.yes 10 false rfl rfl) rfl rfl (r_eql rfl rfl) ?_
  refine L_run (.plain rfl) rfl rfl (r_pick_f (v := .bool _) rfl rfl) ?_
  refine L_run (.plain rfl) rfl rfl (r_move (v := .bool _) rfl) ?_
  refine L_case (d := 37) rfl (fun h37 => ?_) (fun h37 => ?_)
  · refine L_pass rfl rfl rfl rfl rfl ?_
    refine L_pass rfl rfl rfl rfl rfl ?_
    refine L_pass rfl rfl rfl rfl rfl ?_
    refine L_run (.plain rfl) rfl rfl (r_pick_t (v := .bool _) rfl rfl) ?_
    refine L_nil ?_
    refine W_true rfl ?_
    refine W_seq ?_
    refine W_region ?_
    refine L_call (.plain rfl) rfl rfl (r_call Try.func10 rfl rfl rfl (by rfl)) (awake_walk _) ?_
    rintro v42 w3 ⟨rfl, c3⟩
    have hz3 := c3.size
    refine L_run (.plain rfl) rfl rfl (r_assign (v := .bool _) rfl) ?_
    refine L_nil ?_
    refine W_ret ?_
    refine ret1 (v := .bool _) rfl rfl ?_
    first
      | exact ⟨rfl, by (repeat (first | exact Ch.refl _ | assumption | (refine Ch.fresh ?_ (by assumption) (by intro i hi he; first | exact he | (exfalso; have he2 : _ = some i := he; have := own_base (by assumption) he2; omega) | (exfalso; have he2 : i = _ := he; omega) | (exfalso; have he2 : _ = some i := he; have := ow_base (by assumption) he2; omega) | (exfalso; have := he.1; omega)))))⟩
      | exact ⟨(dec_t (by omega)).symm, by (repeat (first | exact Ch.refl _ | assumption | (refine Ch.fresh ?_ (by assumption) (by intro i hi he; first | exact he | (exfalso; have he2 : _ = some i := he; have := own_base (by assumption) he2; omega) | (exfalso; have he2 : i = _ := he; omega) | (exfalso; have he2 : _ = some i := he; have := ow_base (by assumption) he2; omega) | (exfalso; have := he.1; omega)))))⟩
  · refine L_run (.yes 15 false rfl rfl) rfl rfl (r_move (by conv => lhs; whnf)) ?_
    refine L_run (.yes 15 false rfl rfl) rfl rfl (r_lenSl Try.underlying22 (by conv => lhs; whnf) (by (exact Sl.to (by first | assumption | exact Sl.own (by assumption) | exact Mu.sl (by assumption) | exact Ow.sl (by assumption)) (fun i hi => by (repeat (first | exact Sm.refl _ _ | (refine Sm.stepT (by assumption) (by intro hlt hsm; first | exact not_no | (intro he; have he2 : _ = some _ := he; have := own_base (by assumption) he2; omega) | (intro he; have he2 : _ = _ := he; omega) | (intro he; have he2 : _ = some _ := he; have := ow_base (by assumption) he2; omega) | (intro he; have := he.1; omega) | exact bk_not (by assumption) hsm rfl | (refine own_not ?_ hi hsm rfl <;> assumption) | (refine ow_not ?_ hi hsm rfl <;> assumption) | (intro he; have he2 : _ = some _ := he; have := Ow.lt (by assumption) he2; omega) | (intro he; have he2 : _ = some _ := he; have := Ow.lt (by assumption) he2; have := own_base (by assumption) hi; omega) | (intro he; have he2 : _ = some _ := he; have := Ow.lt how he2; first | omega | (have := own_base (by assumption) hi; omega)) | (intro he; have he2 : _ = _ := he; have := own_base (by assumption) hi; omega) | (intro he; have he2 : _ = _ := he; rw [he2] at hi; exact absurd hi (by assumption)) | (intro he; have he2 : _ = some _ := he; exact absurd he2 (hsep _ hi)) | (intro he; first | exact absurd he (by assumption) | exact absurd he.symm (by assumption))) ?_))))))) ?_
    refine L_run (.yes 15 false rfl rfl) rfl rfl (r_gtr rfl rfl) ?_
    refine L_run (.plain rfl) rfl rfl (r_pick_f (v := .bool _) rfl rfl) ?_
    refine L_nil ?_
    refine W_if rfl (fun h41 => ?_) (fun h41 => ?_)
    · refine W_seq ?_
      refine W_region ?_
      refine L_call (.plain rfl) rfl rfl (r_call Try.func10 rfl rfl rfl (by rfl)) (awake_walk _) ?_
      rintro v42 w4 ⟨rfl, c4⟩
      have hz4 := c4.size
      refine L_run (.plain rfl) rfl rfl (r_assign (v := .bool _) rfl) ?_
      refine L_nil ?_
      refine W_ret ?_
      refine ret1 (v := .bool _) rfl rfl ?_
      first
        | exact ⟨rfl, by (repeat (first | exact Ch.refl _ | assumption | (refine Ch.fresh ?_ (by assumption) (by intro i hi he; first | exact he | (exfalso; have he2 : _ = some i := he; have := own_base (by assumption) he2; omega) | (exfalso; have he2 : i = _ := he; omega) | (exfalso; have he2 : _ = some i := he; have := ow_base (by assumption) he2; omega) | (exfalso; have := he.1; omega)))))⟩
        | exact ⟨(dec_t (by omega)).symm, by (repeat (first | exact Ch.refl _ | assumption | (refine Ch.fresh ?_ (by assumption) (by intro i hi he; first | exact he | (exfalso; have he2 : _ = some i := he; have := own_base (by assumption) he2; omega) | (exfalso; have he2 : i = _ := he; omega) | (exfalso; have he2 : _ = some i := he; have := ow_base (by assumption) he2; omega) | (exfalso; have := he.1; omega)))))⟩
    · refine W_skip ?_
      refine W_seq ?_
      refine W_seq ?_
      refine W_region ?_
      refine L_run (.plain rfl) rfl rfl (r_assign (v := .int _ _) rfl) ?_
      refine L_nil ?_
      refine W_block ?_
      refine W_loopF [0, 1, 2, 7] (fun m f W => ∃ (i : Nat), f 9 = .int .i64 i ∧ (i ≤ z.length ∧ NetAt w0.heap.size W b 50 (sent (z.take i)) ∧ Nw w0 W) ∧ m = z.length - i) ?_ ?_
      · refine ⟨_, 0, rfl, ?_, rfl⟩
        exact ⟨by omega, NetAt.nw hN (by (repeat (first | exact Ch.refl _ | assumption | (refine Ch.fresh ?_ (by assumption) (by intro i hi he; first | exact he | (exfalso; have he2 : _ = some i := he; have := own_base (by assumption) he2; omega) | (exfalso; have he2 : i = _ := he; omega) | (exfalso; have he2 : _ = some i := he; have := ow_base (by assumption) he2; omega) | (exfalso; have := he.1; omega)))))), by (repeat (first | exact Ch.refl _ | assumption | (refine Ch.fresh ?_ (by assumption) (by intro i hi he; first | exact he | (exfalso; have he2 : _ = some i := he; have := own_base (by assumption) he2; omega) | (exfalso; have he2 : i = _ := he; omega) | (exfalso; have he2 : _ = some i := he; have := ow_base (by assumption) he2; omega) | (exfalso; have := he.1; omega)))))⟩
      rintro m0 g0 w5 ⟨i, hf9, hR0, rfl⟩
      refine W_as 9 hf9 rfl ?_
      clear hf9
      obtain ⟨hi, hNi, hnw⟩ := hR0
      have hz := hnw.size
      have hsl : (sent (z.take i)).length = i := by rw [sent_length, List.length_take]; omega
      refine W_seq ?_
      refine W_seq ?_
      refine W_region ?_
      refine L_run (.plain rfl) rfl rfl (r_move (v := .int _ _) rfl) ?_
      refine L_run (.plain rfl) rfl rfl (r_move (by conv => lhs; whnf)) ?_
      refine L_run (.plain rfl) rfl rfl (r_lenSl Try.underlying22 (by conv => lhs; whnf) (by (exact Sl.to (by first | assumption | exact Sl.own (by assumption) | exact Mu.sl (by assumption) | exact Ow.sl (by assumption)) (fun i hi => by (repeat (first | exact Sm.refl _ _ | (refine Sm.stepT (by assumption) (by intro hlt hsm; first | exact not_no | (intro he; have he2 : _ = some _ := he; have := own_base (by assumption) he2; omega) | (intro he; have he2 : _ = _ := he; omega) | (intro he; have he2 : _ = some _ := he; have := ow_base (by assumption) he2; omega) | (intro he; have := he.1; omega) | exact bk_not (by assumption) hsm rfl | (refine own_not ?_ hi hsm rfl <;> assumption) | (refine ow_not ?_ hi hsm rfl <;> assumption) | (intro he; have he2 : _ = some _ := he; have := Ow.lt (by assumption) he2; omega) | (intro he; have he2 : _ = some _ := he; have := Ow.lt (by assumption) he2; have := own_base (by assumption) hi; omega) | (intro he; have he2 : _ = some _ := he; have := Ow.lt how he2; first | omega | (have := own_base (by assumption) hi; omega)) | (intro he; have he2 : _ = _ := he; have := own_base (by assumption) hi; omega) | (intro he; have he2 : _ = _ := he; rw [he2] at hi; exact absurd hi (by assumption)) | (intro he; have he2 : _ = some _ := he; exact absurd he2 (hsep _ hi)) | (intro he; first | exact absurd he (by assumption) | exact absurd he.symm (by assumption))) ?_))))))) ?_
      refine L_run (.plain rfl) rfl rfl (r_lss rfl rfl) ?_
      refine L_nil ?_
      refine W_if rfl (fun h46 => ?_) (fun h46 => ?_)
      · have hlt : i < z.length := by omega
        refine W_skip ?_
        refine W_seq ?_
        refine W_block ?_
        refine W_seq ?_
        refine W_region ?_
        refine L_run (.plain rfl) rfl rfl (r_move (by conv => lhs; whnf)) ?_
        refine L_run (.plain rfl) rfl rfl (r_move (v := .int _ _) rfl) ?_
        refine L_run (.plain rfl) rfl rfl (r_idxSl Try.underlying22 (show _ = some 1 from rfl) (by conv => lhs; whnf) rfl (by (exact Sl.to (by first | assumption | exact Sl.own (by assumption) | exact Mu.sl (by assumption) | exact Ow.sl (by assumption)) (fun i hi => by (repeat (first | exact Sm.refl _ _ | (refine Sm.stepT (by assumption) (by intro hlt hsm; first | exact not_no | (intro he; have he2 : _ = some _ := he; have := own_base (by assumption) he2; omega) | (intro he; have he2 : _ = _ := he; omega) | (intro he; have he2 : _ = some _ := he; have := ow_base (by assumption) he2; omega) | (intro he; have := he.1; omega) | exact bk_not (by assumption) hsm rfl | (refine own_not ?_ hi hsm rfl <;> assumption) | (refine ow_not ?_ hi hsm rfl <;> assumption) | (intro he; have he2 : _ = some _ := he; have := Ow.lt (by assumption) he2; omega) | (intro he; have he2 : _ = some _ := he; have := Ow.lt (by assumption) he2; have := own_base (by assumption) hi; omega) | (intro he; have he2 : _ = some _ := he; have := Ow.lt how he2; first | omega | (have := own_base (by assumption) hi; omega)) | (intro he; have he2 : _ = _ := he; have := own_base (by assumption) hi; omega) | (intro he; have he2 : _ = _ := he; rw [he2] at hi; exact absurd hi (by assumption)) | (intro he; have he2 : _ = some _ := he; exact absurd he2 (hsep _ hi)) | (intro he; first | exact absurd he (by assumption) | exact absurd he.symm (by assumption))) ?_)))))) (by omega) (by omega) (by conv => lhs; (try simp only [Nat.mul_one, Nat.zero_add, Int.toNat_natCast, Int.toNat_zero, Int.reduceToNat, Nat.reduceMul, Nat.reduceAdd]))) ?_
        refine L_run (.plain rfl) rfl rfl (r_loadSl rfl rfl (by (exact Sl.to (by first | assumption | exact Sl.own (by assumption) | exact Mu.sl (by assumption) | exact Ow.sl (by assumption)) (fun i hi => by (repeat (first | exact Sm.refl _ _ | (refine Sm.stepT (by assumption) (by intro hlt hsm; first | exact not_no | (intro he; have he2 : _ = some _ := he; have := own_base (by assumption) he2; omega) | (intro he; have he2 : _ = _ := he; omega) | (intro he; have he2 : _ = some _ := he; have := ow_base (by assumption) he2; omega) | (intro he; have := he.1; omega) | exact bk_not (by assumption) hsm rfl | (refine own_not ?_ hi hsm rfl <;> assumption) | (refine ow_not ?_ hi hsm rfl <;> assumption) | (intro he; have he2 : _ = some _ := he; have := Ow.lt (by assumption) he2; omega) | (intro he; have he2 : _ = some _ := he; have := Ow.lt (by assumption) he2; have := own_base (by assumption) hi; omega) | (intro he; have he2 : _ = some _ := he; have := Ow.lt how he2; first | omega | (have := own_base (by assumption) hi; omega)) | (intro he; have he2 : _ = _ := he; have := own_base (by assumption) hi; omega) | (intro he; have he2 : _ = _ := he; rw [he2] at hi; exact absurd hi (by assumption)) | (intro he; have he2 : _ = some _ := he; exact absurd he2 (hsep _ hi)) | (intro he; first | exact absurd he (by assumption) | exact absurd he.symm (by assumption))) ?_)))))) (by exact strs_get z _ (by assumption))) ?_
        refine L_run (.plain rfl) rfl rfl (r_lens Try.underlying9 rfl) ?_
        refine L_run (.plain rfl) rfl rfl (r_gtr rfl rfl) ?_
        refine L_run (.plain rfl) rfl rfl (r_move (v := .bool _) rfl) ?_
        refine L_case (d := 55) rfl (fun h55 => ?_) (fun h55 => ?_)
        · refine L_pass rfl rfl rfl rfl rfl ?_
          refine L_pass rfl rfl rfl rfl rfl ?_
          refine L_pass rfl rfl rfl rfl rfl ?_
          refine L_pass rfl rfl rfl rfl rfl ?_
          refine L_pass rfl rfl rfl rfl rfl ?_
          refine L_pass rfl rfl rfl rfl rfl ?_
          refine L_pass rfl rfl rfl rfl rfl ?_
          refine L_pass rfl rfl rfl rfl rfl ?_
          refine L_run (.plain rfl) rfl rfl (r_pick_t (v := .bool _) rfl rfl) ?_
          refine L_nil ?_
          refine W_true rfl ?_
          refine W_seq ?_
          refine W_region ?_
          refine L_run (.plain rfl) rfl rfl (r_move (by conv => lhs; whnf)) ?_
          refine L_run (.plain rfl) rfl rfl (r_move (v := .int _ _) rfl) ?_
          refine L_run (.plain rfl) rfl rfl (r_idxSl Try.underlying22 (show _ = some 1 from rfl) (by conv => lhs; whnf) rfl (by (exact Sl.to (by first | assumption | exact Sl.own (by assumption) | exact Mu.sl (by assumption) | exact Ow.sl (by assumption)) (fun i hi => by (repeat (first | exact Sm.refl _ _ | (refine Sm.stepT (by assumption) (by intro hlt hsm; first | exact not_no | (intro he; have he2 : _ = some _ := he; have := own_base (by assumption) he2; omega) | (intro he; have he2 : _ = _ := he; omega) | (intro he; have he2 : _ = some _ := he; have := ow_base (by assumption) he2; omega) | (intro he; have := he.1; omega) | exact bk_not (by assumption) hsm rfl | (refine own_not ?_ hi hsm rfl <;> assumption) | (refine ow_not ?_ hi hsm rfl <;> assumption) | (intro he; have he2 : _ = some _ := he; have := Ow.lt (by assumption) he2; omega) | (intro he; have he2 : _ = some _ := he; have := Ow.lt (by assumption) he2; have := own_base (by assumption) hi; omega) | (intro he; have he2 : _ = some _ := he; have := Ow.lt how he2; first | omega | (have := own_base (by assumption) hi; omega)) | (intro he; have he2 : _ = _ := he; have := own_base (by assumption) hi; omega) | (intro he; have he2 : _ = _ := he; rw [he2] at hi; exact absurd hi (by assumption)) | (intro he; have he2 : _ = some _ := he; exact absurd he2 (hsep _ hi)) | (intro he; first | exact absurd he (by assumption) | exact absurd he.symm (by assumption))) ?_)))))) (by omega) (by omega) (by conv => lhs; (try simp only [Nat.mul_one, Nat.zero_add, Int.toNat_natCast, Int.toNat_zero, Int.reduceToNat, Nat.reduceMul, Nat.reduceAdd]))) ?_
          refine L_run (.plain rfl) rfl rfl (r_loadSl rfl rfl (by (exact Sl.to (by first | assumption | exact Sl.own (by assumption) | exact Mu.sl (by assumption) | exact Ow.sl (by assumption)) (fun i hi => by (repeat (first | exact Sm.refl _ _ | (refine Sm.stepT (by assumption) (by intro hlt hsm; first | exact not_no | (intro he; have he2 : _ = some _ := he; have := own_base (by assumption) he2; omega) | (intro he; have he2 : _ = _ := he; omega) | (intro he; have he2 : _ = some _ := he; have := ow_base (by assumption) he2; omega) | (intro he; have := he.1; omega) | exact bk_not (by assumption) hsm rfl | (refine own_not ?_ hi hsm rfl <;> assumption) | (refine ow_not ?_ hi hsm rfl <;> assumption) | (intro he; have he2 : _ = some _ := he; have := Ow.lt (by assumption) he2; omega) | (intro he; have he2 : _ = some _ := he; have := Ow.lt (by assumption) he2; have := own_base (by assumption) hi; omega) | (intro he; have he2 : _ = some _ := he; have := Ow.lt how he2; first | omega | (have := own_base (by assumption) hi; omega)) | (intro he; have he2 : _ = _ := he; have := own_base (by assumption) hi; omega) | (intro he; have he2 : _ = _ := he; rw [he2] at hi; exact absurd hi (by assumption)) | (intro he; have he2 : _ = some _ := he; exact absurd he2 (hsep _ hi)) | (intro he; first | exact absurd he (by assumption) | exact absurd he.symm (by assumption))) ?_)))))) (by exact strs_get z _ (by assumption))) ?_
          refine L_run (.plain rfl) rfl rfl (r_lens Try.underlying9 rfl) ?_
          refine L_run (.plain rfl) rfl rfl (r_gtr rfl rfl) ?_
          refine L_run (.plain rfl) rfl rfl (r_assign (v := .bool _) rfl) ?_
          refine L_nil ?_
          refine W_ret ?_
          refine ret1 (v := .bool _) rfl rfl ?_
          first
            | exact ⟨rfl, by (repeat (first | exact Ch.refl _ | assumption | (refine Ch.fresh ?_ (by assumption) (by intro i hi he; first | exact he | (exfalso; have he2 : _ = some i := he; have := own_base (by assumption) he2; omega) | (exfalso; have he2 : i = _ := he; omega) | (exfalso; have he2 : _ = some i := he; have := ow_base (by assumption) he2; omega) | (exfalso; have := he.1; omega)))))⟩
            | exact ⟨(dec_t (by omega)).symm, by (repeat (first | exact Ch.refl _ | assumption | (refine Ch.fresh ?_ (by assumption) (by intro i hi he; first | exact he | (exfalso; have he2 : _ = some i := he; have := own_base (by assumption) he2; omega) | (exfalso; have he2 : i = _ := he; omega) | (exfalso; have he2 : _ = some i := he; have := ow_base (by assumption) he2; omega) | (exfalso; have := he.1; omega)))))⟩
        · refine L_run (.yes 6 false rfl rfl) rfl rfl (r_move (v := .pointer _) rfl) ?_
          refine L_run (.yes 6 false rfl rfl) rfl rfl (r_move (by conv => lhs; whnf)) ?_
          refine L_run (.yes 6 false rfl rfl) rfl rfl (r_move (v := .int _ _) rfl) ?_
          refine L_run (.yes 6 false rfl rfl) rfl rfl (r_idxSl Try.underlying22 (show _ = some 1 from rfl) (by conv => lhs; whnf) rfl (by (exact Sl.to (by first | assumption | exact Sl.own (by assumption) | exact Mu.sl (by assumption) | exact Ow.sl (by assumption)) (fun i hi => by (repeat (first | exact Sm.refl _ _ | (refine Sm.stepT (by assumption) (by intro hlt hsm; first | exact not_no | (intro he; have he2 : _ = some _ := he; have := own_base (by assumption) he2; omega) | (intro he; have he2 : _ = _ := he; omega) | (intro he; have he2 : _ = some _ := he; have := ow_base (by assumption) he2; omega) | (intro he; have := he.1; omega) | exact bk_not (by assumption) hsm rfl | (refine own_not ?_ hi hsm rfl <;> assumption) | (refine ow_not ?_ hi hsm rfl <;> assumption) | (intro he; have he2 : _ = some _ := he; have := Ow.lt (by assumption) he2; omega) | (intro he; have he2 : _ = some _ := he; have := Ow.lt (by assumption) he2; have := own_base (by assumption) hi; omega) | (intro he; have he2 : _ = some _ := he; have := Ow.lt how he2; first | omega | (have := own_base (by assumption) hi; omega)) | (intro he; have he2 : _ = _ := he; have := own_base (by assumption) hi; omega) | (intro he; have he2 : _ = _ := he; rw [he2] at hi; exact absurd hi (by assumption)) | (intro he; have he2 : _ = some _ := he; exact absurd he2 (hsep _ hi)) | (intro he; first | exact absurd he (by assumption) | exact absurd he.symm (by assumption))) ?_)))))) (by omega) (by omega) (by conv => lhs; (try simp only [Nat.mul_one, Nat.zero_add, Int.toNat_natCast, Int.toNat_zero, Int.reduceToNat, Nat.reduceMul, Nat.reduceAdd]))) ?_
          refine L_run (.yes 6 false rfl rfl) rfl rfl (r_loadSl rfl rfl (by (exact Sl.to (by first | assumption | exact Sl.own (by assumption) | exact Mu.sl (by assumption) | exact Ow.sl (by assumption)) (fun i hi => by (repeat (first | exact Sm.refl _ _ | (refine Sm.stepT (by assumption) (by intro hlt hsm; first | exact not_no | (intro he; have he2 : _ = some _ := he; have := own_base (by assumption) he2; omega) | (intro he; have he2 : _ = _ := he; omega) | (intro he; have he2 : _ = some _ := he; have := ow_base (by assumption) he2; omega) | (intro he; have := he.1; omega) | exact bk_not (by assumption) hsm rfl | (refine own_not ?_ hi hsm rfl <;> assumption) | (refine ow_not ?_ hi hsm rfl <;> assumption) | (intro he; have he2 : _ = some _ := he; have := Ow.lt (by assumption) he2; omega) | (intro he; have he2 : _ = some _ := he; have := Ow.lt (by assumption) he2; have := own_base (by assumption) hi; omega) | (intro he; have he2 : _ = some _ := he; have := Ow.lt how he2; first | omega | (have := own_base (by assumption) hi; omega)) | (intro he; have he2 : _ = _ := he; have := own_base (by assumption) hi; omega) | (intro he; have he2 : _ = _ := he; rw [he2] at hi; exact absurd hi (by assumption)) | (intro he; have he2 : _ = some _ := he; exact absurd he2 (hsep _ hi)) | (intro he; first | exact absurd he (by assumption) | exact absurd he.symm (by assumption))) ?_)))))) (by exact strs_get z _ (by assumption))) ?_
          refine L_sbytes Try.underlying9 Try.underlying31 Try.underlying5 (by first | omega | (simp only [sb_size, ByteArray.size_append]; omega)) (.yes 6 false rfl rfl) rfl rfl (fun v61 w6 hv61 c6 eb6 hs6 => ?_)
          refine L_call (.yes 6 false rfl rfl) rfl rfl (r_call Try.func11 rfl rfl rfl (by rfl)) (put_in _ b 50 0 _ (bs z[i]) (sent (z.take i)) _ (NetAt.nw hNi (by (repeat (first | exact Ch.refl _ | assumption | (refine Ch.fresh ?_ (by assumption) (by intro i hi he; first | exact he | (exfalso; have he2 : _ = some i := he; have := own_base (by assumption) he2; omega) | (exfalso; have he2 : i = _ := he; omega) | (exfalso; have he2 : _ = some i := he; have := ow_base (by assumption) he2; omega) | (exfalso; have := he.1; omega))))))) (by omega) (by omega) (by (exact Sl.to (by first | assumption | exact Sl.own (by assumption) | exact Mu.sl (by assumption) | exact Ow.sl (by assumption)) (fun i hi => by (repeat (first | exact Sm.refl _ _ | (refine Sm.stepT (by assumption) (by intro hlt hsm; first | exact not_no | (intro he; have he2 : _ = some _ := he; have := own_base (by assumption) he2; omega) | (intro he; have he2 : _ = _ := he; omega) | (intro he; have he2 : _ = some _ := he; have := ow_base (by assumption) he2; omega) | (intro he; have := he.1; omega) | exact bk_not (by assumption) hsm rfl | (refine own_not ?_ hi hsm rfl <;> assumption) | (refine ow_not ?_ hi hsm rfl <;> assumption) | (intro he; have he2 : _ = some _ := he; have := Ow.lt (by assumption) he2; omega) | (intro he; have he2 : _ = some _ := he; have := Ow.lt (by assumption) he2; have := own_base (by assumption) hi; omega) | (intro he; have he2 : _ = some _ := he; have := Ow.lt how he2; first | omega | (have := own_base (by assumption) hi; omega)) | (intro he; have he2 : _ = _ := he; have := own_base (by assumption) hi; omega) | (intro he; have he2 : _ = _ := he; rw [he2] at hi; exact absurd hi (by assumption)) | (intro he; have he2 : _ = some _ := he; exact absurd he2 (hsep _ hi)) | (intro he; first | exact absurd he (by assumption) | exact absurd he.symm (by assumption))) ?_)))))) (by rw [bs_length]; omega) (by omega)) ?_
          rintro v62 w7 ⟨rfl, hN', c7⟩
          have hz7 := c7.size
          refine L_run (.yes 6 false rfl rfl) rfl rfl (r_not rfl) ?_
          refine L_as (v := .bool _) (v' := .bool false) 63 rfl (congrArg Value.bool (by rfl)) ?_
          refine L_run (.plain rfl) rfl rfl (r_pick_f (v := .bool _) rfl rfl) ?_
          refine L_nil ?_
          refine W_false rfl ?_
          refine W_skip ?_
          refine W_region ?_
          refine L_run (.plain rfl) rfl rfl (r_move (v := .int _ _) rfl) ?_
          refine L_run (.plain rfl) rfl rfl (r_add rfl rfl (by first | exact wr_i64 (by omega) | rfl)) ?_
          refine L_run (.plain rfl) rfl rfl (r_assign (v := .int _ _) rfl) ?_
          refine L_nil ?_
          refine ⟨⟨rfl, rfl, rfl, rfl, trivial⟩, _, ?_, i + 1, rfl, ?_, rfl⟩
          · omega
          exact ⟨by omega, by rw [sent_succ z i hlt]; exact NetAt.nw hN' (by (repeat (first | exact Ch.refl _ | assumption | (refine Ch.fresh ?_ (by assumption) (by intro i hi he; first | exact he | (exfalso; have he2 : _ = some i := he; have := own_base (by assumption) he2; omega) | (exfalso; have he2 : i = _ := he; omega) | (exfalso; have he2 : _ = some i := he; have := ow_base (by assumption) he2; omega) | (exfalso; have := he.1; omega)))))), by (repeat (first | exact Ch.refl _ | assumption | (refine Ch.fresh ?_ (by assumption) (by intro i hi he; first | exact he | (exfalso; have he2 : _ = some i := he; have := own_base (by assumption) he2; omega) | (exfalso; have he2 : i = _ := he; omega) | (exfalso; have he2 : _ = some i := he; have := ow_base (by assumption) he2; omega) | (exfalso; have := he.1; omega)))))⟩
      · obtain rfl : i = z.length := by omega
        rw [List.take_length] at hNi hsl
        refine W_exit ?_
        repeat (first | refine blk_hit ?_ | refine blk_miss rfl ?_)
        refine W_cutF [0, 2, 7] (fun f W => ∃ (k : Nat), f 10 = .int .i64 k ∧ (k < z.length ∧ W = w5)) ?_ ?_
        · refine W_region ?_
          refine L_run (.plain rfl) rfl rfl (r_move (v := .int _ _) rfl) ?_
          refine L_run (.plain rfl) rfl rfl (r_conv Try.underlying5 Try.underlying3 rfl (by first | exact wr_i64 (by omega) | rfl)) ?_
          refine L_run (.plain rfl) rfl rfl (r_move (by conv => lhs; whnf)) ?_
          refine L_run (.plain rfl) rfl rfl (r_lenSl Try.underlying22 (by conv => lhs; whnf) (by (exact Sl.to (by first | assumption | exact Sl.own (by assumption) | exact Mu.sl (by assumption) | exact Ow.sl (by assumption)) (fun i hi => by (repeat (first | exact Sm.refl _ _ | (refine Sm.stepT (by assumption) (by intro hlt hsm; first | exact not_no | (intro he; have he2 : _ = some _ := he; have := own_base (by assumption) he2; omega) | (intro he; have he2 : _ = _ := he; omega) | (intro he; have he2 : _ = some _ := he; have := ow_base (by assumption) he2; omega) | (intro he; have := he.1; omega) | exact bk_not (by assumption) hsm rfl | (refine own_not ?_ hi hsm rfl <;> assumption) | (refine ow_not ?_ hi hsm rfl <;> assumption) | (intro he; have he2 : _ = some _ := he; have := Ow.lt (by assumption) he2; omega) | (intro he; have he2 : _ = some _ := he; have := Ow.lt (by assumption) he2; have := own_base (by assumption) hi; omega) | (intro he; have he2 : _ = some _ := he; have := Ow.lt how he2; first | omega | (have := own_base (by assumption) hi; omega)) | (intro he; have he2 : _ = _ := he; have := own_base (by assumption) hi; omega) | (intro he; have he2 : _ = _ := he; rw [he2] at hi; exact absurd hi (by assumption)) | (intro he; have he2 : _ = some _ := he; exact absurd he2 (hsep _ hi)) | (intro he; first | exact absurd he (by assumption) | exact absurd he.symm (by assumption))) ?_))))))) ?_
          refine L_run (.plain rfl) rfl rfl (r_remn rfl rfl (by omega) (by omega)) ?_
          refine L_run (.plain rfl) rfl rfl (r_assign (v := .int _ _) rfl) ?_
          refine L_nil ?_
          refine ⟨⟨rfl, rfl, rfl, trivial⟩, (a1 % (z.length : Int)).toNat, (by exact congrArg (Value.int .i64) (Int.toNat_of_nonneg (Int.emod_nonneg _ (by omega))).symm), ?_⟩
          refine ⟨?_, rfl⟩
          have := Int.emod_lt_of_pos a1 (b := (z.length : Int)) (by omega)
          omega
        rintro gcr9 w8 ⟨k, hf10, hCr9⟩
        refine W_as 10 hf10 rfl ?_
        clear hf10
        obtain ⟨hk, rfl⟩ := hCr9
        refine W_seq ?_
        refine W_seq ?_
        refine W_region ?_
        refine L_run (.plain rfl) rfl rfl (r_move (v := .bool _) rfl) ?_
        refine L_run (.plain rfl) rfl rfl (r_move (v := .bool _) rfl) ?_
        refine L_as (v := .bool _) (v' := .bool true) 77 rfl (congrArg Value.bool (by rfl)) ?_
        refine L_run (.yes 1 true rfl rfl) rfl rfl (r_move (v := .pointer _) rfl) ?_
        refine L_run (.yes 1 true rfl rfl) rfl rfl (r_move (v := .int _ _) rfl) ?_
        refine L_call (.yes 1 true rfl rfl) rfl rfl (r_call Try.func15 rfl rfl rfl (by rfl)) (lose_in _ b k 50 (sent z) _ (NetAt.nw hNi (by (repeat (first | exact Ch.refl _ | assumption | (refine Ch.fresh ?_ (by assumption) (by intro i hi he; first | exact he | (exfalso; have he2 : _ = some i := he; have := own_base (by assumption) he2; omega) | (exfalso; have he2 : i = _ := he; omega) | (exfalso; have he2 : _ = some i := he; have := ow_base (by assumption) he2; omega) | (exfalso; have := he.1; omega))))))) (by omega) (by omega) (by omega)) ?_
        rintro v80 w9 ⟨rfl, hN1, c9⟩
        have hz9 := c9.size
        refine L_run (.yes 1 true rfl rfl) rfl rfl (r_not rfl) ?_
        refine L_as (v := .bool _) (v' := .bool false) 81 rfl (congrArg Value.bool (by rfl)) ?_
        refine L_run (.plain rfl) rfl rfl (r_pick_t (v := .bool _) rfl rfl) ?_
        refine L_nil ?_
        refine W_false rfl ?_
        refine W_skip ?_
        refine W_seq ?_
        refine W_seq ?_
        refine W_region ?_
        refine L_run (.plain rfl) rfl rfl (r_move (v := .bool _) rfl) ?_
        refine L_run (.plain rfl) rfl rfl (r_not rfl) ?_
        refine L_as (v := .bool _) (v' := .bool false) 84 rfl (congrArg Value.bool (by rfl)) ?_
        refine L_nil ?_
        refine W_false rfl ?_
        refine W_skip ?_
        refine W_seq ?_
        refine W_seq ?_
        refine W_region ?_
        refine L_run (.plain rfl) rfl rfl (r_assign (v := .int _ _) rfl) ?_
        refine L_nil ?_
        refine W_block ?_
        refine W_loopF [0, 7, 10] (fun m f W => ∃ (j : Nat), f 14 = .int .i64 j ∧ (j ≤ z.length ∧ NetAt w0.heap.size W b 50 (left z k j) ∧ Nw w0 W) ∧ m = z.length - j) ?_ ?_
        · refine ⟨_, 0, rfl, ?_, rfl⟩
          exact ⟨by omega, NetAt.nw hN1 (by (repeat (first | exact Ch.refl _ | assumption | (refine Ch.fresh ?_ (by assumption) (by intro i hi he; first | exact he | (exfalso; have he2 : _ = some i := he; have := own_base (by assumption) he2; omega) | (exfalso; have he2 : i = _ := he; omega) | (exfalso; have he2 : _ = some i := he; have := ow_base (by assumption) he2; omega) | (exfalso; have := he.1; omega)))))), by (repeat (first | exact Ch.refl _ | assumption | (refine Ch.fresh ?_ (by assumption) (by intro i hi he; first | exact he | (exfalso; have he2 : _ = some i := he; have := own_base (by assumption) he2; omega) | (exfalso; have he2 : i = _ := he; omega) | (exfalso; have he2 : _ = some i := he; have := ow_base (by assumption) he2; omega) | (exfalso; have := he.1; omega)))))⟩
        rintro m1 g1 w10 ⟨j, hf14, hR1, rfl⟩
        refine W_as 14 hf14 rfl ?_
        clear hf14
        obtain ⟨hj, hNj, hnw2⟩ := hR1
        have hz2 := hnw2.size
        refine W_seq ?_
        refine W_seq ?_
        refine W_region ?_
        refine L_run (.plain rfl) rfl rfl (r_move (v := .int _ _) rfl) ?_
        refine L_run (.plain rfl) rfl rfl (r_move (by conv => lhs; whnf)) ?_
        refine L_run (.plain rfl) rfl rfl (r_lenSl Try.underlying22 (by conv => lhs; whnf) (by (exact Sl.to (by first | assumption | exact Sl.own (by assumption) | exact Mu.sl (by assumption) | exact Ow.sl (by assumption)) (fun i hi => by (repeat (first | exact Sm.refl _ _ | (refine Sm.stepT (by assumption) (by intro hlt hsm; first | exact not_no | (intro he; have he2 : _ = some _ := he; have := own_base (by assumption) he2; omega) | (intro he; have he2 : _ = _ := he; omega) | (intro he; have he2 : _ = some _ := he; have := ow_base (by assumption) he2; omega) | (intro he; have := he.1; omega) | exact bk_not (by assumption) hsm rfl | (refine own_not ?_ hi hsm rfl <;> assumption) | (refine ow_not ?_ hi hsm rfl <;> assumption) | (intro he; have he2 : _ = some _ := he; have := Ow.lt (by assumption) he2; omega) | (intro he; have he2 : _ = some _ := he; have := Ow.lt (by assumption) he2; have := own_base (by assumption) hi; omega) | (intro he; have he2 : _ = some _ := he; have := Ow.lt how he2; first | omega | (have := own_base (by assumption) hi; omega)) | (intro he; have he2 : _ = _ := he; have := own_base (by assumption) hi; omega) | (intro he; have he2 : _ = _ := he; rw [he2] at hi; exact absurd hi (by assumption)) | (intro he; have he2 : _ = some _ := he; exact absurd he2 (hsep _ hi)) | (intro he; first | exact absurd he (by assumption) | exact absurd he.symm (by assumption))) ?_))))))) ?_
        refine L_run (.plain rfl) rfl rfl (r_lss rfl rfl) ?_
        refine L_nil ?_
        refine W_if rfl (fun h106 => ?_) (fun h106 => ?_)
        · have hlt : j < z.length := by omega
          refine W_skip ?_
          refine W_seq ?_
          refine W_block ?_
          refine W_seq ?_
          refine W_seq ?_
          refine W_region ?_
          refine L_run (.plain rfl) rfl rfl (r_move (v := .int _ _) rfl) ?_
          refine L_run (.plain rfl) rfl rfl (r_move (v := .int _ _) rfl) ?_
          refine L_run (.plain rfl) rfl rfl (r_eql rfl rfl) ?_
          refine L_nil ?_
          refine W_if rfl (fun h111 => ?_) (fun h111 => ?_)
          · refine W_exit ?_
            repeat (first | refine blk_hit ?_ | refine blk_miss rfl ?_)
            refine W_region ?_
            refine L_run (.plain rfl) rfl rfl (r_move (v := .int _ _) rfl) ?_
            refine L_run (.plain rfl) rfl rfl (r_add rfl rfl (by first | exact wr_i64 (by omega) | rfl)) ?_
            refine L_run (.plain rfl) rfl rfl (r_assign (v := .int _ _) rfl) ?_
            refine L_nil ?_
            refine ⟨⟨rfl, rfl, rfl, trivial⟩, _, ?_, j + 1, rfl, ?_, rfl⟩
            · omega
            first
              | exact ⟨by omega, by rw [← left_next z k j hne]; exact NetAt.nw hN2 (by (repeat (first | exact Ch.refl _ | assumption | (refine Ch.fresh ?_ (by assumption) (by intro i hi he; first | exact he | (exfalso; have he2 : _ = some i := he; have := own_base (by assumption) he2; omega) | (exfalso; have he2 : i = _ := he; omega) | (exfalso; have he2 : _ = some i := he; have := ow_base (by assumption) he2; omega) | (exfalso; have := he.1; omega)))))), by (repeat (first | exact Ch.refl _ | assumption | (refine Ch.fresh ?_ (by assumption) (by intro i hi he; first | exact he | (exfalso; have he2 : _ = some i := he; have := own_base (by assumption) he2; omega) | (exfalso; have he2 : i = _ := he; omega) | (exfalso; have he2 : _ = some i := he; have := ow_base (by assumption) he2; omega) | (exfalso; have := he.1; omega)))))⟩
              | (obtain rfl : j = k := by omega
                 exact ⟨by omega, by rw [← left_skip]; exact NetAt.nw hNj (by (repeat (first | exact Ch.refl _ | assumption | (refine Ch.fresh ?_ (by assumption) (by intro i hi he; first | exact he | (exfalso; have he2 : _ = some i := he; have := own_base (by assumption) he2; omega) | (exfalso; have he2 : i = _ := he; omega) | (exfalso; have he2 : _ = some i := he; have := ow_base (by assumption) he2; omega) | (exfalso; have := he.1; omega)))))), by (repeat (first | exact Ch.refl _ | assumption | (refine Ch.fresh ?_ (by assumption) (by intro i hi he; first | exact he | (exfalso; have he2 : _ = some i := he; have := own_base (by assumption) he2; omega) | (exfalso; have he2 : i = _ := he; omega) | (exfalso; have he2 : _ = some i := he; have := ow_base (by assumption) he2; omega) | (exfalso; have := he.1; omega)))))⟩)
          · have hne : j ≠ k := by omega
            have hpos : 0 < (left z k j).length := by rw [left_length z k _ hk]; split <;> omega
            have hll : (left z k j).length ≤ 1024 := by rw [left_length z k _ hk]; omega
            have hlg := left_get z k j hk hlt hne hpos
            refine W_skip ?_
            refine W_seq ?_
            refine W_region ?_
            refine L_run (.plain rfl) rfl rfl (r_move (v := .pointer _) rfl) ?_
            refine L_call (.plain rfl) rfl rfl (r_call Try.func12 rfl rfl rfl (by rfl)) (take_in _ b 0 50 (left z k j) _ (NetAt.nw hNj (by (repeat (first | exact Ch.refl _ | assumption | (refine Ch.fresh ?_ (by assumption) (by intro i hi he; first | exact he | (exfalso; have he2 : _ = some i := he; have := own_base (by assumption) he2; omega) | (exfalso; have he2 : i = _ := he; omega) | (exfalso; have he2 : _ = some i := he; have := ow_base (by assumption) he2; omega) | (exfalso; have := he.1; omega))))))) hpos hll (by omega)) ?_
            rintro v114 w11 ⟨u, rfl, hu, hN2, c11⟩
            have hz11 := c11.size
            rw [hlg.2] at hu
            have hx := hu.1
            refine L_run (.plain rfl) rfl rfl (r_move (by conv => lhs; whnf)) ?_
            refine L_run (.plain rfl) rfl rfl (r_ext3_0 rfl) ?_
            refine L_run (.plain rfl) rfl rfl (r_ext3_1 rfl) ?_
            refine L_run (.plain rfl) rfl rfl (r_ext3_2 rfl) ?_
            refine L_run (.plain rfl) rfl rfl (r_assign (v := .int _ _) rfl) ?_
            refine L_run (.plain rfl) rfl rfl (r_assign (by conv => lhs; whnf)) ?_
            refine L_run (.plain rfl) rfl rfl (r_assign (v := .bool _) rfl) ?_
            refine L_nil ?_
            refine W_seq ?_
            refine W_still (by kernel_rfl) (by kernel_rfl) (fun w12 c12 hs12 => ?_)
            refine H_run (.plain rfl) rfl rfl (r_move (v := .bool _) rfl) ?_
            refine H_run (.plain rfl) rfl rfl (r_not rfl) ?_
            refine H_run (.plain rfl) rfl rfl (r_move (v := .bool _) rfl) ?_
            refine H_as (v := .bool _) (v' := .bool false) 120 rfl (congrArg Value.bool (by rfl)) ?_
            refine H_run (.yes 2 false rfl rfl) rfl rfl (r_move (by conv => lhs; whnf)) ?_
            refine H_run (.yes 2 false rfl rfl) rfl rfl (r_bstr Try.underlying31 Try.underlying5 Try.underlying9 (by conv => lhs; whnf) (by (exact Sl.to (by first | assumption | exact Sl.own (by assumption) | exact Mu.sl (by assumption) | exact Ow.sl (by assumption)) (fun i hi => by (repeat (first | exact Sm.refl _ _ | (refine Sm.stepT (by assumption) (by intro hlt hsm; first | exact not_no | (intro he; have he2 : _ = some _ := he; have := own_base (by assumption) he2; omega) | (intro he; have he2 : _ = _ := he; omega) | (intro he; have he2 : _ = some _ := he; have := ow_base (by assumption) he2; omega) | (intro he; have := he.1; omega) | exact bk_not (by assumption) hsm rfl | (refine own_not ?_ hi hsm rfl <;> assumption) | (refine ow_not ?_ hi hsm rfl <;> assumption) | (intro he; have he2 : _ = some _ := he; have := Ow.lt (by assumption) he2; omega) | (intro he; have he2 : _ = some _ := he; have := Ow.lt (by assumption) he2; have := own_base (by assumption) hi; omega) | (intro he; have he2 : _ = some _ := he; have := Ow.lt how he2; first | omega | (have := own_base (by assumption) hi; omega)) | (intro he; have he2 : _ = _ := he; have := own_base (by assumption) hi; omega) | (intro he; have he2 : _ = _ := he; rw [he2] at hi; exact absurd hi (by assumption)) | (intro he; have he2 : _ = some _ := he; exact absurd he2 (hsep _ hi)) | (intro he; first | exact absurd he (by assumption) | exact absurd he.symm (by assumption))) ?_))))))) ?_
            refine H_run (.yes 2 false rfl rfl) rfl rfl (r_move (by conv => lhs; whnf)) ?_
            refine H_run (.yes 2 false rfl rfl) rfl rfl (r_move (v := .int _ _) rfl) ?_
            refine H_run (.yes 2 false rfl rfl) rfl rfl (r_idxSl Try.underlying22 (show _ = some 1 from rfl) (by conv => lhs; whnf) rfl (by (exact Sl.to (by first | assumption | exact Sl.own (by assumption) | exact Mu.sl (by assumption) | exact Ow.sl (by assumption)) (fun i hi => by (repeat (first | exact Sm.refl _ _ | (refine Sm.stepT (by assumption) (by intro hlt hsm; first | exact not_no | (intro he; have he2 : _ = some _ := he; have := own_base (by assumption) he2; omega) | (intro he; have he2 : _ = _ := he; omega) | (intro he; have he2 : _ = some _ := he; have := ow_base (by assumption) he2; omega) | (intro he; have := he.1; omega) | exact bk_not (by assumption) hsm rfl | (refine own_not ?_ hi hsm rfl <;> assumption) | (refine ow_not ?_ hi hsm rfl <;> assumption) | (intro he; have he2 : _ = some _ := he; have := Ow.lt (by assumption) he2; omega) | (intro he; have he2 : _ = some _ := he; have := Ow.lt (by assumption) he2; have := own_base (by assumption) hi; omega) | (intro he; have he2 : _ = some _ := he; have := Ow.lt how he2; first | omega | (have := own_base (by assumption) hi; omega)) | (intro he; have he2 : _ = _ := he; have := own_base (by assumption) hi; omega) | (intro he; have he2 : _ = _ := he; rw [he2] at hi; exact absurd hi (by assumption)) | (intro he; have he2 : _ = some _ := he; exact absurd he2 (hsep _ hi)) | (intro he; first | exact absurd he (by assumption) | exact absurd he.symm (by assumption))) ?_)))))) (by omega) (by omega) (by conv => lhs; (try simp only [Nat.mul_one, Nat.zero_add, Int.toNat_natCast, Int.toNat_zero, Int.reduceToNat, Nat.reduceMul, Nat.reduceAdd]))) ?_
            refine H_run (.yes 2 false rfl rfl) rfl rfl (r_loadSl rfl rfl (by (exact Sl.to (by first | assumption | exact Sl.own (by assumption) | exact Mu.sl (by assumption) | exact Ow.sl (by assumption)) (fun i hi => by (repeat (first | exact Sm.refl _ _ | (refine Sm.stepT (by assumption) (by intro hlt hsm; first | exact not_no | (intro he; have he2 : _ = some _ := he; have := own_base (by assumption) he2; omega) | (intro he; have he2 : _ = _ := he; omega) | (intro he; have he2 : _ = some _ := he; have := ow_base (by assumption) he2; omega) | (intro he; have := he.1; omega) | exact bk_not (by assumption) hsm rfl | (refine own_not ?_ hi hsm rfl <;> assumption) | (refine ow_not ?_ hi hsm rfl <;> assumption) | (intro he; have he2 : _ = some _ := he; have := Ow.lt (by assumption) he2; omega) | (intro he; have he2 : _ = some _ := he; have := Ow.lt (by assumption) he2; have := own_base (by assumption) hi; omega) | (intro he; have he2 : _ = some _ := he; have := Ow.lt how he2; first | omega | (have := own_base (by assumption) hi; omega)) | (intro he; have he2 : _ = _ := he; have := own_base (by assumption) hi; omega) | (intro he; have he2 : _ = _ := he; rw [he2] at hi; exact absurd hi (by assumption)) | (intro he; have he2 : _ = some _ := he; exact absurd he2 (hsep _ hi)) | (intro he; first | exact absurd he (by assumption) | exact absurd he.symm (by assumption))) ?_)))))) (by exact strs_get z _ (by assumption))) ?_
            refine H_run (.yes 2 false rfl rfl) rfl rfl (r_neqs rfl rfl) ?_
            refine H_as (v := .bool _) (v' := .bool false) 127 rfl (dec_f (by exact fun h => h (sb_bs _))).symm ?_
            refine H_run (.plain rfl) rfl rfl (r_pick_f (v := .bool _) rfl rfl) ?_
            refine H_nil ?_
            refine W_false rfl ?_
            refine W_skip ?_
            refine W_region ?_
            refine L_run (.plain rfl) rfl rfl (r_move (v := .int _ _) rfl) ?_
            refine L_run (.plain rfl) rfl rfl (r_add rfl rfl (by first | exact wr_i64 (by omega) | rfl)) ?_
            refine L_run (.plain rfl) rfl rfl (r_assign (v := .int _ _) rfl) ?_
            refine L_nil ?_
            refine ⟨⟨rfl, rfl, rfl, trivial⟩, _, ?_, j + 1, rfl, ?_, rfl⟩
            · omega
            first
              | exact ⟨by omega, by rw [← left_next z k j hne]; exact NetAt.nw hN2 (by (repeat (first | exact Ch.refl _ | assumption | (refine Ch.fresh ?_ (by assumption) (by intro i hi he; first | exact he | (exfalso; have he2 : _ = some i := he; have := own_base (by assumption) he2; omega) | (exfalso; have he2 : i = _ := he; omega) | (exfalso; have he2 : _ = some i := he; have := ow_base (by assumption) he2; omega) | (exfalso; have := he.1; omega)))))), by (repeat (first | exact Ch.refl _ | assumption | (refine Ch.fresh ?_ (by assumption) (by intro i hi he; first | exact he | (exfalso; have he2 : _ = some i := he; have := own_base (by assumption) he2; omega) | (exfalso; have he2 : i = _ := he; omega) | (exfalso; have he2 : _ = some i := he; have := ow_base (by assumption) he2; omega) | (exfalso; have := he.1; omega)))))⟩
              | (obtain rfl : j = k := by omega
                 exact ⟨by omega, by rw [← left_skip]; exact NetAt.nw hNj (by (repeat (first | exact Ch.refl _ | assumption | (refine Ch.fresh ?_ (by assumption) (by intro i hi he; first | exact he | (exfalso; have he2 : _ = some i := he; have := own_base (by assumption) he2; omega) | (exfalso; have he2 : i = _ := he; omega) | (exfalso; have he2 : _ = some i := he; have := ow_base (by assumption) he2; omega) | (exfalso; have := he.1; omega)))))), by (repeat (first | exact Ch.refl _ | assumption | (refine Ch.fresh ?_ (by assumption) (by intro i hi he; first | exact he | (exfalso; have he2 : _ = some i := he; have := own_base (by assumption) he2; omega) | (exfalso; have he2 : i = _ := he; omega) | (exfalso; have he2 : _ = some i := he; have := ow_base (by assumption) he2; omega) | (exfalso; have := he.1; omega)))))⟩)
        · obtain rfl : j = z.length := by omega
          have hend : (left z k z.length).length = 0 := by rw [left_length z k _ hk]; split <;> omega
          refine W_exit ?_
          repeat (first | refine blk_hit ?_ | refine blk_miss rfl ?_)
          refine W_seq ?_
          refine W_region ?_
          refine L_run (.plain rfl) rfl rfl (r_move (v := .pointer _) rfl) ?_
          refine L_call (.plain rfl) rfl rfl (r_call Try.func14 rfl rfl rfl (by rfl)) (len_walk _ b 50 (left z k z.length) _ (NetAt.nw hNj (by (repeat (first | exact Ch.refl _ | assumption | (refine Ch.fresh ?_ (by assumption) (by intro i hi he; first | exact he | (exfalso; have he2 : _ = some i := he; have := own_base (by assumption) he2; omega) | (exfalso; have he2 : i = _ := he; omega) | (exfalso; have he2 : _ = some i := he; have := ow_base (by assumption) he2; omega) | (exfalso; have := he.1; omega)))))))) ?_
          rintro v130 w13 ⟨rfl, rfl⟩
          refine L_run (.plain rfl) rfl rfl (r_eql rfl rfl) ?_
          refine L_run (.plain rfl) rfl rfl (r_assign (v := .bool _) rfl) ?_
          refine L_nil ?_
          refine W_ret ?_
          refine ret1 (v := .bool _) rfl rfl ?_
          first
            | exact ⟨rfl, by (repeat (first | exact Ch.refl _ | assumption | (refine Ch.fresh ?_ (by assumption) (by intro i hi he; first | exact he | (exfalso; have he2 : _ = some i := he; have := own_base (by assumption) he2; omega) | (exfalso; have he2 : i = _ := he; omega) | (exfalso; have he2 : _ = some i := he; have := ow_base (by assumption) he2; omega) | (exfalso; have := he.1; omega)))))⟩
            | exact ⟨(dec_t (by omega)).symm, by (repeat (first | exact Ch.refl _ | assumption | (refine Ch.fresh ?_ (by assumption) (by intro i hi he; first | exact he | (exfalso; have he2 : _ = some i := he; have := own_base (by assumption) he2; omega) | (exfalso; have he2 : i = _ := he; omega) | (exfalso; have he2 : _ = some i := he; have := ow_base (by assumption) he2; omega) | (exfalso; have := he.1; omega)))))⟩
theorem NetGone_f (v0 : Value) (z : List ByteArray) (a1 : Int) (w0 : World) (y0 : Sl w0 v0 1 z.length (strs z)) (y1 : 0 ≤ a1 ∧ a1 ≤ 255) : Does Try.prog 4 #[v0, .int .u8 a1, .bool false] w0 (fun r w' => r = .bool true ∧ Nw w0 w') := by
  refine fn_of (n := 132) (args := [v0, .int .u8 a1, .bool false]) Try.func4 rfl rfl rfl ?_
  refine W_seq ?_
  refine W_region ?_
  refine L_run (.plain rfl) rfl rfl (r_assign (v := .bool _) rfl) ?_
  refine L_nil ?_
  refine W_seq ?_
  refine W_region ?_
  refine L_call (.plain rfl) rfl rfl (r_call Try.func9 rfl rfl rfl (by rfl)) (new_walk 50 _ (by omega)) ?_
  rintro v19 w1 ⟨b, rfl, hN, c1⟩
  have hz1 := c1.size
  refine L_run (.plain rfl) rfl rfl (r_move (by conv => lhs; whnf)) ?_
  refine L_run (.plain rfl) rfl rfl (r_ext2_0 rfl) ?_
  refine L_run (.plain rfl) rfl rfl (r_ext2_1 rfl) ?_
  refine L_run (.plain rfl) rfl rfl (r_assign (v := .pointer _) rfl) ?_
  refine L_run (.plain rfl) rfl rfl (r_assign (v := .int _ _) rfl) ?_
  refine L_nil ?_
  refine W_seq ?_
  refine W_seq ?_
  refine W_region ?_
  refine L_call (.plain rfl) rfl rfl (r_call Try.func10 rfl rfl rfl (by rfl)) (awake_walk _) ?_
  rintro v22 w2 ⟨rfl, c2⟩
  have hz2 := c2.size
  refine L_run (.plain rfl) rfl rfl (r_not rfl) ?_
  refine L_run (.plain rfl) rfl rfl (r_move (v := .bool _) rfl) ?_
  refine L_as (v := .bool _) (v' := .bool false) 24 rfl (congrArg Value.bool (by rfl)) ?_
  refine L_run (.yes 2 false rfl rfl) rfl rfl (r_move (v := .int _ _) rfl) ?_
  refine L_run (.yes 2 false rfl rfl) rfl rfl (r_neq rfl rfl) ?_
  refine L_run (.plain rfl) rfl rfl (r_pick_f (v := .bool _) rfl rfl) ?_
  refine L_run (.plain rfl) rfl rfl (r_move (v := .bool _) rfl) ?_
  refine L_as (v := .bool _) (v' := .bool false) 28 rfl (dec_f (by simp)).symm ?_
  refine L_run (.yes 6 false rfl rfl) rfl rfl (r_move (v := .pointer _) rfl) ?_
  refine L_run (.yes 6 false rfl rfl) rfl rfl (r_eqpnil Try.underlying24 rfl rfl) ?_
  refine L_run (.plain rfl) rfl rfl (r_pick_f (v := .bool _) rfl rfl) ?_
  refine L_run (.plain rfl) rfl rfl (r_move (v := .bool _) rfl) ?_
  refine L_as (v := .bool _) (v' := .bool false) 32 rfl (congrArg Value.bool (by rfl)) ?_
  refine L_run (.yes 10 false rfl rfl) rfl rfl (r_move (by conv => lhs; whnf)) ?_
  refine L_run (.yes 10 false rfl rfl) rfl rfl (r_lenSl Try.underlying22 (by conv => lhs; whnf) (by (exact Sl.to (by first | assumption | exact Sl.own (by assumption) | exact Mu.sl (by assumption) | exact Ow.sl (by assumption)) (fun i hi => by (repeat (first | exact Sm.refl _ _ | (refine Sm.stepT (by assumption) (by intro hlt hsm; first | exact not_no | (intro he; have he2 : _ = some _ := he; have := own_base (by assumption) he2; omega) | (intro he; have he2 : _ = _ := he; omega) | (intro he; have he2 : _ = some _ := he; have := ow_base (by assumption) he2; omega) | (intro he; have := he.1; omega) | exact bk_not (by assumption) hsm rfl | (refine own_not ?_ hi hsm rfl <;> assumption) | (refine ow_not ?_ hi hsm rfl <;> assumption) | (intro he; have he2 : _ = some _ := he; have := Ow.lt (by assumption) he2; omega) | (intro he; have he2 : _ = some _ := he; have := Ow.lt (by assumption) he2; have := own_base (by assumption) hi; omega) | (intro he; have he2 : _ = some _ := he; have := Ow.lt how he2; first | omega | (have := own_base (by assumption) hi; omega)) | (intro he; have he2 : _ = _ := he; have := own_base (by assumption) hi; omega) | (intro he; have he2 : _ = _ := he; rw [he2] at hi; exact absurd hi (by assumption)) | (intro he; have he2 : _ = some _ := he; exact absurd he2 (hsep _ hi)) | (intro he; first | exact absurd he (by assumption) | exact absurd he.symm (by assumption))) ?_))))))) ?_
  refine L_run (.yes 10 false rfl rfl) rfl rfl (r_eql rfl rfl) ?_
  refine L_run (.plain rfl) rfl rfl (r_pick_f (v := .bool _) rfl rfl) ?_
  refine L_run (.plain rfl) rfl rfl (r_move (v := .bool _) rfl) ?_
  refine L_case (d := 37) rfl (fun h37 => ?_) (fun h37 => ?_)
  · refine L_pass rfl rfl rfl rfl rfl ?_
    refine L_pass rfl rfl rfl rfl rfl ?_
    refine L_pass rfl rfl rfl rfl rfl ?_
    refine L_run (.plain rfl) rfl rfl (r_pick_t (v := .bool _) rfl rfl) ?_
    refine L_nil ?_
    refine W_true rfl ?_
    refine W_seq ?_
    refine W_region ?_
    refine L_call (.plain rfl) rfl rfl (r_call Try.func10 rfl rfl rfl (by rfl)) (awake_walk _) ?_
    rintro v42 w3 ⟨rfl, c3⟩
    have hz3 := c3.size
    refine L_run (.plain rfl) rfl rfl (r_assign (v := .bool _) rfl) ?_
    refine L_nil ?_
    refine W_ret ?_
    refine ret1 (v := .bool _) rfl rfl ?_
    first
      | exact ⟨rfl, by (repeat (first | exact Ch.refl _ | assumption | (refine Ch.fresh ?_ (by assumption) (by intro i hi he; first | exact he | (exfalso; have he2 : _ = some i := he; have := own_base (by assumption) he2; omega) | (exfalso; have he2 : i = _ := he; omega) | (exfalso; have he2 : _ = some i := he; have := ow_base (by assumption) he2; omega) | (exfalso; have := he.1; omega)))))⟩
      | exact ⟨(dec_t (by omega)).symm, by (repeat (first | exact Ch.refl _ | assumption | (refine Ch.fresh ?_ (by assumption) (by intro i hi he; first | exact he | (exfalso; have he2 : _ = some i := he; have := own_base (by assumption) he2; omega) | (exfalso; have he2 : i = _ := he; omega) | (exfalso; have he2 : _ = some i := he; have := ow_base (by assumption) he2; omega) | (exfalso; have := he.1; omega)))))⟩
  · refine L_run (.yes 15 false rfl rfl) rfl rfl (r_move (by conv => lhs; whnf)) ?_
    refine L_run (.yes 15 false rfl rfl) rfl rfl (r_lenSl Try.underlying22 (by conv => lhs; whnf) (by (exact Sl.to (by first | assumption | exact Sl.own (by assumption) | exact Mu.sl (by assumption) | exact Ow.sl (by assumption)) (fun i hi => by (repeat (first | exact Sm.refl _ _ | (refine Sm.stepT (by assumption) (by intro hlt hsm; first | exact not_no | (intro he; have he2 : _ = some _ := he; have := own_base (by assumption) he2; omega) | (intro he; have he2 : _ = _ := he; omega) | (intro he; have he2 : _ = some _ := he; have := ow_base (by assumption) he2; omega) | (intro he; have := he.1; omega) | exact bk_not (by assumption) hsm rfl | (refine own_not ?_ hi hsm rfl <;> assumption) | (refine ow_not ?_ hi hsm rfl <;> assumption) | (intro he; have he2 : _ = some _ := he; have := Ow.lt (by assumption) he2; omega) | (intro he; have he2 : _ = some _ := he; have := Ow.lt (by assumption) he2; have := own_base (by assumption) hi; omega) | (intro he; have he2 : _ = some _ := he; have := Ow.lt how he2; first | omega | (have := own_base (by assumption) hi; omega)) | (intro he; have he2 : _ = _ := he; have := own_base (by assumption) hi; omega) | (intro he; have he2 : _ = _ := he; rw [he2] at hi; exact absurd hi (by assumption)) | (intro he; have he2 : _ = some _ := he; exact absurd he2 (hsep _ hi)) | (intro he; first | exact absurd he (by assumption) | exact absurd he.symm (by assumption))) ?_))))))) ?_
    refine L_run (.yes 15 false rfl rfl) rfl rfl (r_gtr rfl rfl) ?_
    refine L_run (.plain rfl) rfl rfl (r_pick_f (v := .bool _) rfl rfl) ?_
    refine L_nil ?_
    refine W_if rfl (fun h41 => ?_) (fun h41 => ?_)
    · refine W_seq ?_
      refine W_region ?_
      refine L_call (.plain rfl) rfl rfl (r_call Try.func10 rfl rfl rfl (by rfl)) (awake_walk _) ?_
      rintro v42 w4 ⟨rfl, c4⟩
      have hz4 := c4.size
      refine L_run (.plain rfl) rfl rfl (r_assign (v := .bool _) rfl) ?_
      refine L_nil ?_
      refine W_ret ?_
      refine ret1 (v := .bool _) rfl rfl ?_
      first
        | exact ⟨rfl, by (repeat (first | exact Ch.refl _ | assumption | (refine Ch.fresh ?_ (by assumption) (by intro i hi he; first | exact he | (exfalso; have he2 : _ = some i := he; have := own_base (by assumption) he2; omega) | (exfalso; have he2 : i = _ := he; omega) | (exfalso; have he2 : _ = some i := he; have := ow_base (by assumption) he2; omega) | (exfalso; have := he.1; omega)))))⟩
        | exact ⟨(dec_t (by omega)).symm, by (repeat (first | exact Ch.refl _ | assumption | (refine Ch.fresh ?_ (by assumption) (by intro i hi he; first | exact he | (exfalso; have he2 : _ = some i := he; have := own_base (by assumption) he2; omega) | (exfalso; have he2 : i = _ := he; omega) | (exfalso; have he2 : _ = some i := he; have := ow_base (by assumption) he2; omega) | (exfalso; have := he.1; omega)))))⟩
    · refine W_skip ?_
      refine W_seq ?_
      refine W_seq ?_
      refine W_region ?_
      refine L_run (.plain rfl) rfl rfl (r_assign (v := .int _ _) rfl) ?_
      refine L_nil ?_
      refine W_block ?_
      refine W_loopF [0, 1, 2, 7] (fun m f W => ∃ (i : Nat), f 9 = .int .i64 i ∧ (i ≤ z.length ∧ NetAt w0.heap.size W b 50 (sent (z.take i)) ∧ Nw w0 W) ∧ m = z.length - i) ?_ ?_
      · refine ⟨_, 0, rfl, ?_, rfl⟩
        exact ⟨by omega, NetAt.nw hN (by (repeat (first | exact Ch.refl _ | assumption | (refine Ch.fresh ?_ (by assumption) (by intro i hi he; first | exact he | (exfalso; have he2 : _ = some i := he; have := own_base (by assumption) he2; omega) | (exfalso; have he2 : i = _ := he; omega) | (exfalso; have he2 : _ = some i := he; have := ow_base (by assumption) he2; omega) | (exfalso; have := he.1; omega)))))), by (repeat (first | exact Ch.refl _ | assumption | (refine Ch.fresh ?_ (by assumption) (by intro i hi he; first | exact he | (exfalso; have he2 : _ = some i := he; have := own_base (by assumption) he2; omega) | (exfalso; have he2 : i = _ := he; omega) | (exfalso; have he2 : _ = some i := he; have := ow_base (by assumption) he2; omega) | (exfalso; have := he.1; omega)))))⟩
      rintro m0 g0 w5 ⟨i, hf9, hR0, rfl⟩
      refine W_as 9 hf9 rfl ?_
      clear hf9
      obtain ⟨hi, hNi, hnw⟩ := hR0
      have hz := hnw.size
      have hsl : (sent (z.take i)).length = i := by rw [sent_length, List.length_take]; omega
      refine W_seq ?_
      refine W_seq ?_
      refine W_region ?_
      refine L_run (.plain rfl) rfl rfl (r_move (v := .int _ _) rfl) ?_
      refine L_run (.plain rfl) rfl rfl (r_move (by conv => lhs; whnf)) ?_
      refine L_run (.plain rfl) rfl rfl (r_lenSl Try.underlying22 (by conv => lhs; whnf) (by (exact Sl.to (by first | assumption | exact Sl.own (by assumption) | exact Mu.sl (by assumption) | exact Ow.sl (by assumption)) (fun i hi => by (repeat (first | exact Sm.refl _ _ | (refine Sm.stepT (by assumption) (by intro hlt hsm; first | exact not_no | (intro he; have he2 : _ = some _ := he; have := own_base (by assumption) he2; omega) | (intro he; have he2 : _ = _ := he; omega) | (intro he; have he2 : _ = some _ := he; have := ow_base (by assumption) he2; omega) | (intro he; have := he.1; omega) | exact bk_not (by assumption) hsm rfl | (refine own_not ?_ hi hsm rfl <;> assumption) | (refine ow_not ?_ hi hsm rfl <;> assumption) | (intro he; have he2 : _ = some _ := he; have := Ow.lt (by assumption) he2; omega) | (intro he; have he2 : _ = some _ := he; have := Ow.lt (by assumption) he2; have := own_base (by assumption) hi; omega) | (intro he; have he2 : _ = some _ := he; have := Ow.lt how he2; first | omega | (have := own_base (by assumption) hi; omega)) | (intro he; have he2 : _ = _ := he; have := own_base (by assumption) hi; omega) | (intro he; have he2 : _ = _ := he; rw [he2] at hi; exact absurd hi (by assumption)) | (intro he; have he2 : _ = some _ := he; exact absurd he2 (hsep _ hi)) | (intro he; first | exact absurd he (by assumption) | exact absurd he.symm (by assumption))) ?_))))))) ?_
      refine L_run (.plain rfl) rfl rfl (r_lss rfl rfl) ?_
      refine L_nil ?_
      refine W_if rfl (fun h46 => ?_) (fun h46 => ?_)
      · have hlt : i < z.length := by omega
        refine W_skip ?_
        refine W_seq ?_
        refine W_block ?_
        refine W_seq ?_
        refine W_region ?_
        refine L_run (.plain rfl) rfl rfl (r_move (by conv => lhs; whnf)) ?_
        refine L_run (.plain rfl) rfl rfl (r_move (v := .int _ _) rfl) ?_
        refine L_run (.plain rfl) rfl rfl (r_idxSl Try.underlying22 (show _ = some 1 from rfl) (by conv => lhs; whnf) rfl (by (exact Sl.to (by first | assumption | exact Sl.own (by assumption) | exact Mu.sl (by assumption) | exact Ow.sl (by assumption)) (fun i hi => by (repeat (first | exact Sm.refl _ _ | (refine Sm.stepT (by assumption) (by intro hlt hsm; first | exact not_no | (intro he; have he2 : _ = some _ := he; have := own_base (by assumption) he2; omega) | (intro he; have he2 : _ = _ := he; omega) | (intro he; have he2 : _ = some _ := he; have := ow_base (by assumption) he2; omega) | (intro he; have := he.1; omega) | exact bk_not (by assumption) hsm rfl | (refine own_not ?_ hi hsm rfl <;> assumption) | (refine ow_not ?_ hi hsm rfl <;> assumption) | (intro he; have he2 : _ = some _ := he; have := Ow.lt (by assumption) he2; omega) | (intro he; have he2 : _ = some _ := he; have := Ow.lt (by assumption) he2; have := own_base (by assumption) hi; omega) | (intro he; have he2 : _ = some _ := he; have := Ow.lt how he2; first | omega | (have := own_base (by assumption) hi; omega)) | (intro he; have he2 : _ = _ := he; have := own_base (by assumption) hi; omega) | (intro he; have he2 : _ = _ := he; rw [he2] at hi; exact absurd hi (by assumption)) | (intro he; have he2 : _ = some _ := he; exact absurd he2 (hsep _ hi)) | (intro he; first | exact absurd he (by assumption) | exact absurd he.symm (by assumption))) ?_)))))) (by omega) (by omega) (by conv => lhs; (try simp only [Nat.mul_one, Nat.zero_add, Int.toNat_natCast, Int.toNat_zero, Int.reduceToNat, Nat.reduceMul, Nat.reduceAdd]))) ?_
        refine L_run (.plain rfl) rfl rfl (r_loadSl rfl rfl (by (exact Sl.to (by first | assumption | exact Sl.own (by assumption) | exact Mu.sl (by assumption) | exact Ow.sl (by assumption)) (fun i hi => by (repeat (first | exact Sm.refl _ _ | (refine Sm.stepT (by assumption) (by intro hlt hsm; first | exact not_no | (intro he; have he2 : _ = some _ := he; have := own_base (by assumption) he2; omega) | (intro he; have he2 : _ = _ := he; omega) | (intro he; have he2 : _ = some _ := he; have := ow_base (by assumption) he2; omega) | (intro he; have := he.1; omega) | exact bk_not (by assumption) hsm rfl | (refine own_not ?_ hi hsm rfl <;> assumption) | (refine ow_not ?_ hi hsm rfl <;> assumption) | (intro he; have he2 : _ = some _ := he; have := Ow.lt (by assumption) he2; omega) | (intro he; have he2 : _ = some _ := he; have := Ow.lt (by assumption) he2; have := own_base (by assumption) hi; omega) | (intro he; have he2 : _ = some _ := he; have := Ow.lt how he2; first | omega | (have := own_base (by assumption) hi; omega)) | (intro he; have he2 : _ = _ := he; have := own_base (by assumption) hi; omega) | (intro he; have he2 : _ = _ := he; rw [he2] at hi; exact absurd hi (by assumption)) | (intro he; have he2 : _ = some _ := he; exact absurd he2 (hsep _ hi)) | (intro he; first | exact absurd he (by assumption) | exact absurd he.symm (by assumption))) ?_)))))) (by exact strs_get z _ (by assumption))) ?_
        refine L_run (.plain rfl) rfl rfl (r_lens Try.underlying9 rfl) ?_
        refine L_run (.plain rfl) rfl rfl (r_gtr rfl rfl) ?_
        refine L_run (.plain rfl) rfl rfl (r_move (v := .bool _) rfl) ?_
        refine L_case (d := 55) rfl (fun h55 => ?_) (fun h55 => ?_)
        · refine L_pass rfl rfl rfl rfl rfl ?_
          refine L_pass rfl rfl rfl rfl rfl ?_
          refine L_pass rfl rfl rfl rfl rfl ?_
          refine L_pass rfl rfl rfl rfl rfl ?_
          refine L_pass rfl rfl rfl rfl rfl ?_
          refine L_pass rfl rfl rfl rfl rfl ?_
          refine L_pass rfl rfl rfl rfl rfl ?_
          refine L_pass rfl rfl rfl rfl rfl ?_
          refine L_run (.plain rfl) rfl rfl (r_pick_t (v := .bool _) rfl rfl) ?_
          refine L_nil ?_
          refine W_true rfl ?_
          refine W_seq ?_
          refine W_region ?_
          refine L_run (.plain rfl) rfl rfl (r_move (by conv => lhs; whnf)) ?_
          refine L_run (.plain rfl) rfl rfl (r_move (v := .int _ _) rfl) ?_
          refine L_run (.plain rfl) rfl rfl (r_idxSl Try.underlying22 (show _ = some 1 from rfl) (by conv => lhs; whnf) rfl (by (exact Sl.to (by first | assumption | exact Sl.own (by assumption) | exact Mu.sl (by assumption) | exact Ow.sl (by assumption)) (fun i hi => by (repeat (first | exact Sm.refl _ _ | (refine Sm.stepT (by assumption) (by intro hlt hsm; first | exact not_no | (intro he; have he2 : _ = some _ := he; have := own_base (by assumption) he2; omega) | (intro he; have he2 : _ = _ := he; omega) | (intro he; have he2 : _ = some _ := he; have := ow_base (by assumption) he2; omega) | (intro he; have := he.1; omega) | exact bk_not (by assumption) hsm rfl | (refine own_not ?_ hi hsm rfl <;> assumption) | (refine ow_not ?_ hi hsm rfl <;> assumption) | (intro he; have he2 : _ = some _ := he; have := Ow.lt (by assumption) he2; omega) | (intro he; have he2 : _ = some _ := he; have := Ow.lt (by assumption) he2; have := own_base (by assumption) hi; omega) | (intro he; have he2 : _ = some _ := he; have := Ow.lt how he2; first | omega | (have := own_base (by assumption) hi; omega)) | (intro he; have he2 : _ = _ := he; have := own_base (by assumption) hi; omega) | (intro he; have he2 : _ = _ := he; rw [he2] at hi; exact absurd hi (by assumption)) | (intro he; have he2 : _ = some _ := he; exact absurd he2 (hsep _ hi)) | (intro he; first | exact absurd he (by assumption) | exact absurd he.symm (by assumption))) ?_)))))) (by omega) (by omega) (by conv => lhs; (try simp only [Nat.mul_one, Nat.zero_add, Int.toNat_natCast, Int.toNat_zero, Int.reduceToNat, Nat.reduceMul, Nat.reduceAdd]))) ?_
          refine L_run (.plain rfl) rfl rfl (r_loadSl rfl rfl (by (exact Sl.to (by first | assumption | exact Sl.own (by assumption) | exact Mu.sl (by assumption) | exact Ow.sl (by assumption)) (fun i hi => by (repeat (first | exact Sm.refl _ _ | (refine Sm.stepT (by assumption) (by intro hlt hsm; first | exact not_no | (intro he; have he2 : _ = some _ := he; have := own_base (by assumption) he2; omega) | (intro he; have he2 : _ = _ := he; omega) | (intro he; have he2 : _ = some _ := he; have := ow_base (by assumption) he2; omega) | (intro he; have := he.1; omega) | exact bk_not (by assumption) hsm rfl | (refine own_not ?_ hi hsm rfl <;> assumption) | (refine ow_not ?_ hi hsm rfl <;> assumption) | (intro he; have he2 : _ = some _ := he; have := Ow.lt (by assumption) he2; omega) | (intro he; have he2 : _ = some _ := he; have := Ow.lt (by assumption) he2; have := own_base (by assumption) hi; omega) | (intro he; have he2 : _ = some _ := he; have := Ow.lt how he2; first | omega | (have := own_base (by assumption) hi; omega)) | (intro he; have he2 : _ = _ := he; have := own_base (by assumption) hi; omega) | (intro he; have he2 : _ = _ := he; rw [he2] at hi; exact absurd hi (by assumption)) | (intro he; have he2 : _ = some _ := he; exact absurd he2 (hsep _ hi)) | (intro he; first | exact absurd he (by assumption) | exact absurd he.symm (by assumption))) ?_)))))) (by exact strs_get z _ (by assumption))) ?_
          refine L_run (.plain rfl) rfl rfl (r_lens Try.underlying9 rfl) ?_
          refine L_run (.plain rfl) rfl rfl (r_gtr rfl rfl) ?_
          refine L_run (.plain rfl) rfl rfl (r_assign (v := .bool _) rfl) ?_
          refine L_nil ?_
          refine W_ret ?_
          refine ret1 (v := .bool _) rfl rfl ?_
          first
            | exact ⟨rfl, by (repeat (first | exact Ch.refl _ | assumption | (refine Ch.fresh ?_ (by assumption) (by intro i hi he; first | exact he | (exfalso; have he2 : _ = some i := he; have := own_base (by assumption) he2; omega) | (exfalso; have he2 : i = _ := he; omega) | (exfalso; have he2 : _ = some i := he; have := ow_base (by assumption) he2; omega) | (exfalso; have := he.1; omega)))))⟩
            | exact ⟨(dec_t (by omega)).symm, by (repeat (first | exact Ch.refl _ | assumption | (refine Ch.fresh ?_ (by assumption) (by intro i hi he; first | exact he | (exfalso; have he2 : _ = some i := he; have := own_base (by assumption) he2; omega) | (exfalso; have he2 : i = _ := he; omega) | (exfalso; have he2 : _ = some i := he; have := ow_base (by assumption) he2; omega) | (exfalso; have := he.1; omega)))))⟩
        · refine L_run (.yes 6 false rfl rfl) rfl rfl (r_move (v := .pointer _) rfl) ?_
          refine L_run (.yes 6 false rfl rfl) rfl rfl (r_move (by conv => lhs; whnf)) ?_
          refine L_run (.yes 6 false rfl rfl) rfl rfl (r_move (v := .int _ _) rfl) ?_
          refine L_run (.yes 6 false rfl rfl) rfl rfl (r_idxSl Try.underlying22 (show _ = some 1 from rfl) (by conv => lhs; whnf) rfl (by (exact Sl.to (by first | assumption | exact Sl.own (by assumption) | exact Mu.sl (by assumption) | exact Ow.sl (by assumption)) (fun i hi => by (repeat (first | exact Sm.refl _ _ | (refine Sm.stepT (by assumption) (by intro hlt hsm; first | exact not_no | (intro he; have he2 : _ = some _ := he; have := own_base (by assumption) he2; omega) | (intro he; have he2 : _ = _ := he; omega) | (intro he; have he2 : _ = some _ := he; have := ow_base (by assumption) he2; omega) | (intro he; have := he.1; omega) | exact bk_not (by assumption) hsm rfl | (refine own_not ?_ hi hsm rfl <;> assumption) | (refine ow_not ?_ hi hsm rfl <;> assumption) | (intro he; have he2 : _ = some _ := he; have := Ow.lt (by assumption) he2; omega) | (intro he; have he2 : _ = some _ := he; have := Ow.lt (by assumption) he2; have := own_base (by assumption) hi; omega) | (intro he; have he2 : _ = some _ := he; have := Ow.lt how he2; first | omega | (have := own_base (by assumption) hi; omega)) | (intro he; have he2 : _ = _ := he; have := own_base (by assumption) hi; omega) | (intro he; have he2 : _ = _ := he; rw [he2] at hi; exact absurd hi (by assumption)) | (intro he; have he2 : _ = some _ := he; exact absurd he2 (hsep _ hi)) | (intro he; first | exact absurd he (by assumption) | exact absurd he.symm (by assumption))) ?_)))))) (by omega) (by omega) (by conv => lhs; (try simp only [Nat.mul_one, Nat.zero_add, Int.toNat_natCast, Int.toNat_zero, Int.reduceToNat, Nat.reduceMul, Nat.reduceAdd]))) ?_
          refine L_run (.yes 6 false rfl rfl) rfl rfl (r_loadSl rfl rfl (by (exact Sl.to (by first | assumption | exact Sl.own (by assumption) | exact Mu.sl (by assumption) | exact Ow.sl (by assumption)) (fun i hi => by (repeat (first | exact Sm.refl _ _ | (refine Sm.stepT (by assumption) (by intro hlt hsm; first | exact not_no | (intro he; have he2 : _ = some _ := he; have := own_base (by assumption) he2; omega) | (intro he; have he2 : _ = _ := he; omega) | (intro he; have he2 : _ = some _ := he; have := ow_base (by assumption) he2; omega) | (intro he; have := he.1; omega) | exact bk_not (by assumption) hsm rfl | (refine own_not ?_ hi hsm rfl <;> assumption) | (refine ow_not ?_ hi hsm rfl <;> assumption) | (intro he; have he2 : _ = some _ := he; have := Ow.lt (by assumption) he2; omega) | (intro he; have he2 : _ = some _ := he; have := Ow.lt (by assumption) he2; have := own_base (by assumption) hi; omega) | (intro he; have he2 : _ = some _ := he; have := Ow.lt how he2; first | omega | (have := own_base (by assumption) hi; omega)) | (intro he; have he2 : _ = _ := he; have := own_base (by assumption) hi; omega) | (intro he; have he2 : _ = _ := he; rw [he2] at hi; exact absurd hi (by assumption)) | (intro he; have he2 : _ = some _ := he; exact absurd he2 (hsep _ hi)) | (intro he; first | exact absurd he (by assumption) | exact absurd he.symm (by assumption))) ?_)))))) (by exact strs_get z _ (by assumption))) ?_
          refine L_sbytes Try.underlying9 Try.underlying31 Try.underlying5 (by first | omega | (simp only [sb_size, ByteArray.size_append]; omega)) (.yes 6 false rfl rfl) rfl rfl (fun v61 w6 hv61 c6 eb6 hs6 => ?_)
          refine L_call (.yes 6 false rfl rfl) rfl rfl (r_call Try.func11 rfl rfl rfl (by rfl)) (put_in _ b 50 0 _ (bs z[i]) (sent (z.take i)) _ (NetAt.nw hNi (by (repeat (first | exact Ch.refl _ | assumption | (refine Ch.fresh ?_ (by assumption) (by intro i hi he; first | exact he | (exfalso; have he2 : _ = some i := he; have := own_base (by assumption) he2; omega) | (exfalso; have he2 : i = _ := he; omega) | (exfalso; have he2 : _ = some i := he; have := ow_base (by assumption) he2; omega) | (exfalso; have := he.1; omega))))))) (by omega) (by omega) (by (exact Sl.to (by first | assumption | exact Sl.own (by assumption) | exact Mu.sl (by assumption) | exact Ow.sl (by assumption)) (fun i hi => by (repeat (first | exact Sm.refl _ _ | (refine Sm.stepT (by assumption) (by intro hlt hsm; first | exact not_no | (intro he; have he2 : _ = some _ := he; have := own_base (by assumption) he2; omega) | (intro he; have he2 : _ = _ := he; omega) | (intro he; have he2 : _ = some _ := he; have := ow_base (by assumption) he2; omega) | (intro he; have := he.1; omega) | exact bk_not (by assumption) hsm rfl | (refine own_not ?_ hi hsm rfl <;> assumption) | (refine ow_not ?_ hi hsm rfl <;> assumption) | (intro he; have he2 : _ = some _ := he; have := Ow.lt (by assumption) he2; omega) | (intro he; have he2 : _ = some _ := he; have := Ow.lt (by assumption) he2; have := own_base (by assumption) hi; omega) | (intro he; have he2 : _ = some _ := he; have := Ow.lt how he2; first | omega | (have := own_base (by assumption) hi; omega)) | (intro he; have he2 : _ = _ := he; have := own_base (by assumption) hi; omega) | (intro he; have he2 : _ = _ := he; rw [he2] at hi; exact absurd hi (by assumption)) | (intro he; have he2 : _ = some _ := he; exact absurd he2 (hsep _ hi)) | (intro he; first | exact absurd he (by assumption) | exact absurd he.symm (by assumption))) ?_)))))) (by rw [bs_length]; omega) (by omega)) ?_
          rintro v62 w7 ⟨rfl, hN', c7⟩
          have hz7 := c7.size
          refine L_run (.yes 6 false rfl rfl) rfl rfl (r_not rfl) ?_
          refine L_as (v := .bool _) (v' := .bool false) 63 rfl (congrArg Value.bool (by rfl)) ?_
          refine L_run (.plain rfl) rfl rfl (r_pick_f (v := .bool _) rfl rfl) ?_
          refine L_nil ?_
          refine W_false rfl ?_
          refine W_skip ?_
          refine W_region ?_
          refine L_run (.plain rfl) rfl rfl (r_move (v := .int _ _) rfl) ?_
          refine L_run (.plain rfl) rfl rfl (r_add rfl rfl (by first | exact wr_i64 (by omega) | rfl)) ?_
          refine L_run (.plain rfl) rfl rfl (r_assign (v := .int _ _) rfl) ?_
          refine L_nil ?_
          refine ⟨⟨rfl, rfl, rfl, rfl, trivial⟩, _, ?_, i + 1, rfl, ?_, rfl⟩
          · omega
          exact ⟨by omega, by rw [sent_succ z i hlt]; exact NetAt.nw hN' (by (repeat (first | exact Ch.refl _ | assumption | (refine Ch.fresh ?_ (by assumption) (by intro i hi he; first | exact he | (exfalso; have he2 : _ = some i := he; have := own_base (by assumption) he2; omega) | (exfalso; have he2 : i = _ := he; omega) | (exfalso; have he2 : _ = some i := he; have := ow_base (by assumption) he2; omega) | (exfalso; have := he.1; omega)))))), by (repeat (first | exact Ch.refl _ | assumption | (refine Ch.fresh ?_ (by assumption) (by intro i hi he; first | exact he | (exfalso; have he2 : _ = some i := he; have := own_base (by assumption) he2; omega) | (exfalso; have he2 : i = _ := he; omega) | (exfalso; have he2 : _ = some i := he; have := ow_base (by assumption) he2; omega) | (exfalso; have := he.1; omega)))))⟩
      · obtain rfl : i = z.length := by omega
        rw [List.take_length] at hNi hsl
        refine W_exit ?_
        repeat (first | refine blk_hit ?_ | refine blk_miss rfl ?_)
        refine W_cutF [0, 2, 7] (fun f W => ∃ (k : Nat), f 10 = .int .i64 k ∧ (k < z.length ∧ W = w5)) ?_ ?_
        · refine W_region ?_
          refine L_run (.plain rfl) rfl rfl (r_move (v := .int _ _) rfl) ?_
          refine L_run (.plain rfl) rfl rfl (r_conv Try.underlying5 Try.underlying3 rfl (by first | exact wr_i64 (by omega) | rfl)) ?_
          refine L_run (.plain rfl) rfl rfl (r_move (by conv => lhs; whnf)) ?_
          refine L_run (.plain rfl) rfl rfl (r_lenSl Try.underlying22 (by conv => lhs; whnf) (by (exact Sl.to (by first | assumption | exact Sl.own (by assumption) | exact Mu.sl (by assumption) | exact Ow.sl (by assumption)) (fun i hi => by (repeat (first | exact Sm.refl _ _ | (refine Sm.stepT (by assumption) (by intro hlt hsm; first | exact not_no | (intro he; have he2 : _ = some _ := he; have := own_base (by assumption) he2; omega) | (intro he; have he2 : _ = _ := he; omega) | (intro he; have he2 : _ = some _ := he; have := ow_base (by assumption) he2; omega) | (intro he; have := he.1; omega) | exact bk_not (by assumption) hsm rfl | (refine own_not ?_ hi hsm rfl <;> assumption) | (refine ow_not ?_ hi hsm rfl <;> assumption) | (intro he; have he2 : _ = some _ := he; have := Ow.lt (by assumption) he2; omega) | (intro he; have he2 : _ = some _ := he; have := Ow.lt (by assumption) he2; have := own_base (by assumption) hi; omega) | (intro he; have he2 : _ = some _ := he; have := Ow.lt how he2; first | omega | (have := own_base (by assumption) hi; omega)) | (intro he; have he2 : _ = _ := he; have := own_base (by assumption) hi; omega) | (intro he; have he2 : _ = _ := he; rw [he2] at hi; exact absurd hi (by assumption)) | (intro he; have he2 : _ = some _ := he; exact absurd he2 (hsep _ hi)) | (intro he; first | exact absurd he (by assumption) | exact absurd he.symm (by assumption))) ?_))))))) ?_
          refine L_run (.plain rfl) rfl rfl (r_remn rfl rfl (by omega) (by omega)) ?_
          refine L_run (.plain rfl) rfl rfl (r_assign (v := .int _ _) rfl) ?_
          refine L_nil ?_
          refine ⟨⟨rfl, rfl, rfl, trivial⟩, (a1 % (z.length : Int)).toNat, (by exact congrArg (Value.int .i64) (Int.toNat_of_nonneg (Int.emod_nonneg _ (by omega))).symm), ?_⟩
          refine ⟨?_, rfl⟩
          have := Int.emod_lt_of_pos a1 (b := (z.length : Int)) (by omega)
          omega
        rintro gcr9 w8 ⟨k, hf10, hCr9⟩
        refine W_as 10 hf10 rfl ?_
        clear hf10
        obtain ⟨hk, rfl⟩ := hCr9
        refine W_seq ?_
        refine W_seq ?_
        refine W_region ?_
        refine L_run (.plain rfl) rfl rfl (r_move (v := .bool _) rfl) ?_
        refine L_run (.plain rfl) rfl rfl (r_move (v := .bool _) rfl) ?_
        refine L_as (v := .bool _) (v' := .bool false) 77 rfl (congrArg Value.bool (by rfl)) ?_
        refine L_pass rfl rfl rfl rfl rfl ?_
        refine L_pass rfl rfl rfl rfl rfl ?_
        refine L_pass rfl rfl rfl rfl rfl ?_
        refine L_pass rfl rfl rfl rfl rfl ?_
        refine L_run (.plain rfl) rfl rfl (r_pick_f (v := .bool _) rfl rfl) ?_
        refine L_nil ?_
        refine W_false rfl ?_
        refine W_skip ?_
        refine W_seq ?_
        refine W_seq ?_
        refine W_region ?_
        refine L_run (.plain rfl) rfl rfl (r_move (v := .bool _) rfl) ?_
        refine L_run (.plain rfl) rfl rfl (r_not rfl) ?_
        refine L_as (v := .bool _) (v' := .bool true) 84 rfl (congrArg Value.bool (by rfl)) ?_
        refine L_nil ?_
        refine W_true rfl ?_
        refine W_seq ?_
        refine W_region ?_
        refine L_run (.plain rfl) rfl rfl (r_move (v := .pointer _) rfl) ?_
        refine L_run (.plain rfl) rfl rfl (r_move (v := .int _ _) rfl) ?_
        refine L_call (.plain rfl) rfl rfl (r_call Try.func12 rfl rfl rfl (by rfl)) (take_in _ b k 50 (sent z) _ (NetAt.nw hNi (by (repeat (first | exact Ch.refl _ | assumption | (refine Ch.fresh ?_ (by assumption) (by intro i hi he; first | exact he | (exfalso; have he2 : _ = some i := he; have := own_base (by assumption) he2; omega) | (exfalso; have he2 : i = _ := he; omega) | (exfalso; have he2 : _ = some i := he; have := ow_base (by assumption) he2; omega) | (exfalso; have := he.1; omega))))))) (by omega) (by omega) (by omega)) ?_
        rintro v88 w9 ⟨u0, rfl, hu0, hN1, c9⟩
        have hz9 := c9.size
        have hx0 := hu0.1
        have hsk : ((sent z)[k]'(by omega)).2 = bs z[k] := by simp [sent]
        rw [hsk] at hx0
        refine L_run (.plain rfl) rfl rfl (r_move (by conv => lhs; whnf)) ?_
        refine L_run (.plain rfl) rfl rfl (r_ext3_0 rfl) ?_
        refine L_run (.plain rfl) rfl rfl (r_ext3_1 rfl) ?_
        refine L_run (.plain rfl) rfl rfl (r_ext3_2 rfl) ?_
        refine L_run (.plain rfl) rfl rfl (r_assign (v := .int _ _) rfl) ?_
        refine L_run (.plain rfl) rfl rfl (r_assign (by conv => lhs; whnf)) ?_
        refine L_run (.plain rfl) rfl rfl (r_assign (v := .bool _) rfl) ?_
        refine L_nil ?_
        refine W_seq ?_
        refine W_still (by kernel_rfl) (by kernel_rfl) (fun w10 c10 hs10 => ?_)
        refine H_run (.plain rfl) rfl rfl (r_move (v := .bool _) rfl) ?_
        refine H_run (.plain rfl) rfl rfl (r_not rfl) ?_
        refine H_run (.plain rfl) rfl rfl (r_move (v := .bool _) rfl) ?_
        refine H_as (v := .bool _) (v' := .bool false) 94 rfl (congrArg Value.bool (by rfl)) ?_
        refine H_run (.yes 2 false rfl rfl) rfl rfl (r_move (by conv => lhs; whnf)) ?_
        refine H_run (.yes 2 false rfl rfl) rfl rfl (r_bstr Try.underlying31 Try.underlying5 Try.underlying9 (by conv => lhs; whnf) (by (exact Sl.to (by first | assumption | exact Sl.own (by assumption) | exact Mu.sl (by assumption) | exact Ow.sl (by assumption)) (fun i hi => by (repeat (first | exact Sm.refl _ _ | (refine Sm.stepT (by assumption) (by intro hlt hsm; first | exact not_no | (intro he; have he2 : _ = some _ := he; have := own_base (by assumption) he2; omega) | (intro he; have he2 : _ = _ := he; omega) | (intro he; have he2 : _ = some _ := he; have := ow_base (by assumption) he2; omega) | (intro he; have := he.1; omega) | exact bk_not (by assumption) hsm rfl | (refine own_not ?_ hi hsm rfl <;> assumption) | (refine ow_not ?_ hi hsm rfl <;> assumption) | (intro he; have he2 : _ = some _ := he; have := Ow.lt (by assumption) he2; omega) | (intro he; have he2 : _ = some _ := he; have := Ow.lt (by assumption) he2; have := own_base (by assumption) hi; omega) | (intro he; have he2 : _ = some _ := he; have := Ow.lt how he2; first | omega | (have := own_base (by assumption) hi; omega)) | (intro he; have he2 : _ = _ := he; have := own_base (by assumption) hi; omega) | (intro he; have he2 : _ = _ := he; rw [he2] at hi; exact absurd hi (by assumption)) | (intro he; have he2 : _ = some _ := he; exact absurd he2 (hsep _ hi)) | (intro he; first | exact absurd he (by assumption) | exact absurd he.symm (by assumption))) ?_))))))) ?_
        refine H_run (.yes 2 false rfl rfl) rfl rfl (r_move (by conv => lhs; whnf)) ?_
        refine H_run (.yes 2 false rfl rfl) rfl rfl (r_move (v := .int _ _) rfl) ?_
        refine H_run (.yes 2 false rfl rfl) rfl rfl (r_idxSl Try.underlying22 (show _ = some 1 from rfl) (by conv => lhs; whnf) rfl (by (exact Sl.to (by first | assumption | exact Sl.own (by assumption) | exact Mu.sl (by assumption) | exact Ow.sl (by assumption)) (fun i hi => by (repeat (first | exact Sm.refl _ _ | (refine Sm.stepT (by assumption) (by intro hlt hsm; first | exact not_no | (intro he; have he2 : _ = some _ := he; have := own_base (by assumption) he2; omega) | (intro he; have he2 : _ = _ := he; omega) | (intro he; have he2 : _ = some _ := he; have := ow_base (by assumption) he2; omega) | (intro he; have := he.1; omega) | exact bk_not (by assumption) hsm rfl | (refine own_not ?_ hi hsm rfl <;> assumption) | (refine ow_not ?_ hi hsm rfl <;> assumption) | (intro he; have he2 : _ = some _ := he; have := Ow.lt (by assumption) he2; omega) | (intro he; have he2 : _ = some _ := he; have := Ow.lt (by assumption) he2; have := own_base (by assumption) hi; omega) | (intro he; have he2 : _ = some _ := he; have := Ow.lt how he2; first | omega | (have := own_base (by assumption) hi; omega)) | (intro he; have he2 : _ = _ := he; have := own_base (by assumption) hi; omega) | (intro he; have he2 : _ = _ := he; rw [he2] at hi; exact absurd hi (by assumption)) | (intro he; have he2 : _ = some _ := he; exact absurd he2 (hsep _ hi)) | (intro he; first | exact absurd he (by assumption) | exact absurd he.symm (by assumption))) ?_)))))) (by omega) (by omega) (by conv => lhs; (try simp only [Nat.mul_one, Nat.zero_add, Int.toNat_natCast, Int.toNat_zero, Int.reduceToNat, Nat.reduceMul, Nat.reduceAdd]))) ?_
        refine H_run (.yes 2 false rfl rfl) rfl rfl (r_loadSl rfl rfl (by (exact Sl.to (by first | assumption | exact Sl.own (by assumption) | exact Mu.sl (by assumption) | exact Ow.sl (by assumption)) (fun i hi => by (repeat (first | exact Sm.refl _ _ | (refine Sm.stepT (by assumption) (by intro hlt hsm; first | exact not_no | (intro he; have he2 : _ = some _ := he; have := own_base (by assumption) he2; omega) | (intro he; have he2 : _ = _ := he; omega) | (intro he; have he2 : _ = some _ := he; have := ow_base (by assumption) he2; omega) | (intro he; have := he.1; omega) | exact bk_not (by assumption) hsm rfl | (refine own_not ?_ hi hsm rfl <;> assumption) | (refine ow_not ?_ hi hsm rfl <;> assumption) | (intro he; have he2 : _ = some _ := he; have := Ow.lt (by assumption) he2; omega) | (intro he; have he2 : _ = some _ := he; have := Ow.lt (by assumption) he2; have := own_base (by assumption) hi; omega) | (intro he; have he2 : _ = some _ := he; have := Ow.lt how he2; first | omega | (have := own_base (by assumption) hi; omega)) | (intro he; have he2 : _ = _ := he; have := own_base (by assumption) hi; omega) | (intro he; have he2 : _ = _ := he; rw [he2] at hi; exact absurd hi (by assumption)) | (intro he; have he2 : _ = some _ := he; exact absurd he2 (hsep _ hi)) | (intro he; first | exact absurd he (by assumption) | exact absurd he.symm (by assumption))) ?_)))))) (by exact strs_get z _ (by assumption))) ?_
        refine H_run (.yes 2 false rfl rfl) rfl rfl (r_neqs rfl rfl) ?_
        refine H_as (v := .bool _) (v' := .bool false) 101 rfl (dec_f (by exact fun h => h (sb_bs _))).symm ?_
        refine H_run (.plain rfl) rfl rfl (r_pick_f (v := .bool _) rfl rfl) ?_
        refine H_nil ?_
        refine W_false rfl ?_
        refine W_skip ?_
        refine W_seq ?_
        refine W_seq ?_
        refine W_region ?_
        refine L_run (.plain rfl) rfl rfl (r_assign (v := .int _ _) rfl) ?_
        refine L_nil ?_
        refine W_block ?_
        refine W_loopF [0, 7, 10] (fun m f W => ∃ (j : Nat), f 14 = .int .i64 j ∧ (j ≤ z.length ∧ NetAt w0.heap.size W b 50 (left z k j) ∧ Nw w0 W) ∧ m = z.length - j) ?_ ?_
        · refine ⟨_, 0, rfl, ?_, rfl⟩
          exact ⟨by omega, NetAt.nw hN1 (by (repeat (first | exact Ch.refl _ | assumption | (refine Ch.fresh ?_ (by assumption) (by intro i hi he; first | exact he | (exfalso; have he2 : _ = some i := he; have := own_base (by assumption) he2; omega) | (exfalso; have he2 : i = _ := he; omega) | (exfalso; have he2 : _ = some i := he; have := ow_base (by assumption) he2; omega) | (exfalso; have := he.1; omega)))))), by (repeat (first | exact Ch.refl _ | assumption | (refine Ch.fresh ?_ (by assumption) (by intro i hi he; first | exact he | (exfalso; have he2 : _ = some i := he; have := own_base (by assumption) he2; omega) | (exfalso; have he2 : i = _ := he; omega) | (exfalso; have he2 : _ = some i := he; have := ow_base (by assumption) he2; omega) | (exfalso; have := he.1; omega)))))⟩
        rintro m1 g1 w11 ⟨j, hf14, hR1, rfl⟩
        refine W_as 14 hf14 rfl ?_
        clear hf14
        obtain ⟨hj, hNj, hnw2⟩ := hR1
        have hz2 := hnw2.size
        refine W_seq ?_
        refine W_seq ?_
        refine W_region ?_
        refine L_run (.plain rfl) rfl rfl (r_move (v := .int _ _) rfl) ?_
        refine L_run (.plain rfl) rfl rfl (r_move (by conv => lhs; whnf)) ?_
        refine L_run (.plain rfl) rfl rfl (r_lenSl Try.underlying22 (by conv => lhs; whnf) (by (exact Sl.to (by first | assumption | exact Sl.own (by assumption) | exact Mu.sl (by assumption) | exact Ow.sl (by assumption)) (fun i hi => by (repeat (first | exact Sm.refl _ _ | (refine Sm.stepT (by assumption) (by intro hlt hsm; first | exact not_no | (intro he; have he2 : _ = some _ := he; have := own_base (by assumption) he2; omega) | (intro he; have he2 : _ = _ := he; omega) | (intro he; have he2 : _ = some _ := he; have := ow_base (by assumption) he2; omega) | (intro he; have := he.1; omega) | exact bk_not (by assumption) hsm rfl | (refine own_not ?_ hi hsm rfl <;> assumption) | (refine ow_not ?_ hi hsm rfl <;> assumption) | (intro he; have he2 : _ = some _ := he; have := Ow.lt (by assumption) he2; omega) | (intro he; have he2 : _ = some _ := he; have := Ow.lt (by assumption) he2; have := own_base (by assumption) hi; omega) | (intro he; have he2 : _ = some _ := he; have := Ow.lt how he2; first | omega | (have := own_base (by assumption) hi; omega)) | (intro he; have he2 : _ = _ := he; have := own_base (by assumption) hi; omega) | (intro he; have he2 : _ = _ := he; rw [he2] at hi; exact absurd hi (by assumption)) | (intro he; have he2 : _ = some _ := he; exact absurd he2 (hsep _ hi)) | (intro he; first | exact absurd he (by assumption) | exact absurd he.symm (by assumption))) ?_))))))) ?_
        refine L_run (.plain rfl) rfl rfl (r_lss rfl rfl) ?_
        refine L_nil ?_
        refine W_if rfl (fun h106 => ?_) (fun h106 => ?_)
        · have hlt : j < z.length := by omega
          refine W_skip ?_
          refine W_seq ?_
          refine W_block ?_
          refine W_seq ?_
          refine W_seq ?_
          refine W_region ?_
          refine L_run (.plain rfl) rfl rfl (r_move (v := .int _ _) rfl) ?_
          refine L_run (.plain rfl) rfl rfl (r_move (v := .int _ _) rfl) ?_
          refine L_run (.plain rfl) rfl rfl (r_eql rfl rfl) ?_
          refine L_nil ?_
          refine W_if rfl (fun h111 => ?_) (fun h111 => ?_)
          · refine W_exit ?_
            repeat (first | refine blk_hit ?_ | refine blk_miss rfl ?_)
            refine W_region ?_
            refine L_run (.plain rfl) rfl rfl (r_move (v := .int _ _) rfl) ?_
            refine L_run (.plain rfl) rfl rfl (r_add rfl rfl (by first | exact wr_i64 (by omega) | rfl)) ?_
            refine L_run (.plain rfl) rfl rfl (r_assign (v := .int _ _) rfl) ?_
            refine L_nil ?_
            refine ⟨⟨rfl, rfl, rfl, trivial⟩, _, ?_, j + 1, rfl, ?_, rfl⟩
            · omega
            first
              | exact ⟨by omega, by rw [← left_next z k j hne]; exact NetAt.nw hN2 (by (repeat (first | exact Ch.refl _ | assumption | (refine Ch.fresh ?_ (by assumption) (by intro i hi he; first | exact he | (exfalso; have he2 : _ = some i := he; have := own_base (by assumption) he2; omega) | (exfalso; have he2 : i = _ := he; omega) | (exfalso; have he2 : _ = some i := he; have := ow_base (by assumption) he2; omega) | (exfalso; have := he.1; omega)))))), by (repeat (first | exact Ch.refl _ | assumption | (refine Ch.fresh ?_ (by assumption) (by intro i hi he; first | exact he | (exfalso; have he2 : _ = some i := he; have := own_base (by assumption) he2; omega) | (exfalso; have he2 : i = _ := he; omega) | (exfalso; have he2 : _ = some i := he; have := ow_base (by assumption) he2; omega) | (exfalso; have := he.1; omega)))))⟩
              | (obtain rfl : j = k := by omega
                 exact ⟨by omega, by rw [← left_skip]; exact NetAt.nw hNj (by (repeat (first | exact Ch.refl _ | assumption | (refine Ch.fresh ?_ (by assumption) (by intro i hi he; first | exact he | (exfalso; have he2 : _ = some i := he; have := own_base (by assumption) he2; omega) | (exfalso; have he2 : i = _ := he; omega) | (exfalso; have he2 : _ = some i := he; have := ow_base (by assumption) he2; omega) | (exfalso; have := he.1; omega)))))), by (repeat (first | exact Ch.refl _ | assumption | (refine Ch.fresh ?_ (by assumption) (by intro i hi he; first | exact he | (exfalso; have he2 : _ = some i := he; have := own_base (by assumption) he2; omega) | (exfalso; have he2 : i = _ := he; omega) | (exfalso; have he2 : _ = some i := he; have := ow_base (by assumption) he2; omega) | (exfalso; have := he.1; omega)))))⟩)
          · have hne : j ≠ k := by omega
            have hpos : 0 < (left z k j).length := by rw [left_length z k _ hk]; split <;> omega
            have hll : (left z k j).length ≤ 1024 := by rw [left_length z k _ hk]; omega
            have hlg := left_get z k j hk hlt hne hpos
            refine W_skip ?_
            refine W_seq ?_
            refine W_region ?_
            refine L_run (.plain rfl) rfl rfl (r_move (v := .pointer _) rfl) ?_
            refine L_call (.plain rfl) rfl rfl (r_call Try.func12 rfl rfl rfl (by rfl)) (take_in _ b 0 50 (left z k j) _ (NetAt.nw hNj (by (repeat (first | exact Ch.refl _ | assumption | (refine Ch.fresh ?_ (by assumption) (by intro i hi he; first | exact he | (exfalso; have he2 : _ = some i := he; have := own_base (by assumption) he2; omega) | (exfalso; have he2 : i = _ := he; omega) | (exfalso; have he2 : _ = some i := he; have := ow_base (by assumption) he2; omega) | (exfalso; have := he.1; omega))))))) hpos hll (by omega)) ?_
            rintro v114 w12 ⟨u, rfl, hu, hN2, c12⟩
            have hz12 := c12.size
            rw [hlg.2] at hu
            have hx := hu.1
            refine L_run (.plain rfl) rfl rfl (r_move (by conv => lhs; whnf)) ?_
            refine L_run (.plain rfl) rfl rfl (r_ext3_0 rfl) ?_
            refine L_run (.plain rfl) rfl rfl (r_ext3_1 rfl) ?_
            refine L_run (.plain rfl) rfl rfl (r_ext3_2 rfl) ?_
            refine L_run (.plain rfl) rfl rfl (r_assign (v := .int _ _) rfl) ?_
            refine L_run (.plain rfl) rfl rfl (r_assign (by conv => lhs; whnf)) ?_
            refine L_run (.plain rfl) rfl rfl (r_assign (v := .bool _) rfl) ?_
            refine L_nil ?_
            refine W_seq ?_
            refine W_still (by kernel_rfl) (by kernel_rfl) (fun w13 c13 hs13 => ?_)
            refine H_run (.plain rfl) rfl rfl (r_move (v := .bool _) rfl) ?_
            refine H_run (.plain rfl) rfl rfl (r_not rfl) ?_
            refine H_run (.plain rfl) rfl rfl (r_move (v := .bool _) rfl) ?_
            refine H_as (v := .bool _) (v' := .bool false) 120 rfl (congrArg Value.bool (by rfl)) ?_
            refine H_run (.yes 2 false rfl rfl) rfl rfl (r_move (by conv => lhs; whnf)) ?_
            refine H_run (.yes 2 false rfl rfl) rfl rfl (r_bstr Try.underlying31 Try.underlying5 Try.underlying9 (by conv => lhs; whnf) (by (exact Sl.to (by first | assumption | exact Sl.own (by assumption) | exact Mu.sl (by assumption) | exact Ow.sl (by assumption)) (fun i hi => by (repeat (first | exact Sm.refl _ _ | (refine Sm.stepT (by assumption) (by intro hlt hsm; first | exact not_no | (intro he; have he2 : _ = some _ := he; have := own_base (by assumption) he2; omega) | (intro he; have he2 : _ = _ := he; omega) | (intro he; have he2 : _ = some _ := he; have := ow_base (by assumption) he2; omega) | (intro he; have := he.1; omega) | exact bk_not (by assumption) hsm rfl | (refine own_not ?_ hi hsm rfl <;> assumption) | (refine ow_not ?_ hi hsm rfl <;> assumption) | (intro he; have he2 : _ = some _ := he; have := Ow.lt (by assumption) he2; omega) | (intro he; have he2 : _ = some _ := he; have := Ow.lt (by assumption) he2; have := own_base (by assumption) hi; omega) | (intro he; have he2 : _ = some _ := he; have := Ow.lt how he2; first | omega | (have := own_base (by assumption) hi; omega)) | (intro he; have he2 : _ = _ := he; have := own_base (by assumption) hi; omega) | (intro he; have he2 : _ = _ := he; rw [he2] at hi; exact absurd hi (by assumption)) | (intro he; have he2 : _ = some _ := he; exact absurd he2 (hsep _ hi)) | (intro he; first | exact absurd he (by assumption) | exact absurd he.symm (by assumption))) ?_))))))) ?_
            refine H_run (.yes 2 false rfl rfl) rfl rfl (r_move (by conv => lhs; whnf)) ?_
            refine H_run (.yes 2 false rfl rfl) rfl rfl (r_move (v := .int _ _) rfl) ?_
            refine H_run (.yes 2 false rfl rfl) rfl rfl (r_idxSl Try.underlying22 (show _ = some 1 from rfl) (by conv => lhs; whnf) rfl (by (exact Sl.to (by first | assumption | exact Sl.own (by assumption) | exact Mu.sl (by assumption) | exact Ow.sl (by assumption)) (fun i hi => by (repeat (first | exact Sm.refl _ _ | (refine Sm.stepT (by assumption) (by intro hlt hsm; first | exact not_no | (intro he; have he2 : _ = some _ := he; have := own_base (by assumption) he2; omega) | (intro he; have he2 : _ = _ := he; omega) | (intro he; have he2 : _ = some _ := he; have := ow_base (by assumption) he2; omega) | (intro he; have := he.1; omega) | exact bk_not (by assumption) hsm rfl | (refine own_not ?_ hi hsm rfl <;> assumption) | (refine ow_not ?_ hi hsm rfl <;> assumption) | (intro he; have he2 : _ = some _ := he; have := Ow.lt (by assumption) he2; omega) | (intro he; have he2 : _ = some _ := he; have := Ow.lt (by assumption) he2; have := own_base (by assumption) hi; omega) | (intro he; have he2 : _ = some _ := he; have := Ow.lt how he2; first | omega | (have := own_base (by assumption) hi; omega)) | (intro he; have he2 : _ = _ := he; have := own_base (by assumption) hi; omega) | (intro he; have he2 : _ = _ := he; rw [he2] at hi; exact absurd hi (by assumption)) | (intro he; have he2 : _ = some _ := he; exact absurd he2 (hsep _ hi)) | (intro he; first | exact absurd he (by assumption) | exact absurd he.symm (by assumption))) ?_)))))) (by omega) (by omega) (by conv => lhs; (try simp only [Nat.mul_one, Nat.zero_add, Int.toNat_natCast, Int.toNat_zero, Int.reduceToNat, Nat.reduceMul, Nat.reduceAdd]))) ?_
            refine H_run (.yes 2 false rfl rfl) rfl rfl (r_loadSl rfl rfl (by (exact Sl.to (by first | assumption | exact Sl.own (by assumption) | exact Mu.sl (by assumption) | exact Ow.sl (by assumption)) (fun i hi => by (repeat (first | exact Sm.refl _ _ | (refine Sm.stepT (by assumption) (by intro hlt hsm; first | exact not_no | (intro he; have he2 : _ = some _ := he; have := own_base (by assumption) he2; omega) | (intro he; have he2 : _ = _ := he; omega) | (intro he; have he2 : _ = some _ := he; have := ow_base (by assumption) he2; omega) | (intro he; have := he.1; omega) | exact bk_not (by assumption) hsm rfl | (refine own_not ?_ hi hsm rfl <;> assumption) | (refine ow_not ?_ hi hsm rfl <;> assumption) | (intro he; have he2 : _ = some _ := he; have := Ow.lt (by assumption) he2; omega) | (intro he; have he2 : _ = some _ := he; have := Ow.lt (by assumption) he2; have := own_base (by assumption) hi; omega) | (intro he; have he2 : _ = some _ := he; have := Ow.lt how he2; first | omega | (have := own_base (by assumption) hi; omega)) | (intro he; have he2 : _ = _ := he; have := own_base (by assumption) hi; omega) | (intro he; have he2 : _ = _ := he; rw [he2] at hi; exact absurd hi (by assumption)) | (intro he; have he2 : _ = some _ := he; exact absurd he2 (hsep _ hi)) | (intro he; first | exact absurd he (by assumption) | exact absurd he.symm (by assumption))) ?_)))))) (by exact strs_get z _ (by assumption))) ?_
            refine H_run (.yes 2 false rfl rfl) rfl rfl (r_neqs rfl rfl) ?_
            refine H_as (v := .bool _) (v' := .bool false) 127 rfl (dec_f (by exact fun h => h (sb_bs _))).symm ?_
            refine H_run (.plain rfl) rfl rfl (r_pick_f (v := .bool _) rfl rfl) ?_
            refine H_nil ?_
            refine W_false rfl ?_
            refine W_skip ?_
            refine W_region ?_
            refine L_run (.plain rfl) rfl rfl (r_move (v := .int _ _) rfl) ?_
            refine L_run (.plain rfl) rfl rfl (r_add rfl rfl (by first | exact wr_i64 (by omega) | rfl)) ?_
            refine L_run (.plain rfl) rfl rfl (r_assign (v := .int _ _) rfl) ?_
            refine L_nil ?_
            refine ⟨⟨rfl, rfl, rfl, trivial⟩, _, ?_, j + 1, rfl, ?_, rfl⟩
            · omega
            first
              | exact ⟨by omega, by rw [← left_next z k j hne]; exact NetAt.nw hN2 (by (repeat (first | exact Ch.refl _ | assumption | (refine Ch.fresh ?_ (by assumption) (by intro i hi he; first | exact he | (exfalso; have he2 : _ = some i := he; have := own_base (by assumption) he2; omega) | (exfalso; have he2 : i = _ := he; omega) | (exfalso; have he2 : _ = some i := he; have := ow_base (by assumption) he2; omega) | (exfalso; have := he.1; omega)))))), by (repeat (first | exact Ch.refl _ | assumption | (refine Ch.fresh ?_ (by assumption) (by intro i hi he; first | exact he | (exfalso; have he2 : _ = some i := he; have := own_base (by assumption) he2; omega) | (exfalso; have he2 : i = _ := he; omega) | (exfalso; have he2 : _ = some i := he; have := ow_base (by assumption) he2; omega) | (exfalso; have := he.1; omega)))))⟩
              | (obtain rfl : j = k := by omega
                 exact ⟨by omega, by rw [← left_skip]; exact NetAt.nw hNj (by (repeat (first | exact Ch.refl _ | assumption | (refine Ch.fresh ?_ (by assumption) (by intro i hi he; first | exact he | (exfalso; have he2 : _ = some i := he; have := own_base (by assumption) he2; omega) | (exfalso; have he2 : i = _ := he; omega) | (exfalso; have he2 : _ = some i := he; have := ow_base (by assumption) he2; omega) | (exfalso; have := he.1; omega)))))), by (repeat (first | exact Ch.refl _ | assumption | (refine Ch.fresh ?_ (by assumption) (by intro i hi he; first | exact he | (exfalso; have he2 : _ = some i := he; have := own_base (by assumption) he2; omega) | (exfalso; have he2 : i = _ := he; omega) | (exfalso; have he2 : _ = some i := he; have := ow_base (by assumption) he2; omega) | (exfalso; have := he.1; omega)))))⟩)
        · obtain rfl : j = z.length := by omega
          have hend : (left z k z.length).length = 0 := by rw [left_length z k _ hk]; split <;> omega
          refine W_exit ?_
          repeat (first | refine blk_hit ?_ | refine blk_miss rfl ?_)
          refine W_seq ?_
          refine W_region ?_
          refine L_run (.plain rfl) rfl rfl (r_move (v := .pointer _) rfl) ?_
          refine L_call (.plain rfl) rfl rfl (r_call Try.func14 rfl rfl rfl (by rfl)) (len_walk _ b 50 (left z k z.length) _ (NetAt.nw hNj (by (repeat (first | exact Ch.refl _ | assumption | (refine Ch.fresh ?_ (by assumption) (by intro i hi he; first | exact he | (exfalso; have he2 : _ = some i := he; have := own_base (by assumption) he2; omega) | (exfalso; have he2 : i = _ := he; omega) | (exfalso; have he2 : _ = some i := he; have := ow_base (by assumption) he2; omega) | (exfalso; have := he.1; omega)))))))) ?_
          rintro v130 w14 ⟨rfl, rfl⟩
          refine L_run (.plain rfl) rfl rfl (r_eql rfl rfl) ?_
          refine L_run (.plain rfl) rfl rfl (r_assign (v := .bool _) rfl) ?_
          refine L_nil ?_
          refine W_ret ?_
          refine ret1 (v := .bool _) rfl rfl ?_
          first
            | exact ⟨rfl, by (repeat (first | exact Ch.refl _ | assumption | (refine Ch.fresh ?_ (by assumption) (by intro i hi he; first | exact he | (exfalso; have he2 : _ = some i := he; have := own_base (by assumption) he2; omega) | (exfalso; have he2 : i = _ := he; omega) | (exfalso; have he2 : _ = some i := he; have := ow_base (by assumption) he2; omega) | (exfalso; have := he.1; omega)))))⟩
            | exact ⟨(dec_t (by omega)).symm, by (repeat (first | exact Ch.refl _ | assumption | (refine Ch.fresh ?_ (by assumption) (by intro i hi he; first | exact he | (exfalso; have he2 : _ = some i := he; have := own_base (by assumption) he2; omega) | (exfalso; have he2 : i = _ := he; omega) | (exfalso; have he2 : _ = some i := he; have := ow_base (by assumption) he2; omega) | (exfalso; have := he.1; omega)))))⟩
theorem NetGone_walk (v0 : Value) (z : List ByteArray) (a1 : Int) (a2 : Bool) (w0 : World) (y0 : Sl w0 v0 1 z.length (strs z)) (y1 : 0 ≤ a1 ∧ a1 ≤ 255) : Does Try.prog 4 #[v0, .int .u8 a1, .bool a2] w0 (fun r w' => r = .bool true ∧ Nw w0 w') := by
  cases a2 with
  | true => exact NetGone_t v0 z a1 w0 y0 y1
  | false => exact NetGone_f v0 z a1 w0 y0 y1
end Go.Proofs.Ytplkjhoadnjkmaa

