/- The chapter's example, walked. -/
import Derived.Test.YtikpcphlmlgojaaDoorPackE
namespace Go.Proofs.YtikpcphlmlgojaaDoor
open Go Go.RowKit
set_option linter.unusedVariables false
set_option linter.unusedSimpArgs false
theorem WrAt.lo {base : Nat} {w : World} {b : Nat} {A : List UInt8} (h : WrAt base w b A) : base ≤ b := by obtain ⟨_, _, h, _⟩ := h; exact h
theorem Tabs.mono {base base' : Nat} {w : World} (h : Tabs base w) (hb : base ≤ base') : Tabs base' w := ⟨h.tab, by have := h.lt3; omega, by have := h.lt4; omega⟩
section
variable {base b : Nat} {v : Value} {l : List UInt8} {a : Nat} {e : Int} {w : World}
theorem rdnum_to (hR : RdAt base w b v l a e) (hb : base ≤ w.heap.size) (x a' : Nat) (e' : Int) (hx : got (a, e) (numL 0 (l.drop a)).1 (numL 0 (l.drop a)).2.1 0 = x) (hn : nxt (a, e) (numL 0 (l.drop a)).1 (numL 0 (l.drop a)).2.2 = (a', e')) :
    Does Tryd.prog 28 #[.pointer (some ⟨b, 0, none⟩)] w fun r w' => r = .int .u64 (x : Int) ∧ RdAt base w' b v l a' e' ∧ Ch (fun j => j = b) w w' :=
  (rdnum_walk base b v l a e w hR hb).mono fun r w' ⟨h1, h2, h3⟩ => by
    rw [hx] at h1; rw [hn] at h2; exact ⟨h1, h2, h3⟩
theorem rdint_to (hR : RdAt base w b v l a e) (hb : base ≤ w.heap.size) (x : Int) (a' : Nat) (e' : Int) (hx : zagI (got (a, e) (numL 0 (l.drop a)).1 (numL 0 (l.drop a)).2.1 0 : Nat) = x) (hn : nxt (a, e) (numL 0 (l.drop a)).1 (numL 0 (l.drop a)).2.2 = (a', e')) :
    Does Tryd.prog 29 #[.pointer (some ⟨b, 0, none⟩)] w fun r w' => r = .int .i64 x ∧ RdAt base w' b v l a' e' ∧ Ch (fun j => j = b) w w' :=
  (rdint_walk base b v l a e w hR hb).mono fun r w' ⟨h1, h2, h3⟩ => by
    rw [hx] at h1; rw [hn] at h2; exact ⟨h1, h2, h3⟩
theorem rdflag_to (hR : RdAt base w b v l a e) (hb : base ≤ w.heap.size) (x : Bool) (a' : Nat) (e' : Int) (hx : got (a, e) (flagR (l.drop a)).1 (flagR (l.drop a)).2.1 false = x) (hn : nxt (a, e) (flagR (l.drop a)).1 (flagR (l.drop a)).2.2 = (a', e')) :
    Does Tryd.prog 30 #[.pointer (some ⟨b, 0, none⟩)] w fun r w' => r = .bool x ∧ RdAt base w' b v l a' e' ∧ Ch (fun j => j = b) w w' :=
  (rdflag_walk base b v l a e w hR hb).mono fun r w' ⟨h1, h2, h3⟩ => by
    rw [hx] at h1; rw [hn] at h2; exact ⟨h1, h2, h3⟩
theorem rdtext_to (hR : RdAt base w b v l a e) (hT : Tabs base w) (hb : base ≤ w.heap.size) (x : List UInt8) (a' : Nat) (e' : Int) (hx : got (a, e) (textR (l.drop a)).1 (textR (l.drop a)).2.1 [] = x) (hn : nxt (a, e) (textR (l.drop a)).1 (textR (l.drop a)).2.2 = (a', e')) :
    Does Tryd.prog 31 #[.pointer (some ⟨b, 0, none⟩)] w fun r w' => r = .string (sb x) ∧ RdAt base w' b v l a' e' ∧ Ch (fun j => j = b) w w' :=
  (rdtext_walk base b v l a e w hR hT hb).mono fun r w' ⟨h1, h2, h3⟩ => by
    rw [hx] at h1; rw [hn] at h2; exact ⟨h1, h2, h3⟩
end
theorem aw_int : ([] : List UInt8) ++ [(-3 : Int)].flatMap (fun n => varL (zigI n).toNat) = [5] := by
  show varL 5 ++ [] = [5]
  rw [varL_low (by decide)]; rfl
theorem aw_num : ([5] : List UInt8) ++ [300].flatMap varL = [5, 172, 2] := by
  show [5] ++ (varL 300 ++ []) = _
  rw [varL_high (by decide), varL_low (by decide)]; rfl
theorem aw_text : ([5, 172, 2] : List UInt8) ++ [(⟨#[195, 169]⟩ : ByteArray)].flatMap textL = [5, 172, 2, 2, 195, 169] := by
  show [5, 172, 2] ++ ((varL 2 ++ [195, 169]) ++ []) = _
  rw [varL_low (by decide)]; rfl
theorem aw_flag : ([5, 172, 2, 2, 195, 169] : List UInt8) ++ [true].flatMap flagL = [5, 172, 2, 2, 195, 169, 1] := rfl
theorem awake_walk (base : Nat) (w0 : World) (hT : Tabs base w0) (hb : base ≤ w0.heap.size) : Does Tryd.prog 11 #[] w0 (fun r w' => r = .bool true ∧ Nw w0 w') := by
  refine fn_of (n := 101) (args := []) Tryd.func11 rfl rfl rfl ?_
  refine W_seq ?_
  refine W_region ?_
  refine L_run (.plain rfl) rfl rfl (r_assign (v := .bool _) rfl) ?_
  refine L_nil ?_
  refine W_seq ?_
  refine W_region ?_
  refine L_call (.plain rfl) rfl rfl (r_call Tryd.func17 rfl rfl rfl (by rfl)) (write_walk _) ?_
  rintro v14 w1 ⟨b1, rfl, hW0, c1⟩
  have hz1 := c1.size
  have hlo0 := hW0.lo
  refine L_run (.plain rfl) rfl rfl (r_assign (v := .pointer _) rfl) ?_
  refine L_nil ?_
  refine W_seq ?_
  refine W_seq ?_
  refine W_region ?_
  refine L_run (.plain rfl) rfl rfl (r_move (v := .pointer _) rfl) ?_
  refine L_run (.plain rfl) rfl rfl (r_eqpnil Tryd.underlying32 rfl rfl) ?_
  refine L_as (v := .bool _) (v' := .bool false) 16 rfl (congrArg Value.bool (by simp)) ?_
  refine L_nil ?_
  refine W_false rfl ?_
  refine W_skip ?_
  refine W_seq ?_
  refine W_region ?_
  refine L_run (.plain rfl) rfl rfl (r_move (v := .pointer _) rfl) ?_
  refine L_build1o [.int _ _] Tryd.underlying68 rfl rfl rfl (.plain rfl) rfl (by rfl) (by rfl) (by rfl) (fun v18 w2 ho18 eb2 hs2 c2 => ?_)
  refine L_call (.plain rfl) rfl rfl (r_call Tryd.func19 rfl rfl rfl (by rfl)) (wint_walk _ _ b1 [] _ [-3] _ (hW0.nw (by (repeat (first | exact Ch.refl _ | assumption | (refine Ch.fresh ?_ (by assumption) (by intro i hi he; first | exact he | exact (not_no he).elim | exact Or.inl he | exact Or.inr (Or.inl he) | exact Or.inr (Or.inr he) | (exfalso; have he2 : _ = some i := he; have := own_base (by assumption) he2; omega) | (exfalso; have he2 : i = _ := he; omega) | (exfalso; have he2 : _ = some i := he; have := ow_base (by assumption) he2; omega) | (exfalso; have := he.1; omega) | (exfalso; have he2 : _ = some i := he; have := hlo _ he2; omega) | exact Or.inr he | (rcases he with he | he <;> (first | exact he | exact Or.inl he | exact Or.inr he | (exfalso; have he2 : i = _ := he; omega))))))))) (ow_lit ho18) (by decide) (by decide) (by omega)) ?_
  rintro v19 w3 ⟨rfl, hW1, c3⟩
  have hz3 := c3.size
  rw [aw_int] at hW1
  refine L_nil ?_
  refine W_seq ?_
  refine W_region ?_
  refine L_run (.plain rfl) rfl rfl (r_move (v := .pointer _) rfl) ?_
  refine L_build1o [.int _ _] Tryd.underlying55 rfl rfl rfl (.plain rfl) rfl (by rfl) (by rfl) (by rfl) (fun v21 w4 ho21 eb4 hs4 c4 => ?_)
  refine L_call (.plain rfl) rfl rfl (r_call Tryd.func18 rfl rfl rfl (by rfl)) (wnum_walk _ _ b1 [5] _ [300] _ (hW1.nw (by (repeat (first | exact Ch.refl _ | assumption | (refine Ch.fresh ?_ (by assumption) (by intro i hi he; first | exact he | exact (not_no he).elim | exact Or.inl he | exact Or.inr (Or.inl he) | exact Or.inr (Or.inr he) | (exfalso; have he2 : _ = some i := he; have := own_base (by assumption) he2; omega) | (exfalso; have he2 : i = _ := he; omega) | (exfalso; have he2 : _ = some i := he; have := ow_base (by assumption) he2; omega) | (exfalso; have := he.1; omega) | (exfalso; have he2 : _ = some i := he; have := hlo _ he2; omega) | exact Or.inr he | (rcases he with he | he <;> (first | exact he | exact Or.inl he | exact Or.inr he | (exfalso; have he2 : i = _ := he; omega))))))))) (ow_lit ho21) (by decide) (by decide) (by omega)) ?_
  rintro v22 w5 ⟨rfl, hW2, c5⟩
  have hz5 := c5.size
  rw [aw_num] at hW2
  refine L_nil ?_
  refine W_seq ?_
  refine W_region ?_
  refine L_run (.plain rfl) rfl rfl (r_move (v := .pointer _) rfl) ?_
  refine L_build1o [.string _] Tryd.underlying70 rfl rfl rfl (.plain rfl) rfl (by rfl) (by rfl) (by rfl) (fun v24 w6 ho24 eb6 hs6 c6 => ?_)
  refine L_call (.plain rfl) rfl rfl (r_call Tryd.func23 rfl rfl rfl (by rfl)) (wtext_walk _ _ b1 [5, 172, 2] _ [⟨#[195, 169]⟩] _ (hW2.nw (by (repeat (first | exact Ch.refl _ | assumption | (refine Ch.fresh ?_ (by assumption) (by intro i hi he; first | exact he | exact (not_no he).elim | exact Or.inl he | exact Or.inr (Or.inl he) | exact Or.inr (Or.inr he) | (exfalso; have he2 : _ = some i := he; have := own_base (by assumption) he2; omega) | (exfalso; have he2 : i = _ := he; omega) | (exfalso; have he2 : _ = some i := he; have := ow_base (by assumption) he2; omega) | (exfalso; have := he.1; omega) | (exfalso; have he2 : _ = some i := he; have := hlo _ he2; omega) | exact Or.inr he | (rcases he with he | he <;> (first | exact he | exact Or.inl he | exact Or.inr he | (exfalso; have he2 : i = _ := he; omega))))))))) (ow_lit ho24) (by decide) (by decide) (by decide) (by omega)) ?_
  rintro v25 w7 ⟨rfl, hW3, c7⟩
  have hz7 := c7.size
  rw [aw_text] at hW3
  refine L_nil ?_
  refine W_seq ?_
  refine W_region ?_
  refine L_run (.plain rfl) rfl rfl (r_move (v := .pointer _) rfl) ?_
  refine L_build1o [.bool _] Tryd.underlying69 rfl rfl rfl (.plain rfl) rfl (by rfl) (by rfl) (by rfl) (fun v27 w8 ho27 eb8 hs8 c8 => ?_)
  refine L_call (.plain rfl) rfl rfl (r_call Tryd.func21 rfl rfl rfl (by rfl)) (wflag_walk _ _ b1 [5, 172, 2, 2, 195, 169] _ [true] _ (hW3.nw (by (repeat (first | exact Ch.refl _ | assumption | (refine Ch.fresh ?_ (by assumption) (by intro i hi he; first | exact he | exact (not_no he).elim | exact Or.inl he | exact Or.inr (Or.inl he) | exact Or.inr (Or.inr he) | (exfalso; have he2 : _ = some i := he; have := own_base (by assumption) he2; omega) | (exfalso; have he2 : i = _ := he; omega) | (exfalso; have he2 : _ = some i := he; have := ow_base (by assumption) he2; omega) | (exfalso; have := he.1; omega) | (exfalso; have he2 : _ = some i := he; have := hlo _ he2; omega) | exact Or.inr he | (rcases he with he | he <;> (first | exact he | exact Or.inl he | exact Or.inr he | (exfalso; have he2 : i = _ := he; omega))))))))) (ow_lit ho27) (by decide) (by omega)) ?_
  rintro v28 w9 ⟨rfl, hW4, c9⟩
  have hz9 := c9.size
  rw [aw_flag] at hW4
  refine L_nil ?_
  refine W_seq ?_
  refine W_region ?_
  refine L_run (.plain rfl) rfl rfl (r_move (v := .pointer _) rfl) ?_
  refine L_call (.plain rfl) rfl rfl (r_call Tryd.func25 rfl rfl rfl (by rfl)) (bytes_walk _ b1 _ _ (hW4.nw (by (repeat (first | exact Ch.refl _ | assumption | (refine Ch.fresh ?_ (by assumption) (by intro i hi he; first | exact he | exact (not_no he).elim | exact Or.inl he | exact Or.inr (Or.inl he) | exact Or.inr (Or.inr he) | (exfalso; have he2 : _ = some i := he; have := own_base (by assumption) he2; omega) | (exfalso; have he2 : i = _ := he; omega) | (exfalso; have he2 : _ = some i := he; have := ow_base (by assumption) he2; omega) | (exfalso; have := he.1; omega) | (exfalso; have he2 : _ = some i := he; have := hlo _ he2; omega) | exact Or.inr he | (rcases he with he | he <;> (first | exact he | exact Or.inl he | exact Or.inr he | (exfalso; have he2 : i = _ := he; omega))))))))) (by decide)) ?_
  rintro v30 w10 ⟨v2, rfl, how, c10⟩
  have hz10 := c10.size
  refine L_run (.plain rfl) rfl rfl (r_assign (by conv => lhs; whnf)) ?_
  refine L_nil ?_
  refine W_seq ?_
  refine W_region ?_
  refine L_build1 [.int _ _, .int _ _] Tryd.underlying26 rfl rfl rfl (.plain rfl) rfl (by rfl) (by rfl) (by rfl) (fun b31 w11 hb31 hv31 eb11 hs11 c11 => ?_)
  refine L_call (.plain rfl) rfl rfl (r_call Tryd.func27 rfl rfl rfl (by rfl)) (read_walk _ [128, 0] _ (show Sl _ _ 1 2 ([128, 0].map b8) from hv31) (by decide)) ?_
  rintro v32 w12 ⟨b3, v3, rfl, hR3, c12⟩
  have hz12 := c12.size
  have hlo3 := hR3.hb
  refine L_run (.plain rfl) rfl rfl (r_assign (v := .pointer _) rfl) ?_
  refine L_nil ?_
  refine W_seq ?_
  refine W_seq ?_
  refine W_region ?_
  refine L_run (.plain rfl) rfl rfl (r_move (v := .pointer _) rfl) ?_
  refine L_run (.plain rfl) rfl rfl (r_eqpnil Tryd.underlying46 rfl rfl) ?_
  refine L_as (v := .bool _) (v' := .bool false) 34 rfl (congrArg Value.bool (by simp)) ?_
  refine L_run (.plain rfl) rfl rfl (r_move (v := .bool _) rfl) ?_
  refine L_run (.yes 2 false rfl rfl) rfl rfl (r_move (by conv => lhs; whnf)) ?_
  refine L_run (.yes 2 false rfl rfl) rfl rfl (r_bstr Tryd.underlying26 Tryd.underlying5 Tryd.underlying9 (by conv => lhs; whnf) (by (exact Sl.to (by first | assumption | exact Sl.own (by assumption) | exact Mu.sl (by assumption) | exact Ow.sl (by assumption)) (fun i hi => by (repeat (first | exact Sm.refl _ _ | (refine Sm.stepT (by assumption) (by intro hlt hsm; first | exact not_no | (intro he; have he2 : _ = some _ := he; have := own_base (by assumption) he2; omega) | (intro he; have he2 : _ = _ := he; omega) | (intro he; have he2 : _ = some _ := he; have := ow_base (by assumption) he2; omega) | (intro he; have := he.1; omega) | exact bk_not (by assumption) hsm rfl | exact mp_not (by assumption) hsm | exact bkm_not (by assumption) hsm rfl | exact ownm_not (by assumption) hi hsm rfl | exact owm_not (by assumption) hi hsm rfl | exact own_not (by assumption) hi hsm rfl | exact ow_not (by assumption) hi hsm rfl | (intro he; have he2 : _ = some _ := he; have := Ow.lt (by assumption) he2; omega) | (intro he; have he2 : _ = some _ := he; have := Ow.lt (by assumption) he2; have := own_base (by assumption) hi; omega) | (intro he; have he2 : _ = some _ := he; have := Ow.lt how he2; first | omega | (have := own_base (by assumption) hi; omega)) | (intro he; have he2 : _ = _ := he; have := Ow.lt how hi; omega) | (intro he; have he2 : _ = _ := he; have := own_base (by assumption) hi; omega) | (intro he; have he2 : _ = _ := he; have := ow_base (by assumption) hi; omega) | (intro he; have he2 : _ = _ := he; rw [he2] at hi; exact absurd hi (by assumption)) | (intro he; have he2 : _ = some _ := he; have h3 := own_lt (by assumption) he2; first | omega | (have h4 : _ = some _ := hi; simp [Value.ownBlock] at h4; omega)) | (intro he; have he2 : _ = some _ := he; have h3 := ow_base (by assumption) he2; have h4 : _ = some _ := hi; simp [Value.ownBlock] at h4; omega) | (intro he; have he2 : _ = some _ := he; exact absurd he2 (hsep _ hi)) | (intro he; have he2 : _ = _ := he; have := hlo _ hi; omega) | (intro he; have he2 : _ = some _ := he; have := hlo _ he2; omega) | (intro he; first | exact absurd he (by assumption) | exact absurd he.symm (by assumption)) | (intro he; have he2 : _ = _ ∨ _ = _ := he; omega)) ?_))))))) ?_
  refine L_run (.yes 2 false rfl rfl) rfl rfl (r_neqs rfl rfl) ?_
  refine L_as (v := .bool _) (v' := .bool false) 38 rfl (dec_f (by exact fun h => h rfl)).symm ?_
  refine L_run (.plain rfl) rfl rfl (r_pick_f (v := .bool _) rfl rfl) ?_
  refine L_nil ?_
  refine W_false rfl ?_
  refine W_skip ?_
  refine W_seq ?_
  refine W_region ?_
  refine L_run (.plain rfl) rfl rfl (r_move (v := .pointer _) rfl) ?_
  refine L_call (.plain rfl) rfl rfl (r_call Tryd.func28 rfl rfl rfl (by rfl)) (rdnum_to (hR3.nw (by (repeat (first | exact Ch.refl _ | assumption | (refine Ch.fresh ?_ (by assumption) (by intro i hi he; first | exact he | exact (not_no he).elim | exact Or.inl he | exact Or.inr (Or.inl he) | exact Or.inr (Or.inr he) | (exfalso; have he2 : _ = some i := he; have := own_base (by assumption) he2; omega) | (exfalso; have he2 : i = _ := he; omega) | (exfalso; have he2 : _ = some i := he; have := ow_base (by assumption) he2; omega) | (exfalso; have := he.1; omega) | (exfalso; have he2 : _ = some i := he; have := hlo _ he2; omega) | exact Or.inr he | (rcases he with he | he <;> (first | exact he | exact Or.inl he | exact Or.inr he | (exfalso; have he2 : i = _ := he; omega))))))))) (by omega) 0 0 11 rfl rfl) ?_
  rintro v41 w13 ⟨rfl, hR4, c13⟩
  have hz13 := c13.size
  refine L_run (.plain rfl) rfl rfl (r_assign (v := .int _ _) rfl) ?_
  refine L_nil ?_
  refine W_seq ?_
  refine W_region ?_
  refine L_run (.plain rfl) rfl rfl (r_move (v := .pointer _) rfl) ?_
  refine L_call (.plain rfl) rfl rfl (r_call Tryd.func36 rfl rfl rfl (by rfl)) (err_walk _ b3 _ _ _ _ _ (hR4.nw (by (repeat (first | exact Ch.refl _ | assumption | (refine Ch.fresh ?_ (by assumption) (by intro i hi he; first | exact he | exact (not_no he).elim | exact Or.inl he | exact Or.inr (Or.inl he) | exact Or.inr (Or.inr he) | (exfalso; have he2 : _ = some i := he; have := own_base (by assumption) he2; omega) | (exfalso; have he2 : i = _ := he; omega) | (exfalso; have he2 : _ = some i := he; have := ow_base (by assumption) he2; omega) | (exfalso; have := he.1; omega) | (exfalso; have he2 : _ = some i := he; have := hlo _ he2; omega) | exact Or.inr he | (rcases he with he | he <;> (first | exact he | exact Or.inl he | exact Or.inr he | (exfalso; have he2 : i = _ := he; omega)))))))))) ?_
  rintro v44 w14 ⟨rfl, c14⟩
  have hz14 := c14.size
  refine L_run (.plain rfl) rfl rfl (r_move (by conv => lhs; whnf)) ?_
  refine L_run (.plain rfl) rfl rfl (r_ext2_0 rfl) ?_
  refine L_run (.plain rfl) rfl rfl (r_ext2_1 rfl) ?_
  refine L_run (.plain rfl) rfl rfl (r_assign (v := .int _ _) rfl) ?_
  refine L_run (.plain rfl) rfl rfl (r_assign (v := .int _ _) rfl) ?_
  refine L_nil ?_
  refine W_seq ?_
  refine W_region ?_
  refine L_run (.plain rfl) rfl rfl (r_move (by conv => lhs; whnf)) ?_
  refine L_call (.plain rfl) rfl rfl (r_call Tryd.func27 rfl rfl rfl (by rfl)) (read_walk _ [5, 172, 2, 2, 195, 169, 1] _ (by (exact Sl.to (by first | assumption | exact Sl.own (by assumption) | exact Mu.sl (by assumption) | exact Ow.sl (by assumption)) (fun i hi => by (repeat (first | exact Sm.refl _ _ | (refine Sm.stepT (by assumption) (by intro hlt hsm; first | exact not_no | (intro he; have he2 : _ = some _ := he; have := own_base (by assumption) he2; omega) | (intro he; have he2 : _ = _ := he; omega) | (intro he; have he2 : _ = some _ := he; have := ow_base (by assumption) he2; omega) | (intro he; have := he.1; omega) | exact bk_not (by assumption) hsm rfl | exact mp_not (by assumption) hsm | exact bkm_not (by assumption) hsm rfl | exact ownm_not (by assumption) hi hsm rfl | exact owm_not (by assumption) hi hsm rfl | exact own_not (by assumption) hi hsm rfl | exact ow_not (by assumption) hi hsm rfl | (intro he; have he2 : _ = some _ := he; have := Ow.lt (by assumption) he2; omega) | (intro he; have he2 : _ = some _ := he; have := Ow.lt (by assumption) he2; have := own_base (by assumption) hi; omega) | (intro he; have he2 : _ = some _ := he; have := Ow.lt how he2; first | omega | (have := own_base (by assumption) hi; omega)) | (intro he; have he2 : _ = _ := he; have := Ow.lt how hi; omega) | (intro he; have he2 : _ = _ := he; have := own_base (by assumption) hi; omega) | (intro he; have he2 : _ = _ := he; have := ow_base (by assumption) hi; omega) | (intro he; have he2 : _ = _ := he; rw [he2] at hi; exact absurd hi (by assumption)) | (intro he; have he2 : _ = some _ := he; have h3 := own_lt (by assumption) he2; first | omega | (have h4 : _ = some _ := hi; simp [Value.ownBlock] at h4; omega)) | (intro he; have he2 : _ = some _ := he; have h3 := ow_base (by assumption) he2; have h4 : _ = some _ := hi; simp [Value.ownBlock] at h4; omega) | (intro he; have he2 : _ = some _ := he; exact absurd he2 (hsep _ hi)) | (intro he; have he2 : _ = _ := he; have := hlo _ hi; omega) | (intro he; have he2 : _ = some _ := he; have := hlo _ he2; omega) | (intro he; first | exact absurd he (by assumption) | exact absurd he.symm (by assumption)) | (intro he; have he2 : _ = _ ∨ _ = _ := he; omega)) ?_)))))) (by decide)) ?_
  rintro v48 w15 ⟨b7, v7, rfl, hR7, c15⟩
  have hz15 := c15.size
  have hlo7 := hR7.hb
  refine L_run (.plain rfl) rfl rfl (r_assign (v := .pointer _) rfl) ?_
  refine L_nil ?_
  refine W_seq ?_
  refine W_seq ?_
  refine W_region ?_
  refine L_run (.plain rfl) rfl rfl (r_move (v := .pointer _) rfl) ?_
  refine L_run (.plain rfl) rfl rfl (r_eqpnil Tryd.underlying46 rfl rfl) ?_
  refine L_as (v := .bool _) (v' := .bool false) 50 rfl (congrArg Value.bool (by simp)) ?_
  refine L_nil ?_
  refine W_false rfl ?_
  refine W_skip ?_
  refine W_seq ?_
  refine W_region ?_
  refine L_run (.plain rfl) rfl rfl (r_move (v := .pointer _) rfl) ?_
  refine L_call (.plain rfl) rfl rfl (r_call Tryd.func29 rfl rfl rfl (by rfl)) (rdint_to (hR7.nw (by (repeat (first | exact Ch.refl _ | assumption | (refine Ch.fresh ?_ (by assumption) (by intro i hi he; first | exact he | exact (not_no he).elim | exact Or.inl he | exact Or.inr (Or.inl he) | exact Or.inr (Or.inr he) | (exfalso; have he2 : _ = some i := he; have := own_base (by assumption) he2; omega) | (exfalso; have he2 : i = _ := he; omega) | (exfalso; have he2 : _ = some i := he; have := ow_base (by assumption) he2; omega) | (exfalso; have := he.1; omega) | (exfalso; have he2 : _ = some i := he; have := hlo _ he2; omega) | exact Or.inr he | (rcases he with he | he <;> (first | exact he | exact Or.inl he | exact Or.inr he | (exfalso; have he2 : i = _ := he; omega))))))))) (by omega) (-3) 1 0 rfl rfl) ?_
  rintro v52 w16 ⟨rfl, hR8, c16⟩
  have hz16 := c16.size
  refine L_run (.plain rfl) rfl rfl (r_move (v := .pointer _) rfl) ?_
  refine L_call (.plain rfl) rfl rfl (r_call Tryd.func28 rfl rfl rfl (by rfl)) (rdnum_to (hR8.nw (by (repeat (first | exact Ch.refl _ | assumption | (refine Ch.fresh ?_ (by assumption) (by intro i hi he; first | exact he | exact (not_no he).elim | exact Or.inl he | exact Or.inr (Or.inl he) | exact Or.inr (Or.inr he) | (exfalso; have he2 : _ = some i := he; have := own_base (by assumption) he2; omega) | (exfalso; have he2 : i = _ := he; omega) | (exfalso; have he2 : _ = some i := he; have := ow_base (by assumption) he2; omega) | (exfalso; have := he.1; omega) | (exfalso; have he2 : _ = some i := he; have := hlo _ he2; omega) | exact Or.inr he | (rcases he with he | he <;> (first | exact he | exact Or.inl he | exact Or.inr he | (exfalso; have he2 : i = _ := he; omega))))))))) (by omega) 300 3 0 rfl rfl) ?_
  rintro v54 w17 ⟨rfl, hR9, c17⟩
  have hz17 := c17.size
  refine L_run (.plain rfl) rfl rfl (r_move (v := .pointer _) rfl) ?_
  refine L_call (.plain rfl) rfl rfl (r_call Tryd.func31 rfl rfl rfl (by rfl)) (rdtext_to (hR9.nw (by (repeat (first | exact Ch.refl _ | assumption | (refine Ch.fresh ?_ (by assumption) (by intro i hi he; first | exact he | exact (not_no he).elim | exact Or.inl he | exact Or.inr (Or.inl he) | exact Or.inr (Or.inr he) | (exfalso; have he2 : _ = some i := he; have := own_base (by assumption) he2; omega) | (exfalso; have he2 : i = _ := he; omega) | (exfalso; have he2 : _ = some i := he; have := ow_base (by assumption) he2; omega) | (exfalso; have := he.1; omega) | (exfalso; have he2 : _ = some i := he; have := hlo _ he2; omega) | exact Or.inr he | (rcases he with he | he <;> (first | exact he | exact Or.inl he | exact Or.inr he | (exfalso; have he2 : i = _ := he; omega))))))))) ((hT.nw (by (repeat (first | exact Ch.refl _ | assumption | (refine Ch.fresh ?_ (by assumption) (by intro i hi he; first | exact he | exact (not_no he).elim | exact Or.inl he | exact Or.inr (Or.inl he) | exact Or.inr (Or.inr he) | (exfalso; have he2 : _ = some i := he; have := own_base (by assumption) he2; omega) | (exfalso; have he2 : i = _ := he; omega) | (exfalso; have he2 : _ = some i := he; have := ow_base (by assumption) he2; omega) | (exfalso; have := he.1; omega) | (exfalso; have he2 : _ = some i := he; have := hlo _ he2; omega) | exact Or.inr he | (rcases he with he | he <;> (first | exact he | exact Or.inl he | exact Or.inr he | (exfalso; have he2 : i = _ := he; omega)))))))) hb).mono (by omega)) (by omega) [195, 169] 6 0 rfl rfl) ?_
  rintro v56 w18 ⟨rfl, hR10, c18⟩
  have hz18 := c18.size
  refine L_run (.plain rfl) rfl rfl (r_move (v := .pointer _) rfl) ?_
  refine L_call (.plain rfl) rfl rfl (r_call Tryd.func30 rfl rfl rfl (by rfl)) (rdflag_to (hR10.nw (by (repeat (first | exact Ch.refl _ | assumption | (refine Ch.fresh ?_ (by assumption) (by intro i hi he; first | exact he | exact (not_no he).elim | exact Or.inl he | exact Or.inr (Or.inl he) | exact Or.inr (Or.inr he) | (exfalso; have he2 : _ = some i := he; have := own_base (by assumption) he2; omega) | (exfalso; have he2 : i = _ := he; omega) | (exfalso; have he2 : _ = some i := he; have := ow_base (by assumption) he2; omega) | (exfalso; have := he.1; omega) | (exfalso; have he2 : _ = some i := he; have := hlo _ he2; omega) | exact Or.inr he | (rcases he with he | he <;> (first | exact he | exact Or.inl he | exact Or.inr he | (exfalso; have he2 : i = _ := he; omega))))))))) (by omega) true 7 0 rfl rfl) ?_
  rintro v58 w19 ⟨rfl, hR11, c19⟩
  have hz19 := c19.size
  refine L_run (.plain rfl) rfl rfl (r_assign (v := .int _ _) rfl) ?_
  refine L_run (.plain rfl) rfl rfl (r_assign (v := .int _ _) rfl) ?_
  refine L_run (.plain rfl) rfl rfl (r_assign (v := .string _) rfl) ?_
  refine L_run (.plain rfl) rfl rfl (r_assign (v := .bool _) rfl) ?_
  refine L_nil ?_
  refine W_seq ?_
  refine W_region ?_
  refine L_run (.plain rfl) rfl rfl (r_move (v := .pointer _) rfl) ?_
  refine L_call (.plain rfl) rfl rfl (r_call Tryd.func32 rfl rfl rfl (by rfl)) (rdend_walk _ b7 _ _ _ _ _ (hR11.nw (by (repeat (first | exact Ch.refl _ | assumption | (refine Ch.fresh ?_ (by assumption) (by intro i hi he; first | exact he | exact (not_no he).elim | exact Or.inl he | exact Or.inr (Or.inl he) | exact Or.inr (Or.inr he) | (exfalso; have he2 : _ = some i := he; have := own_base (by assumption) he2; omega) | (exfalso; have he2 : i = _ := he; omega) | (exfalso; have he2 : _ = some i := he; have := ow_base (by assumption) he2; omega) | (exfalso; have := he.1; omega) | (exfalso; have he2 : _ = some i := he; have := hlo _ he2; omega) | exact Or.inr he | (rcases he with he | he <;> (first | exact he | exact Or.inl he | exact Or.inr he | (exfalso; have he2 : i = _ := he; omega)))))))))) ?_
  rintro v61 w20 ⟨rfl, c20⟩
  have hz20 := c20.size
  refine L_run (.plain rfl) rfl rfl (r_move (by conv => lhs; whnf)) ?_
  refine L_run (.plain rfl) rfl rfl (r_ext2_0 rfl) ?_
  refine L_run (.plain rfl) rfl rfl (r_ext2_1 rfl) ?_
  refine L_run (.plain rfl) rfl rfl (r_assign (v := .int _ _) rfl) ?_
  refine L_run (.plain rfl) rfl rfl (r_assign (v := .int _ _) rfl) ?_
  refine L_nil ?_
  refine W_seq ?_
  refine W_region ?_
  refine L_run (.plain rfl) rfl rfl (r_move (v := .int _ _) rfl) ?_
  refine L_run (.plain rfl) rfl rfl (r_eql rfl rfl) ?_
  refine L_as (v := .bool _) (v' := .bool true) 65 rfl (dec_t (by rfl)).symm ?_
  refine L_run (.plain rfl) rfl rfl (r_move (v := .bool _) rfl) ?_
  refine L_run (.yes 2 true rfl rfl) rfl rfl (r_move (v := .int _ _) rfl) ?_
  refine L_run (.yes 2 true rfl rfl) rfl rfl (r_eql rfl rfl) ?_
  refine L_as (v := .bool _) (v' := .bool true) 68 rfl (dec_t (by rfl)).symm ?_
  refine L_run (.plain rfl) rfl rfl (r_pick_t (v := .bool _) rfl rfl) ?_
  refine L_run (.plain rfl) rfl rfl (r_move (v := .bool _) rfl) ?_
  refine L_run (.yes 6 true rfl rfl) rfl rfl (r_move (v := .int _ _) rfl) ?_
  refine L_run (.yes 6 true rfl rfl) rfl rfl (r_eql rfl rfl) ?_
  refine L_as (v := .bool _) (v' := .bool true) 72 rfl (dec_t (by rfl)).symm ?_
  refine L_run (.plain rfl) rfl rfl (r_pick_t (v := .bool _) rfl rfl) ?_
  refine L_run (.plain rfl) rfl rfl (r_move (v := .bool _) rfl) ?_
  refine L_run (.yes 10 true rfl rfl) rfl rfl (r_move (v := .int _ _) rfl) ?_
  refine L_run (.yes 10 true rfl rfl) rfl rfl (r_eql rfl rfl) ?_
  refine L_as (v := .bool _) (v' := .bool true) 76 rfl (dec_t (by rfl)).symm ?_
  refine L_run (.plain rfl) rfl rfl (r_pick_t (v := .bool _) rfl rfl) ?_
  refine L_run (.plain rfl) rfl rfl (r_move (v := .bool _) rfl) ?_
  refine L_run (.yes 14 true rfl rfl) rfl rfl (r_move (v := .int _ _) rfl) ?_
  refine L_run (.yes 14 true rfl rfl) rfl rfl (r_eql rfl rfl) ?_
  refine L_as (v := .bool _) (v' := .bool true) 80 rfl (dec_t (by rfl)).symm ?_
  refine L_run (.plain rfl) rfl rfl (r_pick_t (v := .bool _) rfl rfl) ?_
  refine L_run (.plain rfl) rfl rfl (r_move (v := .bool _) rfl) ?_
  refine L_run (.yes 18 true rfl rfl) rfl rfl (r_move (v := .string _) rfl) ?_
  refine L_run (.yes 18 true rfl rfl) rfl rfl (r_eqls rfl rfl) ?_
  refine L_as (v := .bool _) (v' := .bool true) 84 rfl (dec_t (by rfl)).symm ?_
  refine L_run (.plain rfl) rfl rfl (r_pick_t (v := .bool _) rfl rfl) ?_
  refine L_run (.plain rfl) rfl rfl (r_move (v := .bool _) rfl) ?_
  refine L_run (.yes 22 true rfl rfl) rfl rfl (r_move (v := .bool _) rfl) ?_
  refine L_run (.plain rfl) rfl rfl (r_pick_t (v := .bool _) rfl rfl) ?_
  refine L_run (.plain rfl) rfl rfl (r_move (v := .bool _) rfl) ?_
  refine L_caseb (d := 89) rfl (fun h89 => ?_) (fun h89 => ?_)
  · refine L_run (.yes 25 true rfl rfl) rfl rfl (r_move (v := .int _ _) rfl) ?_
    refine L_run (.yes 25 true rfl rfl) rfl rfl (r_eql rfl rfl) ?_
    refine L_as (v := .bool _) (v' := .bool true) 91 rfl (dec_t (by rfl)).symm ?_
    refine L_run (.plain rfl) rfl rfl (r_pick_t (v := .bool _) rfl rfl) ?_
    refine L_run (.plain rfl) rfl rfl (r_move (v := .bool _) rfl) ?_
    refine L_call (.yes 29 true rfl rfl) rfl rfl (r_call Tryd.func12 rfl rfl rfl (by rfl)) (zig_walk (-3) _ (by decide)) ?_
    rintro v94 w21 ⟨rfl, rfl⟩
    refine L_run (.yes 29 true rfl rfl) rfl rfl (r_eql rfl rfl) ?_
    refine L_as (v := .bool _) (v' := .bool true) 95 rfl (dec_t (by rfl)).symm ?_
    refine L_run (.plain rfl) rfl rfl (r_pick_t (v := .bool _) rfl rfl) ?_
    refine L_run (.plain rfl) rfl rfl (r_move (v := .bool _) rfl) ?_
    refine L_call (.yes 33 true rfl rfl) rfl rfl (r_call Tryd.func14 rfl rfl rfl (by rfl)) (zag_walk 5 _ (by decide)) ?_
    rintro v98 w22 ⟨rfl, rfl⟩
    refine L_run (.yes 33 true rfl rfl) rfl rfl (r_eql rfl rfl) ?_
    refine L_as (v := .bool _) (v' := .bool true) 99 rfl (dec_t (by rfl)).symm ?_
    refine L_run (.plain rfl) rfl rfl (r_pick_t (v := .bool _) rfl rfl) ?_
    refine L_run (.plain rfl) rfl rfl (r_assign (v := .bool _) rfl) ?_
    refine L_nil ?_
    refine W_ret ?_
    refine ret1 (v := .bool _) rfl rfl ?_
    first
    | exact ⟨rfl, by (repeat (first | exact Ch.refl _ | assumption | (refine Ch.fresh ?_ (by assumption) (by intro i hi he; first | exact he | exact (not_no he).elim | exact Or.inl he | exact Or.inr (Or.inl he) | exact Or.inr (Or.inr he) | (exfalso; have he2 : _ = some i := he; have := own_base (by assumption) he2; omega) | (exfalso; have he2 : i = _ := he; omega) | (exfalso; have he2 : _ = some i := he; have := ow_base (by assumption) he2; omega) | (exfalso; have := he.1; omega) | (exfalso; have he2 : _ = some i := he; have := hlo _ he2; omega) | exact Or.inr he | (rcases he with he | he <;> (first | exact he | exact Or.inl he | exact Or.inr he | (exfalso; have he2 : i = _ := he; omega)))))))⟩
    | (exfalso; first | exact absurd rfl h89 | (simp at h89; done))
  · refine L_pass rfl rfl rfl rfl rfl ?_
    refine L_pass rfl rfl rfl rfl rfl ?_
    refine L_run (.plain rfl) rfl rfl (r_pick_f (v := .bool _) rfl rfl) ?_
    refine L_run (.plain rfl) rfl rfl (r_move (v := .bool _) rfl) ?_
    refine L_pass rfl rfl rfl rfl rfl ?_
    refine L_pass rfl rfl rfl rfl rfl ?_
    refine L_run (.plain rfl) rfl rfl (r_pick_f (v := .bool _) rfl rfl) ?_
    refine L_run (.plain rfl) rfl rfl (r_move (v := .bool _) rfl) ?_
    refine L_pass rfl rfl rfl rfl rfl ?_
    refine L_pass rfl rfl rfl rfl rfl ?_
    refine L_run (.plain rfl) rfl rfl (r_pick_f (v := .bool _) rfl rfl) ?_
    refine L_run (.plain rfl) rfl rfl (r_assign (v := .bool _) rfl) ?_
    refine L_nil ?_
    refine W_ret ?_
    refine ret1 (v := .bool _) rfl rfl ?_
    first
    | exact ⟨rfl, by (repeat (first | exact Ch.refl _ | assumption | (refine Ch.fresh ?_ (by assumption) (by intro i hi he; first | exact he | exact (not_no he).elim | exact Or.inl he | exact Or.inr (Or.inl he) | exact Or.inr (Or.inr he) | (exfalso; have he2 : _ = some i := he; have := own_base (by assumption) he2; omega) | (exfalso; have he2 : i = _ := he; omega) | (exfalso; have he2 : _ = some i := he; have := ow_base (by assumption) he2; omega) | (exfalso; have := he.1; omega) | (exfalso; have he2 : _ = some i := he; have := hlo _ he2; omega) | exact Or.inr he | (rcases he with he | he <;> (first | exact he | exact Or.inl he | exact Or.inr he | (exfalso; have he2 : i = _ := he; omega)))))))⟩
    | (exfalso; first | exact absurd rfl h89 | (simp at h89; done))
end Go.Proofs.YtikpcphlmlgojaaDoor

