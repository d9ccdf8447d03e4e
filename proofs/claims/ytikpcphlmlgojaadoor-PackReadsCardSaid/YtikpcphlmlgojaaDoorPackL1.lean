/- Numbers without their signs: the statements PackZigs, PackOrder, walked. -/
import Derived.Test.YtikpcphlmlgojaaDoorPackA
namespace Go.Proofs.YtikpcphlmlgojaaDoor
open Go Go.RowKit
set_option linter.unusedVariables false
set_option linter.unusedSimpArgs false
theorem zagI_zigI (n : Int) : zagI (zigI n) = n := by
  unfold zagI zigI
  split <;> split <;> omega
theorem zigI_zagI (v : Int) (h : 0 ≤ v) : zigI (zagI v) = v := by
  unfold zagI zigI
  split <;> split <;> omega
theorem zigI_range (n : Int) (h : -9223372036854775808 ≤ n ∧ n ≤ 9223372036854775807) : 0 ≤ zigI n ∧ zigI n ≤ 18446744073709551615 := by
  unfold zigI
  split <;> omega
theorem zagI_range (v : Int) (h : 0 ≤ v ∧ v ≤ 18446744073709551615) : -9223372036854775808 ≤ zagI v ∧ zagI v ≤ 9223372036854775807 := by
  unfold zagI
  split <;> omega
theorem PackZigs_n (n : Int) (v : Nat) (w0 : World) (x0 : -9223372036854775808 ≤ n ∧ n ≤ 9223372036854775807) (x1 : v ≤ 18446744073709551615) (hT : Tabs w0.heap.size w0) : Does Tryd.prog 3 #[.int .i64 n, .int .u64 v] w0 (fun r w' => r = .bool true ∧ Nw w0 w') := by
  have hzr := zigI_range n x0
  have hzz := zagI_range v (by omega)
  refine fn_of (n := 35) (args := [.int .i64 n, .int .u64 v]) Tryd.func3 rfl rfl rfl ?_
  refine W_seq ?_
  refine W_region ?_
  refine L_run (.plain rfl) rfl rfl (r_assign (v := .bool _) rfl) ?_
  refine L_nil ?_
  refine W_seq ?_
  refine W_draw (fun _ => True) 31 (m := 31) (by kernel_rfl) rfl (fun w1 c1 hs1 => ?_)
  refine held (by trivial) (fun hS => ?_)
  refine D_ev 0 (by kernel_rfl) rfl ?_
  refine L_call (.plain rfl) rfl rfl (r_call Tryd.func11 rfl rfl rfl (by rfl)) (awake_walk w0.heap.size _ (hT.nw (by (repeat (first | exact Ch.refl _ | assumption | (refine Ch.fresh ?_ (by assumption) (by intro i hi he; first | exact he | exact (not_no he).elim | exact Or.inl he | exact Or.inr (Or.inl he) | exact Or.inr (Or.inr he) | (exfalso; have he2 : _ = some i := he; have := own_base (by assumption) he2; omega) | (exfalso; have he2 : i = _ := he; omega) | (exfalso; have he2 : _ = some i := he; have := ow_base (by assumption) he2; omega) | (exfalso; have := he.1; omega) | (exfalso; have he2 : _ = some i := he; have := hlo _ he2; omega) | exact Or.inr he | (rcases he with he | he <;> (first | exact he | exact Or.inl he | exact Or.inr he | (exfalso; have he2 : i = _ := he; omega)))))))) (by omega)) (by omega)) ?_
  rintro v5 w2 ⟨rfl, c2⟩
  have hz2 := c2.size
  refine L_nil ?_
  refine heldK (by trivial) (fun hS => ?_)
  refine D_take 1 rfl (by kernel_rfl) (by kernel_rfl) (by kernel_rfl) (by kernel_rfl) (.plain rfl) rfl rfl (by assumption) (fun W hW => r_move (v := .bool _) rfl) ?_
  refine D_caseb (d := 6) rfl (fun h6 => ?_) (fun h6 => ?_)
  · refine D_take 2 rfl (by kernel_rfl) (by kernel_rfl) (by kernel_rfl) (by kernel_rfl) (.yes 1 true rfl rfl) rfl rfl (by assumption) (fun W hW => r_move (v := .int _ _) rfl) ?_
    refine D_take 4 rfl (by kernel_rfl) (by kernel_rfl) (by kernel_rfl) (by kernel_rfl) (.yes 1 true rfl rfl) rfl rfl (by assumption) (fun W hW => r_move (v := .int _ _) rfl) ?_
    refine D_ev 3 (by kernel_rfl) rfl ?_
    refine L_call (.yes 1 true rfl rfl) rfl rfl (r_call Tryd.func12 rfl rfl rfl (by rfl)) (zig_walk n _ x0) ?_
    rintro v8 w3 ⟨rfl, rfl⟩
    refine L_nil ?_
    refine heldK (by trivial) (fun hS => ?_)
    refine D_ev 5 (by kernel_rfl) rfl ?_
    refine L_call (.yes 1 true rfl rfl) rfl rfl (r_call Tryd.func13 rfl rfl rfl (by rfl)) (rzig_walk n _ x0) ?_
    rintro v10 w4 ⟨rfl, rfl⟩
    refine L_nil ?_
    refine heldK (by trivial) (fun hS => ?_)
    refine D_take 6 rfl (by kernel_rfl) (by kernel_rfl) (by kernel_rfl) (by kernel_rfl) (.yes 1 true rfl rfl) rfl rfl (by assumption) (fun W hW => r_eql rfl rfl) ?_
    refine D_as (v := .bool _) (v' := .bool true) 11 rfl (dec_t (by rfl)).symm ?_
    refine D_take 7 rfl (by kernel_rfl) (by kernel_rfl) (by kernel_rfl) (by kernel_rfl) (.plain rfl) rfl rfl (by assumption) (fun W hW => r_pick_t (v := .bool _) rfl rfl) ?_
    refine D_take 8 rfl (by kernel_rfl) (by kernel_rfl) (by kernel_rfl) (by kernel_rfl) (.plain rfl) rfl rfl (by assumption) (fun W hW => r_move (v := .bool _) rfl) ?_
    refine D_take 9 rfl (by kernel_rfl) (by kernel_rfl) (by kernel_rfl) (by kernel_rfl) (.yes 8 true rfl rfl) rfl rfl (by assumption) (fun W hW => r_move (v := .int _ _) rfl) ?_
    refine D_take 12 rfl (by kernel_rfl) (by kernel_rfl) (by kernel_rfl) (by kernel_rfl) (.yes 8 true rfl rfl) rfl rfl (by assumption) (fun W hW => r_move (v := .int _ _) rfl) ?_
    refine D_ev 10 (by kernel_rfl) rfl ?_
    refine L_call (.yes 8 true rfl rfl) rfl rfl (r_call Tryd.func12 rfl rfl rfl (by rfl)) (zig_walk n _ x0) ?_
    rintro v15 w5 ⟨rfl, rfl⟩
    refine L_nil ?_
    refine heldK (by trivial) (fun hS => ?_)
    refine D_ev 11 (by kernel_rfl) rfl ?_
    refine L_call (.yes 8 true rfl rfl) rfl rfl (r_call Tryd.func14 rfl rfl rfl (by rfl)) (zag_walk (zigI n) _ hzr) ?_
    rintro v16 w6 ⟨rfl, rfl⟩
    refine L_nil ?_
    refine heldK (by trivial) (fun hS => ?_)
    refine D_take 13 rfl (by kernel_rfl) (by kernel_rfl) (by kernel_rfl) (by kernel_rfl) (.yes 8 true rfl rfl) rfl rfl (by assumption) (fun W hW => r_eql rfl rfl) ?_
    refine D_as (v := .bool _) (v' := .bool true) 18 rfl (dec_t (by exact zagI_zigI n)).symm ?_
    refine D_take 14 rfl (by kernel_rfl) (by kernel_rfl) (by kernel_rfl) (by kernel_rfl) (.plain rfl) rfl rfl (by assumption) (fun W hW => r_pick_t (v := .bool _) rfl rfl) ?_
    refine D_take 15 rfl (by kernel_rfl) (by kernel_rfl) (by kernel_rfl) (by kernel_rfl) (.plain rfl) rfl rfl (by assumption) (fun W hW => r_move (v := .bool _) rfl) ?_
    refine D_take 16 rfl (by kernel_rfl) (by kernel_rfl) (by kernel_rfl) (by kernel_rfl) (.yes 15 true rfl rfl) rfl rfl (by assumption) (fun W hW => r_move (v := .int _ _) rfl) ?_
    refine D_take 19 rfl (by kernel_rfl) (by kernel_rfl) (by kernel_rfl) (by kernel_rfl) (.yes 15 true rfl rfl) rfl rfl (by assumption) (fun W hW => r_move (v := .int _ _) rfl) ?_
    refine D_ev 17 (by kernel_rfl) rfl ?_
    refine L_call (.yes 15 true rfl rfl) rfl rfl (r_call Tryd.func14 rfl rfl rfl (by rfl)) (zag_walk v _ (by omega)) ?_
    rintro v22 w7 ⟨rfl, rfl⟩
    refine L_nil ?_
    refine heldK (by trivial) (fun hS => ?_)
    refine D_ev 18 (by kernel_rfl) rfl ?_
    refine L_call (.yes 15 true rfl rfl) rfl rfl (r_call Tryd.func12 rfl rfl rfl (by rfl)) (zig_walk (zagI v) _ hzz) ?_
    rintro v23 w8 ⟨rfl, rfl⟩
    refine L_nil ?_
    refine heldK (by trivial) (fun hS => ?_)
    refine D_take 20 rfl (by kernel_rfl) (by kernel_rfl) (by kernel_rfl) (by kernel_rfl) (.yes 15 true rfl rfl) rfl rfl (by assumption) (fun W hW => r_eql rfl rfl) ?_
    refine D_as (v := .bool _) (v' := .bool true) 25 rfl (dec_t (by exact zigI_zagI v (by omega))).symm ?_
    refine D_take 21 rfl (by kernel_rfl) (by kernel_rfl) (by kernel_rfl) (by kernel_rfl) (.plain rfl) rfl rfl (by assumption) (fun W hW => r_pick_t (v := .bool _) rfl rfl) ?_
    refine D_take 22 rfl (by kernel_rfl) (by kernel_rfl) (by kernel_rfl) (by kernel_rfl) (.plain rfl) rfl rfl (by assumption) (fun W hW => r_move (v := .bool _) rfl) ?_
    refine D_take 23 rfl (by kernel_rfl) (by kernel_rfl) (by kernel_rfl) (by kernel_rfl) (.yes 22 true rfl rfl) rfl rfl (by assumption) (fun W hW => r_move (v := .int _ _) rfl) ?_
    refine D_take 26 rfl (by kernel_rfl) (by kernel_rfl) (by kernel_rfl) (by kernel_rfl) (.yes 22 true rfl rfl) rfl rfl (by assumption) (fun W hW => r_move (v := .int _ _) rfl) ?_
    refine D_ev 24 (by kernel_rfl) rfl ?_
    refine L_call (.yes 22 true rfl rfl) rfl rfl (r_call Tryd.func15 rfl rfl rfl (by rfl)) (var_walk v _ x1) ?_
    rintro v29 w9 ⟨v29, rfl, ho9, c9⟩
    have hz9 := c9.size
    refine L_nil ?_
    refine heldK (by trivial) (fun hS => ?_)
    refine D_ev2 25 27 (by kernel_rfl) rfl rfl ?_ ?_
    · refine L_run (.yes 22 true rfl rfl) rfl rfl (r_bstr Tryd.underlying26 Tryd.underlying5 Tryd.underlying9 (by conv => lhs; whnf) (by (exact Sl.to (by first | assumption | exact Sl.own (by assumption) | exact Mu.sl (by assumption) | exact Ow.sl (by assumption)) (fun i hi => by (repeat (first | exact Sm.refl _ _ | (refine Sm.stepT (by assumption) (by intro hlt hsm; first | exact not_no | (intro he; have he2 : _ = some _ := he; have := own_base (by assumption) he2; omega) | (intro he; have he2 : _ = _ := he; omega) | (intro he; have he2 : _ = some _ := he; have := ow_base (by assumption) he2; omega) | (intro he; have := he.1; omega) | exact bk_not (by assumption) hsm rfl | exact mp_not (by assumption) hsm | exact bkm_not (by assumption) hsm rfl | exact ownm_not (by assumption) hi hsm rfl | exact owm_not (by assumption) hi hsm rfl | exact own_not (by assumption) hi hsm rfl | exact ow_not (by assumption) hi hsm rfl | (intro he; have he2 : _ = some _ := he; have := Ow.lt (by assumption) he2; omega) | (intro he; have he2 : _ = some _ := he; have := Ow.lt (by assumption) he2; have := own_base (by assumption) hi; omega) | (intro he; have he2 : _ = some _ := he; have := Ow.lt how he2; first | omega | (have := own_base (by assumption) hi; omega)) | (intro he; have he2 : _ = _ := he; have := Ow.lt how hi; omega) | (intro he; have he2 : _ = _ := he; have := own_base (by assumption) hi; omega) | (intro he; have he2 : _ = _ := he; have := ow_base (by assumption) hi; omega) | (intro he; have he2 : _ = _ := he; rw [he2] at hi; exact absurd hi (by assumption)) | (intro he; have he2 : _ = some _ := he; have h3 := own_lt (by assumption) he2; first | omega | (have h4 : _ = some _ := hi; simp [Value.ownBlock] at h4; omega)) | (intro he; have he2 : _ = some _ := he; have h3 := ow_base (by assumption) he2; have h4 : _ = some _ := hi; simp [Value.ownBlock] at h4; omega) | (intro he; have he2 : _ = some _ := he; exact absurd he2 (hsep _ hi)) | (intro he; have he2 : _ = _ := he; have := hlo _ hi; omega) | (intro he; have he2 : _ = some _ := he; have := hlo _ he2; omega) | (intro he; first | exact absurd he (by assumption) | exact absurd he.symm (by assumption)) | (intro he; have he2 : _ = _ ∨ _ = _ := he; omega)) ?_))))))) ?_
      refine L_nil ?_
      refine heldK (by trivial) (fun hS => ?_)
      refine D_ev 27 (by kernel_rfl) rfl ?_
      refine L_call (.yes 22 true rfl rfl) rfl rfl (r_call Tryd.func16 rfl rfl rfl (by rfl)) (rvar_walk v _ x1) ?_
      rintro v32 w10 ⟨rfl, c10⟩
      have hz10 := c10.size
      refine L_nil ?_
      refine heldK (by trivial) (fun hS => ?_)
      refine D_take 28 rfl (by kernel_rfl) (by kernel_rfl) (by kernel_rfl) (by kernel_rfl) (.yes 22 true rfl rfl) rfl rfl (by assumption) (fun W hW => r_eqls rfl rfl) ?_
      refine D_as (v := .bool _) (v' := .bool true) 33 rfl (dec_t (by rfl)).symm ?_
      refine D_take 29 rfl (by kernel_rfl) (by kernel_rfl) (by kernel_rfl) (by kernel_rfl) (.plain rfl) rfl rfl (by assumption) (fun W hW => r_pick_t (v := .bool _) rfl rfl) ?_
      refine D_take 30 rfl (by kernel_rfl) (by kernel_rfl) (by kernel_rfl) (by kernel_rfl) (.plain rfl) rfl rfl (by assumption) (fun W hW => r_assign (v := .bool _) rfl) ?_
      refine D_done (by kernel_rfl) ?_
      refine W_ret ?_
      refine ret1 (v := .bool _) rfl rfl ?_
      first
      | exact ⟨rfl, by (repeat (first | exact Ch.refl _ | assumption | (refine Ch.fresh ?_ (by assumption) (by intro i hi he; first | exact he | exact (not_no he).elim | exact Or.inl he | exact Or.inr (Or.inl he) | exact Or.inr (Or.inr he) | (exfalso; have he2 : _ = some i := he; have := own_base (by assumption) he2; omega) | (exfalso; have he2 : i = _ := he; omega) | (exfalso; have he2 : _ = some i := he; have := ow_base (by assumption) he2; omega) | (exfalso; have := he.1; omega) | (exfalso; have he2 : _ = some i := he; have := hlo _ he2; omega) | exact Or.inr he | (rcases he with he | he <;> (first | exact he | exact Or.inl he | exact Or.inr he | (exfalso; have he2 : i = _ := he; omega)))))))⟩
      | (exfalso; first | exact absurd rfl h6 | (simp at h6; done))
    · refine L_call (.yes 22 true rfl rfl) rfl rfl (r_call Tryd.func16 rfl rfl rfl (by rfl)) (rvar_walk v _ x1) ?_
      rintro v32 w11 ⟨rfl, c11⟩
      have hz11 := c11.size
      refine L_nil ?_
      refine heldK (by trivial) (fun hS => ?_)
      refine D_ev 25 (by kernel_rfl) rfl ?_
      refine L_run (.yes 22 true rfl rfl) rfl rfl (r_bstr Tryd.underlying26 Tryd.underlying5 Tryd.underlying9 (by conv => lhs; whnf) (by (exact Sl.to (by first | assumption | exact Sl.own (by assumption) | exact Mu.sl (by assumption) | exact Ow.sl (by assumption)) (fun i hi => by (repeat (first | exact Sm.refl _ _ | (refine Sm.stepT (by assumption) (by intro hlt hsm; first | exact not_no | (intro he; have he2 : _ = some _ := he; have := own_base (by assumption) he2; omega) | (intro he; have he2 : _ = _ := he; omega) | (intro he; have he2 : _ = some _ := he; have := ow_base (by assumption) he2; omega) | (intro he; have := he.1; omega) | exact bk_not (by assumption) hsm rfl | exact mp_not (by assumption) hsm | exact bkm_not (by assumption) hsm rfl | exact ownm_not (by assumption) hi hsm rfl | exact owm_not (by assumption) hi hsm rfl | exact own_not (by assumption) hi hsm rfl | exact ow_not (by assumption) hi hsm rfl | (intro he; have he2 : _ = some _ := he; have := Ow.lt (by assumption) he2; omega) | (intro he; have he2 : _ = some _ := he; have := Ow.lt (by assumption) he2; have := own_base (by assumption) hi; omega) | (intro he; have he2 : _ = some _ := he; have := Ow.lt how he2; first | omega | (have := own_base (by assumption) hi; omega)) | (intro he; have he2 : _ = _ := he; have := Ow.lt how hi; omega) | (intro he; have he2 : _ = _ := he; have := own_base (by assumption) hi; omega) | (intro he; have he2 : _ = _ := he; have := ow_base (by assumption) hi; omega) | (intro he; have he2 : _ = _ := he; rw [he2] at hi; exact absurd hi (by assumption)) | (intro he; have he2 : _ = some _ := he; have h3 := own_lt (by assumption) he2; first | omega | (have h4 : _ = some _ := hi; simp [Value.ownBlock] at h4; omega)) | (intro he; have he2 : _ = some _ := he; have h3 := ow_base (by assumption) he2; have h4 : _ = some _ := hi; simp [Value.ownBlock] at h4; omega) | (intro he; have he2 : _ = some _ := he; exact absurd he2 (hsep _ hi)) | (intro he; have he2 : _ = _ := he; have := hlo _ hi; omega) | (intro he; have he2 : _ = some _ := he; have := hlo _ he2; omega) | (intro he; first | exact absurd he (by assumption) | exact absurd he.symm (by assumption)) | (intro he; have he2 : _ = _ ∨ _ = _ := he; omega)) ?_))))))) ?_
      refine L_nil ?_
      refine heldK (by trivial) (fun hS => ?_)
      refine D_take 28 rfl (by kernel_rfl) (by kernel_rfl) (by kernel_rfl) (by kernel_rfl) (.yes 22 true rfl rfl) rfl rfl (by assumption) (fun W hW => r_eqls rfl rfl) ?_
      refine D_as (v := .bool _) (v' := .bool true) 33 rfl (dec_t (by rfl)).symm ?_
      refine D_take 29 rfl (by kernel_rfl) (by kernel_rfl) (by kernel_rfl) (by kernel_rfl) (.plain rfl) rfl rfl (by assumption) (fun W hW => r_pick_t (v := .bool _) rfl rfl) ?_
      refine D_take 30 rfl (by kernel_rfl) (by kernel_rfl) (by kernel_rfl) (by kernel_rfl) (.plain rfl) rfl rfl (by assumption) (fun W hW => r_assign (v := .bool _) rfl) ?_
      refine D_done (by kernel_rfl) ?_
      refine W_ret ?_
      refine ret1 (v := .bool _) rfl rfl ?_
      first
      | exact ⟨rfl, by (repeat (first | exact Ch.refl _ | assumption | (refine Ch.fresh ?_ (by assumption) (by intro i hi he; first | exact he | exact (not_no he).elim | exact Or.inl he | exact Or.inr (Or.inl he) | exact Or.inr (Or.inr he) | (exfalso; have he2 : _ = some i := he; have := own_base (by assumption) he2; omega) | (exfalso; have he2 : i = _ := he; omega) | (exfalso; have he2 : _ = some i := he; have := ow_base (by assumption) he2; omega) | (exfalso; have := he.1; omega) | (exfalso; have he2 : _ = some i := he; have := hlo _ he2; omega) | exact Or.inr he | (rcases he with he | he <;> (first | exact he | exact Or.inl he | exact Or.inr he | (exfalso; have he2 : i = _ := he; omega)))))))⟩
      | (exfalso; first | exact absurd rfl h6 | (simp at h6; done))
  · refine D_pass 2 rfl (by kernel_rfl) (by kernel_rfl) (by kernel_rfl) (by kernel_rfl) rfl rfl rfl rfl rfl (by assumption) ?_
    refine D_pass 3 rfl (by kernel_rfl) (by kernel_rfl) (by kernel_rfl) (by kernel_rfl) rfl rfl rfl rfl rfl (by assumption) ?_
    refine D_pass 4 rfl (by kernel_rfl) (by kernel_rfl) (by kernel_rfl) (by kernel_rfl) rfl rfl rfl rfl rfl (by assumption) ?_
    refine D_pass 5 rfl (by kernel_rfl) (by kernel_rfl) (by kernel_rfl) (by kernel_rfl) rfl rfl rfl rfl rfl (by assumption) ?_
    refine D_pass 6 rfl (by kernel_rfl) (by kernel_rfl) (by kernel_rfl) (by kernel_rfl) rfl rfl rfl rfl rfl (by assumption) ?_
    refine D_take 7 rfl (by kernel_rfl) (by kernel_rfl) (by kernel_rfl) (by kernel_rfl) (.plain rfl) rfl rfl (by assumption) (fun W hW => r_pick_f (v := .bool _) rfl rfl) ?_
    refine D_take 8 rfl (by kernel_rfl) (by kernel_rfl) (by kernel_rfl) (by kernel_rfl) (.plain rfl) rfl rfl (by assumption) (fun W hW => r_move (v := .bool _) rfl) ?_
    refine D_pass 9 rfl (by kernel_rfl) (by kernel_rfl) (by kernel_rfl) (by kernel_rfl) rfl rfl rfl rfl rfl (by assumption) ?_
    refine D_pass 10 rfl (by kernel_rfl) (by kernel_rfl) (by kernel_rfl) (by kernel_rfl) rfl rfl rfl rfl rfl (by assumption) ?_
    refine D_pass 11 rfl (by kernel_rfl) (by kernel_rfl) (by kernel_rfl) (by kernel_rfl) rfl rfl rfl rfl rfl (by assumption) ?_
    refine D_pass 12 rfl (by kernel_rfl) (by kernel_rfl) (by kernel_rfl) (by kernel_rfl) rfl rfl rfl rfl rfl (by assumption) ?_
    refine D_pass 13 rfl (by kernel_rfl) (by kernel_rfl) (by kernel_rfl) (by kernel_rfl) rfl rfl rfl rfl rfl (by assumption) ?_
    refine D_take 14 rfl (by kernel_rfl) (by kernel_rfl) (by kernel_rfl) (by kernel_rfl) (.plain rfl) rfl rfl (by assumption) (fun W hW => r_pick_f (v := .bool _) rfl rfl) ?_
    refine D_take 15 rfl (by kernel_rfl) (by kernel_rfl) (by kernel_rfl) (by kernel_rfl) (.plain rfl) rfl rfl (by assumption) (fun W hW => r_move (v := .bool _) rfl) ?_
    refine D_pass 16 rfl (by kernel_rfl) (by kernel_rfl) (by kernel_rfl) (by kernel_rfl) rfl rfl rfl rfl rfl (by assumption) ?_
    refine D_pass 17 rfl (by kernel_rfl) (by kernel_rfl) (by kernel_rfl) (by kernel_rfl) rfl rfl rfl rfl rfl (by assumption) ?_
    refine D_pass 18 rfl (by kernel_rfl) (by kernel_rfl) (by kernel_rfl) (by kernel_rfl) rfl rfl rfl rfl rfl (by assumption) ?_
    refine D_pass 19 rfl (by kernel_rfl) (by kernel_rfl) (by kernel_rfl) (by kernel_rfl) rfl rfl rfl rfl rfl (by assumption) ?_
    refine D_pass 20 rfl (by kernel_rfl) (by kernel_rfl) (by kernel_rfl) (by kernel_rfl) rfl rfl rfl rfl rfl (by assumption) ?_
    refine D_take 21 rfl (by kernel_rfl) (by kernel_rfl) (by kernel_rfl) (by kernel_rfl) (.plain rfl) rfl rfl (by assumption) (fun W hW => r_pick_f (v := .bool _) rfl rfl) ?_
    refine D_take 22 rfl (by kernel_rfl) (by kernel_rfl) (by kernel_rfl) (by kernel_rfl) (.plain rfl) rfl rfl (by assumption) (fun W hW => r_move (v := .bool _) rfl) ?_
    refine D_pass 23 rfl (by kernel_rfl) (by kernel_rfl) (by kernel_rfl) (by kernel_rfl) rfl rfl rfl rfl rfl (by assumption) ?_
    refine D_pass 24 rfl (by kernel_rfl) (by kernel_rfl) (by kernel_rfl) (by kernel_rfl) rfl rfl rfl rfl rfl (by assumption) ?_
    refine D_pass 25 rfl (by kernel_rfl) (by kernel_rfl) (by kernel_rfl) (by kernel_rfl) rfl rfl rfl rfl rfl (by assumption) ?_
    refine D_pass 26 rfl (by kernel_rfl) (by kernel_rfl) (by kernel_rfl) (by kernel_rfl) rfl rfl rfl rfl rfl (by assumption) ?_
    refine D_pass 27 rfl (by kernel_rfl) (by kernel_rfl) (by kernel_rfl) (by kernel_rfl) rfl rfl rfl rfl rfl (by assumption) ?_
    refine D_pass 28 rfl (by kernel_rfl) (by kernel_rfl) (by kernel_rfl) (by kernel_rfl) rfl rfl rfl rfl rfl (by assumption) ?_
    refine D_take 29 rfl (by kernel_rfl) (by kernel_rfl) (by kernel_rfl) (by kernel_rfl) (.plain rfl) rfl rfl (by assumption) (fun W hW => r_pick_f (v := .bool _) rfl rfl) ?_
    refine D_take 30 rfl (by kernel_rfl) (by kernel_rfl) (by kernel_rfl) (by kernel_rfl) (.plain rfl) rfl rfl (by assumption) (fun W hW => r_assign (v := .bool _) rfl) ?_
    refine D_done (by kernel_rfl) ?_
    refine W_ret ?_
    refine ret1 (v := .bool _) rfl rfl ?_
    first
    | exact ⟨rfl, by (repeat (first | exact Ch.refl _ | assumption | (refine Ch.fresh ?_ (by assumption) (by intro i hi he; first | exact he | exact (not_no he).elim | exact Or.inl he | exact Or.inr (Or.inl he) | exact Or.inr (Or.inr he) | (exfalso; have he2 : _ = some i := he; have := own_base (by assumption) he2; omega) | (exfalso; have he2 : i = _ := he; omega) | (exfalso; have he2 : _ = some i := he; have := ow_base (by assumption) he2; omega) | (exfalso; have := he.1; omega) | (exfalso; have he2 : _ = some i := he; have := hlo _ he2; omega) | exact Or.inr he | (rcases he with he | he <;> (first | exact he | exact Or.inl he | exact Or.inr he | (exfalso; have he2 : i = _ := he; omega)))))))⟩
    | (exfalso; first | exact absurd rfl h6 | (simp at h6; done))
theorem PackZigs_walk (a0 a1 : Int) (w0 : World) (x0 : -9223372036854775808 ≤ a0 ∧ a0 ≤ 9223372036854775807) (x1 : 0 ≤ a1 ∧ a1 ≤ 18446744073709551615) (hT : Tabs w0.heap.size w0) : Does Tryd.prog 3 #[.int .i64 a0, .int .u64 a1] w0 (fun r w' => r = .bool true ∧ Nw w0 w') := by
  obtain ⟨v, rfl⟩ : ∃ v : Nat, a1 = v := ⟨a1.toNat, by omega⟩
  exact PackZigs_n a0 v w0 x0 (by omega) hT
theorem zig_nw (n : Int) (w : World) (h : -9223372036854775808 ≤ n ∧ n ≤ 9223372036854775807) : Does Tryd.prog 12 #[.int .i64 n] w fun r w' => r = .int .u64 (zigI n) ∧ Nw w w' :=
  (zig_walk n w h).mono fun _ _ ⟨h1, h2⟩ => ⟨h1, by rw [h2]; exact Ch.refl _⟩
theorem PackOrder_walk (a0 a1 : Int) (w0 : World) (x0 : -9223372036854775808 ≤ a0 ∧ a0 ≤ 9223372036854775807) (x1 : -9223372036854775808 ≤ a1 ∧ a1 ≤ 9223372036854775807) (hT : Tabs w0.heap.size w0) : Does Tryd.prog 4 #[.int .i64 a0, .int .i64 a1] w0 (fun r w' => r = .bool true ∧ Nw w0 w') := by
  have hz0 := zigI_range a0 x0
  have hz1 := zigI_range a1 x1
  have hq0 : zigI a0 = if 0 ≤ a0 then 2 * a0 else -(2 * a0) - 1 := rfl
  have hq1 : zigI a1 = if 0 ≤ a1 then 2 * a1 else -(2 * a1) - 1 := rfl
  refine fn_of (n := 48) (args := [.int .i64 a0, .int .i64 a1]) Tryd.func4 rfl rfl rfl ?_
  refine W_seq ?_
  refine W_region ?_
  refine L_run (.plain rfl) rfl rfl (r_assign (v := .bool _) rfl) ?_
  refine L_nil ?_
  refine W_seq ?_
  refine W_region ?_
  refine L_run (.plain rfl) rfl rfl (r_move (v := .int _ _) rfl) ?_
  refine L_call (.plain rfl) rfl rfl (r_call Tryd.func12 rfl rfl rfl (by rfl)) (zig_nw a0 _ x0) ?_
  rintro v8 w1 ⟨rfl, c1⟩
  have hz1 := c1.size
  refine L_run (.plain rfl) rfl rfl (r_move (v := .int _ _) rfl) ?_
  refine L_call (.plain rfl) rfl rfl (r_call Tryd.func12 rfl rfl rfl (by rfl)) (zig_nw a1 _ x1) ?_
  rintro v10 w2 ⟨rfl, c2⟩
  have hz2 := c2.size
  refine L_run (.plain rfl) rfl rfl (r_assign (v := .int _ _) rfl) ?_
  refine L_run (.plain rfl) rfl rfl (r_assign (v := .int _ _) rfl) ?_
  refine L_nil ?_
  refine W_seq ?_
  refine W_region ?_
  refine L_call (.plain rfl) rfl rfl (r_call Tryd.func11 rfl rfl rfl (by rfl)) (awake_walk w0.heap.size _ (hT.nw (by (repeat (first | exact Ch.refl _ | assumption | (refine Ch.fresh ?_ (by assumption) (by intro i hi he; first | exact he | exact (not_no he).elim | exact Or.inl he | exact Or.inr (Or.inl he) | exact Or.inr (Or.inr he) | (exfalso; have he2 : _ = some i := he; have := own_base (by assumption) he2; omega) | (exfalso; have he2 : i = _ := he; omega) | (exfalso; have he2 : _ = some i := he; have := ow_base (by assumption) he2; omega) | (exfalso; have := he.1; omega) | (exfalso; have he2 : _ = some i := he; have := hlo _ he2; omega) | exact Or.inr he | (rcases he with he | he <;> (first | exact he | exact Or.inl he | exact Or.inr he | (exfalso; have he2 : i = _ := he; omega)))))))) (by omega)) (by omega)) ?_
  rintro v11 w3 ⟨rfl, c3⟩
  have hz3 := c3.size
  refine L_run (.plain rfl) rfl rfl (r_move (v := .bool _) rfl) ?_
  refine L_caseb (d := 12) rfl (fun h12 => ?_) (fun h12 => ?_)
  · refine L_run (.yes 1 true rfl rfl) rfl rfl (r_move (v := .int _ _) rfl) ?_
    refine L_run (.yes 1 true rfl rfl) rfl rfl (r_move (v := .int _ _) rfl) ?_
    refine L_run (.yes 1 true rfl rfl) rfl rfl (r_eql rfl rfl) ?_
    refine L_run (.yes 1 true rfl rfl) rfl rfl (r_move (v := .int _ _) rfl) ?_
    refine L_run (.yes 1 true rfl rfl) rfl rfl (r_move (v := .int _ _) rfl) ?_
    refine L_run (.yes 1 true rfl rfl) rfl rfl (r_eql rfl rfl) ?_
    refine L_run (.yes 1 true rfl rfl) rfl rfl (r_eqlb Tryd.underlying4 rfl rfl) ?_
    refine L_run (.plain rfl) rfl rfl (r_pick_t (v := .bool _) rfl rfl) ?_
    refine L_run (.plain rfl) rfl rfl (r_move (v := .bool _) rfl) ?_
    refine L_case (d := 21) rfl (fun h21 => ?_) (fun h21 => ?_)
    · refine L_run (.yes 10 true rfl rfl) rfl rfl (r_move (v := .int _ _) rfl) ?_
      refine L_run (.yes 10 true rfl rfl) rfl rfl (r_quon rfl rfl (by omega) (by omega) (by first | exact wr_u64 (by omega) | rfl)) ?_
      refine L_run (.yes 10 true rfl rfl) rfl rfl (r_move (v := .int _ _) rfl) ?_
      refine L_run (.yes 10 true rfl rfl) rfl rfl (r_quon rfl rfl (by omega) (by omega) (by first | exact wr_u64 (by omega) | rfl)) ?_
      refine L_run (.yes 10 true rfl rfl) rfl rfl (r_neq rfl rfl) ?_
      refine L_run (.yes 10 true rfl rfl) rfl rfl (r_move (v := .bool _) rfl) ?_
      refine L_case (d := 27) rfl (fun h27 => ?_) (fun h27 => ?_)
      · refine L_pass rfl rfl rfl rfl rfl ?_
        refine L_pass rfl rfl rfl rfl rfl ?_
        refine L_pass rfl rfl rfl rfl rfl ?_
        refine L_run (.yes 10 true rfl rfl) rfl rfl (r_pick_t (v := .bool _) rfl rfl) ?_
        refine L_run (.yes 10 true rfl rfl) rfl rfl (r_move (v := .bool _) rfl) ?_
        refine L_pass rfl rfl rfl rfl rfl ?_
        refine L_pass rfl rfl rfl rfl rfl ?_
        refine L_pass rfl rfl rfl rfl rfl ?_
        refine L_pass rfl rfl rfl rfl rfl ?_
        refine L_pass rfl rfl rfl rfl rfl ?_
        refine L_run (.yes 10 true rfl rfl) rfl rfl (r_pick_t (v := .bool _) rfl rfl) ?_
        refine L_run (.plain rfl) rfl rfl (r_pick_t (v := .bool _) rfl rfl) ?_
        refine L_run (.plain rfl) rfl rfl (r_move (v := .bool _) rfl) ?_
        refine L_run (.yes 29 true rfl rfl) rfl rfl (r_move (v := .int _ _) rfl) ?_
        refine L_run (.yes 29 true rfl rfl) rfl rfl (r_lss rfl rfl) ?_
        refine L_run (.yes 29 true rfl rfl) rfl rfl (r_move (v := .int _ _) rfl) ?_
        refine L_run (.yes 29 true rfl rfl) rfl rfl (r_remn rfl rfl (by omega) (by omega)) ?_
        refine L_run (.yes 29 true rfl rfl) rfl rfl (r_eql rfl rfl) ?_
        refine L_run (.yes 29 true rfl rfl) rfl rfl (r_eqlb Tryd.underlying4 rfl rfl) ?_
        refine L_run (.plain rfl) rfl rfl (r_pick_t (v := .bool _) rfl rfl) ?_
        refine L_run (.plain rfl) rfl rfl (r_assign (v := .bool _) rfl) ?_
        refine L_nil ?_
        refine W_ret ?_
        refine ret1 (v := .bool _) rfl rfl ?_
        first
        | (exfalso; simp at h12; done)
        | (exfalso; refine h21 (decide_eq_decide.2 ?_); split at hq0 <;> split at hq1 <;> omega)
        | exact ⟨congrArg Value.bool (decide_eq_true (decide_eq_decide.2 (by split at hq0 <;> omega))), by (repeat (first | exact Ch.refl _ | assumption | (refine Ch.fresh ?_ (by assumption) (by intro i hi he; first | exact he | exact (not_no he).elim | exact Or.inl he | exact Or.inr (Or.inl he) | exact Or.inr (Or.inr he) | (exfalso; have he2 : _ = some i := he; have := own_base (by assumption) he2; omega) | (exfalso; have he2 : i = _ := he; omega) | (exfalso; have he2 : _ = some i := he; have := ow_base (by assumption) he2; omega) | (exfalso; have := he.1; omega) | (exfalso; have he2 : _ = some i := he; have := hlo _ he2; omega) | exact Or.inr he | (rcases he with he | he <;> (first | exact he | exact Or.inl he | exact Or.inr he | (exfalso; have he2 : i = _ := he; omega)))))))⟩
        | (exfalso; rw [IntKind.wrap_i64, IntKind.wrap_i64] at h40; split at hq0 <;> split at hq1 <;> omega)
      · refine L_run (.yes 16 false rfl rfl) rfl rfl (r_move (v := .int _ _) rfl) ?_
        refine L_run (.yes 16 false rfl rfl) rfl rfl (r_move (v := .int _ _) rfl) ?_
        refine L_run (.yes 16 false rfl rfl) rfl rfl (r_eql rfl rfl) ?_
        refine L_run (.yes 10 true rfl rfl) rfl rfl (r_pick_f (v := .bool _) rfl rfl) ?_
        refine L_run (.yes 10 true rfl rfl) rfl rfl (r_move (v := .bool _) rfl) ?_
        refine L_case (d := 32) rfl (fun h32 => ?_) (fun h32 => ?_)
        · refine L_pass rfl rfl rfl rfl rfl ?_
          refine L_pass rfl rfl rfl rfl rfl ?_
          refine L_pass rfl rfl rfl rfl rfl ?_
          refine L_pass rfl rfl rfl rfl rfl ?_
          refine L_pass rfl rfl rfl rfl rfl ?_
          refine L_run (.yes 10 true rfl rfl) rfl rfl (r_pick_t (v := .bool _) rfl rfl) ?_
          refine L_run (.plain rfl) rfl rfl (r_pick_t (v := .bool _) rfl rfl) ?_
          refine L_run (.plain rfl) rfl rfl (r_move (v := .bool _) rfl) ?_
          refine L_run (.yes 29 true rfl rfl) rfl rfl (r_move (v := .int _ _) rfl) ?_
          refine L_run (.yes 29 true rfl rfl) rfl rfl (r_lss rfl rfl) ?_
          refine L_run (.yes 29 true rfl rfl) rfl rfl (r_move (v := .int _ _) rfl) ?_
          refine L_run (.yes 29 true rfl rfl) rfl rfl (r_remn rfl rfl (by omega) (by omega)) ?_
          refine L_run (.yes 29 true rfl rfl) rfl rfl (r_eql rfl rfl) ?_
          refine L_run (.yes 29 true rfl rfl) rfl rfl (r_eqlb Tryd.underlying4 rfl rfl) ?_
          refine L_run (.plain rfl) rfl rfl (r_pick_t (v := .bool _) rfl rfl) ?_
          refine L_run (.plain rfl) rfl rfl (r_assign (v := .bool _) rfl) ?_
          refine L_nil ?_
          refine W_ret ?_
          refine ret1 (v := .bool _) rfl rfl ?_
          first
          | (exfalso; simp at h12; done)
          | (exfalso; refine h21 (decide_eq_decide.2 ?_); split at hq0 <;> split at hq1 <;> omega)
          | exact ⟨congrArg Value.bool (decide_eq_true (decide_eq_decide.2 (by split at hq0 <;> omega))), by (repeat (first | exact Ch.refl _ | assumption | (refine Ch.fresh ?_ (by assumption) (by intro i hi he; first | exact he | exact (not_no he).elim | exact Or.inl he | exact Or.inr (Or.inl he) | exact Or.inr (Or.inr he) | (exfalso; have he2 : _ = some i := he; have := own_base (by assumption) he2; omega) | (exfalso; have he2 : i = _ := he; omega) | (exfalso; have he2 : _ = some i := he; have := ow_base (by assumption) he2; omega) | (exfalso; have := he.1; omega) | (exfalso; have he2 : _ = some i := he; have := hlo _ he2; omega) | exact Or.inr he | (rcases he with he | he <;> (first | exact he | exact Or.inl he | exact Or.inr he | (exfalso; have he2 : i = _ := he; omega)))))))⟩
          | (exfalso; rw [IntKind.wrap_i64, IntKind.wrap_i64] at h40; split at hq0 <;> split at hq1 <;> omega)
        · refine L_run (.yes 21 false rfl rfl) rfl rfl (r_move (v := .int _ _) rfl) ?_
          refine L_run (.yes 21 false rfl rfl) rfl rfl (r_move (v := .int _ _) rfl) ?_
          refine L_run (.yes 21 false rfl rfl) rfl rfl (r_neg rfl (by first | exact wr_i64 (by omega) | rfl)) ?_
          refine L_run (.yes 21 false rfl rfl) rfl rfl (r_sub rfl rfl (by first | exact wr_i64 (by omega) | rfl)) ?_
          refine L_run (.yes 21 false rfl rfl) rfl rfl (r_eql rfl rfl) ?_
          refine L_run (.yes 10 true rfl rfl) rfl rfl (r_pick_f (v := .bool _) rfl rfl) ?_
          refine L_run (.plain rfl) rfl rfl (r_pick_t (v := .bool _) rfl rfl) ?_
          refine L_run (.plain rfl) rfl rfl (r_move (v := .bool _) rfl) ?_
          refine L_case (d := 40) rfl (fun h40 => ?_) (fun h40 => ?_)
          · refine L_run (.yes 29 true rfl rfl) rfl rfl (r_move (v := .int _ _) rfl) ?_
            refine L_run (.yes 29 true rfl rfl) rfl rfl (r_lss rfl rfl) ?_
            refine L_run (.yes 29 true rfl rfl) rfl rfl (r_move (v := .int _ _) rfl) ?_
            refine L_run (.yes 29 true rfl rfl) rfl rfl (r_remn rfl rfl (by omega) (by omega)) ?_
            refine L_run (.yes 29 true rfl rfl) rfl rfl (r_eql rfl rfl) ?_
            refine L_run (.yes 29 true rfl rfl) rfl rfl (r_eqlb Tryd.underlying4 rfl rfl) ?_
            refine L_run (.plain rfl) rfl rfl (r_pick_t (v := .bool _) rfl rfl) ?_
            refine L_run (.plain rfl) rfl rfl (r_assign (v := .bool _) rfl) ?_
            refine L_nil ?_
            refine W_ret ?_
            refine ret1 (v := .bool _) rfl rfl ?_
            first
            | (exfalso; simp at h12; done)
            | (exfalso; refine h21 (decide_eq_decide.2 ?_); split at hq0 <;> split at hq1 <;> omega)
            | exact ⟨congrArg Value.bool (decide_eq_true (decide_eq_decide.2 (by split at hq0 <;> omega))), by (repeat (first | exact Ch.refl _ | assumption | (refine Ch.fresh ?_ (by assumption) (by intro i hi he; first | exact he | exact (not_no he).elim | exact Or.inl he | exact Or.inr (Or.inl he) | exact Or.inr (Or.inr he) | (exfalso; have he2 : _ = some i := he; have := own_base (by assumption) he2; omega) | (exfalso; have he2 : i = _ := he; omega) | (exfalso; have he2 : _ = some i := he; have := ow_base (by assumption) he2; omega) | (exfalso; have := he.1; omega) | (exfalso; have he2 : _ = some i := he; have := hlo _ he2; omega) | exact Or.inr he | (rcases he with he | he <;> (first | exact he | exact Or.inl he | exact Or.inr he | (exfalso; have he2 : i = _ := he; omega)))))))⟩
            | (exfalso; rw [IntKind.wrap_i64, IntKind.wrap_i64] at h40; split at hq0 <;> split at hq1 <;> omega)
          · refine L_pass rfl rfl rfl rfl rfl ?_
            refine L_pass rfl rfl rfl rfl rfl ?_
            refine L_pass rfl rfl rfl rfl rfl ?_
            refine L_pass rfl rfl rfl rfl rfl ?_
            refine L_pass rfl rfl rfl rfl rfl ?_
            refine L_pass rfl rfl rfl rfl rfl ?_
            refine L_run (.plain rfl) rfl rfl (r_pick_f (v := .bool _) rfl rfl) ?_
            refine L_run (.plain rfl) rfl rfl (r_assign (v := .bool _) rfl) ?_
            refine L_nil ?_
            refine W_ret ?_
            refine ret1 (v := .bool _) rfl rfl ?_
            first
            | (exfalso; simp at h12; done)
            | (exfalso; refine h21 (decide_eq_decide.2 ?_); split at hq0 <;> split at hq1 <;> omega)
            | exact ⟨congrArg Value.bool (decide_eq_true (decide_eq_decide.2 (by split at hq0 <;> omega))), by (repeat (first | exact Ch.refl _ | assumption | (refine Ch.fresh ?_ (by assumption) (by intro i hi he; first | exact he | exact (not_no he).elim | exact Or.inl he | exact Or.inr (Or.inl he) | exact Or.inr (Or.inr he) | (exfalso; have he2 : _ = some i := he; have := own_base (by assumption) he2; omega) | (exfalso; have he2 : i = _ := he; omega) | (exfalso; have he2 : _ = some i := he; have := ow_base (by assumption) he2; omega) | (exfalso; have := he.1; omega) | (exfalso; have he2 : _ = some i := he; have := hlo _ he2; omega) | exact Or.inr he | (rcases he with he | he <;> (first | exact he | exact Or.inl he | exact Or.inr he | (exfalso; have he2 : i = _ := he; omega)))))))⟩
            | (exfalso; rw [IntKind.wrap_i64, IntKind.wrap_i64] at h40; split at hq0 <;> split at hq1 <;> omega)
    · refine L_pass rfl rfl rfl rfl rfl ?_
      refine L_pass rfl rfl rfl rfl rfl ?_
      refine L_pass rfl rfl rfl rfl rfl ?_
      refine L_pass rfl rfl rfl rfl rfl ?_
      refine L_pass rfl rfl rfl rfl rfl ?_
      refine L_pass rfl rfl rfl rfl rfl ?_
      refine L_passu rfl rfl rfl rfl ?_
      refine L_passu rfl rfl rfl rfl ?_
      refine L_passu rfl rfl rfl rfl ?_
      refine L_pass rfl rfl rfl rfl rfl ?_
      refine L_pass rfl rfl rfl rfl rfl ?_
      refine L_passu rfl rfl rfl rfl ?_
      refine L_passu rfl rfl rfl rfl ?_
      refine L_passu rfl rfl rfl rfl ?_
      refine L_passu rfl rfl rfl rfl ?_
      refine L_passu rfl rfl rfl rfl ?_
      refine L_pass rfl rfl rfl rfl rfl ?_
      refine L_run (.plain rfl) rfl rfl (r_pick_f (v := .bool _) rfl rfl) ?_
      refine L_run (.plain rfl) rfl rfl (r_move (v := .bool _) rfl) ?_
      refine L_pass rfl rfl rfl rfl rfl ?_
      refine L_pass rfl rfl rfl rfl rfl ?_
      refine L_pass rfl rfl rfl rfl rfl ?_
      refine L_pass rfl rfl rfl rfl rfl ?_
      refine L_pass rfl rfl rfl rfl rfl ?_
      refine L_pass rfl rfl rfl rfl rfl ?_
      refine L_run (.plain rfl) rfl rfl (r_pick_f (v := .bool _) rfl rfl) ?_
      refine L_run (.plain rfl) rfl rfl (r_assign (v := .bool _) rfl) ?_
      refine L_nil ?_
      refine W_ret ?_
      refine ret1 (v := .bool _) rfl rfl ?_
      first
      | (exfalso; simp at h12; done)
      | (exfalso; refine h21 (decide_eq_decide.2 ?_); split at hq0 <;> split at hq1 <;> omega)
      | exact ⟨congrArg Value.bool (decide_eq_true (decide_eq_decide.2 (by split at hq0 <;> omega))), by (repeat (first | exact Ch.refl _ | assumption | (refine Ch.fresh ?_ (by assumption) (by intro i hi he; first | exact he | exact (not_no he).elim | exact Or.inl he | exact Or.inr (Or.inl he) | exact Or.inr (Or.inr he) | (exfalso; have he2 : _ = some i := he; have := own_base (by assumption) he2; omega) | (exfalso; have he2 : i = _ := he; omega) | (exfalso; have he2 : _ = some i := he; have := ow_base (by assumption) he2; omega) | (exfalso; have := he.1; omega) | (exfalso; have he2 : _ = some i := he; have := hlo _ he2; omega) | exact Or.inr he | (rcases he with he | he <;> (first | exact he | exact Or.inl he | exact Or.inr he | (exfalso; have he2 : i = _ := he; omega)))))))⟩
      | (exfalso; rw [IntKind.wrap_i64, IntKind.wrap_i64] at h40; split at hq0 <;> split at hq1 <;> omega)
  · refine L_pass rfl rfl rfl rfl rfl ?_
    refine L_pass rfl rfl rfl rfl rfl ?_
    refine L_pass rfl rfl rfl rfl rfl ?_
    refine L_pass rfl rfl rfl rfl rfl ?_
    refine L_pass rfl rfl rfl rfl rfl ?_
    refine L_pass rfl rfl rfl rfl rfl ?_
    refine L_pass rfl rfl rfl rfl rfl ?_
    refine L_run (.plain rfl) rfl rfl (r_pick_f (v := .bool _) rfl rfl) ?_
    refine L_run (.plain rfl) rfl rfl (r_move (v := .bool _) rfl) ?_
    refine L_pass rfl rfl rfl rfl rfl ?_
    refine L_pass rfl rfl rfl rfl rfl ?_
    refine L_pass rfl rfl rfl rfl rfl ?_
    refine L_pass rfl rfl rfl rfl rfl ?_
    refine L_pass rfl rfl rfl rfl rfl ?_
    refine L_pass rfl rfl rfl rfl rfl ?_
    refine L_passu rfl rfl rfl rfl ?_
    refine L_passu rfl rfl rfl rfl ?_
    refine L_passu rfl rfl rfl rfl ?_
    refine L_pass rfl rfl rfl rfl rfl ?_
    refine L_pass rfl rfl rfl rfl rfl ?_
    refine L_passu rfl rfl rfl rfl ?_
    refine L_passu rfl rfl rfl rfl ?_
    refine L_passu rfl rfl rfl rfl ?_
    refine L_passu rfl rfl rfl rfl ?_
    refine L_passu rfl rfl rfl rfl ?_
    refine L_pass rfl rfl rfl rfl rfl ?_
    refine L_run (.plain rfl) rfl rfl (r_pick_f (v := .bool _) rfl rfl) ?_
    refine L_run (.plain rfl) rfl rfl (r_move (v := .bool _) rfl) ?_
    refine L_pass rfl rfl rfl rfl rfl ?_
    refine L_pass rfl rfl rfl rfl rfl ?_
    refine L_pass rfl rfl rfl rfl rfl ?_
    refine L_pass rfl rfl rfl rfl rfl ?_
    refine L_pass rfl rfl rfl rfl rfl ?_
    refine L_pass rfl rfl rfl rfl rfl ?_
    refine L_run (.plain rfl) rfl rfl (r_pick_f (v := .bool _) rfl rfl) ?_
    refine L_run (.plain rfl) rfl rfl (r_assign (v := .bool _) rfl) ?_
    refine L_nil ?_
    refine W_ret ?_
    refine ret1 (v := .bool _) rfl rfl ?_
    first
    | (exfalso; simp at h12; done)
    | (exfalso; refine h21 (decide_eq_decide.2 ?_); split at hq0 <;> split at hq1 <;> omega)
    | exact ⟨congrArg Value.bool (decide_eq_true (decide_eq_decide.2 (by split at hq0 <;> omega))), by (repeat (first | exact Ch.refl _ | assumption | (refine Ch.fresh ?_ (by assumption) (by intro i hi he; first | exact he | exact (not_no he).elim | exact Or.inl he | exact Or.inr (Or.inl he) | exact Or.inr (Or.inr he) | (exfalso; have he2 : _ = some i := he; have := own_base (by assumption) he2; omega) | (exfalso; have he2 : i = _ := he; omega) | (exfalso; have he2 : _ = some i := he; have := ow_base (by assumption) he2; omega) | (exfalso; have := he.1; omega) | (exfalso; have he2 : _ = some i := he; have := hlo _ he2; omega) | exact Or.inr he | (rcases he with he | he <;> (first | exact he | exact Or.inl he | exact Or.inr he | (exfalso; have he2 : i = _ := he; omega)))))))⟩
    | (exfalso; rw [IntKind.wrap_i64, IntKind.wrap_i64] at h40; split at hq0 <;> split at hq1 <;> omega)
end Go.Proofs.YtikpcphlmlgojaaDoor

