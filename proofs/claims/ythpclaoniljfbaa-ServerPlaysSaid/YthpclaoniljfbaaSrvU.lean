/- The server's calls, as the statements make them; the example. -/
import Derived.Test.YthpclaoniljfbaaSrvR
import Derived.Test.YthpclaoniljfbaaSrvF
namespace Go.Proofs.Ythpclaoniljfbaa
open Go Go.RowKit
set_option linter.unusedVariables false
set_option linter.unusedSimpArgs false
abbrev SrvT (base : Nat) (w w' : World) : Prop := Ch (Tm base w [61, 50]) w w'
theorem SrvAt.tm {base : Nat} {w w' : World} {b bm : Nat} {vs : Value} {S : Srv} (h : SrvAt base w b bm vs S) (c : SrvC b bm vs w w') : SrvT base w w' := c.mono fun j _ hj => by
  rcases hj with rfl | rfl | hj
  · exact Tm.of_bk h.bk (by decide) h.hb
  · exact Tm.of_mp h.mp h.hm
  · obtain ⟨cs, hb⟩ := h.ow.bk hj
    exact Tm.of_bk hb (by decide) (ow_base h.ow hj)
theorem recv_use {S S' : Srv} {m r : Msg} {k : Int} (base b bm : Nat) (vs : Value) (w0 : World) (h : recv S m = (S', k, r)) (hS : SrvAt base w0 b bm vs S) (hk : S.kept.length ≤ 50000) (hs : S.st.length ≤ 50000) (hb : base ≤ w0.heap.size) :
    Does Try.prog 12 #[.pointer (some ⟨b, 0, none⟩), m.v] w0 (fun rr w' => ∃ vs', rr = .tuple #[.int .i64 k, r.v] ∧ SrvAt base w' b bm vs' S' ∧ SrvT base w0 w') := by
  refine (recv_walk base b bm vs S m w0 hS (by omega) (by omega) hb).mono ?_
  rintro rr w' ⟨vs', h1, h2, h3, _⟩
  rw [h] at h1 h2
  exact ⟨vs', h1, h2, hS.tm h3⟩
theorem fin_use {S S' : Srv} {r : Msg} {life seq way e : Int} {body : ByteArray} (base b bm : Nat) (vs : Value) (w0 : World) (h : fin S life seq way body = (S', r, e)) (hS : SrvAt base w0 b bm vs S) (hk : S.kept.length ≤ 50000) :
    Does Try.prog 14 #[.pointer (some ⟨b, 0, none⟩), .int .u64 life, .int .u64 seq, .int .i64 way, .string body] w0 (fun rr w' => rr = .tuple #[r.v, .int .i64 e] ∧ SrvAt base w' b bm vs S' ∧ SrvT base w0 w') := by
  refine (fin_walk base b bm vs S life seq way body w0 hS hk).mono ?_
  rintro rr w' ⟨h1, h2, h3⟩
  rw [h] at h1 h2
  exact ⟨h1, h2, hS.tm h3⟩
def awS0 : Srv := ⟨5, 0, 1, [], []⟩
abbrev callM (life seq below : Int) : Msg := ⟨0, life, seq, below, 0, { data := #[103, 111] }, 0, { data := #[] }⟩
abbrev awM : Msg := ⟨1, 1, 1, 0, 0, { data := #[] }, 0, { data := #[120] }⟩
abbrev awZ : Msg := ⟨0, 0, 0, 0, 0, { data := #[] }, 0, { data := #[] }⟩
def awS1 : Srv := ⟨5, 1, 1, [(1, awZ)], [(1, 1)]⟩
def awS2 : Srv := ⟨5, 1, 1, [(1, awM)], [(1, 1)]⟩
def awS3 : Srv := ⟨5, 1, 2, [(2, awZ)], [(1, 1), (1, 2)]⟩
theorem aw1 : recv awS0 (callM 1 1 1) = (awS1, 1, awZ) := by kernel_rfl
theorem aw2 : recv awS1 (callM 1 1 1) = (awS1, 0, awZ) := by kernel_rfl
theorem aw3 : fin awS1 1 1 0 { data := #[120] } = (awS2, awM, 0) := by kernel_rfl
theorem aw4 : recv awS2 (callM 1 1 1) = (awS2, 2, awM) := by kernel_rfl
theorem aw5 : recv awS2 (callM 1 2 2) = (awS3, 1, awZ) := by kernel_rfl
theorem aw6 : recv awS3 (callM 1 1 1) = (awS3, 0, awZ) := by kernel_rfl
set_option maxHeartbeats 4000000 in
theorem awake_walk  (w0 : World) : Does Try.prog 9 #[] w0 (fun r w' => r = .bool true ∧ Nw w0 w') := by
  refine fn_of (n := 113) (args := []) Try.func9 rfl rfl rfl ?_
  refine W_seq ?_
  refine W_region ?_
  refine L_run (.plain rfl) rfl rfl (r_assign (v := .bool _) rfl) ?_
  refine L_nil ?_
  refine W_seq ?_
  refine W_region ?_
  refine L_call (.plain rfl) rfl rfl (r_call Try.func8 rfl rfl rfl (by rfl)) (new_walk 5 _ (by decide)) ?_
  rintro v16 w1 ⟨b, bm, rfl, hS0, c1⟩
  have hz1 := c1.size
  have hA0 : SrvAt w0.heap.size w1 b bm _ awS0 := hS0.base' (by omega)
  refine L_run (.plain rfl) rfl rfl (r_move (by conv => lhs; whnf)) ?_
  refine L_run (.plain rfl) rfl rfl (r_ext2_0 rfl) ?_
  refine L_run (.plain rfl) rfl rfl (r_ext2_1 rfl) ?_
  refine L_run (.plain rfl) rfl rfl (r_assign (v := .pointer _) rfl) ?_
  refine L_run (.plain rfl) rfl rfl (r_assign (v := .int _ _) rfl) ?_
  refine L_nil ?_
  refine W_seq ?_
  refine W_seq ?_
  refine W_region ?_
  refine L_run (.plain rfl) rfl rfl (r_move (v := .int _ _) rfl) ?_
  refine L_run (.plain rfl) rfl rfl (r_neq rfl rfl) ?_
  refine L_as (v := .bool _) (v' := .bool false) 20 rfl (dec_f (by simp)).symm ?_
  refine L_run (.plain rfl) rfl rfl (r_move (v := .bool _) rfl) ?_
  refine L_run (.yes 2 false rfl rfl) rfl rfl (r_move (v := .pointer _) rfl) ?_
  refine L_run (.yes 2 false rfl rfl) rfl rfl (r_eqpnil Try.underlying23 rfl rfl) ?_
  refine L_as (v := .bool _) (v' := .bool false) 23 rfl (congrArg Value.bool (by rfl)) ?_
  refine L_run (.plain rfl) rfl rfl (r_pick_f (v := .bool _) rfl rfl) ?_
  refine L_nil ?_
  refine W_false rfl ?_
  refine W_skip ?_
  refine W_seq ?_
  refine W_region ?_
  refine L_run (.plain rfl) rfl rfl (r_move (v := .pointer _) rfl) ?_
  refine L_call (.plain rfl) rfl rfl (r_call Try.func20 rfl rfl rfl (by rfl)) (call_walk 1 1 1 _) ?_
  rintro v27 w2 ⟨rfl, c2⟩
  have hz2 := c2.size
  refine L_call (.plain rfl) rfl rfl (r_call Try.func12 rfl rfl rfl (by rfl)) (recv_use w0.heap.size b bm _ _ aw1 (hA0.nw (by (repeat (first | exact Ch.refl _ | assumption | (refine Ch.fresh ?_ (by assumption) (by intro i hi he; first | exact he | exact (not_no he).elim | exact Or.inl he | exact Or.inr (Or.inl he) | exact Or.inr (Or.inr he) | (exfalso; have he2 : _ = some i := he; have := own_base (by assumption) he2; omega) | (exfalso; have he2 : i = _ := he; omega) | (exfalso; have he2 : _ = some i := he; have := ow_base (by assumption) he2; omega) | (exfalso; have := he.1; omega) | (exfalso; have he2 : _ = some i := he; have := hlo _ he2; omega))))))) (by decide) (by decide) (by omega)) ?_
  rintro v28 w3 ⟨vs1, rfl, hA1, c3⟩
  have hz3 := c3.size
  refine L_run (.plain rfl) rfl rfl (r_move (by conv => lhs; whnf)) ?_
  refine L_run (.plain rfl) rfl rfl (r_ext2_0 rfl) ?_
  refine L_run (.plain rfl) rfl rfl (r_ext2_1 rfl) ?_
  refine L_new (.plain rfl) rfl rfl (r_alloca rfl) (fun w4 b4 hb4 eb4 hs4 c4 => ?_)
  refine L_run (.plain rfl) rfl rfl (r_assign (v := .int _ _) rfl) ?_
  refine L_storerow (.plain rfl) rfl rfl (by (exact Bk.to (by assumption) (by (repeat (first | exact Sm.refl _ _ | (refine Sm.stepT (by assumption) (by intro hlt hsm; first | exact not_no | (intro he; have he2 : _ = some _ := he; have := own_base (by assumption) he2; omega) | (intro he; have he2 : _ = _ := he; omega) | (intro he; have he2 : _ = some _ := he; have := ow_base (by assumption) he2; omega) | (intro he; have := he.1; omega) | exact bk_not (by assumption) hsm rfl | exact mp_not (by assumption) hsm | exact bkm_not (by assumption) hsm rfl | exact ownm_not (by assumption) hi hsm rfl | exact owm_not (by assumption) hi hsm rfl | exact own_not (by assumption) hi hsm rfl | exact ow_not (by assumption) hi hsm rfl | (intro he; have he2 : _ = some _ := he; have := Ow.lt (by assumption) he2; omega) | (intro he; have he2 : _ = some _ := he; have := Ow.lt (by assumption) he2; have := own_base (by assumption) hi; omega) | (intro he; have he2 : _ = some _ := he; have := Ow.lt how he2; first | omega | (have := own_base (by assumption) hi; omega)) | (intro he; have he2 : _ = _ := he; have := Ow.lt how hi; omega) | (intro he; have he2 : _ = _ := he; have := own_base (by assumption) hi; omega) | (intro he; have he2 : _ = _ := he; have := ow_base (by assumption) hi; omega) | (intro he; have he2 : _ = _ := he; rw [he2] at hi; exact absurd hi (by assumption)) | (intro he; have he2 : _ = some _ := he; have h3 := own_lt (by assumption) he2; first | omega | (have h4 : _ = some _ := hi; simp [Value.ownBlock] at h4; omega)) | (intro he; have he2 : _ = some _ := he; have h3 := ow_base (by assumption) he2; have h4 : _ = some _ := hi; simp [Value.ownBlock] at h4; omega) | (intro he; have he2 : _ = some _ := he; exact absurd he2 (hsep _ hi)) | (intro he; have he2 : _ = _ := he; have := hlo _ hi; omega) | (intro he; have he2 : _ = some _ := he; have := hlo _ he2; omega) | (intro he; first | exact absurd he (by assumption) | exact absurd he.symm (by assumption))) ?_)))))) (by first | rfl | (simp; done) | assumption) (by first | rfl | assumption) (by first | rfl | (simp [Value.oneCell']; done) | assumption) (fun w5 hb5 hs5 c5 => ?_)
  refine L_nil ?_
  refine W_seq ?_
  refine W_region ?_
  refine L_run (.plain rfl) rfl rfl (r_move (v := .pointer _) rfl) ?_
  refine L_call (.plain rfl) rfl rfl (r_call Try.func20 rfl rfl rfl (by rfl)) (call_walk 1 1 1 _) ?_
  rintro v33 w6 ⟨rfl, c6⟩
  have hz6 := c6.size
  refine L_call (.plain rfl) rfl rfl (r_call Try.func12 rfl rfl rfl (by rfl)) (recv_use w0.heap.size b bm _ _ aw2 (hA1.nw (by (repeat (first | exact Ch.refl _ | assumption | (refine Ch.fresh ?_ (by assumption) (by intro i hi he; first | exact he | exact (not_no he).elim | exact Or.inl he | exact Or.inr (Or.inl he) | exact Or.inr (Or.inr he) | (exfalso; have he2 : _ = some i := he; have := own_base (by assumption) he2; omega) | (exfalso; have he2 : i = _ := he; omega) | (exfalso; have he2 : _ = some i := he; have := ow_base (by assumption) he2; omega) | (exfalso; have := he.1; omega) | (exfalso; have he2 : _ = some i := he; have := hlo _ he2; omega))))))) (by decide) (by decide) (by omega)) ?_
  rintro v34 w7 ⟨vs2, rfl, hA2, c7⟩
  have hz7 := c7.size
  refine L_run (.plain rfl) rfl rfl (r_move (by conv => lhs; whnf)) ?_
  refine L_run (.plain rfl) rfl rfl (r_ext2_0 rfl) ?_
  refine L_run (.plain rfl) rfl rfl (r_ext2_1 rfl) ?_
  refine L_new (.plain rfl) rfl rfl (r_alloca rfl) (fun w8 b6 hb6 eb8 hs8 c8 => ?_)
  refine L_run (.plain rfl) rfl rfl (r_assign (v := .int _ _) rfl) ?_
  refine L_storerow (.plain rfl) rfl rfl (by (exact Bk.to (by assumption) (by (repeat (first | exact Sm.refl _ _ | (refine Sm.stepT (by assumption) (by intro hlt hsm; first | exact not_no | (intro he; have he2 : _ = some _ := he; have := own_base (by assumption) he2; omega) | (intro he; have he2 : _ = _ := he; omega) | (intro he; have he2 : _ = some _ := he; have := ow_base (by assumption) he2; omega) | (intro he; have := he.1; omega) | exact bk_not (by assumption) hsm rfl | exact mp_not (by assumption) hsm | exact bkm_not (by assumption) hsm rfl | exact ownm_not (by assumption) hi hsm rfl | exact owm_not (by assumption) hi hsm rfl | exact own_not (by assumption) hi hsm rfl | exact ow_not (by assumption) hi hsm rfl | (intro he; have he2 : _ = some _ := he; have := Ow.lt (by assumption) he2; omega) | (intro he; have he2 : _ = some _ := he; have := Ow.lt (by assumption) he2; have := own_base (by assumption) hi; omega) | (intro he; have he2 : _ = some _ := he; have := Ow.lt how he2; first | omega | (have := own_base (by assumption) hi; omega)) | (intro he; have he2 : _ = _ := he; have := Ow.lt how hi; omega) | (intro he; have he2 : _ = _ := he; have := own_base (by assumption) hi; omega) | (intro he; have he2 : _ = _ := he; have := ow_base (by assumption) hi; omega) | (intro he; have he2 : _ = _ := he; rw [he2] at hi; exact absurd hi (by assumption)) | (intro he; have he2 : _ = some _ := he; have h3 := own_lt (by assumption) he2; first | omega | (have h4 : _ = some _ := hi; simp [Value.ownBlock] at h4; omega)) | (intro he; have he2 : _ = some _ := he; have h3 := ow_base (by assumption) he2; have h4 : _ = some _ := hi; simp [Value.ownBlock] at h4; omega) | (intro he; have he2 : _ = some _ := he; exact absurd he2 (hsep _ hi)) | (intro he; have he2 : _ = _ := he; have := hlo _ hi; omega) | (intro he; have he2 : _ = some _ := he; have := hlo _ he2; omega) | (intro he; first | exact absurd he (by assumption) | exact absurd he.symm (by assumption))) ?_)))))) (by first | rfl | (simp; done) | assumption) (by first | rfl | assumption) (by first | rfl | (simp [Value.oneCell']; done) | assumption) (fun w9 hb9 hs9 c9 => ?_)
  refine L_nil ?_
  refine W_seq ?_
  refine W_region ?_
  refine L_run (.plain rfl) rfl rfl (r_move (v := .pointer _) rfl) ?_
  refine L_call (.plain rfl) rfl rfl (r_call Try.func14 rfl rfl rfl (by rfl)) (fin_use w0.heap.size b bm _ _ aw3 (hA2.nw (by (repeat (first | exact Ch.refl _ | assumption | (refine Ch.fresh ?_ (by assumption) (by intro i hi he; first | exact he | exact (not_no he).elim | exact Or.inl he | exact Or.inr (Or.inl he) | exact Or.inr (Or.inr he) | (exfalso; have he2 : _ = some i := he; have := own_base (by assumption) he2; omega) | (exfalso; have he2 : i = _ := he; omega) | (exfalso; have he2 : _ = some i := he; have := ow_base (by assumption) he2; omega) | (exfalso; have := he.1; omega) | (exfalso; have he2 : _ = some i := he; have := hlo _ he2; omega))))))) (by decide)) ?_
  rintro v39 w10 ⟨rfl, hA3, c10⟩
  have hz10 := c10.size
  refine L_run (.plain rfl) rfl rfl (r_move (by conv => lhs; whnf)) ?_
  refine L_run (.plain rfl) rfl rfl (r_ext2_0 rfl) ?_
  refine L_run (.plain rfl) rfl rfl (r_ext2_1 rfl) ?_
  refine L_new (.plain rfl) rfl rfl (r_alloca rfl) (fun w11 b7 hb7 eb11 hs11 c11 => ?_)
  refine L_storerow (.plain rfl) rfl rfl (by (exact Bk.to (by assumption) (by (repeat (first | exact Sm.refl _ _ | (refine Sm.stepT (by assumption) (by intro hlt hsm; first | exact not_no | (intro he; have he2 : _ = some _ := he; have := own_base (by assumption) he2; omega) | (intro he; have he2 : _ = _ := he; omega) | (intro he; have he2 : _ = some _ := he; have := ow_base (by assumption) he2; omega) | (intro he; have := he.1; omega) | exact bk_not (by assumption) hsm rfl | exact mp_not (by assumption) hsm | exact bkm_not (by assumption) hsm rfl | exact ownm_not (by assumption) hi hsm rfl | exact owm_not (by assumption) hi hsm rfl | exact own_not (by assumption) hi hsm rfl | exact ow_not (by assumption) hi hsm rfl | (intro he; have he2 : _ = some _ := he; have := Ow.lt (by assumption) he2; omega) | (intro he; have he2 : _ = some _ := he; have := Ow.lt (by assumption) he2; have := own_base (by assumption) hi; omega) | (intro he; have he2 : _ = some _ := he; have := Ow.lt how he2; first | omega | (have := own_base (by assumption) hi; omega)) | (intro he; have he2 : _ = _ := he; have := Ow.lt how hi; omega) | (intro he; have he2 : _ = _ := he; have := own_base (by assumption) hi; omega) | (intro he; have he2 : _ = _ := he; have := ow_base (by assumption) hi; omega) | (intro he; have he2 : _ = _ := he; rw [he2] at hi; exact absurd hi (by assumption)) | (intro he; have he2 : _ = some _ := he; have h3 := own_lt (by assumption) he2; first | omega | (have h4 : _ = some _ := hi; simp [Value.ownBlock] at h4; omega)) | (intro he; have he2 : _ = some _ := he; have h3 := ow_base (by assumption) he2; have h4 : _ = some _ := hi; simp [Value.ownBlock] at h4; omega) | (intro he; have he2 : _ = some _ := he; exact absurd he2 (hsep _ hi)) | (intro he; have he2 : _ = _ := he; have := hlo _ hi; omega) | (intro he; have he2 : _ = some _ := he; have := hlo _ he2; omega) | (intro he; first | exact absurd he (by assumption) | exact absurd he.symm (by assumption))) ?_)))))) (by first | rfl | (simp; done) | assumption) (by first | rfl | assumption) (by first | rfl | (simp [Value.oneCell']; done) | assumption) (fun w12 hb12 hs12 c12 => ?_)
  refine L_run (.plain rfl) rfl rfl (r_assign (v := .int _ _) rfl) ?_
  refine L_nil ?_
  refine W_seq ?_
  refine W_region ?_
  refine L_run (.plain rfl) rfl rfl (r_move (v := .pointer _) rfl) ?_
  refine L_call (.plain rfl) rfl rfl (r_call Try.func20 rfl rfl rfl (by rfl)) (call_walk 1 1 1 _) ?_
  rintro v44 w13 ⟨rfl, c13⟩
  have hz13 := c13.size
  refine L_call (.plain rfl) rfl rfl (r_call Try.func12 rfl rfl rfl (by rfl)) (recv_use w0.heap.size b bm _ _ aw4 (hA3.nw (by (repeat (first | exact Ch.refl _ | assumption | (refine Ch.fresh ?_ (by assumption) (by intro i hi he; first | exact he | exact (not_no he).elim | exact Or.inl he | exact Or.inr (Or.inl he) | exact Or.inr (Or.inr he) | (exfalso; have he2 : _ = some i := he; have := own_base (by assumption) he2; omega) | (exfalso; have he2 : i = _ := he; omega) | (exfalso; have he2 : _ = some i := he; have := ow_base (by assumption) he2; omega) | (exfalso; have := he.1; omega) | (exfalso; have he2 : _ = some i := he; have := hlo _ he2; omega))))))) (by decide) (by decide) (by omega)) ?_
  rintro v45 w14 ⟨vs4, rfl, hA4, c14⟩
  have hz14 := c14.size
  refine L_run (.plain rfl) rfl rfl (r_move (by conv => lhs; whnf)) ?_
  refine L_run (.plain rfl) rfl rfl (r_ext2_0 rfl) ?_
  refine L_run (.plain rfl) rfl rfl (r_ext2_1 rfl) ?_
  refine L_new (.plain rfl) rfl rfl (r_alloca rfl) (fun w15 b10 hb10 eb15 hs15 c15 => ?_)
  refine L_run (.plain rfl) rfl rfl (r_assign (v := .int _ _) rfl) ?_
  refine L_storerow (.plain rfl) rfl rfl (by (exact Bk.to (by assumption) (by (repeat (first | exact Sm.refl _ _ | (refine Sm.stepT (by assumption) (by intro hlt hsm; first | exact not_no | (intro he; have he2 : _ = some _ := he; have := own_base (by assumption) he2; omega) | (intro he; have he2 : _ = _ := he; omega) | (intro he; have he2 : _ = some _ := he; have := ow_base (by assumption) he2; omega) | (intro he; have := he.1; omega) | exact bk_not (by assumption) hsm rfl | exact mp_not (by assumption) hsm | exact bkm_not (by assumption) hsm rfl | exact ownm_not (by assumption) hi hsm rfl | exact owm_not (by assumption) hi hsm rfl | exact own_not (by assumption) hi hsm rfl | exact ow_not (by assumption) hi hsm rfl | (intro he; have he2 : _ = some _ := he; have := Ow.lt (by assumption) he2; omega) | (intro he; have he2 : _ = some _ := he; have := Ow.lt (by assumption) he2; have := own_base (by assumption) hi; omega) | (intro he; have he2 : _ = some _ := he; have := Ow.lt how he2; first | omega | (have := own_base (by assumption) hi; omega)) | (intro he; have he2 : _ = _ := he; have := Ow.lt how hi; omega) | (intro he; have he2 : _ = _ := he; have := own_base (by assumption) hi; omega) | (intro he; have he2 : _ = _ := he; have := ow_base (by assumption) hi; omega) | (intro he; have he2 : _ = _ := he; rw [he2] at hi; exact absurd hi (by assumption)) | (intro he; have he2 : _ = some _ := he; have h3 := own_lt (by assumption) he2; first | omega | (have h4 : _ = some _ := hi; simp [Value.ownBlock] at h4; omega)) | (intro he; have he2 : _ = some _ := he; have h3 := ow_base (by assumption) he2; have h4 : _ = some _ := hi; simp [Value.ownBlock] at h4; omega) | (intro he; have he2 : _ = some _ := he; exact absurd he2 (hsep _ hi)) | (intro he; have he2 : _ = _ := he; have := hlo _ hi; omega) | (intro he; have he2 : _ = some _ := he; have := hlo _ he2; omega) | (intro he; first | exact absurd he (by assumption) | exact absurd he.symm (by assumption))) ?_)))))) (by first | rfl | (simp; done) | assumption) (by first | rfl | assumption) (by first | rfl | (simp [Value.oneCell']; done) | assumption) (fun w16 hb16 hs16 c16 => ?_)
  refine L_nil ?_
  refine W_seq ?_
  refine W_region ?_
  refine L_run (.plain rfl) rfl rfl (r_move (v := .pointer _) rfl) ?_
  refine L_call (.plain rfl) rfl rfl (r_call Try.func20 rfl rfl rfl (by rfl)) (call_walk 1 2 2 _) ?_
  rintro v50 w17 ⟨rfl, c17⟩
  have hz17 := c17.size
  refine L_call (.plain rfl) rfl rfl (r_call Try.func12 rfl rfl rfl (by rfl)) (recv_use w0.heap.size b bm _ _ aw5 (hA4.nw (by (repeat (first | exact Ch.refl _ | assumption | (refine Ch.fresh ?_ (by assumption) (by intro i hi he; first | exact he | exact (not_no he).elim | exact Or.inl he | exact Or.inr (Or.inl he) | exact Or.inr (Or.inr he) | (exfalso; have he2 : _ = some i := he; have := own_base (by assumption) he2; omega) | (exfalso; have he2 : i = _ := he; omega) | (exfalso; have he2 : _ = some i := he; have := ow_base (by assumption) he2; omega) | (exfalso; have := he.1; omega) | (exfalso; have he2 : _ = some i := he; have := hlo _ he2; omega))))))) (by decide) (by decide) (by omega)) ?_
  rintro v51 w18 ⟨vs5, rfl, hA5, c18⟩
  have hz18 := c18.size
  refine L_run (.plain rfl) rfl rfl (r_move (by conv => lhs; whnf)) ?_
  refine L_run (.plain rfl) rfl rfl (r_ext2_0 rfl) ?_
  refine L_run (.plain rfl) rfl rfl (r_ext2_1 rfl) ?_
  refine L_new (.plain rfl) rfl rfl (r_alloca rfl) (fun w19 b12 hb12 eb19 hs19 c19 => ?_)
  refine L_run (.plain rfl) rfl rfl (r_assign (v := .int _ _) rfl) ?_
  refine L_storerow (.plain rfl) rfl rfl (by (exact Bk.to (by assumption) (by (repeat (first | exact Sm.refl _ _ | (refine Sm.stepT (by assumption) (by intro hlt hsm; first | exact not_no | (intro he; have he2 : _ = some _ := he; have := own_base (by assumption) he2; omega) | (intro he; have he2 : _ = _ := he; omega) | (intro he; have he2 : _ = some _ := he; have := ow_base (by assumption) he2; omega) | (intro he; have := he.1; omega) | exact bk_not (by assumption) hsm rfl | exact mp_not (by assumption) hsm | exact bkm_not (by assumption) hsm rfl | exact ownm_not (by assumption) hi hsm rfl | exact owm_not (by assumption) hi hsm rfl | exact own_not (by assumption) hi hsm rfl | exact ow_not (by assumption) hi hsm rfl | (intro he; have he2 : _ = some _ := he; have := Ow.lt (by assumption) he2; omega) | (intro he; have he2 : _ = some _ := he; have := Ow.lt (by assumption) he2; have := own_base (by assumption) hi; omega) | (intro he; have he2 : _ = some _ := he; have := Ow.lt how he2; first | omega | (have := own_base (by assumption) hi; omega)) | (intro he; have he2 : _ = _ := he; have := Ow.lt how hi; omega) | (intro he; have he2 : _ = _ := he; have := own_base (by assumption) hi; omega) | (intro he; have he2 : _ = _ := he; have := ow_base (by assumption) hi; omega) | (intro he; have he2 : _ = _ := he; rw [he2] at hi; exact absurd hi (by assumption)) | (intro he; have he2 : _ = some _ := he; have h3 := own_lt (by assumption) he2; first | omega | (have h4 : _ = some _ := hi; simp [Value.ownBlock] at h4; omega)) | (intro he; have he2 : _ = some _ := he; have h3 := ow_base (by assumption) he2; have h4 : _ = some _ := hi; simp [Value.ownBlock] at h4; omega) | (intro he; have he2 : _ = some _ := he; exact absurd he2 (hsep _ hi)) | (intro he; have he2 : _ = _ := he; have := hlo _ hi; omega) | (intro he; have he2 : _ = some _ := he; have := hlo _ he2; omega) | (intro he; first | exact absurd he (by assumption) | exact absurd he.symm (by assumption))) ?_)))))) (by first | rfl | (simp; done) | assumption) (by first | rfl | assumption) (by first | rfl | (simp [Value.oneCell']; done) | assumption) (fun w20 hb20 hs20 c20 => ?_)
  refine L_nil ?_
  refine W_seq ?_
  refine W_region ?_
  refine L_run (.plain rfl) rfl rfl (r_move (v := .pointer _) rfl) ?_
  refine L_call (.plain rfl) rfl rfl (r_call Try.func20 rfl rfl rfl (by rfl)) (call_walk 1 1 1 _) ?_
  rintro v56 w21 ⟨rfl, c21⟩
  have hz21 := c21.size
  refine L_call (.plain rfl) rfl rfl (r_call Try.func12 rfl rfl rfl (by rfl)) (recv_use w0.heap.size b bm _ _ aw6 (hA5.nw (by (repeat (first | exact Ch.refl _ | assumption | (refine Ch.fresh ?_ (by assumption) (by intro i hi he; first | exact he | exact (not_no he).elim | exact Or.inl he | exact Or.inr (Or.inl he) | exact Or.inr (Or.inr he) | (exfalso; have he2 : _ = some i := he; have := own_base (by assumption) he2; omega) | (exfalso; have he2 : i = _ := he; omega) | (exfalso; have he2 : _ = some i := he; have := ow_base (by assumption) he2; omega) | (exfalso; have := he.1; omega) | (exfalso; have he2 : _ = some i := he; have := hlo _ he2; omega))))))) (by decide) (by decide) (by omega)) ?_
  rintro v57 w22 ⟨vs6, rfl, hA6, c22⟩
  have hz22 := c22.size
  refine L_run (.plain rfl) rfl rfl (r_move (by conv => lhs; whnf)) ?_
  refine L_run (.plain rfl) rfl rfl (r_ext2_0 rfl) ?_
  refine L_run (.plain rfl) rfl rfl (r_ext2_1 rfl) ?_
  refine L_new (.plain rfl) rfl rfl (r_alloca rfl) (fun w23 b14 hb14 eb23 hs23 c23 => ?_)
  refine L_run (.plain rfl) rfl rfl (r_assign (v := .int _ _) rfl) ?_
  refine L_storerow (.plain rfl) rfl rfl (by (exact Bk.to (by assumption) (by (repeat (first | exact Sm.refl _ _ | (refine Sm.stepT (by assumption) (by intro hlt hsm; first | exact not_no | (intro he; have he2 : _ = some _ := he; have := own_base (by assumption) he2; omega) | (intro he; have he2 : _ = _ := he; omega) | (intro he; have he2 : _ = some _ := he; have := ow_base (by assumption) he2; omega) | (intro he; have := he.1; omega) | exact bk_not (by assumption) hsm rfl | exact mp_not (by assumption) hsm | exact bkm_not (by assumption) hsm rfl | exact ownm_not (by assumption) hi hsm rfl | exact owm_not (by assumption) hi hsm rfl | exact own_not (by assumption) hi hsm rfl | exact ow_not (by assumption) hi hsm rfl | (intro he; have he2 : _ = some _ := he; have := Ow.lt (by assumption) he2; omega) | (intro he; have he2 : _ = some _ := he; have := Ow.lt (by assumption) he2; have := own_base (by assumption) hi; omega) | (intro he; have he2 : _ = some _ := he; have := Ow.lt how he2; first | omega | (have := own_base (by assumption) hi; omega)) | (intro he; have he2 : _ = _ := he; have := Ow.lt how hi; omega) | (intro he; have he2 : _ = _ := he; have := own_base (by assumption) hi; omega) | (intro he; have he2 : _ = _ := he; have := ow_base (by assumption) hi; omega) | (intro he; have he2 : _ = _ := he; rw [he2] at hi; exact absurd hi (by assumption)) | (intro he; have he2 : _ = some _ := he; have h3 := own_lt (by assumption) he2; first | omega | (have h4 : _ = some _ := hi; simp [Value.ownBlock] at h4; omega)) | (intro he; have he2 : _ = some _ := he; have h3 := ow_base (by assumption) he2; have h4 : _ = some _ := hi; simp [Value.ownBlock] at h4; omega) | (intro he; have he2 : _ = some _ := he; exact absurd he2 (hsep _ hi)) | (intro he; have he2 : _ = _ := he; have := hlo _ hi; omega) | (intro he; have he2 : _ = some _ := he; have := hlo _ he2; omega) | (intro he; first | exact absurd he (by assumption) | exact absurd he.symm (by assumption))) ?_)))))) (by first | rfl | (simp; done) | assumption) (by first | rfl | assumption) (by first | rfl | (simp [Value.oneCell']; done) | assumption) (fun w24 hb24 hs24 c24 => ?_)
  refine L_nil ?_
  refine W_seq ?_
  refine W_region ?_
  refine L_run (.plain rfl) rfl rfl (r_move (v := .int _ _) rfl) ?_
  refine L_run (.plain rfl) rfl rfl (r_eql rfl rfl) ?_
  refine L_run (.plain rfl) rfl rfl (r_move (v := .bool _) rfl) ?_
  refine L_as (v := .bool _) (v' := .bool true) 62 rfl (dec_t (by rfl)).symm ?_
  refine L_run (.yes 2 true rfl rfl) rfl rfl (r_move (v := .int _ _) rfl) ?_
  refine L_run (.yes 2 true rfl rfl) rfl rfl (r_eql rfl rfl) ?_
  refine L_run (.plain rfl) rfl rfl (r_pick_t (v := .bool _) rfl rfl) ?_
  refine L_run (.plain rfl) rfl rfl (r_move (v := .bool _) rfl) ?_
  refine L_as (v := .bool _) (v' := .bool true) 66 rfl (dec_t (by rfl)).symm ?_
  refine L_run (.yes 6 true rfl rfl) rfl rfl (r_move (v := .int _ _) rfl) ?_
  refine L_run (.yes 6 true rfl rfl) rfl rfl (r_eql rfl rfl) ?_
  refine L_run (.plain rfl) rfl rfl (r_pick_t (v := .bool _) rfl rfl) ?_
  refine L_run (.plain rfl) rfl rfl (r_move (v := .bool _) rfl) ?_
  refine L_as (v := .bool _) (v' := .bool true) 70 rfl (dec_t (by rfl)).symm ?_
  refine L_run (.yes 10 true rfl rfl) rfl rfl (r_move (v := .int _ _) rfl) ?_
  refine L_run (.yes 10 true rfl rfl) rfl rfl (r_eql rfl rfl) ?_
  refine L_run (.plain rfl) rfl rfl (r_pick_t (v := .bool _) rfl rfl) ?_
  refine L_run (.plain rfl) rfl rfl (r_move (v := .bool _) rfl) ?_
  refine L_as (v := .bool _) (v' := .bool true) 74 rfl (dec_t (by rfl)).symm ?_
  refine L_run (.yes 14 true rfl rfl) rfl rfl (r_loadrow Try.underlying33 rfl rfl (by (exact Bk.to (by assumption) (by (repeat (first | exact Sm.refl _ _ | (refine Sm.stepT (by assumption) (by intro hlt hsm; first | exact not_no | (intro he; have he2 : _ = some _ := he; have := own_base (by assumption) he2; omega) | (intro he; have he2 : _ = _ := he; omega) | (intro he; have he2 : _ = some _ := he; have := ow_base (by assumption) he2; omega) | (intro he; have := he.1; omega) | exact bk_not (by assumption) hsm rfl | exact mp_not (by assumption) hsm | exact bkm_not (by assumption) hsm rfl | exact ownm_not (by assumption) hi hsm rfl | exact owm_not (by assumption) hi hsm rfl | exact own_not (by assumption) hi hsm rfl | exact ow_not (by assumption) hi hsm rfl | (intro he; have he2 : _ = some _ := he; have := Ow.lt (by assumption) he2; omega) | (intro he; have he2 : _ = some _ := he; have := Ow.lt (by assumption) he2; have := own_base (by assumption) hi; omega) | (intro he; have he2 : _ = some _ := he; have := Ow.lt how he2; first | omega | (have := own_base (by assumption) hi; omega)) | (intro he; have he2 : _ = _ := he; have := Ow.lt how hi; omega) | (intro he; have he2 : _ = _ := he; have := own_base (by assumption) hi; omega) | (intro he; have he2 : _ = _ := he; have := ow_base (by assumption) hi; omega) | (intro he; have he2 : _ = _ := he; rw [he2] at hi; exact absurd hi (by assumption)) | (intro he; have he2 : _ = some _ := he; have h3 := own_lt (by assumption) he2; first | omega | (have h4 : _ = some _ := hi; simp [Value.ownBlock] at h4; omega)) | (intro he; have he2 : _ = some _ := he; have h3 := ow_base (by assumption) he2; have h4 : _ = some _ := hi; simp [Value.ownBlock] at h4; omega) | (intro he; have he2 : _ = some _ := he; exact absurd he2 (hsep _ hi)) | (intro he; have he2 : _ = _ := he; have := hlo _ hi; omega) | (intro he; have he2 : _ = some _ := he; have := hlo _ he2; omega) | (intro he; first | exact absurd he (by assumption) | exact absurd he.symm (by assumption))) ?_)))))) (by first | rfl | assumption)) ?_
  refine L_run (.yes 14 true rfl rfl) rfl rfl (r_loadrow Try.underlying33 rfl rfl (by (exact Bk.to (by assumption) (by (repeat (first | exact Sm.refl _ _ | (refine Sm.stepT (by assumption) (by intro hlt hsm; first | exact not_no | (intro he; have he2 : _ = some _ := he; have := own_base (by assumption) he2; omega) | (intro he; have he2 : _ = _ := he; omega) | (intro he; have he2 : _ = some _ := he; have := ow_base (by assumption) he2; omega) | (intro he; have := he.1; omega) | exact bk_not (by assumption) hsm rfl | exact mp_not (by assumption) hsm | exact bkm_not (by assumption) hsm rfl | exact ownm_not (by assumption) hi hsm rfl | exact owm_not (by assumption) hi hsm rfl | exact own_not (by assumption) hi hsm rfl | exact ow_not (by assumption) hi hsm rfl | (intro he; have he2 : _ = some _ := he; have := Ow.lt (by assumption) he2; omega) | (intro he; have he2 : _ = some _ := he; have := Ow.lt (by assumption) he2; have := own_base (by assumption) hi; omega) | (intro he; have he2 : _ = some _ := he; have := Ow.lt how he2; first | omega | (have := own_base (by assumption) hi; omega)) | (intro he; have he2 : _ = _ := he; have := Ow.lt how hi; omega) | (intro he; have he2 : _ = _ := he; have := own_base (by assumption) hi; omega) | (intro he; have he2 : _ = _ := he; have := ow_base (by assumption) hi; omega) | (intro he; have he2 : _ = _ := he; rw [he2] at hi; exact absurd hi (by assumption)) | (intro he; have he2 : _ = some _ := he; have h3 := own_lt (by assumption) he2; first | omega | (have h4 : _ = some _ := hi; simp [Value.ownBlock] at h4; omega)) | (intro he; have he2 : _ = some _ := he; have h3 := ow_base (by assumption) he2; have h4 : _ = some _ := hi; simp [Value.ownBlock] at h4; omega) | (intro he; have he2 : _ = some _ := he; exact absurd he2 (hsep _ hi)) | (intro he; have he2 : _ = _ := he; have := hlo _ hi; omega) | (intro he; have he2 : _ = some _ := he; have := hlo _ he2; omega) | (intro he; first | exact absurd he (by assumption) | exact absurd he.symm (by assumption))) ?_)))))) (by first | rfl | assumption)) ?_
  refine L_run (.yes 14 true rfl rfl) rfl rfl (r_eqlR (xs := #[.int _ _, .int _ _, .int _ _, .int _ _, .int _ _, .string _, .int _ _, .string _]) (ys := #[.int _ _, .int _ _, .int _ _, .int _ _, .int _ _, .string _, .int _ _, .string _]) rfl rfl (by kernel_rfl) (eqMsg _ _ _ _ _ _ _ _ _ _ _ _ _ _ _ _ _)) ?_
  refine L_run (.plain rfl) rfl rfl (r_pick_t (v := .bool _) rfl rfl) ?_
  refine L_run (.plain rfl) rfl rfl (r_move (v := .bool _) rfl) ?_
  refine L_as (v := .bool _) (v' := .bool true) 79 rfl (dec_t (by decide)).symm ?_
  refine L_run (.yes 19 true rfl rfl) rfl rfl (r_fieldb Try.underlying33 rfl (show _ = some 1 from rfl) rfl rfl (show _ = 7 from rfl)) ?_
  refine L_run (.yes 19 true rfl rfl) rfl rfl (r_loadb rfl rfl (by (exact Bk.to (by assumption) (by (repeat (first | exact Sm.refl _ _ | (refine Sm.stepT (by assumption) (by intro hlt hsm; first | exact not_no | (intro he; have he2 : _ = some _ := he; have := own_base (by assumption) he2; omega) | (intro he; have he2 : _ = _ := he; omega) | (intro he; have he2 : _ = some _ := he; have := ow_base (by assumption) he2; omega) | (intro he; have := he.1; omega) | exact bk_not (by assumption) hsm rfl | exact mp_not (by assumption) hsm | exact bkm_not (by assumption) hsm rfl | exact ownm_not (by assumption) hi hsm rfl | exact owm_not (by assumption) hi hsm rfl | exact own_not (by assumption) hi hsm rfl | exact ow_not (by assumption) hi hsm rfl | (intro he; have he2 : _ = some _ := he; have := Ow.lt (by assumption) he2; omega) | (intro he; have he2 : _ = some _ := he; have := Ow.lt (by assumption) he2; have := own_base (by assumption) hi; omega) | (intro he; have he2 : _ = some _ := he; have := Ow.lt how he2; first | omega | (have := own_base (by assumption) hi; omega)) | (intro he; have he2 : _ = _ := he; have := Ow.lt how hi; omega) | (intro he; have he2 : _ = _ := he; have := own_base (by assumption) hi; omega) | (intro he; have he2 : _ = _ := he; have := ow_base (by assumption) hi; omega) | (intro he; have he2 : _ = _ := he; rw [he2] at hi; exact absurd hi (by assumption)) | (intro he; have he2 : _ = some _ := he; have h3 := own_lt (by assumption) he2; first | omega | (have h4 : _ = some _ := hi; simp [Value.ownBlock] at h4; omega)) | (intro he; have he2 : _ = some _ := he; have h3 := ow_base (by assumption) he2; have h4 : _ = some _ := hi; simp [Value.ownBlock] at h4; omega) | (intro he; have he2 : _ = some _ := he; exact absurd he2 (hsep _ hi)) | (intro he; have he2 : _ = _ := he; have := hlo _ hi; omega) | (intro he; have he2 : _ = some _ := he; have := hlo _ he2; omega) | (intro he; first | exact absurd he (by assumption) | exact absurd he.symm (by assumption))) ?_)))))) (by first | assumption | (conv => lhs; simp only [List.getElem?_toArray, List.getElem?_cons_succ, List.getElem?_cons_zero]))) ?_
  refine L_run (.yes 19 true rfl rfl) rfl rfl (r_eqls rfl rfl) ?_
  refine L_run (.plain rfl) rfl rfl (r_pick_t (v := .bool _) rfl rfl) ?_
  refine L_run (.plain rfl) rfl rfl (r_move (v := .bool _) rfl) ?_
  refine L_as (v := .bool _) (v' := .bool true) 84 rfl (dec_t (by rfl)).symm ?_
  refine L_run (.yes 24 true rfl rfl) rfl rfl (r_move (v := .int _ _) rfl) ?_
  refine L_run (.yes 24 true rfl rfl) rfl rfl (r_eql rfl rfl) ?_
  refine L_run (.plain rfl) rfl rfl (r_pick_t (v := .bool _) rfl rfl) ?_
  refine L_run (.plain rfl) rfl rfl (r_move (v := .bool _) rfl) ?_
  refine L_as (v := .bool _) (v' := .bool true) 88 rfl (dec_t (by rfl)).symm ?_
  refine L_run (.yes 28 true rfl rfl) rfl rfl (r_move (v := .int _ _) rfl) ?_
  refine L_run (.yes 28 true rfl rfl) rfl rfl (r_eql rfl rfl) ?_
  refine L_run (.plain rfl) rfl rfl (r_pick_t (v := .bool _) rfl rfl) ?_
  refine L_run (.plain rfl) rfl rfl (r_move (v := .bool _) rfl) ?_
  refine L_as (v := .bool _) (v' := .bool true) 92 rfl (dec_t (by rfl)).symm ?_
  refine L_run (.yes 32 true rfl rfl) rfl rfl (r_move (v := .pointer _) rfl) ?_
  refine L_call (.yes 32 true rfl rfl) rfl rfl (r_call Try.func15 rfl rfl rfl (by rfl)) (kept_walk w0.heap.size b bm vs6 awS3 _ (hA6.nw (by (repeat (first | exact Ch.refl _ | assumption | (refine Ch.fresh ?_ (by assumption) (by intro i hi he; first | exact he | exact (not_no he).elim | exact Or.inl he | exact Or.inr (Or.inl he) | exact Or.inr (Or.inr he) | (exfalso; have he2 : _ = some i := he; have := own_base (by assumption) he2; omega) | (exfalso; have he2 : i = _ := he; omega) | (exfalso; have he2 : _ = some i := he; have := ow_base (by assumption) he2; omega) | (exfalso; have := he.1; omega) | (exfalso; have he2 : _ = some i := he; have := hlo _ he2; omega)))))))) ?_
  rintro v94 w25 ⟨rfl, rfl⟩
  refine L_run (.yes 32 true rfl rfl) rfl rfl (r_eql rfl rfl) ?_
  refine L_run (.plain rfl) rfl rfl (r_pick_t (v := .bool _) rfl rfl) ?_
  refine L_run (.plain rfl) rfl rfl (r_move (v := .bool _) rfl) ?_
  refine L_as (v := .bool _) (v' := .bool true) 97 rfl (dec_t (by rfl)).symm ?_
  refine L_run (.yes 37 true rfl rfl) rfl rfl (r_move (v := .pointer _) rfl) ?_
  refine L_call (.yes 37 true rfl rfl) rfl rfl (r_call Try.func17 rfl rfl rfl (by rfl)) (life_walk w0.heap.size b bm vs6 awS3 _ (hA6.nw (by (repeat (first | exact Ch.refl _ | assumption | (refine Ch.fresh ?_ (by assumption) (by intro i hi he; first | exact he | exact (not_no he).elim | exact Or.inl he | exact Or.inr (Or.inl he) | exact Or.inr (Or.inr he) | (exfalso; have he2 : _ = some i := he; have := own_base (by assumption) he2; omega) | (exfalso; have he2 : i = _ := he; omega) | (exfalso; have he2 : _ = some i := he; have := ow_base (by assumption) he2; omega) | (exfalso; have := he.1; omega) | (exfalso; have he2 : _ = some i := he; have := hlo _ he2; omega)))))))) ?_
  rintro v99 w26 ⟨rfl, rfl⟩
  refine L_run (.yes 37 true rfl rfl) rfl rfl (r_eql rfl rfl) ?_
  refine L_run (.plain rfl) rfl rfl (r_pick_t (v := .bool _) rfl rfl) ?_
  refine L_run (.plain rfl) rfl rfl (r_move (v := .bool _) rfl) ?_
  refine L_as (v := .bool _) (v' := .bool true) 102 rfl (dec_t (by rfl)).symm ?_
  refine L_run (.yes 42 true rfl rfl) rfl rfl (r_move (v := .pointer _) rfl) ?_
  refine L_call (.yes 42 true rfl rfl) rfl rfl (r_call Try.func18 rfl rfl rfl (by rfl)) (floor_walk w0.heap.size b bm vs6 awS3 _ (hA6.nw (by (repeat (first | exact Ch.refl _ | assumption | (refine Ch.fresh ?_ (by assumption) (by intro i hi he; first | exact he | exact (not_no he).elim | exact Or.inl he | exact Or.inr (Or.inl he) | exact Or.inr (Or.inr he) | (exfalso; have he2 : _ = some i := he; have := own_base (by assumption) he2; omega) | (exfalso; have he2 : i = _ := he; omega) | (exfalso; have he2 : _ = some i := he; have := ow_base (by assumption) he2; omega) | (exfalso; have := he.1; omega) | (exfalso; have he2 : _ = some i := he; have := hlo _ he2; omega)))))))) ?_
  rintro v104 w27 ⟨rfl, rfl⟩
  refine L_run (.yes 42 true rfl rfl) rfl rfl (r_eql rfl rfl) ?_
  refine L_run (.plain rfl) rfl rfl (r_pick_t (v := .bool _) rfl rfl) ?_
  refine L_run (.plain rfl) rfl rfl (r_move (v := .bool _) rfl) ?_
  refine L_as (v := .bool _) (v' := .bool true) 107 rfl (dec_t (by rfl)).symm ?_
  refine L_run (.yes 47 true rfl rfl) rfl rfl (r_move (v := .pointer _) rfl) ?_
  refine L_call (.yes 47 true rfl rfl) rfl rfl (r_call Try.func19 rfl rfl rfl (by rfl)) (started_walk w0.heap.size b bm vs6 awS3 _ (hA6.nw (by (repeat (first | exact Ch.refl _ | assumption | (refine Ch.fresh ?_ (by assumption) (by intro i hi he; first | exact he | exact (not_no he).elim | exact Or.inl he | exact Or.inr (Or.inl he) | exact Or.inr (Or.inr he) | (exfalso; have he2 : _ = some i := he; have := own_base (by assumption) he2; omega) | (exfalso; have he2 : i = _ := he; omega) | (exfalso; have he2 : _ = some i := he; have := ow_base (by assumption) he2; omega) | (exfalso; have := he.1; omega) | (exfalso; have he2 : _ = some i := he; have := hlo _ he2; omega))))))) (by decide)) ?_
  rintro v109 w28 ⟨v', rfl, hst, c28⟩
  have hz28 := c28.size
  refine L_run (.yes 47 true rfl rfl) rfl rfl (r_lenSl Try.underlying48 (by conv => lhs; whnf) (by (exact Sl.to (by first | assumption | exact Sl.own (by assumption) | exact Mu.sl (by assumption) | exact Ow.sl (by assumption)) (fun i hi => by (repeat (first | exact Sm.refl _ _ | (refine Sm.stepT (by assumption) (by intro hlt hsm; first | exact not_no | (intro he; have he2 : _ = some _ := he; have := own_base (by assumption) he2; omega) | (intro he; have he2 : _ = _ := he; omega) | (intro he; have he2 : _ = some _ := he; have := ow_base (by assumption) he2; omega) | (intro he; have := he.1; omega) | exact bk_not (by assumption) hsm rfl | exact mp_not (by assumption) hsm | exact bkm_not (by assumption) hsm rfl | exact ownm_not (by assumption) hi hsm rfl | exact owm_not (by assumption) hi hsm rfl | exact own_not (by assumption) hi hsm rfl | exact ow_not (by assumption) hi hsm rfl | (intro he; have he2 : _ = some _ := he; have := Ow.lt (by assumption) he2; omega) | (intro he; have he2 : _ = some _ := he; have := Ow.lt (by assumption) he2; have := own_base (by assumption) hi; omega) | (intro he; have he2 : _ = some _ := he; have := Ow.lt how he2; first | omega | (have := own_base (by assumption) hi; omega)) | (intro he; have he2 : _ = _ := he; have := Ow.lt how hi; omega) | (intro he; have he2 : _ = _ := he; have := own_base (by assumption) hi; omega) | (intro he; have he2 : _ = _ := he; have := ow_base (by assumption) hi; omega) | (intro he; have he2 : _ = _ := he; rw [he2] at hi; exact absurd hi (by assumption)) | (intro he; have he2 : _ = some _ := he; have h3 := own_lt (by assumption) he2; first | omega | (have h4 : _ = some _ := hi; simp [Value.ownBlock] at h4; omega)) | (intro he; have he2 : _ = some _ := he; have h3 := ow_base (by assumption) he2; have h4 : _ = some _ := hi; simp [Value.ownBlock] at h4; omega) | (intro he; have he2 : _ = some _ := he; exact absurd he2 (hsep _ hi)) | (intro he; have he2 : _ = _ := he; have := hlo _ hi; omega) | (intro he; have he2 : _ = some _ := he; have := hlo _ he2; omega) | (intro he; first | exact absurd he (by assumption) | exact absurd he.symm (by assumption))) ?_))))))) ?_
  refine L_run (.yes 47 true rfl rfl) rfl rfl (r_eql rfl rfl) ?_
  refine L_run (.plain rfl) rfl rfl (r_pick_t (v := .bool _) rfl rfl) ?_
  refine L_run (.plain rfl) rfl rfl (r_assign (v := .bool _) rfl) ?_
  refine L_nil ?_
  refine W_ret ?_
  refine ret1 (v := .bool _) rfl rfl ?_
  exact ⟨rfl, by (repeat (first | exact Ch.refl _ | assumption | (refine Ch.fresh ?_ (by assumption) (by intro i hi he; first | exact he | exact (not_no he).elim | exact Or.inl he | exact Or.inr (Or.inl he) | exact Or.inr (Or.inr he) | (exfalso; have he2 : _ = some i := he; have := own_base (by assumption) he2; omega) | (exfalso; have he2 : i = _ := he; omega) | (exfalso; have he2 : _ = some i := he; have := ow_base (by assumption) he2; omega) | (exfalso; have := he.1; omega) | (exfalso; have he2 : _ = some i := he; have := hlo _ he2; omega)))))⟩
end Go.Proofs.Ythpclaoniljfbaa

