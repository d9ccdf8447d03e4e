/- Messages, got; walked. -/
import Derived.Test.YtcbcelfgbelaoaaDoorMsg
namespace Go.Proofs.YtcbcelfgbelaoaaDoor
open Go Go.RowKit
set_option linter.unusedVariables false
set_option linter.unusedSimpArgs false
theorem r_min {P : Program} {w : World} {f : Fr} {dst : Option Tmp} {ty : TypeId} {pos : String} {af : Array Edge} {g : Option (Nat × Bool)} {ats : Array TypeId} {x y : Operand} {k k' : IntKind} {a b : Int} (hx : ev f x = .int k a) (hy : ev f y = .int k' b) :
    (execOp (ev f) ⟨dst, .call { callee := .builtin .min, args := #[x, y], argTypes := ats }, ty, pos, af, g⟩).run P w = .ok (.value (.int k (if b < a then b else a))) w := by
  simp [execOp, resolve, invoke, builtin, hx, hy, run_min_int2]
theorem rdnum_n (base b : Nat) (v : Value) (l : List UInt8) (st : Nat × Int) (w : World) (hR : RdAt base w b v l st.1 st.2) (hb : base ≤ w.heap.size) :
    Does Tryd.prog 27 #[.pointer (some ⟨b, 0, none⟩)] w fun r w' => r = .int .u64 ((nm l st : Nat) : Int) ∧ RdAt base w' b v l (ns l st).1 (ns l st).2 ∧ Ch (fun j => j = b) w w' :=
  rdnum_walk base b v l st.1 st.2 w hR hb
theorem rdtext_n (base b : Nat) (v : Value) (l : List UInt8) (st : Nat × Int) (w : World) (hR : RdAt base w b v l st.1 st.2) (hT : Tabs base w) (hb : base ≤ w.heap.size) :
    Does Tryd.prog 29 #[.pointer (some ⟨b, 0, none⟩)] w fun r w' => r = .string (sb (tx l st)) ∧ RdAt base w' b v l (ts l st).1 (ts l st).2 ∧ Ch (fun j => j = b) w w' :=
  rdtext_walk base b v l st.1 st.2 w hR hT hb
abbrev numF (b : Nat) : Value := .func (.func 27) #[.pointer (some ⟨b, 0, none⟩)] #[]
theorem get1_walk (base b p : Nat) (v : Value) (l : List UInt8) (st : Nat × Int) (w0 : World) (hR : RdAt base w0 b v l st.1 st.2) (hp : Bk w0 p #[numF b] 54) (hb : base ≤ w0.heap.size) : Does Tryd.prog 28 #[.pointer (some ⟨p, 0, none⟩)] w0 (fun r w' => r = .int .i64 ((min (nm l st) 3 : Nat) : Int) ∧ RdAt base w' b v l (ns l st).1 (ns l st).2 ∧ Ch (fun j => j = b) w0 w') := by
  have hnm := nm_le l st
  refine fn_of (n := 6) (args := [.pointer (some ⟨p, 0, none⟩)]) Tryd.func28 rfl rfl rfl ?_
  refine W_seq ?_
  refine W_region ?_
  refine L_run (.plain rfl) rfl rfl (r_assign (v := .int _ _) rfl) ?_
  refine L_nil ?_
  refine W_seq ?_
  refine W_region ?_
  refine L_run (.plain rfl) rfl rfl (r_loadb rfl rfl (by (exact Bk.to (by assumption) (by (repeat (first | exact Sm.refl _ _ | (refine Sm.stepT (by assumption) (by intro hlt hsm; exact not_no) ?_)))))) (by first | assumption | (conv => lhs; simp only [List.getElem?_toArray, List.getElem?_cons_succ, List.getElem?_cons_zero]))) ?_
  refine L_call (.plain rfl) rfl rfl (r_call Tryd.func27 rfl rfl rfl (by rfl)) (rdnum_n base b v l st _ (hR.nw (by (repeat (first | exact Ch.refl _ | assumption | (refine Ch.fresh ?_ (by assumption) (by intro i hi he; exact (not_no he).elim)))))) (by omega)) ?_
  rintro v3 w1 ⟨rfl, hR1, c1⟩
  have hz1 := c1.size
  refine L_run (.plain rfl) rfl rfl (r_min rfl rfl) ?_
  refine L_run (.plain rfl) rfl rfl (r_conv Tryd.underlying22 Tryd.underlying3 rfl (by first | exact wr_i64 (by omega) | rfl)) ?_
  refine L_run (.plain rfl) rfl rfl (r_assign (v := .int _ _) rfl) ?_
  refine L_nil ?_
  refine W_ret ?_
  refine ret1 (v := .int _ _) rfl rfl ?_
  exact ⟨congrArg (Value.int .i64) (by split <;> omega), hR1, by (repeat (first | exact Ch.refl _ | assumption | (refine Ch.fresh ?_ (by assumption) (by intro i hi he; exact (not_no he).elim))))⟩
instance (l : List UInt8) : Decidable (getOk l) := inferInstanceAs (Decidable (_ ∧ _ ∧ _))
theorem gotM_body (l : List UInt8) : (gotM l).body = sb (l.drop (q7 l).1) := by
  unfold gotM
  split <;> rfl
theorem gotM_0 {l : List UInt8} (h : k0 l = 0) : gotM l = ⟨0, nm l (q1 l), nm l (q2 l), nm l (q3 l), nm l (ns l (q3 l)), sb (tx l (ns l (ns l (q3 l)))), 0, sb (l.drop (q7 l).1)⟩ := if_pos h
theorem gotM_1 {l : List UInt8} (h : ¬ k0 l = 0) : gotM l = ⟨k0 l, nm l (q1 l), nm l (q2 l), 0, 0, { data := #[] }, (min (nm l (q3 l)) 3 : Nat), sb (l.drop (q7 l).1)⟩ := if_neg h
theorem getm_none (v : Value) (l0 : List UInt8) (w0 : World) (hv : By w0 v l0) (hl : l0.length ≤ 100000000) (hE : ¬ getE l0 = 0) : Does Tryd.prog 13 #[v] w0 (fun r w' => r = .tuple #[Msg.zero.v, .int .i64 140] ∧ Nw w0 w') := by
  refine fn_of (n := 80) (args := [v]) Tryd.func13 rfl rfl rfl ?_
  refine W_seq ?_
  refine W_region ?_
  refine L_new (.plain rfl) rfl rfl (r_alloca rfl) (fun w1 b2 hb2 eb1 hs1 c1 => ?_)
  refine L_run (.plain rfl) rfl rfl (r_assign (v := .int _ _) rfl) ?_
  refine L_nil ?_
  refine W_seq ?_
  refine W_region ?_
  refine L_run (.plain rfl) rfl rfl (r_move (by conv => lhs; whnf)) ?_
  refine L_call (.plain rfl) rfl rfl (r_call Tryd.func25 rfl rfl rfl (by rfl)) (get_all v l0 _ (by (exact Sl.to (by first | assumption | exact Sl.own (by assumption) | exact Mu.sl (by assumption) | exact Ow.sl (by assumption)) (fun i hi => by (repeat (first | exact Sm.refl _ _ | (refine Sm.stepT (by assumption) (by intro hlt hsm; exact not_no) ?_)))))) (by omega)) ?_
  rintro v16 w2 ⟨vi, rfl, hin, c2⟩
  have hz2 := c2.size
  refine L_run (.plain rfl) rfl rfl (r_move (by conv => lhs; whnf)) ?_
  refine L_run (.plain rfl) rfl rfl (r_ext2_0 rfl) ?_
  refine L_run (.plain rfl) rfl rfl (r_ext2_1 rfl) ?_
  refine L_run (.plain rfl) rfl rfl (r_assign (by conv => lhs; whnf)) ?_
  refine L_run (.plain rfl) rfl rfl (r_assign (v := .int _ _) rfl) ?_
  refine L_nil ?_
  refine W_seq ?_
  refine W_seq ?_
  refine W_region ?_
  refine L_run (.plain rfl) rfl rfl (r_move (v := .int _ _) rfl) ?_
  refine L_run (.plain rfl) rfl rfl (r_neq rfl rfl) ?_
  refine L_as (v := .bool _) (v' := .bool true) 20 rfl (dec_t (by exact hE)).symm ?_
  refine L_nil ?_
  refine W_true rfl ?_
  refine W_seq ?_
  refine W_region ?_
  refine L_run (.plain rfl) rfl rfl (r_build1 (pl := [(0, 1), (1, 1), (2, 1), (3, 1), (4, 1), (5, 1), (6, 1), (7, 1)]) (vs := []) (cells := [_, _, _, _, _, _, _, _]) Tryd.underlying24 rfl rfl (by rfl) rfl (by rfl)) ?_
  refine L_storerow (.plain rfl) rfl rfl (by (exact Bk.to (by assumption) (by (repeat (first | exact Sm.refl _ _ | (refine Sm.stepT (by assumption) (by intro hlt hsm; exact not_no) ?_)))))) (by first | rfl | (simp; done) | assumption) (by first | rfl | assumption) (by first | rfl | (simp [Value.oneCell']; done) | assumption) (fun w3 hb3 hs3 c3 => ?_)
  refine L_run (.plain rfl) rfl rfl (r_assign (v := .int _ _) rfl) ?_
  refine L_nil ?_
  refine W_ret ?_
  refine r_ret_ct rfl rfl Tryd.underlying24 rfl (by (exact Bk.to (by assumption) (by (repeat (first | exact Sm.refl _ _ | (refine Sm.stepT (by assumption) (by intro hlt hsm; exact not_no) ?_)))))) (by first | rfl | assumption) (show _ = (.int _ _ : Value) from rfl) ?_
  exact ⟨rfl, by (repeat (first | exact Ch.refl _ | assumption | (refine Ch.fresh ?_ (by assumption) (by intro i hi he; first | exact he | (exfalso; have he2 : i = _ := he; omega)))))⟩
set_option maxHeartbeats 1000000 in
set_option maxRecDepth 100000 in
theorem getm_some (v : Value) (l0 l : List UInt8) (w0 : World) (hv : By w0 v l0) (hl : l0.length ≤ 100000000) (hE : getE l0 = 0) (hL : getL l0 = l) (hl2 : l.length ≤ 100000000) (hT : Tabs w0.heap.size w0) : Does Tryd.prog 13 #[v] w0 (fun r w' => r = .tuple #[(if getOk l then gotM l else Msg.zero).v, .int .i64 (if getOk l then 0 else 140)] ∧ Nw w0 w') := by
  refine fn_of (n := 80) (args := [v]) Tryd.func13 rfl rfl rfl ?_
  refine W_seq ?_
  refine W_region ?_
  refine L_new (.plain rfl) rfl rfl (r_alloca rfl) (fun w1 b2 hb2 eb1 hs1 c1 => ?_)
  refine L_run (.plain rfl) rfl rfl (r_assign (v := .int _ _) rfl) ?_
  refine L_nil ?_
  refine W_seq ?_
  refine W_region ?_
  refine L_run (.plain rfl) rfl rfl (r_move (by conv => lhs; whnf)) ?_
  refine L_call (.plain rfl) rfl rfl (r_call Tryd.func25 rfl rfl rfl (by rfl)) (get_all v l0 _ (by (exact Sl.to (by first | assumption | exact Sl.own (by assumption) | exact Mu.sl (by assumption) | exact Ow.sl (by assumption)) (fun i hi => by (repeat (first | exact Sm.refl _ _ | (refine Sm.stepT (by assumption) (by intro hlt hsm; first | exact not_no | (intro he; have he2 : _ = _ := he; omega) | (intro he; have he2 : _ = _ := he; have := Ow.lt how hi; omega) | (intro he; have he2 : _ = _ := he; have := hlo _ hi; omega)) ?_)))))) (by omega)) ?_
  rintro v16 w2 ⟨vi, rfl, hin, c2⟩
  have hz2 := c2.size
  rw [hE]
  rw [hL] at hin
  have hlo : ∀ i, vi.ownBlock = some i → i < w2.heap.size := fun i hi => Sl.lt hin hi
  refine L_run (.plain rfl) rfl rfl (r_move (by conv => lhs; whnf)) ?_
  refine L_run (.plain rfl) rfl rfl (r_ext2_0 rfl) ?_
  refine L_run (.plain rfl) rfl rfl (r_ext2_1 rfl) ?_
  refine L_run (.plain rfl) rfl rfl (r_assign (by conv => lhs; whnf)) ?_
  refine L_run (.plain rfl) rfl rfl (r_assign (v := .int _ _) rfl) ?_
  refine L_nil ?_
  refine W_seq ?_
  refine W_seq ?_
  refine W_region ?_
  refine L_run (.plain rfl) rfl rfl (r_move (v := .int _ _) rfl) ?_
  refine L_run (.plain rfl) rfl rfl (r_neq rfl rfl) ?_
  refine L_as (v := .bool _) (v' := .bool false) 20 rfl (dec_f (by simp)).symm ?_
  refine L_nil ?_
  refine W_false rfl ?_
  refine W_skip ?_
  refine W_seq ?_
  refine W_region ?_
  refine L_run (.plain rfl) rfl rfl (r_move (by conv => lhs; whnf)) ?_
  refine L_call (.plain rfl) rfl rfl (r_call Tryd.func26 rfl rfl rfl (by rfl)) (read_walk _ l _ (by (exact Sl.to (by first | assumption | exact Sl.own (by assumption) | exact Mu.sl (by assumption) | exact Ow.sl (by assumption)) (fun i hi => by (repeat (first | exact Sm.refl _ _ | (refine Sm.stepT (by assumption) (by intro hlt hsm; first | exact not_no | (intro he; have he2 : _ = _ := he; omega) | (intro he; have he2 : _ = _ := he; have := Ow.lt how hi; omega) | (intro he; have he2 : _ = _ := he; have := hlo _ hi; omega)) ?_)))))) hl2) ?_
  rintro v23 w3 ⟨br, vr, rfl, hR0, c3⟩
  have hz3 := c3.size
  have hlor := hR0.hb
  have hltr := hR0.bk.lt
  have how := hR0.ow
  have hRz : RdAt w0.heap.size w3 br vr l ((0, 0) : Nat × Int).1 ((0, 0) : Nat × Int).2 := hR0.down (by omega)
  refine L_run (.plain rfl) rfl rfl (r_assign (v := .pointer _) rfl) ?_
  refine L_nil ?_
  refine W_seq ?_
  refine W_region ?_
  refine L_run (.plain rfl) rfl rfl (r_move (v := .pointer _) rfl) ?_
  refine L_run (.plain rfl) rfl rfl (r_funcL (l1 := [_]) (l2 := []) rfl rfl) ?_
  refine L_new (.plain rfl) rfl rfl (r_alloc1 rfl rfl) (fun w4 b7 hb7 eb4 hs4 c4 => ?_)
  refine L_set (.plain rfl) rfl (by (exact Bk.to (by assumption) (by (repeat (first | exact Sm.refl _ _ | (refine Sm.stepT (by assumption) (by intro hlt hsm; first | exact not_no | (intro he; have he2 : _ = _ := he; omega) | (intro he; have he2 : _ = _ := he; have := Ow.lt how hi; omega) | (intro he; have he2 : _ = _ := he; have := hlo _ hi; omega)) ?_)))))) (r_store rfl rfl (by conv => lhs; whnf) (by first | rfl | exact ow_one (by assumption) | exact own_one (by assumption) | exact sl_one (by assumption)) (by (exact Bk.to (by assumption) (by (repeat (first | exact Sm.refl _ _ | (refine Sm.stepT (by assumption) (by intro hlt hsm; first | exact not_no | (intro he; have he2 : _ = _ := he; omega) | (intro he; have he2 : _ = _ := he; have := Ow.lt how hi; omega) | (intro he; have he2 : _ = _ := he; have := hlo _ hi; omega)) ?_)))))) (by first | decide | (simp; done) | omega)) (fun w5 hb5 hs5 c5 => ?_)
  try simp only [List.setIfInBounds_toArray, List.set_cons_zero, List.set_cons_succ] at hb5
  refine L_nil ?_
  refine W_seq ?_
  refine W_region ?_
  refine L_run (.plain rfl) rfl rfl (r_funcL (l1 := []) (l2 := [.pointer _]) rfl rfl) ?_
  refine L_run (.plain rfl) rfl rfl (r_assign (by conv => lhs; whnf)) ?_
  refine L_nil ?_
  refine W_cutF [2, 4, 6, 7, 8] (fun f W => ∃ (b9 : Nat), f 9 = .pointer (some ⟨b9, 0, none⟩) ∧ (RdAt w0.heap.size W br vr l (q3 l).1 (q3 l).2 ∧ Bk W b9 #[.int .i64 ((min (nm l (0, 0)) 3 : Nat) : Int), .int .u64 ((nm l (q1 l) : Nat) : Int), .int .u64 ((nm l (q2 l) : Nat) : Int), .int .u64 0, .int .u64 0, .string { data := #[] }, .int .i64 0, .string { data := #[] }] 24 ∧ Bk W b7 #[numF br] 54 ∧ Bk W b2 #[.int .i64 0, .int .u64 0, .int .u64 0, .int .u64 0, .int .u64 0, .string { data := #[] }, .int .i64 0, .string { data := #[] }] 24 ∧ By W vi l ∧ (b2 < b9 ∧ br < b9 ∧ b7 < b9) ∧ Nw w0 W)) ?_ ?_
  · refine W_draw (fun W => Bk W b7 #[numF br] 54) 8 (m := 9) (by kernel_rfl) rfl (fun w6 c6 hs6 => ?_)
    refine held (by (exact Bk.to (by assumption) (by (repeat (first | exact Sm.refl _ _ | (refine Sm.stepT (by assumption) (by intro hlt hsm; first | exact not_no | (intro he; have he2 : _ = _ := he; omega) | (intro he; have he2 : _ = _ := he; have := Ow.lt how hi; omega) | (intro he; have he2 : _ = _ := he; have := hlo _ hi; omega)) ?_)))))) (fun hS => ?_)
    refine D_take 0 rfl (by kernel_rfl) (by kernel_rfl) (by kernel_rfl) (by kernel_rfl) (.plain rfl) rfl rfl (by assumption) (fun W hW => r_move (by conv => lhs; whnf)) ?_
    refine D_take 2 rfl (by kernel_rfl) (by kernel_rfl) (by kernel_rfl) (by kernel_rfl) (.plain rfl) rfl rfl (by assumption) (fun W hW => r_loadb rfl rfl (by exact hW) (by first | assumption | (conv => lhs; simp only [List.getElem?_toArray, List.getElem?_cons_succ, List.getElem?_cons_zero]))) ?_
    refine D_take 4 rfl (by kernel_rfl) (by kernel_rfl) (by kernel_rfl) (by kernel_rfl) (.plain rfl) rfl rfl (by assumption) (fun W hW => r_loadb rfl rfl (by exact hW) (by first | assumption | (conv => lhs; simp only [List.getElem?_toArray, List.getElem?_cons_succ, List.getElem?_cons_zero]))) ?_
    refine D_ev2 1 7 (by kernel_rfl) rfl rfl ?_ ?_
    · refine L_call (.plain rfl) rfl rfl (r_call Tryd.func28 rfl rfl rfl (by rfl)) (get1_walk w0.heap.size br b7 vr l (0, 0) _ (hRz.nw (by (repeat (first | exact Ch.refl _ | assumption | (refine Ch.fresh ?_ (by assumption) (by intro i hi he; first | exact he | (exfalso; have he2 : i = _ := he; omega))))))) (by (exact Bk.to (by assumption) (by (repeat (first | exact Sm.refl _ _ | (refine Sm.stepT (by assumption) (by intro hlt hsm; first | exact not_no | (intro he; have he2 : _ = _ := he; omega) | (intro he; have he2 : _ = _ := he; have := Ow.lt how hi; omega) | (intro he; have he2 : _ = _ := he; have := hlo _ hi; omega)) ?_)))))) (by omega)) ?_
      rintro v28 w7 ⟨rfl, hR1, c7⟩
      have hz7 := c7.size
      refine L_nil ?_
      refine heldK (by (exact Bk.to (by assumption) (by (repeat (first | exact Sm.refl _ _ | (refine Sm.stepT (by assumption) (by intro hlt hsm; first | exact not_no | (intro he; have he2 : _ = _ := he; omega) | (intro he; have he2 : _ = _ := he; have := Ow.lt how hi; omega) | (intro he; have he2 : _ = _ := he; have := hlo _ hi; omega)) ?_)))))) (fun hS => ?_)
      refine D_ev2 3 7 (by kernel_rfl) rfl rfl ?_ ?_
      · refine L_call (.plain rfl) rfl rfl (r_call Tryd.func27 rfl rfl rfl (by rfl)) (rdnum_n w0.heap.size br vr l (q1 l) _ (RdAt.nw hR1 (by (repeat (first | exact Ch.refl _ | assumption | (refine Ch.fresh ?_ (by assumption) (by intro i hi he; first | exact he | (exfalso; have he2 : i = _ := he; omega))))))) (by omega)) ?_
        rintro v30 w8 ⟨rfl, hR2, c8⟩
        have hz8 := c8.size
        refine L_nil ?_
        refine heldK (by (exact Bk.to (by assumption) (by (repeat (first | exact Sm.refl _ _ | (refine Sm.stepT (by assumption) (by intro hlt hsm; first | exact not_no | (intro he; have he2 : _ = _ := he; omega) | (intro he; have he2 : _ = _ := he; have := Ow.lt how hi; omega) | (intro he; have he2 : _ = _ := he; have := hlo _ hi; omega)) ?_)))))) (fun hS => ?_)
        refine D_ev2 5 7 (by kernel_rfl) rfl rfl ?_ ?_
        · refine L_call (.plain rfl) rfl rfl (r_call Tryd.func27 rfl rfl rfl (by rfl)) (rdnum_n w0.heap.size br vr l (q2 l) _ (RdAt.nw hR2 (by (repeat (first | exact Ch.refl _ | assumption | (refine Ch.fresh ?_ (by assumption) (by intro i hi he; first | exact he | (exfalso; have he2 : i = _ := he; omega))))))) (by omega)) ?_
          rintro v32 w9 ⟨rfl, hR3, c9⟩
          have hz9 := c9.size
          have hbk3 := hR3.bk
          have how3 := hR3.ow
          refine L_nil ?_
          refine heldK (by (exact Bk.to (by assumption) (by (repeat (first | exact Sm.refl _ _ | (refine Sm.stepT (by assumption) (by intro hlt hsm; first | exact not_no | (intro he; have he2 : _ = _ := he; omega) | (intro he; have he2 : _ = _ := he; have := Ow.lt how hi; omega) | (intro he; have he2 : _ = _ := he; have := hlo _ hi; omega)) ?_)))))) (fun hS => ?_)
          refine D_take 6 rfl (by kernel_rfl) (by kernel_rfl) (by kernel_rfl) (by kernel_rfl) (.plain rfl) rfl rfl (by assumption) (fun W hW => r_build1 (pl := [(0, 1), (1, 1), (2, 1), (3, 1), (4, 1), (5, 1), (6, 1), (7, 1)]) (vs := [(0, .int _ _), (1, .int _ _), (2, .int _ _)]) (cells := [_, _, _, _, _, _, _, _]) Tryd.underlying24 rfl rfl (by rfl) rfl (by rfl)) ?_
          refine D_ev 7 (by kernel_rfl) rfl ?_
          refine L_new (.plain rfl) rfl rfl (r_alloca rfl) (fun w10 b9 hb9 eb10 hs10 c10 => ?_)
          refine L_nil ?_
          refine heldK (by (exact Bk.to (by assumption) (by (repeat (first | exact Sm.refl _ _ | (refine Sm.stepT (by assumption) (by intro hlt hsm; first | exact not_no | (intro he; have he2 : _ = _ := he; omega) | (intro he; have he2 : _ = _ := he; have := Ow.lt how hi; omega) | (intro he; have he2 : _ = _ := he; have := hlo _ hi; omega)) ?_)))))) (fun hS => ?_)
          refine D_ev 8 (by kernel_rfl) rfl ?_
          refine L_storerow (.plain rfl) rfl rfl (by (exact Bk.to (by assumption) (by (repeat (first | exact Sm.refl _ _ | (refine Sm.stepT (by assumption) (by intro hlt hsm; first | exact not_no | (intro he; have he2 : _ = _ := he; omega) | (intro he; have he2 : _ = _ := he; have := Ow.lt how hi; omega) | (intro he; have he2 : _ = _ := he; have := hlo _ hi; omega)) ?_)))))) (by first | rfl | (simp; done) | assumption) (by first | rfl | assumption) (by first | rfl | (simp [Value.oneCell']; done) | assumption) (fun w11 hb11 hs11 c11 => ?_)
          refine L_nil ?_
          refine heldL ?_
          refine D_done (by kernel_rfl) ?_
          refine ⟨⟨rfl, rfl, rfl, rfl, rfl, trivial⟩, _, rfl, ?_⟩
          refine ⟨⟨by (exact Bk.to (by assumption) (by (repeat (first | exact Sm.refl _ _ | (refine Sm.stepT (by assumption) (by intro hlt hsm; first | exact not_no | (intro he; have he2 : _ = _ := he; omega) | (intro he; have he2 : _ = _ := he; have := Ow.lt how hi; omega) | (intro he; have he2 : _ = _ := he; have := hlo _ hi; omega)) ?_))))), hR3.hb, by (exact Ow.to (by first | assumption | exact Ow.of (by assumption)) (fun i hi => by (repeat (first | exact Sm.refl _ _ | (refine Sm.stepT (by assumption) (by intro hlt hsm; first | exact not_no | (intro he; have he2 : _ = _ := he; omega) | (intro he; have he2 : _ = _ := he; have := Ow.lt how hi; omega) | (intro he; have he2 : _ = _ := he; have := hlo _ hi; omega)) ?_))))), hR3.ha, hR3.hl⟩, by (exact Bk.to (by assumption) (by (repeat (first | exact Sm.refl _ _ | (refine Sm.stepT (by assumption) (by intro hlt hsm; first | exact not_no | (intro he; have he2 : _ = _ := he; omega) | (intro he; have he2 : _ = _ := he; have := Ow.lt how hi; omega) | (intro he; have he2 : _ = _ := he; have := hlo _ hi; omega)) ?_))))), by (exact Bk.to (by assumption) (by (repeat (first | exact Sm.refl _ _ | (refine Sm.stepT (by assumption) (by intro hlt hsm; first | exact not_no | (intro he; have he2 : _ = _ := he; omega) | (intro he; have he2 : _ = _ := he; have := Ow.lt how hi; omega) | (intro he; have he2 : _ = _ := he; have := hlo _ hi; omega)) ?_))))), by (exact Bk.to (by assumption) (by (repeat (first | exact Sm.refl _ _ | (refine Sm.stepT (by assumption) (by intro hlt hsm; first | exact not_no | (intro he; have he2 : _ = _ := he; omega) | (intro he; have he2 : _ = _ := he; have := Ow.lt how hi; omega) | (intro he; have he2 : _ = _ := he; have := hlo _ hi; omega)) ?_))))), by (exact Sl.to (by first | assumption | exact Sl.own (by assumption) | exact Mu.sl (by assumption) | exact Ow.sl (by assumption)) (fun i hi => by (repeat (first | exact Sm.refl _ _ | (refine Sm.stepT (by assumption) (by intro hlt hsm; first | exact not_no | (intro he; have he2 : _ = _ := he; omega) | (intro he; have he2 : _ = _ := he; have := Ow.lt how hi; omega) | (intro he; have he2 : _ = _ := he; have := hlo _ hi; omega)) ?_))))), ⟨by omega, by omega, by omega⟩, by (repeat (first | exact Ch.refl _ | assumption | (refine Ch.fresh ?_ (by assumption) (by intro i hi he; first | exact he | (exfalso; have he2 : i = _ := he; omega)))))⟩
        · refine L_new (.plain rfl) rfl rfl (r_alloca rfl) (fun w12 b9 hb9 eb12 hs12 c12 => ?_)
          refine L_nil ?_
          refine heldK (by (exact Bk.to (by assumption) (by (repeat (first | exact Sm.refl _ _ | (refine Sm.stepT (by assumption) (by intro hlt hsm; first | exact not_no | (intro he; have he2 : _ = _ := he; omega) | (intro he; have he2 : _ = _ := he; have := Ow.lt how hi; omega) | (intro he; have he2 : _ = _ := he; have := hlo _ hi; omega)) ?_)))))) (fun hS => ?_)
          refine D_ev 5 (by kernel_rfl) rfl ?_
          refine L_call (.plain rfl) rfl rfl (r_call Tryd.func27 rfl rfl rfl (by rfl)) (rdnum_n w0.heap.size br vr l (q2 l) _ (RdAt.nw hR2 (by (repeat (first | exact Ch.refl _ | assumption | (refine Ch.fresh ?_ (by assumption) (by intro i hi he; first | exact he | (exfalso; have he2 : i = _ := he; omega))))))) (by omega)) ?_
          rintro v32 w13 ⟨rfl, hR3, c13⟩
          have hz13 := c13.size
          have hbk3 := hR3.bk
          have how3 := hR3.ow
          refine L_nil ?_
          refine heldK (by (exact Bk.to (by assumption) (by (repeat (first | exact Sm.refl _ _ | (refine Sm.stepT (by assumption) (by intro hlt hsm; first | exact not_no | (intro he; have he2 : _ = _ := he; omega) | (intro he; have he2 : _ = _ := he; have := Ow.lt how hi; omega) | (intro he; have he2 : _ = _ := he; have := hlo _ hi; omega)) ?_)))))) (fun hS => ?_)
          refine D_take 6 rfl (by kernel_rfl) (by kernel_rfl) (by kernel_rfl) (by kernel_rfl) (.plain rfl) rfl rfl (by assumption) (fun W hW => r_build1 (pl := [(0, 1), (1, 1), (2, 1), (3, 1), (4, 1), (5, 1), (6, 1), (7, 1)]) (vs := [(0, .int _ _), (1, .int _ _), (2, .int _ _)]) (cells := [_, _, _, _, _, _, _, _]) Tryd.underlying24 rfl rfl (by rfl) rfl (by rfl)) ?_
          refine D_ev 8 (by kernel_rfl) rfl ?_
          refine L_storerow (.plain rfl) rfl rfl (by (exact Bk.to (by assumption) (by (repeat (first | exact Sm.refl _ _ | (refine Sm.stepT (by assumption) (by intro hlt hsm; first | exact not_no | (intro he; have he2 : _ = _ := he; omega) | (intro he; have he2 : _ = _ := he; have := Ow.lt how hi; omega) | (intro he; have he2 : _ = _ := he; have := hlo _ hi; omega)) ?_)))))) (by first | rfl | (simp; done) | assumption) (by first | rfl | assumption) (by first | rfl | (simp [Value.oneCell']; done) | assumption) (fun w14 hb14 hs14 c14 => ?_)
          refine L_nil ?_
          refine heldL ?_
          refine D_done (by kernel_rfl) ?_
          refine ⟨⟨rfl, rfl, rfl, rfl, rfl, trivial⟩, _, rfl, ?_⟩
          refine ⟨⟨by (exact Bk.to (by assumption) (by (repeat (first | exact Sm.refl _ _ | (refine Sm.stepT (by assumption) (by intro hlt hsm; first | exact not_no | (intro he; have he2 : _ = _ := he; omega) | (intro he; have he2 : _ = _ := he; have := Ow.lt how hi; omega) | (intro he; have he2 : _ = _ := he; have := hlo _ hi; omega)) ?_))))), hR3.hb, by (exact Ow.to (by first | assumption | exact Ow.of (by assumption)) (fun i hi => by (repeat (first | exact Sm.refl _ _ | (refine Sm.stepT (by assumption) (by intro hlt hsm; first | exact not_no | (intro he; have he2 : _ = _ := he; omega) | (intro he; have he2 : _ = _ := he; have := Ow.lt how hi; omega) | (intro he; have he2 : _ = _ := he; have := hlo _ hi; omega)) ?_))))), hR3.ha, hR3.hl⟩, by (exact Bk.to (by assumption) (by (repeat (first | exact Sm.refl _ _ | (refine Sm.stepT (by assumption) (by intro hlt hsm; first | exact not_no | (intro he; have he2 : _ = _ := he; omega) | (intro he; have he2 : _ = _ := he; have := Ow.lt how hi; omega) | (intro he; have he2 : _ = _ := he; have := hlo _ hi; omega)) ?_))))), by (exact Bk.to (by assumption) (by (repeat (first | exact Sm.refl _ _ | (refine Sm.stepT (by assumption) (by intro hlt hsm; first | exact not_no | (intro he; have he2 : _ = _ := he; omega) | (intro he; have he2 : _ = _ := he; have := Ow.lt how hi; omega) | (intro he; have he2 : _ = _ := he; have := hlo _ hi; omega)) ?_))))), by (exact Bk.to (by assumption) (by (repeat (first | exact Sm.refl _ _ | (refine Sm.stepT (by assumption) (by intro hlt hsm; first | exact not_no | (intro he; have he2 : _ = _ := he; omega) | (intro he; have he2 : _ = _ := he; have := Ow.lt how hi; omega) | (intro he; have he2 : _ = _ := he; have := hlo _ hi; omega)) ?_))))), by (exact Sl.to (by first | assumption | exact Sl.own (by assumption) | exact Mu.sl (by assumption) | exact Ow.sl (by assumption)) (fun i hi => by (repeat (first | exact Sm.refl _ _ | (refine Sm.stepT (by assumption) (by intro hlt hsm; first | exact not_no | (intro he; have he2 : _ = _ := he; omega) | (intro he; have he2 : _ = _ := he; have := Ow.lt how hi; omega) | (intro he; have he2 : _ = _ := he; have := hlo _ hi; omega)) ?_))))), ⟨by omega, by omega, by omega⟩, by (repeat (first | exact Ch.refl _ | assumption | (refine Ch.fresh ?_ (by assumption) (by intro i hi he; first | exact he | (exfalso; have he2 : i = _ := he; omega)))))⟩
      · refine L_new (.plain rfl) rfl rfl (r_alloca rfl) (fun w15 b9 hb9 eb15 hs15 c15 => ?_)
        refine L_nil ?_
        refine heldK (by (exact Bk.to (by assumption) (by (repeat (first | exact Sm.refl _ _ | (refine Sm.stepT (by assumption) (by intro hlt hsm; first | exact not_no | (intro he; have he2 : _ = _ := he; omega) | (intro he; have he2 : _ = _ := he; have := Ow.lt how hi; omega) | (intro he; have he2 : _ = _ := he; have := hlo _ hi; omega)) ?_)))))) (fun hS => ?_)
        refine D_ev 3 (by kernel_rfl) rfl ?_
        refine L_call (.plain rfl) rfl rfl (r_call Tryd.func27 rfl rfl rfl (by rfl)) (rdnum_n w0.heap.size br vr l (q1 l) _ (RdAt.nw hR1 (by (repeat (first | exact Ch.refl _ | assumption | (refine Ch.fresh ?_ (by assumption) (by intro i hi he; first | exact he | (exfalso; have he2 : i = _ := he; omega))))))) (by omega)) ?_
        rintro v30 w16 ⟨rfl, hR2, c16⟩
        have hz16 := c16.size
        refine L_nil ?_
        refine heldK (by (exact Bk.to (by assumption) (by (repeat (first | exact Sm.refl _ _ | (refine Sm.stepT (by assumption) (by intro hlt hsm; first | exact not_no | (intro he; have he2 : _ = _ := he; omega) | (intro he; have he2 : _ = _ := he; have := Ow.lt how hi; omega) | (intro he; have he2 : _ = _ := he; have := hlo _ hi; omega)) ?_)))))) (fun hS => ?_)
        refine D_ev 5 (by kernel_rfl) rfl ?_
        refine L_call (.plain rfl) rfl rfl (r_call Tryd.func27 rfl rfl rfl (by rfl)) (rdnum_n w0.heap.size br vr l (q2 l) _ (RdAt.nw hR2 (by (repeat (first | exact Ch.refl _ | assumption | (refine Ch.fresh ?_ (by assumption) (by intro i hi he; first | exact he | (exfalso; have he2 : i = _ := he; omega))))))) (by omega)) ?_
        rintro v32 w17 ⟨rfl, hR3, c17⟩
        have hz17 := c17.size
        have hbk3 := hR3.bk
        have how3 := hR3.ow
        refine L_nil ?_
        refine heldK (by (exact Bk.to (by assumption) (by (repeat (first | exact Sm.refl _ _ | (refine Sm.stepT (by assumption) (by intro hlt hsm; first | exact not_no | (intro he; have he2 : _ = _ := he; omega) | (intro he; have he2 : _ = _ := he; have := Ow.lt how hi; omega) | (intro he; have he2 : _ = _ := he; have := hlo _ hi; omega)) ?_)))))) (fun hS => ?_)
        refine D_take 6 rfl (by kernel_rfl) (by kernel_rfl) (by kernel_rfl) (by kernel_rfl) (.plain rfl) rfl rfl (by assumption) (fun W hW => r_build1 (pl := [(0, 1), (1, 1), (2, 1), (3, 1), (4, 1), (5, 1), (6, 1), (7, 1)]) (vs := [(0, .int _ _), (1, .int _ _), (2, .int _ _)]) (cells := [_, _, _, _, _, _, _, _]) Tryd.underlying24 rfl rfl (by rfl) rfl (by rfl)) ?_
        refine D_ev 8 (by kernel_rfl) rfl ?_
        refine L_storerow (.plain rfl) rfl rfl (by (exact Bk.to (by assumption) (by (repeat (first | exact Sm.refl _ _ | (refine Sm.stepT (by assumption) (by intro hlt hsm; first | exact not_no | (intro he; have he2 : _ = _ := he; omega) | (intro he; have he2 : _ = _ := he; have := Ow.lt how hi; omega) | (intro he; have he2 : _ = _ := he; have := hlo _ hi; omega)) ?_)))))) (by first | rfl | (simp; done) | assumption) (by first | rfl | assumption) (by first | rfl | (simp [Value.oneCell']; done) | assumption) (fun w18 hb18 hs18 c18 => ?_)
        refine L_nil ?_
        refine heldL ?_
        refine D_done (by kernel_rfl) ?_
        refine ⟨⟨rfl, rfl, rfl, rfl, rfl, trivial⟩, _, rfl, ?_⟩
        refine ⟨⟨by (exact Bk.to (by assumption) (by (repeat (first | exact Sm.refl _ _ | (refine Sm.stepT (by assumption) (by intro hlt hsm; first | exact not_no | (intro he; have he2 : _ = _ := he; omega) | (intro he; have he2 : _ = _ := he; have := Ow.lt how hi; omega) | (intro he; have he2 : _ = _ := he; have := hlo _ hi; omega)) ?_))))), hR3.hb, by (exact Ow.to (by first | assumption | exact Ow.of (by assumption)) (fun i hi => by (repeat (first | exact Sm.refl _ _ | (refine Sm.stepT (by assumption) (by intro hlt hsm; first | exact not_no | (intro he; have he2 : _ = _ := he; omega) | (intro he; have he2 : _ = _ := he; have := Ow.lt how hi; omega) | (intro he; have he2 : _ = _ := he; have := hlo _ hi; omega)) ?_))))), hR3.ha, hR3.hl⟩, by (exact Bk.to (by assumption) (by (repeat (first | exact Sm.refl _ _ | (refine Sm.stepT (by assumption) (by intro hlt hsm; first | exact not_no | (intro he; have he2 : _ = _ := he; omega) | (intro he; have he2 : _ = _ := he; have := Ow.lt how hi; omega) | (intro he; have he2 : _ = _ := he; have := hlo _ hi; omega)) ?_))))), by (exact Bk.to (by assumption) (by (repeat (first | exact Sm.refl _ _ | (refine Sm.stepT (by assumption) (by intro hlt hsm; first | exact not_no | (intro he; have he2 : _ = _ := he; omega) | (intro he; have he2 : _ = _ := he; have := Ow.lt how hi; omega) | (intro he; have he2 : _ = _ := he; have := hlo _ hi; omega)) ?_))))), by (exact Bk.to (by assumption) (by (repeat (first | exact Sm.refl _ _ | (refine Sm.stepT (by assumption) (by intro hlt hsm; first | exact not_no | (intro he; have he2 : _ = _ := he; omega) | (intro he; have he2 : _ = _ := he; have := Ow.lt how hi; omega) | (intro he; have he2 : _ = _ := he; have := hlo _ hi; omega)) ?_))))), by (exact Sl.to (by first | assumption | exact Sl.own (by assumption) | exact Mu.sl (by assumption) | exact Ow.sl (by assumption)) (fun i hi => by (repeat (first | exact Sm.refl _ _ | (refine Sm.stepT (by assumption) (by intro hlt hsm; first | exact not_no | (intro he; have he2 : _ = _ := he; omega) | (intro he; have he2 : _ = _ := he; have := Ow.lt how hi; omega) | (intro he; have he2 : _ = _ := he; have := hlo _ hi; omega)) ?_))))), ⟨by omega, by omega, by omega⟩, by (repeat (first | exact Ch.refl _ | assumption | (refine Ch.fresh ?_ (by assumption) (by intro i hi he; first | exact he | (exfalso; have he2 : i = _ := he; omega)))))⟩
    · refine L_new (.plain rfl) rfl rfl (r_alloca rfl) (fun w19 b9 hb9 eb19 hs19 c19 => ?_)
      refine L_nil ?_
      refine heldK (by (exact Bk.to (by assumption) (by (repeat (first | exact Sm.refl _ _ | (refine Sm.stepT (by assumption) (by intro hlt hsm; first | exact not_no | (intro he; have he2 : _ = _ := he; omega) | (intro he; have he2 : _ = _ := he; have := Ow.lt how hi; omega) | (intro he; have he2 : _ = _ := he; have := hlo _ hi; omega)) ?_)))))) (fun hS => ?_)
      refine D_ev 1 (by kernel_rfl) rfl ?_
      refine L_call (.plain rfl) rfl rfl (r_call Tryd.func28 rfl rfl rfl (by rfl)) (get1_walk w0.heap.size br b7 vr l (0, 0) _ (hRz.nw (by (repeat (first | exact Ch.refl _ | assumption | (refine Ch.fresh ?_ (by assumption) (by intro i hi he; first | exact he | (exfalso; have he2 : i = _ := he; omega))))))) (by (exact Bk.to (by assumption) (by (repeat (first | exact Sm.refl _ _ | (refine Sm.stepT (by assumption) (by intro hlt hsm; first | exact not_no | (intro he; have he2 : _ = _ := he; omega) | (intro he; have he2 : _ = _ := he; have := Ow.lt how hi; omega) | (intro he; have he2 : _ = _ := he; have := hlo _ hi; omega)) ?_)))))) (by omega)) ?_
      rintro v28 w20 ⟨rfl, hR1, c20⟩
      have hz20 := c20.size
      refine L_nil ?_
      refine heldK (by (exact Bk.to (by assumption) (by (repeat (first | exact Sm.refl _ _ | (refine Sm.stepT (by assumption) (by intro hlt hsm; first | exact not_no | (intro he; have he2 : _ = _ := he; omega) | (intro he; have he2 : _ = _ := he; have := Ow.lt how hi; omega) | (intro he; have he2 : _ = _ := he; have := hlo _ hi; omega)) ?_)))))) (fun hS => ?_)
      refine D_ev 3 (by kernel_rfl) rfl ?_
      refine L_call (.plain rfl) rfl rfl (r_call Tryd.func27 rfl rfl rfl (by rfl)) (rdnum_n w0.heap.size br vr l (q1 l) _ (RdAt.nw hR1 (by (repeat (first | exact Ch.refl _ | assumption | (refine Ch.fresh ?_ (by assumption) (by intro i hi he; first | exact he | (exfalso; have he2 : i = _ := he; omega))))))) (by omega)) ?_
      rintro v30 w21 ⟨rfl, hR2, c21⟩
      have hz21 := c21.size
      refine L_nil ?_
      refine heldK (by (exact Bk.to (by assumption) (by (repeat (first | exact Sm.refl _ _ | (refine Sm.stepT (by assumption) (by intro hlt hsm; first | exact not_no | (intro he; have he2 : _ = _ := he; omega) | (intro he; have he2 : _ = _ := he; have := Ow.lt how hi; omega) | (intro he; have he2 : _ = _ := he; have := hlo _ hi; omega)) ?_)))))) (fun hS => ?_)
      refine D_ev 5 (by kernel_rfl) rfl ?_
      refine L_call (.plain rfl) rfl rfl (r_call Tryd.func27 rfl rfl rfl (by rfl)) (rdnum_n w0.heap.size br vr l (q2 l) _ (RdAt.nw hR2 (by (repeat (first | exact Ch.refl _ | assumption | (refine Ch.fresh ?_ (by assumption) (by intro i hi he; first | exact he | (exfalso; have he2 : i = _ := he; omega))))))) (by omega)) ?_
      rintro v32 w22 ⟨rfl, hR3, c22⟩
      have hz22 := c22.size
      have hbk3 := hR3.bk
      have how3 := hR3.ow
      refine L_nil ?_
      refine heldK (by (exact Bk.to (by assumption) (by (repeat (first | exact Sm.refl _ _ | (refine Sm.stepT (by assumption) (by intro hlt hsm; first | exact not_no | (intro he; have he2 : _ = _ := he; omega) | (intro he; have he2 : _ = _ := he; have := Ow.lt how hi; omega) | (intro he; have he2 : _ = _ := he; have := hlo _ hi; omega)) ?_)))))) (fun hS => ?_)
      refine D_take 6 rfl (by kernel_rfl) (by kernel_rfl) (by kernel_rfl) (by kernel_rfl) (.plain rfl) rfl rfl (by assumption) (fun W hW => r_build1 (pl := [(0, 1), (1, 1), (2, 1), (3, 1), (4, 1), (5, 1), (6, 1), (7, 1)]) (vs := [(0, .int _ _), (1, .int _ _), (2, .int _ _)]) (cells := [_, _, _, _, _, _, _, _]) Tryd.underlying24 rfl rfl (by rfl) rfl (by rfl)) ?_
      refine D_ev 8 (by kernel_rfl) rfl ?_
      refine L_storerow (.plain rfl) rfl rfl (by (exact Bk.to (by assumption) (by (repeat (first | exact Sm.refl _ _ | (refine Sm.stepT (by assumption) (by intro hlt hsm; first | exact not_no | (intro he; have he2 : _ = _ := he; omega) | (intro he; have he2 : _ = _ := he; have := Ow.lt how hi; omega) | (intro he; have he2 : _ = _ := he; have := hlo _ hi; omega)) ?_)))))) (by first | rfl | (simp; done) | assumption) (by first | rfl | assumption) (by first | rfl | (simp [Value.oneCell']; done) | assumption) (fun w23 hb23 hs23 c23 => ?_)
      refine L_nil ?_
      refine heldL ?_
      refine D_done (by kernel_rfl) ?_
      refine ⟨⟨rfl, rfl, rfl, rfl, rfl, trivial⟩, _, rfl, ?_⟩
      refine ⟨⟨by (exact Bk.to (by assumption) (by (repeat (first | exact Sm.refl _ _ | (refine Sm.stepT (by assumption) (by intro hlt hsm; first | exact not_no | (intro he; have he2 : _ = _ := he; omega) | (intro he; have he2 : _ = _ := he; have := Ow.lt how hi; omega) | (intro he; have he2 : _ = _ := he; have := hlo _ hi; omega)) ?_))))), hR3.hb, by (exact Ow.to (by first | assumption | exact Ow.of (by assumption)) (fun i hi => by (repeat (first | exact Sm.refl _ _ | (refine Sm.stepT (by assumption) (by intro hlt hsm; first | exact not_no | (intro he; have he2 : _ = _ := he; omega) | (intro he; have he2 : _ = _ := he; have := Ow.lt how hi; omega) | (intro he; have he2 : _ = _ := he; have := hlo _ hi; omega)) ?_))))), hR3.ha, hR3.hl⟩, by (exact Bk.to (by assumption) (by (repeat (first | exact Sm.refl _ _ | (refine Sm.stepT (by assumption) (by intro hlt hsm; first | exact not_no | (intro he; have he2 : _ = _ := he; omega) | (intro he; have he2 : _ = _ := he; have := Ow.lt how hi; omega) | (intro he; have he2 : _ = _ := he; have := hlo _ hi; omega)) ?_))))), by (exact Bk.to (by assumption) (by (repeat (first | exact Sm.refl _ _ | (refine Sm.stepT (by assumption) (by intro hlt hsm; first | exact not_no | (intro he; have he2 : _ = _ := he; omega) | (intro he; have he2 : _ = _ := he; have := Ow.lt how hi; omega) | (intro he; have he2 : _ = _ := he; have := hlo _ hi; omega)) ?_))))), by (exact Bk.to (by assumption) (by (repeat (first | exact Sm.refl _ _ | (refine Sm.stepT (by assumption) (by intro hlt hsm; first | exact not_no | (intro he; have he2 : _ = _ := he; omega) | (intro he; have he2 : _ = _ := he; have := Ow.lt how hi; omega) | (intro he; have he2 : _ = _ := he; have := hlo _ hi; omega)) ?_))))), by (exact Sl.to (by first | assumption | exact Sl.own (by assumption) | exact Mu.sl (by assumption) | exact Ow.sl (by assumption)) (fun i hi => by (repeat (first | exact Sm.refl _ _ | (refine Sm.stepT (by assumption) (by intro hlt hsm; first | exact not_no | (intro he; have he2 : _ = _ := he; omega) | (intro he; have he2 : _ = _ := he; have := Ow.lt how hi; omega) | (intro he; have he2 : _ = _ := he; have := hlo _ hi; omega)) ?_))))), ⟨by omega, by omega, by omega⟩, by (repeat (first | exact Ch.refl _ | assumption | (refine Ch.fresh ?_ (by assumption) (by intro i hi he; first | exact he | (exfalso; have he2 : i = _ := he; omega)))))⟩
  rintro gcr7 w24 ⟨b9, hf9, hCr7⟩
  refine W_as 9 hf9 rfl ?_
  clear hf9
  obtain ⟨hR3, hb9a, hb7a, hb2a, hina, ⟨hl1, hl2, hl3⟩, hnw⟩ := hCr7
  have hz := hnw.size
  refine W_seq ?_
  refine W_seq ?_
  refine W_region ?_
  refine L_run (.plain rfl) rfl rfl (r_fieldb Tryd.underlying24 rfl (show _ = some 1 from rfl) rfl rfl (show _ = 0 from rfl)) ?_
  refine L_run (.plain rfl) rfl rfl (r_loadb rfl rfl (by (exact Bk.to (by assumption) (by (repeat (first | exact Sm.refl _ _ | (refine Sm.stepT (by assumption) (by intro hlt hsm; first | exact not_no | (intro he; have he2 : _ = _ := he; omega) | (intro he; have he2 : _ = _ := he; have := Ow.lt how hi; omega) | (intro he; have he2 : _ = _ := he; have := hlo _ hi; omega)) ?_)))))) (by first | assumption | (conv => lhs; simp only [List.getElem?_toArray, List.getElem?_cons_succ, List.getElem?_cons_zero]))) ?_
  refine L_run (.plain rfl) rfl rfl (r_eql rfl rfl) ?_
  refine L_nil ?_
  refine W_endF [2, 4, 6, 7, 9] (fun f W => True ∧ (RdAt w0.heap.size W br vr l (q6 l).1 (q6 l).2 ∧ Bk W b9 #[.int .i64 (gotM l).kind, .int .u64 (gotM l).life, .int .u64 (gotM l).seq, .int .u64 (gotM l).below, .int .u64 (gotM l).object, .string (gotM l).method, .int .i64 (gotM l).way, .string { data := #[] }] 24 ∧ Bk W b7 #[numF br] 54 ∧ Bk W b2 #[.int .i64 0, .int .u64 0, .int .u64 0, .int .u64 0, .int .u64 0, .string { data := #[] }, .int .i64 0, .string { data := #[] }] 24 ∧ By W vi l ∧ Nw w0 W)) ?_ ?_
  · refine W_if rfl (fun h36 => ?_) (fun h36 => ?_)
    · refine W_draw (fun W => Bk W b7 #[numF br] 54) 11 (m := 12) (by kernel_rfl) rfl (fun w25 c25 hs25 => ?_)
      refine held (by (exact Bk.to (by assumption) (by (repeat (first | exact Sm.refl _ _ | (refine Sm.stepT (by assumption) (by intro hlt hsm; first | exact not_no | (intro he; have he2 : _ = _ := he; omega) | (intro he; have he2 : _ = _ := he; have := Ow.lt how hi; omega) | (intro he; have he2 : _ = _ := he; have := hlo _ hi; omega)) ?_)))))) (fun hS => ?_)
      refine D_take 0 rfl (by kernel_rfl) (by kernel_rfl) (by kernel_rfl) (by kernel_rfl) (.plain rfl) rfl rfl (by assumption) (fun W hW => r_loadb rfl rfl (by exact hW) (by first | assumption | (conv => lhs; simp only [List.getElem?_toArray, List.getElem?_cons_succ, List.getElem?_cons_zero]))) ?_
      refine D_take 2 rfl (by kernel_rfl) (by kernel_rfl) (by kernel_rfl) (by kernel_rfl) (.plain rfl) rfl rfl (by assumption) (fun W hW => r_loadb rfl rfl (by exact hW) (by first | assumption | (conv => lhs; simp only [List.getElem?_toArray, List.getElem?_cons_succ, List.getElem?_cons_zero]))) ?_
      refine D_take 4 rfl (by kernel_rfl) (by kernel_rfl) (by kernel_rfl) (by kernel_rfl) (.plain rfl) rfl rfl (by assumption) (fun W hW => r_move (v := .pointer _) rfl) ?_
      refine D_ev 1 (by kernel_rfl) rfl ?_
      refine L_call (.plain rfl) rfl rfl (r_call Tryd.func27 rfl rfl rfl (by rfl)) (rdnum_n w0.heap.size br vr l (q3 l) _ (RdAt.nw hR3 (by (repeat (first | exact Ch.refl _ | assumption | (refine Ch.fresh ?_ (by assumption) (by intro i hi he; first | exact he | (exfalso; have he2 : i = _ := he; omega))))))) (by omega)) ?_
      rintro v38 w26 ⟨rfl, hR4, c26⟩
      have hz26 := c26.size
      refine L_nil ?_
      refine heldK (by (exact Bk.to (by assumption) (by (repeat (first | exact Sm.refl _ _ | (refine Sm.stepT (by assumption) (by intro hlt hsm; first | exact not_no | (intro he; have he2 : _ = _ := he; omega) | (intro he; have he2 : _ = _ := he; have := Ow.lt how hi; omega) | (intro he; have he2 : _ = _ := he; have := hlo _ hi; omega)) ?_)))))) (fun hS => ?_)
      refine D_take 6 rfl (by kernel_rfl) (by kernel_rfl) (by kernel_rfl) (by kernel_rfl) (.plain rfl) rfl rfl (by assumption) (fun W hW => r_fieldb Tryd.underlying24 rfl (show _ = some 1 from rfl) rfl rfl (show _ = 3 from rfl)) ?_
      refine D_ev 3 (by kernel_rfl) rfl ?_
      refine L_call (.plain rfl) rfl rfl (r_call Tryd.func27 rfl rfl rfl (by rfl)) (rdnum_n w0.heap.size br vr l (ns l (q3 l)) _ (RdAt.nw hR4 (by (repeat (first | exact Ch.refl _ | assumption | (refine Ch.fresh ?_ (by assumption) (by intro i hi he; first | exact he | (exfalso; have he2 : i = _ := he; omega))))))) (by omega)) ?_
      rintro v40 w27 ⟨rfl, hR5, c27⟩
      have hz27 := c27.size
      refine L_nil ?_
      refine heldK (by (exact Bk.to (by assumption) (by (repeat (first | exact Sm.refl _ _ | (refine Sm.stepT (by assumption) (by intro hlt hsm; first | exact not_no | (intro he; have he2 : _ = _ := he; omega) | (intro he; have he2 : _ = _ := he; have := Ow.lt how hi; omega) | (intro he; have he2 : _ = _ := he; have := hlo _ hi; omega)) ?_)))))) (fun hS => ?_)
      refine D_ev 5 (by kernel_rfl) rfl ?_
      refine L_call (.plain rfl) rfl rfl (r_call Tryd.func29 rfl rfl rfl (by rfl)) (rdtext_n w0.heap.size br vr l (ns l (ns l (q3 l))) _ (RdAt.nw hR5 (by (repeat (first | exact Ch.refl _ | assumption | (refine Ch.fresh ?_ (by assumption) (by intro i hi he; first | exact he | (exfalso; have he2 : i = _ := he; omega))))))) (hT.nw (by (repeat (first | exact Ch.refl _ | assumption | (refine Ch.fresh ?_ (by assumption) (by intro i hi he; first | exact he | (exfalso; have he2 : i = _ := he; omega)))))) (by omega)) (by omega)) ?_
      rintro v42 w28 ⟨rfl, hR6, c28⟩
      have hz28 := c28.size
      have hbk6 := hR6.bk
      have how6 := hR6.ow
      refine L_nil ?_
      refine heldK (by (exact Bk.to (by assumption) (by (repeat (first | exact Sm.refl _ _ | (refine Sm.stepT (by assumption) (by intro hlt hsm; first | exact not_no | (intro he; have he2 : _ = _ := he; omega) | (intro he; have he2 : _ = _ := he; have := Ow.lt how hi; omega) | (intro he; have he2 : _ = _ := he; have := hlo _ hi; omega)) ?_)))))) (fun hS => ?_)
      refine D_ev 7 (by kernel_rfl) rfl ?_
      refine L_set (.plain rfl) rfl (by (exact Bk.to (by assumption) (by (repeat (first | exact Sm.refl _ _ | (refine Sm.stepT (by assumption) (by intro hlt hsm; first | exact not_no | (intro he; have he2 : _ = _ := he; omega) | (intro he; have he2 : _ = _ := he; have := Ow.lt how hi; omega) | (intro he; have he2 : _ = _ := he; have := hlo _ hi; omega)) ?_)))))) (r_store (v := .int _ _) rfl rfl rfl rfl (by (exact Bk.to (by assumption) (by (repeat (first | exact Sm.refl _ _ | (refine Sm.stepT (by assumption) (by intro hlt hsm; first | exact not_no | (intro he; have he2 : _ = _ := he; omega) | (intro he; have he2 : _ = _ := he; have := Ow.lt how hi; omega) | (intro he; have he2 : _ = _ := he; have := hlo _ hi; omega)) ?_)))))) (by first | decide | (simp; done) | omega)) (fun w29 hb29 hs29 c29 => ?_)
      try simp only [List.setIfInBounds_toArray, List.set_cons_zero, List.set_cons_succ] at hb29
      refine L_nil ?_
      refine heldK (by (exact Bk.to (by assumption) (by (repeat (first | exact Sm.refl _ _ | (refine Sm.stepT (by assumption) (by intro hlt hsm; first | exact not_no | (intro he; have he2 : _ = _ := he; omega) | (intro he; have he2 : _ = _ := he; have := Ow.lt how hi; omega) | (intro he; have he2 : _ = _ := he; have := hlo _ hi; omega)) ?_)))))) (fun hS => ?_)
      refine D_take 8 rfl (by kernel_rfl) (by kernel_rfl) (by kernel_rfl) (by kernel_rfl) (.plain rfl) rfl rfl (by assumption) (fun W hW => r_fieldb Tryd.underlying24 rfl (show _ = some 1 from rfl) rfl rfl (show _ = 4 from rfl)) ?_
      refine D_ev 9 (by kernel_rfl) rfl ?_
      refine L_set (.plain rfl) rfl (by (exact Bk.to (by assumption) (by (repeat (first | exact Sm.refl _ _ | (refine Sm.stepT (by assumption) (by intro hlt hsm; first | exact not_no | (intro he; have he2 : _ = _ := he; omega) | (intro he; have he2 : _ = _ := he; have := Ow.lt how hi; omega) | (intro he; have he2 : _ = _ := he; have := hlo _ hi; omega)) ?_)))))) (r_store (v := .int _ _) rfl rfl rfl rfl (by (exact Bk.to (by assumption) (by (repeat (first | exact Sm.refl _ _ | (refine Sm.stepT (by assumption) (by intro hlt hsm; first | exact not_no | (intro he; have he2 : _ = _ := he; omega) | (intro he; have he2 : _ = _ := he; have := Ow.lt how hi; omega) | (intro he; have he2 : _ = _ := he; have := hlo _ hi; omega)) ?_)))))) (by first | decide | (simp; done) | omega)) (fun w30 hb30 hs30 c30 => ?_)
      try simp only [List.setIfInBounds_toArray, List.set_cons_zero, List.set_cons_succ] at hb30
      refine L_nil ?_
      refine heldK (by (exact Bk.to (by assumption) (by (repeat (first | exact Sm.refl _ _ | (refine Sm.stepT (by assumption) (by intro hlt hsm; first | exact not_no | (intro he; have he2 : _ = _ := he; omega) | (intro he; have he2 : _ = _ := he; have := Ow.lt how hi; omega) | (intro he; have he2 : _ = _ := he; have := hlo _ hi; omega)) ?_)))))) (fun hS => ?_)
      refine D_take 10 rfl (by kernel_rfl) (by kernel_rfl) (by kernel_rfl) (by kernel_rfl) (.plain rfl) rfl rfl (by assumption) (fun W hW => r_fieldb Tryd.underlying24 rfl (show _ = some 1 from rfl) rfl rfl (show _ = 5 from rfl)) ?_
      refine D_ev 11 (by kernel_rfl) rfl ?_
      refine L_set (.plain rfl) rfl (by (exact Bk.to (by assumption) (by (repeat (first | exact Sm.refl _ _ | (refine Sm.stepT (by assumption) (by intro hlt hsm; first | exact not_no | (intro he; have he2 : _ = _ := he; omega) | (intro he; have he2 : _ = _ := he; have := Ow.lt how hi; omega) | (intro he; have he2 : _ = _ := he; have := hlo _ hi; omega)) ?_)))))) (r_store (v := .string _) rfl rfl rfl rfl (by (exact Bk.to (by assumption) (by (repeat (first | exact Sm.refl _ _ | (refine Sm.stepT (by assumption) (by intro hlt hsm; first | exact not_no | (intro he; have he2 : _ = _ := he; omega) | (intro he; have he2 : _ = _ := he; have := Ow.lt how hi; omega) | (intro he; have he2 : _ = _ := he; have := hlo _ hi; omega)) ?_)))))) (by first | decide | (simp; done) | omega)) (fun w31 hb31 hs31 c31 => ?_)
      try simp only [List.setIfInBounds_toArray, List.set_cons_zero, List.set_cons_succ] at hb31
      refine L_nil ?_
      refine heldL ?_
      refine D_done (by kernel_rfl) ?_
      refine ⟨⟨rfl, rfl, rfl, rfl, rfl, trivial⟩, trivial, ?_⟩
      first
      | (have hk : k0 l = 0 := by have h : ((k0 l : Nat) : Int) = 0 := h36; omega
         have e6 : q6 l = ts l (ns l (ns l (q3 l))) := if_pos hk
         refine ⟨?_, ?_, by (exact Bk.to (by assumption) (by (repeat (first | exact Sm.refl _ _ | (refine Sm.stepT (by assumption) (by intro hlt hsm; first | exact not_no | (intro he; have he2 : _ = _ := he; omega) | (intro he; have he2 : _ = _ := he; have := Ow.lt how hi; omega) | (intro he; have he2 : _ = _ := he; have := hlo _ hi; omega)) ?_))))), by (exact Bk.to (by assumption) (by (repeat (first | exact Sm.refl _ _ | (refine Sm.stepT (by assumption) (by intro hlt hsm; first | exact not_no | (intro he; have he2 : _ = _ := he; omega) | (intro he; have he2 : _ = _ := he; have := Ow.lt how hi; omega) | (intro he; have he2 : _ = _ := he; have := hlo _ hi; omega)) ?_))))), by (exact Sl.to (by first | assumption | exact Sl.own (by assumption) | exact Mu.sl (by assumption) | exact Ow.sl (by assumption)) (fun i hi => by (repeat (first | exact Sm.refl _ _ | (refine Sm.stepT (by assumption) (by intro hlt hsm; first | exact not_no | (intro he; have he2 : _ = _ := he; omega) | (intro he; have he2 : _ = _ := he; have := Ow.lt how hi; omega) | (intro he; have he2 : _ = _ := he; have := hlo _ hi; omega)) ?_))))), by (repeat (first | exact Ch.refl _ | assumption | (refine Ch.fresh ?_ (by assumption) (by intro i hi he; first | exact he | (exfalso; have he2 : i = _ := he; omega)))))⟩
         · rw [e6]; exact ⟨by (exact Bk.to (by assumption) (by (repeat (first | exact Sm.refl _ _ | (refine Sm.stepT (by assumption) (by intro hlt hsm; first | exact not_no | (intro he; have he2 : _ = _ := he; omega) | (intro he; have he2 : _ = _ := he; have := Ow.lt how hi; omega) | (intro he; have he2 : _ = _ := he; have := hlo _ hi; omega)) ?_))))), hR6.hb, by (exact Ow.to (by first | assumption | exact Ow.of (by assumption)) (fun i hi => by (repeat (first | exact Sm.refl _ _ | (refine Sm.stepT (by assumption) (by intro hlt hsm; first | exact not_no | (intro he; have he2 : _ = _ := he; omega) | (intro he; have he2 : _ = _ := he; have := Ow.lt how hi; omega) | (intro he; have he2 : _ = _ := he; have := hlo _ hi; omega)) ?_))))), hR6.ha, hR6.hl⟩
         · rw [gotM_0 hk]
           have hB : Bk w31 b9 #[.int .i64 ((min (nm l (0, 0)) 3 : Nat) : Int), .int .u64 ((nm l (q1 l) : Nat) : Int), .int .u64 ((nm l (q2 l) : Nat) : Int), .int .u64 ((nm l (q3 l) : Nat) : Int), .int .u64 ((nm l (ns l (q3 l)) : Nat) : Int), .string (sb (tx l (ns l (ns l (q3 l))))), .int .i64 0, .string { data := #[] }] 24 := by (exact Bk.to (by assumption) (by (repeat (first | exact Sm.refl _ _ | (refine Sm.stepT (by assumption) (by intro hlt hsm; first | exact not_no | (intro he; have he2 : _ = _ := he; omega) | (intro he; have he2 : _ = _ := he; have := Ow.lt how hi; omega) | (intro he; have he2 : _ = _ := he; have := hlo _ hi; omega)) ?_)))))
           rw [h36] at hB
           exact hB)
      | (have hk : ¬ k0 l = 0 := by (intro h; apply h36; show ((k0 l : Nat) : Int) = 0; omega)
         have e6 : q6 l = ns l (q3 l) := if_neg hk
         refine ⟨?_, ?_, by (exact Bk.to (by assumption) (by (repeat (first | exact Sm.refl _ _ | (refine Sm.stepT (by assumption) (by intro hlt hsm; first | exact not_no | (intro he; have he2 : _ = _ := he; omega) | (intro he; have he2 : _ = _ := he; have := Ow.lt how hi; omega) | (intro he; have he2 : _ = _ := he; have := hlo _ hi; omega)) ?_))))), by (exact Bk.to (by assumption) (by (repeat (first | exact Sm.refl _ _ | (refine Sm.stepT (by assumption) (by intro hlt hsm; first | exact not_no | (intro he; have he2 : _ = _ := he; omega) | (intro he; have he2 : _ = _ := he; have := Ow.lt how hi; omega) | (intro he; have he2 : _ = _ := he; have := hlo _ hi; omega)) ?_))))), by (exact Sl.to (by first | assumption | exact Sl.own (by assumption) | exact Mu.sl (by assumption) | exact Ow.sl (by assumption)) (fun i hi => by (repeat (first | exact Sm.refl _ _ | (refine Sm.stepT (by assumption) (by intro hlt hsm; first | exact not_no | (intro he; have he2 : _ = _ := he; omega) | (intro he; have he2 : _ = _ := he; have := Ow.lt how hi; omega) | (intro he; have he2 : _ = _ := he; have := hlo _ hi; omega)) ?_))))), by (repeat (first | exact Ch.refl _ | assumption | (refine Ch.fresh ?_ (by assumption) (by intro i hi he; first | exact he | (exfalso; have he2 : i = _ := he; omega)))))⟩
         · rw [e6]; exact ⟨by (exact Bk.to (by assumption) (by (repeat (first | exact Sm.refl _ _ | (refine Sm.stepT (by assumption) (by intro hlt hsm; first | exact not_no | (intro he; have he2 : _ = _ := he; omega) | (intro he; have he2 : _ = _ := he; have := Ow.lt how hi; omega) | (intro he; have he2 : _ = _ := he; have := hlo _ hi; omega)) ?_))))), hR6.hb, by (exact Ow.to (by first | assumption | exact Ow.of (by assumption)) (fun i hi => by (repeat (first | exact Sm.refl _ _ | (refine Sm.stepT (by assumption) (by intro hlt hsm; first | exact not_no | (intro he; have he2 : _ = _ := he; omega) | (intro he; have he2 : _ = _ := he; have := Ow.lt how hi; omega) | (intro he; have he2 : _ = _ := he; have := hlo _ hi; omega)) ?_))))), hR6.ha, hR6.hl⟩
         · rw [gotM_1 hk]
           show Bk w31 b9 #[.int .i64 ((min (nm l (0, 0)) 3 : Nat) : Int), .int .u64 ((nm l (q1 l) : Nat) : Int), .int .u64 ((nm l (q2 l) : Nat) : Int), .int .u64 0, .int .u64 0, .string { data := #[] }, .int .i64 ((min (nm l (q3 l)) 3 : Nat) : Int), .string { data := #[] }] 24
           (exact Bk.to (by assumption) (by (repeat (first | exact Sm.refl _ _ | (refine Sm.stepT (by assumption) (by intro hlt hsm; first | exact not_no | (intro he; have he2 : _ = _ := he; omega) | (intro he; have he2 : _ = _ := he; have := Ow.lt how hi; omega) | (intro he; have he2 : _ = _ := he; have := hlo _ hi; omega)) ?_))))))
    · refine W_region ?_
      refine L_run (.plain rfl) rfl rfl (r_move (by conv => lhs; whnf)) ?_
      refine L_call (.plain rfl) rfl rfl (r_call Tryd.func28 rfl rfl rfl (by rfl)) (get1_walk w0.heap.size br b7 vr l (q3 l) _ (RdAt.nw hR3 (by (repeat (first | exact Ch.refl _ | assumption | (refine Ch.fresh ?_ (by assumption) (by intro i hi he; first | exact he | (exfalso; have he2 : i = _ := he; omega))))))) (by (exact Bk.to (by assumption) (by (repeat (first | exact Sm.refl _ _ | (refine Sm.stepT (by assumption) (by intro hlt hsm; first | exact not_no | (intro he; have he2 : _ = _ := he; omega) | (intro he; have he2 : _ = _ := he; have := Ow.lt how hi; omega) | (intro he; have he2 : _ = _ := he; have := hlo _ hi; omega)) ?_)))))) (by omega)) ?_
      rintro v47 w32 ⟨rfl, hR6, c32⟩
      have hz32 := c32.size
      have hbk6 := hR6.bk
      have how6 := hR6.ow
      refine L_run (.plain rfl) rfl rfl (r_fieldb Tryd.underlying24 rfl (show _ = some 1 from rfl) rfl rfl (show _ = 6 from rfl)) ?_
      refine L_set (.plain rfl) rfl (by (exact Bk.to (by assumption) (by (repeat (first | exact Sm.refl _ _ | (refine Sm.stepT (by assumption) (by intro hlt hsm; first | exact not_no | (intro he; have he2 : _ = _ := he; omega) | (intro he; have he2 : _ = _ := he; have := Ow.lt how hi; omega) | (intro he; have he2 : _ = _ := he; have := hlo _ hi; omega)) ?_)))))) (r_store (v := .int _ _) rfl rfl rfl rfl (by (exact Bk.to (by assumption) (by (repeat (first | exact Sm.refl _ _ | (refine Sm.stepT (by assumption) (by intro hlt hsm; first | exact not_no | (intro he; have he2 : _ = _ := he; omega) | (intro he; have he2 : _ = _ := he; have := Ow.lt how hi; omega) | (intro he; have he2 : _ = _ := he; have := hlo _ hi; omega)) ?_)))))) (by first | decide | (simp; done) | omega)) (fun w33 hb33 hs33 c33 => ?_)
      try simp only [List.setIfInBounds_toArray, List.set_cons_zero, List.set_cons_succ] at hb33
      refine L_nil ?_
      refine ⟨⟨rfl, rfl, rfl, rfl, rfl, trivial⟩, trivial, ?_⟩
      first
      | (have hk : k0 l = 0 := by have h : ((k0 l : Nat) : Int) = 0 := h36; omega
         have e6 : q6 l = ts l (ns l (ns l (q3 l))) := if_pos hk
         refine ⟨?_, ?_, by (exact Bk.to (by assumption) (by (repeat (first | exact Sm.refl _ _ | (refine Sm.stepT (by assumption) (by intro hlt hsm; first | exact not_no | (intro he; have he2 : _ = _ := he; omega) | (intro he; have he2 : _ = _ := he; have := Ow.lt how hi; omega) | (intro he; have he2 : _ = _ := he; have := hlo _ hi; omega)) ?_))))), by (exact Bk.to (by assumption) (by (repeat (first | exact Sm.refl _ _ | (refine Sm.stepT (by assumption) (by intro hlt hsm; first | exact not_no | (intro he; have he2 : _ = _ := he; omega) | (intro he; have he2 : _ = _ := he; have := Ow.lt how hi; omega) | (intro he; have he2 : _ = _ := he; have := hlo _ hi; omega)) ?_))))), by (exact Sl.to (by first | assumption | exact Sl.own (by assumption) | exact Mu.sl (by assumption) | exact Ow.sl (by assumption)) (fun i hi => by (repeat (first | exact Sm.refl _ _ | (refine Sm.stepT (by assumption) (by intro hlt hsm; first | exact not_no | (intro he; have he2 : _ = _ := he; omega) | (intro he; have he2 : _ = _ := he; have := Ow.lt how hi; omega) | (intro he; have he2 : _ = _ := he; have := hlo _ hi; omega)) ?_))))), by (repeat (first | exact Ch.refl _ | assumption | (refine Ch.fresh ?_ (by assumption) (by intro i hi he; first | exact he | (exfalso; have he2 : i = _ := he; omega)))))⟩
         · rw [e6]; exact ⟨by (exact Bk.to (by assumption) (by (repeat (first | exact Sm.refl _ _ | (refine Sm.stepT (by assumption) (by intro hlt hsm; first | exact not_no | (intro he; have he2 : _ = _ := he; omega) | (intro he; have he2 : _ = _ := he; have := Ow.lt how hi; omega) | (intro he; have he2 : _ = _ := he; have := hlo _ hi; omega)) ?_))))), hR6.hb, by (exact Ow.to (by first | assumption | exact Ow.of (by assumption)) (fun i hi => by (repeat (first | exact Sm.refl _ _ | (refine Sm.stepT (by assumption) (by intro hlt hsm; first | exact not_no | (intro he; have he2 : _ = _ := he; omega) | (intro he; have he2 : _ = _ := he; have := Ow.lt how hi; omega) | (intro he; have he2 : _ = _ := he; have := hlo _ hi; omega)) ?_))))), hR6.ha, hR6.hl⟩
         · rw [gotM_0 hk]
           have hB : Bk w33 b9 #[.int .i64 ((min (nm l (0, 0)) 3 : Nat) : Int), .int .u64 ((nm l (q1 l) : Nat) : Int), .int .u64 ((nm l (q2 l) : Nat) : Int), .int .u64 ((nm l (q3 l) : Nat) : Int), .int .u64 ((nm l (ns l (q3 l)) : Nat) : Int), .string (sb (tx l (ns l (ns l (q3 l))))), .int .i64 0, .string { data := #[] }] 24 := by (exact Bk.to (by assumption) (by (repeat (first | exact Sm.refl _ _ | (refine Sm.stepT (by assumption) (by intro hlt hsm; first | exact not_no | (intro he; have he2 : _ = _ := he; omega) | (intro he; have he2 : _ = _ := he; have := Ow.lt how hi; omega) | (intro he; have he2 : _ = _ := he; have := hlo _ hi; omega)) ?_)))))
           rw [h36] at hB
           exact hB)
      | (have hk : ¬ k0 l = 0 := by (intro h; apply h36; show ((k0 l : Nat) : Int) = 0; omega)
         have e6 : q6 l = ns l (q3 l) := if_neg hk
         refine ⟨?_, ?_, by (exact Bk.to (by assumption) (by (repeat (first | exact Sm.refl _ _ | (refine Sm.stepT (by assumption) (by intro hlt hsm; first | exact not_no | (intro he; have he2 : _ = _ := he; omega) | (intro he; have he2 : _ = _ := he; have := Ow.lt how hi; omega) | (intro he; have he2 : _ = _ := he; have := hlo _ hi; omega)) ?_))))), by (exact Bk.to (by assumption) (by (repeat (first | exact Sm.refl _ _ | (refine Sm.stepT (by assumption) (by intro hlt hsm; first | exact not_no | (intro he; have he2 : _ = _ := he; omega) | (intro he; have he2 : _ = _ := he; have := Ow.lt how hi; omega) | (intro he; have he2 : _ = _ := he; have := hlo _ hi; omega)) ?_))))), by (exact Sl.to (by first | assumption | exact Sl.own (by assumption) | exact Mu.sl (by assumption) | exact Ow.sl (by assumption)) (fun i hi => by (repeat (first | exact Sm.refl _ _ | (refine Sm.stepT (by assumption) (by intro hlt hsm; first | exact not_no | (intro he; have he2 : _ = _ := he; omega) | (intro he; have he2 : _ = _ := he; have := Ow.lt how hi; omega) | (intro he; have he2 : _ = _ := he; have := hlo _ hi; omega)) ?_))))), by (repeat (first | exact Ch.refl _ | assumption | (refine Ch.fresh ?_ (by assumption) (by intro i hi he; first | exact he | (exfalso; have he2 : i = _ := he; omega)))))⟩
         · rw [e6]; exact ⟨by (exact Bk.to (by assumption) (by (repeat (first | exact Sm.refl _ _ | (refine Sm.stepT (by assumption) (by intro hlt hsm; first | exact not_no | (intro he; have he2 : _ = _ := he; omega) | (intro he; have he2 : _ = _ := he; have := Ow.lt how hi; omega) | (intro he; have he2 : _ = _ := he; have := hlo _ hi; omega)) ?_))))), hR6.hb, by (exact Ow.to (by first | assumption | exact Ow.of (by assumption)) (fun i hi => by (repeat (first | exact Sm.refl _ _ | (refine Sm.stepT (by assumption) (by intro hlt hsm; first | exact not_no | (intro he; have he2 : _ = _ := he; omega) | (intro he; have he2 : _ = _ := he; have := Ow.lt how hi; omega) | (intro he; have he2 : _ = _ := he; have := hlo _ hi; omega)) ?_))))), hR6.ha, hR6.hl⟩
         · rw [gotM_1 hk]
           show Bk w33 b9 #[.int .i64 ((min (nm l (0, 0)) 3 : Nat) : Int), .int .u64 ((nm l (q1 l) : Nat) : Int), .int .u64 ((nm l (q2 l) : Nat) : Int), .int .u64 0, .int .u64 0, .string { data := #[] }, .int .i64 ((min (nm l (q3 l)) 3 : Nat) : Int), .string { data := #[] }] 24
           (exact Bk.to (by assumption) (by (repeat (first | exact Sm.refl _ _ | (refine Sm.stepT (by assumption) (by intro hlt hsm; first | exact not_no | (intro he; have he2 : _ = _ := he; omega) | (intro he; have he2 : _ = _ := he; have := Ow.lt how hi; omega) | (intro he; have he2 : _ = _ := he; have := hlo _ hi; omega)) ?_))))))
  rintro gct36 w34 ⟨-, hCt36⟩
  obtain ⟨hRc, hb9c, hb7c, hb2c, hinc, hnw⟩ := hCt36
  have hz := hnw.size
  refine W_seq ?_
  refine W_region ?_
  refine L_run (.plain rfl) rfl rfl (r_loadb rfl rfl (by (exact Bk.to (by assumption) (by (repeat (first | exact Sm.refl _ _ | (refine Sm.stepT (by assumption) (by intro hlt hsm; first | exact not_no | (intro he; have he2 : _ = _ := he; omega) | (intro he; have he2 : _ = _ := he; have := Ow.lt how hi; omega) | (intro he; have he2 : _ = _ := he; have := hlo _ hi; omega)) ?_)))))) (by first | assumption | (conv => lhs; simp only [List.getElem?_toArray, List.getElem?_cons_succ, List.getElem?_cons_zero]))) ?_
  refine L_call (.plain rfl) rfl rfl (r_call Tryd.func27 rfl rfl rfl (by rfl)) (rdnum_n w0.heap.size br vr l (q6 l) _ (RdAt.nw hRc (by (repeat (first | exact Ch.refl _ | assumption | (refine Ch.fresh ?_ (by assumption) (by intro i hi he; first | exact he | (exfalso; have he2 : i = _ := he; omega))))))) (by omega)) ?_
  rintro v50 w35 ⟨rfl, hR7, c35⟩
  have hz35 := c35.size
  refine L_run (.plain rfl) rfl rfl (r_assign (v := .int _ _) rfl) ?_
  refine L_nil ?_
  refine W_seq ?_
  refine W_region ?_
  refine L_run (.plain rfl) rfl rfl (r_move (v := .pointer _) rfl) ?_
  refine L_call (.plain rfl) rfl rfl (r_call Tryd.func30 rfl rfl rfl (by rfl)) (left_walk w0.heap.size br vr l (q7 l).1 (q7 l).2 _ (RdAt.nw hR7 (by (repeat (first | exact Ch.refl _ | assumption | (refine Ch.fresh ?_ (by assumption) (by intro i hi he; first | exact he | (exfalso; have he2 : i = _ := he; omega)))))))) ?_
  rintro v52 w36 ⟨rfl, c36⟩
  have hz36 := c36.size
  refine L_run (.plain rfl) rfl rfl (r_assign (v := .int _ _) rfl) ?_
  refine L_nil ?_
  refine W_seq ?_
  refine W_seq ?_
  refine W_region ?_
  refine L_run (.plain rfl) rfl rfl (r_move (v := .pointer _) rfl) ?_
  refine L_call (.plain rfl) rfl rfl (r_call Tryd.func31 rfl rfl rfl (by rfl)) (err_walk w0.heap.size br vr l (q7 l).1 (q7 l).2 _ (RdAt.nw hR7 (by (repeat (first | exact Ch.refl _ | assumption | (refine Ch.fresh ?_ (by assumption) (by intro i hi he; first | exact he | (exfalso; have he2 : i = _ := he; omega)))))))) ?_
  rintro v55 w37 ⟨rfl, c37⟩
  have hz37 := c37.size
  refine L_run (.plain rfl) rfl rfl (r_move (by conv => lhs; whnf)) ?_
  refine L_run (.plain rfl) rfl rfl (r_ext2_0 rfl) ?_
  refine L_run (.plain rfl) rfl rfl (r_ext2_1 rfl) ?_
  refine L_run (.plain rfl) rfl rfl (r_assign (v := .int _ _) rfl) ?_
  refine L_run (.plain rfl) rfl rfl (r_assign (v := .int _ _) rfl) ?_
  refine L_nil ?_
  refine W_seq ?_
  refine W_region ?_
  refine L_run (.plain rfl) rfl rfl (r_move (v := .int _ _) rfl) ?_
  refine L_run (.plain rfl) rfl rfl (r_neq rfl rfl) ?_
  refine L_run (.plain rfl) rfl rfl (r_move (v := .bool _) rfl) ?_
  refine L_case (d := 60) rfl (fun h60 => ?_) (fun h60 => ?_)
  · refine L_pass rfl rfl rfl rfl rfl ?_
    refine L_pass rfl rfl rfl rfl rfl ?_
    refine L_pass rfl rfl rfl rfl rfl ?_
    refine L_pass rfl rfl rfl rfl rfl ?_
    refine L_run (.plain rfl) rfl rfl (r_pick_t (v := .bool _) rfl rfl) ?_
    refine L_nil ?_
    refine W_true rfl ?_
    refine W_seq ?_
    refine W_region ?_
    refine L_run (.plain rfl) rfl rfl (r_build1 (pl := [(0, 1), (1, 1), (2, 1), (3, 1), (4, 1), (5, 1), (6, 1), (7, 1)]) (vs := []) (cells := [_, _, _, _, _, _, _, _]) Tryd.underlying24 rfl rfl (by rfl) rfl (by rfl)) ?_
    refine L_storerow (.plain rfl) rfl rfl (by (exact Bk.to (by assumption) (by (repeat (first | exact Sm.refl _ _ | (refine Sm.stepT (by assumption) (by intro hlt hsm; first | exact not_no | (intro he; have he2 : _ = _ := he; omega) | (intro he; have he2 : _ = _ := he; have := Ow.lt how hi; omega) | (intro he; have he2 : _ = _ := he; have := hlo _ hi; omega)) ?_)))))) (by first | rfl | (simp; done) | assumption) (by first | rfl | assumption) (by first | rfl | (simp [Value.oneCell']; done) | assumption) (fun w38 hb38 hs38 c38 => ?_)
    refine L_run (.plain rfl) rfl rfl (r_assign (v := .int _ _) rfl) ?_
    refine L_nil ?_
    refine W_ret ?_
    refine r_ret_ct rfl rfl Tryd.underlying24 rfl (by (exact Bk.to (by assumption) (by (repeat (first | exact Sm.refl _ _ | (refine Sm.stepT (by assumption) (by intro hlt hsm; first | exact not_no | (intro he; have he2 : _ = _ := he; omega) | (intro he; have he2 : _ = _ := he; have := Ow.lt how hi; omega) | (intro he; have he2 : _ = _ := he; have := hlo _ hi; omega)) ?_)))))) (by first | rfl | assumption) (show _ = (.int _ _ : Value) from rfl) ?_
    refine ⟨?_, by (repeat (first | exact Ch.refl _ | assumption | (refine Ch.fresh ?_ (by assumption) (by intro i hi he; first | exact he | (exfalso; have he2 : i = _ := he; omega)))))⟩
    first
    | (have hg : getOk l := ⟨Classical.not_not.1 h60, Int.ofNat.inj (Classical.not_not.1 h65), Classical.not_not.1 h77⟩
       rw [if_pos hg, if_pos hg])
    | (have hg : ¬ getOk l := fun h => h60 h.1
       rw [if_neg hg, if_neg hg]; rfl)
    | (have hg : ¬ getOk l := fun h => h65 (congrArg Int.ofNat h.2.1)
       rw [if_neg hg, if_neg hg]; rfl)
    | (have hg : ¬ getOk l := fun h => h77 h.2.2
       rw [if_neg hg, if_neg hg]; rfl)
  · refine L_run (.yes 2 false rfl rfl) rfl rfl (r_move (v := .int _ _) rfl) ?_
    refine L_run (.yes 2 false rfl rfl) rfl rfl (r_move (v := .int _ _) rfl) ?_
    refine L_run (.yes 2 false rfl rfl) rfl rfl (r_conv Tryd.underlying3 Tryd.underlying22 rfl (by first | exact wr_u64 (by omega) | rfl)) ?_
    refine L_run (.yes 2 false rfl rfl) rfl rfl (r_neq rfl rfl) ?_
    refine L_run (.plain rfl) rfl rfl (r_pick_f (v := .bool _) rfl rfl) ?_
    refine L_nil ?_
    refine W_if rfl (fun h65 => ?_) (fun h65 => ?_)
    · refine W_seq ?_
      refine W_region ?_
      refine L_run (.plain rfl) rfl rfl (r_build1 (pl := [(0, 1), (1, 1), (2, 1), (3, 1), (4, 1), (5, 1), (6, 1), (7, 1)]) (vs := []) (cells := [_, _, _, _, _, _, _, _]) Tryd.underlying24 rfl rfl (by rfl) rfl (by rfl)) ?_
      refine L_storerow (.plain rfl) rfl rfl (by (exact Bk.to (by assumption) (by (repeat (first | exact Sm.refl _ _ | (refine Sm.stepT (by assumption) (by intro hlt hsm; first | exact not_no | (intro he; have he2 : _ = _ := he; omega) | (intro he; have he2 : _ = _ := he; have := Ow.lt how hi; omega) | (intro he; have he2 : _ = _ := he; have := hlo _ hi; omega)) ?_)))))) (by first | rfl | (simp; done) | assumption) (by first | rfl | assumption) (by first | rfl | (simp [Value.oneCell']; done) | assumption) (fun w39 hb39 hs39 c39 => ?_)
      refine L_run (.plain rfl) rfl rfl (r_assign (v := .int _ _) rfl) ?_
      refine L_nil ?_
      refine W_ret ?_
      refine r_ret_ct rfl rfl Tryd.underlying24 rfl (by (exact Bk.to (by assumption) (by (repeat (first | exact Sm.refl _ _ | (refine Sm.stepT (by assumption) (by intro hlt hsm; first | exact not_no | (intro he; have he2 : _ = _ := he; omega) | (intro he; have he2 : _ = _ := he; have := Ow.lt how hi; omega) | (intro he; have he2 : _ = _ := he; have := hlo _ hi; omega)) ?_)))))) (by first | rfl | assumption) (show _ = (.int _ _ : Value) from rfl) ?_
      refine ⟨?_, by (repeat (first | exact Ch.refl _ | assumption | (refine Ch.fresh ?_ (by assumption) (by intro i hi he; first | exact he | (exfalso; have he2 : i = _ := he; omega)))))⟩
      first
      | (have hg : getOk l := ⟨Classical.not_not.1 h60, Int.ofNat.inj (Classical.not_not.1 h65), Classical.not_not.1 h77⟩
         rw [if_pos hg, if_pos hg])
      | (have hg : ¬ getOk l := fun h => h60 h.1
         rw [if_neg hg, if_neg hg]; rfl)
      | (have hg : ¬ getOk l := fun h => h65 (congrArg Int.ofNat h.2.1)
         rw [if_neg hg, if_neg hg]; rfl)
      | (have hg : ¬ getOk l := fun h => h77 h.2.2
         rw [if_neg hg, if_neg hg]; rfl)
    · refine W_skip ?_
      refine W_seq ?_
      refine W_region ?_
      refine L_run (.plain rfl) rfl rfl (r_move (by conv => lhs; whnf)) ?_
      refine L_run (.plain rfl) rfl rfl (r_move (by conv => lhs; whnf)) ?_
      refine L_run (.plain rfl) rfl rfl (r_lenSl Tryd.underlying26 (by conv => lhs; whnf) (by (exact Sl.to (by first | assumption | exact Sl.own (by assumption) | exact Mu.sl (by assumption) | exact Ow.sl (by assumption)) (fun i hi => by (repeat (first | exact Sm.refl _ _ | (refine Sm.stepT (by assumption) (by intro hlt hsm; first | exact not_no | (intro he; have he2 : _ = _ := he; omega) | (intro he; have he2 : _ = _ := he; have := Ow.lt how hi; omega) | (intro he; have he2 : _ = _ := he; have := hlo _ hi; omega)) ?_))))))) ?_
      refine L_run (.plain rfl) rfl rfl (r_move (v := .int _ _) rfl) ?_
      refine L_run (.plain rfl) rfl rfl (r_sub rfl rfl (by first | exact wr_i64 (by omega) | rfl)) ?_
      refine L_pure (.plain rfl) rfl rfl (cut_l (w := w37) Tryd.underlying26 (show _ = some 1 from rfl) (by conv => lhs; whnf) (by (exact Sl.to (by first | assumption | exact Sl.own (by assumption) | exact Mu.sl (by assumption) | exact Ow.sl (by assumption)) (fun i hi => by (repeat (first | exact Sm.refl _ _ | (refine Sm.stepT (by assumption) (by intro hlt hsm; first | exact not_no | (intro he; have he2 : _ = _ := he; omega) | (intro he; have he2 : _ = _ := he; have := Ow.lt how hi; omega) | (intro he; have he2 : _ = _ := he; have := hlo _ hi; omega)) ?_)))))) rfl (by omega) (by omega)) ?_
      rintro v72 ⟨hv72, ho72⟩
      have hq7 := hR7.ha
      have e72 : ((l.length : Int) - ((l.length - (q7 l).1 : Nat) : Int)).toNat = (q7 l).1 := by
        have h : (q7 l).1 ≤ l.length := hq7
        omega
      rw [e72, Nat.mul_one, ← List.map_drop] at hv72
      have hB72 : By w37 v72 (l.drop (q7 l).1) := by
        show Sl _ _ 1 (l.drop (q7 l).1).length _
        rw [List.length_drop]; exact hv72
      refine L_run (.plain rfl) rfl rfl (r_bstr Tryd.underlying26 Tryd.underlying5 Tryd.underlying9 (by conv => lhs; whnf) (by (exact Sl.to (by first | assumption | exact Sl.own (by assumption) | exact Mu.sl (by assumption) | exact Ow.sl (by assumption)) (fun i hi => by (repeat (first | exact Sm.refl _ _ | (refine Sm.stepT (by assumption) (by intro hlt hsm; first | exact not_no | (intro he; have he2 : _ = _ := he; omega) | (intro he; have he2 : _ = _ := he; have := Ow.lt how hi; omega) | (intro he; have he2 : _ = _ := he; have := hlo _ hi; omega)) ?_))))))) ?_
      rw [← gotM_body l]
      refine L_run (.plain rfl) rfl rfl (r_fieldb Tryd.underlying24 rfl (show _ = some 1 from rfl) rfl rfl (show _ = 7 from rfl)) ?_
      refine L_set (.plain rfl) rfl (by (exact Bk.to (by assumption) (by (repeat (first | exact Sm.refl _ _ | (refine Sm.stepT (by assumption) (by intro hlt hsm; first | exact not_no | (intro he; have he2 : _ = _ := he; omega) | (intro he; have he2 : _ = _ := he; have := Ow.lt how hi; omega) | (intro he; have he2 : _ = _ := he; have := hlo _ hi; omega)) ?_)))))) (r_store (v := .string _) rfl rfl rfl rfl (by (exact Bk.to (by assumption) (by (repeat (first | exact Sm.refl _ _ | (refine Sm.stepT (by assumption) (by intro hlt hsm; first | exact not_no | (intro he; have he2 : _ = _ := he; omega) | (intro he; have he2 : _ = _ := he; have := Ow.lt how hi; omega) | (intro he; have he2 : _ = _ := he; have := hlo _ hi; omega)) ?_)))))) (by first | decide | (simp; done) | omega)) (fun w40 hb40 hs40 c40 => ?_)
      try simp only [List.setIfInBounds_toArray, List.set_cons_zero, List.set_cons_succ] at hb40
      refine L_nil ?_
      refine W_seq ?_
      refine W_seq ?_
      refine W_region ?_
      refine L_run (.plain rfl) rfl rfl (r_loadrow Tryd.underlying24 rfl rfl (by (exact Bk.to (by assumption) (by (repeat (first | exact Sm.refl _ _ | (refine Sm.stepT (by assumption) (by intro hlt hsm; first | exact not_no | (intro he; have he2 : _ = _ := he; omega) | (intro he; have he2 : _ = _ := he; have := Ow.lt how hi; omega) | (intro he; have he2 : _ = _ := he; have := hlo _ hi; omega)) ?_)))))) (by first | rfl | assumption)) ?_
      refine L_call (.plain rfl) rfl rfl (r_call Tryd.func12 rfl rfl rfl (by rfl)) (check_walk (gotM l) _) ?_
      rintro v76 w41 ⟨rfl, c41⟩
      have hz41 := c41.size
      refine L_run (.plain rfl) rfl rfl (r_neq rfl rfl) ?_
      refine L_nil ?_
      refine W_if rfl (fun h77 => ?_) (fun h77 => ?_)
      · refine W_seq ?_
        refine W_region ?_
        refine L_run (.plain rfl) rfl rfl (r_build1 (pl := [(0, 1), (1, 1), (2, 1), (3, 1), (4, 1), (5, 1), (6, 1), (7, 1)]) (vs := []) (cells := [_, _, _, _, _, _, _, _]) Tryd.underlying24 rfl rfl (by rfl) rfl (by rfl)) ?_
        refine L_storerow (.plain rfl) rfl rfl (by (exact Bk.to (by assumption) (by (repeat (first | exact Sm.refl _ _ | (refine Sm.stepT (by assumption) (by intro hlt hsm; first | exact not_no | (intro he; have he2 : _ = _ := he; omega) | (intro he; have he2 : _ = _ := he; have := Ow.lt how hi; omega) | (intro he; have he2 : _ = _ := he; have := hlo _ hi; omega)) ?_)))))) (by first | rfl | (simp; done) | assumption) (by first | rfl | assumption) (by first | rfl | (simp [Value.oneCell']; done) | assumption) (fun w42 hb42 hs42 c42 => ?_)
        refine L_run (.plain rfl) rfl rfl (r_assign (v := .int _ _) rfl) ?_
        refine L_nil ?_
        refine W_ret ?_
        refine r_ret_ct rfl rfl Tryd.underlying24 rfl (by (exact Bk.to (by assumption) (by (repeat (first | exact Sm.refl _ _ | (refine Sm.stepT (by assumption) (by intro hlt hsm; first | exact not_no | (intro he; have he2 : _ = _ := he; omega) | (intro he; have he2 : _ = _ := he; have := Ow.lt how hi; omega) | (intro he; have he2 : _ = _ := he; have := hlo _ hi; omega)) ?_)))))) (by first | rfl | assumption) (show _ = (.int _ _ : Value) from rfl) ?_
        refine ⟨?_, by (repeat (first | exact Ch.refl _ | assumption | (refine Ch.fresh ?_ (by assumption) (by intro i hi he; first | exact he | (exfalso; have he2 : i = _ := he; omega)))))⟩
        first
        | (have hg : getOk l := ⟨Classical.not_not.1 h60, Int.ofNat.inj (Classical.not_not.1 h65), Classical.not_not.1 h77⟩
           rw [if_pos hg, if_pos hg])
        | (have hg : ¬ getOk l := fun h => h60 h.1
           rw [if_neg hg, if_neg hg]; rfl)
        | (have hg : ¬ getOk l := fun h => h65 (congrArg Int.ofNat h.2.1)
           rw [if_neg hg, if_neg hg]; rfl)
        | (have hg : ¬ getOk l := fun h => h77 h.2.2
           rw [if_neg hg, if_neg hg]; rfl)
      · refine W_skip ?_
        refine W_seq ?_
        refine W_region ?_
        refine L_run (.plain rfl) rfl rfl (r_loadrow Tryd.underlying24 rfl rfl (by (exact Bk.to (by assumption) (by (repeat (first | exact Sm.refl _ _ | (refine Sm.stepT (by assumption) (by intro hlt hsm; first | exact not_no | (intro he; have he2 : _ = _ := he; omega) | (intro he; have he2 : _ = _ := he; have := Ow.lt how hi; omega) | (intro he; have he2 : _ = _ := he; have := hlo _ hi; omega)) ?_)))))) (by first | rfl | assumption)) ?_
        refine L_storerow (.plain rfl) rfl rfl (by (exact Bk.to (by assumption) (by (repeat (first | exact Sm.refl _ _ | (refine Sm.stepT (by assumption) (by intro hlt hsm; first | exact not_no | (intro he; have he2 : _ = _ := he; omega) | (intro he; have he2 : _ = _ := he; have := Ow.lt how hi; omega) | (intro he; have he2 : _ = _ := he; have := hlo _ hi; omega)) ?_)))))) (by first | rfl | (simp; done) | assumption) (by first | rfl | assumption) (by first | rfl | (simp [Value.oneCell']; done) | assumption) (fun w43 hb43 hs43 c43 => ?_)
        refine L_run (.plain rfl) rfl rfl (r_assign (v := .int _ _) rfl) ?_
        refine L_nil ?_
        refine W_ret ?_
        refine r_ret_ct rfl rfl Tryd.underlying24 rfl (by (exact Bk.to (by assumption) (by (repeat (first | exact Sm.refl _ _ | (refine Sm.stepT (by assumption) (by intro hlt hsm; first | exact not_no | (intro he; have he2 : _ = _ := he; omega) | (intro he; have he2 : _ = _ := he; have := Ow.lt how hi; omega) | (intro he; have he2 : _ = _ := he; have := hlo _ hi; omega)) ?_)))))) (by first | rfl | assumption) (show _ = (.int _ _ : Value) from rfl) ?_
        refine ⟨?_, by (repeat (first | exact Ch.refl _ | assumption | (refine Ch.fresh ?_ (by assumption) (by intro i hi he; first | exact he | (exfalso; have he2 : i = _ := he; omega)))))⟩
        first
        | (have hg : getOk l := ⟨Classical.not_not.1 h60, Int.ofNat.inj (Classical.not_not.1 h65), Classical.not_not.1 h77⟩
           rw [if_pos hg, if_pos hg])
        | (have hg : ¬ getOk l := fun h => h60 h.1
           rw [if_neg hg, if_neg hg]; rfl)
        | (have hg : ¬ getOk l := fun h => h65 (congrArg Int.ofNat h.2.1)
           rw [if_neg hg, if_neg hg]; rfl)
        | (have hg : ¬ getOk l := fun h => h77 h.2.2
           rw [if_neg hg, if_neg hg]; rfl)
end Go.Proofs.YtcbcelfgbelaoaaDoor

