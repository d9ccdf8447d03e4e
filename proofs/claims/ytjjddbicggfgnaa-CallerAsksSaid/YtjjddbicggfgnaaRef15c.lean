/- The document's caller, walked: a call asked for, ended. -/
import Derived.Test.YtjjddbicggfgnaaRef15b
namespace Go.Proofs.Ytjjddbicggfgnaa
open Go Go.RowKit
set_option linter.unusedVariables false
set_option linter.unusedSimpArgs false
set_option maxRecDepth 100000
variable {base : Nat} {w w' : World} {vl vo vr : Value} {R : RCal}
abbrev askX (R : RCal) (x : RCl) : RCl := { m := { x.m with below := (belowR R.L : Int) }, waited := 0, asks := x.asks + 1, ended := x.ended }
abbrev askR (R : RCal) (i : Nat) (x : RCl) : RCal := { R with L := R.L.set i (askX R x), out := R.out ++ [(askX R x).m] }
abbrev endX (x : RCl) : RCl := { x with ended := true }
abbrev endR (R : RCal) (i : Nat) (x : RCl) (way : Int) (body : ByteArray) : RCal := { R with L := R.L.set i (endX x), res := R.res ++ [⟨(i : Int) + 1, way, body⟩] }
theorem getx {L : List RCl} {i : Nat} {x : RCl} (h : L[i]? = some x) : ∃ hi : i < L.length, L[i] = x := by
  obtain ⟨h1, h2⟩ := List.getElem?_eq_some_iff.1 h
  exact ⟨h1, h2⟩
theorem rown_new {a b c a' b' c' : Value} {n m : Nat} (hnm : n ≤ m) (h1 : ∀ j, a'.ownBlock = some j → a.ownBlock = some j ∨ n ≤ j) (h2 : ∀ j, b'.ownBlock = some j → b.ownBlock = some j ∨ n ≤ j) (h3 : ∀ j, c'.ownBlock = some j → c.ownBlock = some j ∨ n ≤ j) :
    ∀ j, Rown a' b' c' j → Rown a b c j ∨ n ≤ j := by
  rintro j (h | h | h)
  · rcases h1 j h with k | k
    · exact .inl (.inl k)
    · exact .inr k
  · rcases h2 j h with k | k
    · exact .inl (.inr (.inl k))
    · exact .inr k
  · rcases h3 j h with k | k
    · exact .inl (.inr (.inr k))
    · exact .inr k
theorem rask_walk (base : Nat) (vl vo vr : Value) (R : RCal) (i : Nat) (x : RCl) (w0 : World) (hR : RcAt base w0 vl vo vr R) (hx : R.L[i]? = some x) (hl : R.L.length ≤ 100000) (hol : R.out.length ≤ 9000000) (ha : 0 ≤ x.asks ∧ x.asks ≤ 1000000) (hbs : base ≤ w0.heap.size) : Does Try.prog 33 #[.agg #[.int .u64 R.life, .int .i64 R.wait, .int .i64 R.most, vl, vo, vr], .int .i64 i] w0 (fun r w' => ∃ vl' vo', r = .agg ((askR R i x).row vl' vo' vr) ∧ RcAt base w' vl' vo' vr (askR R i x) ∧ (∀ j, Rown vl' vo' vr j → Rown vl vo vr j ∨ w0.heap.size ≤ j) ∧ Nw w0 w') := by
  have hv := hR.l.sl
  have h1 := sl_one hR.l.sl
  have h2 := sl_one hR.o.sl
  have h3 := sl_one hR.r.sl
  obtain ⟨hi, hxi⟩ := getx hx
  have hrow : ∀ (j : Nat) (u : Value), (rcl x)[j]? = some u → (cellsC R.L)[i * 11 + j]? = some u := by rw [← hxi]; exact cellsC_row R.L i hi
  have how := hR.o
  refine fn_of (n := 34) (args := [.agg #[.int .u64 R.life, .int .i64 R.wait, .int .i64 R.most, vl, vo, vr], .int .i64 i]) Try.func33 rfl rfl rfl ?_
  refine W_seq ?_
  refine W_region ?_
  refine L_new (.plain rfl) rfl rfl (r_boxa rfl) (fun w1 b2 hb2 eb1 hs1 c1 => ?_)
  refine L_new (.plain rfl) rfl rfl (r_alloca rfl) (fun w2 b4 hb4 eb2 hs2 c2 => ?_)
  refine L_nil ?_
  refine W_seq ?_
  refine W_region ?_
  refine L_r (r_fieldb Try.underlying41 rfl (show _ = some 1 from rfl) rfl rfl (show _ = 3 from rfl)) ?_
  refine L_r (r_lb rfl rfl) ?_
  refine L_r (r_mi rfl) ?_
  refine L_r (r_ix Try.underlying39 (show _ = some 11 from rfl) (by conv => lhs; whnf) rfl Sl.au) ?_
  refine L_r (r_loadSlrow (us := [.int .i64 x.m.kind, .int .u64 x.m.life, .int .u64 x.m.seq, .int .u64 x.m.below, .int .u64 x.m.object, .string x.m.method, .int .i64 x.m.way, .string x.m.body, .int .i64 x.waited, .int .i64 x.asks, .bool x.ended]) Try.underlying75 rfl rfl rfl rfl Sl.au (by exact hrow)) ?_
  refine L_new (.plain rfl) rfl rfl (r_alloca rfl) (fun w3 b5 hb5 eb3 hs3 c3 => ?_)
  refine L_storerow (.plain rfl) rfl rfl Bk.au (by first | rfl | (simp; done) | assumption) (by first | rfl | assumption) (by first | exact six_one h1 h2 h3 | exact six_one h1' h2 h3 | exact six_one h1' h2' h3 | rfl | (simp [Value.oneCell']; done)) (fun w4 hb4 hs4 c4 => ?_)
  refine L_nil ?_
  refine W_seq ?_
  refine W_region ?_
  refine L_r (r_fieldb Try.underlying75 rfl (show _ = some 1 from rfl) rfl rfl (show _ = 9 from rfl)) ?_
  refine L_r (r_lb rfl rfl) ?_
  refine L_r (r_add rfl rfl (by first | exact wr_i64 (by omega) | rfl)) ?_
  refine L_r (r_fieldb Try.underlying75 rfl (show _ = some 1 from rfl) rfl rfl (show _ = 9 from rfl)) ?_
  refine L_set (.plain rfl) rfl Bk.au (r_store (v := .int _ _) rfl rfl rfl rfl Bk.au (by first | decide | (simp; done) | omega)) (fun w5 hb5 hs5 c5 => ?_)
  try simp only [List.setIfInBounds_toArray, List.set_cons_zero, List.set_cons_succ] at hb5
  refine L_nil ?_
  refine W_seq ?_
  refine W_region ?_
  refine L_r (r_fieldb Try.underlying75 rfl (show _ = some 1 from rfl) rfl rfl (show _ = 8 from rfl)) ?_
  refine L_set (.plain rfl) rfl Bk.au (r_store (v := .int _ _) rfl rfl rfl rfl Bk.au (by first | decide | (simp; done) | omega)) (fun w6 hb6 hs6 c6 => ?_)
  try simp only [List.setIfInBounds_toArray, List.set_cons_zero, List.set_cons_succ] at hb6
  refine L_nil ?_
  refine W_seq ?_
  refine W_region ?_
  refine L_r (r_loadrow Try.underlying41 rfl rfl Bk.au (by first | rfl | assumption)) ?_
  refine L_call (.plain rfl) rfl rfl (r_call Try.func24 rfl rfl rfl (by rfl)) (rbelow_walk base vl vo vr R _ (hR.nw Ch.au) hl) ?_
  rintro v17 w7 ⟨rfl, c7⟩
  have hz7 := c7.size
  refine L_r (r_fieldb Try.underlying75 rfl (show _ = some 8 from rfl) rfl rfl (show _ = 0 from rfl)) ?_
  refine L_r (r_fieldb Try.underlying33 rfl (show _ = some 1 from rfl) rfl rfl (show _ = 3 from rfl)) ?_
  refine L_set (.plain rfl) rfl Bk.au (r_store (v := .int _ _) rfl rfl rfl rfl Bk.au (by first | decide | (simp; done) | omega)) (fun w8 hb8 hs8 c8 => ?_)
  try simp only [List.setIfInBounds_toArray, List.set_cons_zero, List.set_cons_succ] at hb8
  refine L_nil ?_
  refine W_seq ?_
  refine W_region ?_
  refine L_r (r_loadrow Try.underlying41 rfl rfl Bk.au (by first | rfl | assumption)) ?_
  refine L_r (r_mi rfl) ?_
  refine L_r (r_loadrow Try.underlying75 rfl rfl Bk.au (by first | rfl | assumption)) ?_
  refine L_call (.plain rfl) rfl rfl (r_call Try.func34 rfl rfl rfl (by rfl)) (with_walk base vl vo vr R i (askX R x) _ (hR.nw Ch.au) hi hl (by omega)) ?_
  rintro v23 w9 ⟨vl', rfl, hR', hlo, c9⟩
  have hz9 := c9.size
  have h1' := sl_one hR'.l.sl
  have hL := hR'.l
  refine L_storerow (.plain rfl) rfl rfl Bk.au (by first | rfl | (simp; done) | assumption) (by first | rfl | assumption) (by first | exact six_one h1 h2 h3 | exact six_one h1' h2 h3 | exact six_one h1' h2' h3 | rfl | (simp [Value.oneCell']; done)) (fun w10 hb10 hs10 c10 => ?_)
  refine L_nil ?_
  refine W_seq ?_
  refine W_draw (fun W => Bk W b2 ((withR R i (askX R x)).row vl' vo vr) 41 ∧ Bk W b5 (rcl (askX R x)).toArray 75) 9 (m := 10) (by kernel_rfl) rfl (fun w11 c11 hs11 => ?_)
  refine held (by exact ⟨Bk.au, Bk.au⟩) (fun hS => ?_)
  refine D_t 1 rfl (fun W hW => r_fieldb Try.underlying41 rfl (show _ = some 1 from rfl) rfl rfl (show _ = 4 from rfl)) ?_
  refine D_t 2 rfl (fun W hW => r_loadb rfl rfl (by first | exact hW.1 | exact hW.2) (by first | assumption | (conv => lhs; simp only [List.getElem?_toArray, List.getElem?_cons_succ, List.getElem?_cons_zero]))) ?_
  refine D_t 4 rfl (fun W hW => r_fieldb Try.underlying75 rfl (show _ = some 8 from rfl) rfl rfl (show _ = 0 from rfl)) ?_
  refine D_t 5 rfl (fun W hW => r_loadsub (us := [.int _ _, .int _ _, .int _ _, .int _ _, .int _ _, .string _, .int _ _, .string _]) Try.underlying33 rfl (show _ = some 8 from rfl) rfl (by first | exact hW.1 | exact hW.2) rfl rfl) ?_
  refine D_ev2 0 6 (by kernel_rfl) rfl rfl ?_ ?_
  · refine L_build0 (sz := 8) Try.underlying30 rfl (.plain rfl) rfl (fun v24 w12 ho24 eb12 nl24 hs12 c12 => ?_)
    refine L_nil ?_
    refine heldK (by exact ⟨Bk.au, Bk.au⟩) (fun hS => ?_)
    refine D_ev2 3 6 (by kernel_rfl) rfl rfl ?_ ?_
    · refine L_apow Try.underlying30 msg_info rfl (by decide) (.plain rfl) rfl (by conv => lhs; whnf) (by conv => lhs; whnf) (Ow.of Own.au) Sl.au (cellsM_one R.out) (by unfold maxLen; omega) (by omega) (by omega) (fun v27 w13 ho27 c13 hob27 => ?_)
      have hz13 := c13.size
      rw [Nat.zero_add, List.nil_append] at ho27
      refine L_nil ?_
      refine heldK (by exact ⟨Bk.au, Bk.au⟩) (fun hS => ?_)
      refine D_ev 6 (by kernel_rfl) rfl ?_
      refine L_buildrow [[_, _, _, _, _, _, _, _]] Try.underlying30 (show _ = some (some _, 8, _) from rfl) rfl rfl (.plain rfl) rfl (by rfl) (by rfl) rfl (fun b30 w14 hb30 hv30 eb14 hs14 c14 => ?_)
      simp only [List.flatten_cons, List.flatten_nil, List.append_nil, List.cons_append, List.nil_append] at hb30 hv30
      refine L_nil ?_
      refine heldK (by exact ⟨Bk.au, Bk.au⟩) (fun hS => ?_)
      refine D_ev 7 (by kernel_rfl) rfl ?_
      refine L_apow Try.underlying30 msg_info rfl (by decide) (.plain rfl) rfl (by conv => lhs; whnf) (by conv => lhs; whnf) Ow.au Sl.au (by intro y hy; simp at hy; rcases hy with rfl | rfl | rfl | rfl | rfl | rfl | rfl | rfl <;> rfl) (by unfold maxLen; omega) (by omega) (by omega) (fun v31 w15 ho31 c15 hob31 => ?_)
      have hz15 := c15.size
      have h2' := sl_one ho31.sl
      refine L_nil ?_
      refine heldK (by exact ⟨Bk.au, Bk.au⟩) (fun hS => ?_)
      refine D_t 8 rfl (fun W hW => r_fieldb Try.underlying41 rfl (show _ = some 1 from rfl) rfl rfl (show _ = 4 from rfl)) ?_
      refine D_ev 9 (by kernel_rfl) rfl ?_
      refine L_set (.plain rfl) rfl Bk.au (r_store rfl rfl (by conv => lhs; whnf) (by first | rfl | exact ow_one (by assumption) | exact own_one (by assumption) | exact sl_one (by assumption)) Bk.au (by first | decide | (simp; done) | omega)) (fun w16 hb16 hs16 c16 => ?_)
      try simp only [List.setIfInBounds_toArray, List.set_cons_zero, List.set_cons_succ] at hb16
      refine L_nil ?_
      refine heldL ?_
      refine D_done (by kernel_rfl) ?_
      refine W_seq ?_
      refine W_region ?_
      refine L_r (r_loadrow Try.underlying41 rfl rfl Bk.au (by first | rfl | assumption)) ?_
      refine L_storerow (.plain rfl) rfl rfl Bk.au (by first | rfl | (simp; done) | assumption) (by first | rfl | assumption) (by first | exact six_one h1 h2 h3 | exact six_one h1' h2 h3 | exact six_one h1' h2' h3 | rfl | (simp [Value.oneCell']; done)) (fun w17 hb17 hs17 c17 => ?_)
      refine L_nil ?_
      refine W_ret ?_
      refine r_ret_row rfl rfl Try.underlying41 rfl Bk.au (by first | rfl | assumption) ?_
      have hO := Ow.to (w' := w17) ho31 (fun i hi => Sm.au)
      refine ⟨vl', v31, rfl, ⟨Ow.to (w' := w17) hL (fun i hi => Sm.au), ?_, Ow.to (w' := w17) hR.r (fun i hi => Sm.au)⟩, rown_new (Nat.le_refl _) (fun j hj => by have := hlo j hj; omega) (fun j hj => by have := ow_base ho31 hj; omega) (fun j hj => .inl hj), Ch.au⟩
      show Ow _ _ _ _ _ (R.out ++ [_]).length (cellsM (R.out ++ [_]))
      rw [List.length_append, cellsM_append]
      exact hO.mono (by omega)
    · refine L_buildrow [[_, _, _, _, _, _, _, _]] Try.underlying30 (show _ = some (some _, 8, _) from rfl) rfl rfl (.plain rfl) rfl (by rfl) (by rfl) rfl (fun b30 w18 hb30 hv30 eb18 hs18 c18 => ?_)
      simp only [List.flatten_cons, List.flatten_nil, List.append_nil, List.cons_append, List.nil_append] at hb30 hv30
      refine L_nil ?_
      refine heldK (by exact ⟨Bk.au, Bk.au⟩) (fun hS => ?_)
      refine D_ev 3 (by kernel_rfl) rfl ?_
      refine L_apow Try.underlying30 msg_info rfl (by decide) (.plain rfl) rfl (by conv => lhs; whnf) (by conv => lhs; whnf) (Ow.of Own.au) Sl.au (cellsM_one R.out) (by unfold maxLen; omega) (by omega) (by omega) (fun v27 w19 ho27 c19 hob27 => ?_)
      have hz19 := c19.size
      rw [Nat.zero_add, List.nil_append] at ho27
      refine L_nil ?_
      refine heldK (by exact ⟨Bk.au, Bk.au⟩) (fun hS => ?_)
      refine D_ev 7 (by kernel_rfl) rfl ?_
      refine L_apow Try.underlying30 msg_info rfl (by decide) (.plain rfl) rfl (by conv => lhs; whnf) (by conv => lhs; whnf) Ow.au Sl.au (by intro y hy; simp at hy; rcases hy with rfl | rfl | rfl | rfl | rfl | rfl | rfl | rfl <;> rfl) (by unfold maxLen; omega) (by omega) (by omega) (fun v31 w20 ho31 c20 hob31 => ?_)
      have hz20 := c20.size
      have h2' := sl_one ho31.sl
      refine L_nil ?_
      refine heldK (by exact ⟨Bk.au, Bk.au⟩) (fun hS => ?_)
      refine D_t 8 rfl (fun W hW => r_fieldb Try.underlying41 rfl (show _ = some 1 from rfl) rfl rfl (show _ = 4 from rfl)) ?_
      refine D_ev 9 (by kernel_rfl) rfl ?_
      refine L_set (.plain rfl) rfl Bk.au (r_store rfl rfl (by conv => lhs; whnf) (by first | rfl | exact ow_one (by assumption) | exact own_one (by assumption) | exact sl_one (by assumption)) Bk.au (by first | decide | (simp; done) | omega)) (fun w21 hb21 hs21 c21 => ?_)
      try simp only [List.setIfInBounds_toArray, List.set_cons_zero, List.set_cons_succ] at hb21
      refine L_nil ?_
      refine heldL ?_
      refine D_done (by kernel_rfl) ?_
      refine W_seq ?_
      refine W_region ?_
      refine L_r (r_loadrow Try.underlying41 rfl rfl Bk.au (by first | rfl | assumption)) ?_
      refine L_storerow (.plain rfl) rfl rfl Bk.au (by first | rfl | (simp; done) | assumption) (by first | rfl | assumption) (by first | exact six_one h1 h2 h3 | exact six_one h1' h2 h3 | exact six_one h1' h2' h3 | rfl | (simp [Value.oneCell']; done)) (fun w22 hb22 hs22 c22 => ?_)
      refine L_nil ?_
      refine W_ret ?_
      refine r_ret_row rfl rfl Try.underlying41 rfl Bk.au (by first | rfl | assumption) ?_
      have hO := Ow.to (w' := w22) ho31 (fun i hi => Sm.au)
      refine ⟨vl', v31, rfl, ⟨Ow.to (w' := w22) hL (fun i hi => Sm.au), ?_, Ow.to (w' := w22) hR.r (fun i hi => Sm.au)⟩, rown_new (Nat.le_refl _) (fun j hj => by have := hlo j hj; omega) (fun j hj => by have := ow_base ho31 hj; omega) (fun j hj => .inl hj), Ch.au⟩
      show Ow _ _ _ _ _ (R.out ++ [_]).length (cellsM (R.out ++ [_]))
      rw [List.length_append, cellsM_append]
      exact hO.mono (by omega)
  · refine L_buildrow [[_, _, _, _, _, _, _, _]] Try.underlying30 (show _ = some (some _, 8, _) from rfl) rfl rfl (.plain rfl) rfl (by rfl) (by rfl) rfl (fun b30 w23 hb30 hv30 eb23 hs23 c23 => ?_)
    simp only [List.flatten_cons, List.flatten_nil, List.append_nil, List.cons_append, List.nil_append] at hb30 hv30
    refine L_nil ?_
    refine heldK (by exact ⟨Bk.au, Bk.au⟩) (fun hS => ?_)
    refine D_ev 0 (by kernel_rfl) rfl ?_
    refine L_build0 (sz := 8) Try.underlying30 rfl (.plain rfl) rfl (fun v24 w24 ho24 eb24 nl24 hs24 c24 => ?_)
    refine L_nil ?_
    refine heldK (by exact ⟨Bk.au, Bk.au⟩) (fun hS => ?_)
    refine D_ev 3 (by kernel_rfl) rfl ?_
    refine L_apow Try.underlying30 msg_info rfl (by decide) (.plain rfl) rfl (by conv => lhs; whnf) (by conv => lhs; whnf) (Ow.of Own.au) Sl.au (cellsM_one R.out) (by unfold maxLen; omega) (by omega) (by omega) (fun v27 w25 ho27 c25 hob27 => ?_)
    have hz25 := c25.size
    rw [Nat.zero_add, List.nil_append] at ho27
    refine L_nil ?_
    refine heldK (by exact ⟨Bk.au, Bk.au⟩) (fun hS => ?_)
    refine D_ev 7 (by kernel_rfl) rfl ?_
    refine L_apow Try.underlying30 msg_info rfl (by decide) (.plain rfl) rfl (by conv => lhs; whnf) (by conv => lhs; whnf) Ow.au Sl.au (by intro y hy; simp at hy; rcases hy with rfl | rfl | rfl | rfl | rfl | rfl | rfl | rfl <;> rfl) (by unfold maxLen; omega) (by omega) (by omega) (fun v31 w26 ho31 c26 hob31 => ?_)
    have hz26 := c26.size
    have h2' := sl_one ho31.sl
    refine L_nil ?_
    refine heldK (by exact ⟨Bk.au, Bk.au⟩) (fun hS => ?_)
    refine D_t 8 rfl (fun W hW => r_fieldb Try.underlying41 rfl (show _ = some 1 from rfl) rfl rfl (show _ = 4 from rfl)) ?_
    refine D_ev 9 (by kernel_rfl) rfl ?_
    refine L_set (.plain rfl) rfl Bk.au (r_store rfl rfl (by conv => lhs; whnf) (by first | rfl | exact ow_one (by assumption) | exact own_one (by assumption) | exact sl_one (by assumption)) Bk.au (by first | decide | (simp; done) | omega)) (fun w27 hb27 hs27 c27 => ?_)
    try simp only [List.setIfInBounds_toArray, List.set_cons_zero, List.set_cons_succ] at hb27
    refine L_nil ?_
    refine heldL ?_
    refine D_done (by kernel_rfl) ?_
    refine W_seq ?_
    refine W_region ?_
    refine L_r (r_loadrow Try.underlying41 rfl rfl Bk.au (by first | rfl | assumption)) ?_
    refine L_storerow (.plain rfl) rfl rfl Bk.au (by first | rfl | (simp; done) | assumption) (by first | rfl | assumption) (by first | exact six_one h1 h2 h3 | exact six_one h1' h2 h3 | exact six_one h1' h2' h3 | rfl | (simp [Value.oneCell']; done)) (fun w28 hb28 hs28 c28 => ?_)
    refine L_nil ?_
    refine W_ret ?_
    refine r_ret_row rfl rfl Try.underlying41 rfl Bk.au (by first | rfl | assumption) ?_
    have hO := Ow.to (w' := w28) ho31 (fun i hi => Sm.au)
    refine ⟨vl', v31, rfl, ⟨Ow.to (w' := w28) hL (fun i hi => Sm.au), ?_, Ow.to (w' := w28) hR.r (fun i hi => Sm.au)⟩, rown_new (Nat.le_refl _) (fun j hj => by have := hlo j hj; omega) (fun j hj => by have := ow_base ho31 hj; omega) (fun j hj => .inl hj), Ch.au⟩
    show Ow _ _ _ _ _ (R.out ++ [_]).length (cellsM (R.out ++ [_]))
    rw [List.length_append, cellsM_append]
    exact hO.mono (by omega)
theorem rend_walk (base : Nat) (vl vo vr : Value) (R : RCal) (i : Nat) (x : RCl) (way : Int) (body : ByteArray) (w0 : World) (hR : RcAt base w0 vl vo vr R) (hx : R.L[i]? = some x) (hl : R.L.length ≤ 100000) (hrl : R.res.length ≤ 1000000) (hbs : base ≤ w0.heap.size) : Does Try.prog 35 #[.agg #[.int .u64 R.life, .int .i64 R.wait, .int .i64 R.most, vl, vo, vr], .int .i64 i, .int .i64 way, .string body] w0 (fun r w' => ∃ vl' vr', r = .agg ((endR R i x way body).row vl' vo vr') ∧ RcAt base w' vl' vo vr' (endR R i x way body) ∧ (∀ j, Rown vl' vo vr' j → Rown vl vo vr j ∨ w0.heap.size ≤ j) ∧ Nw w0 w') := by
  have hv := hR.l.sl
  have h1 := sl_one hR.l.sl
  have h2 := sl_one hR.o.sl
  have h3 := sl_one hR.r.sl
  obtain ⟨hi, hxi⟩ := getx hx
  have hrow : ∀ (j : Nat) (u : Value), (rcl x)[j]? = some u → (cellsC R.L)[i * 11 + j]? = some u := by rw [← hxi]; exact cellsC_row R.L i hi
  have how := hR.r
  refine fn_of (n := 34) (args := [.agg #[.int .u64 R.life, .int .i64 R.wait, .int .i64 R.most, vl, vo, vr], .int .i64 i, .int .i64 way, .string body]) Try.func35 rfl rfl rfl ?_
  refine W_seq ?_
  refine W_region ?_
  refine L_new (.plain rfl) rfl rfl (r_boxa rfl) (fun w1 b4 hb4 eb1 hs1 c1 => ?_)
  refine L_new (.plain rfl) rfl rfl (r_alloca rfl) (fun w2 b8 hb8 eb2 hs2 c2 => ?_)
  refine L_nil ?_
  refine W_seq ?_
  refine W_region ?_
  refine L_r (r_fieldb Try.underlying41 rfl (show _ = some 1 from rfl) rfl rfl (show _ = 3 from rfl)) ?_
  refine L_r (r_lb rfl rfl) ?_
  refine L_r (r_mi rfl) ?_
  refine L_r (r_ix Try.underlying39 (show _ = some 11 from rfl) (by conv => lhs; whnf) rfl Sl.au) ?_
  refine L_r (r_loadSlrow (us := [.int .i64 x.m.kind, .int .u64 x.m.life, .int .u64 x.m.seq, .int .u64 x.m.below, .int .u64 x.m.object, .string x.m.method, .int .i64 x.m.way, .string x.m.body, .int .i64 x.waited, .int .i64 x.asks, .bool x.ended]) Try.underlying75 rfl rfl rfl rfl Sl.au (by exact hrow)) ?_
  refine L_new (.plain rfl) rfl rfl (r_alloca rfl) (fun w3 b9 hb9 eb3 hs3 c3 => ?_)
  refine L_storerow (.plain rfl) rfl rfl Bk.au (by first | rfl | (simp; done) | assumption) (by first | rfl | assumption) (by first | exact six_one h1 h2 h3 | exact six_one h1' h2 h3 | exact six_one h1' h2 h3' | rfl | (simp [Value.oneCell']; done)) (fun w4 hb4 hs4 c4 => ?_)
  refine L_nil ?_
  refine W_seq ?_
  refine W_region ?_
  refine L_r (r_fieldb Try.underlying75 rfl (show _ = some 1 from rfl) rfl rfl (show _ = 10 from rfl)) ?_
  refine L_set (.plain rfl) rfl Bk.au (r_store (v := .bool _) rfl rfl rfl rfl Bk.au (by first | decide | (simp; done) | omega)) (fun w5 hb5 hs5 c5 => ?_)
  try simp only [List.setIfInBounds_toArray, List.set_cons_zero, List.set_cons_succ] at hb5
  refine L_nil ?_
  refine W_seq ?_
  refine W_region ?_
  refine L_r (r_loadrow Try.underlying41 rfl rfl Bk.au (by first | rfl | assumption)) ?_
  refine L_r (r_mi rfl) ?_
  refine L_r (r_loadrow Try.underlying75 rfl rfl Bk.au (by first | rfl | assumption)) ?_
  refine L_call (.plain rfl) rfl rfl (r_call Try.func34 rfl rfl rfl (by rfl)) (with_walk base vl vo vr R i (endX x) _ (hR.nw Ch.au) hi hl (by omega)) ?_
  rintro v19 w6 ⟨vl', rfl, hR', hlo, c6⟩
  have hz6 := c6.size
  have h1' := sl_one hR'.l.sl
  have hL := hR'.l
  refine L_storerow (.plain rfl) rfl rfl Bk.au (by first | rfl | (simp; done) | assumption) (by first | rfl | assumption) (by first | exact six_one h1 h2 h3 | exact six_one h1' h2 h3 | exact six_one h1' h2 h3' | rfl | (simp [Value.oneCell']; done)) (fun w7 hb7 hs7 c7 => ?_)
  refine L_nil ?_
  refine W_seq ?_
  refine W_region ?_
  refine L_build0 (sz := 3) Try.underlying34 rfl (.plain rfl) rfl (fun v20 w8 ho20 eb8 nl20 hs8 c8 => ?_)
  refine L_r (r_fieldb Try.underlying41 rfl (show _ = some 1 from rfl) rfl rfl (show _ = 5 from rfl)) ?_
  refine L_r (r_lb rfl rfl) ?_
  refine L_apow Try.underlying34 rst_info rfl (by decide) (.plain rfl) rfl (by conv => lhs; whnf) (by conv => lhs; whnf) (Ow.of Own.au) Sl.au (cellsT_one R.res) (by unfold maxLen; omega) (by omega) (by omega) (fun v23 w9 ho23 c9 hob23 => ?_)
  have hz9 := c9.size
  rw [Nat.zero_add, List.nil_append] at ho23
  refine L_r (r_mi rfl) ?_
  refine L_r (r_conv Try.underlying3 Try.underlying26 rfl (by first | exact wr_u64 (by omega) | rfl)) ?_
  refine L_r (r_add rfl rfl (by first | exact wr_u64 (by omega) | rfl)) ?_
  refine L_r (r_mi rfl) ?_
  refine L_r (r_ms rfl) ?_
  refine L_r (r_build1 (pl := [(0, 1), (1, 1), (2, 1)]) (vs := [(0, .int _ _), (1, .int _ _), (2, .string _)]) (cells := [_, _, _]) Try.underlying58 rfl rfl (by rfl) rfl (by rfl)) ?_
  refine L_buildrow [[_, _, _]] Try.underlying34 (show _ = some (some _, 3, _) from rfl) rfl rfl (.plain rfl) rfl (by rfl) (by rfl) rfl (fun b30 w10 hb30 hv30 eb10 hs10 c10 => ?_)
  simp only [List.flatten_cons, List.flatten_nil, List.append_nil, List.cons_append, List.nil_append] at hb30 hv30
  refine L_apow Try.underlying34 rst_info rfl (by decide) (.plain rfl) rfl (by conv => lhs; whnf) (by conv => lhs; whnf) Ow.au Sl.au (by intro y hy; simp at hy; rcases hy with rfl | rfl | rfl <;> rfl) (by unfold maxLen; omega) (by omega) (by omega) (fun v31 w11 ho31 c11 hob31 => ?_)
  have hz11 := c11.size
  have h3' := sl_one ho31.sl
  refine L_r (r_fieldb Try.underlying41 rfl (show _ = some 1 from rfl) rfl rfl (show _ = 5 from rfl)) ?_
  refine L_set (.plain rfl) rfl Bk.au (r_store rfl rfl (by conv => lhs; whnf) (by first | rfl | exact ow_one (by assumption) | exact own_one (by assumption) | exact sl_one (by assumption)) Bk.au (by first | decide | (simp; done) | omega)) (fun w12 hb12 hs12 c12 => ?_)
  try simp only [List.setIfInBounds_toArray, List.set_cons_zero, List.set_cons_succ] at hb12
  refine L_nil ?_
  refine W_seq ?_
  refine W_region ?_
  refine L_r (r_loadrow Try.underlying41 rfl rfl Bk.au (by first | rfl | assumption)) ?_
  refine L_storerow (.plain rfl) rfl rfl Bk.au (by first | rfl | (simp; done) | assumption) (by first | rfl | assumption) (by first | exact six_one h1 h2 h3 | exact six_one h1' h2 h3 | exact six_one h1' h2 h3' | rfl | (simp [Value.oneCell']; done)) (fun w13 hb13 hs13 c13 => ?_)
  refine L_nil ?_
  refine W_ret ?_
  refine r_ret_row rfl rfl Try.underlying41 rfl Bk.au (by first | rfl | assumption) ?_
  have hO := Ow.to (w' := w13) ho31 (fun i hi => Sm.au)
  refine ⟨vl', v31, rfl, ⟨Ow.to (w' := w13) hL (fun i hi => Sm.au), Ow.to (w' := w13) hR.o (fun i hi => Sm.au), ?_⟩, rown_new (Nat.le_refl _) (fun j hj => by have := hlo j hj; omega) (fun j hj => .inl hj) (fun j hj => by have := ow_base ho31 hj; omega), Ch.au⟩
  show Ow _ _ _ _ _ (R.res ++ [_]).length (cellsT (R.res ++ [_]))
  rw [List.length_append, cellsT_append]
  exact hO.mono (by omega)
abbrev newR (R : RCal) (object : Int) (method body : ByteArray) : Msg := ⟨0, R.life, (R.L.length : Int) + 1, 1, object, method, 0, body⟩
abbrev addR (R : RCal) (object : Int) (method body : ByteArray) : RCal := { R with L := R.L ++ [⟨newR R object method body, 0, 0, false⟩] }
def beginR (R : RCal) (object : Int) (method body : ByteArray) : RCal × Int × Int :=
  if 1024 ≤ openN R.L then (R, 0, 150)
  else if checkC (newR R object method body) ≠ 0 then (R, 0, checkC (newR R object method body))
  else (askR (addR R object method body) R.L.length ⟨newR R object method body, 0, 0, false⟩, (R.L.length : Int) + 1, 0)
theorem rbegin_walk (base : Nat) (vl vo vr : Value) (R : RCal) (object : Int) (method body : ByteArray) (w0 : World) (hR : RcAt base w0 vl vo vr R) (hlf : 0 ≤ R.life ∧ R.life ≤ 18446744073709551615) (hob : 0 ≤ object ∧ object ≤ 18446744073709551615) (hms : method.size ≤ 1000000000) (hl : R.L.length ≤ 90000) (hol : R.out.length ≤ 9000000) (hbs : base ≤ w0.heap.size) : Does Try.prog 16 #[.agg #[.int .u64 R.life, .int .i64 R.wait, .int .i64 R.most, vl, vo, vr], .int .u64 object, .string method, .string body] w0 (fun r w' => ∃ vl' vo', r = .tuple #[.agg ((beginR R object method body).1.row vl' vo' vr), .int .u64 (beginR R object method body).2.1, .int .i64 (beginR R object method body).2.2] ∧ RcAt base w' vl' vo' vr (beginR R object method body).1 ∧ (∀ j, Rown vl' vo' vr j → Rown vl vo vr j ∨ w0.heap.size ≤ j) ∧ Nw w0 w') := by
  have hv := hR.l.sl
  have h1 := sl_one hR.l.sl
  have h2 := sl_one hR.o.sl
  have h3 := sl_one hR.r.sl
  have how := hR.l
  refine fn_of (n := 52) (args := [.agg #[.int .u64 R.life, .int .i64 R.wait, .int .i64 R.most, vl, vo, vr], .int .u64 object, .string method, .string body]) Try.func16 rfl rfl rfl ?_
  refine W_seq ?_
  refine W_region ?_
  refine L_new (.plain rfl) rfl rfl (r_boxa rfl) (fun w1 b4 hb4 eb1 hs1 c1 => ?_)
  refine L_new (.plain rfl) rfl rfl (r_alloca rfl) (fun w2 b8 hb8 eb2 hs2 c2 => ?_)
  refine L_r (r_ai rfl) ?_
  refine L_r (r_ai rfl) ?_
  refine L_nil ?_
  refine W_seq ?_
  refine W_seq ?_
  refine W_region ?_
  refine L_r (r_loadrow Try.underlying41 rfl rfl Bk.au (by first | rfl | assumption)) ?_
  refine L_call (.plain rfl) rfl rfl (r_call Try.func22 rfl rfl rfl (by rfl)) (ropen_walk base vl vo vr R _ (hR.nw Ch.au) (by omega)) ?_
  rintro v15 w3 ⟨rfl, c3⟩
  have hz3 := c3.size
  refine L_r (r_geq rfl rfl) ?_
  refine L_nil ?_
  refine W_if rfl (fun h16 => ?_) (fun h16 => ?_)
  · refine W_seq ?_
    refine W_region ?_
    refine L_r (r_loadrow Try.underlying41 rfl rfl Bk.au (by first | rfl | assumption)) ?_
    refine L_storerow (.plain rfl) rfl rfl Bk.au (by first | rfl | (simp; done) | assumption) (by first | rfl | assumption) (by first | exact six_one h1 h2 h3 | exact six_one h1' h2 h3 | exact six_one h4' h5' h3 | rfl | (simp [Value.oneCell']; done)) (fun w4 hb4 hs4 c4 => ?_)
    refine L_r (r_ai rfl) ?_
    refine L_r (r_ai rfl) ?_
    refine L_nil ?_
    refine W_ret ?_
    refine r_ret_ctt rfl rfl Try.underlying41 rfl Bk.au (by first | rfl | assumption) (show _ = (.int _ _ : Value) from rfl) (show _ = (.int _ _ : Value) from rfl) ?_
    first
    | (have e : beginR R object method body = (R, 0, 150) := if_pos (by omega)
       rw [e]
       exact ⟨vl, vo, rfl, hR.nw Ch.au, fun j hj => .inl hj, Ch.au⟩)
    | (have e : beginR R object method body = (R, 0, checkC (newR R object method body)) := (if_neg (by omega)).trans (if_pos h33)
       rw [e]
       exact ⟨vl, vo, rfl, hR.nw Ch.au, fun j hj => .inl hj, Ch.au⟩)
    | (have e : beginR R object method body = (askR (addR R object method body) R.L.length ⟨newR R object method body, 0, 0, false⟩, (R.L.length : Int) + 1, 0) := (if_neg (by omega)).trans (if_neg h33)
       rw [e]
       refine ⟨vl', vo', rfl, hR'.ch (X := fun j => j = b8) Ch.au (fun j hj e => ?_), fun j hj => ?_, Ch.au⟩
       · have e' : j = b8 := e
         rcases hn' j hj with hj | hj
         · rcases hj with hj | hj | hj
           · have := ow_base ho43 hj; omega
           · have := hR.o.lt hj; omega
           · have := hR.r.lt hj; omega
         · omega
       · rcases hn' j hj with hj | hj
         · rcases hj with hj | hj | hj
           · exact .inr (hlo43 j hj)
           · exact .inl (.inr (.inl hj))
           · exact .inl (.inr (.inr hj))
         · right; omega)
  · refine W_skip ?_
    refine W_seq ?_
    refine W_region ?_
    refine L_r (r_fieldb Try.underlying41 rfl (show _ = some 1 from rfl) rfl rfl (show _ = 3 from rfl)) ?_
    refine L_r (r_lb rfl rfl) ?_
    refine L_r (r_lenSl Try.underlying39 (by conv => lhs; whnf) Sl.au) ?_
    refine L_r (r_conv Try.underlying3 Try.underlying26 rfl (by first | exact wr_u64 (by omega) | rfl)) ?_
    refine L_r (r_add rfl rfl (by first | exact wr_u64 (by omega) | rfl)) ?_
    refine L_r (r_ai rfl) ?_
    refine L_nil ?_
    refine W_seq ?_
    refine W_region ?_
    refine L_r (r_fieldb Try.underlying41 rfl (show _ = some 1 from rfl) rfl rfl (show _ = 0 from rfl)) ?_
    refine L_r (r_lb rfl rfl) ?_
    refine L_r (r_mi rfl) ?_
    refine L_r (r_mi rfl) ?_
    refine L_r (r_ms rfl) ?_
    refine L_r (r_ms rfl) ?_
    refine L_r (r_build1 (pl := [(0, 1), (1, 1), (2, 1), (3, 1), (4, 1), (5, 1), (6, 1), (7, 1)]) (vs := [(1, .int _ _), (2, .int _ _), (3, .int _ _), (4, .int _ _), (5, .string _), (7, .string _)]) (cells := [_, _, _, _, _, _, _, _]) Try.underlying33 rfl rfl (by rfl) rfl (by rfl)) ?_
    refine L_new (.plain rfl) rfl rfl (r_alloca rfl) (fun w5 b12 hb12 eb5 hs5 c5 => ?_)
    refine L_storerow (.plain rfl) rfl rfl Bk.au (by first | rfl | (simp; done) | assumption) (by first | rfl | assumption) (by first | exact six_one h1 h2 h3 | exact six_one h1' h2 h3 | exact six_one h4' h5' h3 | rfl | (simp [Value.oneCell']; done)) (fun w6 hb6 hs6 c6 => ?_)
    refine L_nil ?_
    refine W_seq ?_
    refine W_seq ?_
    refine W_region ?_
    refine L_r (r_loadrow Try.underlying33 rfl rfl Bk.au (by first | rfl | assumption)) ?_
    refine L_call (.plain rfl) rfl rfl (r_call Try.func32 rfl rfl rfl (by rfl)) (rcheck_walk (newR R object method body) _ ⟨hlf, by show (0 : Int) ≤ _ + 1 ∧ (_ : Int) + 1 ≤ _; omega, by show (0 : Int) ≤ 1 ∧ (1 : Int) ≤ _; omega, hob⟩ hms) ?_
    rintro v31 w7 ⟨rfl, c7⟩
    have hz7 := c7.size
    refine L_r (r_ai rfl) ?_
    refine L_nil ?_
    refine W_seq ?_
    refine W_region ?_
    refine L_r (r_mi rfl) ?_
    refine L_r (r_neq rfl rfl) ?_
    refine L_nil ?_
    refine W_if rfl (fun h33 => ?_) (fun h33 => ?_)
    · refine W_seq ?_
      refine W_region ?_
      refine L_r (r_loadrow Try.underlying41 rfl rfl Bk.au (by first | rfl | assumption)) ?_
      refine L_r (r_mi rfl) ?_
      refine L_storerow (.plain rfl) rfl rfl Bk.au (by first | rfl | (simp; done) | assumption) (by first | rfl | assumption) (by first | exact six_one h1 h2 h3 | exact six_one h1' h2 h3 | exact six_one h4' h5' h3 | rfl | (simp [Value.oneCell']; done)) (fun w8 hb8 hs8 c8 => ?_)
      refine L_r (r_ai rfl) ?_
      refine L_r (r_ai rfl) ?_
      refine L_nil ?_
      refine W_ret ?_
      refine r_ret_ctt rfl rfl Try.underlying41 rfl Bk.au (by first | rfl | assumption) (show _ = (.int _ _ : Value) from rfl) (show _ = (.int _ _ : Value) from rfl) ?_
      first
      | (have e : beginR R object method body = (R, 0, 150) := if_pos (by omega)
         rw [e]
         exact ⟨vl, vo, rfl, hR.nw Ch.au, fun j hj => .inl hj, Ch.au⟩)
      | (have e : beginR R object method body = (R, 0, checkC (newR R object method body)) := (if_neg (by omega)).trans (if_pos h33)
         rw [e]
         exact ⟨vl, vo, rfl, hR.nw Ch.au, fun j hj => .inl hj, Ch.au⟩)
      | (have e : beginR R object method body = (askR (addR R object method body) R.L.length ⟨newR R object method body, 0, 0, false⟩, (R.L.length : Int) + 1, 0) := (if_neg (by omega)).trans (if_neg h33)
         rw [e]
         refine ⟨vl', vo', rfl, hR'.ch (X := fun j => j = b8) Ch.au (fun j hj e => ?_), fun j hj => ?_, Ch.au⟩
         · have e' : j = b8 := e
           rcases hn' j hj with hj | hj
           · rcases hj with hj | hj | hj
             · have := ow_base ho43 hj; omega
             · have := hR.o.lt hj; omega
             · have := hR.r.lt hj; omega
           · omega
         · rcases hn' j hj with hj | hj
           · rcases hj with hj | hj | hj
             · exact .inr (hlo43 j hj)
             · exact .inl (.inr (.inl hj))
             · exact .inl (.inr (.inr hj))
           · right; omega)
    · refine W_skip ?_
      refine W_seq ?_
      refine W_draw (fun W => Bk W b4 (R.row vl vo vr) 41 ∧ Bk W b12 #[.int .i64 0, .int .u64 R.life, .int .u64 ((R.L.length : Int) + 1), .int .u64 1, .int .u64 object, .string method, .int .i64 0, .string body] 33) 9 (m := 10) (by kernel_rfl) rfl (fun w9 c9 hs9 => ?_)
      refine held (by exact ⟨Bk.au, Bk.au⟩) (fun hS => ?_)
      refine D_t 1 rfl (fun W hW => r_fieldb Try.underlying41 rfl (show _ = some 1 from rfl) rfl rfl (show _ = 3 from rfl)) ?_
      refine D_t 2 rfl (fun W hW => r_loadb rfl rfl (by first | exact hW.1 | exact hW.2) (by first | assumption | (conv => lhs; simp only [List.getElem?_toArray, List.getElem?_cons_succ, List.getElem?_cons_zero]))) ?_
      refine D_t 4 rfl (fun W hW => r_loadrow Try.underlying33 rfl rfl (by first | exact hW.1 | exact hW.2) (by first | rfl | assumption)) ?_
      refine D_t 5 rfl (fun W hW => r_buildN (pl := [(0, 8), (8, 1), (9, 1), (10, 1)]) (vs := [(0, .agg #[_, _, _, _, _, _, _, _])]) (cells := [_, _, _, _, _, _, _, _, _, _, _]) Try.underlying75 rfl rfl (by rfl) (by rfl)) ?_
      refine D_ev2 0 6 (by kernel_rfl) rfl rfl ?_ ?_
      · refine L_build0 (sz := 11) Try.underlying39 rfl (.plain rfl) rfl (fun v36 w10 ho36 eb10 nl36 hs10 c10 => ?_)
        refine L_nil ?_
        refine heldK (by exact ⟨Bk.au, Bk.au⟩) (fun hS => ?_)
        refine D_ev2 3 6 (by kernel_rfl) rfl rfl ?_ ?_
        · refine L_apow Try.underlying39 rc_info rfl (by decide) (.plain rfl) rfl (by conv => lhs; whnf) (by conv => lhs; whnf) (Ow.of Own.au) Sl.au (cellsC_one R.L) (by unfold maxLen; omega) (by omega) (by omega) (fun v39 w11 ho39 c11 hob39 => ?_)
          have hz11 := c11.size
          rw [Nat.zero_add, List.nil_append] at ho39
          refine L_nil ?_
          refine heldK (by exact ⟨Bk.au, Bk.au⟩) (fun hS => ?_)
          refine D_ev 6 (by kernel_rfl) rfl ?_
          refine L_buildrow [[_, _, _, _, _, _, _, _, _, _, _]] Try.underlying39 (show _ = some (some _, 11, _) from rfl) rfl rfl (.plain rfl) rfl (by rfl) (by rfl) rfl (fun b42 w12 hb42 hv42 eb12 hs12 c12 => ?_)
          simp only [List.flatten_cons, List.flatten_nil, List.append_nil, List.cons_append, List.nil_append] at hb42 hv42
          refine L_nil ?_
          refine heldK (by exact ⟨Bk.au, Bk.au⟩) (fun hS => ?_)
          refine D_ev 7 (by kernel_rfl) rfl ?_
          refine L_apow Try.underlying39 rc_info rfl (by decide) (.plain rfl) rfl (by conv => lhs; whnf) (by conv => lhs; whnf) Ow.au Sl.au (by intro y hy; simp at hy; rcases hy with rfl | rfl | rfl | rfl | rfl | rfl | rfl | rfl | rfl | rfl | rfl <;> rfl) (by unfold maxLen; omega) (by omega) (by omega) (fun v43 w13 ho43 c13 hob43 => ?_)
          have hz13 := c13.size
          have h1' := sl_one ho43.sl
          have hlo43 : ∀ j, v43.ownBlock = some j → w0.heap.size ≤ j := fun j hj => by have := ow_base ho43 hj; omega
          refine L_nil ?_
          refine heldK (by exact ⟨Bk.au, Bk.au⟩) (fun hS => ?_)
          refine D_t 8 rfl (fun W hW => r_fieldb Try.underlying41 rfl (show _ = some 1 from rfl) rfl rfl (show _ = 3 from rfl)) ?_
          refine D_ev 9 (by kernel_rfl) rfl ?_
          refine L_set (.plain rfl) rfl Bk.au (r_store rfl rfl (by conv => lhs; whnf) (by first | rfl | exact ow_one (by assumption) | exact own_one (by assumption) | exact sl_one (by assumption)) Bk.au (by first | decide | (simp; done) | omega)) (fun w14 hb14 hs14 c14 => ?_)
          try simp only [List.setIfInBounds_toArray, List.set_cons_zero, List.set_cons_succ] at hb14
          refine L_nil ?_
          refine heldL ?_
          refine D_done (by kernel_rfl) ?_
          refine W_seq ?_
          have hO := Ow.to (w' := w14) ho43 (fun i hi => Sm.au)
          have hA : RcAt base w14 v43 vo vr (addR R object method body) := by
            refine ⟨?_, Ow.to (w' := w14) hR.o (fun i hi => Sm.au), Ow.to (w' := w14) hR.r (fun i hi => Sm.au)⟩
            show Ow _ _ _ _ _ (R.L ++ [_]).length (cellsC (R.L ++ [_]))
            rw [List.length_append, cellsC_append]
            exact hO.mono (by omega)
          have hlen : (R.L ++ [(⟨newR R object method body, 0, 0, false⟩ : RCl)]).length = R.L.length + 1 := by simp
          have hlen2 : (addR R object method body).L.length = R.L.length + 1 := hlen
          have hsl := hA.l.sl
          refine W_region ?_
          refine L_r (r_loadrow Try.underlying41 rfl rfl Bk.au (by first | rfl | assumption)) ?_
          refine L_r (r_fieldb Try.underlying41 rfl (show _ = some 1 from rfl) rfl rfl (show _ = 3 from rfl)) ?_
          refine L_r (r_lb rfl rfl) ?_
          refine L_r (r_lenSl Try.underlying39 (by conv => lhs; whnf) Sl.au) ?_
          refine L_r (r_sub rfl rfl (by first | exact wr_i64 (by omega) | rfl)) ?_
          rw [show (((addR R object method body).L.length : Nat) : Int) - 1 = (R.L.length : Int) by omega]
          refine L_call (.plain rfl) rfl rfl (r_call Try.func33 rfl rfl rfl (by rfl)) (rask_walk base v43 vo vr (addR R object method body) R.L.length ⟨newR R object method body, 0, 0, false⟩ _ (hA.nw Ch.au) (by show (R.L ++ [_])[R.L.length]? = _; simp) (by show (R.L ++ [_]).length ≤ _; omega) hol (by show (0 : Int) ≤ 0 ∧ (0 : Int) ≤ 1000000; omega) (by omega)) ?_
          rintro v50 w15 ⟨vl', vo', rfl, hR', hn', c15⟩
          have hz15 := c15.size
          have h4' := sl_one hR'.l.sl
          have h5' := sl_one hR'.o.sl
          refine L_r (r_mi rfl) ?_
          refine L_storerow (.plain rfl) rfl rfl Bk.au (by first | rfl | (simp; done) | assumption) (by first | rfl | assumption) (by first | exact six_one h1 h2 h3 | exact six_one h1' h2 h3 | exact six_one h4' h5' h3 | rfl | (simp [Value.oneCell']; done)) (fun w16 hb16 hs16 c16 => ?_)
          refine L_r (r_ai rfl) ?_
          refine L_r (r_ai rfl) ?_
          refine L_nil ?_
          refine W_ret ?_
          refine r_ret_ctt rfl rfl Try.underlying41 rfl Bk.au (by first | rfl | assumption) (show _ = (.int _ _ : Value) from rfl) (show _ = (.int _ _ : Value) from rfl) ?_
          first
          | (have e : beginR R object method body = (R, 0, 150) := if_pos (by omega)
             rw [e]
             exact ⟨vl, vo, rfl, hR.nw Ch.au, fun j hj => .inl hj, Ch.au⟩)
          | (have e : beginR R object method body = (R, 0, checkC (newR R object method body)) := (if_neg (by omega)).trans (if_pos h33)
             rw [e]
             exact ⟨vl, vo, rfl, hR.nw Ch.au, fun j hj => .inl hj, Ch.au⟩)
          | (have e : beginR R object method body = (askR (addR R object method body) R.L.length ⟨newR R object method body, 0, 0, false⟩, (R.L.length : Int) + 1, 0) := (if_neg (by omega)).trans (if_neg h33)
             rw [e]
             refine ⟨vl', vo', rfl, hR'.ch (X := fun j => j = b8) Ch.au (fun j hj e => ?_), fun j hj => ?_, Ch.au⟩
             · have e' : j = b8 := e
               rcases hn' j hj with hj | hj
               · rcases hj with hj | hj | hj
                 · have := ow_base ho43 hj; omega
                 · have := hR.o.lt hj; omega
                 · have := hR.r.lt hj; omega
               · omega
             · rcases hn' j hj with hj | hj
               · rcases hj with hj | hj | hj
                 · exact .inr (hlo43 j hj)
                 · exact .inl (.inr (.inl hj))
                 · exact .inl (.inr (.inr hj))
               · right; omega)
        · refine L_buildrow [[_, _, _, _, _, _, _, _, _, _, _]] Try.underlying39 (show _ = some (some _, 11, _) from rfl) rfl rfl (.plain rfl) rfl (by rfl) (by rfl) rfl (fun b42 w17 hb42 hv42 eb17 hs17 c17 => ?_)
          simp only [List.flatten_cons, List.flatten_nil, List.append_nil, List.cons_append, List.nil_append] at hb42 hv42
          refine L_nil ?_
          refine heldK (by exact ⟨Bk.au, Bk.au⟩) (fun hS => ?_)
          refine D_ev 3 (by kernel_rfl) rfl ?_
          refine L_apow Try.underlying39 rc_info rfl (by decide) (.plain rfl) rfl (by conv => lhs; whnf) (by conv => lhs; whnf) (Ow.of Own.au) Sl.au (cellsC_one R.L) (by unfold maxLen; omega) (by omega) (by omega) (fun v39 w18 ho39 c18 hob39 => ?_)
          have hz18 := c18.size
          rw [Nat.zero_add, List.nil_append] at ho39
          refine L_nil ?_
          refine heldK (by exact ⟨Bk.au, Bk.au⟩) (fun hS => ?_)
          refine D_ev 7 (by kernel_rfl) rfl ?_
          refine L_apow Try.underlying39 rc_info rfl (by decide) (.plain rfl) rfl (by conv => lhs; whnf) (by conv => lhs; whnf) Ow.au Sl.au (by intro y hy; simp at hy; rcases hy with rfl | rfl | rfl | rfl | rfl | rfl | rfl | rfl | rfl | rfl | rfl <;> rfl) (by unfold maxLen; omega) (by omega) (by omega) (fun v43 w19 ho43 c19 hob43 => ?_)
          have hz19 := c19.size
          have h1' := sl_one ho43.sl
          have hlo43 : ∀ j, v43.ownBlock = some j → w0.heap.size ≤ j := fun j hj => by have := ow_base ho43 hj; omega
          refine L_nil ?_
          refine heldK (by exact ⟨Bk.au, Bk.au⟩) (fun hS => ?_)
          refine D_t 8 rfl (fun W hW => r_fieldb Try.underlying41 rfl (show _ = some 1 from rfl) rfl rfl (show _ = 3 from rfl)) ?_
          refine D_ev 9 (by kernel_rfl) rfl ?_
          refine L_set (.plain rfl) rfl Bk.au (r_store rfl rfl (by conv => lhs; whnf) (by first | rfl | exact ow_one (by assumption) | exact own_one (by assumption) | exact sl_one (by assumption)) Bk.au (by first | decide | (simp; done) | omega)) (fun w20 hb20 hs20 c20 => ?_)
          try simp only [List.setIfInBounds_toArray, List.set_cons_zero, List.set_cons_succ] at hb20
          refine L_nil ?_
          refine heldL ?_
          refine D_done (by kernel_rfl) ?_
          refine W_seq ?_
          have hO := Ow.to (w' := w20) ho43 (fun i hi => Sm.au)
          have hA : RcAt base w20 v43 vo vr (addR R object method body) := by
            refine ⟨?_, Ow.to (w' := w20) hR.o (fun i hi => Sm.au), Ow.to (w' := w20) hR.r (fun i hi => Sm.au)⟩
            show Ow _ _ _ _ _ (R.L ++ [_]).length (cellsC (R.L ++ [_]))
            rw [List.length_append, cellsC_append]
            exact hO.mono (by omega)
          have hlen : (R.L ++ [(⟨newR R object method body, 0, 0, false⟩ : RCl)]).length = R.L.length + 1 := by simp
          have hlen2 : (addR R object method body).L.length = R.L.length + 1 := hlen
          have hsl := hA.l.sl
          refine W_region ?_
          refine L_r (r_loadrow Try.underlying41 rfl rfl Bk.au (by first | rfl | assumption)) ?_
          refine L_r (r_fieldb Try.underlying41 rfl (show _ = some 1 from rfl) rfl rfl (show _ = 3 from rfl)) ?_
          refine L_r (r_lb rfl rfl) ?_
          refine L_r (r_lenSl Try.underlying39 (by conv => lhs; whnf) Sl.au) ?_
          refine L_r (r_sub rfl rfl (by first | exact wr_i64 (by omega) | rfl)) ?_
          rw [show (((addR R object method body).L.length : Nat) : Int) - 1 = (R.L.length : Int) by omega]
          refine L_call (.plain rfl) rfl rfl (r_call Try.func33 rfl rfl rfl (by rfl)) (rask_walk base v43 vo vr (addR R object method body) R.L.length ⟨newR R object method body, 0, 0, false⟩ _ (hA.nw Ch.au) (by show (R.L ++ [_])[R.L.length]? = _; simp) (by show (R.L ++ [_]).length ≤ _; omega) hol (by show (0 : Int) ≤ 0 ∧ (0 : Int) ≤ 1000000; omega) (by omega)) ?_
          rintro v50 w21 ⟨vl', vo', rfl, hR', hn', c21⟩
          have hz21 := c21.size
          have h4' := sl_one hR'.l.sl
          have h5' := sl_one hR'.o.sl
          refine L_r (r_mi rfl) ?_
          refine L_storerow (.plain rfl) rfl rfl Bk.au (by first | rfl | (simp; done) | assumption) (by first | rfl | assumption) (by first | exact six_one h1 h2 h3 | exact six_one h1' h2 h3 | exact six_one h4' h5' h3 | rfl | (simp [Value.oneCell']; done)) (fun w22 hb22 hs22 c22 => ?_)
          refine L_r (r_ai rfl) ?_
          refine L_r (r_ai rfl) ?_
          refine L_nil ?_
          refine W_ret ?_
          refine r_ret_ctt rfl rfl Try.underlying41 rfl Bk.au (by first | rfl | assumption) (show _ = (.int _ _ : Value) from rfl) (show _ = (.int _ _ : Value) from rfl) ?_
          first
          | (have e : beginR R object method body = (R, 0, 150) := if_pos (by omega)
             rw [e]
             exact ⟨vl, vo, rfl, hR.nw Ch.au, fun j hj => .inl hj, Ch.au⟩)
          | (have e : beginR R object method body = (R, 0, checkC (newR R object method body)) := (if_neg (by omega)).trans (if_pos h33)
             rw [e]
             exact ⟨vl, vo, rfl, hR.nw Ch.au, fun j hj => .inl hj, Ch.au⟩)
          | (have e : beginR R object method body = (askR (addR R object method body) R.L.length ⟨newR R object method body, 0, 0, false⟩, (R.L.length : Int) + 1, 0) := (if_neg (by omega)).trans (if_neg h33)
             rw [e]
             refine ⟨vl', vo', rfl, hR'.ch (X := fun j => j = b8) Ch.au (fun j hj e => ?_), fun j hj => ?_, Ch.au⟩
             · have e' : j = b8 := e
               rcases hn' j hj with hj | hj
               · rcases hj with hj | hj | hj
                 · have := ow_base ho43 hj; omega
                 · have := hR.o.lt hj; omega
                 · have := hR.r.lt hj; omega
               · omega
             · rcases hn' j hj with hj | hj
               · rcases hj with hj | hj | hj
                 · exact .inr (hlo43 j hj)
                 · exact .inl (.inr (.inl hj))
                 · exact .inl (.inr (.inr hj))
               · right; omega)
      · refine L_buildrow [[_, _, _, _, _, _, _, _, _, _, _]] Try.underlying39 (show _ = some (some _, 11, _) from rfl) rfl rfl (.plain rfl) rfl (by rfl) (by rfl) rfl (fun b42 w23 hb42 hv42 eb23 hs23 c23 => ?_)
        simp only [List.flatten_cons, List.flatten_nil, List.append_nil, List.cons_append, List.nil_append] at hb42 hv42
        refine L_nil ?_
        refine heldK (by exact ⟨Bk.au, Bk.au⟩) (fun hS => ?_)
        refine D_ev 0 (by kernel_rfl) rfl ?_
        refine L_build0 (sz := 11) Try.underlying39 rfl (.plain rfl) rfl (fun v36 w24 ho36 eb24 nl36 hs24 c24 => ?_)
        refine L_nil ?_
        refine heldK (by exact ⟨Bk.au, Bk.au⟩) (fun hS => ?_)
        refine D_ev 3 (by kernel_rfl) rfl ?_
        refine L_apow Try.underlying39 rc_info rfl (by decide) (.plain rfl) rfl (by conv => lhs; whnf) (by conv => lhs; whnf) (Ow.of Own.au) Sl.au (cellsC_one R.L) (by unfold maxLen; omega) (by omega) (by omega) (fun v39 w25 ho39 c25 hob39 => ?_)
        have hz25 := c25.size
        rw [Nat.zero_add, List.nil_append] at ho39
        refine L_nil ?_
        refine heldK (by exact ⟨Bk.au, Bk.au⟩) (fun hS => ?_)
        refine D_ev 7 (by kernel_rfl) rfl ?_
        refine L_apow Try.underlying39 rc_info rfl (by decide) (.plain rfl) rfl (by conv => lhs; whnf) (by conv => lhs; whnf) Ow.au Sl.au (by intro y hy; simp at hy; rcases hy with rfl | rfl | rfl | rfl | rfl | rfl | rfl | rfl | rfl | rfl | rfl <;> rfl) (by unfold maxLen; omega) (by omega) (by omega) (fun v43 w26 ho43 c26 hob43 => ?_)
        have hz26 := c26.size
        have h1' := sl_one ho43.sl
        have hlo43 : ∀ j, v43.ownBlock = some j → w0.heap.size ≤ j := fun j hj => by have := ow_base ho43 hj; omega
        refine L_nil ?_
        refine heldK (by exact ⟨Bk.au, Bk.au⟩) (fun hS => ?_)
        refine D_t 8 rfl (fun W hW => r_fieldb Try.underlying41 rfl (show _ = some 1 from rfl) rfl rfl (show _ = 3 from rfl)) ?_
        refine D_ev 9 (by kernel_rfl) rfl ?_
        refine L_set (.plain rfl) rfl Bk.au (r_store rfl rfl (by conv => lhs; whnf) (by first | rfl | exact ow_one (by assumption) | exact own_one (by assumption) | exact sl_one (by assumption)) Bk.au (by first | decide | (simp; done) | omega)) (fun w27 hb27 hs27 c27 => ?_)
        try simp only [List.setIfInBounds_toArray, List.set_cons_zero, List.set_cons_succ] at hb27
        refine L_nil ?_
        refine heldL ?_
        refine D_done (by kernel_rfl) ?_
        refine W_seq ?_
        have hO := Ow.to (w' := w27) ho43 (fun i hi => Sm.au)
        have hA : RcAt base w27 v43 vo vr (addR R object method body) := by
          refine ⟨?_, Ow.to (w' := w27) hR.o (fun i hi => Sm.au), Ow.to (w' := w27) hR.r (fun i hi => Sm.au)⟩
          show Ow _ _ _ _ _ (R.L ++ [_]).length (cellsC (R.L ++ [_]))
          rw [List.length_append, cellsC_append]
          exact hO.mono (by omega)
        have hlen : (R.L ++ [(⟨newR R object method body, 0, 0, false⟩ : RCl)]).length = R.L.length + 1 := by simp
        have hlen2 : (addR R object method body).L.length = R.L.length + 1 := hlen
        have hsl := hA.l.sl
        refine W_region ?_
        refine L_r (r_loadrow Try.underlying41 rfl rfl Bk.au (by first | rfl | assumption)) ?_
        refine L_r (r_fieldb Try.underlying41 rfl (show _ = some 1 from rfl) rfl rfl (show _ = 3 from rfl)) ?_
        refine L_r (r_lb rfl rfl) ?_
        refine L_r (r_lenSl Try.underlying39 (by conv => lhs; whnf) Sl.au) ?_
        refine L_r (r_sub rfl rfl (by first | exact wr_i64 (by omega) | rfl)) ?_
        rw [show (((addR R object method body).L.length : Nat) : Int) - 1 = (R.L.length : Int) by omega]
        refine L_call (.plain rfl) rfl rfl (r_call Try.func33 rfl rfl rfl (by rfl)) (rask_walk base v43 vo vr (addR R object method body) R.L.length ⟨newR R object method body, 0, 0, false⟩ _ (hA.nw Ch.au) (by show (R.L ++ [_])[R.L.length]? = _; simp) (by show (R.L ++ [_]).length ≤ _; omega) hol (by show (0 : Int) ≤ 0 ∧ (0 : Int) ≤ 1000000; omega) (by omega)) ?_
        rintro v50 w28 ⟨vl', vo', rfl, hR', hn', c28⟩
        have hz28 := c28.size
        have h4' := sl_one hR'.l.sl
        have h5' := sl_one hR'.o.sl
        refine L_r (r_mi rfl) ?_
        refine L_storerow (.plain rfl) rfl rfl Bk.au (by first | rfl | (simp; done) | assumption) (by first | rfl | assumption) (by first | exact six_one h1 h2 h3 | exact six_one h1' h2 h3 | exact six_one h4' h5' h3 | rfl | (simp [Value.oneCell']; done)) (fun w29 hb29 hs29 c29 => ?_)
        refine L_r (r_ai rfl) ?_
        refine L_r (r_ai rfl) ?_
        refine L_nil ?_
        refine W_ret ?_
        refine r_ret_ctt rfl rfl Try.underlying41 rfl Bk.au (by first | rfl | assumption) (show _ = (.int _ _ : Value) from rfl) (show _ = (.int _ _ : Value) from rfl) ?_
        first
        | (have e : beginR R object method body = (R, 0, 150) := if_pos (by omega)
           rw [e]
           exact ⟨vl, vo, rfl, hR.nw Ch.au, fun j hj => .inl hj, Ch.au⟩)
        | (have e : beginR R object method body = (R, 0, checkC (newR R object method body)) := (if_neg (by omega)).trans (if_pos h33)
           rw [e]
           exact ⟨vl, vo, rfl, hR.nw Ch.au, fun j hj => .inl hj, Ch.au⟩)
        | (have e : beginR R object method body = (askR (addR R object method body) R.L.length ⟨newR R object method body, 0, 0, false⟩, (R.L.length : Int) + 1, 0) := (if_neg (by omega)).trans (if_neg h33)
           rw [e]
           refine ⟨vl', vo', rfl, hR'.ch (X := fun j => j = b8) Ch.au (fun j hj e => ?_), fun j hj => ?_, Ch.au⟩
           · have e' : j = b8 := e
             rcases hn' j hj with hj | hj
             · rcases hj with hj | hj | hj
               · have := ow_base ho43 hj; omega
               · have := hR.o.lt hj; omega
               · have := hR.r.lt hj; omega
             · omega
           · rcases hn' j hj with hj | hj
             · rcases hj with hj | hj | hj
               · exact .inr (hlo43 j hj)
               · exact .inl (.inr (.inl hj))
               · exact .inl (.inr (.inr hj))
             · right; omega)
end Go.Proofs.Ytjjddbicggfgnaa

