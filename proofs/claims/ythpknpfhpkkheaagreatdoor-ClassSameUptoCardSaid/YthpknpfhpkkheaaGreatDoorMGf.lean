/- Parts of the proof (ClsH, ClsI, ClsJ, ClsK, ClsL, ClsM, ClsN). -/
import Derived.Test.YthpknpfhpkkheaaGreatDoorMGe
namespace Go.Proofs.YthpknpfhpkkheaaGreatDoor
open Go Go.RowKit
set_option linter.unusedVariables false
set_option linter.unusedSimpArgs false
set_option maxRecDepth 100000
theorem any_not {X : Type} (z : List X) (b : X → Bool) : (!(z.any fun x => !b x)) = z.all b := by
  induction z with
  | nil => rfl
  | cons x z ih => rw [List.any_cons, List.all_cons, ← ih]; cases b x <;> simp
theorem ixf_S (z : List ByteArray) (v : Value) (fid : Nat) (cap : List Value) (b : ByteArray → Bool) (w0 : World) (hv : Sl w0 v 1 z.length (scells z)) (hl : z.length ≤ 1000000000000000) (hK : Knows Tryz.prog fid) (hcl : ∀ x ∈ z, ∀ W, Nw w0 W → Does Tryz.prog fid (.string x :: cap).toArray W (fun r w' => r = .bool (b x) ∧ Nw W w')) : Does Tryz.prog 155 #[v, .func (.func fid) #[] cap.toArray] w0 (fun r w' => ∃ k : Int, r = .int .i64 k ∧ (0 ≤ k ↔ z.any b = true) ∧ Nw w0 w') := by
  refine fn_of (n := 19) (args := [v, .func (.func fid) #[] cap.toArray]) Tryz.func155 rfl rfl rfl (W_seq (W_region (L_r (r_ai rfl) (L_nil (W_seq (W_seq (W_region (L_r (r_mv) ?_))))))))
  refine L_r (r_lenSl Tryz.underlying22 (by conv => lhs; whnf) Sl.au) (L_r (r_mi rfl) (L_nil (W_block ?_)))
  refine W_loopF [0, 1, 7] (fun mz_ f W => ∃ (i : Nat), f 8 = .int .i64 i ∧ (i ≤ z.length ∧ (∀ j (hj : j < z.length), j < i → b z[j] = false) ∧ Nw w0 W) ∧ mz_ = z.length - i) ?_ ?_
  ·
   refine ⟨_, 0, rfl, ?_, rfl⟩
   exact ⟨by omega, fun j hj hji => absurd hji (by omega), Ch.au⟩
  rintro m0 g0 w1 ⟨i, hf8, hR0, rfl⟩
  refine W_as 8 hf8 rfl ?_
  clear hf8
  obtain ⟨hi, hn, hnw⟩ := hR0
  have hz := hnw.size
  refine W_seq (W_region (L_r (r_lss rfl rfl) (L_nil (W_seq ?_))))
  refine W_if rfl (fun h9 => ?_) (fun h9 => ?_)
  ·
   have hil : i < z.length := by omega
   have hrow := scells_get z i hil
   have hxm := List.getElem_mem hil
   obtain ⟨x, hx⟩ : ∃ x, x = z[i] := ⟨_, rfl⟩
   rw [← hx] at hrow hxm
   refine W_skip (W_seq (W_block (W_seq (W_region (L_r (r_mi rfl) (L_r (r_ai rfl) (L_nil (W_seq ?_))))))))
   refine W_region (L_r (r_mv) (L_r (r_mv) (L_r (r_mi rfl) ?_)))
   refine L_r (r_ix Tryz.underlying22 (show _ = some 1 from rfl) (by conv => lhs; whnf) rfl Sl.au) ?_
   refine L_r (r_loadSl rfl rfl Sl.au (by exact hrow)) ?_
   refine L_call (.plain rfl) rfl rfl (r_callv hK rfl (by rfl)) (hcl x hxm _ Ch.au) ?_
   rintro v16 w2 ⟨rfl, c2⟩
   have hz2 := c2.size
   refine L_nil ?_
   refine W_bool rfl (fun h16 => ?_) (fun h16 => ?_)
   ·
    refine W_seq (W_region (L_r (r_mi rfl) (L_r (r_ai rfl) (L_nil (W_ret ?_)))))
    refine ret1 (v := .int _ _) rfl rfl ?_
    first
    | exact ⟨_, rfl, ⟨fun _ => List.any_eq_true.2 ⟨x, hxm, h16⟩, fun _ => by omega⟩, Ch.au⟩
    | (refine ⟨_, rfl, ⟨fun h => absurd h (by decide), fun h => ?_⟩, Ch.au⟩
       obtain ⟨x, hx, hb⟩ := List.any_eq_true.1 h
       obtain ⟨j, hj, rfl⟩ := List.mem_iff_getElem.1 hx
       rw [hn j hj (by omega)] at hb
       cases hb)
   ·
    refine W_skip (W_region ?_)
    refine L_r (r_add rfl rfl (by first | exact wr_i64 (by omega) | rfl)) (L_r (r_mi rfl) (L_nil ?_))
    refine ⟨⟨fx2, fx2, fx2, trivial⟩, _, ?_, i + 1, rfl, ?_, rfl⟩
    · omega
    refine ⟨by omega, fun j hj hji => ?_, Ch.au⟩
    rcases Nat.lt_or_ge j i with h | h
    · exact hn j hj h
    ·
     have e : j = i := by omega
     subst e
     rw [← hx]; exact h16
  ·
   refine W_exit ?_
   repeat (first | refine blk_hit ?_ | refine blk_miss rfl ?_)
   refine W_seq (W_region (L_r (r_ai rfl) (L_nil (W_ret ?_))))
   refine ret1 (v := .int _ _) rfl rfl ?_
   first
   | exact ⟨_, rfl, ⟨fun _ => List.any_eq_true.2 ⟨x, hxm, h16⟩, fun _ => by omega⟩, Ch.au⟩
   | (refine ⟨_, rfl, ⟨fun h => absurd h (by decide), fun h => ?_⟩, Ch.au⟩
      obtain ⟨x, hx, hb⟩ := List.any_eq_true.1 h
      obtain ⟨j, hj, rfl⟩ := List.mem_iff_getElem.1 hx
      rw [hn j hj (by omega)] at hb
      cases hb)
theorem cf_S (z : List ByteArray) (v : Value) (fid : Nat) (cap : List Value) (b : ByteArray → Bool) (w0 : World) (hv : Sl w0 v 1 z.length (scells z)) (hl : z.length ≤ 1000000000000000) (hK : Knows Tryz.prog fid) (hcl : ∀ x ∈ z, ∀ W, Nw w0 W → Does Tryz.prog fid (.string x :: cap).toArray W (fun r w' => r = .bool (b x) ∧ Nw W w')) : Does Tryz.prog 116 #[v, .func (.func fid) #[] cap.toArray] w0 (fun r w' => r = .bool (z.any b) ∧ Nw w0 w') := by
  refine fn_of (n := 9) (args := [v, .func (.func fid) #[] cap.toArray]) Tryz.func116 rfl rfl rfl (W_seq (W_region (L_r (r_ab rfl) (L_nil (W_seq (W_region (L_r (r_mv) (L_r (r_mv) ?_))))))))
  refine L_call (.plain rfl) rfl rfl (r_call Tryz.func155 rfl rfl rfl (by rfl)) (ixf_S z v fid cap b _ Sl.au hl hK (fun x hx W c => hcl x hx W Ch.au)) ?_
  rintro v7 w1 ⟨k, rfl, hk, c1⟩
  have hz1 := c1.size
  refine L_r (r_geq rfl rfl) (L_r (r_ab rfl) (L_nil (W_ret ?_)))
  refine ret1 (v := .bool _) rfl rfl ?_
  exact ⟨(dec_b hk.symm).symm, Ch.au⟩
theorem ixf_F (z : List CF) (v : Value) (fid : Nat) (cap : List Value) (b : CF → Bool) (w0 : World) (hv : Sl w0 v 3 z.length (cellsCF z)) (hl : z.length ≤ 1000000000000000) (hK : Knows Tryz.prog fid) (hcl : ∀ x ∈ z, ∀ W, Nw w0 W → Does Tryz.prog fid (x.v :: cap).toArray W (fun r w' => r = .bool (b x) ∧ Nw W w')) : Does Tryz.prog 159 #[v, .func (.func fid) #[] cap.toArray] w0 (fun r w' => ∃ k : Int, r = .int .i64 k ∧ (0 ≤ k ↔ z.any b = true) ∧ Nw w0 w') := by
  refine fn_of (n := 19) (args := [v, .func (.func fid) #[] cap.toArray]) Tryz.func159 rfl rfl rfl (W_seq (W_region (L_r (r_ai rfl) (L_nil (W_seq (W_seq (W_region (L_r (r_mv) ?_))))))))
  refine L_r (r_lenSl Tryz.underlying23 (by conv => lhs; whnf) Sl.au) (L_r (r_mi rfl) (L_nil (W_block ?_)))
  refine W_loopF [0, 1, 7] (fun mz_ f W => ∃ (i : Nat), f 8 = .int .i64 i ∧ (i ≤ z.length ∧ (∀ j (hj : j < z.length), j < i → b z[j] = false) ∧ Nw w0 W) ∧ mz_ = z.length - i) ?_ ?_
  ·
   refine ⟨_, 0, rfl, ?_, rfl⟩
   exact ⟨by omega, fun j hj hji => absurd hji (by omega), Ch.au⟩
  rintro m0 g0 w1 ⟨i, hf8, hR0, rfl⟩
  refine W_as 8 hf8 rfl ?_
  clear hf8
  obtain ⟨hi, hn, hnw⟩ := hR0
  have hz := hnw.size
  refine W_seq (W_region (L_r (r_lss rfl rfl) (L_nil (W_seq ?_))))
  refine W_if rfl (fun h9 => ?_) (fun h9 => ?_)
  ·
   have hil : i < z.length := by omega
   have hrow := cellsCF_row z i hil
   have hxm := List.getElem_mem hil
   obtain ⟨x, hx⟩ : ∃ x, x = z[i] := ⟨_, rfl⟩
   rw [← hx] at hrow hxm
   refine W_skip (W_seq (W_block (W_seq (W_region (L_r (r_mi rfl) (L_r (r_ai rfl) (L_nil (W_seq ?_))))))))
   refine W_region (L_r (r_mv) (L_r (r_mv) (L_r (r_mi rfl) ?_)))
   refine L_r (r_ix Tryz.underlying23 (show _ = some 3 from rfl) (by conv => lhs; whnf) rfl Sl.au) ?_
   refine L_r (r_loadSlrow (us := [.string x.name, .string x.kind, .bool x.tr]) Tryz.underlying52 rfl rfl rfl rfl Sl.au (by exact hrow)) ?_
   refine L_call (.plain rfl) rfl rfl (r_callv hK rfl (by rfl)) (hcl x hxm _ Ch.au) ?_
   rintro v16 w2 ⟨rfl, c2⟩
   have hz2 := c2.size
   refine L_nil ?_
   refine W_bool rfl (fun h16 => ?_) (fun h16 => ?_)
   ·
    refine W_seq (W_region (L_r (r_mi rfl) (L_r (r_ai rfl) (L_nil (W_ret ?_)))))
    refine ret1 (v := .int _ _) rfl rfl ?_
    first
    | exact ⟨_, rfl, ⟨fun _ => List.any_eq_true.2 ⟨x, hxm, h16⟩, fun _ => by omega⟩, Ch.au⟩
    | (refine ⟨_, rfl, ⟨fun h => absurd h (by decide), fun h => ?_⟩, Ch.au⟩
       obtain ⟨x, hx, hb⟩ := List.any_eq_true.1 h
       obtain ⟨j, hj, rfl⟩ := List.mem_iff_getElem.1 hx
       rw [hn j hj (by omega)] at hb
       cases hb)
   ·
    refine W_skip (W_region ?_)
    refine L_r (r_add rfl rfl (by first | exact wr_i64 (by omega) | rfl)) (L_r (r_mi rfl) (L_nil ?_))
    refine ⟨⟨fx2, fx2, fx2, trivial⟩, _, ?_, i + 1, rfl, ?_, rfl⟩
    · omega
    refine ⟨by omega, fun j hj hji => ?_, Ch.au⟩
    rcases Nat.lt_or_ge j i with h | h
    · exact hn j hj h
    ·
     have e : j = i := by omega
     subst e
     rw [← hx]; exact h16
  ·
   refine W_exit ?_
   repeat (first | refine blk_hit ?_ | refine blk_miss rfl ?_)
   refine W_seq (W_region (L_r (r_ai rfl) (L_nil (W_ret ?_))))
   refine ret1 (v := .int _ _) rfl rfl ?_
   first
   | exact ⟨_, rfl, ⟨fun _ => List.any_eq_true.2 ⟨x, hxm, h16⟩, fun _ => by omega⟩, Ch.au⟩
   | (refine ⟨_, rfl, ⟨fun h => absurd h (by decide), fun h => ?_⟩, Ch.au⟩
      obtain ⟨x, hx, hb⟩ := List.any_eq_true.1 h
      obtain ⟨j, hj, rfl⟩ := List.mem_iff_getElem.1 hx
      rw [hn j hj (by omega)] at hb
      cases hb)
theorem cf_F (z : List CF) (v : Value) (fid : Nat) (cap : List Value) (b : CF → Bool) (w0 : World) (hv : Sl w0 v 3 z.length (cellsCF z)) (hl : z.length ≤ 1000000000000000) (hK : Knows Tryz.prog fid) (hcl : ∀ x ∈ z, ∀ W, Nw w0 W → Does Tryz.prog fid (x.v :: cap).toArray W (fun r w' => r = .bool (b x) ∧ Nw W w')) : Does Tryz.prog 121 #[v, .func (.func fid) #[] cap.toArray] w0 (fun r w' => r = .bool (z.any b) ∧ Nw w0 w') := by
  refine fn_of (n := 9) (args := [v, .func (.func fid) #[] cap.toArray]) Tryz.func121 rfl rfl rfl (W_seq (W_region (L_r (r_ab rfl) (L_nil (W_seq (W_region (L_r (r_mv) (L_r (r_mv) ?_))))))))
  refine L_call (.plain rfl) rfl rfl (r_call Tryz.func159 rfl rfl rfl (by rfl)) (ixf_F z v fid cap b _ Sl.au hl hK (fun x hx W c => hcl x hx W Ch.au)) ?_
  rintro v7 w1 ⟨k, rfl, hk, c1⟩
  have hz1 := c1.size
  refine L_r (r_geq rfl rfl) (L_r (r_ab rfl) (L_nil (W_ret ?_)))
  refine ret1 (v := .bool _) rfl rfl ?_
  exact ⟨(dec_b hk.symm).symm, Ch.au⟩
theorem ixf_M (z : List MM) (v : Value) (fid : Nat) (cap : List Value) (b : MM → Bool) (w0 : World) (hv : Sl w0 v 7 z.length (cellsCM z)) (hl : z.length ≤ 1000000000000000) (hK : Knows Tryz.prog fid) (hcl : ∀ x ∈ z, ∀ W, Nw w0 W → Does Tryz.prog fid (x.v :: cap).toArray W (fun r w' => r = .bool (b x) ∧ Nw W w')) : Does Tryz.prog 115 #[v, .func (.func fid) #[] cap.toArray] w0 (fun r w' => ∃ k : Int, r = .int .i64 k ∧ (0 ≤ k ↔ z.any b = true) ∧ Nw w0 w') := by
  refine fn_of (n := 19) (args := [v, .func (.func fid) #[] cap.toArray]) Tryz.func115 rfl rfl rfl (W_seq (W_region (L_r (r_ai rfl) (L_nil (W_seq (W_seq (W_region (L_r (r_mv) ?_))))))))
  refine L_r (r_lenSl Tryz.underlying24 (by conv => lhs; whnf) Sl.au) (L_r (r_mi rfl) (L_nil (W_block ?_)))
  refine W_loopF [0, 1, 7] (fun mz_ f W => ∃ (i : Nat), f 8 = .int .i64 i ∧ (i ≤ z.length ∧ (∀ j (hj : j < z.length), j < i → b z[j] = false) ∧ Nw w0 W) ∧ mz_ = z.length - i) ?_ ?_
  ·
   refine ⟨_, 0, rfl, ?_, rfl⟩
   exact ⟨by omega, fun j hj hji => absurd hji (by omega), Ch.au⟩
  rintro m0 g0 w1 ⟨i, hf8, hR0, rfl⟩
  refine W_as 8 hf8 rfl ?_
  clear hf8
  obtain ⟨hi, hn, hnw⟩ := hR0
  have hz := hnw.size
  refine W_seq (W_region (L_r (r_lss rfl rfl) (L_nil (W_seq ?_))))
  refine W_if rfl (fun h9 => ?_) (fun h9 => ?_)
  ·
   have hil : i < z.length := by omega
   have hrow := cellsCM_row z i hil
   have hxm := List.getElem_mem hil
   obtain ⟨x, hx⟩ : ∃ x, x = z[i] := ⟨_, rfl⟩
   rw [← hx] at hrow hxm
   refine W_skip (W_seq (W_block (W_seq (W_region (L_r (r_mi rfl) (L_r (r_ai rfl) (L_nil (W_seq ?_))))))))
   refine W_region (L_r (r_mv) (L_r (r_mv) (L_r (r_mi rfl) ?_)))
   refine L_r (r_ix Tryz.underlying24 (show _ = some 7 from rfl) (by conv => lhs; whnf) rfl Sl.au) ?_
   refine L_r (r_loadSlrow (us := [.string x.m.name, x.vp, .string x.m.result, .bool x.m.abs, .int .i64 x.m.locals, x.vc, x.vk]) Tryz.underlying43 rfl rfl rfl rfl Sl.au (by exact hrow)) ?_
   refine L_call (.plain rfl) rfl rfl (r_callv hK rfl (by rfl)) (hcl x hxm _ Ch.au) ?_
   rintro v16 w2 ⟨rfl, c2⟩
   have hz2 := c2.size
   refine L_nil ?_
   refine W_bool rfl (fun h16 => ?_) (fun h16 => ?_)
   ·
    refine W_seq (W_region (L_r (r_mi rfl) (L_r (r_ai rfl) (L_nil (W_ret ?_)))))
    refine ret1 (v := .int _ _) rfl rfl ?_
    first
    | exact ⟨_, rfl, ⟨fun _ => List.any_eq_true.2 ⟨x, hxm, h16⟩, fun _ => by omega⟩, Ch.au⟩
    | (refine ⟨_, rfl, ⟨fun h => absurd h (by decide), fun h => ?_⟩, Ch.au⟩
       obtain ⟨x, hx, hb⟩ := List.any_eq_true.1 h
       obtain ⟨j, hj, rfl⟩ := List.mem_iff_getElem.1 hx
       rw [hn j hj (by omega)] at hb
       cases hb)
   ·
    refine W_skip (W_region ?_)
    refine L_r (r_add rfl rfl (by first | exact wr_i64 (by omega) | rfl)) (L_r (r_mi rfl) (L_nil ?_))
    refine ⟨⟨fx2, fx2, fx2, trivial⟩, _, ?_, i + 1, rfl, ?_, rfl⟩
    · omega
    refine ⟨by omega, fun j hj hji => ?_, Ch.au⟩
    rcases Nat.lt_or_ge j i with h | h
    · exact hn j hj h
    ·
     have e : j = i := by omega
     subst e
     rw [← hx]; exact h16
  ·
   refine W_exit ?_
   repeat (first | refine blk_hit ?_ | refine blk_miss rfl ?_)
   refine W_seq (W_region (L_r (r_ai rfl) (L_nil (W_ret ?_))))
   refine ret1 (v := .int _ _) rfl rfl ?_
   first
   | exact ⟨_, rfl, ⟨fun _ => List.any_eq_true.2 ⟨x, hxm, h16⟩, fun _ => by omega⟩, Ch.au⟩
   | (refine ⟨_, rfl, ⟨fun h => absurd h (by decide), fun h => ?_⟩, Ch.au⟩
      obtain ⟨x, hx, hb⟩ := List.any_eq_true.1 h
      obtain ⟨j, hj, rfl⟩ := List.mem_iff_getElem.1 hx
      rw [hn j hj (by omega)] at hb
      cases hb)
theorem cf_M (z : List MM) (v : Value) (fid : Nat) (cap : List Value) (b : MM → Bool) (w0 : World) (hv : Sl w0 v 7 z.length (cellsCM z)) (hl : z.length ≤ 1000000000000000) (hK : Knows Tryz.prog fid) (hcl : ∀ x ∈ z, ∀ W, Nw w0 W → Does Tryz.prog fid (x.v :: cap).toArray W (fun r w' => r = .bool (b x) ∧ Nw W w')) : Does Tryz.prog 54 #[v, .func (.func fid) #[] cap.toArray] w0 (fun r w' => r = .bool (z.any b) ∧ Nw w0 w') := by
  refine fn_of (n := 9) (args := [v, .func (.func fid) #[] cap.toArray]) Tryz.func54 rfl rfl rfl (W_seq (W_region (L_r (r_ab rfl) (L_nil (W_seq (W_region (L_r (r_mv) (L_r (r_mv) ?_))))))))
  refine L_call (.plain rfl) rfl rfl (r_call Tryz.func115 rfl rfl rfl (by rfl)) (ixf_M z v fid cap b _ Sl.au hl hK (fun x hx W c => hcl x hx W Ch.au)) ?_
  rintro v7 w1 ⟨k, rfl, hk, c1⟩
  have hz1 := c1.size
  refine L_r (r_geq rfl rfl) (L_r (r_ab rfl) (L_nil (W_ret ?_)))
  refine ret1 (v := .bool _) rfl rfl ?_
  exact ⟨(dec_b hk.symm).symm, Ch.au⟩
theorem ixf_C (z : List CC) (v : Value) (fid : Nat) (cap : List Value) (b : CC → Bool) (w0 : World) (hv : Sl w0 v 8 z.length (cellsCC z)) (hl : z.length ≤ 1000000000000000) (hK : Knows Tryz.prog fid) (hcl : ∀ x ∈ z, ∀ W, Nw w0 W → Does Tryz.prog fid (x.v :: cap).toArray W (fun r w' => r = .bool (b x) ∧ Nw W w')) : Does Tryz.prog 154 #[v, .func (.func fid) #[] cap.toArray] w0 (fun r w' => ∃ k : Int, r = .int .i64 k ∧ (0 ≤ k ↔ z.any b = true) ∧ Nw w0 w') := by
  refine fn_of (n := 19) (args := [v, .func (.func fid) #[] cap.toArray]) Tryz.func154 rfl rfl rfl (W_seq (W_region (L_r (r_ai rfl) (L_nil (W_seq (W_seq (W_region (L_r (r_mv) ?_))))))))
  refine L_r (r_lenSl Tryz.underlying44 (by conv => lhs; whnf) Sl.au) (L_r (r_mi rfl) (L_nil (W_block ?_)))
  refine W_loopF [0, 1, 7] (fun mz_ f W => ∃ (i : Nat), f 8 = .int .i64 i ∧ (i ≤ z.length ∧ (∀ j (hj : j < z.length), j < i → b z[j] = false) ∧ Nw w0 W) ∧ mz_ = z.length - i) ?_ ?_
  ·
   refine ⟨_, 0, rfl, ?_, rfl⟩
   exact ⟨by omega, fun j hj hji => absurd hji (by omega), Ch.au⟩
  rintro m0 g0 w1 ⟨i, hf8, hR0, rfl⟩
  refine W_as 8 hf8 rfl ?_
  clear hf8
  obtain ⟨hi, hn, hnw⟩ := hR0
  have hz := hnw.size
  refine W_seq (W_region (L_r (r_lss rfl rfl) (L_nil (W_seq ?_))))
  refine W_if rfl (fun h9 => ?_) (fun h9 => ?_)
  ·
   have hil : i < z.length := by omega
   have hrow := cellsCC_row z i hil
   have hxm := List.getElem_mem hil
   obtain ⟨x, hx⟩ : ∃ x, x = z[i] := ⟨_, rfl⟩
   rw [← hx] at hrow hxm
   refine W_skip (W_seq (W_block (W_seq (W_region (L_r (r_mi rfl) (L_r (r_ai rfl) (L_nil (W_seq ?_))))))))
   refine W_region (L_r (r_mv) (L_r (r_mv) (L_r (r_mi rfl) ?_)))
   refine L_r (r_ix Tryz.underlying44 (show _ = some 8 from rfl) (by conv => lhs; whnf) rfl Sl.au) ?_
   refine L_r (r_loadSlrow (us := [.string x.p.name, .string x.p.super, x.vl, .bool x.p.ifc, .bool x.p.abs, .bool x.p.fin, x.vf, x.vm]) Tryz.underlying26 rfl rfl rfl rfl Sl.au (by exact hrow)) ?_
   refine L_call (.plain rfl) rfl rfl (r_callv hK rfl (by rfl)) (hcl x hxm _ Ch.au) ?_
   rintro v16 w2 ⟨rfl, c2⟩
   have hz2 := c2.size
   refine L_nil ?_
   refine W_bool rfl (fun h16 => ?_) (fun h16 => ?_)
   ·
    refine W_seq (W_region (L_r (r_mi rfl) (L_r (r_ai rfl) (L_nil (W_ret ?_)))))
    refine ret1 (v := .int _ _) rfl rfl ?_
    first
    | exact ⟨_, rfl, ⟨fun _ => List.any_eq_true.2 ⟨x, hxm, h16⟩, fun _ => by omega⟩, Ch.au⟩
    | (refine ⟨_, rfl, ⟨fun h => absurd h (by decide), fun h => ?_⟩, Ch.au⟩
       obtain ⟨x, hx, hb⟩ := List.any_eq_true.1 h
       obtain ⟨j, hj, rfl⟩ := List.mem_iff_getElem.1 hx
       rw [hn j hj (by omega)] at hb
       cases hb)
   ·
    refine W_skip (W_region ?_)
    refine L_r (r_add rfl rfl (by first | exact wr_i64 (by omega) | rfl)) (L_r (r_mi rfl) (L_nil ?_))
    refine ⟨⟨fx2, fx2, fx2, trivial⟩, _, ?_, i + 1, rfl, ?_, rfl⟩
    · omega
    refine ⟨by omega, fun j hj hji => ?_, Ch.au⟩
    rcases Nat.lt_or_ge j i with h | h
    · exact hn j hj h
    ·
     have e : j = i := by omega
     subst e
     rw [← hx]; exact h16
  ·
   refine W_exit ?_
   repeat (first | refine blk_hit ?_ | refine blk_miss rfl ?_)
   refine W_seq (W_region (L_r (r_ai rfl) (L_nil (W_ret ?_))))
   refine ret1 (v := .int _ _) rfl rfl ?_
   first
   | exact ⟨_, rfl, ⟨fun _ => List.any_eq_true.2 ⟨x, hxm, h16⟩, fun _ => by omega⟩, Ch.au⟩
   | (refine ⟨_, rfl, ⟨fun h => absurd h (by decide), fun h => ?_⟩, Ch.au⟩
      obtain ⟨x, hx, hb⟩ := List.any_eq_true.1 h
      obtain ⟨j, hj, rfl⟩ := List.mem_iff_getElem.1 hx
      rw [hn j hj (by omega)] at hb
      cases hb)
theorem cf_C (z : List CC) (v : Value) (fid : Nat) (cap : List Value) (b : CC → Bool) (w0 : World) (hv : Sl w0 v 8 z.length (cellsCC z)) (hl : z.length ≤ 1000000000000000) (hK : Knows Tryz.prog fid) (hcl : ∀ x ∈ z, ∀ W, Nw w0 W → Does Tryz.prog fid (x.v :: cap).toArray W (fun r w' => r = .bool (b x) ∧ Nw W w')) : Does Tryz.prog 111 #[v, .func (.func fid) #[] cap.toArray] w0 (fun r w' => r = .bool (z.any b) ∧ Nw w0 w') := by
  refine fn_of (n := 9) (args := [v, .func (.func fid) #[] cap.toArray]) Tryz.func111 rfl rfl rfl (W_seq (W_region (L_r (r_ab rfl) (L_nil (W_seq (W_region (L_r (r_mv) (L_r (r_mv) ?_))))))))
  refine L_call (.plain rfl) rfl rfl (r_call Tryz.func154 rfl rfl rfl (by rfl)) (ixf_C z v fid cap b _ Sl.au hl hK (fun x hx W c => hcl x hx W Ch.au)) ?_
  rintro v7 w1 ⟨k, rfl, hk, c1⟩
  have hz1 := c1.size
  refine L_r (r_geq rfl rfl) (L_r (r_ab rfl) (L_nil (W_ret ?_)))
  refine ret1 (v := .bool _) rfl rfl ?_
  exact ⟨(dec_b hk.symm).symm, Ch.au⟩
theorem ixf_I (z : List Ins) (v : Value) (fid : Nat) (cap : List Value) (b : Ins → Bool) (w0 : World) (hv : Sl w0 v 3 z.length (cellsI z)) (hl : z.length ≤ 1000000000000000) (hK : Knows Tryz.prog fid) (hcl : ∀ x ∈ z, ∀ W, Nw w0 W → Does Tryz.prog fid (x.v :: cap).toArray W (fun r w' => r = .bool (b x) ∧ Nw W w')) : Does Tryz.prog 177 #[v, .func (.func fid) #[] cap.toArray] w0 (fun r w' => ∃ k : Int, r = .int .i64 k ∧ (0 ≤ k ↔ z.any b = true) ∧ Nw w0 w') := by
  refine fn_of (n := 19) (args := [v, .func (.func fid) #[] cap.toArray]) Tryz.func177 rfl rfl rfl (W_seq (W_region (L_r (r_ai rfl) (L_nil (W_seq (W_seq (W_region (L_r (r_mv) ?_))))))))
  refine L_r (r_lenSl Tryz.underlying40 (by conv => lhs; whnf) Sl.au) (L_r (r_mi rfl) (L_nil (W_block ?_)))
  refine W_loopF [0, 1, 7] (fun mz_ f W => ∃ (i : Nat), f 8 = .int .i64 i ∧ (i ≤ z.length ∧ (∀ j (hj : j < z.length), j < i → b z[j] = false) ∧ Nw w0 W) ∧ mz_ = z.length - i) ?_ ?_
  ·
   refine ⟨_, 0, rfl, ?_, rfl⟩
   exact ⟨by omega, fun j hj hji => absurd hji (by omega), Ch.au⟩
  rintro m0 g0 w1 ⟨i, hf8, hR0, rfl⟩
  refine W_as 8 hf8 rfl ?_
  clear hf8
  obtain ⟨hi, hn, hnw⟩ := hR0
  have hz := hnw.size
  refine W_seq (W_region (L_r (r_lss rfl rfl) (L_nil (W_seq ?_))))
  refine W_if rfl (fun h9 => ?_) (fun h9 => ?_)
  ·
   have hil : i < z.length := by omega
   have hrow := cellsI_row z i hil
   have hxm := List.getElem_mem hil
   obtain ⟨x, hx⟩ : ∃ x, x = z[i] := ⟨_, rfl⟩
   rw [← hx] at hrow hxm
   refine W_skip (W_seq (W_block (W_seq (W_region (L_r (r_mi rfl) (L_r (r_ai rfl) (L_nil (W_seq ?_))))))))
   refine W_region (L_r (r_mv) (L_r (r_mv) (L_r (r_mi rfl) ?_)))
   refine L_r (r_ix Tryz.underlying40 (show _ = some 3 from rfl) (by conv => lhs; whnf) rfl Sl.au) ?_
   refine L_r (r_loadSlrow (us := [.string x.op, .int .i64 x.n, .string x.s]) Tryz.underlying54 rfl rfl rfl rfl Sl.au (by exact hrow)) ?_
   refine L_call (.plain rfl) rfl rfl (r_callv hK rfl (by rfl)) (hcl x hxm _ Ch.au) ?_
   rintro v16 w2 ⟨rfl, c2⟩
   have hz2 := c2.size
   refine L_nil ?_
   refine W_bool rfl (fun h16 => ?_) (fun h16 => ?_)
   ·
    refine W_seq (W_region (L_r (r_mi rfl) (L_r (r_ai rfl) (L_nil (W_ret ?_)))))
    refine ret1 (v := .int _ _) rfl rfl ?_
    first
    | exact ⟨_, rfl, ⟨fun _ => List.any_eq_true.2 ⟨x, hxm, h16⟩, fun _ => by omega⟩, Ch.au⟩
    | (refine ⟨_, rfl, ⟨fun h => absurd h (by decide), fun h => ?_⟩, Ch.au⟩
       obtain ⟨x, hx, hb⟩ := List.any_eq_true.1 h
       obtain ⟨j, hj, rfl⟩ := List.mem_iff_getElem.1 hx
       rw [hn j hj (by omega)] at hb
       cases hb)
   ·
    refine W_skip (W_region ?_)
    refine L_r (r_add rfl rfl (by first | exact wr_i64 (by omega) | rfl)) (L_r (r_mi rfl) (L_nil ?_))
    refine ⟨⟨fx2, fx2, fx2, trivial⟩, _, ?_, i + 1, rfl, ?_, rfl⟩
    · omega
    refine ⟨by omega, fun j hj hji => ?_, Ch.au⟩
    rcases Nat.lt_or_ge j i with h | h
    · exact hn j hj h
    ·
     have e : j = i := by omega
     subst e
     rw [← hx]; exact h16
  ·
   refine W_exit ?_
   repeat (first | refine blk_hit ?_ | refine blk_miss rfl ?_)
   refine W_seq (W_region (L_r (r_ai rfl) (L_nil (W_ret ?_))))
   refine ret1 (v := .int _ _) rfl rfl ?_
   first
   | exact ⟨_, rfl, ⟨fun _ => List.any_eq_true.2 ⟨x, hxm, h16⟩, fun _ => by omega⟩, Ch.au⟩
   | (refine ⟨_, rfl, ⟨fun h => absurd h (by decide), fun h => ?_⟩, Ch.au⟩
      obtain ⟨x, hx, hb⟩ := List.any_eq_true.1 h
      obtain ⟨j, hj, rfl⟩ := List.mem_iff_getElem.1 hx
      rw [hn j hj (by omega)] at hb
      cases hb)
theorem cf_I (z : List Ins) (v : Value) (fid : Nat) (cap : List Value) (b : Ins → Bool) (w0 : World) (hv : Sl w0 v 3 z.length (cellsI z)) (hl : z.length ≤ 1000000000000000) (hK : Knows Tryz.prog fid) (hcl : ∀ x ∈ z, ∀ W, Nw w0 W → Does Tryz.prog fid (x.v :: cap).toArray W (fun r w' => r = .bool (b x) ∧ Nw W w')) : Does Tryz.prog 162 #[v, .func (.func fid) #[] cap.toArray] w0 (fun r w' => r = .bool (z.any b) ∧ Nw w0 w') := by
  refine fn_of (n := 9) (args := [v, .func (.func fid) #[] cap.toArray]) Tryz.func162 rfl rfl rfl (W_seq (W_region (L_r (r_ab rfl) (L_nil (W_seq (W_region (L_r (r_mv) (L_r (r_mv) ?_))))))))
  refine L_call (.plain rfl) rfl rfl (r_call Tryz.func177 rfl rfl rfl (by rfl)) (ixf_I z v fid cap b _ Sl.au hl hK (fun x hx W c => hcl x hx W Ch.au)) ?_
  rintro v7 w1 ⟨k, rfl, hk, c1⟩
  have hz1 := c1.size
  refine L_r (r_geq rfl rfl) (L_r (r_ab rfl) (L_nil (W_ret ?_)))
  refine ret1 (v := .bool _) rfl rfl ?_
  exact ⟨(dec_b hk.symm).symm, Ch.au⟩
theorem ixf_K (z : List Cat) (v : Value) (fid : Nat) (cap : List Value) (b : Cat → Bool) (w0 : World) (hv : Sl w0 v 4 z.length (cellsCK z)) (hl : z.length ≤ 1000000000000000) (hK : Knows Tryz.prog fid) (hcl : ∀ x ∈ z, ∀ W, Nw w0 W → Does Tryz.prog fid (x.v :: cap).toArray W (fun r w' => r = .bool (b x) ∧ Nw W w')) : Does Tryz.prog 181 #[v, .func (.func fid) #[] cap.toArray] w0 (fun r w' => ∃ k : Int, r = .int .i64 k ∧ (0 ≤ k ↔ z.any b = true) ∧ Nw w0 w') := by
  refine fn_of (n := 19) (args := [v, .func (.func fid) #[] cap.toArray]) Tryz.func181 rfl rfl rfl (W_seq (W_region (L_r (r_ai rfl) (L_nil (W_seq (W_seq (W_region (L_r (r_mv) ?_))))))))
  refine L_r (r_lenSl Tryz.underlying41 (by conv => lhs; whnf) Sl.au) (L_r (r_mi rfl) (L_nil (W_block ?_)))
  refine W_loopF [0, 1, 7] (fun mz_ f W => ∃ (i : Nat), f 8 = .int .i64 i ∧ (i ≤ z.length ∧ (∀ j (hj : j < z.length), j < i → b z[j] = false) ∧ Nw w0 W) ∧ mz_ = z.length - i) ?_ ?_
  ·
   refine ⟨_, 0, rfl, ?_, rfl⟩
   exact ⟨by omega, fun j hj hji => absurd hji (by omega), Ch.au⟩
  rintro m0 g0 w1 ⟨i, hf8, hR0, rfl⟩
  refine W_as 8 hf8 rfl ?_
  clear hf8
  obtain ⟨hi, hn, hnw⟩ := hR0
  have hz := hnw.size
  refine W_seq (W_region (L_r (r_lss rfl rfl) (L_nil (W_seq ?_))))
  refine W_if rfl (fun h9 => ?_) (fun h9 => ?_)
  ·
   have hil : i < z.length := by omega
   have hrow := cellsCK_row z i hil
   have hxm := List.getElem_mem hil
   obtain ⟨x, hx⟩ : ∃ x, x = z[i] := ⟨_, rfl⟩
   rw [← hx] at hrow hxm
   refine W_skip (W_seq (W_block (W_seq (W_region (L_r (r_mi rfl) (L_r (r_ai rfl) (L_nil (W_seq ?_))))))))
   refine W_region (L_r (r_mv) (L_r (r_mv) (L_r (r_mi rfl) ?_)))
   refine L_r (r_ix Tryz.underlying41 (show _ = some 4 from rfl) (by conv => lhs; whnf) rfl Sl.au) ?_
   refine L_r (r_loadSlrow (us := [.int .i64 x.fr, .int .i64 x.tt, .int .i64 x.aa, .string x.cls]) Tryz.underlying70 rfl rfl rfl rfl Sl.au (by exact hrow)) ?_
   refine L_call (.plain rfl) rfl rfl (r_callv hK rfl (by rfl)) (hcl x hxm _ Ch.au) ?_
   rintro v16 w2 ⟨rfl, c2⟩
   have hz2 := c2.size
   refine L_nil ?_
   refine W_bool rfl (fun h16 => ?_) (fun h16 => ?_)
   ·
    refine W_seq (W_region (L_r (r_mi rfl) (L_r (r_ai rfl) (L_nil (W_ret ?_)))))
    refine ret1 (v := .int _ _) rfl rfl ?_
    first
    | exact ⟨_, rfl, ⟨fun _ => List.any_eq_true.2 ⟨x, hxm, h16⟩, fun _ => by omega⟩, Ch.au⟩
    | (refine ⟨_, rfl, ⟨fun h => absurd h (by decide), fun h => ?_⟩, Ch.au⟩
       obtain ⟨x, hx, hb⟩ := List.any_eq_true.1 h
       obtain ⟨j, hj, rfl⟩ := List.mem_iff_getElem.1 hx
       rw [hn j hj (by omega)] at hb
       cases hb)
   ·
    refine W_skip (W_region ?_)
    refine L_r (r_add rfl rfl (by first | exact wr_i64 (by omega) | rfl)) (L_r (r_mi rfl) (L_nil ?_))
    refine ⟨⟨fx2, fx2, fx2, trivial⟩, _, ?_, i + 1, rfl, ?_, rfl⟩
    · omega
    refine ⟨by omega, fun j hj hji => ?_, Ch.au⟩
    rcases Nat.lt_or_ge j i with h | h
    · exact hn j hj h
    ·
     have e : j = i := by omega
     subst e
     rw [← hx]; exact h16
  ·
   refine W_exit ?_
   repeat (first | refine blk_hit ?_ | refine blk_miss rfl ?_)
   refine W_seq (W_region (L_r (r_ai rfl) (L_nil (W_ret ?_))))
   refine ret1 (v := .int _ _) rfl rfl ?_
   first
   | exact ⟨_, rfl, ⟨fun _ => List.any_eq_true.2 ⟨x, hxm, h16⟩, fun _ => by omega⟩, Ch.au⟩
   | (refine ⟨_, rfl, ⟨fun h => absurd h (by decide), fun h => ?_⟩, Ch.au⟩
      obtain ⟨x, hx, hb⟩ := List.any_eq_true.1 h
      obtain ⟨j, hj, rfl⟩ := List.mem_iff_getElem.1 hx
      rw [hn j hj (by omega)] at hb
      cases hb)
theorem cf_K (z : List Cat) (v : Value) (fid : Nat) (cap : List Value) (b : Cat → Bool) (w0 : World) (hv : Sl w0 v 4 z.length (cellsCK z)) (hl : z.length ≤ 1000000000000000) (hK : Knows Tryz.prog fid) (hcl : ∀ x ∈ z, ∀ W, Nw w0 W → Does Tryz.prog fid (x.v :: cap).toArray W (fun r w' => r = .bool (b x) ∧ Nw W w')) : Does Tryz.prog 165 #[v, .func (.func fid) #[] cap.toArray] w0 (fun r w' => r = .bool (z.any b) ∧ Nw w0 w') := by
  refine fn_of (n := 9) (args := [v, .func (.func fid) #[] cap.toArray]) Tryz.func165 rfl rfl rfl (W_seq (W_region (L_r (r_ab rfl) (L_nil (W_seq (W_region (L_r (r_mv) (L_r (r_mv) ?_))))))))
  refine L_call (.plain rfl) rfl rfl (r_call Tryz.func181 rfl rfl rfl (by rfl)) (ixf_K z v fid cap b _ Sl.au hl hK (fun x hx W c => hcl x hx W Ch.au)) ?_
  rintro v7 w1 ⟨k, rfl, hk, c1⟩
  have hz1 := c1.size
  refine L_r (r_geq rfl rfl) (L_r (r_ab rfl) (L_nil (W_ret ?_)))
  refine ret1 (v := .bool _) rfl rfl ?_
  exact ⟨(dec_b hk.symm).symm, Ch.au⟩
theorem ev1_S (x : ByteArray) (p : Nat) (fid : Nat) (cap : List Value) (b : Bool) (w0 : World) (hp : Bk w0 p #[.func (.func fid) #[] cap.toArray] 38) (hK : Knows Tryz.prog fid) (hcl : ∀ W, Nw w0 W → Does Tryz.prog fid (.string x :: cap).toArray W (fun r w' => r = .bool b ∧ Nw W w')) : Does Tryz.prog 117 #[.string x, .pointer (some ⟨p, 0, none⟩)] w0 (fun r w' => r = .bool (!b) ∧ Nw w0 w') := by
  refine fn_of (n := 8) (args := [.string x, .pointer (some ⟨p, 0, none⟩)]) Tryz.func117 rfl rfl rfl (W_seq (W_region (L_r (r_ab rfl) (L_nil (W_seq (W_region (L_r (r_lb rfl rfl) (L_r (r_ms rfl) ?_))))))))
  refine L_call (.plain rfl) rfl rfl (r_callv hK rfl (by rfl)) (hcl _ Ch.au) ?_
  rintro v6 w1 ⟨rfl, c1⟩
  have hz1 := c1.size
  refine L_r (r_not rfl) (L_r (r_ab rfl) (L_nil (W_ret ?_)))
  refine ret1 (v := .bool _) rfl rfl ?_
  exact ⟨rfl, Ch.au⟩
theorem every_S (z : List ByteArray) (v : Value) (fid : Nat) (cap : List Value) (b : ByteArray → Bool) (w0 : World) (hv : Sl w0 v 1 z.length (scells z)) (hl : z.length ≤ 1000000000000000) (hK : Knows Tryz.prog fid) (hcl : ∀ x ∈ z, ∀ W, Nw w0 W → Does Tryz.prog fid (.string x :: cap).toArray W (fun r w' => r = .bool (b x) ∧ Nw W w')) : Does Tryz.prog 57 #[v, .func (.func fid) #[] cap.toArray] w0 (fun r w' => r = .bool (z.all b) ∧ Nw w0 w') := by
  refine fn_of (n := 9) (args := [v, .func (.func fid) #[] cap.toArray]) Tryz.func57 rfl rfl rfl (W_seq (W_region ?_))
  refine L_new (.plain rfl) rfl rfl (r_box1 (by conv => lhs; whnf) (by rfl)) (fun w1 b3 hb3 eb1 hs1 c1 => (L_r (r_ab rfl) (L_nil (W_seq (W_region (L_r (r_mv) ?_))))))
  refine L_r (r_funcL (l1 := []) (l2 := [.pointer _]) rfl rfl) ?_
  refine L_call (.plain rfl) rfl rfl (r_call Tryz.func116 rfl rfl rfl (by rfl)) (cf_S z v 117 [.pointer (some ⟨b3, 0, none⟩)] (fun x => !b x) _ Sl.au hl ⟨_, _, Tryz.func117, rfl, rfl⟩ (fun x hx W c => ev1_S x b3 fid cap (b x) W Bk.au hK (fun W' c' => hcl x hx W' Ch.au))) ?_
  rintro v7 w2 ⟨rfl, c2⟩
  have hz2 := c2.size
  refine L_r (r_not rfl) (L_r (r_ab rfl) (L_nil (W_ret ?_)))
  refine ret1 (v := .bool _) rfl rfl ?_
  exact ⟨by rw [any_not], Ch.au⟩
theorem ev1_F (x : CF) (p : Nat) (fid : Nat) (cap : List Value) (b : Bool) (w0 : World) (hp : Bk w0 p #[.func (.func fid) #[] cap.toArray] 90) (hK : Knows Tryz.prog fid) (hcl : ∀ W, Nw w0 W → Does Tryz.prog fid (x.v :: cap).toArray W (fun r w' => r = .bool b ∧ Nw W w')) : Does Tryz.prog 124 #[x.v, .pointer (some ⟨p, 0, none⟩)] w0 (fun r w' => r = .bool (!b) ∧ Nw w0 w') := by
  refine fn_of (n := 8) (args := [x.v, .pointer (some ⟨p, 0, none⟩)]) Tryz.func124 rfl rfl rfl (W_seq (W_region ?_))
  refine L_new (.plain rfl) rfl rfl (r_boxa rfl) (fun w1 b2 hb2 eb1 hs1 c1 => (L_r (r_ab rfl) (L_nil (W_seq (W_region (L_r (r_lb rfl rfl) ?_))))))
  refine L_r (r_loadrow Tryz.underlying52 rfl rfl Bk.au (by first | rfl | assumption)) ?_
  refine L_call (.plain rfl) rfl rfl (r_callv hK rfl (by rfl)) (hcl _ Ch.au) ?_
  rintro v6 w2 ⟨rfl, c2⟩
  have hz2 := c2.size
  refine L_r (r_not rfl) (L_r (r_ab rfl) (L_nil (W_ret ?_)))
  refine ret1 (v := .bool _) rfl rfl ?_
  exact ⟨rfl, Ch.au⟩
theorem every_F (z : List CF) (v : Value) (fid : Nat) (cap : List Value) (b : CF → Bool) (w0 : World) (hv : Sl w0 v 3 z.length (cellsCF z)) (hl : z.length ≤ 1000000000000000) (hK : Knows Tryz.prog fid) (hcl : ∀ x ∈ z, ∀ W, Nw w0 W → Does Tryz.prog fid (x.v :: cap).toArray W (fun r w' => r = .bool (b x) ∧ Nw W w')) : Does Tryz.prog 65 #[v, .func (.func fid) #[] cap.toArray] w0 (fun r w' => r = .bool (z.all b) ∧ Nw w0 w') := by
  refine fn_of (n := 9) (args := [v, .func (.func fid) #[] cap.toArray]) Tryz.func65 rfl rfl rfl (W_seq (W_region ?_))
  refine L_new (.plain rfl) rfl rfl (r_box1 (by conv => lhs; whnf) (by rfl)) (fun w1 b3 hb3 eb1 hs1 c1 => (L_r (r_ab rfl) (L_nil (W_seq (W_region (L_r (r_mv) ?_))))))
  refine L_r (r_funcL (l1 := []) (l2 := [.pointer _]) rfl rfl) ?_
  refine L_call (.plain rfl) rfl rfl (r_call Tryz.func121 rfl rfl rfl (by rfl)) (cf_F z v 124 [.pointer (some ⟨b3, 0, none⟩)] (fun x => !b x) _ Sl.au hl ⟨_, _, Tryz.func124, rfl, rfl⟩ (fun x hx W c => ev1_F x b3 fid cap (b x) W Bk.au hK (fun W' c' => hcl x hx W' Ch.au))) ?_
  rintro v7 w2 ⟨rfl, c2⟩
  have hz2 := c2.size
  refine L_r (r_not rfl) (L_r (r_ab rfl) (L_nil (W_ret ?_)))
  refine ret1 (v := .bool _) rfl rfl ?_
  exact ⟨by rw [any_not], Ch.au⟩
theorem ev1_M (x : MM) (p : Nat) (fid : Nat) (cap : List Value) (b : Bool) (w0 : World) (hp : Bk w0 p #[.func (.func fid) #[] cap.toArray] 83) (hK : Knows Tryz.prog fid) (hcl : ∀ W, Nw w0 W → Does Tryz.prog fid (x.v :: cap).toArray W (fun r w' => r = .bool b ∧ Nw W w')) : Does Tryz.prog 127 #[x.v, .pointer (some ⟨p, 0, none⟩)] w0 (fun r w' => r = .bool (!b) ∧ Nw w0 w') := by
  refine fn_of (n := 8) (args := [x.v, .pointer (some ⟨p, 0, none⟩)]) Tryz.func127 rfl rfl rfl (W_seq (W_region ?_))
  refine L_new (.plain rfl) rfl rfl (r_boxa rfl) (fun w1 b2 hb2 eb1 hs1 c1 => (L_r (r_ab rfl) (L_nil (W_seq (W_region (L_r (r_lb rfl rfl) ?_))))))
  refine L_r (r_loadrow Tryz.underlying43 rfl rfl Bk.au (by first | rfl | assumption)) ?_
  refine L_call (.plain rfl) rfl rfl (r_callv hK rfl (by rfl)) (hcl _ Ch.au) ?_
  rintro v6 w2 ⟨rfl, c2⟩
  have hz2 := c2.size
  refine L_r (r_not rfl) (L_r (r_ab rfl) (L_nil (W_ret ?_)))
  refine ret1 (v := .bool _) rfl rfl ?_
  exact ⟨rfl, Ch.au⟩
theorem every_M (z : List MM) (v : Value) (fid : Nat) (cap : List Value) (b : MM → Bool) (w0 : World) (hv : Sl w0 v 7 z.length (cellsCM z)) (hl : z.length ≤ 1000000000000000) (hK : Knows Tryz.prog fid) (hcl : ∀ x ∈ z, ∀ W, Nw w0 W → Does Tryz.prog fid (x.v :: cap).toArray W (fun r w' => r = .bool (b x) ∧ Nw W w')) : Does Tryz.prog 69 #[v, .func (.func fid) #[] cap.toArray] w0 (fun r w' => r = .bool (z.all b) ∧ Nw w0 w') := by
  refine fn_of (n := 9) (args := [v, .func (.func fid) #[] cap.toArray]) Tryz.func69 rfl rfl rfl (W_seq (W_region ?_))
  refine L_new (.plain rfl) rfl rfl (r_box1 (by conv => lhs; whnf) (by rfl)) (fun w1 b3 hb3 eb1 hs1 c1 => (L_r (r_ab rfl) (L_nil (W_seq (W_region (L_r (r_mv) ?_))))))
  refine L_r (r_funcL (l1 := []) (l2 := [.pointer _]) rfl rfl) ?_
  refine L_call (.plain rfl) rfl rfl (r_call Tryz.func54 rfl rfl rfl (by rfl)) (cf_M z v 127 [.pointer (some ⟨b3, 0, none⟩)] (fun x => !b x) _ Sl.au hl ⟨_, _, Tryz.func127, rfl, rfl⟩ (fun x hx W c => ev1_M x b3 fid cap (b x) W Bk.au hK (fun W' c' => hcl x hx W' Ch.au))) ?_
  rintro v7 w2 ⟨rfl, c2⟩
  have hz2 := c2.size
  refine L_r (r_not rfl) (L_r (r_ab rfl) (L_nil (W_ret ?_)))
  refine ret1 (v := .bool _) rfl rfl ?_
  exact ⟨by rw [any_not], Ch.au⟩
theorem ev1_C (x : CC) (p : Nat) (fid : Nat) (cap : List Value) (b : Bool) (w0 : World) (hp : Bk w0 p #[.func (.func fid) #[] cap.toArray] 27) (hK : Knows Tryz.prog fid) (hcl : ∀ W, Nw w0 W → Does Tryz.prog fid (x.v :: cap).toArray W (fun r w' => r = .bool b ∧ Nw W w')) : Does Tryz.prog 112 #[x.v, .pointer (some ⟨p, 0, none⟩)] w0 (fun r w' => r = .bool (!b) ∧ Nw w0 w') := by
  refine fn_of (n := 8) (args := [x.v, .pointer (some ⟨p, 0, none⟩)]) Tryz.func112 rfl rfl rfl (W_seq (W_region ?_))
  refine L_new (.plain rfl) rfl rfl (r_boxa rfl) (fun w1 b2 hb2 eb1 hs1 c1 => (L_r (r_ab rfl) (L_nil (W_seq (W_region (L_r (r_lb rfl rfl) ?_))))))
  refine L_r (r_loadrow Tryz.underlying26 rfl rfl Bk.au (by first | rfl | assumption)) ?_
  refine L_call (.plain rfl) rfl rfl (r_callv hK rfl (by rfl)) (hcl _ Ch.au) ?_
  rintro v6 w2 ⟨rfl, c2⟩
  have hz2 := c2.size
  refine L_r (r_not rfl) (L_r (r_ab rfl) (L_nil (W_ret ?_)))
  refine ret1 (v := .bool _) rfl rfl ?_
  exact ⟨rfl, Ch.au⟩
theorem every_C (z : List CC) (v : Value) (fid : Nat) (cap : List Value) (b : CC → Bool) (w0 : World) (hv : Sl w0 v 8 z.length (cellsCC z)) (hl : z.length ≤ 1000000000000000) (hK : Knows Tryz.prog fid) (hcl : ∀ x ∈ z, ∀ W, Nw w0 W → Does Tryz.prog fid (x.v :: cap).toArray W (fun r w' => r = .bool (b x) ∧ Nw W w')) : Does Tryz.prog 50 #[v, .func (.func fid) #[] cap.toArray] w0 (fun r w' => r = .bool (z.all b) ∧ Nw w0 w') := by
  refine fn_of (n := 9) (args := [v, .func (.func fid) #[] cap.toArray]) Tryz.func50 rfl rfl rfl (W_seq (W_region ?_))
  refine L_new (.plain rfl) rfl rfl (r_box1 (by conv => lhs; whnf) (by rfl)) (fun w1 b3 hb3 eb1 hs1 c1 => (L_r (r_ab rfl) (L_nil (W_seq (W_region (L_r (r_mv) ?_))))))
  refine L_r (r_funcL (l1 := []) (l2 := [.pointer _]) rfl rfl) ?_
  refine L_call (.plain rfl) rfl rfl (r_call Tryz.func111 rfl rfl rfl (by rfl)) (cf_C z v 112 [.pointer (some ⟨b3, 0, none⟩)] (fun x => !b x) _ Sl.au hl ⟨_, _, Tryz.func112, rfl, rfl⟩ (fun x hx W c => ev1_C x b3 fid cap (b x) W Bk.au hK (fun W' c' => hcl x hx W' Ch.au))) ?_
  rintro v7 w2 ⟨rfl, c2⟩
  have hz2 := c2.size
  refine L_r (r_not rfl) (L_r (r_ab rfl) (L_nil (W_ret ?_)))
  refine ret1 (v := .bool _) rfl rfl ?_
  exact ⟨by rw [any_not], Ch.au⟩
theorem ev1_I (x : Ins) (p : Nat) (fid : Nat) (cap : List Value) (b : Bool) (w0 : World) (hp : Bk w0 p #[.func (.func fid) #[] cap.toArray] 142) (hK : Knows Tryz.prog fid) (hcl : ∀ W, Nw w0 W → Does Tryz.prog fid (x.v :: cap).toArray W (fun r w' => r = .bool b ∧ Nw W w')) : Does Tryz.prog 163 #[x.v, .pointer (some ⟨p, 0, none⟩)] w0 (fun r w' => r = .bool (!b) ∧ Nw w0 w') := by
  refine fn_of (n := 8) (args := [x.v, .pointer (some ⟨p, 0, none⟩)]) Tryz.func163 rfl rfl rfl (W_seq (W_region ?_))
  refine L_new (.plain rfl) rfl rfl (r_boxa rfl) (fun w1 b2 hb2 eb1 hs1 c1 => (L_r (r_ab rfl) (L_nil (W_seq (W_region (L_r (r_lb rfl rfl) ?_))))))
  refine L_r (r_loadrow Tryz.underlying54 rfl rfl Bk.au (by first | rfl | assumption)) ?_
  refine L_call (.plain rfl) rfl rfl (r_callv hK rfl (by rfl)) (hcl _ Ch.au) ?_
  rintro v6 w2 ⟨rfl, c2⟩
  have hz2 := c2.size
  refine L_r (r_not rfl) (L_r (r_ab rfl) (L_nil (W_ret ?_)))
  refine ret1 (v := .bool _) rfl rfl ?_
  exact ⟨rfl, Ch.au⟩
theorem every_I (z : List Ins) (v : Value) (fid : Nat) (cap : List Value) (b : Ins → Bool) (w0 : World) (hv : Sl w0 v 3 z.length (cellsI z)) (hl : z.length ≤ 1000000000000000) (hK : Knows Tryz.prog fid) (hcl : ∀ x ∈ z, ∀ W, Nw w0 W → Does Tryz.prog fid (x.v :: cap).toArray W (fun r w' => r = .bool (b x) ∧ Nw W w')) : Does Tryz.prog 129 #[v, .func (.func fid) #[] cap.toArray] w0 (fun r w' => r = .bool (z.all b) ∧ Nw w0 w') := by
  refine fn_of (n := 9) (args := [v, .func (.func fid) #[] cap.toArray]) Tryz.func129 rfl rfl rfl (W_seq (W_region ?_))
  refine L_new (.plain rfl) rfl rfl (r_box1 (by conv => lhs; whnf) (by rfl)) (fun w1 b3 hb3 eb1 hs1 c1 => (L_r (r_ab rfl) (L_nil (W_seq (W_region (L_r (r_mv) ?_))))))
  refine L_r (r_funcL (l1 := []) (l2 := [.pointer _]) rfl rfl) ?_
  refine L_call (.plain rfl) rfl rfl (r_call Tryz.func162 rfl rfl rfl (by rfl)) (cf_I z v 163 [.pointer (some ⟨b3, 0, none⟩)] (fun x => !b x) _ Sl.au hl ⟨_, _, Tryz.func163, rfl, rfl⟩ (fun x hx W c => ev1_I x b3 fid cap (b x) W Bk.au hK (fun W' c' => hcl x hx W' Ch.au))) ?_
  rintro v7 w2 ⟨rfl, c2⟩
  have hz2 := c2.size
  refine L_r (r_not rfl) (L_r (r_ab rfl) (L_nil (W_ret ?_)))
  refine ret1 (v := .bool _) rfl rfl ?_
  exact ⟨by rw [any_not], Ch.au⟩
theorem ev1_K (x : Cat) (p : Nat) (fid : Nat) (cap : List Value) (b : Bool) (w0 : World) (hp : Bk w0 p #[.func (.func fid) #[] cap.toArray] 139) (hK : Knows Tryz.prog fid) (hcl : ∀ W, Nw w0 W → Does Tryz.prog fid (x.v :: cap).toArray W (fun r w' => r = .bool b ∧ Nw W w')) : Does Tryz.prog 166 #[x.v, .pointer (some ⟨p, 0, none⟩)] w0 (fun r w' => r = .bool (!b) ∧ Nw w0 w') := by
  refine fn_of (n := 8) (args := [x.v, .pointer (some ⟨p, 0, none⟩)]) Tryz.func166 rfl rfl rfl (W_seq (W_region ?_))
  refine L_new (.plain rfl) rfl rfl (r_boxa rfl) (fun w1 b2 hb2 eb1 hs1 c1 => (L_r (r_ab rfl) (L_nil (W_seq (W_region (L_r (r_lb rfl rfl) ?_))))))
  refine L_r (r_loadrow Tryz.underlying70 rfl rfl Bk.au (by first | rfl | assumption)) ?_
  refine L_call (.plain rfl) rfl rfl (r_callv hK rfl (by rfl)) (hcl _ Ch.au) ?_
  rintro v6 w2 ⟨rfl, c2⟩
  have hz2 := c2.size
  refine L_r (r_not rfl) (L_r (r_ab rfl) (L_nil (W_ret ?_)))
  refine ret1 (v := .bool _) rfl rfl ?_
  exact ⟨rfl, Ch.au⟩
theorem every_K (z : List Cat) (v : Value) (fid : Nat) (cap : List Value) (b : Cat → Bool) (w0 : World) (hv : Sl w0 v 4 z.length (cellsCK z)) (hl : z.length ≤ 1000000000000000) (hK : Knows Tryz.prog fid) (hcl : ∀ x ∈ z, ∀ W, Nw w0 W → Does Tryz.prog fid (x.v :: cap).toArray W (fun r w' => r = .bool (b x) ∧ Nw W w')) : Does Tryz.prog 132 #[v, .func (.func fid) #[] cap.toArray] w0 (fun r w' => r = .bool (z.all b) ∧ Nw w0 w') := by
  refine fn_of (n := 9) (args := [v, .func (.func fid) #[] cap.toArray]) Tryz.func132 rfl rfl rfl (W_seq (W_region ?_))
  refine L_new (.plain rfl) rfl rfl (r_box1 (by conv => lhs; whnf) (by rfl)) (fun w1 b3 hb3 eb1 hs1 c1 => (L_r (r_ab rfl) (L_nil (W_seq (W_region (L_r (r_mv) ?_))))))
  refine L_r (r_funcL (l1 := []) (l2 := [.pointer _]) rfl rfl) ?_
  refine L_call (.plain rfl) rfl rfl (r_call Tryz.func165 rfl rfl rfl (by rfl)) (cf_K z v 166 [.pointer (some ⟨b3, 0, none⟩)] (fun x => !b x) _ Sl.au hl ⟨_, _, Tryz.func166, rfl, rfl⟩ (fun x hx W c => ev1_K x b3 fid cap (b x) W Bk.au hK (fun W' c' => hcl x hx W' Ch.au))) ?_
  rintro v7 w2 ⟨rfl, c2⟩
  have hz2 := c2.size
  refine L_r (r_not rfl) (L_r (r_ab rfl) (L_nil (W_ret ?_)))
  refine ret1 (v := .bool _) rfl rfl ?_
  exact ⟨by rw [any_not], Ch.au⟩
end Go.Proofs.YthpknpfhpkkheaaGreatDoor

namespace Go.Proofs.YthpknpfhpkkheaaGreatDoor
open Go Go.RowKit
set_option linter.unusedVariables false
set_option linter.unusedSimpArgs false
set_option maxRecDepth 100000
theorem nodup_snoc {l : List ByteArray} {a : ByteArray} (h : l.Nodup) (hn : a ∉ l) : (l ++ [a]).Nodup :=
  List.pairwise_append.2 ⟨h, List.pairwise_singleton _ _, fun x hx y hy => by rw [List.mem_singleton] at hy; rw [hy]; intro e; exact hn (e ▸ hx)⟩
theorem nodup_not {l : List ByteArray} {a : ByteArray} (h : (l ++ [a]).Nodup) (hm : a ∈ l) : False :=
  (List.pairwise_append.1 h).2.2 a hm a (List.mem_singleton.2 rfl) rfl
theorem scells_take (z : List ByteArray) (i : Nat) : (scells z).take (i * 1) = scells (z.take i) := by rw [Nat.mul_one]; unfold scells; rw [List.map_take]
theorem flat_take {X : Type} (f : X → List Value) (sz : Nat) (hf : ∀ x, (f x).length = sz) : ∀ (z : List X) (i : Nat), (z.flatMap f).take (i * sz) = (z.take i).flatMap f
  | [], i => by simp
  | x :: z, 0 => by simp
  | x :: z, i + 1 => by
    rw [List.flatMap_cons, List.take_succ_cons, List.flatMap_cons, Nat.succ_mul, ← flat_take f sz hf z i]
    have := hf x
    rw [List.take_append, List.take_of_length_le (by omega), show i * sz + sz - (f x).length = i * sz by omega]
theorem cellsCF_take (z : List CF) (i : Nat) : (cellsCF z).take (i * 3) = cellsCF (z.take i) := flat_take cfl 3 (fun _ => rfl) z i
theorem cellsCM_take (z : List MM) (i : Nat) : (cellsCM z).take (i * 7) = cellsCM (z.take i) := flat_take mml 7 (fun _ => rfl) z i
theorem MM.ok.one {w : World} {x : MM} (h : x.ok w) : (#[.string x.m.name, x.vp, .string x.m.result, .bool x.m.abs, .int .i64 x.m.locals, x.vc, x.vk] : Array Value).all (fun x => x.oneCell') = true := by
  obtain ⟨_, _, e1, _⟩ := h.p.len
  obtain ⟨_, _, e2, _⟩ := h.c.len
  obtain ⟨_, _, e3, _⟩ := h.k.len
  rw [e1, e2, e3]; simp [Value.oneCell']
theorem CC.ok.one {w : World} {x : CC} (h : x.ok w) : (#[.string x.p.name, .string x.p.super, x.vl, .bool x.p.ifc, .bool x.p.abs, .bool x.p.fin, x.vf, x.vm] : Array Value).all (fun x => x.oneCell') = true := by
  obtain ⟨_, _, e1, _⟩ := h.l.len
  obtain ⟨_, _, e2, _⟩ := h.f.len
  obtain ⟨_, _, e3, _⟩ := h.m.len
  rw [e1, e2, e3]; simp [Value.oneCell']
instance (l : List ByteArray) : Decidable l.Nodup := by unfold List.Nodup; infer_instance
theorem once1_S (x y : ByteArray) (p q : Nat) (fid : Nat) (nx ny : ByteArray) (w0 : World) (hp : Bk w0 p #[.func (.func fid) #[] #[]] 64) (hq : Bk w0 q #[.string y] 9) (hK : Knows Tryz.prog fid) (hcx : ∀ W, Nw w0 W → Does Tryz.prog fid #[.string x] W (fun r w' => r = .string nx ∧ Nw W w')) (hcy : ∀ W, Nw w0 W → Does Tryz.prog fid #[.string y] W (fun r w' => r = .string ny ∧ Nw W w')) : Does Tryz.prog 120 #[.string x, .pointer (some ⟨p, 0, none⟩), .pointer (some ⟨q, 0, none⟩)] w0 (fun r w' => r = .bool (decide (nx = ny)) ∧ Nw w0 w') := by
  refine fn_of (n := 12) (args := [.string x, .pointer (some ⟨p, 0, none⟩), .pointer (some ⟨q, 0, none⟩)]) Tryz.func120 rfl rfl rfl (W_seq (W_region (L_r (r_ab rfl) (L_nil (W_seq ?_)))))
  refine W_draw (fun W => Bk W p #[.func (.func fid) #[] #[]] 64 ∧ Bk W q #[.string y] 9) 8 (m := 8) (by kernel_rfl) rfl (fun w1 c1 hs1 => ?_)
  refine held (by exact ⟨Bk.au, Bk.au⟩) (fun hS => ?_)
  refine D_t 0 rfl (fun W hW => r_loadb rfl rfl gw (by first | assumption | (conv => lhs; simp only [List.getElem?_toArray, List.getElem?_cons_succ, List.getElem?_cons_zero]))) ?_
  refine D_t 1 rfl (fun W hW => r_ms rfl) ?_
  refine D_t 3 rfl (fun W hW => r_loadb rfl rfl gw (by first | assumption | (conv => lhs; simp only [List.getElem?_toArray, List.getElem?_cons_succ, List.getElem?_cons_zero]))) ?_
  refine D_t 4 rfl (fun W hW => r_loadb rfl rfl gw (by first | assumption | (conv => lhs; simp only [List.getElem?_toArray, List.getElem?_cons_succ, List.getElem?_cons_zero]))) ?_
  refine D_ev 2 (by kernel_rfl) rfl ?_
  refine L_call (.plain rfl) rfl rfl (r_callv hK rfl (by rfl)) (hcx _ Ch.au) ?_
  rintro v7 w2 ⟨rfl, c2⟩
  have hz2 := c2.size
  refine L_nil ?_
  refine heldK (by exact ⟨Bk.au, Bk.au⟩) (fun hS => ?_)
  refine D_ev 5 (by kernel_rfl) rfl ?_
  refine L_call (.plain rfl) rfl rfl (r_callv hK rfl (by rfl)) (hcy _ Ch.au) ?_
  rintro v10 w3 ⟨rfl, c3⟩
  have hz3 := c3.size
  refine L_nil ?_
  refine heldK (by exact ⟨Bk.au, Bk.au⟩) (fun hS => ?_)
  refine D_t 6 rfl (fun W hW => r_eqls rfl rfl) ?_
  refine D_t 7 rfl (fun W hW => r_ab rfl) ?_
  refine D_done (by kernel_rfl) (W_ret ?_)
  refine ret1 (v := .bool _) rfl rfl ?_
  exact ⟨rfl, Ch.au⟩
theorem once1_F (x y : CF) (p q : Nat) (fid : Nat) (nx ny : ByteArray) (w0 : World) (hp : Bk w0 p #[.func (.func fid) #[] #[]] 87) (hq : Bk w0 q #[.string y.name, .string y.kind, .bool y.tr] 52) (hK : Knows Tryz.prog fid) (hcx : ∀ W, Nw w0 W → Does Tryz.prog fid #[x.v] W (fun r w' => r = .string nx ∧ Nw W w')) (hcy : ∀ W, Nw w0 W → Does Tryz.prog fid #[y.v] W (fun r w' => r = .string ny ∧ Nw W w')) : Does Tryz.prog 122 #[x.v, .pointer (some ⟨p, 0, none⟩), .pointer (some ⟨q, 0, none⟩)] w0 (fun r w' => r = .bool (decide (nx = ny)) ∧ Nw w0 w') := by
  refine fn_of (n := 12) (args := [x.v, .pointer (some ⟨p, 0, none⟩), .pointer (some ⟨q, 0, none⟩)]) Tryz.func122 rfl rfl rfl (W_seq (W_region ?_))
  refine L_new (.plain rfl) rfl rfl (r_boxa rfl) (fun w1 b3 hb3 eb1 hs1 c1 => (L_r (r_ab rfl) (L_nil (W_seq ?_))))
  refine W_draw (fun W => Bk W p #[.func (.func fid) #[] #[]] 87 ∧ Bk W q #[.string y.name, .string y.kind, .bool y.tr] 52 ∧ Bk W b3 #[.string x.name, .string x.kind, .bool x.tr] 52) 8 (m := 8) (by kernel_rfl) rfl (fun w2 c2 hs2 => ?_)
  refine held (by exact ⟨Bk.au, Bk.au, Bk.au⟩) (fun hS => ?_)
  refine D_t 0 rfl (fun W hW => r_loadb rfl rfl gw (by first | assumption | (conv => lhs; simp only [List.getElem?_toArray, List.getElem?_cons_succ, List.getElem?_cons_zero]))) ?_
  refine D_t 1 rfl (fun W hW => r_loadrow Tryz.underlying52 rfl rfl gw (by first | rfl | assumption)) ?_
  refine D_t 3 rfl (fun W hW => r_loadb rfl rfl gw (by first | assumption | (conv => lhs; simp only [List.getElem?_toArray, List.getElem?_cons_succ, List.getElem?_cons_zero]))) ?_
  refine D_t 4 rfl (fun W hW => r_loadrow Tryz.underlying52 rfl rfl gw (by first | rfl | assumption)) ?_
  refine D_ev 2 (by kernel_rfl) rfl ?_
  refine L_call (.plain rfl) rfl rfl (r_callv hK rfl (by rfl)) (hcx _ Ch.au) ?_
  rintro v7 w3 ⟨rfl, c3⟩
  have hz3 := c3.size
  refine L_nil ?_
  refine heldK (by exact ⟨Bk.au, Bk.au, Bk.au⟩) (fun hS => ?_)
  refine D_ev 5 (by kernel_rfl) rfl ?_
  refine L_call (.plain rfl) rfl rfl (r_callv hK rfl (by rfl)) (hcy _ Ch.au) ?_
  rintro v10 w4 ⟨rfl, c4⟩
  have hz4 := c4.size
  refine L_nil ?_
  refine heldK (by exact ⟨Bk.au, Bk.au, Bk.au⟩) (fun hS => ?_)
  refine D_t 6 rfl (fun W hW => r_eqls rfl rfl) ?_
  refine D_t 7 rfl (fun W hW => r_ab rfl) ?_
  refine D_done (by kernel_rfl) (W_ret ?_)
  refine ret1 (v := .bool _) rfl rfl ?_
  exact ⟨rfl, Ch.au⟩
theorem once1_M (x y : MM) (p q : Nat) (fid : Nat) (nx ny : ByteArray) (w0 : World) (hp : Bk w0 p #[.func (.func fid) #[] #[]] 39) (hq : Bk w0 q #[.string y.m.name, y.vp, .string y.m.result, .bool y.m.abs, .int .i64 y.m.locals, y.vc, y.vk] 43) (hK : Knows Tryz.prog fid) (hcx : ∀ W, Nw w0 W → Does Tryz.prog fid #[x.v] W (fun r w' => r = .string nx ∧ Nw W w')) (hcy : ∀ W, Nw w0 W → Does Tryz.prog fid #[y.v] W (fun r w' => r = .string ny ∧ Nw W w')) : Does Tryz.prog 123 #[x.v, .pointer (some ⟨p, 0, none⟩), .pointer (some ⟨q, 0, none⟩)] w0 (fun r w' => r = .bool (decide (nx = ny)) ∧ Nw w0 w') := by
  refine fn_of (n := 12) (args := [x.v, .pointer (some ⟨p, 0, none⟩), .pointer (some ⟨q, 0, none⟩)]) Tryz.func123 rfl rfl rfl (W_seq (W_region ?_))
  refine L_new (.plain rfl) rfl rfl (r_boxa rfl) (fun w1 b3 hb3 eb1 hs1 c1 => (L_r (r_ab rfl) (L_nil (W_seq ?_))))
  refine W_draw (fun W => Bk W p #[.func (.func fid) #[] #[]] 39 ∧ Bk W q #[.string y.m.name, y.vp, .string y.m.result, .bool y.m.abs, .int .i64 y.m.locals, y.vc, y.vk] 43 ∧ Bk W b3 #[.string x.m.name, x.vp, .string x.m.result, .bool x.m.abs, .int .i64 x.m.locals, x.vc, x.vk] 43) 8 (m := 8) (by kernel_rfl) rfl (fun w2 c2 hs2 => ?_)
  refine held (by exact ⟨Bk.au, Bk.au, Bk.au⟩) (fun hS => ?_)
  refine D_t 0 rfl (fun W hW => r_loadb rfl rfl gw (by first | assumption | (conv => lhs; simp only [List.getElem?_toArray, List.getElem?_cons_succ, List.getElem?_cons_zero]))) ?_
  refine D_t 1 rfl (fun W hW => r_loadrow Tryz.underlying43 rfl rfl gw (by first | rfl | assumption)) ?_
  refine D_t 3 rfl (fun W hW => r_loadb rfl rfl gw (by first | assumption | (conv => lhs; simp only [List.getElem?_toArray, List.getElem?_cons_succ, List.getElem?_cons_zero]))) ?_
  refine D_t 4 rfl (fun W hW => r_loadrow Tryz.underlying43 rfl rfl gw (by first | rfl | assumption)) ?_
  refine D_ev 2 (by kernel_rfl) rfl ?_
  refine L_call (.plain rfl) rfl rfl (r_callv hK rfl (by rfl)) (hcx _ Ch.au) ?_
  rintro v7 w3 ⟨rfl, c3⟩
  have hz3 := c3.size
  refine L_nil ?_
  refine heldK (by exact ⟨Bk.au, Bk.au, Bk.au⟩) (fun hS => ?_)
  refine D_ev 5 (by kernel_rfl) rfl ?_
  refine L_call (.plain rfl) rfl rfl (r_callv hK rfl (by rfl)) (hcy _ Ch.au) ?_
  rintro v10 w4 ⟨rfl, c4⟩
  have hz4 := c4.size
  refine L_nil ?_
  refine heldK (by exact ⟨Bk.au, Bk.au, Bk.au⟩) (fun hS => ?_)
  refine D_t 6 rfl (fun W hW => r_eqls rfl rfl) ?_
  refine D_t 7 rfl (fun W hW => r_ab rfl) ?_
  refine D_done (by kernel_rfl) (W_ret ?_)
  refine ret1 (v := .bool _) rfl rfl ?_
  exact ⟨rfl, Ch.au⟩
theorem once_S (z : List ByteArray) (v : Value) (fid : Nat) (nm : ByteArray → ByteArray) (w0 : World) (hv : Sl w0 v 1 z.length (scells z)) (hl : z.length ≤ 1000000000000000) (hK : Knows Tryz.prog fid) (hcl : ∀ x ∈ z, ∀ W, Nw w0 W → Does Tryz.prog fid #[.string x] W (fun r w' => r = .string (nm x) ∧ Nw W w')) : Does Tryz.prog 59 #[v, .func (.func fid) #[] #[]] w0 (fun r w' => r = .bool (decide (z.map nm).Nodup) ∧ Nw w0 w') := by
  refine fn_of (n := 20) (args := [v, .func (.func fid) #[] #[]]) Tryz.func59 rfl rfl rfl (W_seq (W_region ?_))
  refine L_new (.plain rfl) rfl rfl (r_box1 (by conv => lhs; whnf) (by rfl)) (fun w1 b3 hb3 eb1 hs1 c1 => (L_r (r_ab rfl) (L_nil (W_seq (W_seq (W_region (L_r (r_mv) ?_)))))))
  refine L_r (r_lenSl Tryz.underlying22 (by conv => lhs; whnf) Sl.au) (L_r (r_mi rfl) (L_nil (W_block ?_)))
  refine W_loopF [0, 3, 7, 8] (fun mz_ f W => ∃ (i : Nat), f 9 = .int .i64 i ∧ (i ≤ z.length ∧ ((z.take i).map nm).Nodup ∧ Nw w0 W ∧ Bk W b3 #[.func (.func fid) #[] #[]] 64) ∧ mz_ = z.length - i) ?_ ?_
  ·
   refine ⟨_, 0, rfl, ?_, rfl⟩
   exact ⟨by omega, List.Pairwise.nil, Ch.au, Bk.au⟩
  rintro m0 g0 w2 ⟨i, hf9, hR0, rfl⟩
  refine W_as 9 hf9 rfl ?_
  clear hf9
  obtain ⟨hi, hn, hnw, hbf⟩ := hR0
  have hz := hnw.size
  refine W_seq (W_region (L_r (r_lss rfl rfl) (L_nil (W_seq ?_))))
  refine W_if rfl (fun h10 => ?_) (fun h10 => ?_)
  ·
   have hil : i < z.length := by omega
   have htl : (z.take i).length = i := by rw [List.length_take]; omega
   have hrow := scells_get z i hil
   have hxm := List.getElem_mem hil
   obtain ⟨x, hx⟩ : ∃ x, x = z[i] := ⟨_, rfl⟩
   rw [← hx] at hrow hxm
   refine W_skip (W_seq (W_block (W_seq (W_region (L_r (r_mi rfl) ?_)))))
   refine L_r (r_ix Tryz.underlying22 (show _ = some 1 from rfl) (by conv => lhs; whnf) rfl Sl.au) ?_
   refine L_r (r_loadSl rfl rfl Sl.au (by exact hrow)) ?_
   refine L_new (.plain rfl) rfl rfl (r_alloc1 rfl rfl) (fun w3 b6 hb6 eb3 hs3 c3 => (L_r (r_ai rfl) ?_))
   refine L_set (.plain rfl) rfl Bk.au (r_store (v := .string _) rfl rfl rfl rfl Bk.au (by first | decide | (simp; done) | omega)) (fun w4 hb4 hs4 c4 => ?_)
   try simp only [List.setIfInBounds_toArray, List.set_cons_zero, List.set_cons_succ] at hb4
   refine L_nil (W_seq (W_region (L_r (r_mv) (L_r (r_mi rfl) ?_))))
   refine L_pure (.plain rfl) rfl rfl (cut_h (w := w4) Tryz.underlying22 (show _ = some 1 from rfl) (by conv => lhs; whnf) Sl.au rfl (by omega) (by omega)) ?_
   rintro v16 ⟨hv16, ho16⟩
   refine L_r (r_funcL (l1 := []) (l2 := [.pointer _, .pointer _]) rfl rfl) ?_
   refine L_call (.plain rfl) rfl rfl (r_call Tryz.func116 rfl rfl rfl (by rfl)) (cf_S (z.take i) v16 120 [.pointer (some ⟨b3, 0, none⟩), .pointer (some ⟨b6, 0, none⟩)] (fun y => decide (nm y = nm x)) _ (by rw [htl, ← scells_take]; (exact Sl.au)) (by omega) ⟨_, _, Tryz.func120, rfl, rfl⟩ (fun y hy W c => once1_S y x b3 b6 fid (nm y) (nm x) W Bk.au Bk.au hK (fun W' c' => hcl y (List.mem_of_mem_take hy) W' Ch.au) (fun W' c' => hcl x hxm W' Ch.au))) ?_
   rintro v18 w5 ⟨rfl, c5⟩
   have hz5 := c5.size
   refine L_nil ?_
   refine W_bool rfl (fun h18 => ?_) (fun h18 => ?_)
   ·
    refine W_seq (W_region (L_r (r_ab rfl) (L_nil (W_ret ?_))))
    refine ret1 (v := .bool _) rfl rfl ?_
    refine ⟨?_, Ch.au⟩
    first
    | (rw [decide_eq_true]; rw [List.take_of_length_le (by omega)] at hn; exact hn)
    | (rw [decide_eq_false]
       intro hnd
       obtain ⟨y, hy, he⟩ := List.any_eq_true.1 h18
       have hs : ((z.take (i + 1)).map nm).Nodup := hnd.sublist ((List.take_sublist _ _).map nm)
       rw [List.take_succ_eq_append_getElem hil, List.map_append, ← hx] at hs
       exact nodup_not hs (List.mem_map.2 ⟨y, hy, by simpa using he⟩))
   ·
    refine W_skip (W_region ?_)
    refine L_r (r_add rfl rfl (by first | exact wr_i64 (by omega) | rfl)) (L_r (r_mi rfl) (L_nil ?_))
    refine ⟨⟨fx2, fx2, fx2, fx2, trivial⟩, _, ?_, i + 1, rfl, ?_, rfl⟩
    · omega
    refine ⟨by omega, ?_, Ch.au, Bk.au⟩
    rw [List.take_succ_eq_append_getElem hil, List.map_append, ← hx]
    refine nodup_snoc hn fun hm => ?_
    obtain ⟨y, hy, he⟩ := List.mem_map.1 hm
    have : ((z.take i).any fun y => decide (nm y = nm x)) = true := List.any_eq_true.2 ⟨y, hy, by simpa using he⟩
    rw [h18] at this; cases this
  ·
   refine W_exit ?_
   repeat (first | refine blk_hit ?_ | refine blk_miss rfl ?_)
   refine W_seq (W_region (L_r (r_ab rfl) (L_nil (W_ret ?_))))
   refine ret1 (v := .bool _) rfl rfl ?_
   refine ⟨?_, Ch.au⟩
   first
   | (rw [decide_eq_true]; rw [List.take_of_length_le (by omega)] at hn; exact hn)
   | (rw [decide_eq_false]
      intro hnd
      obtain ⟨y, hy, he⟩ := List.any_eq_true.1 h18
      have hs : ((z.take (i + 1)).map nm).Nodup := hnd.sublist ((List.take_sublist _ _).map nm)
      rw [List.take_succ_eq_append_getElem hil, List.map_append, ← hx] at hs
      exact nodup_not hs (List.mem_map.2 ⟨y, hy, by simpa using he⟩))
theorem once_F (z : List CF) (v : Value) (fid : Nat) (nm : CF → ByteArray) (w0 : World) (hv : Sl w0 v 3 z.length (cellsCF z)) (hl : z.length ≤ 1000000000000000) (hK : Knows Tryz.prog fid) (hcl : ∀ x ∈ z, ∀ W, Nw w0 W → Does Tryz.prog fid #[x.v] W (fun r w' => r = .string (nm x) ∧ Nw W w')) : Does Tryz.prog 61 #[v, .func (.func fid) #[] #[]] w0 (fun r w' => r = .bool (decide (z.map nm).Nodup) ∧ Nw w0 w') := by
  refine fn_of (n := 20) (args := [v, .func (.func fid) #[] #[]]) Tryz.func61 rfl rfl rfl (W_seq (W_region ?_))
  refine L_new (.plain rfl) rfl rfl (r_box1 (by conv => lhs; whnf) (by rfl)) (fun w1 b3 hb3 eb1 hs1 c1 => (L_r (r_ab rfl) (L_nil (W_seq (W_seq (W_region (L_r (r_mv) ?_)))))))
  refine L_r (r_lenSl Tryz.underlying23 (by conv => lhs; whnf) Sl.au) (L_r (r_mi rfl) (L_nil (W_block ?_)))
  refine W_loopF [0, 3, 7, 8] (fun mz_ f W => ∃ (i : Nat), f 9 = .int .i64 i ∧ (i ≤ z.length ∧ ((z.take i).map nm).Nodup ∧ Nw w0 W ∧ Bk W b3 #[.func (.func fid) #[] #[]] 87) ∧ mz_ = z.length - i) ?_ ?_
  ·
   refine ⟨_, 0, rfl, ?_, rfl⟩
   exact ⟨by omega, List.Pairwise.nil, Ch.au, Bk.au⟩
  rintro m0 g0 w2 ⟨i, hf9, hR0, rfl⟩
  refine W_as 9 hf9 rfl ?_
  clear hf9
  obtain ⟨hi, hn, hnw, hbf⟩ := hR0
  have hz := hnw.size
  refine W_seq (W_region (L_r (r_lss rfl rfl) (L_nil (W_seq ?_))))
  refine W_if rfl (fun h10 => ?_) (fun h10 => ?_)
  ·
   have hil : i < z.length := by omega
   have htl : (z.take i).length = i := by rw [List.length_take]; omega
   have hrow := cellsCF_row z i hil
   have hxm := List.getElem_mem hil
   obtain ⟨x, hx⟩ : ∃ x, x = z[i] := ⟨_, rfl⟩
   rw [← hx] at hrow hxm
   refine W_skip (W_seq (W_block (W_seq (W_region (L_r (r_mi rfl) ?_)))))
   refine L_r (r_ix Tryz.underlying23 (show _ = some 3 from rfl) (by conv => lhs; whnf) rfl Sl.au) ?_
   refine L_r (r_loadSlrow (us := [.string x.name, .string x.kind, .bool x.tr]) Tryz.underlying52 rfl rfl rfl rfl Sl.au (by exact hrow)) ?_
   refine L_new (.plain rfl) rfl rfl (r_alloca rfl) (fun w3 b6 hb6 eb3 hs3 c3 => (L_r (r_ai rfl) ?_))
   refine L_storerow (.plain rfl) rfl rfl Bk.au (by first | rfl | (simp; done) | assumption) (by first | rfl | assumption) (by first | rfl | (simp [Value.oneCell']; done) | assumption) (fun w4 hb4 hs4 c4 => (L_nil (W_seq (W_region (L_r (r_mv) (L_r (r_mi rfl) ?_))))))
   refine L_pure (.plain rfl) rfl rfl (cut_h (w := w4) Tryz.underlying23 (show _ = some 3 from rfl) (by conv => lhs; whnf) Sl.au rfl (by omega) (by omega)) ?_
   rintro v16 ⟨hv16, ho16⟩
   refine L_r (r_funcL (l1 := []) (l2 := [.pointer _, .pointer _]) rfl rfl) ?_
   refine L_call (.plain rfl) rfl rfl (r_call Tryz.func121 rfl rfl rfl (by rfl)) (cf_F (z.take i) v16 122 [.pointer (some ⟨b3, 0, none⟩), .pointer (some ⟨b6, 0, none⟩)] (fun y => decide (nm y = nm x)) _ (by rw [htl, ← cellsCF_take]; (exact Sl.au)) (by omega) ⟨_, _, Tryz.func122, rfl, rfl⟩ (fun y hy W c => once1_F y x b3 b6 fid (nm y) (nm x) W Bk.au Bk.au hK (fun W' c' => hcl y (List.mem_of_mem_take hy) W' Ch.au) (fun W' c' => hcl x hxm W' Ch.au))) ?_
   rintro v18 w5 ⟨rfl, c5⟩
   have hz5 := c5.size
   refine L_nil ?_
   refine W_bool rfl (fun h18 => ?_) (fun h18 => ?_)
   ·
    refine W_seq (W_region (L_r (r_ab rfl) (L_nil (W_ret ?_))))
    refine ret1 (v := .bool _) rfl rfl ?_
    refine ⟨?_, Ch.au⟩
    first
    | (rw [decide_eq_true]; rw [List.take_of_length_le (by omega)] at hn; exact hn)
    | (rw [decide_eq_false]
       intro hnd
       obtain ⟨y, hy, he⟩ := List.any_eq_true.1 h18
       have hs : ((z.take (i + 1)).map nm).Nodup := hnd.sublist ((List.take_sublist _ _).map nm)
       rw [List.take_succ_eq_append_getElem hil, List.map_append, ← hx] at hs
       exact nodup_not hs (List.mem_map.2 ⟨y, hy, by simpa using he⟩))
   ·
    refine W_skip (W_region ?_)
    refine L_r (r_add rfl rfl (by first | exact wr_i64 (by omega) | rfl)) (L_r (r_mi rfl) (L_nil ?_))
    refine ⟨⟨fx2, fx2, fx2, fx2, trivial⟩, _, ?_, i + 1, rfl, ?_, rfl⟩
    · omega
    refine ⟨by omega, ?_, Ch.au, Bk.au⟩
    rw [List.take_succ_eq_append_getElem hil, List.map_append, ← hx]
    refine nodup_snoc hn fun hm => ?_
    obtain ⟨y, hy, he⟩ := List.mem_map.1 hm
    have : ((z.take i).any fun y => decide (nm y = nm x)) = true := List.any_eq_true.2 ⟨y, hy, by simpa using he⟩
    rw [h18] at this; cases this
  ·
   refine W_exit ?_
   repeat (first | refine blk_hit ?_ | refine blk_miss rfl ?_)
   refine W_seq (W_region (L_r (r_ab rfl) (L_nil (W_ret ?_))))
   refine ret1 (v := .bool _) rfl rfl ?_
   refine ⟨?_, Ch.au⟩
   first
   | (rw [decide_eq_true]; rw [List.take_of_length_le (by omega)] at hn; exact hn)
   | (rw [decide_eq_false]
      intro hnd
      obtain ⟨y, hy, he⟩ := List.any_eq_true.1 h18
      have hs : ((z.take (i + 1)).map nm).Nodup := hnd.sublist ((List.take_sublist _ _).map nm)
      rw [List.take_succ_eq_append_getElem hil, List.map_append, ← hx] at hs
      exact nodup_not hs (List.mem_map.2 ⟨y, hy, by simpa using he⟩))
theorem once_M (z : List MM) (v : Value) (fid : Nat) (nm : MM → ByteArray) (w0 : World) (hv : Sl w0 v 7 z.length (cellsCM z)) (h1 : ∀ x ∈ z, (#[.string x.m.name, x.vp, .string x.m.result, .bool x.m.abs, .int .i64 x.m.locals, x.vc, x.vk] : Array Value).all (fun x => x.oneCell') = true) (hl : z.length ≤ 1000000000000000) (hK : Knows Tryz.prog fid) (hcl : ∀ x ∈ z, ∀ W, Nw w0 W → Does Tryz.prog fid #[x.v] W (fun r w' => r = .string (nm x) ∧ Nw W w')) : Does Tryz.prog 63 #[v, .func (.func fid) #[] #[]] w0 (fun r w' => r = .bool (decide (z.map nm).Nodup) ∧ Nw w0 w') := by
  refine fn_of (n := 20) (args := [v, .func (.func fid) #[] #[]]) Tryz.func63 rfl rfl rfl (W_seq (W_region ?_))
  refine L_new (.plain rfl) rfl rfl (r_box1 (by conv => lhs; whnf) (by rfl)) (fun w1 b3 hb3 eb1 hs1 c1 => (L_r (r_ab rfl) (L_nil (W_seq (W_seq (W_region (L_r (r_mv) ?_)))))))
  refine L_r (r_lenSl Tryz.underlying24 (by conv => lhs; whnf) Sl.au) (L_r (r_mi rfl) (L_nil (W_block ?_)))
  refine W_loopF [0, 3, 7, 8] (fun mz_ f W => ∃ (i : Nat), f 9 = .int .i64 i ∧ (i ≤ z.length ∧ ((z.take i).map nm).Nodup ∧ Nw w0 W ∧ Bk W b3 #[.func (.func fid) #[] #[]] 39) ∧ mz_ = z.length - i) ?_ ?_
  ·
   refine ⟨_, 0, rfl, ?_, rfl⟩
   exact ⟨by omega, List.Pairwise.nil, Ch.au, Bk.au⟩
  rintro m0 g0 w2 ⟨i, hf9, hR0, rfl⟩
  refine W_as 9 hf9 rfl ?_
  clear hf9
  obtain ⟨hi, hn, hnw, hbf⟩ := hR0
  have hz := hnw.size
  refine W_seq (W_region (L_r (r_lss rfl rfl) (L_nil (W_seq ?_))))
  refine W_if rfl (fun h10 => ?_) (fun h10 => ?_)
  ·
   have hil : i < z.length := by omega
   have htl : (z.take i).length = i := by rw [List.length_take]; omega
   have hrow := cellsCM_row z i hil
   have hxm := List.getElem_mem hil
   obtain ⟨x, hx⟩ : ∃ x, x = z[i] := ⟨_, rfl⟩
   rw [← hx] at hrow hxm
   have h1x := h1 x hxm
   refine W_skip (W_seq (W_block (W_seq (W_region (L_r (r_mi rfl) ?_)))))
   refine L_r (r_ix Tryz.underlying24 (show _ = some 7 from rfl) (by conv => lhs; whnf) rfl Sl.au) ?_
   refine L_r (r_loadSlrow (us := [.string x.m.name, x.vp, .string x.m.result, .bool x.m.abs, .int .i64 x.m.locals, x.vc, x.vk]) Tryz.underlying43 rfl rfl rfl rfl Sl.au (by exact hrow)) ?_
   refine L_new (.plain rfl) rfl rfl (r_alloca rfl) (fun w3 b6 hb6 eb3 hs3 c3 => (L_r (r_ai rfl) ?_))
   refine L_storerow (.plain rfl) rfl rfl Bk.au (by first | rfl | (simp; done) | assumption) (by first | rfl | assumption) (by first | rfl | (simp [Value.oneCell']; done) | assumption) (fun w4 hb4 hs4 c4 => (L_nil (W_seq (W_region (L_r (r_mv) (L_r (r_mi rfl) ?_))))))
   refine L_pure (.plain rfl) rfl rfl (cut_h (w := w4) Tryz.underlying24 (show _ = some 7 from rfl) (by conv => lhs; whnf) Sl.au rfl (by omega) (by omega)) ?_
   rintro v16 ⟨hv16, ho16⟩
   refine L_r (r_funcL (l1 := []) (l2 := [.pointer _, .pointer _]) rfl rfl) ?_
   refine L_call (.plain rfl) rfl rfl (r_call Tryz.func54 rfl rfl rfl (by rfl)) (cf_M (z.take i) v16 123 [.pointer (some ⟨b3, 0, none⟩), .pointer (some ⟨b6, 0, none⟩)] (fun y => decide (nm y = nm x)) _ (by rw [htl, ← cellsCM_take]; (exact Sl.au)) (by omega) ⟨_, _, Tryz.func123, rfl, rfl⟩ (fun y hy W c => once1_M y x b3 b6 fid (nm y) (nm x) W Bk.au Bk.au hK (fun W' c' => hcl y (List.mem_of_mem_take hy) W' Ch.au) (fun W' c' => hcl x hxm W' Ch.au))) ?_
   rintro v18 w5 ⟨rfl, c5⟩
   have hz5 := c5.size
   refine L_nil ?_
   refine W_bool rfl (fun h18 => ?_) (fun h18 => ?_)
   ·
    refine W_seq (W_region (L_r (r_ab rfl) (L_nil (W_ret ?_))))
    refine ret1 (v := .bool _) rfl rfl ?_
    refine ⟨?_, Ch.au⟩
    first
    | (rw [decide_eq_true]; rw [List.take_of_length_le (by omega)] at hn; exact hn)
    | (rw [decide_eq_false]
       intro hnd
       obtain ⟨y, hy, he⟩ := List.any_eq_true.1 h18
       have hs : ((z.take (i + 1)).map nm).Nodup := hnd.sublist ((List.take_sublist _ _).map nm)
       rw [List.take_succ_eq_append_getElem hil, List.map_append, ← hx] at hs
       exact nodup_not hs (List.mem_map.2 ⟨y, hy, by simpa using he⟩))
   ·
    refine W_skip (W_region ?_)
    refine L_r (r_add rfl rfl (by first | exact wr_i64 (by omega) | rfl)) (L_r (r_mi rfl) (L_nil ?_))
    refine ⟨⟨fx2, fx2, fx2, fx2, trivial⟩, _, ?_, i + 1, rfl, ?_, rfl⟩
    · omega
    refine ⟨by omega, ?_, Ch.au, Bk.au⟩
    rw [List.take_succ_eq_append_getElem hil, List.map_append, ← hx]
    refine nodup_snoc hn fun hm => ?_
    obtain ⟨y, hy, he⟩ := List.mem_map.1 hm
    have : ((z.take i).any fun y => decide (nm y = nm x)) = true := List.any_eq_true.2 ⟨y, hy, by simpa using he⟩
    rw [h18] at this; cases this
  ·
   refine W_exit ?_
   repeat (first | refine blk_hit ?_ | refine blk_miss rfl ?_)
   refine W_seq (W_region (L_r (r_ab rfl) (L_nil (W_ret ?_))))
   refine ret1 (v := .bool _) rfl rfl ?_
   refine ⟨?_, Ch.au⟩
   first
   | (rw [decide_eq_true]; rw [List.take_of_length_le (by omega)] at hn; exact hn)
   | (rw [decide_eq_false]
      intro hnd
      obtain ⟨y, hy, he⟩ := List.any_eq_true.1 h18
      have hs : ((z.take (i + 1)).map nm).Nodup := hnd.sublist ((List.take_sublist _ _).map nm)
      rw [List.take_succ_eq_append_getElem hil, List.map_append, ← hx] at hs
      exact nodup_not hs (List.mem_map.2 ⟨y, hy, by simpa using he⟩))
end Go.Proofs.YthpknpfhpkkheaaGreatDoor

namespace Go.Proofs.YthpknpfhpkkheaaGreatDoor
open Go Go.RowKit
set_option linter.unusedVariables false
set_option linter.unusedSimpArgs false
set_option maxRecDepth 100000
theorem Tb.nwB {base : Nat} {wB w0 w : World} {ts : List TypeId} (hb : wB.heap.size ≤ base) (h : Nw wB w0) (c : Ch (Tb base w0 ts) w0 w) : Nw wB w :=
  h.fresh c fun i hi hT => (by have := hT.1; omega)
theorem flat_lt {X : Type} (e : X → List UInt8) : ∀ {z : List X} {i : Nat} (h : i < z.length), ((z.take i).flatMap e).length + (e z[i]).length ≤ (z.flatMap e).length
  | x :: z, 0, _ => by simp
  | x :: z, i + 1, h => by
    have := flat_lt e (z := z) (i := i) (by simpa using h)
    simp only [List.take_succ_cons, List.flatMap_cons, List.length_append, List.getElem_cons_succ]
    omega
set_option maxHeartbeats 1000000 in
theorem list_S (base bw : Nat) (A : List UInt8) (z : List ByteArray) (v : Value) (fid : Nat) (cap : List Value) (e : ByteArray → List UInt8) (wB : World) (w0 : World) (hW : WrAt base w0 bw A) (hv : Sl wB v 1 z.length (scells z)) (hnB0 : Nw wB w0) (hbB : wB.heap.size ≤ base) (hb : base ≤ w0.heap.size) (hl : z.length ≤ 1000) (hAl : A.length + (varL z.length).length + (z.flatMap e).length ≤ 90000000) (hK : Knows Tryz.prog fid) (hcl : ∀ x ∈ z, ∀ W B, Nw wB W → WrC base w0 W → WrAt base W bw B → B.length + (e x).length ≤ 90000000 → Does Tryz.prog fid (.string x :: cap).toArray W (fun r w' => r = .tuple #[] ∧ WrAt base w' bw (B ++ e x) ∧ WrC base W w')) : Does Tryz.prog 77 #[.pointer (some ⟨bw, 0, none⟩), v, .func (.func fid) #[] cap.toArray] w0 (fun r w' => r = .tuple #[] ∧ WrAt base w' bw (A ++ (varL z.length ++ z.flatMap e)) ∧ WrC base w0 w') := by
  have hv0 := hv.nw hnB0
  refine fn_of (n := 24) (args := [.pointer (some ⟨bw, 0, none⟩), v, .func (.func fid) #[] cap.toArray]) Tryz.func77 rfl rfl rfl (W_seq (W_region (L_r (r_mp rfl) (L_r (r_mv) ?_))))
  refine L_r (r_lenSl Tryz.underlying22 (by conv => lhs; whnf) Sl.au) ?_
  refine L_r (r_conv Tryz.underlying3 Tryz.underlying80 rfl (by first | exact wr_u64 (by omega) | rfl)) ?_
  refine L_build1o [.int _ _] Tryz.underlying132 rfl rfl rfl (.plain rfl) rfl (by rfl) (by rfl) (by rfl) (fun v12 w1 ho12 eb1 hs1 c1 => ?_)
  refine L_call (.plain rfl) rfl rfl (r_call Tryz.func52 rfl rfl rfl (by rfl)) (wnum_walk base w0.heap.size bw A _ [z.length] _ (hW.nw Ch.au) (Ow.mono (ow_lit ho12) (by omega)) (by intro x hx; rw [List.mem_singleton] at hx; omega) (by show A.length + 10 * 1 ≤ _; omega) (by omega)) ?_
  rintro v13 w2 ⟨rfl, hW1, c2⟩
  have hz2 := c2.size
  have hW1' : WrAt base w2 bw (A ++ varL z.length) := by { have h := hW1; rw [List.flatMap_singleton] at h; exact h }
  have hco : WrC base w0 w1 := Ch.nw Ch.au
  have hc1 : WrC base w0 w2 := Tb.trans hco c2
  have hn1 : Nw wB w2 := Tb.nwB hbB (hnB0.trans (Ch.au : Nw w0 w1)) c2
  have hzl : (varL z.length).length ≤ 10 := varL_ten (by omega)
  have hv1 := hv.nw hn1
  refine L_nil (W_seq (W_region (L_r (r_mv) ?_)))
  refine L_r (r_lenSl Tryz.underlying22 (by conv => lhs; whnf) Sl.au) (L_r (r_mi rfl) (L_nil (W_block ?_)))
  refine W_loopF [2, 14, 15] (fun mz_ f W => ∃ (i : Nat) (B : List UInt8), f 16 = .int .i64 i ∧ (i ≤ z.length ∧ B = A ++ varL z.length ++ (z.take i).flatMap e ∧ WrAt base W bw B ∧ Nw wB W ∧ WrC base w0 W) ∧ mz_ = z.length - i) ?_ ?_
  ·
   refine ⟨_, 0, A ++ varL z.length, rfl, ?_, rfl⟩
   exact ⟨by omega, by simp, hW1'.nw Ch.au, hn1.trans Ch.au, WrC.nw hc1 Ch.au⟩
  rintro m0 g0 w3 ⟨i, B, hf16, hR0, rfl⟩
  refine W_as 16 hf16 rfl ?_
  clear hf16
  obtain ⟨hi, hB, hWi, hnB, hcw⟩ := hR0
  have hz := hcw.size
  have hvi := hv.nw hnB
  clear hv1 hv0
  refine W_seq (W_region (L_r (r_lss rfl rfl) (L_nil (W_seq ?_))))
  refine W_if rfl (fun h17 => ?_) (fun h17 => ?_)
  ·
   have hil : i < z.length := by omega
   have hfl := flat_lt e hil
   have hBl : B.length = A.length + (varL z.length).length + ((z.take i).flatMap e).length := by rw [hB, List.length_append, List.length_append]
   have hrow := scells_get z i hil
   have hxm := List.getElem_mem hil
   obtain ⟨x, hx⟩ : ∃ x, x = z[i] := ⟨_, rfl⟩
   rw [← hx] at hrow hxm
   rw [← hx] at hfl
   refine W_skip (W_seq (W_block (W_seq (W_region ?_))))
   refine L_r (r_ix Tryz.underlying22 (show _ = some 1 from rfl) (by conv => lhs; whnf) rfl Sl.au) ?_
   refine L_r (r_loadSl rfl rfl Sl.au (by exact hrow)) (L_r (r_as rfl) (L_nil (W_region (L_r (r_mv) (L_r (r_ms rfl) ?_)))))
   refine L_call (.plain rfl) rfl rfl (r_callv hK rfl (by rfl)) (hcl x hxm _ B (hnB.trans Ch.au) (WrC.nw hcw Ch.au) (hWi.nw Ch.au) (by omega)) ?_
   rintro v22 w4 ⟨rfl, hW9, c4⟩
   have hz4 := c4.size
   have hc9 : WrC base w0 w4 := Tb.trans (WrC.nw hcw Ch.au) c4
   have hn9 : Nw wB w4 := Tb.nwB hbB (hnB.trans (Ch.au : Nw _ w3)) c4
   refine L_nil (W_region ?_)
   refine L_r (r_add rfl rfl (by first | exact wr_i64 (by omega) | rfl)) (L_r (r_mi rfl) (L_nil ?_))
   refine ⟨⟨fx2, fx2, fx2, trivial⟩, _, ?_, i + 1, B ++ e x, rfl, ?_, rfl⟩
   · omega
   refine ⟨by omega, by rw [List.take_succ_eq_append_getElem hil, List.flatMap_append, hB, ← hx]; simp, hW9.nw Ch.au, hn9.trans Ch.au, WrC.nw hc9 Ch.au⟩
  ·
   refine W_exit ?_
   repeat (first | refine blk_hit ?_ | refine blk_miss rfl ?_)
   refine ret0 rfl  ?_
   refine ⟨rfl, ?_, WrC.nw hcw Ch.au⟩
   rw [show i = z.length by omega, List.take_length, List.append_assoc] at hB
   rw [← hB]; exact hWi.nw Ch.au
set_option maxHeartbeats 1000000 in
theorem list_F (base bw : Nat) (A : List UInt8) (z : List CF) (v : Value) (fid : Nat) (cap : List Value) (e : CF → List UInt8) (wB : World) (w0 : World) (hW : WrAt base w0 bw A) (hv : Sl wB v 3 z.length (cellsCF z)) (hnB0 : Nw wB w0) (hbB : wB.heap.size ≤ base) (hb : base ≤ w0.heap.size) (hl : z.length ≤ 1000) (hAl : A.length + (varL z.length).length + (z.flatMap e).length ≤ 90000000) (hK : Knows Tryz.prog fid) (hcl : ∀ x ∈ z, ∀ W B, Nw wB W → WrC base w0 W → WrAt base W bw B → B.length + (e x).length ≤ 90000000 → Does Tryz.prog fid (x.v :: cap).toArray W (fun r w' => r = .tuple #[] ∧ WrAt base w' bw (B ++ e x) ∧ WrC base W w')) : Does Tryz.prog 79 #[.pointer (some ⟨bw, 0, none⟩), v, .func (.func fid) #[] cap.toArray] w0 (fun r w' => r = .tuple #[] ∧ WrAt base w' bw (A ++ (varL z.length ++ z.flatMap e)) ∧ WrC base w0 w') := by
  have hv0 := hv.nw hnB0
  refine fn_of (n := 24) (args := [.pointer (some ⟨bw, 0, none⟩), v, .func (.func fid) #[] cap.toArray]) Tryz.func79 rfl rfl rfl (W_seq (W_region (L_r (r_mp rfl) (L_r (r_mv) ?_))))
  refine L_r (r_lenSl Tryz.underlying23 (by conv => lhs; whnf) Sl.au) ?_
  refine L_r (r_conv Tryz.underlying3 Tryz.underlying80 rfl (by first | exact wr_u64 (by omega) | rfl)) ?_
  refine L_build1o [.int _ _] Tryz.underlying132 rfl rfl rfl (.plain rfl) rfl (by rfl) (by rfl) (by rfl) (fun v12 w1 ho12 eb1 hs1 c1 => ?_)
  refine L_call (.plain rfl) rfl rfl (r_call Tryz.func52 rfl rfl rfl (by rfl)) (wnum_walk base w0.heap.size bw A _ [z.length] _ (hW.nw Ch.au) (Ow.mono (ow_lit ho12) (by omega)) (by intro x hx; rw [List.mem_singleton] at hx; omega) (by show A.length + 10 * 1 ≤ _; omega) (by omega)) ?_
  rintro v13 w2 ⟨rfl, hW1, c2⟩
  have hz2 := c2.size
  have hW1' : WrAt base w2 bw (A ++ varL z.length) := by { have h := hW1; rw [List.flatMap_singleton] at h; exact h }
  have hco : WrC base w0 w1 := Ch.nw Ch.au
  have hc1 : WrC base w0 w2 := Tb.trans hco c2
  have hn1 : Nw wB w2 := Tb.nwB hbB (hnB0.trans (Ch.au : Nw w0 w1)) c2
  have hzl : (varL z.length).length ≤ 10 := varL_ten (by omega)
  have hv1 := hv.nw hn1
  refine L_nil (W_seq (W_region (L_r (r_mv) ?_)))
  refine L_r (r_lenSl Tryz.underlying23 (by conv => lhs; whnf) Sl.au) (L_r (r_mi rfl) (L_nil (W_block ?_)))
  refine W_loopF [2, 14, 15] (fun mz_ f W => ∃ (i : Nat) (B : List UInt8), f 16 = .int .i64 i ∧ (i ≤ z.length ∧ B = A ++ varL z.length ++ (z.take i).flatMap e ∧ WrAt base W bw B ∧ Nw wB W ∧ WrC base w0 W) ∧ mz_ = z.length - i) ?_ ?_
  ·
   refine ⟨_, 0, A ++ varL z.length, rfl, ?_, rfl⟩
   exact ⟨by omega, by simp, hW1'.nw Ch.au, hn1.trans Ch.au, WrC.nw hc1 Ch.au⟩
  rintro m0 g0 w3 ⟨i, B, hf16, hR0, rfl⟩
  refine W_as 16 hf16 rfl ?_
  clear hf16
  obtain ⟨hi, hB, hWi, hnB, hcw⟩ := hR0
  have hz := hcw.size
  have hvi := hv.nw hnB
  clear hv1 hv0
  refine W_seq (W_region (L_r (r_lss rfl rfl) (L_nil (W_seq ?_))))
  refine W_if rfl (fun h17 => ?_) (fun h17 => ?_)
  ·
   have hil : i < z.length := by omega
   have hfl := flat_lt e hil
   have hBl : B.length = A.length + (varL z.length).length + ((z.take i).flatMap e).length := by rw [hB, List.length_append, List.length_append]
   have hrow := cellsCF_row z i hil
   have hxm := List.getElem_mem hil
   obtain ⟨x, hx⟩ : ∃ x, x = z[i] := ⟨_, rfl⟩
   rw [← hx] at hrow hxm
   rw [← hx] at hfl
   refine W_skip (W_seq (W_block (W_seq (W_region ?_))))
   refine L_r (r_ix Tryz.underlying23 (show _ = some 3 from rfl) (by conv => lhs; whnf) rfl Sl.au) ?_
   refine L_r (r_loadSlrow (us := [.string x.name, .string x.kind, .bool x.tr]) Tryz.underlying52 rfl rfl rfl rfl Sl.au (by exact hrow)) ?_
   refine L_new (.plain rfl) rfl rfl (r_alloca rfl) (fun w4 b7 hb7 eb4 hs4 c4 => ?_)
   refine L_storerow (.plain rfl) rfl rfl Bk.au (by first | rfl | (simp; done) | assumption) (by first | rfl | assumption) (by first | rfl | (simp [Value.oneCell']; done) | assumption) (fun w5 hb5 hs5 c5 => (L_nil (W_region (L_r (r_mv) ?_))))
   refine L_r (r_loadrow Tryz.underlying52 rfl rfl Bk.au (by first | rfl | assumption)) ?_
   refine L_call (.plain rfl) rfl rfl (r_callv hK rfl (by rfl)) (hcl x hxm _ B (hnB.trans Ch.au) (WrC.nw hcw Ch.au) (hWi.nw Ch.au) (by omega)) ?_
   rintro v22 w6 ⟨rfl, hW9, c6⟩
   have hz6 := c6.size
   have hc9 : WrC base w0 w6 := Tb.trans (WrC.nw hcw Ch.au) c6
   have hn9 : Nw wB w6 := Tb.nwB hbB (hnB.trans (Ch.au : Nw _ w5)) c6
   refine L_nil (W_region ?_)
   refine L_r (r_add rfl rfl (by first | exact wr_i64 (by omega) | rfl)) (L_r (r_mi rfl) (L_nil ?_))
   refine ⟨⟨fx2, fx2, fx2, trivial⟩, _, ?_, i + 1, B ++ e x, rfl, ?_, rfl⟩
   · omega
   refine ⟨by omega, by rw [List.take_succ_eq_append_getElem hil, List.flatMap_append, hB, ← hx]; simp, hW9.nw Ch.au, hn9.trans Ch.au, WrC.nw hc9 Ch.au⟩
  ·
   refine W_exit ?_
   repeat (first | refine blk_hit ?_ | refine blk_miss rfl ?_)
   refine ret0 rfl  ?_
   refine ⟨rfl, ?_, WrC.nw hcw Ch.au⟩
   rw [show i = z.length by omega, List.take_length, List.append_assoc] at hB
   rw [← hB]; exact hWi.nw Ch.au
set_option maxHeartbeats 1000000 in
theorem list_M (base bw : Nat) (A : List UInt8) (z : List MM) (v : Value) (fid : Nat) (cap : List Value) (e : MM → List UInt8) (wB : World) (w0 : World) (hW : WrAt base w0 bw A) (hv : Sl wB v 7 z.length (cellsCM z)) (h1 : ∀ x ∈ z, (#[.string x.m.name, x.vp, .string x.m.result, .bool x.m.abs, .int .i64 x.m.locals, x.vc, x.vk] : Array Value).all (fun x => x.oneCell') = true) (hnB0 : Nw wB w0) (hbB : wB.heap.size ≤ base) (hb : base ≤ w0.heap.size) (hl : z.length ≤ 1000) (hAl : A.length + (varL z.length).length + (z.flatMap e).length ≤ 90000000) (hK : Knows Tryz.prog fid) (hcl : ∀ x ∈ z, ∀ W B, Nw wB W → WrC base w0 W → WrAt base W bw B → B.length + (e x).length ≤ 90000000 → Does Tryz.prog fid (x.v :: cap).toArray W (fun r w' => r = .tuple #[] ∧ WrAt base w' bw (B ++ e x) ∧ WrC base W w')) : Does Tryz.prog 81 #[.pointer (some ⟨bw, 0, none⟩), v, .func (.func fid) #[] cap.toArray] w0 (fun r w' => r = .tuple #[] ∧ WrAt base w' bw (A ++ (varL z.length ++ z.flatMap e)) ∧ WrC base w0 w') := by
  have hv0 := hv.nw hnB0
  refine fn_of (n := 24) (args := [.pointer (some ⟨bw, 0, none⟩), v, .func (.func fid) #[] cap.toArray]) Tryz.func81 rfl rfl rfl (W_seq (W_region (L_r (r_mp rfl) (L_r (r_mv) ?_))))
  refine L_r (r_lenSl Tryz.underlying24 (by conv => lhs; whnf) Sl.au) ?_
  refine L_r (r_conv Tryz.underlying3 Tryz.underlying80 rfl (by first | exact wr_u64 (by omega) | rfl)) ?_
  refine L_build1o [.int _ _] Tryz.underlying132 rfl rfl rfl (.plain rfl) rfl (by rfl) (by rfl) (by rfl) (fun v12 w1 ho12 eb1 hs1 c1 => ?_)
  refine L_call (.plain rfl) rfl rfl (r_call Tryz.func52 rfl rfl rfl (by rfl)) (wnum_walk base w0.heap.size bw A _ [z.length] _ (hW.nw Ch.au) (Ow.mono (ow_lit ho12) (by omega)) (by intro x hx; rw [List.mem_singleton] at hx; omega) (by show A.length + 10 * 1 ≤ _; omega) (by omega)) ?_
  rintro v13 w2 ⟨rfl, hW1, c2⟩
  have hz2 := c2.size
  have hW1' : WrAt base w2 bw (A ++ varL z.length) := by { have h := hW1; rw [List.flatMap_singleton] at h; exact h }
  have hco : WrC base w0 w1 := Ch.nw Ch.au
  have hc1 : WrC base w0 w2 := Tb.trans hco c2
  have hn1 : Nw wB w2 := Tb.nwB hbB (hnB0.trans (Ch.au : Nw w0 w1)) c2
  have hzl : (varL z.length).length ≤ 10 := varL_ten (by omega)
  have hv1 := hv.nw hn1
  refine L_nil (W_seq (W_region (L_r (r_mv) ?_)))
  refine L_r (r_lenSl Tryz.underlying24 (by conv => lhs; whnf) Sl.au) (L_r (r_mi rfl) (L_nil (W_block ?_)))
  refine W_loopF [2, 14, 15] (fun mz_ f W => ∃ (i : Nat) (B : List UInt8), f 16 = .int .i64 i ∧ (i ≤ z.length ∧ B = A ++ varL z.length ++ (z.take i).flatMap e ∧ WrAt base W bw B ∧ Nw wB W ∧ WrC base w0 W) ∧ mz_ = z.length - i) ?_ ?_
  ·
   refine ⟨_, 0, A ++ varL z.length, rfl, ?_, rfl⟩
   exact ⟨by omega, by simp, hW1'.nw Ch.au, hn1.trans Ch.au, WrC.nw hc1 Ch.au⟩
  rintro m0 g0 w3 ⟨i, B, hf16, hR0, rfl⟩
  refine W_as 16 hf16 rfl ?_
  clear hf16
  obtain ⟨hi, hB, hWi, hnB, hcw⟩ := hR0
  have hz := hcw.size
  have hvi := hv.nw hnB
  clear hv1 hv0
  refine W_seq (W_region (L_r (r_lss rfl rfl) (L_nil (W_seq ?_))))
  refine W_if rfl (fun h17 => ?_) (fun h17 => ?_)
  ·
   have hil : i < z.length := by omega
   have hfl := flat_lt e hil
   have hBl : B.length = A.length + (varL z.length).length + ((z.take i).flatMap e).length := by rw [hB, List.length_append, List.length_append]
   have hrow := cellsCM_row z i hil
   have hxm := List.getElem_mem hil
   obtain ⟨x, hx⟩ : ∃ x, x = z[i] := ⟨_, rfl⟩
   rw [← hx] at hrow hxm
   have h1x := h1 x hxm
   rw [← hx] at hfl
   refine W_skip (W_seq (W_block (W_seq (W_region ?_))))
   refine L_r (r_ix Tryz.underlying24 (show _ = some 7 from rfl) (by conv => lhs; whnf) rfl Sl.au) ?_
   refine L_r (r_loadSlrow (us := [.string x.m.name, x.vp, .string x.m.result, .bool x.m.abs, .int .i64 x.m.locals, x.vc, x.vk]) Tryz.underlying43 rfl rfl rfl rfl Sl.au (by exact hrow)) ?_
   refine L_new (.plain rfl) rfl rfl (r_alloca rfl) (fun w4 b7 hb7 eb4 hs4 c4 => ?_)
   refine L_storerow (.plain rfl) rfl rfl Bk.au (by first | rfl | (simp; done) | assumption) (by first | rfl | assumption) (by first | rfl | (simp [Value.oneCell']; done) | assumption) (fun w5 hb5 hs5 c5 => (L_nil (W_region (L_r (r_mv) ?_))))
   refine L_r (r_loadrow Tryz.underlying43 rfl rfl Bk.au (by first | rfl | assumption)) ?_
   refine L_call (.plain rfl) rfl rfl (r_callv hK rfl (by rfl)) (hcl x hxm _ B (hnB.trans Ch.au) (WrC.nw hcw Ch.au) (hWi.nw Ch.au) (by omega)) ?_
   rintro v22 w6 ⟨rfl, hW9, c6⟩
   have hz6 := c6.size
   have hc9 : WrC base w0 w6 := Tb.trans (WrC.nw hcw Ch.au) c6
   have hn9 : Nw wB w6 := Tb.nwB hbB (hnB.trans (Ch.au : Nw _ w5)) c6
   refine L_nil (W_region ?_)
   refine L_r (r_add rfl rfl (by first | exact wr_i64 (by omega) | rfl)) (L_r (r_mi rfl) (L_nil ?_))
   refine ⟨⟨fx2, fx2, fx2, trivial⟩, _, ?_, i + 1, B ++ e x, rfl, ?_, rfl⟩
   · omega
   refine ⟨by omega, by rw [List.take_succ_eq_append_getElem hil, List.flatMap_append, hB, ← hx]; simp, hW9.nw Ch.au, hn9.trans Ch.au, WrC.nw hc9 Ch.au⟩
  ·
   refine W_exit ?_
   repeat (first | refine blk_hit ?_ | refine blk_miss rfl ?_)
   refine ret0 rfl  ?_
   refine ⟨rfl, ?_, WrC.nw hcw Ch.au⟩
   rw [show i = z.length by omega, List.take_length, List.append_assoc] at hB
   rw [← hB]; exact hWi.nw Ch.au
set_option maxHeartbeats 1000000 in
theorem list_K (base bw : Nat) (A : List UInt8) (z : List Cat) (v : Value) (fid : Nat) (cap : List Value) (e : Cat → List UInt8) (wB : World) (w0 : World) (hW : WrAt base w0 bw A) (hv : Sl wB v 4 z.length (cellsCK z)) (hnB0 : Nw wB w0) (hbB : wB.heap.size ≤ base) (hb : base ≤ w0.heap.size) (hl : z.length ≤ 1000) (hAl : A.length + (varL z.length).length + (z.flatMap e).length ≤ 90000000) (hK : Knows Tryz.prog fid) (hcl : ∀ x ∈ z, ∀ W B, Nw wB W → WrC base w0 W → WrAt base W bw B → B.length + (e x).length ≤ 90000000 → Does Tryz.prog fid (x.v :: cap).toArray W (fun r w' => r = .tuple #[] ∧ WrAt base w' bw (B ++ e x) ∧ WrC base W w')) : Does Tryz.prog 84 #[.pointer (some ⟨bw, 0, none⟩), v, .func (.func fid) #[] cap.toArray] w0 (fun r w' => r = .tuple #[] ∧ WrAt base w' bw (A ++ (varL z.length ++ z.flatMap e)) ∧ WrC base w0 w') := by
  have hv0 := hv.nw hnB0
  refine fn_of (n := 24) (args := [.pointer (some ⟨bw, 0, none⟩), v, .func (.func fid) #[] cap.toArray]) Tryz.func84 rfl rfl rfl (W_seq (W_region (L_r (r_mp rfl) (L_r (r_mv) ?_))))
  refine L_r (r_lenSl Tryz.underlying41 (by conv => lhs; whnf) Sl.au) ?_
  refine L_r (r_conv Tryz.underlying3 Tryz.underlying80 rfl (by first | exact wr_u64 (by omega) | rfl)) ?_
  refine L_build1o [.int _ _] Tryz.underlying132 rfl rfl rfl (.plain rfl) rfl (by rfl) (by rfl) (by rfl) (fun v12 w1 ho12 eb1 hs1 c1 => ?_)
  refine L_call (.plain rfl) rfl rfl (r_call Tryz.func52 rfl rfl rfl (by rfl)) (wnum_walk base w0.heap.size bw A _ [z.length] _ (hW.nw Ch.au) (Ow.mono (ow_lit ho12) (by omega)) (by intro x hx; rw [List.mem_singleton] at hx; omega) (by show A.length + 10 * 1 ≤ _; omega) (by omega)) ?_
  rintro v13 w2 ⟨rfl, hW1, c2⟩
  have hz2 := c2.size
  have hW1' : WrAt base w2 bw (A ++ varL z.length) := by { have h := hW1; rw [List.flatMap_singleton] at h; exact h }
  have hco : WrC base w0 w1 := Ch.nw Ch.au
  have hc1 : WrC base w0 w2 := Tb.trans hco c2
  have hn1 : Nw wB w2 := Tb.nwB hbB (hnB0.trans (Ch.au : Nw w0 w1)) c2
  have hzl : (varL z.length).length ≤ 10 := varL_ten (by omega)
  have hv1 := hv.nw hn1
  refine L_nil (W_seq (W_region (L_r (r_mv) ?_)))
  refine L_r (r_lenSl Tryz.underlying41 (by conv => lhs; whnf) Sl.au) (L_r (r_mi rfl) (L_nil (W_block ?_)))
  refine W_loopF [2, 14, 15] (fun mz_ f W => ∃ (i : Nat) (B : List UInt8), f 16 = .int .i64 i ∧ (i ≤ z.length ∧ B = A ++ varL z.length ++ (z.take i).flatMap e ∧ WrAt base W bw B ∧ Nw wB W ∧ WrC base w0 W) ∧ mz_ = z.length - i) ?_ ?_
  ·
   refine ⟨_, 0, A ++ varL z.length, rfl, ?_, rfl⟩
   exact ⟨by omega, by simp, hW1'.nw Ch.au, hn1.trans Ch.au, WrC.nw hc1 Ch.au⟩
  rintro m0 g0 w3 ⟨i, B, hf16, hR0, rfl⟩
  refine W_as 16 hf16 rfl ?_
  clear hf16
  obtain ⟨hi, hB, hWi, hnB, hcw⟩ := hR0
  have hz := hcw.size
  have hvi := hv.nw hnB
  clear hv1 hv0
  refine W_seq (W_region (L_r (r_lss rfl rfl) (L_nil (W_seq ?_))))
  refine W_if rfl (fun h17 => ?_) (fun h17 => ?_)
  ·
   have hil : i < z.length := by omega
   have hfl := flat_lt e hil
   have hBl : B.length = A.length + (varL z.length).length + ((z.take i).flatMap e).length := by rw [hB, List.length_append, List.length_append]
   have hrow := cellsCK_row z i hil
   have hxm := List.getElem_mem hil
   obtain ⟨x, hx⟩ : ∃ x, x = z[i] := ⟨_, rfl⟩
   rw [← hx] at hrow hxm
   rw [← hx] at hfl
   refine W_skip (W_seq (W_block (W_seq (W_region ?_))))
   refine L_r (r_ix Tryz.underlying41 (show _ = some 4 from rfl) (by conv => lhs; whnf) rfl Sl.au) ?_
   refine L_r (r_loadSlrow (us := [.int .i64 x.fr, .int .i64 x.tt, .int .i64 x.aa, .string x.cls]) Tryz.underlying70 rfl rfl rfl rfl Sl.au (by exact hrow)) ?_
   refine L_new (.plain rfl) rfl rfl (r_alloca rfl) (fun w4 b7 hb7 eb4 hs4 c4 => ?_)
   refine L_storerow (.plain rfl) rfl rfl Bk.au (by first | rfl | (simp; done) | assumption) (by first | rfl | assumption) (by first | rfl | (simp [Value.oneCell']; done) | assumption) (fun w5 hb5 hs5 c5 => (L_nil (W_region (L_r (r_mv) ?_))))
   refine L_r (r_loadrow Tryz.underlying70 rfl rfl Bk.au (by first | rfl | assumption)) ?_
   refine L_call (.plain rfl) rfl rfl (r_callv hK rfl (by rfl)) (hcl x hxm _ B (hnB.trans Ch.au) (WrC.nw hcw Ch.au) (hWi.nw Ch.au) (by omega)) ?_
   rintro v22 w6 ⟨rfl, hW9, c6⟩
   have hz6 := c6.size
   have hc9 : WrC base w0 w6 := Tb.trans (WrC.nw hcw Ch.au) c6
   have hn9 : Nw wB w6 := Tb.nwB hbB (hnB.trans (Ch.au : Nw _ w5)) c6
   refine L_nil (W_region ?_)
   refine L_r (r_add rfl rfl (by first | exact wr_i64 (by omega) | rfl)) (L_r (r_mi rfl) (L_nil ?_))
   refine ⟨⟨fx2, fx2, fx2, trivial⟩, _, ?_, i + 1, B ++ e x, rfl, ?_, rfl⟩
   · omega
   refine ⟨by omega, by rw [List.take_succ_eq_append_getElem hil, List.flatMap_append, hB, ← hx]; simp, hW9.nw Ch.au, hn9.trans Ch.au, WrC.nw hc9 Ch.au⟩
  ·
   refine W_exit ?_
   repeat (first | refine blk_hit ?_ | refine blk_miss rfl ?_)
   refine ret0 rfl  ?_
   refine ⟨rfl, ?_, WrC.nw hcw Ch.au⟩
   rw [show i = z.length by omega, List.take_length, List.append_assoc] at hB
   rw [← hB]; exact hWi.nw Ch.au
end Go.Proofs.YthpknpfhpkkheaaGreatDoor

namespace Go.Proofs.YthpknpfhpkkheaaGreatDoor
open Go Go.RowKit
set_option linter.unusedVariables false
set_option linter.unusedSimpArgs false
set_option maxRecDepth 100000
instance (s : ByteArray) (z : List ByteArray) : Decidable (s ∈ z) := decidable_of_iff ((z.any fun y => decide (y = s)) = true) ⟨fun h => by
    obtain ⟨y, hy, he⟩ := List.any_eq_true.1 h
    rw [← of_decide_eq_true he]; exact hy, fun h => List.any_eq_true.2 ⟨s, h, decide_eq_true rfl⟩⟩
theorem textL_le {s : ByteArray} (h : s.size ≤ 10000) : (textL s).length ≤ 10010 := by
  unfold textL
  have := varL_ten (v := s.size) (by omega)
  rw [List.length_append, bs_length]; omega
theorem Bk.tb {w w' : World} {b base : Nat} {cs : Array Value} {t : TypeId} {ts : List TypeId} (h : Bk w b cs t) (c : Ch (Tb base w ts) w w') (ht : ts.contains t = false) : Bk w' b cs t := h.ch c (Tb.not_bk h ht)
theorem idxs_walk (v : Value) (z : List ByteArray) (s : ByteArray) (w0 : World) (hv : Sl w0 v 1 z.length (scells z)) (hl : z.length ≤ 1000000000000000) : Does Tryz.prog 114 #[v, .string s] w0 (fun r w' => ∃ k : Int, r = .int .i64 k ∧ ((k = -1 ∧ s ∉ z) ∨ (∃ i : Nat, k = i ∧ ∃ h : i < z.length, z[i] = s ∧ ∀ j (hj : j < z.length), j < i → z[j] ≠ s)) ∧ Nw w0 w') := by
  refine fn_of (n := 19) (args := [v, .string s]) Tryz.func114 rfl rfl rfl (W_seq (W_region (L_r (r_ai rfl) (L_nil (W_seq (W_seq (W_region (L_r (r_mv) ?_))))))))
  refine L_r (r_lenSl Tryz.underlying22 (by conv => lhs; whnf) Sl.au) (L_r (r_mi rfl) (L_nil (W_block ?_)))
  refine W_loopF [0, 1, 7] (fun mz_ f W => ∃ (i : Nat), f 8 = .int .i64 i ∧ (i ≤ z.length ∧ (∀ j (hj : j < z.length), j < i → z[j] ≠ s) ∧ Nw w0 W) ∧ mz_ = z.length - i) ?_ ?_
  ·
   refine ⟨_, 0, rfl, ?_, rfl⟩
   exact ⟨by omega, fun j hj hji => absurd hji (by omega), Ch.au⟩
  rintro m0 g0 w1 ⟨i, hf8, hR0, rfl⟩
  refine W_as 8 hf8 rfl ?_
  clear hf8
  obtain ⟨hi, hn, hnw⟩ := hR0
  have hz := hnw.size
  refine W_seq (W_region (L_r (r_lss rfl rfl) (L_nil (W_seq ?_))))
  refine W_if rfl (fun h9 => ?_) (fun h9 => ?_)
  ·
   have hil : i < z.length := by omega
   have hrow := scells_get z i hil
   refine W_skip (W_seq (W_block (W_seq (W_region (L_r (r_mi rfl) (L_r (r_ai rfl) (L_nil (W_seq ?_))))))))
   refine W_region (L_r (r_ms rfl) (L_r (r_mv) (L_r (r_mi rfl) ?_)))
   refine L_r (r_ix Tryz.underlying22 (show _ = some 1 from rfl) (by conv => lhs; whnf) rfl Sl.au) ?_
   refine L_r (r_loadSl rfl rfl Sl.au (by exact hrow)) (L_r (r_eqls rfl rfl) (L_nil ?_))
   refine W_if rfl (fun h16 => ?_) (fun h16 => ?_)
   ·
    refine W_seq (W_region (L_r (r_mi rfl) (L_r (r_ai rfl) (L_nil (W_ret ?_)))))
    refine ret1 (v := .int _ _) rfl rfl ?_
    first
    | exact ⟨_, rfl, .inr ⟨i, rfl, hil, h16.symm, hn⟩, Ch.au⟩
    | (refine ⟨_, rfl, .inl ⟨rfl, fun hm => ?_⟩, Ch.au⟩
       obtain ⟨j, hj, he⟩ := List.mem_iff_getElem.1 hm
       exact hn j hj (by omega) he)
   ·
    refine W_skip (W_region ?_)
    refine L_r (r_add rfl rfl (by first | exact wr_i64 (by omega) | rfl)) (L_r (r_mi rfl) (L_nil ?_))
    refine ⟨⟨fx2, fx2, fx2, trivial⟩, _, ?_, i + 1, rfl, ?_, rfl⟩
    · omega
    refine ⟨by omega, fun j hj hji => ?_, Ch.au⟩
    rcases Nat.lt_or_ge j i with h | h
    · exact hn j hj h
    ·
     have e : j = i := by omega
     subst e
     intro e; exact h16 e.symm
  ·
   refine W_exit ?_
   repeat (first | refine blk_hit ?_ | refine blk_miss rfl ?_)
   refine W_seq (W_region (L_r (r_ai rfl) (L_nil (W_ret ?_))))
   refine ret1 (v := .int _ _) rfl rfl ?_
   first
   | exact ⟨_, rfl, .inr ⟨i, rfl, hil, h16.symm, hn⟩, Ch.au⟩
   | (refine ⟨_, rfl, .inl ⟨rfl, fun hm => ?_⟩, Ch.au⟩
      obtain ⟨j, hj, he⟩ := List.mem_iff_getElem.1 hm
      exact hn j hj (by omega) he)
theorem conts_walk (v : Value) (z : List ByteArray) (s : ByteArray) (w0 : World) (hv : Sl w0 v 1 z.length (scells z)) (hl : z.length ≤ 1000000000000000) : Does Tryz.prog 53 #[v, .string s] w0 (fun r w' => r = .bool (decide (s ∈ z)) ∧ Nw w0 w') := by
  refine fn_of (n := 9) (args := [v, .string s]) Tryz.func53 rfl rfl rfl (W_seq (W_region (L_r (r_ab rfl) (L_nil (W_seq (W_region (L_r (r_mv) (L_r (r_ms rfl) ?_))))))))
  refine L_call (.plain rfl) rfl rfl (r_call Tryz.func114 rfl rfl rfl (by rfl)) (idxs_walk v z s _ Sl.au hl) ?_
  rintro v7 w1 ⟨k, rfl, hk, c1⟩
  have hz1 := c1.size
  refine L_r (r_geq rfl rfl) (L_r (r_ab rfl) (L_nil (W_ret ?_)))
  refine ret1 (v := .bool _) rfl rfl ?_
  refine ⟨?_, Ch.au⟩
  rcases hk with ⟨rfl, h⟩ | ⟨i, rfl, hi, h, _⟩
  · exact congrArg Value.bool (decide_eq_decide.2 ⟨fun h' => absurd h' (by decide), fun h' => absurd h' h⟩)
  · exact congrArg Value.bool (decide_eq_decide.2 ⟨fun _ => by rw [← h]; exact List.getElem_mem hi, fun _ => by omega⟩)
/-- Where an operator stands among all. -/
theorem op_pos {s : ByteArray} {k : Nat} (hk : opIx s = some k) (z : List ByteArray) (hz : z = opT.map (·.1)) : ∃ h : k < z.length, z[k] = s ∧ ∀ j (hj : j < z.length), j < k → z[j] ≠ s := by
  subst hz
  have h42 := opIx_lt hk
  obtain ⟨hkl, hks⟩ := opIx_some hk
  refine ⟨by rw [List.length_map]; exact hkl, by rw [List.getElem_map]; exact hks, fun j hj hjk e => ?_⟩
  rw [List.getElem_map] at e
  have hj42 : j < 42 := by omega
  have hjl : j < opT.length := by rw [List.length_map] at hj; exact hj
  have h1 := opIx_row hj42
  have e2 : (opT.getD j default).1 = opT[j].1 := by rw [List.getD_eq_getElem?_getD, List.getElem?_eq_getElem hjl]; rfl
  rw [e2, e, hk] at h1
  injection h1 with h1
  omega
theorem wr1_walk (base bw p : Nat) (A : List UInt8) (s : ByteArray) (w0 : World) (hp : Bk w0 p #[.pointer (some ⟨bw, 0, none⟩)] 55) (hW : WrAt base w0 bw A) (hb : base ≤ w0.heap.size) (hs : s.size ≤ 10000) (hA : A.length ≤ 90000000) : Does Tryz.prog 75 #[.string s, .pointer (some ⟨p, 0, none⟩)] w0 (fun r w' => r = .tuple #[] ∧ WrAt base w' bw (A ++ textL s) ∧ WrC base w0 w') := by
  refine fn_of (n := 7) (args := [.string s, .pointer (some ⟨p, 0, none⟩)]) Tryz.func75 rfl rfl rfl (W_region (L_r (r_lb rfl rfl) (L_r (r_ms rfl) ?_)))
  refine L_build1o [.string _] Tryz.underlying22 rfl rfl rfl (.plain rfl) rfl (by rfl) (by rfl) (by rfl) (fun v5 w1 ho5 eb1 hs1 c1 => ?_)
  refine L_call (.plain rfl) rfl rfl (r_call Tryz.func76 rfl rfl rfl (by rfl)) (wtext_walk base w0.heap.size bw A _ [s] _ (hW.nw Ch.au) (Ow.mono (ow_lit ho5) (by omega)) (by intro x hx; rw [List.mem_singleton] at hx; rw [hx]; exact hs) (by show 1 ≤ _; omega) (by omega) (by omega)) ?_
  rintro v6 w2 ⟨rfl, hW1, c2⟩
  have hz2 := c2.size
  refine L_nil ?_
  refine ret0 rfl  ?_
  refine ⟨rfl, ?_, Tb.trans (Ch.nw Ch.au) c2⟩
  rw [List.flatMap_singleton] at hW1; exact hW1
theorem wr2_walk (base bw p : Nat) (A : List UInt8) (x : CF) (w0 : World) (hp : Bk w0 p #[.pointer (some ⟨bw, 0, none⟩)] 55) (hW : WrAt base w0 bw A) (hb : base ≤ w0.heap.size) (h1 : x.name.size ≤ 10000) (h2 : x.kind.size ≤ 10000) (hA : A.length ≤ 90000000) : Does Tryz.prog 80 #[x.v, .pointer (some ⟨p, 0, none⟩)] w0 (fun r w' => r = .tuple #[] ∧ WrAt base w' bw (A ++ fldB x) ∧ WrC base w0 w') := by
  refine fn_of (n := 15) (args := [x.v, .pointer (some ⟨p, 0, none⟩)]) Tryz.func80 rfl rfl rfl (W_seq (W_region ?_))
  refine L_new (.plain rfl) rfl rfl (r_boxa rfl) (fun w1 b2 hb2 eb1 hs1 c1 => (L_nil (W_seq (W_region (L_r (r_lb rfl rfl) ?_)))))
  refine L_r (r_fieldb Tryz.underlying52 rfl (show _ = some 1 from rfl) rfl rfl (show _ = 0 from rfl)) (L_r (r_lb rfl rfl) ?_)
  refine L_r (r_fieldb Tryz.underlying52 rfl (show _ = some 1 from rfl) rfl rfl (show _ = 1 from rfl)) (L_r (r_lb rfl rfl) ?_)
  refine L_build1o [.string _, .string _] Tryz.underlying22 rfl rfl rfl (.plain rfl) rfl (by rfl) (by rfl) (by rfl) (fun v8 w2 ho8 eb2 hs2 c2 => ?_)
  refine L_call (.plain rfl) rfl rfl (r_call Tryz.func76 rfl rfl rfl (by rfl)) (wtext_walk base w0.heap.size bw A _ [x.name, x.kind] _ (hW.nw Ch.au) (Ow.mono (ow_lit ho8) (by omega)) (by intro y hy; simp at hy; rcases hy with rfl | rfl <;> assumption) (by show 2 ≤ _; omega) (by omega) (by omega)) ?_
  rintro v9 w3 ⟨rfl, hW1, c3⟩
  have hz3 := c3.size
  have hW1' : WrAt base w3 bw (A ++ (textL x.name ++ textL x.kind)) := by { have h := hW1; simp only [List.flatMap_cons, List.flatMap_nil, List.append_nil] at h; exact h }
  have hl1 : (textL x.name).length ≤ 10010 := textL_le h1
  have hl2 : (textL x.kind).length ≤ 10010 := textL_le h2
  have hp1 : Bk w3 p #[.pointer (some ⟨bw, 0, none⟩)] 55 := Bk.tb Bk.au c3 (by decide)
  have hb2 : Bk w3 b2 #[.string x.name, .string x.kind, .bool x.tr] 52 := Bk.tb Bk.au c3 (by decide)
  have hc1 : WrC base w0 w3 := Tb.trans (Ch.nw (Ch.au : Nw w0 w2)) c3
  refine L_nil (W_region (L_r (r_lb rfl rfl) ?_))
  refine L_r (r_fieldb Tryz.underlying52 rfl (show _ = some 1 from rfl) rfl rfl (show _ = 2 from rfl)) (L_r (r_lb rfl rfl) ?_)
  refine L_build1o [.bool _] Tryz.underlying145 rfl rfl rfl (.plain rfl) rfl (by rfl) (by rfl) (by rfl) (fun v13 w4 ho13 eb4 hs4 c4 => ?_)
  refine L_call (.plain rfl) rfl rfl (r_call Tryz.func78 rfl rfl rfl (by rfl)) (wflag_walk base w0.heap.size bw (A ++ (textL x.name ++ textL x.kind)) _ [x.tr] _ (hW1'.nw Ch.au) (Ow.mono (ow_lit ho13) (by omega)) (by rw [List.length_append, List.length_append]; show _ + 1 ≤ _; omega) (by omega)) ?_
  rintro v14 w5 ⟨rfl, hW2, c5⟩
  have hz5 := c5.size
  have hc2 : WrC base w0 w5 := Tb.trans (WrC.nw hc1 Ch.au) c5
  refine L_nil ?_
  refine ret0 rfl  ?_
  refine ⟨rfl, ?_, hc2⟩
  rw [List.flatMap_singleton] at hW2
  unfold fldB; rw [← List.append_assoc, ← List.append_assoc]; rw [← List.append_assoc] at hW2; exact hW2
theorem wr31_walk (base bw p n : Nat) (A : List UInt8) (x : Cat) (w0 : World) (hp : Bk w0 p #[.pointer (some ⟨bw, 0, none⟩)] 55) (hW : WrAt base w0 bw A) (hb : base ≤ w0.heap.size) (hx : catP n x) (hn : n ≤ 1000) (hA : A.length ≤ 90000000) : Does Tryz.prog 85 #[x.v, .pointer (some ⟨p, 0, none⟩)] w0 (fun r w' => r = .tuple #[] ∧ WrAt base w' bw (A ++ catB x) ∧ WrC base w0 w') := by
  obtain ⟨q1, q2, q3, q4, q5, q6⟩ := hx
  have hsz := q6.1.2.1
  have e13 : [Value.int .u64 x.fr, Value.int .u64 x.tt, Value.int .u64 x.aa] = ucells [x.fr.toNat, x.tt.toNat, x.aa.toNat] := by
    show _ = [Value.int .u64 ((x.fr.toNat : Nat) : Int), Value.int .u64 ((x.tt.toNat : Nat) : Int), Value.int .u64 ((x.aa.toNat : Nat) : Int)]
    rw [Int.toNat_of_nonneg q1, Int.toNat_of_nonneg (by omega), Int.toNat_of_nonneg q4]
  have hl1 : (varL x.fr.toNat).length ≤ 10 := varL_ten (by omega)
  have hl2 : (varL x.tt.toNat).length ≤ 10 := varL_ten (by omega)
  have hl3 : (varL x.aa.toNat).length ≤ 10 := varL_ten (by omega)
  refine fn_of (n := 20) (args := [x.v, .pointer (some ⟨p, 0, none⟩)]) Tryz.func85 rfl rfl rfl (W_seq (W_region ?_))
  refine L_new (.plain rfl) rfl rfl (r_boxa rfl) (fun w1 b2 hb2 eb1 hs1 c1 => (L_nil (W_seq (W_region (L_r (r_lb rfl rfl) ?_)))))
  refine L_r (r_fieldb Tryz.underlying70 rfl (show _ = some 1 from rfl) rfl rfl (show _ = 0 from rfl)) (L_r (r_lb rfl rfl) ?_)
  refine L_r (r_conv Tryz.underlying3 Tryz.underlying80 rfl (by first | exact wr_u64 (by omega) | rfl)) ?_
  refine L_r (r_fieldb Tryz.underlying70 rfl (show _ = some 1 from rfl) rfl rfl (show _ = 1 from rfl)) (L_r (r_lb rfl rfl) ?_)
  refine L_r (r_conv Tryz.underlying3 Tryz.underlying80 rfl (by first | exact wr_u64 (by omega) | rfl)) ?_
  refine L_r (r_fieldb Tryz.underlying70 rfl (show _ = some 1 from rfl) rfl rfl (show _ = 2 from rfl)) (L_r (r_lb rfl rfl) ?_)
  refine L_r (r_conv Tryz.underlying3 Tryz.underlying80 rfl (by first | exact wr_u64 (by omega) | rfl)) ?_
  refine L_build1o [.int _ _, .int _ _, .int _ _] Tryz.underlying132 rfl rfl rfl (.plain rfl) rfl (by rfl) (by rfl) (by rfl) (fun v13 w2 ho13 eb2 hs2 c2 => ?_)
  rw [e13] at ho13
  refine L_call (.plain rfl) rfl rfl (r_call Tryz.func52 rfl rfl rfl (by rfl)) (wnum_walk base w0.heap.size bw A _ [x.fr.toNat, x.tt.toNat, x.aa.toNat] _ (hW.nw Ch.au) (Ow.mono (ow_lit ho13) (by omega)) (by intro y hy; simp at hy; omega) (by show A.length + 10 * 3 ≤ _; omega) (by omega)) ?_
  rintro v14 w3 ⟨rfl, hW1, c3⟩
  have hz3 := c3.size
  have hW1' : WrAt base w3 bw (A ++ (varL x.fr.toNat ++ (varL x.tt.toNat ++ varL x.aa.toNat))) := by { have h := hW1; simp only [List.flatMap_cons, List.flatMap_nil, List.append_nil] at h; exact h }
  have hp1 : Bk w3 p #[.pointer (some ⟨bw, 0, none⟩)] 55 := Bk.tb Bk.au c3 (by decide)
  have hb2 : Bk w3 b2 #[.int .i64 x.fr, .int .i64 x.tt, .int .i64 x.aa, .string x.cls] 70 := Bk.tb Bk.au c3 (by decide)
  have hc1 : WrC base w0 w3 := Tb.trans (Ch.nw (Ch.au : Nw w0 w2)) c3
  refine L_nil (W_region (L_r (r_lb rfl rfl) ?_))
  refine L_r (r_fieldb Tryz.underlying70 rfl (show _ = some 1 from rfl) rfl rfl (show _ = 3 from rfl)) (L_r (r_lb rfl rfl) ?_)
  refine L_build1o [.string _] Tryz.underlying22 rfl rfl rfl (.plain rfl) rfl (by rfl) (by rfl) (by rfl) (fun v18 w4 ho18 eb4 hs4 c4 => ?_)
  refine L_call (.plain rfl) rfl rfl (r_call Tryz.func76 rfl rfl rfl (by rfl)) (wtext_walk base w0.heap.size bw (A ++ (varL x.fr.toNat ++ (varL x.tt.toNat ++ varL x.aa.toNat))) _ [x.cls] _ (hW1'.nw Ch.au) (Ow.mono (ow_lit ho18) (by omega)) (by intro y hy; rw [List.mem_singleton] at hy; rw [hy]; omega) (by show 1 ≤ _; omega) (by rw [List.length_append, List.length_append, List.length_append]; omega) (by omega)) ?_
  rintro v19 w5 ⟨rfl, hW2, c5⟩
  have hz5 := c5.size
  have hc2 : WrC base w0 w5 := Tb.trans (WrC.nw hc1 Ch.au) c5
  refine L_nil ?_
  refine ret0 rfl  ?_
  refine ⟨rfl, ?_, hc2⟩
  rw [List.flatMap_singleton] at hW2
  unfold catB; simp only [List.append_assoc] at hW2 ⊢; exact hW2
end Go.Proofs.YthpknpfhpkkheaaGreatDoor

namespace Go.Proofs.YthpknpfhpkkheaaGreatDoor
open Go Go.RowKit
set_option linter.unusedVariables false
set_option linter.unusedSimpArgs false
set_option maxRecDepth 100000
theorem nmL_scells : nmL = scells (opT.map (·.1)) := by unfold nmL scells; rw [List.map_map]; rfl
theorem idx_op (v : Value) (s : ByteArray) (k : Nat) (w0 : World) (hk : opIx s = some k) (hv : Sl w0 v 1 42 nmL) : Does Tryz.prog 114 #[v, .string s] w0 (fun r w' => r = .int .i64 (k : Int) ∧ Nw w0 w') := by
  obtain ⟨z, hz⟩ : ∃ z, z = opT.map (·.1) := ⟨_, rfl⟩
  have hl : z.length = 42 := by rw [hz, List.length_map, opT_len]
  rw [nmL_scells, ← hz] at hv
  obtain ⟨h1, h2, h3⟩ := op_pos hk z hz
  refine (idxs_walk v z s w0 (by rw [hl]; exact hv) (by omega)).mono ?_
  rintro r w' ⟨q, rfl, hq, c⟩
  refine ⟨?_, c⟩
  rcases hq with ⟨_, h⟩ | ⟨i, rfl, hi, h4, h5⟩
  · exact absurd (h2 ▸ List.getElem_mem h1) h
  ·
   have : i = k := by
     rcases Nat.lt_trichotomy i k with h | h | h
     · exact absurd h4 (h3 i hi h)
     · exact h
     · exact absurd h2 (h5 k h1 h)
   rw [this]
theorem Gv.tb {base g : Nat} {w w' : World} {ts : List TypeId} (h : Gv g w) (hg : g ≤ base) (hb : g ≤ w.heap.size) (c : Ch (Tb base w ts) w w') : Gv g w' := h.ch c hb fun i hi => Nat.le_trans hg hi.1
set_option maxHeartbeats 1000000 in
theorem instr_walk (g base bw : Nat) (A : List UInt8) (x : Ins) (w0 : World) (hG : Gv g w0) (hg : g ≤ base) (hW : WrAt base w0 bw A) (hb : base ≤ w0.heap.size) (hok : checkI x = 0) (hn : -9223372036854775808 ≤ x.n ∧ x.n ≤ 9223372036854775807) (hs : x.s.size ≤ 1000) (hA : A.length ≤ 90000000) : Does Tryz.prog 83 #[.pointer (some ⟨bw, 0, none⟩), x.v] w0 (fun r w' => r = .tuple #[] ∧ WrAt base w' bw (A ++ insB x) ∧ WrC base w0 w') := by
  obtain ⟨k, o, hk, hko, ho, hon, ht, hone, _, _, _⟩ := ok_parts hok
  have htk := fun W (hGW : Gv g W) (hbW : g ≤ W.heap.size) => takes_walk g x.op W hGW hbW
  rw [ht] at htk
  rw [insB_of hko, ho]
  have hkl : (varL k).length ≤ 10 := varL_ten (by omega)
  have hzl : (varL (zigI x.n).toNat).length ≤ 10 := varL_ten (zig_le hn)
  unfold insT
  obtain ⟨on, ta, tb⟩ := o
  simp only at htk ⊢
  refine fn_of (n := 34) (args := [.pointer (some ⟨bw, 0, none⟩), x.v]) Tryz.func83 rfl rfl rfl (W_seq (W_region ?_))
  refine L_new (.plain rfl) rfl rfl (r_boxa rfl) (fun w1 b3 hb3 eb1 hs1 c1 => (L_nil (W_seq ?_)))
  refine W_draw (fun W => Bk W b3 #[.string x.op, .int .i64 x.n, .string x.s] 54) 8 (m := 8) (by kernel_rfl) rfl (fun w2 c2 hs2 => ?_)
  refine held Bk.au (fun hS => ?_)
  refine D_t 0 rfl (fun W hW => r_mp rfl) ?_
  refine D_t 2 rfl (fun W hW => r_fieldb Tryz.underlying54 rfl (show _ = some 1 from rfl) rfl rfl (show _ = 0 from rfl)) ?_
  refine D_t 3 rfl (fun W hW => r_loadb rfl rfl (by exact hW) (by first | assumption | (conv => lhs; simp only [List.getElem?_toArray, List.getElem?_cons_succ, List.getElem?_cons_zero]))) ?_
  refine D_ev 1 (by kernel_rfl) rfl ?_
  refine L_call (.plain rfl) rfl rfl (r_call Tryz.func137 rfl rfl rfl (by rfl)) (ops_walk g _ (hG.nw Ch.au (by omega)) (by omega)) ?_
  rintro v8 w3 ⟨_, rfl, ho8, c3⟩
  have hz3 := c3.size
  refine L_nil ?_
  refine heldK Bk.au (fun hS => ?_)
  refine D_ev 4 (by kernel_rfl) rfl ?_
  refine L_call (.plain rfl) rfl rfl (r_call Tryz.func114 rfl rfl rfl (by rfl)) (idx_op v8 x.op k _ hko Sl.au) ?_
  rintro v11 w4 ⟨rfl, c4⟩
  have hz4 := c4.size
  refine L_nil ?_
  refine heldK Bk.au (fun hS => ?_)
  refine D_t 5 rfl (fun W hW => r_conv Tryz.underlying3 Tryz.underlying80 rfl (by first | exact wr_u64 (by omega) | rfl)) ?_
  refine D_ev 6 (by kernel_rfl) rfl ?_
  refine L_build1o [.int _ _] Tryz.underlying132 rfl rfl rfl (.plain rfl) rfl (by rfl) (by rfl) (by rfl) (fun v13 w5 ho13 eb5 hs5 c5 => (L_nil ?_))
  refine heldK Bk.au (fun hS => ?_)
  refine D_ev 7 (by kernel_rfl) rfl ?_
  refine L_call (.plain rfl) rfl rfl (r_call Tryz.func52 rfl rfl rfl (by rfl)) (wnum_walk base w0.heap.size bw A _ [k] _ (hW.nw Ch.au) (Ow.mono (ow_lit ho13) (by omega)) (by intro y hy; rw [List.mem_singleton] at hy; omega) (by show A.length + 10 * 1 ≤ _; omega) (by omega)) ?_
  rintro v14 w6 ⟨rfl, hW1, c6⟩
  have hz6 := c6.size
  have hW1' : WrAt base w6 bw (A ++ varL k) := by { have h := hW1; rw [List.flatMap_singleton] at h; exact h }
  have hb3' : Bk w6 b3 #[.string x.op, .int .i64 x.n, .string x.s] 54 := Bk.tb Bk.au c6 (by decide)
  have hG1 : Gv g w6 := (hG.nw (Ch.au : Nw w0 w5) (by omega)).tb hg (by omega) c6
  have hc1 : WrC base w0 w6 := Tb.trans (Ch.nw (Ch.au : Nw w0 w5)) c6
  refine L_nil ?_
  refine heldK Bk.au (fun hS => ?_)
  refine D_done (by kernel_rfl) (W_seq (W_region ?_))
  refine L_r (r_fieldb Tryz.underlying54 rfl (show _ = some 1 from rfl) rfl rfl (show _ = 0 from rfl)) (L_r (r_lb rfl rfl) ?_)
  refine L_call (.plain rfl) rfl rfl (r_call Tryz.func138 rfl rfl rfl (by rfl)) (htk _ (hG1.nw Ch.au (by omega)) (by omega)) ?_
  rintro v18 w7 ⟨rfl, c7⟩
  have hz7 := c7.size
  refine L_r (r_mv) (L_r (r_ext3_0 rfl) (L_r (r_ext3_1 rfl) (L_r (r_ext3_2 rfl) (L_r (r_ab rfl) (L_r (r_ab rfl) (L_r (r_ab rfl) (L_nil (W_seq ?_))))))))
  refine W_seq (W_region (L_r (r_mb rfl) (L_nil ?_)))
  refine W_endF [0, 3, 5] (fun f W => True ∧ (WrAt base W bw (A ++ (varL k ++ (if ta then varL (zigI x.n).toNat else []))) ∧ Bk W b3 #[.string x.op, .int .i64 x.n, .string x.s] 54 ∧ WrC base w0 W)) ?_ ?_
  ·
   refine W_bool rfl (fun h22 => ?_) (fun h22 => ?_)
   ·
    refine W_region (L_r (r_mp rfl) ?_)
    refine L_r (r_fieldb Tryz.underlying54 rfl (show _ = some 1 from rfl) rfl rfl (show _ = 1 from rfl)) (L_r (r_lb rfl rfl) ?_)
    refine L_build1o [.int _ _] Tryz.underlying172 rfl rfl rfl (.plain rfl) rfl (by rfl) (by rfl) (by rfl) (fun v26 w8 ho26 eb8 hs8 c8 => ?_)
    refine L_call (.plain rfl) rfl rfl (r_call Tryz.func139 rfl rfl rfl (by rfl)) (wint_walk base w0.heap.size bw (A ++ varL k) _ [x.n] _ (hW1'.nw Ch.au) (Ow.mono (ow_lit ho26) (by omega)) (by intro y hy; rw [List.mem_singleton] at hy; rw [hy]; exact hn) (by rw [List.length_append]; show _ + 10 * 1 ≤ _; omega) (by omega)) ?_
    rintro v27 w9 ⟨rfl, hW2, c9⟩
    have hz9 := c9.size
    have hb4 : Bk w9 b3 #[.string x.op, .int .i64 x.n, .string x.s] 54 := Bk.tb Bk.au c9 (by decide)
    have hc2 : WrC base w0 w9 := Tb.trans (WrC.nw hc1 Ch.au) c9
    refine L_nil ?_
    refine ⟨⟨fx2, fx2, fx2, trivial⟩, trivial, ?_⟩
    first
    | (have e : ta = true := h22
       rw [if_pos e, ← List.append_assoc]; exact ⟨by rw [List.flatMap_singleton] at hW2; exact hW2, hb4, hc2⟩)
    | (have e : ¬ ta = true := by rw [show ta = false from h22]; decide
       rw [if_neg e, List.append_nil]; exact ⟨hW1'.nw Ch.au, Bk.au, WrC.nw hc1 Ch.au⟩)
   ·
    refine W_skip ?_
    refine ⟨⟨fx2, fx2, fx2, trivial⟩, trivial, ?_⟩
    first
    | (have e : ta = true := h22
       rw [if_pos e, ← List.append_assoc]; exact ⟨by rw [List.flatMap_singleton] at hW2; exact hW2, hb4, hc2⟩)
    | (have e : ¬ ta = true := by rw [show ta = false from h22]; decide
       rw [if_neg e, List.append_nil]; exact ⟨hW1'.nw Ch.au, Bk.au, WrC.nw hc1 Ch.au⟩)
  rintro gct22 w10 ⟨-, hCt22⟩
  obtain ⟨hW3, hb5, hc3⟩ := hCt22
  have hz3 := hc3.size
  refine W_seq ?_
  have hBl : (A ++ (varL k ++ (if ta then varL (zigI x.n).toNat else []))).length ≤ A.length + 20 := by
    rw [List.length_append, List.length_append]
    have : (if ta then varL (zigI x.n).toNat else []).length ≤ 10 := by { split; exact hzl; exact Nat.zero_le _ }
    omega
  generalize hBe : A ++ (varL k ++ (if ta then varL (zigI x.n).toNat else [])) = B at hW3 hBl
  refine W_region (L_r (r_mb rfl) (L_nil ?_))
  refine W_bool rfl (fun h28 => ?_) (fun h28 => ?_)
  ·
   refine W_region (L_r (r_mp rfl) ?_)
   refine L_r (r_fieldb Tryz.underlying54 rfl (show _ = some 1 from rfl) rfl rfl (show _ = 2 from rfl)) (L_r (r_lb rfl rfl) ?_)
   refine L_build1o [.string _] Tryz.underlying22 rfl rfl rfl (.plain rfl) rfl (by rfl) (by rfl) (by rfl) (fun v32 w11 ho32 eb11 hs11 c11 => ?_)
   refine L_call (.plain rfl) rfl rfl (r_call Tryz.func76 rfl rfl rfl (by rfl)) (wtext_walk base w0.heap.size bw B _ [x.s] _ (hW3.nw Ch.au) (Ow.mono (ow_lit ho32) (by omega)) (by intro y hy; rw [List.mem_singleton] at hy; rw [hy]; omega) (by show 1 ≤ _; omega) (by omega) (by omega)) ?_
   rintro v33 w12 ⟨rfl, hW4, c12⟩
   have hz12 := c12.size
   have hc4 : WrC base w0 w12 := Tb.trans (WrC.nw hc3 Ch.au) c12
   refine L_nil ?_
   refine ret0 rfl  ?_
   first
   | (have e : tb = true := h28
      refine ⟨rfl, ?_, hc4⟩
      rw [if_pos e]
      rw [List.flatMap_singleton, ← hBe] at hW4
      simp only [List.append_assoc] at hW4 ⊢
      exact hW4)
   | (have e : ¬ tb = true := by rw [show tb = false from h28]; decide
      refine ⟨rfl, ?_, WrC.nw hc3 Ch.au⟩
      rw [if_neg e, List.append_nil, hBe]
      exact hW3.nw Ch.au)
  ·
   refine W_skip ?_
   refine ret0 rfl  ?_
   first
   | (have e : tb = true := h28
      refine ⟨rfl, ?_, hc4⟩
      rw [if_pos e]
      rw [List.flatMap_singleton, ← hBe] at hW4
      simp only [List.append_assoc] at hW4 ⊢
      exact hW4)
   | (have e : ¬ tb = true := by rw [show tb = false from h28]; decide
      refine ⟨rfl, ?_, WrC.nw hc3 Ch.au⟩
      rw [if_neg e, List.append_nil, hBe]
      exact hW3.nw Ch.au)
end Go.Proofs.YthpknpfhpkkheaaGreatDoor

namespace Go.Proofs.YthpknpfhpkkheaaGreatDoor
open Go Go.RowKit
set_option linter.unusedVariables false
set_option linter.unusedSimpArgs false
set_option maxRecDepth 100000
/-- Where the writing stands. -/
structure Wst (base bw g : Nat) (wB w0 w : World) (A : List UInt8) : Prop where
  hW : WrAt base w bw A
  hG : Gv g w
  hc : WrC base w0 w
  hB : Nw wB w
  gb : g ≤ base
  bb : base ≤ w0.heap.size
  bB : wB.heap.size ≤ base
section
variable {T : Type} {f : T → List UInt8} {x : T} {base bw g : Nat} {wB w0 w w' : World} {A A' : List UInt8}
theorem Wst.nw (h : Wst base bw g wB w0 w A) (c : Nw w w') : Wst base bw g wB w0 w' A := ⟨h.hW.nw c, h.hG.nw c (by have := h.hc.size; have := h.gb; have := h.bb; omega), WrC.nw h.hc c, h.hB.trans c, h.gb, h.bb, h.bB⟩
theorem Wst.wr (h : Wst base bw g wB w0 w A) (hW : WrAt base w' bw A') (c : WrC base w w') : Wst base bw g wB w0 w' A' := ⟨hW, h.hG.tb h.gb (by have := h.hc.size; have := h.gb; have := h.bb; omega) c, Tb.trans h.hc c, Tb.nwB h.bB h.hB c, h.gb, h.bb, h.bB⟩
theorem Wst.le (h : Wst base bw g wB w0 w A) : base ≤ w.heap.size := Nat.le_trans h.bb h.hc.size
theorem Wst.one (h : Wst base bw g wB w0 w A) (hW : WrAt base w' bw (A ++ [x].flatMap f)) (c : WrC base w w') : Wst base bw g wB w0 w' (A ++ f x) := h.wr (by rw [List.flatMap_singleton] at hW; exact hW) c
end
theorem name_le {s : ByteArray} (h : nameP s) : s.size ≤ 10000 := by have := h.2.1; omega
theorem right_le {s : ByteArray} (h : rightK s) : s.size ≤ 10000 := by have := (right_good h).1; omega
set_option maxHeartbeats 4000000 in
theorem wr3_walk (g base bw p q : Nat) (A : List UInt8) (x : MM) (wB : World) (w0 : World) (hp : Bk w0 p #[.pointer (some ⟨bw, 0, none⟩)] 55) (hq : Bk w0 q #[.func (.func 75) #[] #[.pointer (some ⟨p, 0, none⟩)]] 94) (S0 : Wst base bw g wB w0 w0 A) (hx : x.ok wB) (hm : goodM x.m) (hA : A.length + (mthB x.m).length ≤ 90000000) : Does Tryz.prog 82 #[x.v, .pointer (some ⟨p, 0, none⟩), .pointer (some ⟨q, 0, none⟩)] w0 (fun r w' => r = .tuple #[] ∧ WrAt base w' bw (A ++ mthB x.m) ∧ WrC base w0 w') := by
  have h1x := hx.one
  have hbs := S0.le
  obtain ⟨⟨p1, p2, p3, p4⟩, hfew, hins⟩ := hm
  unfold manyM at hfew
  have hres : x.m.result.size ≤ 10000 := by { rcases p3 with h | h; (rw [h]; exact Nat.zero_le _); exact right_le h }
  have hlen : A.length + ((textL x.m.name).length + ((txtsL x.m.params).length + ((textL x.m.result).length + ((flagL x.m.abs).length + (bodyB x.m).length)))) ≤ 90000000 := by { have h := hA; unfold mthB at h; simp only [List.length_append] at h; omega }
  have hml : mthB x.m = textL x.m.name ++ (txtsL x.m.params ++ (textL x.m.result ++ (flagL x.m.abs ++ bodyB x.m))) := rfl
  have htl : (txtsL x.m.params).length = (varL x.m.params.length).length + (x.m.params.flatMap textL).length := by { unfold txtsL; rw [List.length_append] }
  have hvp : (varL x.m.params.length).length ≤ 10 := varL_ten (by omega)
  have hvp1 := varL_pos x.m.params.length
  refine fn_of (n := 54) (args := [x.v, .pointer (some ⟨p, 0, none⟩), .pointer (some ⟨q, 0, none⟩)]) Tryz.func82 rfl rfl rfl (W_seq (W_region ?_))
  refine L_new (.plain rfl) rfl rfl (r_boxa rfl) (fun w1 b3 hb3 eb1 hs1 c1 => (L_nil (W_seq (W_region (L_r (r_lb rfl rfl) ?_)))))
  refine L_r (r_fieldb Tryz.underlying43 rfl (show _ = some 1 from rfl) rfl rfl (show _ = 0 from rfl)) (L_r (r_lb rfl rfl) ?_)
  refine L_build1o [.string _] Tryz.underlying22 rfl rfl rfl (.plain rfl) rfl (by rfl) (by rfl) (by rfl) (fun v9 w2 ho9 eb2 hs2 c2 => ?_)
  refine L_call (.plain rfl) rfl rfl (r_call Tryz.func76 rfl rfl rfl (by rfl)) (wtext_walk base w0.heap.size bw A _ [x.m.name] _ (S0.nw Ch.au).hW (Ow.mono (ow_lit ho9) (by omega)) (by intro y hy; rw [List.mem_singleton] at hy; rw [hy]; exact name_le p1.1) (by show 1 ≤ _; omega) (by omega) (by omega)) ?_
  rintro v10 w3 ⟨rfl, hW1, c3⟩
  have hz3 := c3.size
  have S1 := (S0.nw (Ch.au : Nw w0 w2)).one hW1 c3
  have hbs1 := S1.le
  refine L_nil (W_seq (W_region (L_r (r_lb rfl rfl) ?_)))
  refine L_r (r_fieldb Tryz.underlying43 rfl (show _ = some 1 from rfl) rfl rfl (show _ = 1 from rfl)) (L_r (r_lb rfl rfl) (L_r (r_lb rfl rfl) ?_))
  refine L_call (.plain rfl) rfl rfl (r_call Tryz.func77 rfl rfl rfl (by rfl)) (list_S base bw (A ++ textL x.m.name) x.m.params x.vp 75 [.pointer (some ⟨p, 0, none⟩)] textL wB _ (S1.nw Ch.au).hW hx.p (S1.nw Ch.au).hB S1.bB (by omega) (by omega) (by rw [List.length_append]; omega) ⟨_, _, Tryz.func75, rfl, rfl⟩ (fun s hs W B hBW hWr hWa hln => wr1_walk base bw p B s W (Bk.tb Bk.au hWr (by decide)) hWa (Nat.le_trans (by omega) hWr.size) (right_le (p2 s hs)) (by omega))) ?_
  rintro v15 w4 ⟨rfl, hW2, c4⟩
  have hz4 := c4.size
  have S2 := (S1.nw (Ch.au : Nw _ w3)).wr hW2 c4
  have hbs2 := S2.le
  refine L_nil (W_seq (W_region (L_r (r_lb rfl rfl) ?_)))
  refine L_r (r_fieldb Tryz.underlying43 rfl (show _ = some 1 from rfl) rfl rfl (show _ = 2 from rfl)) (L_r (r_lb rfl rfl) ?_)
  refine L_build1o [.string _] Tryz.underlying22 rfl rfl rfl (.plain rfl) rfl (by rfl) (by rfl) (by rfl) (fun v19 w5 ho19 eb5 hs5 c5 => ?_)
  refine L_call (.plain rfl) rfl rfl (r_call Tryz.func76 rfl rfl rfl (by rfl)) (wtext_walk base w0.heap.size bw _ _ [x.m.result] _ (S2.nw Ch.au).hW (Ow.mono (ow_lit ho19) (by omega)) (by intro y hy; rw [List.mem_singleton] at hy; rw [hy]; exact hres) (by show 1 ≤ _; omega) (by simp only [List.length_append]; omega) (by omega)) ?_
  rintro v20 w6 ⟨rfl, hW3, c6⟩
  have hz6 := c6.size
  have S3 := (S2.nw (Ch.au : Nw _ w5)).one hW3 c6
  have hbs3 := S3.le
  refine L_nil (W_seq (W_region (L_r (r_lb rfl rfl) ?_)))
  refine L_r (r_fieldb Tryz.underlying43 rfl (show _ = some 1 from rfl) rfl rfl (show _ = 3 from rfl)) (L_r (r_lb rfl rfl) ?_)
  refine L_build1o [.bool _] Tryz.underlying145 rfl rfl rfl (.plain rfl) rfl (by rfl) (by rfl) (by rfl) (fun v24 w7 ho24 eb7 hs7 c7 => ?_)
  refine L_call (.plain rfl) rfl rfl (r_call Tryz.func78 rfl rfl rfl (by rfl)) (wflag_walk base w0.heap.size bw _ _ [x.m.abs] _ (S3.nw Ch.au).hW (Ow.mono (ow_lit ho24) (by omega)) (by simp only [List.length_append]; show _ + 1 ≤ _; omega) (by omega)) ?_
  rintro v25 w8 ⟨rfl, hW4, c8⟩
  have hz8 := c8.size
  have S4 := (S3.nw (Ch.au : Nw _ w7)).one hW4 c8
  have hbs4 := S4.le
  refine L_nil (W_seq (W_seq (W_region ?_)))
  refine L_r (r_fieldb Tryz.underlying43 rfl (show _ = some 1 from rfl) rfl rfl (show _ = 3 from rfl)) (L_r (r_lb rfl rfl) (L_nil ?_))
  refine W_bool rfl (fun h27 => ?_) (fun h27 => ?_)
  ·
   refine W_ret ?_
   refine ret0 rfl  ?_
   first
   | (have e : x.m.abs = true := h27
      refine ⟨rfl, ?_, S4.hc⟩
      have e2 : bodyB x.m = [] := if_pos e
      rw [hml, e2, List.append_nil]
      have h := S4.hW
      unfold txtsL
      simp only [List.append_assoc] at h ⊢
      exact h)
   | (refine ⟨rfl, ?_, S7.hc⟩
      rw [hml, hbe]
      have h := S7.hW
      rw [e6, ← hA5] at h
      unfold txtsL
      simp only [List.append_assoc] at h ⊢
      exact h)
  ·
   have hab : ¬ x.m.abs = true := by rw [show x.m.abs = false from h27]; decide
   unfold bodyP at p4
   rw [if_neg hab] at p4
   obtain ⟨b1, b2, b3', b4'⟩ := p4
   have hbe : bodyB x.m = varL x.m.locals.toNat ++ ((varL x.m.code.length ++ x.m.code.flatMap insB) ++ (varL x.m.cats.length ++ x.m.cats.flatMap catB)) := if_neg hab
   have hbl := congrArg List.length hbe
   simp only [List.length_append] at hbl
   have e36 : [Value.int .u64 x.m.locals, Value.int .u64 (x.m.code.length : Int)] = ucells [x.m.locals.toNat, x.m.code.length] := by
     show _ = [Value.int .u64 ((x.m.locals.toNat : Nat) : Int), Value.int .u64 (x.m.code.length : Int)]
     rw [Int.toNat_of_nonneg (by omega)]
   have hl1 : (varL x.m.locals.toNat).length ≤ 10 := varL_ten (by omega)
   have hl2 : (varL x.m.code.length).length ≤ 10 := varL_ten (by omega)
   have hl3 : (varL x.m.cats.length).length ≤ 10 := varL_ten (by omega)
   have hl4 := varL_pos x.m.cats.length
   have hl5 := varL_pos x.m.code.length
   have hl6 := varL_pos x.m.locals.toNat
   have hxc := hx.c
   have hvc6 := hxc.nw (S4.nw (Ch.au : Nw _ w8)).hB
   refine W_skip (W_seq (W_region (L_r (r_lb rfl rfl) ?_)))
   refine L_r (r_fieldb Tryz.underlying43 rfl (show _ = some 1 from rfl) rfl rfl (show _ = 4 from rfl)) (L_r (r_lb rfl rfl) ?_)
   refine L_r (r_conv Tryz.underlying3 Tryz.underlying80 rfl (by first | exact wr_u64 (by omega) | rfl)) ?_
   refine L_r (r_fieldb Tryz.underlying43 rfl (show _ = some 1 from rfl) rfl rfl (show _ = 5 from rfl)) (L_r (r_lb rfl rfl) ?_)
   refine L_r (r_lenSl Tryz.underlying40 (by conv => lhs; whnf) Sl.au) ?_
   refine L_r (r_conv Tryz.underlying3 Tryz.underlying80 rfl (by first | exact wr_u64 (by omega) | rfl)) ?_
   refine L_build1o [.int _ _, .int _ _] Tryz.underlying132 rfl rfl rfl (.plain rfl) rfl (by rfl) (by rfl) (by rfl) (fun v36 w9 ho36 eb9 hs9 c9 => ?_)
   rw [e36] at ho36
   refine L_call (.plain rfl) rfl rfl (r_call Tryz.func52 rfl rfl rfl (by rfl)) (wnum_walk base w0.heap.size bw _ _ [x.m.locals.toNat, x.m.code.length] _ (S4.nw Ch.au).hW (Ow.mono (ow_lit ho36) (by omega)) (by intro y hy; simp at hy; omega) (by simp only [List.length_append]; show _ + 10 * 2 ≤ _; omega) (by omega)) ?_
   rintro v37 w10 ⟨rfl, hW5, c10⟩
   have hz10 := c10.size
   have S5 := (S4.nw (Ch.au : Nw _ w9)).wr hW5 c10
   have hbs5 := S5.le
   simp only [List.flatMap_cons, List.flatMap_nil, List.append_nil] at S5
   have hk39 := hxc.nw (S5.nw (Ch.au : Nw _ w10)).hB
   have hb3q : Bk w10 b3 #[.string x.m.name, x.vp, .string x.m.result, .bool x.m.abs, .int .i64 x.m.locals, x.vc, x.vk] 43 := Bk.au
   have hpq : Bk w10 p #[.pointer (some ⟨bw, 0, none⟩)] 55 := Bk.au
   generalize hA5 : A ++ textL x.m.name ++ (varL x.m.params.length ++ x.m.params.flatMap textL) ++ textL x.m.result ++ flagL x.m.abs ++ (varL x.m.locals.toNat ++ varL x.m.code.length) = A5 at S5
   have hA5l : A5.length = A.length + ((textL x.m.name).length + ((txtsL x.m.params).length + ((textL x.m.result).length + ((flagL x.m.abs).length + ((varL x.m.locals.toNat).length + (varL x.m.code.length).length))))) := by { rw [← hA5]; simp only [List.length_append]; unfold txtsL; rw [List.length_append]; omega }
   refine L_nil (W_seq (W_seq (W_region ?_)))
   refine L_r (r_fieldb Tryz.underlying43 rfl (show _ = some 1 from rfl) rfl rfl (show _ = 5 from rfl)) (L_r (r_lb rfl rfl) ?_)
   refine L_r (r_lenSl Tryz.underlying40 (by conv => lhs; whnf) Sl.au) (L_r (r_mi rfl) (L_nil (W_block ?_)))
   refine W_loopF [1, 3, 39, 40] (fun mz_ f W => ∃ (i : Nat) (B : List UInt8), f 41 = .int .i64 i ∧ (i ≤ x.m.code.length ∧ B = A5 ++ (x.m.code.take i).flatMap insB ∧ Wst base bw g wB w0 W B ∧ Bk W b3 #[.string x.m.name, x.vp, .string x.m.result, .bool x.m.abs, .int .i64 x.m.locals, x.vc, x.vk] 43 ∧ Bk W p #[.pointer (some ⟨bw, 0, none⟩)] 55) ∧ mz_ = x.m.code.length - i) ?_ ?_
   ·
    refine ⟨_, 0, A5, rfl, ?_, rfl⟩
    exact ⟨by omega, by simp, S5.nw Ch.au, Bk.au, Bk.au⟩
   rintro m0 g0 w11 ⟨i, B, hf41, hR0, rfl⟩
   refine W_as 41 hf41 rfl ?_
   clear hf41
   obtain ⟨hi, hB, SL, hb3l, hpl⟩ := hR0
   have hbsl := SL.le
   have hvcl := hxc.nw SL.hB
   clear hb3q hpq hk39 hvc6
   refine W_seq (W_region (L_r (r_lss rfl rfl) (L_nil (W_seq ?_))))
   refine W_if rfl (fun h42 => ?_) (fun h42 => ?_)
   ·
    have hil : i < x.m.code.length := by omega
    have hfl := flat_lt insB hil
    have hBl : B.length = A5.length + ((x.m.code.take i).flatMap insB).length := by rw [hB, List.length_append]
    have hrow := cellsI_row x.m.code i hil
    have hym := List.getElem_mem hil
    obtain ⟨y, hy⟩ : ∃ y, y = x.m.code[i] := ⟨_, rfl⟩
    rw [← hy] at hrow hym hfl
    have hyok := all_ok b3' y hym
    have hyi := hins y hym
    refine W_skip (W_seq (W_block (W_seq (W_region ?_))))
    refine L_r (r_ix Tryz.underlying40 (show _ = some 3 from rfl) (by conv => lhs; whnf) rfl Sl.au) ?_
    refine L_r (r_loadSlrow (us := [.string y.op, .int .i64 y.n, .string y.s]) Tryz.underlying54 rfl rfl rfl rfl Sl.au (by exact hrow)) ?_
    refine L_new (.plain rfl) rfl rfl (r_alloca rfl) (fun w12 b5 hb5 eb12 hs12 c12 => ?_)
    refine L_storerow (.plain rfl) rfl rfl Bk.au (by first | rfl | (simp; done) | assumption) (by first | rfl | assumption) (by first | rfl | (simp [Value.oneCell']; done) | assumption) (fun w13 hb13 hs13 c13 => (L_nil (W_region (L_r (r_lb rfl rfl) ?_))))
    refine L_r (r_loadrow Tryz.underlying54 rfl rfl Bk.au (by first | rfl | assumption)) ?_
    refine L_call (.plain rfl) rfl rfl (r_call Tryz.func83 rfl rfl rfl (by rfl)) (instr_walk g base bw B y _ (SL.nw Ch.au).hG S0.gb (SL.nw Ch.au).hW (by omega) hyok hyi.1 hyi.2 (by omega)) ?_
    rintro v47 w14 ⟨rfl, hW6, c14⟩
    have hz14 := c14.size
    have S6 := (SL.nw (Ch.au : Nw _ w13)).wr hW6 c14
    refine L_nil (W_region ?_)
    refine L_r (r_add rfl rfl (by first | exact wr_i64 (by omega) | rfl)) (L_r (r_mi rfl) (L_nil ?_))
    refine ⟨⟨fx2, fx2, fx2, fx2, trivial⟩, _, ?_, i + 1, B ++ insB y, rfl, ?_, rfl⟩
    · omega
    exact ⟨by omega, by rw [List.take_succ_eq_append_getElem hil, List.flatMap_append, hB, ← hy]; simp, S6.nw Ch.au, Bk.au, Bk.au⟩
   ·
    refine W_exit ?_
    repeat (first | refine blk_hit ?_ | refine blk_miss rfl ?_)
    have e6 : B = A5 ++ x.m.code.flatMap insB := by rw [hB, show i = x.m.code.length by omega, List.take_length]
    have hBl : B.length = A5.length + (x.m.code.flatMap insB).length := by rw [e6, List.length_append]
    refine W_region (L_r (r_lb rfl rfl) ?_)
    refine L_r (r_fieldb Tryz.underlying43 rfl (show _ = some 1 from rfl) rfl rfl (show _ = 6 from rfl)) (L_r (r_lb rfl rfl) ?_)
    refine L_r (r_funcL (l1 := []) (l2 := [.pointer _]) rfl rfl) ?_
    refine L_call (.plain rfl) rfl rfl (r_call Tryz.func84 rfl rfl rfl (by rfl)) (list_K base bw B x.m.cats x.vk 85 [.pointer (some ⟨p, 0, none⟩)] catB wB _ (SL.nw Ch.au).hW hx.k (SL.nw Ch.au).hB SL.bB (by omega) (by omega) (by omega) ⟨_, _, Tryz.func85, rfl, rfl⟩ (fun s hs W C hBW hWr hWa hln => wr31_walk base bw p x.m.code.length C s W (Bk.tb Bk.au hWr (by decide)) hWa (Nat.le_trans (by omega) hWr.size) (b4' s hs) (by omega) (by omega))) ?_
    rintro v53 w15 ⟨rfl, hW7, c15⟩
    have hz15 := c15.size
    have S7 := (SL.nw (Ch.au : Nw _ w11)).wr hW7 c15
    refine L_nil ?_
    refine ret0 rfl  ?_
    first
    | (have e : x.m.abs = true := h27
       refine ⟨rfl, ?_, S4.hc⟩
       have e2 : bodyB x.m = [] := if_pos e
       rw [hml, e2, List.append_nil]
       have h := S4.hW
       unfold txtsL
       simp only [List.append_assoc] at h ⊢
       exact h)
    | (refine ⟨rfl, ?_, S7.hc⟩
       rw [hml, hbe]
       have h := S7.hW
       rw [e6, ← hA5] at h
       unfold txtsL
       simp only [List.append_assoc] at h ⊢
       exact h)
end Go.Proofs.YthpknpfhpkkheaaGreatDoor

namespace Go.Proofs.YthpknpfhpkkheaaGreatDoor
open Go Go.RowKit
set_option linter.unusedVariables false
set_option linter.unusedSimpArgs false
set_option maxRecDepth 100000
theorem flagL_len' (b : Bool) : (flagL b).length = 1 := by cases b <;> rfl
theorem q_len {w : World} {c : CC} (h : c.ok w) : c.q.length = c.p.ms.length := by rw [← h.e, List.length_map]
theorem q_flat {w : World} {c : CC} (h : c.ok w) (f : Mth → List UInt8) : (c.q.flatMap fun x => f x.m) = c.p.ms.flatMap f := by rw [← h.e, List.flatMap_map]
theorem q_mem {w : World} {c : CC} (h : c.ok w) {x : MM} (hx : x ∈ c.q) : x.m ∈ c.p.ms := by rw [← h.e]; exact List.mem_map.2 ⟨x, hx, rfl⟩
set_option maxHeartbeats 4000000 in
theorem write_cls_walk (g base bw : Nat) (A : List UInt8) (c : CC) (wB : World) (w0 : World) (S0 : Wst base bw g wB w0 w0 A) (hc : c.ok wB) (hm : goodC c.p) (hA : A.length + (clsB c.p).length ≤ 90000000) : Does Tryz.prog 31 #[.pointer (some ⟨bw, 0, none⟩), c.v] w0 (fun r w' => r = .tuple #[] ∧ WrAt base w' bw (A ++ clsB c.p) ∧ WrC base w0 w') := by
  have h1c := hc.one
  have hbs := S0.le
  have hql := q_len hc
  obtain ⟨hp, hfew, hins⟩ := hm
  have f1 : c.p.like.length ≤ 32 := by { have : ¬ 32 < c.p.like.length := fun k => hfew (.inr (.inl k)); omega }
  have f2 : c.p.fields.length ≤ 32 := by { have : ¬ 32 < c.p.fields.length := fun k => hfew (.inr (.inr (.inl k))); omega }
  have f3 : c.p.ms.length ≤ 32 := by { have : ¬ 32 < c.p.ms.length := fun k => hfew (.inr (.inr (.inr k))); omega }
  have f4 : ∀ m ∈ c.p.ms, ¬ manyM m := fun m hm k => hfew (.inl ⟨m, hm, k⟩)
  have hcl : clsB c.p = textL c.p.name ++ (textL c.p.super ++ ((varL c.p.like.length ++ c.p.like.flatMap textL) ++ (flagL c.p.ifc ++ (flagL c.p.abs ++ (flagL c.p.fin ++ (varL c.p.fields.length ++ (c.p.fields.flatMap fldB ++ (varL c.p.ms.length ++ c.p.ms.flatMap mthB)))))))) := rfl
  have hlen := congrArg List.length hcl
  simp only [List.length_append] at hlen
  have hqf := q_flat hc mthB
  have hqfl := congrArg List.length hqf
  have l1 := flagL_len' c.p.ifc
  have l2 := flagL_len' c.p.abs
  have l3 := flagL_len' c.p.fin
  have hn1 := name_le hp.name.1
  have hn2 := name_le hp.super.1
  refine fn_of (n := 37) (args := [.pointer (some ⟨bw, 0, none⟩), c.v]) Tryz.func31 rfl rfl rfl (W_seq (W_region ?_))
  refine L_new (.plain rfl) rfl rfl (r_box1 (v := .pointer _) rfl rfl) (fun w1 b2 hb2 eb1 hs1 c1 => ?_)
  refine L_new (.plain rfl) rfl rfl (r_boxa rfl) (fun w2 b3 hb3 eb2 hs2 c2 => (L_nil (W_seq (W_region ?_))))
  refine L_r (r_funcL (l1 := []) (l2 := [.pointer _]) rfl rfl) ?_
  refine L_new (.plain rfl) rfl rfl (r_alloc1 rfl rfl) (fun w3 b4 hb4 eb3 hs3 c3 => ?_)
  refine L_set (.plain rfl) rfl Bk.au (r_store rfl rfl (by conv => lhs; whnf) (by first | rfl | exact ow_one (by assumption) | exact own_one (by assumption) | exact sl_one (by assumption)) Bk.au (by first | decide | (simp; done) | omega)) (fun w4 hb4 hs4 c4 => ?_)
  try simp only [List.setIfInBounds_toArray, List.set_cons_zero, List.set_cons_succ] at hb4
  refine L_nil (W_seq (W_region (L_r (r_lb rfl rfl) ?_)))
  refine L_r (r_fieldb Tryz.underlying26 rfl (show _ = some 1 from rfl) rfl rfl (show _ = 0 from rfl)) (L_r (r_lb rfl rfl) ?_)
  refine L_r (r_fieldb Tryz.underlying26 rfl (show _ = some 1 from rfl) rfl rfl (show _ = 1 from rfl)) (L_r (r_lb rfl rfl) ?_)
  refine L_build1o [.string _, .string _] Tryz.underlying22 rfl rfl rfl (.plain rfl) rfl (by rfl) (by rfl) (by rfl) (fun v11 w5 ho11 eb5 hs5 c5 => ?_)
  refine L_call (.plain rfl) rfl rfl (r_call Tryz.func76 rfl rfl rfl (by rfl)) (wtext_walk base w0.heap.size bw A _ [c.p.name, c.p.super] _ (S0.nw Ch.au).hW (Ow.mono (ow_lit ho11) (by omega)) (by intro y hy; simp at hy; rcases hy with rfl | rfl <;> assumption) (by show 2 ≤ _; omega) (by omega) (by omega)) ?_
  rintro v12 w6 ⟨rfl, hW1, c6⟩
  have hz6 := c6.size
  have S1 := (S0.nw (Ch.au : Nw w0 w5)).wr hW1 c6
  have hbs1 := S1.le
  simp only [List.flatMap_cons, List.flatMap_nil, List.append_nil] at S1
  refine L_nil (W_seq (W_region (L_r (r_lb rfl rfl) ?_)))
  refine L_r (r_fieldb Tryz.underlying26 rfl (show _ = some 1 from rfl) rfl rfl (show _ = 2 from rfl)) (L_r (r_lb rfl rfl) (L_r (r_lb rfl rfl) ?_))
  refine L_call (.plain rfl) rfl rfl (r_call Tryz.func77 rfl rfl rfl (by rfl)) (list_S base bw _ c.p.like c.vl 75 [.pointer (some ⟨b2, 0, none⟩)] textL wB _ (S1.nw Ch.au).hW hc.l (S1.nw Ch.au).hB S1.bB (by omega) (by omega) (by simp only [List.length_append]; omega) ⟨_, _, Tryz.func75, rfl, rfl⟩ (fun s hs W B hBW hWr hWa hln => wr1_walk base bw b2 B s W (Bk.tb Bk.au hWr (by decide)) hWa (Nat.le_trans (by omega) hWr.size) (name_le (hp.like s hs).1.1) (by omega))) ?_
  rintro v17 w7 ⟨rfl, hW2, c7⟩
  have hz7 := c7.size
  have S2 := (S1.nw (Ch.au : Nw _ w6)).wr hW2 c7
  have hbs2 := S2.le
  refine L_nil (W_seq (W_region (L_r (r_lb rfl rfl) ?_)))
  refine L_r (r_fieldb Tryz.underlying26 rfl (show _ = some 1 from rfl) rfl rfl (show _ = 3 from rfl)) (L_r (r_lb rfl rfl) ?_)
  refine L_r (r_fieldb Tryz.underlying26 rfl (show _ = some 1 from rfl) rfl rfl (show _ = 4 from rfl)) (L_r (r_lb rfl rfl) ?_)
  refine L_r (r_fieldb Tryz.underlying26 rfl (show _ = some 1 from rfl) rfl rfl (show _ = 5 from rfl)) (L_r (r_lb rfl rfl) ?_)
  refine L_build1o [.bool _, .bool _, .bool _] Tryz.underlying145 rfl rfl rfl (.plain rfl) rfl (by rfl) (by rfl) (by rfl) (fun v25 w8 ho25 eb8 hs8 c8 => ?_)
  refine L_call (.plain rfl) rfl rfl (r_call Tryz.func78 rfl rfl rfl (by rfl)) (wflag_walk base w0.heap.size bw _ _ [c.p.ifc, c.p.abs, c.p.fin] _ (S2.nw Ch.au).hW (Ow.mono (ow_lit ho25) (by omega)) (by simp only [List.length_append]; show _ + 3 ≤ _; omega) (by omega)) ?_
  rintro v26 w9 ⟨rfl, hW3, c9⟩
  have hz9 := c9.size
  have S3 := (S2.nw (Ch.au : Nw _ w8)).wr hW3 c9
  have hbs3 := S3.le
  simp only [List.flatMap_cons, List.flatMap_nil, List.append_nil] at S3
  refine L_nil (W_seq (W_region (L_r (r_lb rfl rfl) ?_)))
  refine L_r (r_fieldb Tryz.underlying26 rfl (show _ = some 1 from rfl) rfl rfl (show _ = 6 from rfl)) (L_r (r_lb rfl rfl) ?_)
  refine L_r (r_funcL (l1 := []) (l2 := [.pointer _]) rfl rfl) ?_
  refine L_call (.plain rfl) rfl rfl (r_call Tryz.func79 rfl rfl rfl (by rfl)) (list_F base bw _ c.p.fields c.vf 80 [.pointer (some ⟨b2, 0, none⟩)] fldB wB _ (S3.nw Ch.au).hW hc.f (S3.nw Ch.au).hB S3.bB (by omega) (by omega) (by simp only [List.length_append]; omega) ⟨_, _, Tryz.func80, rfl, rfl⟩ (fun s hs W B hBW hWr hWa hln => wr2_walk base bw b2 B s W (Bk.tb Bk.au hWr (by decide)) hWa (Nat.le_trans (by omega) hWr.size) (name_le (hp.fields s hs).1.1) (right_le (hp.fields s hs).2) (by omega))) ?_
  rintro v31 w10 ⟨rfl, hW4, c10⟩
  have hz10 := c10.size
  have S4 := (S3.nw (Ch.au : Nw _ w9)).wr hW4 c10
  have hbs4 := S4.le
  refine L_nil (W_region (L_r (r_lb rfl rfl) ?_))
  refine L_r (r_fieldb Tryz.underlying26 rfl (show _ = some 1 from rfl) rfl rfl (show _ = 7 from rfl)) (L_r (r_lb rfl rfl) ?_)
  refine L_r (r_funcL (l1 := []) (l2 := [.pointer _, .pointer _]) rfl rfl) ?_
  refine L_call (.plain rfl) rfl rfl (r_call Tryz.func81 rfl rfl rfl (by rfl)) (list_M base bw _ c.q c.vm 82 [.pointer (some ⟨b2, 0, none⟩), .pointer (some ⟨b4, 0, none⟩)] (fun x => mthB x.m) wB _ (S4.nw Ch.au).hW hc.m (fun x hx => (hc.ms x hx).one) (S4.nw Ch.au).hB S4.bB (by omega) (by omega) (by rw [hqf, hql]; simp only [List.length_append]; omega) ⟨_, _, Tryz.func82, rfl, rfl⟩ (fun x hx W B hBW hWr hWa hln => wr3_walk g base bw b2 b4 B x wB W (Bk.tb Bk.au hWr (by decide)) (Bk.tb Bk.au hWr (by decide)) ⟨hWa, (S4.nw Ch.au).hG.tb S4.gb (by have := S0.gb; omega) hWr, Ch.refl _, hBW, S0.gb, Nat.le_trans (by omega) hWr.size, S0.bB⟩ (hc.ms x hx) ⟨hp.ms x.m (q_mem hc hx), f4 x.m (q_mem hc hx), hins x.m (q_mem hc hx)⟩ hln)) ?_
  rintro v36 w11 ⟨rfl, hW5, c11⟩
  have hz11 := c11.size
  have S5 := (S4.nw (Ch.au : Nw _ w10)).wr hW5 c11
  refine L_nil ?_
  refine ret0 rfl  ?_
  refine ⟨rfl, ?_, S5.hc⟩
  have h := S5.hW
  rw [hqf, hql] at h
  rw [hcl]
  simp only [List.append_assoc] at h ⊢
  exact h
end Go.Proofs.YthpknpfhpkkheaaGreatDoor
