/- Parts of the proof (Scr7, Scr8, Scr9, Scr10, Scr11). -/
import Derived.Test.YtgmeojpekdekeaaGreatDoorMSc
import Derived.Laws.Bits128
namespace Go.Proofs.YtgmeojpekdekeaaGreatDoor
open Go Go.RowKit
set_option linter.unusedVariables false
set_option linter.unusedSimpArgs false
set_option maxRecDepth 100000
theorem and1 (n : Int) : bits .and .i64 n 1 = n % 2 := by
  have h1 : (BitVec.ofInt 64 1).toNat = 2 ^ 1 - 1 := by decide
  have key : (BitVec.ofInt 64 n &&& BitVec.ofInt 64 1).toNat = (n % ((2 ^ 64 : Nat) : Int)).toNat % 2 ^ 1 := by
    rw [BitVec.toNat_and, BitVec.toNat_ofInt, h1, Nat.and_two_pow_sub_one_eq_mod]
  show IntKind.i64.wrap ((BitVec.ofInt 64 n &&& BitVec.ofInt 64 1).toNat : Nat) = n % 2
  rw [key, IntKind.wrap_i64]
  omega
def argA (v : Va) : Prop := v.sort = 0 ∧ v.n = 0 ∧ v.s = mtB ∧ v.ref = 0
def argB (v : Va) : Prop := v.sort = 1 ∧ v.n = v.n ∧ v.s = mtB ∧ v.ref = 0
def argC (v : Va) : Prop := v.sort = 2 ∧ v.n = bits .and .i64 v.n 1 ∧ v.s = mtB ∧ v.ref = 0
def argD (v : Va) : Prop := v.sort = 4 ∧ v.n = 0 ∧ v.s = mtB ∧ v.ref = v.ref
instance (v : Va) : Decidable (argA v) := inferInstanceAs (Decidable (_ ∧ _))
instance (v : Va) : Decidable (argB v) := inferInstanceAs (Decidable (_ ∧ _))
instance (v : Va) : Decidable (argC v) := inferInstanceAs (Decidable (_ ∧ _))
instance (v : Va) : Decidable (argD v) := inferInstanceAs (Decidable (_ ∧ _))
theorem arg_iff (v : Va) : argP v ↔ (argA v ∨ argB v ∨ argC v) ∨ (argD v ∧ 0 ≤ v.ref ∧ v.ref ≤ 1000000) := by
  unfold argP argA argB argC argD
  rw [and1]
  constructor
  ·
   rintro (⟨a, b, c, d⟩ | ⟨a, c, d⟩ | ⟨a, b, c, d⟩ | ⟨a, b, c, d, e⟩)
   · exact .inl (.inl ⟨a, b, c, d⟩)
   · exact .inl (.inr (.inl ⟨a, rfl, c, d⟩))
   · exact .inl (.inr (.inr ⟨a, by omega, c, d⟩))
   · exact .inr ⟨⟨a, b, c, rfl⟩, d, e⟩
  ·
   rintro ((⟨a, b, c, d⟩ | ⟨a, _, c, d⟩ | ⟨a, b, c, d⟩) | ⟨⟨a, b, c, _⟩, d, e⟩)
   · exact .inl ⟨a, b, c, d⟩
   · exact .inr (.inl ⟨a, c, d⟩)
   · exact .inr (.inr (.inl ⟨a, by omega, c, d⟩))
   · exact .inr (.inr (.inr ⟨a, b, c, d, e⟩))
set_option maxHeartbeats 1000000 in
theorem sarg_walk (v : Va) (w0 : World) : Does Tryz.prog 23 #[v.v] w0 (fun r w' => r = .bool (decide (argP v)) ∧ Nw w0 w') := by
  have hai := arg_iff v
  refine fn_of (n := 26) (args := [v.v]) Tryz.func23 rfl rfl rfl (W_seq (W_region ?_))
  refine L_new (.plain rfl) rfl rfl (r_boxa rfl) (fun w1 b1 hb1 eb1 hs1 c1 => (L_r (r_ab rfl) (L_nil (W_seq (W_seq (W_region ?_))))))
  refine L_r (r_loadrow Tryz.underlying43 rfl rfl Bk.au (by first | rfl | assumption)) (L_nil (W_block (W_seq (W_seq (W_region ?_)))))
  refine L_r (r_build1 (pl := [(0, 1), (1, 1), (2, 1), (3, 1)]) (vs := []) (cells := [_, _, _, _]) Tryz.underlying43 rfl rfl (by rfl) rfl (by rfl)) ?_
  refine L_r (r_eqlR (xs := #[.int _ _, .int _ _, .string _, .int _ _]) (ys := #[.int _ _, .int _ _, .string _, .int _ _]) rfl rfl (by kernel_rfl) (eqVal _ _ _ _ _ _ _ _ _)) (L_r (r_ab rfl) (L_nil ?_))
  refine W_endF [1] (fun f W => f 4 = .bool (decide (argA v ∨ argB v ∨ argC v)) ∧ (W = w1)) ?_ ?_
  ·
   refine W_if rfl (fun h4 => ?_) (fun h4 => ?_)
   ·
    refine W_skip ?_
    refine ⟨⟨fx2, trivial⟩, (dec_i (by clear hai; first | exact ⟨fun h => .inl h, fun _ => by assumption⟩ | exact ⟨fun h => .inr (.inl h), fun _ => by assumption⟩ | exact ⟨fun h => .inr (.inr h), fun h => by rcases h with h | h | h; exact absurd h (by assumption); exact absurd h (by assumption); exact h⟩)), ?_⟩
    rfl
   ·
    refine W_seq (W_region ?_)
    refine L_r (r_fieldb Tryz.underlying43 rfl (show _ = some 1 from rfl) rfl rfl (show _ = 1 from rfl)) (L_r (r_lb rfl rfl) ?_)
    refine L_r (r_build1 (pl := [(0, 1), (1, 1), (2, 1), (3, 1)]) (vs := [(0, .int _ _), (1, .int _ _)]) (cells := [_, _, _, _]) Tryz.underlying43 rfl rfl (by rfl) rfl (by rfl)) ?_
    refine L_r (r_eqlR (xs := #[.int _ _, .int _ _, .string _, .int _ _]) (ys := #[.int _ _, .int _ _, .string _, .int _ _]) rfl rfl (by kernel_rfl) (eqVal _ _ _ _ _ _ _ _ _)) (L_r (r_ab rfl) (L_nil ?_))
    refine W_if rfl (fun h4 => ?_) (fun h4 => ?_)
    ·
     refine W_skip ?_
     refine ⟨⟨fx2, trivial⟩, (dec_i (by clear hai; first | exact ⟨fun h => .inl h, fun _ => by assumption⟩ | exact ⟨fun h => .inr (.inl h), fun _ => by assumption⟩ | exact ⟨fun h => .inr (.inr h), fun h => by rcases h with h | h | h; exact absurd h (by assumption); exact absurd h (by assumption); exact h⟩)), ?_⟩
     rfl
    ·
     refine W_region ?_
     refine L_r (r_fieldb Tryz.underlying43 rfl (show _ = some 1 from rfl) rfl rfl (show _ = 1 from rfl)) (L_r (r_lb rfl rfl) (L_r (r_and rfl rfl) ?_))
     refine L_r (r_build1 (pl := [(0, 1), (1, 1), (2, 1), (3, 1)]) (vs := [(0, .int _ _), (1, .int _ _)]) (cells := [_, _, _, _]) Tryz.underlying43 rfl rfl (by rfl) rfl (by rfl)) ?_
     refine L_r (r_eqlR (xs := #[.int _ _, .int _ _, .string _, .int _ _]) (ys := #[.int _ _, .int _ _, .string _, .int _ _]) rfl rfl (by kernel_rfl) (eqVal _ _ _ _ _ _ _ _ _)) (L_r (r_ab rfl) (L_nil ?_))
     refine ⟨⟨fx2, trivial⟩, (dec_i (by clear hai; first | exact ⟨fun h => .inl h, fun _ => by assumption⟩ | exact ⟨fun h => .inr (.inl h), fun _ => by assumption⟩ | exact ⟨fun h => .inr (.inr h), fun h => by rcases h with h | h | h; exact absurd h (by assumption); exact absurd h (by assumption); exact h⟩)), ?_⟩
     rfl
  rintro gct4 w2 ⟨hf4, hCt4⟩
  refine W_as 4 hf4 rfl ?_
  clear hf4
  subst hCt4
  refine W_if rfl (fun h4 => ?_) (fun h4 => ?_)
  ·
   refine W_seq (W_region (L_r (r_ab rfl) (L_nil (W_ret ?_))))
   refine ret1 (v := .bool _) rfl rfl ?_
   refine ⟨?_, Ch.au⟩
   first
   | exact bool_t (hai.2 (.inl (by assumption)))
   | exact bool_f (fun h => by rcases hai.1 h with k | k; exact absurd k (by assumption); exact absurd k.1 (by assumption))
   | exact dec_b (by rw [decide_eq_true_iff, hai]; exact ⟨fun h => .inr ⟨by assumption, h⟩, fun h => h.elim (fun k => absurd k (by assumption)) fun k => k.2⟩)
  ·
   refine W_skip (W_seq (W_region ?_))
   refine L_r (r_loadrow Tryz.underlying43 rfl rfl Bk.au (by first | rfl | assumption)) ?_
   refine L_r (r_fieldb Tryz.underlying43 rfl (show _ = some 1 from rfl) rfl rfl (show _ = 3 from rfl)) (L_r (r_lb rfl rfl) ?_)
   refine L_r (r_build1 (pl := [(0, 1), (1, 1), (2, 1), (3, 1)]) (vs := [(0, .int _ _), (3, .int _ _)]) (cells := [_, _, _, _]) Tryz.underlying43 rfl rfl (by rfl) rfl (by rfl)) ?_
   refine L_r (r_eqlR (xs := #[.int _ _, .int _ _, .string _, .int _ _]) (ys := #[.int _ _, .int _ _, .string _, .int _ _]) rfl rfl (by kernel_rfl) (eqVal _ _ _ _ _ _ _ _ _)) (L_r (r_mb rfl) ?_)
   refine L_case (d := 21) rfl (fun h21 => ?_) (fun h21 => ?_)
   ·
    refine L_g (r_fieldb Tryz.underlying43 rfl (show _ = some 1 from rfl) rfl rfl (show _ = 3 from rfl)) ?_
    refine L_g (r_lb rfl rfl) ?_
    refine L_call (.yes 5 true rfl rfl) rfl rfl (r_call Tryz.func27 rfl rfl rfl (by rfl)) (ssmall_walk v.ref _) ?_
    rintro v24 w3 ⟨rfl, c3⟩
    have hz3 := c3.size
    refine L_r (r_pt rfl rfl) (L_r (r_ab rfl) (L_nil (W_ret ?_)))
    refine ret1 (v := .bool _) rfl rfl ?_
    refine ⟨?_, Ch.au⟩
    first
    | exact bool_t (hai.2 (.inl (by assumption)))
    | exact bool_f (fun h => by rcases hai.1 h with k | k; exact absurd k (by assumption); exact absurd k.1 (by assumption))
    | exact dec_b (by rw [decide_eq_true_iff, hai]; exact ⟨fun h => .inr ⟨by assumption, h⟩, fun h => h.elim (fun k => absurd k (by assumption)) fun k => k.2⟩)
   ·
    refine L_ps (L_ps (L_ps (L_r (r_pf rfl rfl) (L_r (r_ab rfl) (L_nil (W_ret ?_))))))
    refine ret1 (v := .bool _) rfl rfl ?_
    refine ⟨?_, Ch.au⟩
    first
    | exact bool_t (hai.2 (.inl (by assumption)))
    | exact bool_f (fun h => by rcases hai.1 h with k | k; exact absurd k (by assumption); exact absurd k.1 (by assumption))
    | exact dec_b (by rw [decide_eq_true_iff, hai]; exact ⟨fun h => .inr ⟨by assumption, h⟩, fun h => h.elim (fun k => absurd k (by assumption)) fun k => k.2⟩)
theorem sckc_walk (v : Va) (w0 : World) : Does Tryz.prog 22 #[v.v] w0 (fun r w' => r = .bool (!decide (argP v)) ∧ Nw w0 w') := by
  refine fn_of (n := 6) (args := [v.v]) Tryz.func22 rfl rfl rfl (W_seq (W_region ?_))
  refine L_new (.plain rfl) rfl rfl (r_boxa rfl) (fun w1 b1 hb1 eb1 hs1 c1 => (L_r (r_ab rfl) (L_nil (W_seq (W_region ?_)))))
  refine L_r (r_loadrow Tryz.underlying43 rfl rfl Bk.au (by first | rfl | assumption)) ?_
  refine L_call (.plain rfl) rfl rfl (r_call Tryz.func23 rfl rfl rfl (by rfl)) (sarg_walk v _) ?_
  rintro v4 w2 ⟨rfl, c2⟩
  have hz2 := c2.size
  refine L_r (r_not rfl) (L_r (r_ab rfl) (L_nil (W_ret ?_)))
  refine ret1 (v := .bool _) rfl rfl ?_
  exact ⟨rfl, Ch.au⟩
set_option maxHeartbeats 1000000 in
theorem rarg_walk (v : Va) (w0 : World) : Does Tryz.prog 30 #[v.v] w0 (fun r w' => r = .bool (decide (argP v)) ∧ Nw w0 w') := by
  refine fn_of (n := 70) (args := [v.v]) Tryz.func30 rfl rfl rfl (W_seq (W_region ?_))
  refine L_new (.plain rfl) rfl rfl (r_boxa rfl) (fun w1 b1 hb1 eb1 hs1 c1 => (L_r (r_ab rfl) (L_nil (W_seq (W_seq (W_region ?_))))))
  refine L_r (r_fieldb Tryz.underlying43 rfl (show _ = some 1 from rfl) rfl rfl (show _ = 0 from rfl)) (L_r (r_lb rfl rfl) (L_nil (W_block (W_seq (W_region (L_r (r_eql rfl rfl) (L_r (r_ab rfl) (L_nil ?_))))))))
  refine W_if rfl (fun h5 => ?_) (fun h5 => ?_)
  ·
   refine W_seq (W_region ?_)
   refine L_r (r_fieldb Tryz.underlying43 rfl (show _ = some 1 from rfl) rfl rfl (show _ = 1 from rfl)) (L_r (r_lb rfl rfl) (L_r (r_eql rfl rfl) (L_r (r_mb rfl) ?_)))
   refine L_case (d := 10) rfl (fun h10 => ?_) (fun h10 => ?_)
   ·
    refine L_g (r_fieldb Tryz.underlying43 rfl (show _ = some 1 from rfl) rfl rfl (show _ = 2 from rfl)) ?_
    refine L_g (r_lb rfl rfl) ?_
    refine L_g (r_eqls rfl rfl) (L_r (r_pt rfl rfl) (L_r (r_mb rfl) ?_))
    refine L_case (d := 15) rfl (fun h15 => ?_) (fun h15 => ?_)
    ·
     refine L_g (r_fieldb Tryz.underlying43 rfl (show _ = some 1 from rfl) rfl rfl (show _ = 3 from rfl)) ?_
     refine L_g (r_lb rfl rfl) ?_
     refine L_g (r_eql rfl rfl) (L_r (r_pt rfl rfl) (L_r (r_ab rfl) (L_nil (W_ret ?_))))
     refine ret1 (v := .bool _) rfl rfl ?_
     refine ⟨?_, Ch.au⟩
     unfold argP
     first
     | exact bool_f (fun h => by simp_all; try omega)
     | exact dec_b (by simp_all; try omega)
     | (exfalso; simp_all; done)
    ·
     refine L_ps (L_ps (L_ps (L_r (r_pf rfl rfl) (L_r (r_ab rfl) (L_nil (W_ret ?_))))))
     refine ret1 (v := .bool _) rfl rfl ?_
     refine ⟨?_, Ch.au⟩
     unfold argP
     first
     | exact bool_f (fun h => by simp_all; try omega)
     | exact dec_b (by simp_all; try omega)
     | (exfalso; simp_all; done)
   ·
    refine L_ps (L_ps (L_ps (L_r (r_pf rfl rfl) (L_r (r_mb rfl) (L_ps (L_ps (L_ps (L_r (r_pf rfl rfl) ?_))))))))
    refine L_r (r_ab rfl) (L_nil (W_ret ?_))
    refine ret1 (v := .bool _) rfl rfl ?_
    refine ⟨?_, Ch.au⟩
    unfold argP
    first
    | exact bool_f (fun h => by simp_all; try omega)
    | exact dec_b (by simp_all; try omega)
    | (exfalso; simp_all; done)
  ·
   refine W_seq (W_region (L_r (r_eql rfl rfl) (L_r (r_ab rfl) (L_nil ?_))))
   refine W_if rfl (fun h20 => ?_) (fun h20 => ?_)
   ·
    refine W_seq (W_region ?_)
    refine L_r (r_fieldb Tryz.underlying43 rfl (show _ = some 1 from rfl) rfl rfl (show _ = 2 from rfl)) (L_r (r_lb rfl rfl) (L_r (r_eqls rfl rfl) (L_r (r_mb rfl) ?_)))
    refine L_case (d := 25) rfl (fun h25 => ?_) (fun h25 => ?_)
    ·
     refine L_g (r_fieldb Tryz.underlying43 rfl (show _ = some 1 from rfl) rfl rfl (show _ = 3 from rfl)) ?_
     refine L_g (r_lb rfl rfl) ?_
     refine L_g (r_eql rfl rfl) (L_r (r_pt rfl rfl) (L_r (r_ab rfl) (L_nil (W_ret ?_))))
     refine ret1 (v := .bool _) rfl rfl ?_
     refine ⟨?_, Ch.au⟩
     unfold argP
     first
     | exact bool_f (fun h => by simp_all; try omega)
     | exact dec_b (by simp_all; try omega)
     | (exfalso; simp_all; done)
    ·
     refine L_ps (L_ps (L_ps (L_r (r_pf rfl rfl) (L_r (r_ab rfl) (L_nil (W_ret ?_))))))
     refine ret1 (v := .bool _) rfl rfl ?_
     refine ⟨?_, Ch.au⟩
     unfold argP
     first
     | exact bool_f (fun h => by simp_all; try omega)
     | exact dec_b (by simp_all; try omega)
     | (exfalso; simp_all; done)
   ·
    refine W_seq (W_region (L_r (r_eql rfl rfl) (L_r (r_ab rfl) (L_nil ?_))))
    refine W_if rfl (fun h30 => ?_) (fun h30 => ?_)
    ·
     refine W_seq (W_region ?_)
     refine L_r (r_fieldb Tryz.underlying43 rfl (show _ = some 1 from rfl) rfl rfl (show _ = 1 from rfl)) (L_r (r_lb rfl rfl) (L_r (r_eql rfl rfl) (L_r (r_mb rfl) ?_)))
     refine L_case (d := 35) rfl (fun h35 => ?_) (fun h35 => ?_)
     ·
      refine L_ps (L_ps (L_ps (L_r (r_pt rfl rfl) (L_r (r_mb rfl) ?_))))
      refine L_g (r_fieldb Tryz.underlying43 rfl (show _ = some 1 from rfl) rfl rfl (show _ = 2 from rfl)) ?_
      refine L_g (r_lb rfl rfl) ?_
      refine L_g (r_eqls rfl rfl) (L_r (r_pt rfl rfl) (L_r (r_mb rfl) ?_))
      refine L_case (d := 45) rfl (fun h45 => ?_) (fun h45 => ?_)
      ·
       refine L_g (r_fieldb Tryz.underlying43 rfl (show _ = some 1 from rfl) rfl rfl (show _ = 3 from rfl)) ?_
       refine L_g (r_lb rfl rfl) ?_
       refine L_g (r_eql rfl rfl) (L_r (r_pt rfl rfl) (L_r (r_ab rfl) (L_nil (W_ret ?_))))
       refine ret1 (v := .bool _) rfl rfl ?_
       refine ⟨?_, Ch.au⟩
       unfold argP
       first
       | exact bool_f (fun h => by simp_all; try omega)
       | exact dec_b (by simp_all; try omega)
       | (exfalso; simp_all; done)
      ·
       refine L_ps (L_ps (L_ps (L_r (r_pf rfl rfl) (L_r (r_ab rfl) (L_nil (W_ret ?_))))))
       refine ret1 (v := .bool _) rfl rfl ?_
       refine ⟨?_, Ch.au⟩
       unfold argP
       first
       | exact bool_f (fun h => by simp_all; try omega)
       | exact dec_b (by simp_all; try omega)
       | (exfalso; simp_all; done)
     ·
      refine L_g (r_fieldb Tryz.underlying43 rfl (show _ = some 1 from rfl) rfl rfl (show _ = 1 from rfl)) ?_
      refine L_g (r_lb rfl rfl) ?_
      refine L_g (r_eql rfl rfl) (L_r (r_pf rfl rfl) (L_r (r_mb rfl) ?_))
      refine L_case (d := 40) rfl (fun h40 => ?_) (fun h40 => ?_)
      ·
       refine L_g (r_fieldb Tryz.underlying43 rfl (show _ = some 1 from rfl) rfl rfl (show _ = 2 from rfl)) ?_
       refine L_g (r_lb rfl rfl) ?_
       refine L_g (r_eqls rfl rfl) (L_r (r_pt rfl rfl) (L_r (r_mb rfl) ?_))
       refine L_case (d := 45) rfl (fun h45 => ?_) (fun h45 => ?_)
       ·
        refine L_g (r_fieldb Tryz.underlying43 rfl (show _ = some 1 from rfl) rfl rfl (show _ = 3 from rfl)) ?_
        refine L_g (r_lb rfl rfl) ?_
        refine L_g (r_eql rfl rfl) (L_r (r_pt rfl rfl) (L_r (r_ab rfl) (L_nil (W_ret ?_))))
        refine ret1 (v := .bool _) rfl rfl ?_
        refine ⟨?_, Ch.au⟩
        unfold argP
        first
        | exact bool_f (fun h => by simp_all; try omega)
        | exact dec_b (by simp_all; try omega)
        | (exfalso; simp_all; done)
       ·
        refine L_ps (L_ps (L_ps (L_r (r_pf rfl rfl) (L_r (r_ab rfl) (L_nil (W_ret ?_))))))
        refine ret1 (v := .bool _) rfl rfl ?_
        refine ⟨?_, Ch.au⟩
        unfold argP
        first
        | exact bool_f (fun h => by simp_all; try omega)
        | exact dec_b (by simp_all; try omega)
        | (exfalso; simp_all; done)
      ·
       refine L_ps (L_ps (L_ps (L_r (r_pf rfl rfl) (L_r (r_mb rfl) (L_ps (L_ps (L_ps (L_r (r_pf rfl rfl) ?_))))))))
       refine L_r (r_ab rfl) (L_nil (W_ret ?_))
       refine ret1 (v := .bool _) rfl rfl ?_
       refine ⟨?_, Ch.au⟩
       unfold argP
       first
       | exact bool_f (fun h => by simp_all; try omega)
       | exact dec_b (by simp_all; try omega)
       | (exfalso; simp_all; done)
    ·
     refine W_seq (W_region (L_r (r_eql rfl rfl) (L_r (r_ab rfl) (L_nil ?_))))
     refine W_if rfl (fun h50 => ?_) (fun h50 => ?_)
     ·
      refine W_seq (W_region ?_)
      refine L_r (r_fieldb Tryz.underlying43 rfl (show _ = some 1 from rfl) rfl rfl (show _ = 1 from rfl)) (L_r (r_lb rfl rfl) (L_r (r_eql rfl rfl) (L_r (r_mb rfl) ?_)))
      refine L_case (d := 55) rfl (fun h55 => ?_) (fun h55 => ?_)
      ·
       refine L_g (r_fieldb Tryz.underlying43 rfl (show _ = some 1 from rfl) rfl rfl (show _ = 2 from rfl)) ?_
       refine L_g (r_lb rfl rfl) ?_
       refine L_g (r_eqls rfl rfl) (L_r (r_pt rfl rfl) (L_r (r_mb rfl) ?_))
       refine L_case (d := 60) rfl (fun h60 => ?_) (fun h60 => ?_)
       ·
        refine L_g (r_fieldb Tryz.underlying43 rfl (show _ = some 1 from rfl) rfl rfl (show _ = 3 from rfl)) ?_
        refine L_g (r_lb rfl rfl) ?_
        refine L_g (r_geq rfl rfl) (L_r (r_pt rfl rfl) (L_r (r_mb rfl) ?_))
        refine L_case (d := 65) rfl (fun h65 => ?_) (fun h65 => ?_)
        ·
         refine L_g (r_fieldb Tryz.underlying43 rfl (show _ = some 1 from rfl) rfl rfl (show _ = 3 from rfl)) ?_
         refine L_g (r_lb rfl rfl) ?_
         refine L_g (r_leq rfl rfl) (L_r (r_pt rfl rfl) (L_r (r_ab rfl) (L_nil (W_ret ?_))))
         refine ret1 (v := .bool _) rfl rfl ?_
         refine ⟨?_, Ch.au⟩
         unfold argP
         first
         | exact bool_f (fun h => by simp_all; try omega)
         | exact dec_b (by simp_all; try omega)
         | (exfalso; simp_all; done)
        ·
         refine L_ps (L_ps (L_ps (L_r (r_pf rfl rfl) (L_r (r_ab rfl) (L_nil (W_ret ?_))))))
         refine ret1 (v := .bool _) rfl rfl ?_
         refine ⟨?_, Ch.au⟩
         unfold argP
         first
         | exact bool_f (fun h => by simp_all; try omega)
         | exact dec_b (by simp_all; try omega)
         | (exfalso; simp_all; done)
       ·
        refine L_ps (L_ps (L_ps (L_r (r_pf rfl rfl) (L_r (r_mb rfl) (L_ps (L_ps (L_ps (L_r (r_pf rfl rfl) ?_))))))))
        refine L_r (r_ab rfl) (L_nil (W_ret ?_))
        refine ret1 (v := .bool _) rfl rfl ?_
        refine ⟨?_, Ch.au⟩
        unfold argP
        first
        | exact bool_f (fun h => by simp_all; try omega)
        | exact dec_b (by simp_all; try omega)
        | (exfalso; simp_all; done)
      ·
       refine L_ps (L_ps (L_ps (L_r (r_pf rfl rfl) (L_r (r_mb rfl) (L_ps (L_ps (L_ps (L_r (r_pf rfl rfl) ?_))))))))
       refine L_r (r_mb rfl) (L_ps (L_ps (L_ps (L_r (r_pf rfl rfl) (L_r (r_ab rfl) (L_nil (W_ret ?_)))))))
       refine ret1 (v := .bool _) rfl rfl ?_
       refine ⟨?_, Ch.au⟩
       unfold argP
       first
       | exact bool_f (fun h => by simp_all; try omega)
       | exact dec_b (by simp_all; try omega)
       | (exfalso; simp_all; done)
     ·
      refine W_skip (W_seq (W_region (L_r (r_ab rfl) (L_nil (W_ret ?_)))))
      refine ret1 (v := .bool _) rfl rfl ?_
      refine ⟨?_, Ch.au⟩
      unfold argP
      first
      | exact bool_f (fun h => by simp_all; try omega)
      | exact dec_b (by simp_all; try omega)
      | (exfalso; simp_all; done)
instance (n : Int) (t : Prop) [Decidable t] : Decidable (numP n t) := inferInstanceAs (Decidable (_ ∨ _))
theorem rnumber_walk (n : Int) (t : Bool) (w0 : World) : Does Tryz.prog 31 #[.int .i64 n, .bool t] w0 (fun r w' => r = .bool (decide (numP n (t = true))) ∧ Nw w0 w') := by
  refine fn_of (n := 18) (args := [.int .i64 n, .bool t]) Tryz.func31 rfl rfl rfl (W_seq (W_region (L_r (r_ab rfl) (L_nil (W_seq (W_region (L_r (r_mi rfl) (L_r (r_eql rfl rfl) ?_))))))))
  refine L_r (r_mb rfl) ?_
  refine L_case (d := 7) rfl (fun h7 => ?_) (fun h7 => ?_)
  ·
   refine L_ps (L_ps ?_)
   refine L_pu ?_
   refine L_pu (L_ps (L_ps ?_))
   refine L_pu ?_
   refine L_pu (L_ps (L_r (r_pt rfl rfl) (L_r (r_ab rfl) (L_nil (W_ret ?_)))))
   refine ret1 (v := .bool _) rfl rfl ?_
   refine ⟨?_, Ch.au⟩
   unfold numP
   first
   | exact bool_t (by simp_all; try omega)
   | exact bool_f (fun h => by simp_all; try omega)
   | exact dec_b (by simp_all; try omega)
  ·
   refine L_g (r_mb rfl) ?_
   refine L_g (r_mb rfl) ?_
   refine L_caseb (d := 9) rfl (fun h9 => ?_) (fun h9 => ?_)
   ·
    refine L_g (r_mi rfl) ?_
    refine L_g (r_gtr rfl rfl) ?_
    refine L_g (r_pt rfl rfl) ?_
    refine L_g (r_mb rfl) ?_
    refine L_case (d := 13) rfl (fun h13 => ?_) (fun h13 => ?_)
    ·
     refine L_g (r_mi rfl) ?_
     refine L_g (r_leq rfl rfl) ?_
     refine L_g (r_pt rfl rfl) (L_r (r_pf rfl rfl) (L_r (r_ab rfl) (L_nil (W_ret ?_))))
     refine ret1 (v := .bool _) rfl rfl ?_
     refine ⟨?_, Ch.au⟩
     unfold numP
     first
     | exact bool_t (by simp_all; try omega)
     | exact bool_f (fun h => by simp_all; try omega)
     | exact dec_b (by simp_all; try omega)
    ·
     refine L_ps (L_ps ?_)
     refine L_g (r_pf rfl rfl) (L_r (r_pf rfl rfl) (L_r (r_ab rfl) (L_nil (W_ret ?_))))
     refine ret1 (v := .bool _) rfl rfl ?_
     refine ⟨?_, Ch.au⟩
     unfold numP
     first
     | exact bool_t (by simp_all; try omega)
     | exact bool_f (fun h => by simp_all; try omega)
     | exact dec_b (by simp_all; try omega)
   ·
    refine L_ps (L_ps ?_)
    refine L_g (r_pf rfl rfl) ?_
    refine L_g (r_mb rfl) (L_ps (L_ps ?_))
    refine L_g (r_pf rfl rfl) (L_r (r_pf rfl rfl) (L_r (r_ab rfl) (L_nil (W_ret ?_))))
    refine ret1 (v := .bool _) rfl rfl ?_
    refine ⟨?_, Ch.au⟩
    unfold numP
    first
    | exact bool_t (by simp_all; try omega)
    | exact bool_f (fun h => by simp_all; try omega)
    | exact dec_b (by simp_all; try omega)
end Go.Proofs.YtgmeojpekdekeaaGreatDoor

namespace Go.Proofs.YtgmeojpekdekeaaGreatDoor
open Go Go.RowKit
set_option linter.unusedVariables false
set_option linter.unusedSimpArgs false
set_option maxRecDepth 100000
abbrev DD.row (x : DD) : Array Value := #[.string x.d.kind, .int .i64 x.d.side, .int .u64 (x.d.obj : Int), .string x.d.method, x.va, .int .i64 x.d.n, .int .i64 x.d.at', .int .i64 x.d.ref, .string x.d.cls, .string x.d.bytes]
abbrev idv (v : Value) : Value := v
/-- A deed of this kind with nothing else. -/
def onlyZ (k : ByteArray) : DD := ⟨⟨k, 0, 0, mtB, [], 0, 0, 0, mtB, mtB⟩, .slice none 0 0⟩
/-- One field set as the other deed has it. -/
def sput1 (x y : DD) : DD := ⟨{ y.d with side := x.d.side }, y.va⟩
def sput2 (x y : DD) : DD := ⟨{ y.d with obj := x.d.obj }, y.va⟩
def sput3 (x y : DD) : DD := ⟨{ y.d with method := x.d.method }, y.va⟩
def sput4 (x y : DD) : DD := ⟨{ y.d with args := x.d.args }, x.va⟩
def sput5 (x y : DD) : DD := ⟨{ y.d with n := x.d.n }, y.va⟩
def sput6 (x y : DD) : DD := ⟨{ y.d with at' := x.d.at' }, y.va⟩
def sput7 (x y : DD) : DD := ⟨{ y.d with ref := x.d.ref }, y.va⟩
def sput8 (x y : DD) : DD := ⟨{ y.d with cls := x.d.cls }, y.va⟩
def sput9 (x y : DD) : DD := ⟨{ y.d with bytes := x.d.bytes }, y.va⟩
def sputL (x y : DD) (c : Nat) : DD :=
  if c = 115 then sput1 x y else if c = 111 then sput2 x y else if c = 109 then sput3 x y else if c = 97 then sput4 x y else if c = 110 then sput5 x y else if c = 116 then sput6 x y else if c = 114 then sput7 x y else if c = 99 then sput8 x y else if c = 98 then sput9 x y else y
theorem only1_walk (p q : Nat) (x y : DD) (w0 : World) (hp : Bk w0 p x.row 29) (hq : Bk w0 q y.row 29) (hne : p ≠ q) : Does Tryz.prog 50 #[.pointer (some ⟨p, 0, none⟩), .pointer (some ⟨q, 0, none⟩)] w0 (fun r w' => r = .tuple #[] ∧ Bk w' q (sput1 x y).row 29 ∧ w'.heap.size = w0.heap.size ∧ Ch (fun j => j = q) w0 w') := by
  have hlp := hp.lt
  have hlq := hq.lt
  refine fn_of (n := 5) (args := [.pointer (some ⟨p, 0, none⟩), .pointer (some ⟨q, 0, none⟩)]) Tryz.func50 rfl rfl rfl (W_region ?_)
  refine L_r (r_fieldb Tryz.underlying29 rfl (show _ = some 1 from rfl) rfl rfl (show _ = 1 from rfl)) (L_r (r_lb rfl rfl) ?_)
  refine L_r (r_fieldb Tryz.underlying29 rfl (show _ = some 1 from rfl) rfl rfl (show _ = 1 from rfl)) ?_
  refine L_set (.plain rfl) rfl Bk.au (r_store (v := .int _ _) rfl rfl rfl rfl Bk.au (by first | decide | (simp; done) | omega)) (fun w1 hb1 hs1 c1 => ?_)
  try simp only [List.setIfInBounds_toArray, List.set_cons_zero, List.set_cons_succ] at hb1
  refine L_nil ?_
  refine ret0 rfl  ?_
  exact ⟨rfl, Bk.au, by omega, Ch.au⟩
theorem only2_walk (p q : Nat) (x y : DD) (w0 : World) (hp : Bk w0 p x.row 29) (hq : Bk w0 q y.row 29) (hne : p ≠ q) : Does Tryz.prog 51 #[.pointer (some ⟨p, 0, none⟩), .pointer (some ⟨q, 0, none⟩)] w0 (fun r w' => r = .tuple #[] ∧ Bk w' q (sput2 x y).row 29 ∧ w'.heap.size = w0.heap.size ∧ Ch (fun j => j = q) w0 w') := by
  have hlp := hp.lt
  have hlq := hq.lt
  refine fn_of (n := 5) (args := [.pointer (some ⟨p, 0, none⟩), .pointer (some ⟨q, 0, none⟩)]) Tryz.func51 rfl rfl rfl (W_region ?_)
  refine L_r (r_fieldb Tryz.underlying29 rfl (show _ = some 1 from rfl) rfl rfl (show _ = 2 from rfl)) (L_r (r_lb rfl rfl) ?_)
  refine L_r (r_fieldb Tryz.underlying29 rfl (show _ = some 1 from rfl) rfl rfl (show _ = 2 from rfl)) ?_
  refine L_set (.plain rfl) rfl Bk.au (r_store (v := .int _ _) rfl rfl rfl rfl Bk.au (by first | decide | (simp; done) | omega)) (fun w1 hb1 hs1 c1 => ?_)
  try simp only [List.setIfInBounds_toArray, List.set_cons_zero, List.set_cons_succ] at hb1
  refine L_nil ?_
  refine ret0 rfl  ?_
  exact ⟨rfl, Bk.au, by omega, Ch.au⟩
theorem only3_walk (p q : Nat) (x y : DD) (w0 : World) (hp : Bk w0 p x.row 29) (hq : Bk w0 q y.row 29) (hne : p ≠ q) : Does Tryz.prog 52 #[.pointer (some ⟨p, 0, none⟩), .pointer (some ⟨q, 0, none⟩)] w0 (fun r w' => r = .tuple #[] ∧ Bk w' q (sput3 x y).row 29 ∧ w'.heap.size = w0.heap.size ∧ Ch (fun j => j = q) w0 w') := by
  have hlp := hp.lt
  have hlq := hq.lt
  refine fn_of (n := 5) (args := [.pointer (some ⟨p, 0, none⟩), .pointer (some ⟨q, 0, none⟩)]) Tryz.func52 rfl rfl rfl (W_region ?_)
  refine L_r (r_fieldb Tryz.underlying29 rfl (show _ = some 1 from rfl) rfl rfl (show _ = 3 from rfl)) (L_r (r_lb rfl rfl) ?_)
  refine L_r (r_fieldb Tryz.underlying29 rfl (show _ = some 1 from rfl) rfl rfl (show _ = 3 from rfl)) ?_
  refine L_set (.plain rfl) rfl Bk.au (r_store (v := .string _) rfl rfl rfl rfl Bk.au (by first | decide | (simp; done) | omega)) (fun w1 hb1 hs1 c1 => ?_)
  try simp only [List.setIfInBounds_toArray, List.set_cons_zero, List.set_cons_succ] at hb1
  refine L_nil ?_
  refine ret0 rfl  ?_
  exact ⟨rfl, Bk.au, by omega, Ch.au⟩
theorem only4_walk (p q : Nat) (x y : DD) (w0 : World) (hp : Bk w0 p x.row 29) (hq : Bk w0 q y.row 29) (hne : p ≠ q) (hx : x.ok w0) : Does Tryz.prog 53 #[.pointer (some ⟨p, 0, none⟩), .pointer (some ⟨q, 0, none⟩)] w0 (fun r w' => r = .tuple #[] ∧ Bk w' q (sput4 x y).row 29 ∧ w'.heap.size = w0.heap.size ∧ Ch (fun j => j = q) w0 w') := by
  have hlp := hp.lt
  have hlq := hq.lt
  have hsl : Sl w0 x.va 4 x.d.args.length (cellsVa x.d.args) := hx
  refine fn_of (n := 5) (args := [.pointer (some ⟨p, 0, none⟩), .pointer (some ⟨q, 0, none⟩)]) Tryz.func53 rfl rfl rfl (W_region ?_)
  refine L_r (r_fieldb Tryz.underlying29 rfl (show _ = some 1 from rfl) rfl rfl (show _ = 4 from rfl)) (L_r (r_lb rfl rfl) ?_)
  refine L_r (r_fieldb Tryz.underlying29 rfl (show _ = some 1 from rfl) rfl rfl (show _ = 4 from rfl)) ?_
  refine L_set (.plain rfl) rfl Bk.au (r_store rfl rfl (by conv => lhs; whnf) (by first | rfl | exact ow_one (by assumption) | exact own_one (by assumption) | exact sl_one (by assumption)) Bk.au (by first | decide | (simp; done) | omega)) (fun w1 hb1 hs1 c1 => ?_)
  try simp only [List.setIfInBounds_toArray, List.set_cons_zero, List.set_cons_succ] at hb1
  refine L_nil ?_
  refine ret0 rfl  ?_
  exact ⟨rfl, Bk.au, by omega, Ch.au⟩
theorem only5_walk (p q : Nat) (x y : DD) (w0 : World) (hp : Bk w0 p x.row 29) (hq : Bk w0 q y.row 29) (hne : p ≠ q) : Does Tryz.prog 54 #[.pointer (some ⟨p, 0, none⟩), .pointer (some ⟨q, 0, none⟩)] w0 (fun r w' => r = .tuple #[] ∧ Bk w' q (sput5 x y).row 29 ∧ w'.heap.size = w0.heap.size ∧ Ch (fun j => j = q) w0 w') := by
  have hlp := hp.lt
  have hlq := hq.lt
  refine fn_of (n := 5) (args := [.pointer (some ⟨p, 0, none⟩), .pointer (some ⟨q, 0, none⟩)]) Tryz.func54 rfl rfl rfl (W_region ?_)
  refine L_r (r_fieldb Tryz.underlying29 rfl (show _ = some 1 from rfl) rfl rfl (show _ = 5 from rfl)) (L_r (r_lb rfl rfl) ?_)
  refine L_r (r_fieldb Tryz.underlying29 rfl (show _ = some 1 from rfl) rfl rfl (show _ = 5 from rfl)) ?_
  refine L_set (.plain rfl) rfl Bk.au (r_store (v := .int _ _) rfl rfl rfl rfl Bk.au (by first | decide | (simp; done) | omega)) (fun w1 hb1 hs1 c1 => ?_)
  try simp only [List.setIfInBounds_toArray, List.set_cons_zero, List.set_cons_succ] at hb1
  refine L_nil ?_
  refine ret0 rfl  ?_
  exact ⟨rfl, Bk.au, by omega, Ch.au⟩
theorem only6_walk (p q : Nat) (x y : DD) (w0 : World) (hp : Bk w0 p x.row 29) (hq : Bk w0 q y.row 29) (hne : p ≠ q) : Does Tryz.prog 55 #[.pointer (some ⟨p, 0, none⟩), .pointer (some ⟨q, 0, none⟩)] w0 (fun r w' => r = .tuple #[] ∧ Bk w' q (sput6 x y).row 29 ∧ w'.heap.size = w0.heap.size ∧ Ch (fun j => j = q) w0 w') := by
  have hlp := hp.lt
  have hlq := hq.lt
  refine fn_of (n := 5) (args := [.pointer (some ⟨p, 0, none⟩), .pointer (some ⟨q, 0, none⟩)]) Tryz.func55 rfl rfl rfl (W_region ?_)
  refine L_r (r_fieldb Tryz.underlying29 rfl (show _ = some 1 from rfl) rfl rfl (show _ = 6 from rfl)) (L_r (r_lb rfl rfl) ?_)
  refine L_r (r_fieldb Tryz.underlying29 rfl (show _ = some 1 from rfl) rfl rfl (show _ = 6 from rfl)) ?_
  refine L_set (.plain rfl) rfl Bk.au (r_store (v := .int _ _) rfl rfl rfl rfl Bk.au (by first | decide | (simp; done) | omega)) (fun w1 hb1 hs1 c1 => ?_)
  try simp only [List.setIfInBounds_toArray, List.set_cons_zero, List.set_cons_succ] at hb1
  refine L_nil ?_
  refine ret0 rfl  ?_
  exact ⟨rfl, Bk.au, by omega, Ch.au⟩
theorem only7_walk (p q : Nat) (x y : DD) (w0 : World) (hp : Bk w0 p x.row 29) (hq : Bk w0 q y.row 29) (hne : p ≠ q) : Does Tryz.prog 56 #[.pointer (some ⟨p, 0, none⟩), .pointer (some ⟨q, 0, none⟩)] w0 (fun r w' => r = .tuple #[] ∧ Bk w' q (sput7 x y).row 29 ∧ w'.heap.size = w0.heap.size ∧ Ch (fun j => j = q) w0 w') := by
  have hlp := hp.lt
  have hlq := hq.lt
  refine fn_of (n := 5) (args := [.pointer (some ⟨p, 0, none⟩), .pointer (some ⟨q, 0, none⟩)]) Tryz.func56 rfl rfl rfl (W_region ?_)
  refine L_r (r_fieldb Tryz.underlying29 rfl (show _ = some 1 from rfl) rfl rfl (show _ = 7 from rfl)) (L_r (r_lb rfl rfl) ?_)
  refine L_r (r_fieldb Tryz.underlying29 rfl (show _ = some 1 from rfl) rfl rfl (show _ = 7 from rfl)) ?_
  refine L_set (.plain rfl) rfl Bk.au (r_store (v := .int _ _) rfl rfl rfl rfl Bk.au (by first | decide | (simp; done) | omega)) (fun w1 hb1 hs1 c1 => ?_)
  try simp only [List.setIfInBounds_toArray, List.set_cons_zero, List.set_cons_succ] at hb1
  refine L_nil ?_
  refine ret0 rfl  ?_
  exact ⟨rfl, Bk.au, by omega, Ch.au⟩
theorem only8_walk (p q : Nat) (x y : DD) (w0 : World) (hp : Bk w0 p x.row 29) (hq : Bk w0 q y.row 29) (hne : p ≠ q) : Does Tryz.prog 57 #[.pointer (some ⟨p, 0, none⟩), .pointer (some ⟨q, 0, none⟩)] w0 (fun r w' => r = .tuple #[] ∧ Bk w' q (sput8 x y).row 29 ∧ w'.heap.size = w0.heap.size ∧ Ch (fun j => j = q) w0 w') := by
  have hlp := hp.lt
  have hlq := hq.lt
  refine fn_of (n := 5) (args := [.pointer (some ⟨p, 0, none⟩), .pointer (some ⟨q, 0, none⟩)]) Tryz.func57 rfl rfl rfl (W_region ?_)
  refine L_r (r_fieldb Tryz.underlying29 rfl (show _ = some 1 from rfl) rfl rfl (show _ = 8 from rfl)) (L_r (r_lb rfl rfl) ?_)
  refine L_r (r_fieldb Tryz.underlying29 rfl (show _ = some 1 from rfl) rfl rfl (show _ = 8 from rfl)) ?_
  refine L_set (.plain rfl) rfl Bk.au (r_store (v := .string _) rfl rfl rfl rfl Bk.au (by first | decide | (simp; done) | omega)) (fun w1 hb1 hs1 c1 => ?_)
  try simp only [List.setIfInBounds_toArray, List.set_cons_zero, List.set_cons_succ] at hb1
  refine L_nil ?_
  refine ret0 rfl  ?_
  exact ⟨rfl, Bk.au, by omega, Ch.au⟩
theorem only9_walk (p q : Nat) (x y : DD) (w0 : World) (hp : Bk w0 p x.row 29) (hq : Bk w0 q y.row 29) (hne : p ≠ q) : Does Tryz.prog 58 #[.pointer (some ⟨p, 0, none⟩), .pointer (some ⟨q, 0, none⟩)] w0 (fun r w' => r = .tuple #[] ∧ Bk w' q (sput9 x y).row 29 ∧ w'.heap.size = w0.heap.size ∧ Ch (fun j => j = q) w0 w') := by
  have hlp := hp.lt
  have hlq := hq.lt
  refine fn_of (n := 5) (args := [.pointer (some ⟨p, 0, none⟩), .pointer (some ⟨q, 0, none⟩)]) Tryz.func58 rfl rfl rfl (W_region ?_)
  refine L_r (r_fieldb Tryz.underlying29 rfl (show _ = some 1 from rfl) rfl rfl (show _ = 9 from rfl)) (L_r (r_lb rfl rfl) ?_)
  refine L_r (r_fieldb Tryz.underlying29 rfl (show _ = some 1 from rfl) rfl rfl (show _ = 9 from rfl)) ?_
  refine L_set (.plain rfl) rfl Bk.au (r_store (v := .string _) rfl rfl rfl rfl Bk.au (by first | decide | (simp; done) | omega)) (fun w1 hb1 hs1 c1 => ?_)
  try simp only [List.setIfInBounds_toArray, List.set_cons_zero, List.set_cons_succ] at hb1
  refine L_nil ?_
  refine ret0 rfl  ?_
  exact ⟨rfl, Bk.au, by omega, Ch.au⟩
end Go.Proofs.YtgmeojpekdekeaaGreatDoor

namespace Go.Proofs.YtgmeojpekdekeaaGreatDoor
open Go Go.RowKit
set_option linter.unusedVariables false
set_option linter.unusedSimpArgs false
set_option maxRecDepth 100000
abbrev onlyV (fid p q : Nat) : Value := .func (.func fid) #[] [.pointer (some ⟨p, 0, none⟩), .pointer (some ⟨q, 0, none⟩)].toArray
def clos9 (p q : Nat) : List (Int × Value) := [(115, onlyV 50 p q), (111, onlyV 51 p q), (109, onlyV 52 p q), (97, onlyV 53 p q), (110, onlyV 54 p q), (116, onlyV 55 p q), (114, onlyV 56 p q), (99, onlyV 57 p q), (98, onlyV 58 p q)]
theorem clos9_eq (p q : Nat) : mset (mset (mset (mset (mset (mset (mset (mset (mset ([]) 115 (onlyV 50 p q)) 111 (onlyV 51 p q)) 109 (onlyV 52 p q)) 97 (onlyV 53 p q)) 110 (onlyV 54 p q)) 116 (onlyV 55 p q)) 114 (onlyV 56 p q)) 99 (onlyV 57 p q)) 98 (onlyV 58 p q) = clos9 p q := by simp [mset, mget, clos9]
def onlyLs : List Nat := [115, 111, 109, 97, 110, 116, 114, 99, 98]
theorem mp_cast {K V : Type} {ke : K → Value} {ve : V → Value} {w : World} {b : Nat} {L L' : List (K × V)} (e : L = L') (h : Mp ke ve w b L) : Mp ke ve w b L' := e ▸ h
theorem only_pick (c : Nat) (hc : c ∈ onlyLs) (p q : Nat) : ∃ fid, (mget (clos9 p q) (c : Int)).getD .nilFunc = .func (.func fid) #[] [.pointer (some ⟨p, 0, none⟩), .pointer (some ⟨q, 0, none⟩)].toArray ∧ Knows Tryz.prog fid ∧
    ∀ (x y : DD) (W : World), Bk W p x.row 29 → Bk W q y.row 29 → p ≠ q → x.ok W → Does Tryz.prog fid [.pointer (some ⟨p, 0, none⟩), .pointer (some ⟨q, 0, none⟩)].toArray W (fun r w' => r = .tuple #[] ∧ Bk w' q (sputL x y c).row 29 ∧ w'.heap.size = W.heap.size ∧ Ch (fun j => j = q) W w') := by
  unfold onlyLs at hc
  simp only [List.mem_cons, List.not_mem_nil, or_false] at hc
  rcases hc with rfl | rfl | rfl | rfl | rfl | rfl | rfl | rfl | rfl
  · exact ⟨50, rfl, ⟨_, _, Tryz.func50, rfl, rfl⟩, fun x y W h1 h2 h3 h4 => only1_walk p q x y W h1 h2 h3⟩
  · exact ⟨51, rfl, ⟨_, _, Tryz.func51, rfl, rfl⟩, fun x y W h1 h2 h3 h4 => only2_walk p q x y W h1 h2 h3⟩
  · exact ⟨52, rfl, ⟨_, _, Tryz.func52, rfl, rfl⟩, fun x y W h1 h2 h3 h4 => only3_walk p q x y W h1 h2 h3⟩
  · exact ⟨53, rfl, ⟨_, _, Tryz.func53, rfl, rfl⟩, fun x y W h1 h2 h3 h4 => only4_walk p q x y W h1 h2 h3 h4⟩
  · exact ⟨54, rfl, ⟨_, _, Tryz.func54, rfl, rfl⟩, fun x y W h1 h2 h3 h4 => only5_walk p q x y W h1 h2 h3⟩
  · exact ⟨55, rfl, ⟨_, _, Tryz.func55, rfl, rfl⟩, fun x y W h1 h2 h3 h4 => only6_walk p q x y W h1 h2 h3⟩
  · exact ⟨56, rfl, ⟨_, _, Tryz.func56, rfl, rfl⟩, fun x y W h1 h2 h3 h4 => only7_walk p q x y W h1 h2 h3⟩
  · exact ⟨57, rfl, ⟨_, _, Tryz.func57, rfl, rfl⟩, fun x y W h1 h2 h3 h4 => only8_walk p q x y W h1 h2 h3⟩
  · exact ⟨58, rfl, ⟨_, _, Tryz.func58, rfl, rfl⟩, fun x y W h1 h2 h3 h4 => only9_walk p q x y W h1 h2 h3⟩
def DD0 : DD := onlyZ mtB
def onlyA (x : DD) (s : ByteArray) (a : Nat) : DD := ((bs s).take a).foldl (fun y c => sputL x y c.toNat) (onlyZ x.d.kind)
theorem onlyA_succ (x : DD) (s : ByteArray) (a : Nat) (h : a < s.size) : onlyA x s (a + 1) = sputL x (onlyA x s a) (bat s a).toNat := by
  unfold onlyA bat
  have hl : a < (bs s).length := h
  rw [List.take_succ_eq_append_getElem hl, List.foldl_append]
  simp [List.getD_eq_getElem?_getD, List.getElem?_eq_getElem hl]
theorem dec_asc (s : ByteArray) (a : Nat) (h : a < s.size) (hc : (bat s a).toNat < 128) : Utf8.decode s a = ((bat s a).toNat, 1) := by
  have hb : (bat s a) = s[a]'h := by
    unfold bat bs
    rw [List.getD_eq_getElem?_getD, Array.getElem?_toList, Array.getElem?_eq_getElem (by exact h)]
    rfl
  rw [hb] at hc ⊢
  exact decode_ascii s a h hc
theorem onlyLs_lt {c : Nat} (h : c ∈ onlyLs) : c < 128 := by
  unfold onlyLs at h
  simp only [List.mem_cons, List.not_mem_nil, or_false] at h
  omega
theorem sput_one (x y : DD) (c : Nat) (hx : x.va.oneCell' = true) (hy : y.va.oneCell' = true) : (sputL x y c).va.oneCell' = true := by
  unfold sputL
  repeat' split
  all_goals first | exact hx | exact hy
theorem onlyA_one (x : DD) (s : ByteArray) (hx : x.va.oneCell' = true) (a : Nat) : ((onlyA x s a).row.all fun v => v.oneCell') = true := by
  have h : ∀ (l : List UInt8) (y : DD), y.va.oneCell' = true → (l.foldl (fun y c => sputL x y c.toNat) y).va.oneCell' = true := by
    intro l
    induction l with
    | nil => intro y h; exact h
    | cons c l ih => intro y h; exact ih _ (sput_one x y c.toNat hx h)
  have h2 : (onlyA x s a).va.oneCell' = true := h _ _ rfl
  simp [DD.row, h2]
  simp [Value.oneCell']
theorem only_walk (x : DD) (s : ByteArray) (w0 : World) (hx : x.ok w0) (hs : ∀ i, i < s.size → (bat s i).toNat ∈ onlyLs) : Does Tryz.prog 20 #[x.v, .string s] w0 (fun r w' => r = (onlyA x s s.size).v ∧ Nw w0 w') := by
  refine fn_of (n := 33) (args := [x.v, .string s]) Tryz.func20 rfl rfl rfl (W_seq (W_region ?_))
  refine L_new (.plain rfl) rfl rfl (r_boxa rfl) (fun w1 b2 hb2 eb1 hs1 c1 => ?_)
  refine L_new (.plain rfl) rfl rfl (r_alloca rfl) (fun w2 b4 hb4 eb2 hs2 c2 => (L_nil (W_seq (W_region ?_))))
  refine L_r (r_fieldb Tryz.underlying29 rfl (show _ = some 1 from rfl) rfl rfl (show _ = 0 from rfl)) (L_r (r_lb rfl rfl) ?_)
  refine L_r (r_build1 (pl := [(0, 1), (1, 1), (2, 1), (3, 1), (4, 1), (5, 1), (6, 1), (7, 1), (8, 1), (9, 1)]) (vs := [(0, .string _)]) (cells := [_, _, _, _, _, _, _, _, _, _]) Tryz.underlying29 rfl rfl (by rfl) rfl (by rfl)) ?_
  refine L_new (.plain rfl) rfl rfl (r_alloca rfl) (fun w3 b5 hb5 eb3 hs3 c3 => ?_)
  refine L_storerow (.plain rfl) rfl rfl Bk.au (by first | rfl | (simp; done) | assumption) (by first | rfl | assumption) (by first | rfl | (simp [Value.oneCell']; done) | assumption) (fun w4 hb4 hs4 c4 => (L_nil (W_seq (W_region ?_))))
  refine L_mkmap (K := Int) (V := Value) (.int .i32) (idv) (.plain rfl) rfl (fun w5 b12 hb12 eb5 hs5 c5 => ?_)
  refine L_r (r_funcL (l1 := []) (l2 := [.pointer _, .pointer _]) rfl rfl) ?_
  refine L_mapins (ke := .int .i32) (ve := idv) (_) (_) Tryz.underlying73 Tryz.underlying21 (fun _ => by first | trivial | rfl) (fun _ _ h => by cases h; rfl) (.plain rfl) rfl rfl rfl Mp.au (fun w6 hm6 hs6 c6 => ?_)
  refine L_r (r_funcL (l1 := []) (l2 := [.pointer _, .pointer _]) rfl rfl) ?_
  refine L_mapins (ke := .int .i32) (ve := idv) (_) (_) Tryz.underlying73 Tryz.underlying21 (fun _ => by first | trivial | rfl) (fun _ _ h => by cases h; rfl) (.plain rfl) rfl rfl rfl Mp.au (fun w7 hm7 hs7 c7 => ?_)
  refine L_r (r_funcL (l1 := []) (l2 := [.pointer _, .pointer _]) rfl rfl) ?_
  refine L_mapins (ke := .int .i32) (ve := idv) (_) (_) Tryz.underlying73 Tryz.underlying21 (fun _ => by first | trivial | rfl) (fun _ _ h => by cases h; rfl) (.plain rfl) rfl rfl rfl Mp.au (fun w8 hm8 hs8 c8 => ?_)
  refine L_r (r_funcL (l1 := []) (l2 := [.pointer _, .pointer _]) rfl rfl) ?_
  refine L_mapins (ke := .int .i32) (ve := idv) (_) (_) Tryz.underlying73 Tryz.underlying21 (fun _ => by first | trivial | rfl) (fun _ _ h => by cases h; rfl) (.plain rfl) rfl rfl rfl Mp.au (fun w9 hm9 hs9 c9 => ?_)
  refine L_r (r_funcL (l1 := []) (l2 := [.pointer _, .pointer _]) rfl rfl) ?_
  refine L_mapins (ke := .int .i32) (ve := idv) (_) (_) Tryz.underlying73 Tryz.underlying21 (fun _ => by first | trivial | rfl) (fun _ _ h => by cases h; rfl) (.plain rfl) rfl rfl rfl Mp.au (fun w10 hm10 hs10 c10 => ?_)
  refine L_r (r_funcL (l1 := []) (l2 := [.pointer _, .pointer _]) rfl rfl) ?_
  refine L_mapins (ke := .int .i32) (ve := idv) (_) (_) Tryz.underlying73 Tryz.underlying21 (fun _ => by first | trivial | rfl) (fun _ _ h => by cases h; rfl) (.plain rfl) rfl rfl rfl Mp.au (fun w11 hm11 hs11 c11 => ?_)
  refine L_r (r_funcL (l1 := []) (l2 := [.pointer _, .pointer _]) rfl rfl) ?_
  refine L_mapins (ke := .int .i32) (ve := idv) (_) (_) Tryz.underlying73 Tryz.underlying21 (fun _ => by first | trivial | rfl) (fun _ _ h => by cases h; rfl) (.plain rfl) rfl rfl rfl Mp.au (fun w12 hm12 hs12 c12 => ?_)
  refine L_r (r_funcL (l1 := []) (l2 := [.pointer _, .pointer _]) rfl rfl) ?_
  refine L_mapins (ke := .int .i32) (ve := idv) (_) (_) Tryz.underlying73 Tryz.underlying21 (fun _ => by first | trivial | rfl) (fun _ _ h => by cases h; rfl) (.plain rfl) rfl rfl rfl Mp.au (fun w13 hm13 hs13 c13 => ?_)
  refine L_r (r_funcL (l1 := []) (l2 := [.pointer _, .pointer _]) rfl rfl) ?_
  refine L_mapins (ke := .int .i32) (ve := idv) (_) (_) Tryz.underlying73 Tryz.underlying21 (fun _ => by first | trivial | rfl) (fun _ _ h => by cases h; rfl) (.plain rfl) rfl rfl rfl Mp.au (fun w14 hm14 hs14 c14 => (L_r (r_mv) (L_r (r_av) (L_nil (W_seq (W_seq (W_region (L_r (r_ms rfl) ?_))))))))
  refine L_ranges Tryz.underlying9 (.plain rfl) rfl rfl (fun w15 b24 hit24 eb15 hs15 c15 => (L_nil (W_block ?_)))
  refine W_loopF [4, 5, 6, 24] (fun mz_ f W => ∃ (a : Nat), True ∧ (a ≤ s.size ∧ Its W b24 s a ∧ Bk W b2 x.row 29 ∧ Bk W b5 (onlyA x s a).row 29 ∧ Bk W b4 DD0.row 29 ∧ Mp (.int .i32) idv W b12 (clos9 b2 b5) ∧ Nw w0 W) ∧ mz_ = s.size - a) ?_ ?_
  ·
   refine ⟨_, 0, trivial, ?_, rfl⟩
   exact ⟨by omega, Its.au, Bk.au, Bk.au, Bk.au, mp_cast (clos9_eq b2 b5) Mp.au, Ch.au⟩
  rintro m0 g0 w16 ⟨a, -, hR0, rfl⟩
  obtain ⟨ha, hit, hk2, hk5, hk4, hmp, hnw⟩ := hR0
  have hz := hnw.size
  have hone := onlyA_one x s (sl_one hx) a
  refine W_seq (W_region ?_)
  refine L_nexts (.plain rfl) rfl rfl Its.au (fun hall25 => ?_) (fun w17 hin25 hit25 hs17 c17 => ?_)
  ·
   refine L_r (r_ext1_0 rfl) (L_nil (W_seq ?_))
   refine W_false rfl ?_
   refine W_exit ?_
   repeat (first | refine blk_hit ?_ | refine blk_miss rfl ?_)
   refine W_seq (W_region ?_)
   refine L_r (r_loadrow Tryz.underlying29 rfl rfl Bk.au (by first | rfl | assumption)) ?_
   refine L_storerow (.plain rfl) rfl rfl Bk.au (by first | rfl | (simp; done) | assumption) (by first | rfl | assumption) (by first | rfl | (simp [Value.oneCell']; done) | assumption) (fun w18 hb18 hs18 c18 => (L_nil (W_ret ?_)))
   refine r_ret_row rfl rfl Tryz.underlying29 rfl Bk.au (by first | rfl | assumption) ?_
   have hae : a = s.size := by omega
   subst hae
   exact ⟨rfl, Ch.au⟩
  ·
   refine L_r (r_ext3_0 rfl) (L_nil (W_seq ?_))
   refine W_true rfl (W_skip (W_block (W_seq (W_region (L_r (r_ext3_2 rfl) ?_)))))
   have hda := dec_asc s a hin25 (onlyLs_lt (hs a hin25))
   rw [hda]
   obtain ⟨fid, hget, hK, hcl⟩ := only_pick (bat s a).toNat (hs a hin25) b2 b5
   refine L_r (r_ai rfl) (L_nil (W_region (L_r (r_mv) (L_r (r_mi rfl) ?_))))
   refine L_r (r_lookup (ke := .int .i32) (ve := idv) _ (.nilFunc) Tryz.underlying73 Tryz.underlying21 (fun _ => by first | trivial | rfl) (fun _ _ h => by cases h; rfl) rfl rfl rfl Mp.au) ?_
   rw [hget]
   refine L_call (.plain rfl) rfl rfl (r_callv hK rfl (by rfl)) (hcl x (onlyA x s a) _ Bk.au Bk.au (by omega) (hx.nw Ch.au)) ?_
   rintro v31 w19 ⟨rfl, hb31, hz31, c19⟩
   have hz19 := c19.size
   refine L_nil ?_
   refine ⟨⟨fx2, fx2, fx2, fx2, trivial⟩, _, ?_, a + 1, trivial, ?_, rfl⟩
   · omega
   rw [hda] at hit25
   refine ⟨by omega, Its.au, Bk.au, by rw [onlyA_succ x s a hin25]; (exact Bk.au), Bk.au, Mp.au, Ch.au⟩
end Go.Proofs.YtgmeojpekdekeaaGreatDoor

namespace Go.Proofs.YtgmeojpekdekeaaGreatDoor
open Go Go.RowKit
set_option linter.unusedVariables false
set_option linter.unusedSimpArgs false
set_option maxRecDepth 100000
def sameP (x y : Dd) : Prop := x.kind = y.kind ∧ x.side = y.side ∧ (x.obj : Int) = y.obj ∧ x.method = y.method ∧ x.args = y.args ∧ x.n = y.n ∧ x.at' = y.at' ∧ x.ref = y.ref ∧ x.cls = y.cls ∧ x.bytes = y.bytes
theorem sameP_iff (x y : Dd) : sameP x y ↔ x = y := by
  constructor
  ·
   rintro ⟨a, b, c, d, e, f, g, h, i, j⟩
   cases x; cases y
   simp only at *
   subst a b d e f g h i j
   congr 1; omega
  · rintro rfl; exact ⟨rfl, rfl, rfl, rfl, rfl, rfl, rfl, rfl, rfl, rfl⟩
set_option maxHeartbeats 2000000 in
theorem ssame_walk (x y : DD) (w0 : World) (hx : x.ok w0) (hy : y.ok w0) (hl : x.d.args.length ≤ 1000000000000000) (hl2 : y.d.args.length ≤ 1000000000000000) : Does Tryz.prog 19 #[x.v, y.v] w0 (fun r w' => ∃ b : Bool, r = .bool b ∧ (b = true ↔ x.d = y.d) ∧ Nw w0 w') := by
  refine fn_of (n := 73) (args := [x.v, y.v]) Tryz.func19 rfl rfl rfl (W_seq (W_region ?_))
  refine L_new (.plain rfl) rfl rfl (r_boxa rfl) (fun w1 b2 hb2 eb1 hs1 c1 => ?_)
  refine L_new (.plain rfl) rfl rfl (r_boxa rfl) (fun w2 b3 hb3 eb2 hs2 c2 => (L_r (r_ab rfl) (L_nil (W_seq (W_region ?_)))))
  refine L_r (r_fieldb Tryz.underlying29 rfl (show _ = some 1 from rfl) rfl rfl (show _ = 0 from rfl)) (L_r (r_lb rfl rfl) ?_)
  refine L_r (r_fieldb Tryz.underlying29 rfl (show _ = some 1 from rfl) rfl rfl (show _ = 0 from rfl)) (L_r (r_lb rfl rfl) (L_r (r_eqls rfl rfl) (L_r (r_mb rfl) ?_)))
  refine L_case (d := 10) rfl (fun h10 => ?_) (fun h10 => ?_)
  ·
   refine L_g (r_fieldb Tryz.underlying29 rfl (show _ = some 1 from rfl) rfl rfl (show _ = 1 from rfl)) ?_
   refine L_g (r_lb rfl rfl) ?_
   refine L_g (r_fieldb Tryz.underlying29 rfl (show _ = some 1 from rfl) rfl rfl (show _ = 1 from rfl)) ?_
   refine L_g (r_lb rfl rfl) ?_
   refine L_g (r_eql rfl rfl) (L_r (r_pt rfl rfl) (L_r (r_mb rfl) ?_))
   refine L_case (d := 17) rfl (fun h17 => ?_) (fun h17 => ?_)
   ·
    refine L_g (r_fieldb Tryz.underlying29 rfl (show _ = some 1 from rfl) rfl rfl (show _ = 2 from rfl)) ?_
    refine L_g (r_lb rfl rfl) ?_
    refine L_g (r_fieldb Tryz.underlying29 rfl (show _ = some 1 from rfl) rfl rfl (show _ = 2 from rfl)) ?_
    refine L_g (r_lb rfl rfl) ?_
    refine L_g (r_eql rfl rfl) (L_r (r_pt rfl rfl) (L_r (r_mb rfl) ?_))
    refine L_case (d := 24) rfl (fun h24 => ?_) (fun h24 => ?_)
    ·
     refine L_g (r_fieldb Tryz.underlying29 rfl (show _ = some 1 from rfl) rfl rfl (show _ = 3 from rfl)) ?_
     refine L_g (r_lb rfl rfl) ?_
     refine L_g (r_fieldb Tryz.underlying29 rfl (show _ = some 1 from rfl) rfl rfl (show _ = 3 from rfl)) ?_
     refine L_g (r_lb rfl rfl) ?_
     refine L_g (r_eqls rfl rfl) (L_r (r_pt rfl rfl) (L_r (r_mb rfl) ?_))
     refine L_case (d := 31) rfl (fun h31 => ?_) (fun h31 => ?_)
     ·
      refine L_g (r_fieldb Tryz.underlying29 rfl (show _ = some 1 from rfl) rfl rfl (show _ = 4 from rfl)) ?_
      refine L_g (r_lb rfl rfl) ?_
      refine L_g (r_fieldb Tryz.underlying29 rfl (show _ = some 1 from rfl) rfl rfl (show _ = 4 from rfl)) ?_
      refine L_g (r_lb rfl rfl) ?_
      refine L_call (.yes 26 true rfl rfl) rfl rfl (r_call Tryz.func49 rfl rfl rfl (by rfl)) (eq_Va x.va y.va x.d.args y.d.args _ (hx.nw Ch.au) (hy.nw Ch.au) hl hl2) ?_
      rintro v36 w3 ⟨bv, rfl, hbv, c3⟩
      have hz3 := c3.size
      refine L_r (r_pt rfl rfl) (L_r (r_mb rfl) ?_)
      refine L_caseb (d := 38) rfl (fun h38 => ?_) (fun h38 => ?_)
      ·
       refine L_g (r_fieldb Tryz.underlying29 rfl (show _ = some 1 from rfl) rfl rfl (show _ = 5 from rfl)) ?_
       refine L_g (r_lb rfl rfl) ?_
       refine L_g (r_fieldb Tryz.underlying29 rfl (show _ = some 1 from rfl) rfl rfl (show _ = 5 from rfl)) ?_
       refine L_g (r_lb rfl rfl) ?_
       refine L_g (r_eql rfl rfl) (L_r (r_pt rfl rfl) (L_r (r_mb rfl) ?_))
       refine L_case (d := 45) rfl (fun h45 => ?_) (fun h45 => ?_)
       ·
        refine L_g (r_fieldb Tryz.underlying29 rfl (show _ = some 1 from rfl) rfl rfl (show _ = 6 from rfl)) ?_
        refine L_g (r_lb rfl rfl) ?_
        refine L_g (r_fieldb Tryz.underlying29 rfl (show _ = some 1 from rfl) rfl rfl (show _ = 6 from rfl)) ?_
        refine L_g (r_lb rfl rfl) ?_
        refine L_g (r_eql rfl rfl) (L_r (r_pt rfl rfl) (L_r (r_mb rfl) ?_))
        refine L_case (d := 52) rfl (fun h52 => ?_) (fun h52 => ?_)
        ·
         refine L_g (r_fieldb Tryz.underlying29 rfl (show _ = some 1 from rfl) rfl rfl (show _ = 7 from rfl)) ?_
         refine L_g (r_lb rfl rfl) ?_
         refine L_g (r_fieldb Tryz.underlying29 rfl (show _ = some 1 from rfl) rfl rfl (show _ = 7 from rfl)) ?_
         refine L_g (r_lb rfl rfl) ?_
         refine L_g (r_eql rfl rfl) (L_r (r_pt rfl rfl) (L_r (r_mb rfl) ?_))
         refine L_case (d := 59) rfl (fun h59 => ?_) (fun h59 => ?_)
         ·
          refine L_g (r_fieldb Tryz.underlying29 rfl (show _ = some 1 from rfl) rfl rfl (show _ = 8 from rfl)) ?_
          refine L_g (r_lb rfl rfl) ?_
          refine L_g (r_fieldb Tryz.underlying29 rfl (show _ = some 1 from rfl) rfl rfl (show _ = 8 from rfl)) ?_
          refine L_g (r_lb rfl rfl) ?_
          refine L_g (r_eqls rfl rfl) (L_r (r_pt rfl rfl) (L_r (r_mb rfl) ?_))
          refine L_case (d := 66) rfl (fun h66 => ?_) (fun h66 => ?_)
          ·
           refine L_g (r_fieldb Tryz.underlying29 rfl (show _ = some 1 from rfl) rfl rfl (show _ = 9 from rfl)) ?_
           refine L_g (r_lb rfl rfl) ?_
           refine L_g (r_fieldb Tryz.underlying29 rfl (show _ = some 1 from rfl) rfl rfl (show _ = 9 from rfl)) ?_
           refine L_g (r_lb rfl rfl) ?_
           refine L_g (r_eqls rfl rfl) (L_r (r_pt rfl rfl) (L_r (r_ab rfl) (L_nil (W_ret ?_))))
           refine ret1 (v := .bool _) rfl rfl ?_
           refine ⟨_, rfl, ?_, Ch.au⟩
           rw [← sameP_iff]
           unfold sameP
           simp_all
          ·
           refine L_ps (L_ps (L_ps (L_ps (L_ps (L_r (r_pf rfl rfl) (L_r (r_ab rfl) (L_nil (W_ret ?_))))))))
           refine ret1 (v := .bool _) rfl rfl ?_
           refine ⟨_, rfl, ?_, Ch.au⟩
           rw [← sameP_iff]
           unfold sameP
           simp_all
         ·
          refine L_ps (L_ps (L_ps (L_ps (L_ps (L_r (r_pf rfl rfl) (L_r (r_mb rfl) (L_ps (L_ps ?_))))))))
          refine L_ps (L_ps (L_ps (L_r (r_pf rfl rfl) (L_r (r_ab rfl) (L_nil (W_ret ?_))))))
          refine ret1 (v := .bool _) rfl rfl ?_
          refine ⟨_, rfl, ?_, Ch.au⟩
          rw [← sameP_iff]
          unfold sameP
          simp_all
        ·
         refine L_ps (L_ps (L_ps (L_ps (L_ps (L_r (r_pf rfl rfl) (L_r (r_mb rfl) (L_ps (L_ps ?_))))))))
         refine L_ps (L_ps (L_ps (L_r (r_pf rfl rfl) (L_r (r_mb rfl) (L_ps (L_ps (L_ps (L_ps ?_))))))))
         refine L_ps (L_r (r_pf rfl rfl) (L_r (r_ab rfl) (L_nil (W_ret ?_))))
         refine ret1 (v := .bool _) rfl rfl ?_
         refine ⟨_, rfl, ?_, Ch.au⟩
         rw [← sameP_iff]
         unfold sameP
         simp_all
       ·
        refine L_ps (L_ps (L_ps (L_ps (L_ps (L_r (r_pf rfl rfl) (L_r (r_mb rfl) (L_ps (L_ps ?_))))))))
        refine L_ps (L_ps (L_ps (L_r (r_pf rfl rfl) (L_r (r_mb rfl) (L_ps (L_ps (L_ps (L_ps ?_))))))))
        refine L_ps (L_r (r_pf rfl rfl) (L_r (r_mb rfl) (L_ps (L_ps (L_ps (L_ps (L_ps (L_r (r_pf rfl rfl) ?_))))))))
        refine L_r (r_ab rfl) (L_nil (W_ret ?_))
        refine ret1 (v := .bool _) rfl rfl ?_
        refine ⟨_, rfl, ?_, Ch.au⟩
        rw [← sameP_iff]
        unfold sameP
        simp_all
      ·
       refine L_ps (L_ps (L_ps (L_ps (L_ps (L_r (r_pf rfl rfl) (L_r (r_mb rfl) (L_ps (L_ps ?_))))))))
       refine L_ps (L_ps (L_ps (L_r (r_pf rfl rfl) (L_r (r_mb rfl) (L_ps (L_ps (L_ps (L_ps ?_))))))))
       refine L_ps (L_r (r_pf rfl rfl) (L_r (r_mb rfl) (L_ps (L_ps (L_ps (L_ps (L_ps (L_r (r_pf rfl rfl) ?_))))))))
       refine L_r (r_mb rfl) (L_ps (L_ps (L_ps (L_ps (L_ps (L_r (r_pf rfl rfl) (L_r (r_ab rfl) (L_nil ?_))))))))
       refine W_ret ?_
       refine ret1 (v := .bool _) rfl rfl ?_
       refine ⟨_, rfl, ?_, Ch.au⟩
       rw [← sameP_iff]
       unfold sameP
       simp_all
     ·
      refine L_ps (L_ps (L_ps (L_ps (L_ps (L_r (r_pf rfl rfl) (L_r (r_mb rfl) (L_ps (L_ps ?_))))))))
      refine L_ps (L_ps (L_ps (L_r (r_pf rfl rfl) (L_r (r_mb rfl) (L_ps (L_ps (L_ps (L_ps ?_))))))))
      refine L_ps (L_r (r_pf rfl rfl) (L_r (r_mb rfl) (L_ps (L_ps (L_ps (L_ps (L_ps (L_r (r_pf rfl rfl) ?_))))))))
      refine L_r (r_mb rfl) (L_ps (L_ps (L_ps (L_ps (L_ps (L_r (r_pf rfl rfl) (L_r (r_mb rfl) (L_ps ?_))))))))
      refine L_ps (L_ps (L_ps (L_ps (L_r (r_pf rfl rfl) (L_r (r_ab rfl) (L_nil (W_ret ?_)))))))
      refine ret1 (v := .bool _) rfl rfl ?_
      refine ⟨_, rfl, ?_, Ch.au⟩
      rw [← sameP_iff]
      unfold sameP
      simp_all
    ·
     refine L_ps (L_ps (L_ps (L_ps (L_ps (L_r (r_pf rfl rfl) (L_r (r_mb rfl) (L_ps (L_ps ?_))))))))
     refine L_ps (L_ps (L_ps (L_r (r_pf rfl rfl) (L_r (r_mb rfl) (L_ps (L_ps (L_ps (L_ps ?_))))))))
     refine L_ps (L_r (r_pf rfl rfl) (L_r (r_mb rfl) (L_ps (L_ps (L_ps (L_ps (L_ps (L_r (r_pf rfl rfl) ?_))))))))
     refine L_r (r_mb rfl) (L_ps (L_ps (L_ps (L_ps (L_ps (L_r (r_pf rfl rfl) (L_r (r_mb rfl) (L_ps ?_))))))))
     refine L_ps (L_ps (L_ps (L_ps (L_r (r_pf rfl rfl) (L_r (r_mb rfl) (L_ps (L_ps (L_ps ?_))))))))
     refine L_ps (L_ps (L_r (r_pf rfl rfl) (L_r (r_ab rfl) (L_nil (W_ret ?_)))))
     refine ret1 (v := .bool _) rfl rfl ?_
     refine ⟨_, rfl, ?_, Ch.au⟩
     rw [← sameP_iff]
     unfold sameP
     simp_all
   ·
    refine L_ps (L_ps (L_ps (L_ps (L_ps (L_r (r_pf rfl rfl) (L_r (r_mb rfl) (L_ps (L_ps ?_))))))))
    refine L_ps (L_ps (L_ps (L_r (r_pf rfl rfl) (L_r (r_mb rfl) (L_ps (L_ps (L_ps (L_ps ?_))))))))
    refine L_ps (L_r (r_pf rfl rfl) (L_r (r_mb rfl) (L_ps (L_ps (L_ps (L_ps (L_ps (L_r (r_pf rfl rfl) ?_))))))))
    refine L_r (r_mb rfl) (L_ps (L_ps (L_ps (L_ps (L_ps (L_r (r_pf rfl rfl) (L_r (r_mb rfl) (L_ps ?_))))))))
    refine L_ps (L_ps (L_ps (L_ps (L_r (r_pf rfl rfl) (L_r (r_mb rfl) (L_ps (L_ps (L_ps ?_))))))))
    refine L_ps (L_ps (L_r (r_pf rfl rfl) (L_r (r_mb rfl) (L_ps (L_ps (L_ps (L_ps (L_ps ?_))))))))
    refine L_r (r_pf rfl rfl) (L_r (r_ab rfl) (L_nil (W_ret ?_)))
    refine ret1 (v := .bool _) rfl rfl ?_
    refine ⟨_, rfl, ?_, Ch.au⟩
    rw [← sameP_iff]
    unfold sameP
    simp_all
  ·
   refine L_ps (L_ps (L_ps (L_ps (L_ps (L_r (r_pf rfl rfl) (L_r (r_mb rfl) (L_ps (L_ps ?_))))))))
   refine L_ps (L_ps (L_ps (L_r (r_pf rfl rfl) (L_r (r_mb rfl) (L_ps (L_ps (L_ps (L_ps ?_))))))))
   refine L_ps (L_r (r_pf rfl rfl) (L_r (r_mb rfl) (L_ps (L_ps (L_ps (L_ps (L_ps (L_r (r_pf rfl rfl) ?_))))))))
   refine L_r (r_mb rfl) (L_ps (L_ps (L_ps (L_ps (L_ps (L_r (r_pf rfl rfl) (L_r (r_mb rfl) (L_ps ?_))))))))
   refine L_ps (L_ps (L_ps (L_ps (L_r (r_pf rfl rfl) (L_r (r_mb rfl) (L_ps (L_ps (L_ps ?_))))))))
   refine L_ps (L_ps (L_r (r_pf rfl rfl) (L_r (r_mb rfl) (L_ps (L_ps (L_ps (L_ps (L_ps ?_))))))))
   refine L_r (r_pf rfl rfl) (L_r (r_mb rfl) (L_ps (L_ps (L_ps (L_ps (L_ps (L_r (r_pf rfl rfl) (L_r (r_ab rfl) ?_))))))))
   refine L_nil (W_ret ?_)
   refine ret1 (v := .bool _) rfl rfl ?_
   refine ⟨_, rfl, ?_, Ch.au⟩
   rw [← sameP_iff]
   unfold sameP
   simp_all
end Go.Proofs.YtgmeojpekdekeaaGreatDoor

namespace Go.Proofs.YtgmeojpekdekeaaGreatDoor
open Go Go.RowKit
set_option linter.unusedVariables false
set_option linter.unusedSimpArgs false
set_option maxRecDepth 100000
/-! ### what only keeps -/
theorem ofn_ne (c : UInt8) (n : Nat) (h : n < 256) : c.toNat = n ↔ c = UInt8.ofNat n := by
  constructor
  · intro e; apply UInt8.toNat_inj.1; rw [UInt8.toNat_ofNat', e]; omega
  · rintro rfl; rw [UInt8.toNat_ofNat']; omega
theorem fold_get {X : Type} (x : DD) (g : DD → X) (n : Nat) (hn : n < 256) (h : ∀ y c, g (sputL x y c) = if c = n then g x else g y) : ∀ (l : List UInt8) (y : DD), g (l.foldl (fun y c => sputL x y c.toNat) y) = if UInt8.ofNat n ∈ l then g x else g y
  | [], y => by simp
  | c :: l, y => by
    rw [List.foldl_cons, fold_get x g n hn h l, h]
    by_cases e : c.toNat = n
    ·
     have e2 := (ofn_ne c n hn).1 e
     rw [if_pos e, if_pos (show UInt8.ofNat n ∈ c :: l by rw [← e2]; exact List.mem_cons_self), ite_self]
    ·
     have e2 : UInt8.ofNat n ≠ c := fun k => e ((ofn_ne c n hn).2 k.symm)
     simp [e, e2]
theorem only_get {X : Type} (x : DD) (g : DD → X) (n : Nat) (hn : n < 256) (h : ∀ y c, g (sputL x y c) = if c = n then g x else g y) (s : ByteArray) : g (onlyA x s s.size) = if UInt8.ofNat n ∈ bs s then g x else g (onlyZ x.d.kind) := by
  have e : (bs s).take s.size = bs s := List.take_of_length_le (Nat.le_refl _)
  unfold onlyA
  rw [e]
  exact fold_get x g n hn h _ _
theorem only_kind (x : DD) (s : ByteArray) : (onlyA x s s.size).d.kind = x.d.kind := by
  have h : ∀ (l : List UInt8) (y : DD), (l.foldl (fun y c => sputL x y c.toNat) y).d.kind = y.d.kind := by
    intro l
    induction l with
    | nil => intro y; rfl
    | cons c l ih => intro y; rw [List.foldl_cons, ih]; unfold sputL; repeat' split
                     all_goals rfl
  exact h _ _
set_option maxHeartbeats 4000000 in
theorem same_only (x : DD) (k : ByteArray) : x.d = (onlyA x (hasF k) (hasF k).size).d ↔
    (hasC k 115 ∨ x.d.side = 0) ∧ (hasC k 111 ∨ x.d.obj = 0) ∧ (hasC k 109 ∨ x.d.method = mtB) ∧ (hasC k 97 ∨ x.d.args = []) ∧ (hasC k 110 ∨ x.d.n = 0) ∧ (hasC k 116 ∨ x.d.at' = 0) ∧ (hasC k 114 ∨ x.d.ref = 0) ∧ (hasC k 99 ∨ x.d.cls = mtB) ∧ (hasC k 98 ∨ x.d.bytes = mtB) := by
  have h0 := only_kind x (hasF k)
  have h1 := only_get x (fun y => y.d.side) 115 (by omega) (by intro y c; unfold sputL; (repeat' split) <;> first | rfl | omega) (hasF k)
  have h2 := only_get x (fun y => y.d.obj) 111 (by omega) (by intro y c; unfold sputL; (repeat' split) <;> first | rfl | omega) (hasF k)
  have h3 := only_get x (fun y => y.d.method) 109 (by omega) (by intro y c; unfold sputL; (repeat' split) <;> first | rfl | omega) (hasF k)
  have h4 := only_get x (fun y => y.d.args) 97 (by omega) (by intro y c; unfold sputL; (repeat' split) <;> first | rfl | omega) (hasF k)
  have h5 := only_get x (fun y => y.d.n) 110 (by omega) (by intro y c; unfold sputL; (repeat' split) <;> first | rfl | omega) (hasF k)
  have h6 := only_get x (fun y => y.d.at') 116 (by omega) (by intro y c; unfold sputL; (repeat' split) <;> first | rfl | omega) (hasF k)
  have h7 := only_get x (fun y => y.d.ref) 114 (by omega) (by intro y c; unfold sputL; (repeat' split) <;> first | rfl | omega) (hasF k)
  have h8 := only_get x (fun y => y.d.cls) 99 (by omega) (by intro y c; unfold sputL; (repeat' split) <;> first | rfl | omega) (hasF k)
  have h9 := only_get x (fun y => y.d.bytes) 98 (by omega) (by intro y c; unfold sputL; (repeat' split) <;> first | rfl | omega) (hasF k)
  have key : ∀ {X : Type} (a z : X) (c : UInt8), (a = if c ∈ bs (hasF k) then a else z) ↔ (hasC k c ∨ a = z) := by
    intro X a z c
    unfold hasC
    by_cases h : c ∈ bs (hasF k) <;> simp [h]
  rw [← sameP_iff]
  unfold sameP
  rw [h0, h1, h2, h3, h4, h5, h6, h7, h8, h9]
  have hoz : onlyZ x.d.kind = ⟨⟨x.d.kind, 0, 0, mtB, [], 0, 0, 0, mtB, mtB⟩, .slice none 0 0⟩ := rfl
  rw [hoz]
  simp only [true_and]
  rw [Int.ofNat_inj]
  exact and_congr (key _ _ _) (and_congr (key _ _ _) (and_congr (key _ _ _) (and_congr (key _ _ _) (and_congr (key _ _ _) (and_congr (key _ _ _) (and_congr (key _ _ _) (and_congr (key _ _ _) (key _ _ _))))))))
theorem entT_ls : ∀ e ∈ entT, ∀ c ∈ bs e.2, c.toNat ∈ onlyLs := by decide
theorem hasF_ls (k : ByteArray) (i : Nat) (h : i < (hasF k).size) : (bat (hasF k) i).toNat ∈ onlyLs := by
  have hl : i < (bs (hasF k)).length := h
  have hb : bat (hasF k) i ∈ bs (hasF k) := by
    unfold bat
    rw [List.getD_eq_getElem?_getD, List.getElem?_eq_getElem hl]
    exact List.getElem_mem hl
  unfold hasF hasO at hb ⊢
  cases hf : entT.find? fun e => decide (e.1 = k) with
  | none => rw [hf] at hb; simp [bs] at hb
  | some e => rw [hf] at hb; exact entT_ls e (List.mem_of_find?_eq_some hf) _ hb
theorem only_ok {w : World} {x : DD} (h : x.ok w) (s : ByteArray) : (onlyA x s s.size).ok w := by
  have ha := only_get x (fun y => (y.va, y.d.args)) 97 (by omega) (by intro y c; unfold sputL; (repeat' split) <;> first | rfl | omega) s
  unfold DD.ok
  split at ha
  · injection ha with h1 h2; rw [h1, h2]; exact h
  · injection ha with h1 h2; rw [h1, h2]; exact Sl.nil w 4
theorem only_len (x : DD) (s : ByteArray) : (onlyA x s s.size).d.args.length ≤ x.d.args.length := by
  have ha := only_get x (fun y => y.d.args) 97 (by omega) (by intro y c; unfold sputL; (repeat' split) <;> first | rfl | omega) s
  rw [ha]
  split
  · exact Nat.le_refl _
  · exact Nat.zero_le _
/-- Check, as the program asks it. -/
def chkQ (x : DD) : Prop := ((hasO x.d.kind).isSome = true ∧ x.d = (onlyA x (hasF x.d.kind) (hasF x.d.kind).size).d ∧ x.d.args.length ≤ 8 ∧ (x.d.args.any fun v => !decide (argP v)) = false) ∧
  (hasC x.d.kind 109 → nameP x.d.method ∧ ¬ classP x.d.method) ∧ (hasC x.d.kind 99 → classP x.d.cls) ∧ 0 ≤ x.d.side ∧ x.d.side ≤ 1 ∧ (0 ≤ x.d.n ∧ x.d.n ≤ 1000000) ∧ (0 ≤ x.d.at' ∧ x.d.at' ≤ 1000000) ∧ (0 ≤ x.d.ref ∧ x.d.ref ≤ 1000000) ∧ x.d.bytes.size ≤ 100
end Go.Proofs.YtgmeojpekdekeaaGreatDoor
