/- Parts of the proof (Ref05, Ref05b, Ref05p). -/
import Derived.Test.YthpknpfhpkkheaaGreatDoorMGh
namespace Go.Proofs.YthpknpfhpkkheaaGreatDoor
open Go Go.RowKit
set_option linter.unusedVariables false
set_option linter.unusedSimpArgs false
set_option maxRecDepth 100000
set_option maxHeartbeats 1000000 in
theorem rmany05_walk (c : CC) (w0 : World) (hc : c.ok w0) (hs : c.p.sz) : Does Tryz.prog 28 #[c.v] w0 (fun r w' => r = .bool (decide (manyP c.p)) ∧ Nw w0 w') := by
  have h1c := hc.one
  have hql := q_len hc
  have hcl := hc.l
  have hcf := hc.f
  have hcm := hc.m
  have hlm := hs.lm
  refine fn_of (n := 54) (args := [c.v]) Tryz.func28 rfl rfl rfl (W_seq (W_region ?_))
  refine L_new (.plain rfl) rfl rfl (r_boxa rfl) (fun w1 b1 hb1 eb1 hs1 c1 => (L_r (r_ab rfl) (L_nil (W_seq (W_seq (W_region (L_r (r_ai rfl) (L_nil ?_))))))))
  refine W_block ?_
  refine W_loopF [1] (fun mz_ f W => ∃ (i : Nat), f 3 = .int .i64 i ∧ (i ≤ c.q.length ∧ (∀ j (hj : j < c.q.length), j < i → ¬ manyM c.q[j].m) ∧ Nw w0 W ∧ Bk W b1 #[.string c.p.name, .string c.p.super, c.vl, .bool c.p.ifc, .bool c.p.abs, .bool c.p.fin, c.vf, c.vm] 26) ∧ mz_ = c.q.length - i) ?_ ?_
  ·
   refine ⟨_, 0, rfl, ?_, rfl⟩
   exact ⟨by omega, fun j hj hji => absurd hji (by omega), Ch.au, Bk.au⟩
  rintro m0 g0 w2 ⟨i, hf3, hR0, rfl⟩
  refine W_as 3 hf3 rfl ?_
  clear hf3
  obtain ⟨hi, hn, hnw, hbc⟩ := hR0
  have hz := hnw.size
  refine W_seq (W_seq (W_region (L_r (r_mi rfl) ?_)))
  refine L_r (r_fieldb Tryz.underlying26 rfl (show _ = some 1 from rfl) rfl rfl (show _ = 7 from rfl)) (L_r (r_lb rfl rfl) ?_)
  refine L_r (r_lenSl Tryz.underlying24 (by conv => lhs; whnf) Sl.au) (L_r (r_lss rfl rfl) (L_nil ?_))
  refine W_if rfl (fun h9 => ?_) (fun h9 => ?_)
  ·
   have hil : i < c.q.length := by omega
   have hrow := cellsCM_row c.q i hil
   have hxm := List.getElem_mem hil
   obtain ⟨x, hx⟩ : ∃ x, x = c.q[i] := ⟨_, rfl⟩
   rw [← hx] at hrow hxm
   have hxo := hc.ms x hxm
   have h1x := hxo.one
   have hxp := hxo.p
   have hxc := hxo.c
   have hxk := hxo.k
   refine W_skip (W_seq (W_block (W_seq (W_region ?_))))
   refine L_r (r_fieldb Tryz.underlying26 rfl (show _ = some 1 from rfl) rfl rfl (show _ = 7 from rfl)) (L_r (r_lb rfl rfl) (L_r (r_mi rfl) ?_))
   refine L_r (r_ix Tryz.underlying24 (show _ = some 7 from rfl) (by conv => lhs; whnf) rfl Sl.au) ?_
   refine L_r (r_loadSlrow (us := [.string x.m.name, x.vp, .string x.m.result, .bool x.m.abs, .int .i64 x.m.locals, x.vc, x.vk]) Tryz.underlying43 rfl rfl rfl rfl Sl.au (by exact hrow)) ?_
   refine L_new (.plain rfl) rfl rfl (r_alloca rfl) (fun w3 b4 hb4 eb3 hs3 c3 => ?_)
   refine L_storerow (.plain rfl) rfl rfl Bk.au (by first | rfl | (simp; done) | assumption) (by first | rfl | assumption) (by first | rfl | (simp [Value.oneCell']; done) | assumption) (fun w4 hb4 hs4 c4 => (L_nil (W_seq (W_region ?_))))
   refine L_r (r_fieldb Tryz.underlying43 rfl (show _ = some 1 from rfl) rfl rfl (show _ = 1 from rfl)) (L_r (r_lb rfl rfl) ?_)
   refine L_r (r_lenSl Tryz.underlying22 (by conv => lhs; whnf) Sl.au) (L_r (r_gtr rfl rfl) (L_r (r_mb rfl) ?_))
   refine L_case (d := 21) rfl (fun h21 => ?_) (fun h21 => ?_)
   ·
    refine L_ps (L_ps (L_ps (L_ps (L_r (r_pt rfl rfl) (L_r (r_mb rfl) (L_ps (L_ps (L_ps ?_))))))))
    refine L_ps (L_r (r_pt rfl rfl) (L_r (r_mb rfl) (L_ps (L_ps (L_ps (L_r (r_pt rfl rfl) (L_nil ?_)))))))
    refine W_true rfl (W_seq (W_region (L_r (r_ab rfl) (L_nil (W_ret ?_)))))
    refine ret1 (v := .bool _) rfl rfl ?_
    refine ⟨?_, Ch.au⟩
    first
    | exact bool_t (.inl ⟨x.m, q_mem hc hxm, by unfold manyM; omega⟩)
    | exact bool_t (.inr (by omega))
    | (refine bool_dec ⟨fun k => .inr (by omega), fun k => ?_⟩
       rcases k with ⟨m, hm, k⟩ | k
       · exfalso
         rw [← hc.e] at hm
         obtain ⟨y, hy, rfl⟩ := List.mem_map.1 hm
         obtain ⟨j, hj, rfl⟩ := List.mem_iff_getElem.1 hy
         exact hn j hj (by omega) k
       · omega)
   ·
    refine L_g (r_fieldb Tryz.underlying43 rfl (show _ = some 1 from rfl) rfl rfl (show _ = 6 from rfl)) ?_
    refine L_g (r_lb rfl rfl) ?_
    refine L_g (r_lenSl Tryz.underlying41 (by conv => lhs; whnf) Sl.au) ?_
    refine L_g (r_gtr rfl rfl) (L_r (r_pf rfl rfl) (L_r (r_mb rfl) ?_))
    refine L_case (d := 27) rfl (fun h27 => ?_) (fun h27 => ?_)
    ·
     refine L_ps (L_ps (L_ps (L_ps (L_r (r_pt rfl rfl) (L_r (r_mb rfl) (L_ps (L_ps (L_ps ?_))))))))
     refine L_r (r_pt rfl rfl) (L_nil ?_)
     refine W_true rfl (W_seq (W_region (L_r (r_ab rfl) (L_nil (W_ret ?_)))))
     refine ret1 (v := .bool _) rfl rfl ?_
     refine ⟨?_, Ch.au⟩
     first
     | exact bool_t (.inl ⟨x.m, q_mem hc hxm, by unfold manyM; omega⟩)
     | exact bool_t (.inr (by omega))
     | (refine bool_dec ⟨fun k => .inr (by omega), fun k => ?_⟩
        rcases k with ⟨m, hm, k⟩ | k
        · exfalso
          rw [← hc.e] at hm
          obtain ⟨y, hy, rfl⟩ := List.mem_map.1 hm
          obtain ⟨j, hj, rfl⟩ := List.mem_iff_getElem.1 hy
          exact hn j hj (by omega) k
        · omega)
    ·
     refine L_g (r_fieldb Tryz.underlying43 rfl (show _ = some 1 from rfl) rfl rfl (show _ = 5 from rfl)) ?_
     refine L_g (r_lb rfl rfl) ?_
     refine L_g (r_lenSl Tryz.underlying40 (by conv => lhs; whnf) Sl.au) ?_
     refine L_g (r_gtr rfl rfl) (L_r (r_pf rfl rfl) (L_r (r_mb rfl) ?_))
     refine L_case (d := 33) rfl (fun h33 => ?_) (fun h33 => ?_)
     ·
      refine L_ps (L_ps (L_ps (L_r (r_pt rfl rfl) (L_nil ?_))))
      refine W_true rfl (W_seq (W_region (L_r (r_ab rfl) (L_nil (W_ret ?_)))))
      refine ret1 (v := .bool _) rfl rfl ?_
      refine ⟨?_, Ch.au⟩
      first
      | exact bool_t (.inl ⟨x.m, q_mem hc hxm, by unfold manyM; omega⟩)
      | exact bool_t (.inr (by omega))
      | (refine bool_dec ⟨fun k => .inr (by omega), fun k => ?_⟩
         rcases k with ⟨m, hm, k⟩ | k
         · exfalso
           rw [← hc.e] at hm
           obtain ⟨y, hy, rfl⟩ := List.mem_map.1 hm
           obtain ⟨j, hj, rfl⟩ := List.mem_iff_getElem.1 hy
           exact hn j hj (by omega) k
         · omega)
     ·
      refine L_g (r_fieldb Tryz.underlying43 rfl (show _ = some 1 from rfl) rfl rfl (show _ = 4 from rfl)) ?_
      refine L_g (r_lb rfl rfl) ?_
      refine L_g (r_gtr rfl rfl) (L_r (r_pf rfl rfl) (L_nil ?_))
      refine W_if rfl (fun h37 => ?_) (fun h37 => ?_)
      ·
       refine W_seq (W_region (L_r (r_ab rfl) (L_nil (W_ret ?_))))
       refine ret1 (v := .bool _) rfl rfl ?_
       refine ⟨?_, Ch.au⟩
       first
       | exact bool_t (.inl ⟨x.m, q_mem hc hxm, by unfold manyM; omega⟩)
       | exact bool_t (.inr (by omega))
       | (refine bool_dec ⟨fun k => .inr (by omega), fun k => ?_⟩
          rcases k with ⟨m, hm, k⟩ | k
          · exfalso
            rw [← hc.e] at hm
            obtain ⟨y, hy, rfl⟩ := List.mem_map.1 hm
            obtain ⟨j, hj, rfl⟩ := List.mem_iff_getElem.1 hy
            exact hn j hj (by omega) k
          · omega)
      ·
       refine W_skip (W_region (L_r (r_mi rfl) ?_))
       refine L_r (r_add rfl rfl (by first | exact wr_i64 (by omega) | rfl)) (L_r (r_ai rfl) (L_nil ?_))
       refine ⟨⟨fx2, trivial⟩, _, ?_, i + 1, rfl, ?_, rfl⟩
       · omega
       refine ⟨by omega, fun j hj hji => ?_, Ch.au, Bk.au⟩
       rcases Nat.lt_or_ge j i with h | h
       · exact hn j hj h
       ·
        have e : j = i := by omega
        subst e
        rw [← hx]
        unfold manyM
        omega
  ·
   refine W_exit ?_
   repeat (first | refine blk_hit ?_ | refine blk_miss rfl ?_)
   refine W_seq (W_region ?_)
   refine L_r (r_fieldb Tryz.underlying26 rfl (show _ = some 1 from rfl) rfl rfl (show _ = 2 from rfl)) (L_r (r_lb rfl rfl) ?_)
   refine L_r (r_lenSl Tryz.underlying22 (by conv => lhs; whnf) Sl.au) (L_r (r_gtr rfl rfl) (L_r (r_mb rfl) ?_))
   refine L_case (d := 42) rfl (fun h42 => ?_) (fun h42 => ?_)
   ·
    refine L_ps (L_ps (L_ps (L_ps (L_r (r_pt rfl rfl) (L_r (r_mb rfl) (L_ps (L_ps (L_ps ?_))))))))
    refine L_ps (L_r (r_pt rfl rfl) (L_r (r_ab rfl) (L_nil (W_ret ?_))))
    refine ret1 (v := .bool _) rfl rfl ?_
    refine ⟨?_, Ch.au⟩
    first
    | exact bool_t (.inl ⟨x.m, q_mem hc hxm, by unfold manyM; omega⟩)
    | exact bool_t (.inr (by omega))
    | (refine bool_dec ⟨fun k => .inr (by omega), fun k => ?_⟩
       rcases k with ⟨m, hm, k⟩ | k
       · exfalso
         rw [← hc.e] at hm
         obtain ⟨y, hy, rfl⟩ := List.mem_map.1 hm
         obtain ⟨j, hj, rfl⟩ := List.mem_iff_getElem.1 hy
         exact hn j hj (by omega) k
       · omega)
   ·
    refine L_g (r_fieldb Tryz.underlying26 rfl (show _ = some 1 from rfl) rfl rfl (show _ = 6 from rfl)) ?_
    refine L_g (r_lb rfl rfl) ?_
    refine L_g (r_lenSl Tryz.underlying23 (by conv => lhs; whnf) Sl.au) ?_
    refine L_g (r_gtr rfl rfl) (L_r (r_pf rfl rfl) (L_r (r_mb rfl) ?_))
    refine L_case (d := 48) rfl (fun h48 => ?_) (fun h48 => ?_)
    ·
     refine L_ps (L_ps (L_ps (L_ps (L_r (r_pt rfl rfl) (L_r (r_ab rfl) (L_nil (W_ret ?_)))))))
     refine ret1 (v := .bool _) rfl rfl ?_
     refine ⟨?_, Ch.au⟩
     first
     | exact bool_t (.inl ⟨x.m, q_mem hc hxm, by unfold manyM; omega⟩)
     | exact bool_t (.inr (by omega))
     | (refine bool_dec ⟨fun k => .inr (by omega), fun k => ?_⟩
        rcases k with ⟨m, hm, k⟩ | k
        · exfalso
          rw [← hc.e] at hm
          obtain ⟨y, hy, rfl⟩ := List.mem_map.1 hm
          obtain ⟨j, hj, rfl⟩ := List.mem_iff_getElem.1 hy
          exact hn j hj (by omega) k
        · omega)
    ·
     refine L_g (r_fieldb Tryz.underlying26 rfl (show _ = some 1 from rfl) rfl rfl (show _ = 7 from rfl)) ?_
     refine L_g (r_lb rfl rfl) ?_
     refine L_g (r_lenSl Tryz.underlying24 (by conv => lhs; whnf) Sl.au) ?_
     refine L_g (r_gtr rfl rfl) (L_r (r_pf rfl rfl) (L_r (r_ab rfl) (L_nil (W_ret ?_))))
     refine ret1 (v := .bool _) rfl rfl ?_
     refine ⟨?_, Ch.au⟩
     first
     | exact bool_t (.inl ⟨x.m, q_mem hc hxm, by unfold manyM; omega⟩)
     | exact bool_t (.inr (by omega))
     | (refine bool_dec ⟨fun k => .inr (by omega), fun k => ?_⟩
        rcases k with ⟨m, hm, k⟩ | k
        · exfalso
          rw [← hc.e] at hm
          obtain ⟨y, hy, rfl⟩ := List.mem_map.1 hm
          obtain ⟨j, hj, rfl⟩ := List.mem_iff_getElem.1 hy
          exact hn j hj (by omega) k
        · omega)
def headP (m : Mth) : Prop := memP m.name ∧ (m.result = { data := #[] } ∨ rightK m.result)
instance (m : Mth) : Decidable (headP m) := inferInstanceAs (Decidable (_ ∧ (_ ∨ _)))
set_option maxHeartbeats 4000000 in
theorem rmethod05_walk (x : MM) (w0 : World) (hx : x.ok w0) (hs : x.m.sz) : Does Tryz.prog 74 #[x.v] w0 (fun r w' => r = .bool (decide (mthP x.m)) ∧ Nw w0 w') := by
  have h1x := hx.one
  have hxw := fun W (c : Nw w0 W) => hx.nw c
  have hxp := hx.p
  have hxc := hx.c
  have hxk := hx.k
  have hl1 := hs.lp
  have hl2 := hs.lc
  have hl3 := hs.lk
  have key1 : x.m.abs = true → (mthP x.m ↔ (headP x.m ∧ ∀ j (hj : j < x.m.params.length), rightK x.m.params[j]) ∧ x.m.locals = 0 ∧ (x.m.code.length : Int) = 0 ∧ (x.m.cats.length : Int) = 0) := by
    intro ha
    unfold mthP bodyP headP
    rw [if_pos ha]
    constructor
    · rintro ⟨q1, q2, q3, q4, q5, q6⟩; exact ⟨⟨⟨q1, q3⟩, fun j hj => q2 _ (List.getElem_mem hj)⟩, q4, by rw [q5]; rfl, by rw [q6]; rfl⟩
    · rintro ⟨⟨⟨q1, q3⟩, q2⟩, q4, q5, q6⟩; exact ⟨q1, fun p hp => by obtain ⟨j, hj, rfl⟩ := List.mem_iff_getElem.1 hp; exact q2 j hj, q3, q4, List.length_eq_zero_iff.1 (by omega), List.length_eq_zero_iff.1 (by omega)⟩
  have key2 : x.m.abs = false → (mthP x.m ↔ ((headP x.m ∧ ∀ j (hj : j < x.m.params.length), rightK x.m.params[j]) ∧ ∀ j (hj : j < x.m.cats.length), catP x.m.code.length x.m.cats[j]) ∧ 0 < (x.m.code.length : Int) ∧ (x.m.params.length : Int) < x.m.locals ∧ allI x.m.code = 0) := by
    intro ha
    unfold mthP bodyP headP
    rw [if_neg (by rw [ha]; decide)]
    constructor
    · rintro ⟨q1, q2, q3, q4, q5, q6, q7⟩; exact ⟨⟨⟨⟨q1, q3⟩, fun j hj => q2 _ (List.getElem_mem hj)⟩, fun j hj => q7 _ (List.getElem_mem hj)⟩, by omega, q5, q6⟩
    · rintro ⟨⟨⟨⟨q1, q3⟩, q2⟩, q7⟩, q4, q5, q6⟩; exact ⟨q1, fun p hp => by obtain ⟨j, hj, rfl⟩ := List.mem_iff_getElem.1 hp; exact q2 j hj, q3, by omega, q5, q6, fun p hp => by obtain ⟨j, hj, rfl⟩ := List.mem_iff_getElem.1 hp; exact q7 j hj⟩
  refine fn_of (n := 126) (args := [x.v]) Tryz.func74 rfl rfl rfl (W_seq (W_region ?_))
  refine L_new (.plain rfl) rfl rfl (r_boxa rfl) (fun w1 b1 hb1 eb1 hs1 c1 => (L_r (r_ab rfl) (L_nil ?_)))
  refine W_cutF [1] (fun f W => f 3 = .bool (decide (headP x.m)) ∧ (Bk W b1 #[.string x.m.name, x.vp, .string x.m.result, .bool x.m.abs, .int .i64 x.m.locals, x.vc, x.vk] 43 ∧ Nw w0 W)) ?_ ?_
  ·
   refine W_region ?_
   refine L_r (r_fieldb Tryz.underlying43 rfl (show _ = some 1 from rfl) rfl rfl (show _ = 0 from rfl)) (L_r (r_lb rfl rfl) ?_)
   refine L_call (.plain rfl) rfl rfl (r_call Tryz.func72 rfl rfl rfl (by rfl)) (rmember_walk x.m.name _ hs.name) ?_
   rintro v10 w2 ⟨rfl, c2⟩
   have hz2 := c2.size
   refine L_r (r_mb rfl) ?_
   refine L_caseb (d := 11) rfl (fun h11 => ?_) (fun h11 => ?_)
   ·
    refine L_g (r_fieldb Tryz.underlying43 rfl (show _ = some 1 from rfl) rfl rfl (show _ = 2 from rfl)) ?_
    refine L_g (r_lb rfl rfl) ?_
    refine L_g (r_eqls rfl rfl) ?_
    refine L_g (r_mb rfl) ?_
    refine L_case (d := 15) rfl (fun h15 => ?_) (fun h15 => ?_)
    ·
     refine L_ps (L_ps (L_ps ?_))
     refine L_g (r_pt rfl rfl) (L_r (r_pt rfl rfl) (L_r (r_ab rfl) (L_nil ?_)))
     refine ⟨⟨fx2, trivial⟩, (dec_t (by unfold headP; rw [memP_iff]; clear key1 key2; simp_all)), ?_⟩
     exact ⟨Bk.au, Ch.au⟩
    ·
     refine L_g (r_fieldb Tryz.underlying43 rfl (show _ = some 1 from rfl) rfl rfl (show _ = 2 from rfl)) ?_
     refine L_g (r_lb rfl rfl) ?_
     refine L_call (.yes 7 false rfl rfl) rfl rfl (r_call Tryz.func73 rfl rfl rfl (by rfl)) (rright_walk x.m.result _ hs.result) ?_
     rintro v18 w3 ⟨rfl, c3⟩
     have hz3 := c3.size
     refine L_g (r_pf rfl rfl) (L_r (r_pt rfl rfl) (L_r (r_ab rfl) (L_nil ?_)))
     refine ⟨⟨fx2, trivial⟩, (dec_b (by unfold headP; rw [memP_iff]; clear key1 key2; simp_all)), ?_⟩
     exact ⟨Bk.au, Ch.au⟩
   ·
    refine L_ps (L_ps (L_ps (L_ps ?_)))
    refine L_pu ?_
    refine L_pu ?_
    refine L_pu (L_ps (L_r (r_pf rfl rfl) (L_r (r_ab rfl) (L_nil ?_))))
    refine ⟨⟨fx2, trivial⟩, (dec_f (by unfold headP; rw [memP_iff]; clear key1 key2; simp_all)), ?_⟩
    exact ⟨Bk.au, Ch.au⟩
  rintro gcr1 w4 ⟨hf3, hCr1⟩
  refine W_as 3 hf3 rfl ?_
  clear hf3
  obtain ⟨hbx, hnw1⟩ := hCr1
  have hz1 := hnw1.size
  refine W_seq (W_seq (W_region (L_r (r_ai rfl) (L_nil (W_block ?_)))))
  refine W_loopF [1] (fun mz_ f W => ∃ (i : Nat) (ok : Bool), f 4 = .int .i64 i ∧ f 3 = .bool ok ∧ (i ≤ x.m.params.length ∧ (ok = true ↔ headP x.m ∧ ∀ j (hj : j < x.m.params.length), j < i → rightK x.m.params[j]) ∧ Nw w0 W ∧ Bk W b1 #[.string x.m.name, x.vp, .string x.m.result, .bool x.m.abs, .int .i64 x.m.locals, x.vc, x.vk] 43) ∧ mz_ = x.m.params.length - i) ?_ ?_
  ·
   refine ⟨_, 0, decide (headP x.m), rfl, rfl, ?_, rfl⟩
   exact ⟨by omega, by simp, Ch.au, Bk.au⟩
  rintro m0 g0 w5 ⟨i, ok, hf4, hf3, hR0, rfl⟩
  refine W_as 4 hf4 rfl ?_
  refine W_as 3 hf3 rfl ?_
  clear hf4 hf3
  obtain ⟨hi, hok, hnw, hbc⟩ := hR0
  have hz := hnw.size
  refine W_seq (W_seq (W_region (L_r (r_mi rfl) ?_)))
  refine L_r (r_fieldb Tryz.underlying43 rfl (show _ = some 1 from rfl) rfl rfl (show _ = 1 from rfl)) (L_r (r_lb rfl rfl) ?_)
  refine L_r (r_lenSl Tryz.underlying22 (by conv => lhs; whnf) Sl.au) (L_r (r_lss rfl rfl) (L_nil ?_))
  refine W_if rfl (fun h25 => ?_) (fun h25 => ?_)
  ·
   have hil : i < x.m.params.length := by omega
   have hrow := scells_get x.m.params i hil
   have hpm := List.getElem_mem hil
   obtain ⟨p, hp⟩ : ∃ p, p = x.m.params[i] := ⟨_, rfl⟩
   rw [← hp] at hrow hpm
   have hps := hs.params p hpm
   refine W_skip (W_seq (W_block ?_))
   refine W_endF [1, 4] (fun f W => f 3 = .bool (decide (ok = true ∧ rightK p)) ∧ (Nw w0 W ∧ Bk W b1 #[.string x.m.name, x.vp, .string x.m.result, .bool x.m.abs, .int .i64 x.m.locals, x.vc, x.vk] 43)) ?_ ?_
   ·
    refine W_region (L_r (r_mb rfl) (L_r (r_mb rfl) ?_))
    refine L_caseb (d := 29) rfl (fun h29 => ?_) (fun h29 => ?_)
    ·
     refine L_g (r_fieldb Tryz.underlying43 rfl (show _ = some 1 from rfl) rfl rfl (show _ = 1 from rfl)) ?_
     refine L_g (r_lb rfl rfl) ?_
     refine L_g (r_mi rfl) ?_
     refine L_g (r_ix Tryz.underlying22 (show _ = some 1 from rfl) (by conv => lhs; whnf) rfl Sl.au) ?_
     refine L_g (r_loadSl rfl rfl Sl.au (by first | exact hrow | assumption)) ?_
     refine L_call (.yes 1 true rfl rfl) rfl rfl (r_call Tryz.func73 rfl rfl rfl (by rfl)) (rright_walk p _ hps) ?_
     rintro v35 w6 ⟨rfl, c6⟩
     have hz6 := c6.size
     refine L_r (r_pt rfl rfl) (L_r (r_ab rfl) (L_nil ?_))
     refine ⟨⟨fx2, fx2, trivial⟩, (dec_b (by clear key1 key2 hok; simp_all)), ?_⟩
     exact ⟨Ch.au, Bk.au⟩
    ·
     refine L_ps (L_ps (L_ps (L_ps (L_ps (L_ps (L_r (r_pf rfl rfl) (L_r (r_ab rfl) (L_nil ?_))))))))
     refine ⟨⟨fx2, fx2, trivial⟩, (dec_f (by clear key1 key2 hok; simp_all)), ?_⟩
     exact ⟨Ch.au, Bk.au⟩
   rintro gcr5 w7 ⟨hf3, hCr5⟩
   refine W_as 3 hf3 rfl ?_
   clear hf3
   obtain ⟨hnw5, hb5⟩ := hCr5
   have hz5 := hnw5.size
   refine W_region (L_r (r_mi rfl) ?_)
   refine L_r (r_add rfl rfl (by first | exact wr_i64 (by omega) | rfl)) (L_r (r_ai rfl) (L_nil ?_))
   refine ⟨⟨fx2, trivial⟩, _, ?_, i + 1, decide (ok = true ∧ rightK p), rfl, rfl, ?_, rfl⟩
   · omega
   refine ⟨by omega, ?_, Ch.au, Bk.au⟩
   rw [decide_eq_true_eq, hok, and_assoc]
   refine and_congr_right fun _ => ⟨fun h j hj hji => ?_, fun h => ⟨fun j hj hji => h j hj (by omega), by rw [hp]; exact h i hil (by omega)⟩⟩
   rcases Nat.lt_or_ge j i with h2 | h2
   · exact h.1 j hj h2
   ·
    have e : j = i := by omega
    subst e; rw [← hp]; exact h.2
  ·
   refine W_exit ?_
   repeat (first | refine blk_hit ?_ | refine blk_miss rfl ?_)
   refine W_seq (W_seq ?_)
   have hok2 : ok = true ↔ headP x.m ∧ ∀ j (hj : j < x.m.params.length), rightK x.m.params[j] := by
     rw [hok]
     exact and_congr_right fun _ => ⟨fun h j hj => h j hj (by omega), fun h j hj _ => h j hj⟩
   refine W_region ?_
   refine L_r (r_fieldb Tryz.underlying43 rfl (show _ = some 1 from rfl) rfl rfl (show _ = 3 from rfl)) (L_r (r_lb rfl rfl) (L_nil ?_))
   refine W_bool rfl (fun h38 => ?_) (fun h38 => ?_)
   ·
    refine W_seq (W_region (L_r (r_mb rfl) (L_r (r_mb rfl) ?_)))
    refine L_caseb (d := 40) rfl (fun h40 => ?_) (fun h40 => ?_)
    ·
     refine L_g (r_fieldb Tryz.underlying43 rfl (show _ = some 1 from rfl) rfl rfl (show _ = 4 from rfl)) ?_
     refine L_g (r_lb rfl rfl) ?_
     refine L_g (r_eql rfl rfl) (L_r (r_pt rfl rfl) (L_r (r_mb rfl) ?_))
     refine L_case (d := 45) rfl (fun h45 => ?_) (fun h45 => ?_)
     ·
      refine L_g (r_fieldb Tryz.underlying43 rfl (show _ = some 1 from rfl) rfl rfl (show _ = 5 from rfl)) ?_
      refine L_g (r_lb rfl rfl) ?_
      refine L_g (r_lenSl Tryz.underlying40 (by conv => lhs; whnf) Sl.au) ?_
      refine L_g (r_eql rfl rfl) (L_r (r_pt rfl rfl) (L_r (r_mb rfl) ?_))
      refine L_case (d := 51) rfl (fun h51 => ?_) (fun h51 => ?_)
      ·
       refine L_g (r_fieldb Tryz.underlying43 rfl (show _ = some 1 from rfl) rfl rfl (show _ = 6 from rfl)) ?_
       refine L_g (r_lb rfl rfl) ?_
       refine L_g (r_lenSl Tryz.underlying41 (by conv => lhs; whnf) Sl.au) ?_
       refine L_g (r_eql rfl rfl) (L_r (r_pt rfl rfl) (L_r (r_ab rfl) (L_nil (W_ret ?_))))
       refine ret1 (v := .bool _) rfl rfl ?_
       refine ⟨?_, Ch.au⟩
       first
       | exact bool_f (fun h => by rw [key1 (by assumption), ← hok2] at h; obtain ⟨q0, q1, q2, q3⟩ := h; first | omega | (rw [q0] at *; contradiction) | simp_all)
       | exact bool_f (fun h => by rw [key2 (by assumption), ← hoc2] at h; obtain ⟨q0, q1, q2, q3⟩ := h; first | omega | (rw [q0] at *; contradiction) | simp_all)
       | exact bool_dec (by rw [key1 (by assumption), ← hok2]; exact ⟨fun k => ⟨by assumption, by omega, by omega, by omega⟩, fun k => by omega⟩)
       | exact bool_dec (by rw [key2 (by assumption), ← hoc2]; exact ⟨fun k => ⟨by assumption, by omega, by omega, by omega⟩, fun k => by omega⟩)
      ·
       refine L_ps (L_ps (L_ps (L_ps (L_r (r_pf rfl rfl) (L_r (r_ab rfl) (L_nil (W_ret ?_)))))))
       refine ret1 (v := .bool _) rfl rfl ?_
       refine ⟨?_, Ch.au⟩
       first
       | exact bool_f (fun h => by rw [key1 (by assumption), ← hok2] at h; obtain ⟨q0, q1, q2, q3⟩ := h; first | omega | (rw [q0] at *; contradiction) | simp_all)
       | exact bool_f (fun h => by rw [key2 (by assumption), ← hoc2] at h; obtain ⟨q0, q1, q2, q3⟩ := h; first | omega | (rw [q0] at *; contradiction) | simp_all)
       | exact bool_dec (by rw [key1 (by assumption), ← hok2]; exact ⟨fun k => ⟨by assumption, by omega, by omega, by omega⟩, fun k => by omega⟩)
       | exact bool_dec (by rw [key2 (by assumption), ← hoc2]; exact ⟨fun k => ⟨by assumption, by omega, by omega, by omega⟩, fun k => by omega⟩)
     ·
      refine L_ps (L_ps (L_ps (L_ps (L_r (r_pf rfl rfl) (L_r (r_mb rfl) (L_ps (L_ps (L_ps ?_))))))))
      refine L_ps (L_r (r_pf rfl rfl) (L_r (r_ab rfl) (L_nil (W_ret ?_))))
      refine ret1 (v := .bool _) rfl rfl ?_
      refine ⟨?_, Ch.au⟩
      first
      | exact bool_f (fun h => by rw [key1 (by assumption), ← hok2] at h; obtain ⟨q0, q1, q2, q3⟩ := h; first | omega | (rw [q0] at *; contradiction) | simp_all)
      | exact bool_f (fun h => by rw [key2 (by assumption), ← hoc2] at h; obtain ⟨q0, q1, q2, q3⟩ := h; first | omega | (rw [q0] at *; contradiction) | simp_all)
      | exact bool_dec (by rw [key1 (by assumption), ← hok2]; exact ⟨fun k => ⟨by assumption, by omega, by omega, by omega⟩, fun k => by omega⟩)
      | exact bool_dec (by rw [key2 (by assumption), ← hoc2]; exact ⟨fun k => ⟨by assumption, by omega, by omega, by omega⟩, fun k => by omega⟩)
    ·
     refine L_ps (L_ps (L_ps (L_r (r_pf rfl rfl) (L_r (r_mb rfl) (L_ps (L_ps (L_ps (L_ps ?_))))))))
     refine L_r (r_pf rfl rfl) (L_r (r_mb rfl) (L_ps (L_ps (L_ps (L_ps (L_r (r_pf rfl rfl) (L_r (r_ab rfl) (L_nil ?_))))))))
     refine W_ret ?_
     refine ret1 (v := .bool _) rfl rfl ?_
     refine ⟨?_, Ch.au⟩
     first
     | exact bool_f (fun h => by rw [key1 (by assumption), ← hok2] at h; obtain ⟨q0, q1, q2, q3⟩ := h; first | omega | (rw [q0] at *; contradiction) | simp_all)
     | exact bool_f (fun h => by rw [key2 (by assumption), ← hoc2] at h; obtain ⟨q0, q1, q2, q3⟩ := h; first | omega | (rw [q0] at *; contradiction) | simp_all)
     | exact bool_dec (by rw [key1 (by assumption), ← hok2]; exact ⟨fun k => ⟨by assumption, by omega, by omega, by omega⟩, fun k => by omega⟩)
     | exact bool_dec (by rw [key2 (by assumption), ← hoc2]; exact ⟨fun k => ⟨by assumption, by omega, by omega, by omega⟩, fun k => by omega⟩)
   ·
    refine W_skip (W_seq (W_region ?_))
    refine L_r (r_fieldb Tryz.underlying43 rfl (show _ = some 1 from rfl) rfl rfl (show _ = 5 from rfl)) (L_r (r_lb rfl rfl) ?_)
    refine L_r (r_lenSl Tryz.underlying40 (by conv => lhs; whnf) Sl.au) (L_r (r_ai rfl) (L_nil (W_seq (W_seq (W_region (L_r (r_ai rfl) (L_nil (W_block ?_))))))))
    refine W_loopF [1, 5] (fun mz_ f W => ∃ (k : Nat) (oc : Bool), f 6 = .int .i64 k ∧ f 3 = .bool oc ∧ (k ≤ x.m.cats.length ∧ (oc = true ↔ ok = true ∧ ∀ j (hj : j < x.m.cats.length), j < k → catP x.m.code.length x.m.cats[j]) ∧ Nw w0 W ∧ Bk W b1 #[.string x.m.name, x.vp, .string x.m.result, .bool x.m.abs, .int .i64 x.m.locals, x.vc, x.vk] 43) ∧ mz_ = x.m.cats.length - k) ?_ ?_
    ·
     refine ⟨_, 0, ok, rfl, rfl, ?_, rfl⟩
     exact ⟨by omega, by simp, Ch.au, Bk.au⟩
    rintro m1 g1 w8 ⟨k, oc, hf6, hf3, hR1, rfl⟩
    refine W_as 6 hf6 rfl ?_
    refine W_as 3 hf3 rfl ?_
    clear hf6 hf3
    obtain ⟨hk, hoc, hnwk, hbk⟩ := hR1
    have hzk := hnwk.size
    refine W_seq (W_seq (W_region (L_r (r_mi rfl) ?_)))
    refine L_r (r_fieldb Tryz.underlying43 rfl (show _ = some 1 from rfl) rfl rfl (show _ = 6 from rfl)) (L_r (r_lb rfl rfl) ?_)
    refine L_r (r_lenSl Tryz.underlying41 (by conv => lhs; whnf) Sl.au) (L_r (r_lss rfl rfl) (L_nil ?_))
    refine W_if rfl (fun h64 => ?_) (fun h64 => ?_)
    ·
     have hkl : k < x.m.cats.length := by omega
     have hrowk := cellsCK_row x.m.cats k hkl
     have hqm := List.getElem_mem hkl
     obtain ⟨q, hq⟩ : ∃ q, q = x.m.cats[k] := ⟨_, rfl⟩
     rw [← hq] at hrowk hqm
     have hqs := hs.cats q hqm
     refine W_skip (W_seq (W_block (W_seq (W_region ?_))))
     refine L_r (r_fieldb Tryz.underlying43 rfl (show _ = some 1 from rfl) rfl rfl (show _ = 6 from rfl)) (L_r (r_lb rfl rfl) (L_r (r_mi rfl) ?_))
     refine L_r (r_ix Tryz.underlying41 (show _ = some 4 from rfl) (by conv => lhs; whnf) rfl Sl.au) ?_
     refine L_r (r_loadSlrow (us := [.int .i64 q.fr, .int .i64 q.tt, .int .i64 q.aa, .string q.cls]) Tryz.underlying70 rfl rfl rfl rfl Sl.au (by exact hrowk)) ?_
     refine L_new (.plain rfl) rfl rfl (r_alloca rfl) (fun w9 b7 hb7 eb9 hs9 c9 => ?_)
     refine L_storerow (.plain rfl) rfl rfl Bk.au (by first | rfl | (simp; done) | assumption) (by first | rfl | assumption) (by first | rfl | (simp [Value.oneCell']; done) | assumption) (fun w10 hb10 hs10 c10 => (L_nil ?_))
     refine W_endF [1, 5, 6] (fun f W => f 3 = .bool (decide (oc = true ∧ catP x.m.code.length q)) ∧ (Nw w0 W ∧ Bk W b1 #[.string x.m.name, x.vp, .string x.m.result, .bool x.m.abs, .int .i64 x.m.locals, x.vc, x.vk] 43)) ?_ ?_
     ·
      refine W_region (L_r (r_mb rfl) (L_r (r_mb rfl) ?_))
      refine L_caseb (d := 73) rfl (fun h73 => ?_) (fun h73 => ?_)
      ·
       refine L_g (r_fieldb Tryz.underlying70 rfl (show _ = some 1 from rfl) rfl rfl (show _ = 0 from rfl)) ?_
       refine L_g (r_lb rfl rfl) ?_
       refine L_g (r_geq rfl rfl) (L_r (r_pt rfl rfl) (L_r (r_mb rfl) ?_))
       refine L_case (d := 78) rfl (fun h78 => ?_) (fun h78 => ?_)
       ·
        refine L_g (r_fieldb Tryz.underlying70 rfl (show _ = some 1 from rfl) rfl rfl (show _ = 0 from rfl)) ?_
        refine L_g (r_lb rfl rfl) ?_
        refine L_g (r_fieldb Tryz.underlying70 rfl (show _ = some 1 from rfl) rfl rfl (show _ = 1 from rfl)) ?_
        refine L_g (r_lb rfl rfl) ?_
        refine L_g (r_lss rfl rfl) (L_r (r_pt rfl rfl) (L_r (r_mb rfl) ?_))
        refine L_case (d := 85) rfl (fun h85 => ?_) (fun h85 => ?_)
        ·
         refine L_g (r_fieldb Tryz.underlying70 rfl (show _ = some 1 from rfl) rfl rfl (show _ = 1 from rfl)) ?_
         refine L_g (r_lb rfl rfl) ?_
         refine L_g (r_mi rfl) ?_
         refine L_g (r_leq rfl rfl) (L_r (r_pt rfl rfl) (L_r (r_mb rfl) ?_))
         refine L_case (d := 91) rfl (fun h91 => ?_) (fun h91 => ?_)
         ·
          refine L_g (r_fieldb Tryz.underlying70 rfl (show _ = some 1 from rfl) rfl rfl (show _ = 2 from rfl)) ?_
          refine L_g (r_lb rfl rfl) ?_
          refine L_g (r_geq rfl rfl) (L_r (r_pt rfl rfl) (L_r (r_mb rfl) ?_))
          refine L_case (d := 96) rfl (fun h96 => ?_) (fun h96 => ?_)
          ·
           refine L_g (r_fieldb Tryz.underlying70 rfl (show _ = some 1 from rfl) rfl rfl (show _ = 2 from rfl)) ?_
           refine L_g (r_lb rfl rfl) ?_
           refine L_g (r_mi rfl) ?_
           refine L_g (r_lss rfl rfl) (L_r (r_pt rfl rfl) (L_r (r_mb rfl) ?_))
           refine L_case (d := 102) rfl (fun h102 => ?_) (fun h102 => ?_)
           ·
            refine L_g (r_fieldb Tryz.underlying70 rfl (show _ = some 1 from rfl) rfl rfl (show _ = 3 from rfl)) ?_
            refine L_g (r_lb rfl rfl) ?_
            refine L_call (.yes 30 true rfl rfl) rfl rfl (r_call Tryz.func71 rfl rfl rfl (by rfl)) (rclass_walk q.cls _ (by omega)) ?_
            rintro v105 w11 ⟨rfl, c11⟩
            have hz11 := c11.size
            refine L_r (r_pt rfl rfl) (L_r (r_ab rfl) (L_nil ?_))
            refine ⟨⟨fx2, fx2, fx2, trivial⟩, (dec_b (by first
| (rintro ⟨k0, q1, q2, q3, q4, q5, q6⟩; first | omega | (rw [k0] at *; contradiction) | simp_all; done)
| exact ⟨fun k => ⟨by assumption, by omega, by omega, by omega, by omega, by omega, of_decide_eq_true k⟩, fun k => decide_eq_true k.2.2.2.2.2.2⟩)), ?_⟩
            exact ⟨Ch.au, Bk.au⟩
           ·
            refine L_ps (L_ps (L_ps (L_r (r_pf rfl rfl) (L_r (r_ab rfl) (L_nil ?_)))))
            refine ⟨⟨fx2, fx2, fx2, trivial⟩, (dec_f (by first
| (rintro ⟨k0, q1, q2, q3, q4, q5, q6⟩; first | omega | (rw [k0] at *; contradiction) | simp_all; done)
| exact ⟨fun k => ⟨by assumption, by omega, by omega, by omega, by omega, by omega, of_decide_eq_true k⟩, fun k => decide_eq_true k.2.2.2.2.2.2⟩)), ?_⟩
            exact ⟨Ch.au, Bk.au⟩
          ·
           refine L_ps (L_ps (L_ps (L_ps (L_r (r_pf rfl rfl) (L_r (r_mb rfl) (L_ps (L_ps (L_ps ?_))))))))
           refine L_r (r_pf rfl rfl) (L_r (r_ab rfl) (L_nil ?_))
           refine ⟨⟨fx2, fx2, fx2, trivial⟩, (dec_f (by first
| (rintro ⟨k0, q1, q2, q3, q4, q5, q6⟩; first | omega | (rw [k0] at *; contradiction) | simp_all; done)
| exact ⟨fun k => ⟨by assumption, by omega, by omega, by omega, by omega, by omega, of_decide_eq_true k⟩, fun k => decide_eq_true k.2.2.2.2.2.2⟩)), ?_⟩
           exact ⟨Ch.au, Bk.au⟩
         ·
          refine L_ps (L_ps (L_ps (L_r (r_pf rfl rfl) (L_r (r_mb rfl) (L_ps (L_ps (L_ps (L_ps ?_))))))))
          refine L_r (r_pf rfl rfl) (L_r (r_mb rfl) (L_ps (L_ps (L_ps (L_r (r_pf rfl rfl) (L_r (r_ab rfl) (L_nil ?_)))))))
          refine ⟨⟨fx2, fx2, fx2, trivial⟩, (dec_f (by first
| (rintro ⟨k0, q1, q2, q3, q4, q5, q6⟩; first | omega | (rw [k0] at *; contradiction) | simp_all; done)
| exact ⟨fun k => ⟨by assumption, by omega, by omega, by omega, by omega, by omega, of_decide_eq_true k⟩, fun k => decide_eq_true k.2.2.2.2.2.2⟩)), ?_⟩
          exact ⟨Ch.au, Bk.au⟩
        ·
         refine L_ps (L_ps (L_ps (L_ps (L_r (r_pf rfl rfl) (L_r (r_mb rfl) (L_ps (L_ps (L_ps ?_))))))))
         refine L_r (r_pf rfl rfl) (L_r (r_mb rfl) (L_ps (L_ps (L_ps (L_ps (L_r (r_pf rfl rfl) (L_r (r_mb rfl) (L_ps ?_))))))))
         refine L_ps (L_ps (L_r (r_pf rfl rfl) (L_r (r_ab rfl) (L_nil ?_))))
         refine ⟨⟨fx2, fx2, fx2, trivial⟩, (dec_f (by first
| (rintro ⟨k0, q1, q2, q3, q4, q5, q6⟩; first | omega | (rw [k0] at *; contradiction) | simp_all; done)
| exact ⟨fun k => ⟨by assumption, by omega, by omega, by omega, by omega, by omega, of_decide_eq_true k⟩, fun k => decide_eq_true k.2.2.2.2.2.2⟩)), ?_⟩
         exact ⟨Ch.au, Bk.au⟩
       ·
        refine L_ps (L_ps (L_ps (L_ps (L_ps (L_r (r_pf rfl rfl) (L_r (r_mb rfl) (L_ps (L_ps ?_))))))))
        refine L_ps (L_ps (L_r (r_pf rfl rfl) (L_r (r_mb rfl) (L_ps (L_ps (L_ps (L_r (r_pf rfl rfl) (L_r (r_mb rfl) ?_))))))))
        refine L_ps (L_ps (L_ps (L_ps (L_r (r_pf rfl rfl) (L_r (r_mb rfl) (L_ps (L_ps (L_ps ?_))))))))
        refine L_r (r_pf rfl rfl) (L_r (r_ab rfl) (L_nil ?_))
        refine ⟨⟨fx2, fx2, fx2, trivial⟩, (dec_f (by first
| (rintro ⟨k0, q1, q2, q3, q4, q5, q6⟩; first | omega | (rw [k0] at *; contradiction) | simp_all; done)
| exact ⟨fun k => ⟨by assumption, by omega, by omega, by omega, by omega, by omega, of_decide_eq_true k⟩, fun k => decide_eq_true k.2.2.2.2.2.2⟩)), ?_⟩
        exact ⟨Ch.au, Bk.au⟩
      ·
       refine L_ps (L_ps (L_ps (L_r (r_pf rfl rfl) (L_r (r_mb rfl) (L_ps (L_ps (L_ps (L_ps ?_))))))))
       refine L_ps (L_r (r_pf rfl rfl) (L_r (r_mb rfl) (L_ps (L_ps (L_ps (L_ps (L_r (r_pf rfl rfl) (L_r (r_mb rfl) ?_))))))))
       refine L_ps (L_ps (L_ps (L_r (r_pf rfl rfl) (L_r (r_mb rfl) (L_ps (L_ps (L_ps (L_ps ?_))))))))
       refine L_r (r_pf rfl rfl) (L_r (r_mb rfl) (L_ps (L_ps (L_ps (L_r (r_pf rfl rfl) (L_r (r_ab rfl) (L_nil ?_)))))))
       refine ⟨⟨fx2, fx2, fx2, trivial⟩, (dec_f (by first
| (rintro ⟨k0, q1, q2, q3, q4, q5, q6⟩; first | omega | (rw [k0] at *; contradiction) | simp_all; done)
| exact ⟨fun k => ⟨by assumption, by omega, by omega, by omega, by omega, by omega, of_decide_eq_true k⟩, fun k => decide_eq_true k.2.2.2.2.2.2⟩)), ?_⟩
       exact ⟨Ch.au, Bk.au⟩
     rintro gcr13 w12 ⟨hf3, hCr13⟩
     refine W_as 3 hf3 rfl ?_
     clear hf3
     obtain ⟨hnw13, hb13⟩ := hCr13
     have hz13 := hnw13.size
     refine W_region (L_r (r_mi rfl) ?_)
     refine L_r (r_add rfl rfl (by first | exact wr_i64 (by omega) | rfl)) (L_r (r_ai rfl) (L_nil ?_))
     refine ⟨⟨fx2, fx2, trivial⟩, _, ?_, k + 1, decide (oc = true ∧ catP x.m.code.length q), rfl, rfl, ?_, rfl⟩
     · omega
     refine ⟨by omega, ?_, Ch.au, Bk.au⟩
     rw [decide_eq_true_eq, hoc, and_assoc]
     refine and_congr_right fun _ => ⟨fun h j hj hji => ?_, fun h => ⟨fun j hj hji => h j hj (by omega), by rw [hq]; exact h k hkl (by omega)⟩⟩
     rcases Nat.lt_or_ge j k with h2 | h2
     · exact h.1 j hj h2
     ·
      have e : j = k := by omega
      subst e; rw [← hq]; exact h.2
    ·
     refine W_exit ?_
     repeat (first | refine blk_hit ?_ | refine blk_miss rfl ?_)
     refine W_seq ?_
     have hoc2 : oc = true ↔ (headP x.m ∧ ∀ j (hj : j < x.m.params.length), rightK x.m.params[j]) ∧ ∀ j (hj : j < x.m.cats.length), catP x.m.code.length x.m.cats[j] := by
       rw [hoc, hok2]
       exact and_congr_right fun _ => ⟨fun h j hj => h j hj (by omega), fun h j hj _ => h j hj⟩
     refine W_region (L_r (r_mb rfl) (L_r (r_mb rfl) ?_))
     refine L_caseb (d := 108) rfl (fun h108 => ?_) (fun h108 => ?_)
     ·
      refine L_g (r_mi rfl) ?_
      refine L_g (r_gtr rfl rfl) (L_r (r_pt rfl rfl) (L_r (r_mb rfl) ?_))
      refine L_case (d := 112) rfl (fun h112 => ?_) (fun h112 => ?_)
      ·
       refine L_g (r_fieldb Tryz.underlying43 rfl (show _ = some 1 from rfl) rfl rfl (show _ = 4 from rfl)) ?_
       refine L_g (r_lb rfl rfl) ?_
       refine L_g (r_fieldb Tryz.underlying43 rfl (show _ = some 1 from rfl) rfl rfl (show _ = 1 from rfl)) ?_
       refine L_g (r_lb rfl rfl) ?_
       refine L_g (r_lenSl Tryz.underlying22 (by conv => lhs; whnf) Sl.au) ?_
       refine L_g (r_gtr rfl rfl) (L_r (r_pt rfl rfl) (L_r (r_mb rfl) ?_))
       refine L_case (d := 120) rfl (fun h120 => ?_) (fun h120 => ?_)
       ·
        refine L_g (r_fieldb Tryz.underlying43 rfl (show _ = some 1 from rfl) rfl rfl (show _ = 5 from rfl)) ?_
        refine L_g (r_lb rfl rfl) ?_
        refine L_call (.yes 13 true rfl rfl) rfl rfl (r_call Tryz.func136 rfl rfl rfl (by rfl)) (rall04_walk x.vc x.m.code _ (hxw _ Ch.au).c (by omega) hs.code) ?_
        rintro v123 w13 ⟨rfl, c13⟩
        have hz13 := c13.size
        refine L_g (r_eql rfl rfl) (L_r (r_pt rfl rfl) (L_r (r_ab rfl) (L_nil (W_ret ?_))))
        refine ret1 (v := .bool _) rfl rfl ?_
        refine ⟨?_, Ch.au⟩
        first
        | exact bool_f (fun h => by rw [key1 (by assumption), ← hok2] at h; obtain ⟨q0, q1, q2, q3⟩ := h; first | omega | (rw [q0] at *; contradiction) | simp_all)
        | exact bool_f (fun h => by rw [key2 (by assumption), ← hoc2] at h; obtain ⟨q0, q1, q2, q3⟩ := h; first | omega | (rw [q0] at *; contradiction) | simp_all)
        | exact bool_dec (by rw [key1 (by assumption), ← hok2]; exact ⟨fun k => ⟨by assumption, by omega, by omega, by omega⟩, fun k => by omega⟩)
        | exact bool_dec (by rw [key2 (by assumption), ← hoc2]; exact ⟨fun k => ⟨by assumption, by omega, by omega, by omega⟩, fun k => by omega⟩)
       ·
        refine L_ps (L_ps (L_ps (L_ps (L_r (r_pf rfl rfl) (L_r (r_ab rfl) (L_nil (W_ret ?_)))))))
        refine ret1 (v := .bool _) rfl rfl ?_
        refine ⟨?_, Ch.au⟩
        first
        | exact bool_f (fun h => by rw [key1 (by assumption), ← hok2] at h; obtain ⟨q0, q1, q2, q3⟩ := h; first | omega | (rw [q0] at *; contradiction) | simp_all)
        | exact bool_f (fun h => by rw [key2 (by assumption), ← hoc2] at h; obtain ⟨q0, q1, q2, q3⟩ := h; first | omega | (rw [q0] at *; contradiction) | simp_all)
        | exact bool_dec (by rw [key1 (by assumption), ← hok2]; exact ⟨fun k => ⟨by assumption, by omega, by omega, by omega⟩, fun k => by omega⟩)
        | exact bool_dec (by rw [key2 (by assumption), ← hoc2]; exact ⟨fun k => ⟨by assumption, by omega, by omega, by omega⟩, fun k => by omega⟩)
      ·
       refine L_ps (L_ps (L_ps (L_ps (L_ps (L_ps (L_r (r_pf rfl rfl) (L_r (r_mb rfl) (L_ps ?_))))))))
       refine L_ps (L_ps (L_ps (L_r (r_pf rfl rfl) (L_r (r_ab rfl) (L_nil (W_ret ?_))))))
       refine ret1 (v := .bool _) rfl rfl ?_
       refine ⟨?_, Ch.au⟩
       first
       | exact bool_f (fun h => by rw [key1 (by assumption), ← hok2] at h; obtain ⟨q0, q1, q2, q3⟩ := h; first | omega | (rw [q0] at *; contradiction) | simp_all)
       | exact bool_f (fun h => by rw [key2 (by assumption), ← hoc2] at h; obtain ⟨q0, q1, q2, q3⟩ := h; first | omega | (rw [q0] at *; contradiction) | simp_all)
       | exact bool_dec (by rw [key1 (by assumption), ← hok2]; exact ⟨fun k => ⟨by assumption, by omega, by omega, by omega⟩, fun k => by omega⟩)
       | exact bool_dec (by rw [key2 (by assumption), ← hoc2]; exact ⟨fun k => ⟨by assumption, by omega, by omega, by omega⟩, fun k => by omega⟩)
     ·
      refine L_ps (L_ps (L_r (r_pf rfl rfl) (L_r (r_mb rfl) (L_ps (L_ps (L_ps (L_ps (L_ps ?_))))))))
      refine L_ps (L_r (r_pf rfl rfl) (L_r (r_mb rfl) (L_ps (L_ps (L_ps (L_ps (L_r (r_pf rfl rfl) (L_r (r_ab rfl) ?_))))))))
      refine L_nil (W_ret ?_)
      refine ret1 (v := .bool _) rfl rfl ?_
      refine ⟨?_, Ch.au⟩
      first
      | exact bool_f (fun h => by rw [key1 (by assumption), ← hok2] at h; obtain ⟨q0, q1, q2, q3⟩ := h; first | omega | (rw [q0] at *; contradiction) | simp_all)
      | exact bool_f (fun h => by rw [key2 (by assumption), ← hoc2] at h; obtain ⟨q0, q1, q2, q3⟩ := h; first | omega | (rw [q0] at *; contradiction) | simp_all)
      | exact bool_dec (by rw [key1 (by assumption), ← hok2]; exact ⟨fun k => ⟨by assumption, by omega, by omega, by omega⟩, fun k => by omega⟩)
      | exact bool_dec (by rw [key2 (by assumption), ← hoc2]; exact ⟨fun k => ⟨by assumption, by omega, by omega, by omega⟩, fun k => by omega⟩)
end Go.Proofs.YthpknpfhpkkheaaGreatDoor

namespace Go.Proofs.YthpknpfhpkkheaaGreatDoor
open Go Go.RowKit
set_option linter.unusedVariables false
set_option linter.unusedSimpArgs false
set_option maxRecDepth 100000
/-- The first i are as asked, and no two have one name. -/
def UU {X : Type} (z : List X) (A : X → Prop) (N : X → ByteArray) (i : Nat) : Prop := (∀ j (hj : j < z.length), j < i → A z[j]) ∧ (∀ j (hj : j < z.length), j < i → ∀ k (hk : k < z.length), k < j → N z[k] ≠ N z[j])
theorem UU_0 {X : Type} (z : List X) (A : X → Prop) (N : X → ByteArray) : UU z A N 0 := ⟨fun j _ h => absurd h (by omega), fun j _ h => absurd h (by omega)⟩
theorem UU_s {X : Type} {z : List X} {A : X → Prop} {N : X → ByteArray} {i : Nat} (h : i < z.length) : UU z A N (i + 1) ↔ (UU z A N i ∧ A z[i]) ∧ ∀ k (hk : k < z.length), k < i → N z[k] ≠ N z[i] := by
  constructor
  ·
   rintro ⟨h1, h2⟩
   exact ⟨⟨⟨fun j hj hji => h1 j hj (by omega), fun j hj hji => h2 j hj (by omega)⟩, h1 i h (by omega)⟩, fun k hk hki => h2 i h (by omega) k hk hki⟩
  ·
   rintro ⟨⟨⟨h1, h2⟩, h3⟩, h4⟩
   refine ⟨fun j hj hji => ?_, fun j hj hji k hk hkj => ?_⟩
   ·
    rcases Nat.lt_or_ge j i with h5 | h5
    · exact h1 j hj h5
    ·
     have e : j = i := by omega
     subst e; exact h3
   ·
    rcases Nat.lt_or_ge j i with h5 | h5
    · exact h2 j hj h5 k hk hkj
    ·
     have e : j = i := by omega
     subst e; exact h4 k hk hkj
theorem UU_all {X : Type} {z : List X} {A : X → Prop} {N : X → ByteArray} : UU z A N z.length ↔ (∀ x ∈ z, A x) ∧ (z.map N).Nodup := by
  unfold UU
  refine and_congr ⟨fun h x hx => ?_, fun h j hj _ => h _ (List.getElem_mem hj)⟩ ?_
  ·
   obtain ⟨j, hj, rfl⟩ := List.mem_iff_getElem.1 hx
   exact h j hj hj
  ·
   rw [List.Nodup, List.pairwise_iff_getElem]
   constructor
   ·
    intro h k j hk hj hkj
    rw [List.length_map] at hk hj
    rw [List.getElem_map, List.getElem_map]
    exact h j hj hj k hk hkj
   ·
    intro h j hj _ k hk hkj
    have := h k j (by rw [List.length_map]; exact hk) (by rw [List.length_map]; exact hj) hkj
    rw [List.getElem_map, List.getElem_map] at this
    exact this
section
variable (c : CC)
def rP0 : Prop := classP c.p.name ∧ classP c.p.super ∧ c.p.name ≠ c.p.super
instance : Decidable (rP0 c) := inferInstanceAs (Decidable (_ ∧ _ ∧ _))
def rAL (x : ByteArray) : Prop := classP x ∧ x ≠ c.p.name
instance (x : ByteArray) : Decidable (rAL c x) := inferInstanceAs (Decidable (_ ∧ _))
def rAF (x : CF) : Prop := memP x.name ∧ rightK x.kind ∧ ¬ c.p.ifc = true
instance (x : CF) : Decidable (rAF c x) := inferInstanceAs (Decidable (_ ∧ _ ∧ _))
def rAM (x : MM) : Prop := mthP x.m ∧ (¬ x.m.abs = true ∨ c.p.abs = true) ∧ (¬ c.p.ifc = true ∨ x.m.abs = true)
noncomputable instance (x : MM) : Decidable (rAM c x) := Classical.propDecidable _
def rEnd : Prop := (¬ c.p.ifc = true ∨ (c.p.abs = true ∧ c.p.super = objB)) ∧ ¬ (c.p.abs = true ∧ c.p.fin = true)
theorem cls_ref {w : World} (hc : c.ok w) : clsP c.p ↔ (((rP0 c ∧ UU c.p.like (rAL c) (fun s => s) c.p.like.length) ∧ UU c.p.fields (rAF c) CF.name c.p.fields.length) ∧ UU c.q (rAM c) (fun y => y.m.name) c.q.length) ∧ rEnd c := by
  have hm : ∀ P : Mth → Prop, (∀ y ∈ c.q, P y.m) ↔ ∀ m ∈ c.p.ms, P m := fun P => by
    rw [← hc.e]
    constructor
    ·
     intro h m hm
     obtain ⟨y, hy, rfl⟩ := List.mem_map.1 hm
     exact h y hy
    ·
     intro h y hy
     exact h _ (List.mem_map_of_mem hy)
  have hn : (c.q.map fun y => y.m.name) = c.p.ms.map Mth.name := by rw [← hc.e, List.map_map]; rfl
  rw [UU_all, UU_all, UU_all, hn, List.map_id']
  have hM : (∀ y ∈ c.q, rAM c y) ↔ ∀ m ∈ c.p.ms, mthP m ∧ (¬ m.abs = true ∨ c.p.abs = true) ∧ (¬ c.p.ifc = true ∨ m.abs = true) := hm (fun m => mthP m ∧ (¬ m.abs = true ∨ c.p.abs = true) ∧ (¬ c.p.ifc = true ∨ m.abs = true))
  rw [hM]
  unfold rP0 rEnd rAL rAF
  constructor
  ·
   intro h
   refine ⟨⟨⟨⟨⟨h.name, h.super, h.ne⟩, h.like, h.likeN⟩, fun f hf => ⟨(h.fields f hf).1, (h.fields f hf).2, fun k => ?_⟩, h.fieldsN⟩, fun m hm => ⟨h.ms m hm, ?_, ?_⟩, h.msN⟩, ?_, h.fin⟩
   · rw [(h.ifc k).2.2.1] at hf; simp at hf
   ·
    by_cases k : m.abs = true
    · exact .inr (h.abs m hm k)
    · exact .inl k
   ·
    by_cases k : c.p.ifc = true
    · exact .inr ((h.ifc k).2.2.2 m hm)
    · exact .inl k
   ·
    by_cases k : c.p.ifc = true
    · exact .inr ⟨(h.ifc k).1, (h.ifc k).2.1⟩
    · exact .inl k
  ·
   rintro ⟨⟨⟨⟨⟨a1, a2, a3⟩, a4, a5⟩, b1, b2⟩, d1, d2⟩, e1, e2⟩
   refine ⟨a1, a2, a3, a4, a5, fun f hf => ⟨(b1 f hf).1, (b1 f hf).2.1⟩, b2, fun m hm => (d1 m hm).1, d2, fun k => ?_, e2, fun m hm k => ?_⟩
   ·
    have e3 := e1.resolve_left (fun h => h k)
    refine ⟨e3.1, e3.2, ?_, fun m hm => (d1 m hm).2.2.resolve_left (fun h => h k)⟩
    cases hf : c.p.fields with
    | nil => rfl
    | cons f z => exact absurd k (b1 f (by rw [hf]; exact List.mem_cons_self)).2.2
   · exact (d1 m hm).2.1.resolve_left (fun h => h k)
end
set_option maxHeartbeats 8000000 in
theorem rright05_walk (c : CC) (w0 : World) (hc : c.ok w0) (hs : c.p.sz) : Does Tryz.prog 29 #[c.v] w0 (fun r w' => r = .bool (decide (clsP c.p)) ∧ Nw w0 w') := by
  have h1c := hc.one
  have hcl := hc.l
  have hcf := hc.f
  have hcm := hc.m
  have hql := q_len hc
  have hlm := hs.lm
  have hll := hs.ll
  have hlf := hs.lf
  have hnm := hs.name
  have hsu := hs.super
  have hcw := fun W (k : Nw w0 W) => hc.nw k
  have key := cls_ref c hc
  refine fn_of (n := 199) (args := [c.v]) Tryz.func29 rfl rfl rfl (W_seq (W_region ?_))
  refine L_new (.plain rfl) rfl rfl (r_boxa rfl) (fun w1 b1 hb1 eb1 hs1 c1 => (L_r (r_ab rfl) (L_nil ?_)))
  refine W_cutF [1] (fun f W => f 3 = .bool (decide (rP0 c)) ∧ (Bk W b1 #[.string c.p.name, .string c.p.super, c.vl, .bool c.p.ifc, .bool c.p.abs, .bool c.p.fin, c.vf, c.vm] 26 ∧ Nw w0 W)) ?_ ?_
  ·
   refine W_region ?_
   refine L_r (r_fieldb Tryz.underlying26 rfl (show _ = some 1 from rfl) rfl rfl (show _ = 0 from rfl)) (L_r (r_lb rfl rfl) ?_)
   refine L_call (.plain rfl) rfl rfl (r_call Tryz.func71 rfl rfl rfl (by rfl)) (rclass_walk c.p.name _ (by omega)) ?_
   rintro v13 w2 ⟨rfl, c2⟩
   have hz2 := c2.size
   refine L_r (r_mb rfl) ?_
   refine L_caseb (d := 14) rfl (fun h14 => ?_) (fun h14 => ?_)
   ·
    refine L_g (r_fieldb Tryz.underlying26 rfl (show _ = some 1 from rfl) rfl rfl (show _ = 1 from rfl)) ?_
    refine L_g (r_lb rfl rfl) ?_
    refine L_call (.yes 3 true rfl rfl) rfl rfl (r_call Tryz.func71 rfl rfl rfl (by rfl)) (rclass_walk c.p.super _ (by omega)) ?_
    rintro v17 w3 ⟨rfl, c3⟩
    have hz3 := c3.size
    refine L_r (r_pt rfl rfl) (L_r (r_mb rfl) ?_)
    refine L_caseb (d := 19) rfl (fun h19 => ?_) (fun h19 => ?_)
    ·
     refine L_g (r_fieldb Tryz.underlying26 rfl (show _ = some 1 from rfl) rfl rfl (show _ = 0 from rfl)) ?_
     refine L_g (r_lb rfl rfl) ?_
     refine L_g (r_fieldb Tryz.underlying26 rfl (show _ = some 1 from rfl) rfl rfl (show _ = 1 from rfl)) ?_
     refine L_g (r_lb rfl rfl) ?_
     refine L_g (r_neqs rfl rfl) (L_r (r_pt rfl rfl) (L_r (r_ab rfl) (L_nil ?_)))
     refine ⟨⟨fx2, trivial⟩, (dec_i (by unfold rP0; clear key; simp_all)), ?_⟩
     exact ⟨Bk.au, Ch.au⟩
    ·
     refine L_ps (L_ps (L_ps (L_ps (L_ps (L_r (r_pf rfl rfl) (L_r (r_ab rfl) (L_nil ?_)))))))
     refine ⟨⟨fx2, trivial⟩, (dec_f (by unfold rP0; clear key; simp_all)), ?_⟩
     exact ⟨Bk.au, Ch.au⟩
   ·
    refine L_ps (L_ps (L_ps (L_r (r_pf rfl rfl) (L_r (r_mb rfl) (L_ps (L_ps (L_ps (L_ps ?_))))))))
    refine L_ps (L_r (r_pf rfl rfl) (L_r (r_ab rfl) (L_nil ?_)))
    refine ⟨⟨fx2, trivial⟩, (dec_f (by unfold rP0; clear key; simp_all)), ?_⟩
    exact ⟨Bk.au, Ch.au⟩
  rintro gcr1 w4 ⟨hf3, hCr1⟩
  refine W_as 3 hf3 rfl ?_
  clear hf3
  obtain ⟨hbx, hnw1⟩ := hCr1
  have hz1 := hnw1.size
  refine W_seq (W_seq (W_region (L_r (r_ai rfl) (L_nil (W_block ?_)))))
  refine W_loopF [1] (fun mz_ f W => ∃ (i0 : Nat) (ok0 : Bool), f 4 = .int .i64 i0 ∧ f 3 = .bool ok0 ∧ (i0 ≤ c.p.like.length ∧ (ok0 = true ↔ rP0 c ∧ UU c.p.like (rAL c) (fun s => s) i0) ∧ Nw w0 W ∧ Bk W b1 #[.string c.p.name, .string c.p.super, c.vl, .bool c.p.ifc, .bool c.p.abs, .bool c.p.fin, c.vf, c.vm] 26) ∧ mz_ = c.p.like.length - i0) ?_ ?_
  ·
   refine ⟨_, 0, decide (rP0 c), rfl, rfl, ?_, rfl⟩
   exact ⟨by omega, by simp [UU_0], Ch.au, Bk.au⟩
  rintro m0 g0 w5 ⟨i0, ok0, hf4, hf3, hR0, rfl⟩
  refine W_as 4 hf4 rfl ?_
  refine W_as 3 hf3 rfl ?_
  clear hf4 hf3
  obtain ⟨hi0, hok0, hnw0, hbc0⟩ := hR0
  have hz0 := hnw0.size
  refine W_seq (W_seq (W_region (L_r (r_mi rfl) ?_)))
  refine L_r (r_fieldb Tryz.underlying26 rfl (show _ = some 1 from rfl) rfl rfl (show _ = 2 from rfl)) (L_r (r_lb rfl rfl) ?_)
  refine L_r (r_lenSl Tryz.underlying22 (by conv => lhs; whnf) Sl.au) (L_r (r_lss rfl rfl) (L_nil ?_))
  refine W_if rfl (fun h30 => ?_) (fun h30 => ?_)
  ·
   have hil : i0 < c.p.like.length := by omega
   have hrow := scells_get c.p.like i0 hil
   have hxm := List.getElem_mem hil
   obtain ⟨x, hx⟩ : ∃ x, x = c.p.like[i0] := ⟨_, rfl⟩
   rw [← hx] at hrow hxm
   have hxs := hs.like x hxm
   refine W_skip (W_seq (W_block ?_))
   refine W_cutF [1, 4] (fun f W => f 3 = .bool (decide (ok0 = true ∧ rAL c x)) ∧ (Nw w0 W ∧ Bk W b1 #[.string c.p.name, .string c.p.super, c.vl, .bool c.p.ifc, .bool c.p.abs, .bool c.p.fin, c.vf, c.vm] 26)) ?_ ?_
   ·
    refine W_draw (fun W => Bk W b1 #[.string c.p.name, .string c.p.super, c.vl, .bool c.p.ifc, .bool c.p.abs, .bool c.p.fin, c.vf, c.vm] 26 ∧ Sl W c.vl 1 c.p.like.length (scells c.p.like)) 20 (m := 20) (by kernel_rfl) rfl (fun w6 c6 hs6 => ?_)
    refine held (by exact ⟨Bk.au, Sl.au⟩) (fun hS => ?_)
    refine D_t 0 rfl (fun W hW => r_mb rfl) ?_
    refine D_t 1 rfl (fun W hW => r_mb rfl) ?_
    refine D_caseb (d := 34) rfl (fun h34 => ?_) (fun h34 => ?_)
    ·
     refine D_g 2 rfl (fun W hW => r_fieldb Tryz.underlying26 rfl (show _ = some 1 from rfl) rfl rfl (show _ = 2 from rfl)) ?_
     refine D_g 3 rfl (fun W hW => r_loadb rfl rfl (by first | exact hW.1 | exact hW.2 | exact hW.2.1 | exact hW.2.2) (by first | assumption | (conv => lhs; simp only [List.getElem?_toArray, List.getElem?_cons_succ, List.getElem?_cons_zero]))) ?_
     refine D_g 4 rfl (fun W hW => r_mi rfl) ?_
     refine D_g 5 rfl (fun W hW => r_ix Tryz.underlying22 (show _ = some 1 from rfl) (by conv => lhs; whnf) rfl (by first | exact hW.1 | exact hW.2 | exact hW.2.1 | exact hW.2.2)) ?_
     refine D_g 6 rfl (fun W hW => r_loadSl rfl rfl (by first | exact hW.1 | exact hW.2 | exact hW.2.1 | exact hW.2.2) (by first | exact hrow | exact hrowk | exact hrow 0 _ rfl | exact hrow 1 _ rfl | exact hrowk 0 _ rfl | assumption)) ?_
     refine D_ev 7 (by kernel_rfl) rfl ?_
     refine L_call (.yes 1 true rfl rfl) rfl rfl (r_call Tryz.func71 rfl rfl rfl (by rfl)) (rclass_walk x _ (by omega)) ?_
     rintro v40 w7 ⟨rfl, c7⟩
     have hz7 := c7.size
     refine L_nil ?_
     refine heldK (by exact ⟨Bk.au, Sl.au⟩) (fun hS => ?_)
     refine D_t 8 rfl (fun W hW => r_pt rfl rfl) ?_
     refine D_t 9 rfl (fun W hW => r_mb rfl) ?_
     refine D_caseb (d := 42) rfl (fun h42 => ?_) (fun h42 => ?_)
     ·
      refine D_g 10 rfl (fun W hW => r_fieldb Tryz.underlying26 rfl (show _ = some 1 from rfl) rfl rfl (show _ = 2 from rfl)) ?_
      refine D_g 11 rfl (fun W hW => r_loadb rfl rfl (by first | exact hW.1 | exact hW.2 | exact hW.2.1 | exact hW.2.2) (by first | assumption | (conv => lhs; simp only [List.getElem?_toArray, List.getElem?_cons_succ, List.getElem?_cons_zero]))) ?_
      refine D_g 12 rfl (fun W hW => r_mi rfl) ?_
      refine D_g 13 rfl (fun W hW => r_ix Tryz.underlying22 (show _ = some 1 from rfl) (by conv => lhs; whnf) rfl (by first | exact hW.1 | exact hW.2 | exact hW.2.1 | exact hW.2.2)) ?_
      refine D_g 14 rfl (fun W hW => r_loadSl rfl rfl (by first | exact hW.1 | exact hW.2 | exact hW.2.1 | exact hW.2.2) (by first | exact hrow | exact hrowk | exact hrow 0 _ rfl | exact hrow 1 _ rfl | exact hrowk 0 _ rfl | assumption)) ?_
      refine D_g 15 rfl (fun W hW => r_fieldb Tryz.underlying26 rfl (show _ = some 1 from rfl) rfl rfl (show _ = 0 from rfl)) ?_
      refine D_g 16 rfl (fun W hW => r_loadb rfl rfl (by first | exact hW.1 | exact hW.2 | exact hW.2.1 | exact hW.2.2) (by first | assumption | (conv => lhs; simp only [List.getElem?_toArray, List.getElem?_cons_succ, List.getElem?_cons_zero]))) ?_
      refine D_g 17 rfl (fun W hW => r_neqs rfl rfl) ?_
      refine D_t 18 rfl (fun W hW => r_pt rfl rfl) ?_
      refine D_t 19 rfl (fun W hW => r_ab rfl) ?_
      refine D_done (by kernel_rfl) ?_
      refine ⟨⟨fx2, fx2, trivial⟩, (dec_i (by unfold rAL; clear key hok0; simp_all)), ?_⟩
      exact ⟨Ch.au, Bk.au⟩
     ·
      refine D_ps 10 rfl ?_
      refine D_ps 11 rfl ?_
      refine D_ps 12 rfl ?_
      refine D_ps 13 rfl ?_
      refine D_ps 14 rfl ?_
      refine D_ps 15 rfl ?_
      refine D_ps 16 rfl ?_
      refine D_ps 17 rfl ?_
      refine D_t 18 rfl (fun W hW => r_pf rfl rfl) ?_
      refine D_t 19 rfl (fun W hW => r_ab rfl) ?_
      refine D_done (by kernel_rfl) ?_
      refine ⟨⟨fx2, fx2, trivial⟩, (dec_f (by unfold rAL; clear key hok0; simp_all)), ?_⟩
      exact ⟨Ch.au, Bk.au⟩
    ·
     refine D_ps 2 rfl ?_
     refine D_ps 3 rfl ?_
     refine D_ps 4 rfl ?_
     refine D_ps 5 rfl ?_
     refine D_ps 6 rfl ?_
     refine D_ps 7 rfl ?_
     refine D_t 8 rfl (fun W hW => r_pf rfl rfl) ?_
     refine D_t 9 rfl (fun W hW => r_mb rfl) ?_
     refine D_ps 10 rfl ?_
     refine D_ps 11 rfl ?_
     refine D_ps 12 rfl ?_
     refine D_ps 13 rfl ?_
     refine D_ps 14 rfl ?_
     refine D_ps 15 rfl ?_
     refine D_ps 16 rfl ?_
     refine D_ps 17 rfl ?_
     refine D_t 18 rfl (fun W hW => r_pf rfl rfl) ?_
     refine D_t 19 rfl (fun W hW => r_ab rfl) ?_
     refine D_done (by kernel_rfl) ?_
     refine ⟨⟨fx2, fx2, trivial⟩, (dec_f (by unfold rAL; clear key hok0; simp_all)), ?_⟩
     exact ⟨Ch.au, Bk.au⟩
   rintro gcr5 w8 ⟨hf3, hCr5⟩
   refine W_as 3 hf3 rfl ?_
   clear hf3
   obtain ⟨hnwc0, hbcc0⟩ := hCr5
   have hzc0 := hnwc0.size
   refine W_seq (W_region (L_r (r_ai rfl) (L_nil (W_block ?_))))
   refine W_loopF [1, 4] (fun mz_ f W => ∃ (k0 : Nat) (oc0 : Bool), f 5 = .int .i64 k0 ∧ f 3 = .bool oc0 ∧ (k0 ≤ i0 ∧ (oc0 = true ↔ decide (ok0 = true ∧ rAL c x) = true ∧ ∀ k (hk : k < c.p.like.length), k < k0 → c.p.like[k] ≠ x) ∧ Nw w0 W ∧ Bk W b1 #[.string c.p.name, .string c.p.super, c.vl, .bool c.p.ifc, .bool c.p.abs, .bool c.p.fin, c.vf, c.vm] 26) ∧ mz_ = i0 - k0) ?_ ?_
   ·
    refine ⟨_, 0, decide (ok0 = true ∧ rAL c x), rfl, rfl, ?_, rfl⟩
    exact ⟨by omega, by simp, Ch.au, Bk.au⟩
   rintro m1 g1 w9 ⟨k0, oc0, hf5, hf3, hR1, rfl⟩
   refine W_as 5 hf5 rfl ?_
   refine W_as 3 hf3 rfl ?_
   clear hf5 hf3
   obtain ⟨hk0, hoc0, hnwk0, hbk0⟩ := hR1
   have hzk0 := hnwk0.size
   refine W_seq (W_seq (W_region (L_r (r_mi rfl) (L_r (r_mi rfl) (L_r (r_lss rfl rfl) (L_nil ?_))))))
   refine W_if rfl (fun h54 => ?_) (fun h54 => ?_)
   ·
    have hkl : k0 < c.p.like.length := by omega
    have hrowk := scells_get c.p.like k0 hkl
    obtain ⟨y, hy⟩ : ∃ y, y = c.p.like[k0] := ⟨_, rfl⟩
    rw [← hy] at hrowk
    refine W_skip (W_seq (W_block ?_))
    refine W_endF [1, 4, 5] (fun f W => f 3 = .bool (decide (oc0 = true ∧ y ≠ x)) ∧ (Nw w0 W ∧ Bk W b1 #[.string c.p.name, .string c.p.super, c.vl, .bool c.p.ifc, .bool c.p.abs, .bool c.p.fin, c.vf, c.vm] 26)) ?_ ?_
    ·
     refine W_draw (fun W => Bk W b1 #[.string c.p.name, .string c.p.super, c.vl, .bool c.p.ifc, .bool c.p.abs, .bool c.p.fin, c.vf, c.vm] 26 ∧ Sl W c.vl 1 c.p.like.length (scells c.p.like)) 15 (m := 15) (by kernel_rfl) rfl (fun w10 c10 hs10 => ?_)
     refine held (by exact ⟨Bk.au, Sl.au⟩) (fun hS => ?_)
     refine D_t 0 rfl (fun W hW => r_mb rfl) ?_
     refine D_t 1 rfl (fun W hW => r_mb rfl) ?_
     refine D_caseb (d := 58) rfl (fun h58 => ?_) (fun h58 => ?_)
     ·
      refine D_g 2 rfl (fun W hW => r_fieldb Tryz.underlying26 rfl (show _ = some 1 from rfl) rfl rfl (show _ = 2 from rfl)) ?_
      refine D_g 3 rfl (fun W hW => r_loadb rfl rfl (by first | exact hW.1 | exact hW.2 | exact hW.2.1 | exact hW.2.2) (by first | assumption | (conv => lhs; simp only [List.getElem?_toArray, List.getElem?_cons_succ, List.getElem?_cons_zero]))) ?_
      refine D_g 4 rfl (fun W hW => r_mi rfl) ?_
      refine D_g 5 rfl (fun W hW => r_ix Tryz.underlying22 (show _ = some 1 from rfl) (by conv => lhs; whnf) rfl (by first | exact hW.1 | exact hW.2 | exact hW.2.1 | exact hW.2.2)) ?_
      refine D_g 6 rfl (fun W hW => r_loadSl rfl rfl (by first | exact hW.1 | exact hW.2 | exact hW.2.1 | exact hW.2.2) (by first | exact hrow | exact hrowk | exact hrow 0 _ rfl | exact hrow 1 _ rfl | exact hrowk 0 _ rfl | assumption)) ?_
      refine D_g 7 rfl (fun W hW => r_fieldb Tryz.underlying26 rfl (show _ = some 1 from rfl) rfl rfl (show _ = 2 from rfl)) ?_
      refine D_g 8 rfl (fun W hW => r_loadb rfl rfl (by first | exact hW.1 | exact hW.2 | exact hW.2.1 | exact hW.2.2) (by first | assumption | (conv => lhs; simp only [List.getElem?_toArray, List.getElem?_cons_succ, List.getElem?_cons_zero]))) ?_
      refine D_g 9 rfl (fun W hW => r_mi rfl) ?_
      refine D_g 10 rfl (fun W hW => r_ix Tryz.underlying22 (show _ = some 1 from rfl) (by conv => lhs; whnf) rfl (by first | exact hW.1 | exact hW.2 | exact hW.2.1 | exact hW.2.2)) ?_
      refine D_g 11 rfl (fun W hW => r_loadSl rfl rfl (by first | exact hW.1 | exact hW.2 | exact hW.2.1 | exact hW.2.2) (by first | exact hrow | exact hrowk | exact hrow 0 _ rfl | exact hrow 1 _ rfl | exact hrowk 0 _ rfl | assumption)) ?_
      refine D_g 12 rfl (fun W hW => r_neqs rfl rfl) ?_
      refine D_t 13 rfl (fun W hW => r_pt rfl rfl) ?_
      refine D_t 14 rfl (fun W hW => r_ab rfl) ?_
      refine D_done (by kernel_rfl) ?_
      refine ⟨⟨fx2, fx2, fx2, trivial⟩, (dec_i (by clear key hok0 hoc0; simp_all)), ?_⟩
      exact ⟨Ch.au, Bk.au⟩
     ·
      refine D_ps 2 rfl ?_
      refine D_ps 3 rfl ?_
      refine D_ps 4 rfl ?_
      refine D_ps 5 rfl ?_
      refine D_ps 6 rfl ?_
      refine D_ps 7 rfl ?_
      refine D_ps 8 rfl ?_
      refine D_ps 9 rfl ?_
      refine D_ps 10 rfl ?_
      refine D_ps 11 rfl ?_
      refine D_ps 12 rfl ?_
      refine D_t 13 rfl (fun W hW => r_pf rfl rfl) ?_
      refine D_t 14 rfl (fun W hW => r_ab rfl) ?_
      refine D_done (by kernel_rfl) ?_
      refine ⟨⟨fx2, fx2, fx2, trivial⟩, (dec_f (by clear key hok0 hoc0; simp_all)), ?_⟩
      exact ⟨Ch.au, Bk.au⟩
    rintro gcr9 w11 ⟨hf3, hCr9⟩
    refine W_as 3 hf3 rfl ?_
    clear hf3
    obtain ⟨hnwd0, hbcd0⟩ := hCr9
    have hzd0 := hnwd0.size
    refine W_region (L_r (r_mi rfl) ?_)
    refine L_r (r_add rfl rfl (by first | exact wr_i64 (by omega) | rfl)) (L_r (r_ai rfl) (L_nil ?_))
    refine ⟨⟨fx2, fx2, trivial⟩, _, ?_, k0 + 1, decide (oc0 = true ∧ y ≠ x), rfl, rfl, ?_, rfl⟩
    · omega
    refine ⟨by omega, ?_, Ch.au, Bk.au⟩
    rw [decide_eq_true_eq, hoc0, and_assoc]
    refine and_congr_right fun _ => ⟨fun h j hj hji => ?_, fun h => ⟨fun j hj hji => h j hj (by omega), by rw [hy]; exact h k0 hkl (by omega)⟩⟩
    rcases Nat.lt_or_ge j k0 with h2 | h2
    · exact h.1 j hj h2
    ·
     have e : j = k0 := by omega
     subst e; rw [← hy]; exact h.2
   ·
    refine W_exit ?_
    repeat (first | refine blk_hit ?_ | refine blk_miss rfl ?_)
    refine W_region (L_r (r_mi rfl) ?_)
    refine L_r (r_add rfl rfl (by first | exact wr_i64 (by omega) | rfl)) (L_r (r_ai rfl) (L_nil ?_))
    refine ⟨⟨fx2, trivial⟩, _, ?_, i0 + 1, oc0, rfl, rfl, ?_, rfl⟩
    · omega
    refine ⟨by omega, ?_, Ch.au, Bk.au⟩
    rw [hoc0, UU_s hil, ← hx, decide_eq_true_eq, hok0]
    constructor
    · rintro ⟨⟨⟨a1, a2⟩, a3⟩, a4⟩; exact ⟨a1, ⟨a2, a3⟩, fun k hk hki => a4 k hk (by omega)⟩
    · rintro ⟨a1, ⟨a2, a3⟩, a4⟩; exact ⟨⟨⟨a1, a2⟩, a3⟩, fun k hk hki => a4 k hk (by omega)⟩
  ·
   refine W_exit ?_
   repeat (first | refine blk_hit ?_ | refine blk_miss rfl ?_)
   refine W_seq (W_seq ?_)
   have hoke0 : ok0 = true ↔ rP0 c ∧ UU c.p.like (rAL c) (fun s => s) c.p.like.length := by rw [hok0, show i0 = c.p.like.length by omega]
   refine W_region (L_r (r_ai rfl) (L_nil (W_block ?_)))
   refine W_loopF [1] (fun mz_ f W => ∃ (i2 : Nat) (ok2 : Bool), f 6 = .int .i64 i2 ∧ f 3 = .bool ok2 ∧ (i2 ≤ c.p.fields.length ∧ (ok2 = true ↔ (rP0 c ∧ UU c.p.like (rAL c) (fun s => s) c.p.like.length) ∧ UU c.p.fields (rAF c) CF.name i2) ∧ Nw w0 W ∧ Bk W b1 #[.string c.p.name, .string c.p.super, c.vl, .bool c.p.ifc, .bool c.p.abs, .bool c.p.fin, c.vf, c.vm] 26) ∧ mz_ = c.p.fields.length - i2) ?_ ?_
   ·
    refine ⟨_, 0, ok0, rfl, rfl, ?_, rfl⟩
    exact ⟨by omega, by rw [hoke0]; simp [UU_0], Ch.au, Bk.au⟩
   rintro m2 g2 w12 ⟨i2, ok2, hf6, hf3, hR2, rfl⟩
   refine W_as 6 hf6 rfl ?_
   refine W_as 3 hf3 rfl ?_
   clear hf6 hf3
   obtain ⟨hi2, hok2, hnw2, hbc2⟩ := hR2
   have hz2 := hnw2.size
   refine W_seq (W_seq (W_region (L_r (r_mi rfl) ?_)))
   refine L_r (r_fieldb Tryz.underlying26 rfl (show _ = some 1 from rfl) rfl rfl (show _ = 6 from rfl)) (L_r (r_lb rfl rfl) ?_)
   refine L_r (r_lenSl Tryz.underlying23 (by conv => lhs; whnf) Sl.au) (L_r (r_lss rfl rfl) (L_nil ?_))
   refine W_if rfl (fun h75 => ?_) (fun h75 => ?_)
   ·
    have hil : i2 < c.p.fields.length := by omega
    have hrow := cellsCF_row c.p.fields i2 hil
    have hxm := List.getElem_mem hil
    obtain ⟨x, hx⟩ : ∃ x, x = c.p.fields[i2] := ⟨_, rfl⟩
    rw [← hx] at hrow hxm
    have hxs := hs.fields x hxm
    refine W_skip (W_seq (W_block ?_))
    refine W_cutF [1, 6] (fun f W => f 3 = .bool (decide (ok2 = true ∧ rAF c x)) ∧ (Nw w0 W ∧ Bk W b1 #[.string c.p.name, .string c.p.super, c.vl, .bool c.p.ifc, .bool c.p.abs, .bool c.p.fin, c.vf, c.vm] 26)) ?_ ?_
    ·
     refine W_region (L_r (r_mb rfl) (L_r (r_mb rfl) ?_))
     refine L_caseb (d := 79) rfl (fun h79 => ?_) (fun h79 => ?_)
     ·
      refine L_g (r_fieldb Tryz.underlying26 rfl (show _ = some 1 from rfl) rfl rfl (show _ = 6 from rfl)) ?_
      refine L_g (r_lb rfl rfl) ?_
      refine L_g (r_mi rfl) ?_
      refine L_g (r_ix Tryz.underlying23 (show _ = some 3 from rfl) (by conv => lhs; whnf) rfl Sl.au) ?_
      refine L_g (r_fieldSl Tryz.underlying52 rfl (show _ = some 1 from rfl) rfl (show _ = 0 from rfl) (Nat.add_zero _) rfl) ?_
      refine L_g (r_loadSl rfl rfl Sl.au (by first | exact hrow | exact hrowk | exact hrow 0 _ rfl | exact hrow 1 _ rfl | exact hrowk 0 _ rfl | assumption)) ?_
      refine L_call (.yes 1 true rfl rfl) rfl rfl (r_call Tryz.func72 rfl rfl rfl (by rfl)) (rmember_walk x.name _ hxs.1) ?_
      rintro v86 w13 ⟨rfl, c13⟩
      have hz13 := c13.size
      refine L_r (r_pt rfl rfl) (L_r (r_mb rfl) ?_)
      refine L_caseb (d := 88) rfl (fun h88 => ?_) (fun h88 => ?_)
      ·
       refine L_g (r_fieldb Tryz.underlying26 rfl (show _ = some 1 from rfl) rfl rfl (show _ = 6 from rfl)) ?_
       refine L_g (r_lb rfl rfl) ?_
       refine L_g (r_mi rfl) ?_
       refine L_g (r_ix Tryz.underlying23 (show _ = some 3 from rfl) (by conv => lhs; whnf) rfl Sl.au) ?_
       refine L_g (r_fieldSl Tryz.underlying52 rfl (show _ = some 1 from rfl) rfl (show _ = 1 from rfl) rfl rfl) ?_
       refine L_g (r_loadSl rfl rfl Sl.au (by first | exact hrow | exact hrowk | exact hrow 0 _ rfl | exact hrow 1 _ rfl | exact hrowk 0 _ rfl | assumption)) ?_
       refine L_call (.yes 10 true rfl rfl) rfl rfl (r_call Tryz.func73 rfl rfl rfl (by rfl)) (rright_walk x.kind _ hxs.2) ?_
       rintro v95 w14 ⟨rfl, c14⟩
       have hz14 := c14.size
       refine L_r (r_pt rfl rfl) (L_r (r_mb rfl) ?_)
       refine L_caseb (d := 97) rfl (fun h97 => ?_) (fun h97 => ?_)
       ·
        refine L_g (r_fieldb Tryz.underlying26 rfl (show _ = some 1 from rfl) rfl rfl (show _ = 3 from rfl)) ?_
        refine L_g (r_lb rfl rfl) ?_
        refine L_g (r_not rfl) (L_r (r_pt rfl rfl) (L_r (r_ab rfl) (L_nil ?_)))
        refine ⟨⟨fx2, fx2, trivial⟩, (dec_b (by unfold rAF; rw [memP_iff]; clear key hok2; simp_all)), ?_⟩
        exact ⟨Ch.au, Bk.au⟩
       ·
        refine L_ps (L_ps (L_ps (L_r (r_pf rfl rfl) (L_r (r_ab rfl) (L_nil ?_)))))
        refine ⟨⟨fx2, fx2, trivial⟩, (dec_f (by unfold rAF; rw [memP_iff]; clear key hok2; simp_all)), ?_⟩
        exact ⟨Ch.au, Bk.au⟩
      ·
       refine L_ps (L_ps (L_ps (L_ps (L_ps (L_ps (L_ps (L_r (r_pf rfl rfl) (L_r (r_mb rfl) ?_))))))))
       refine L_ps (L_ps (L_ps (L_r (r_pf rfl rfl) (L_r (r_ab rfl) (L_nil ?_)))))
       refine ⟨⟨fx2, fx2, trivial⟩, (dec_f (by unfold rAF; rw [memP_iff]; clear key hok2; simp_all)), ?_⟩
       exact ⟨Ch.au, Bk.au⟩
     ·
      refine L_ps (L_ps (L_ps (L_ps (L_ps (L_ps (L_ps (L_r (r_pf rfl rfl) (L_r (r_mb rfl) ?_))))))))
      refine L_ps (L_ps (L_ps (L_ps (L_ps (L_ps (L_ps (L_r (r_pf rfl rfl) (L_r (r_mb rfl) ?_))))))))
      refine L_ps (L_ps (L_ps (L_r (r_pf rfl rfl) (L_r (r_ab rfl) (L_nil ?_)))))
      refine ⟨⟨fx2, fx2, trivial⟩, (dec_f (by unfold rAF; rw [memP_iff]; clear key hok2; simp_all)), ?_⟩
      exact ⟨Ch.au, Bk.au⟩
    rintro gcr13 w15 ⟨hf3, hCr13⟩
    refine W_as 3 hf3 rfl ?_
    clear hf3
    obtain ⟨hnwc2, hbcc2⟩ := hCr13
    have hzc2 := hnwc2.size
    refine W_seq (W_region (L_r (r_ai rfl) (L_nil (W_block ?_))))
    refine W_loopF [1, 6] (fun mz_ f W => ∃ (k2 : Nat) (oc2 : Bool), f 7 = .int .i64 k2 ∧ f 3 = .bool oc2 ∧ (k2 ≤ i2 ∧ (oc2 = true ↔ decide (ok2 = true ∧ rAF c x) = true ∧ ∀ k (hk : k < c.p.fields.length), k < k2 → c.p.fields[k].name ≠ x.name) ∧ Nw w0 W ∧ Bk W b1 #[.string c.p.name, .string c.p.super, c.vl, .bool c.p.ifc, .bool c.p.abs, .bool c.p.fin, c.vf, c.vm] 26) ∧ mz_ = i2 - k2) ?_ ?_
    ·
     refine ⟨_, 0, decide (ok2 = true ∧ rAF c x), rfl, rfl, ?_, rfl⟩
     exact ⟨by omega, by simp, Ch.au, Bk.au⟩
    rintro m3 g3 w16 ⟨k2, oc2, hf7, hf3, hR3, rfl⟩
    refine W_as 7 hf7 rfl ?_
    refine W_as 3 hf3 rfl ?_
    clear hf7 hf3
    obtain ⟨hk2, hoc2, hnwk2, hbk2⟩ := hR3
    have hzk2 := hnwk2.size
    refine W_seq (W_seq (W_region (L_r (r_mi rfl) (L_r (r_mi rfl) (L_r (r_lss rfl rfl) (L_nil ?_))))))
    refine W_if rfl (fun h104 => ?_) (fun h104 => ?_)
    ·
     have hkl : k2 < c.p.fields.length := by omega
     have hrowk := cellsCF_row c.p.fields k2 hkl
     obtain ⟨y, hy⟩ : ∃ y, y = c.p.fields[k2] := ⟨_, rfl⟩
     rw [← hy] at hrowk
     refine W_skip (W_seq (W_block ?_))
     refine W_endF [1, 6, 7] (fun f W => f 3 = .bool (decide (oc2 = true ∧ y.name ≠ x.name)) ∧ (Nw w0 W ∧ Bk W b1 #[.string c.p.name, .string c.p.super, c.vl, .bool c.p.ifc, .bool c.p.abs, .bool c.p.fin, c.vf, c.vm] 26)) ?_ ?_
     ·
      refine W_draw (fun W => Bk W b1 #[.string c.p.name, .string c.p.super, c.vl, .bool c.p.ifc, .bool c.p.abs, .bool c.p.fin, c.vf, c.vm] 26 ∧ Sl W c.vf 3 c.p.fields.length (cellsCF c.p.fields)) 17 (m := 17) (by kernel_rfl) rfl (fun w17 c17 hs17 => ?_)
      refine held (by exact ⟨Bk.au, Sl.au⟩) (fun hS => ?_)
      refine D_t 0 rfl (fun W hW => r_mb rfl) ?_
      refine D_t 1 rfl (fun W hW => r_mb rfl) ?_
      refine D_caseb (d := 108) rfl (fun h108 => ?_) (fun h108 => ?_)
      ·
       refine D_g 2 rfl (fun W hW => r_fieldb Tryz.underlying26 rfl (show _ = some 1 from rfl) rfl rfl (show _ = 6 from rfl)) ?_
       refine D_g 3 rfl (fun W hW => r_loadb rfl rfl (by first | exact hW.1 | exact hW.2 | exact hW.2.1 | exact hW.2.2) (by first | assumption | (conv => lhs; simp only [List.getElem?_toArray, List.getElem?_cons_succ, List.getElem?_cons_zero]))) ?_
       refine D_g 4 rfl (fun W hW => r_mi rfl) ?_
       refine D_g 5 rfl (fun W hW => r_ix Tryz.underlying23 (show _ = some 3 from rfl) (by conv => lhs; whnf) rfl (by first | exact hW.1 | exact hW.2 | exact hW.2.1 | exact hW.2.2)) ?_
       refine D_g 6 rfl (fun W hW => r_fieldSl Tryz.underlying52 rfl (show _ = some 1 from rfl) rfl (show _ = 0 from rfl) (Nat.add_zero _) rfl) ?_
       refine D_g 7 rfl (fun W hW => r_loadSl rfl rfl (by first | exact hW.1 | exact hW.2 | exact hW.2.1 | exact hW.2.2) (by first | exact hrow | exact hrowk | exact hrow 0 _ rfl | exact hrow 1 _ rfl | exact hrowk 0 _ rfl | assumption)) ?_
       refine D_g 8 rfl (fun W hW => r_fieldb Tryz.underlying26 rfl (show _ = some 1 from rfl) rfl rfl (show _ = 6 from rfl)) ?_
       refine D_g 9 rfl (fun W hW => r_loadb rfl rfl (by first | exact hW.1 | exact hW.2 | exact hW.2.1 | exact hW.2.2) (by first | assumption | (conv => lhs; simp only [List.getElem?_toArray, List.getElem?_cons_succ, List.getElem?_cons_zero]))) ?_
       refine D_g 10 rfl (fun W hW => r_mi rfl) ?_
       refine D_g 11 rfl (fun W hW => r_ix Tryz.underlying23 (show _ = some 3 from rfl) (by conv => lhs; whnf) rfl (by first | exact hW.1 | exact hW.2 | exact hW.2.1 | exact hW.2.2)) ?_
       refine D_g 12 rfl (fun W hW => r_fieldSl Tryz.underlying52 rfl (show _ = some 1 from rfl) rfl (show _ = 0 from rfl) (Nat.add_zero _) rfl) ?_
       refine D_g 13 rfl (fun W hW => r_loadSl rfl rfl (by first | exact hW.1 | exact hW.2 | exact hW.2.1 | exact hW.2.2) (by first | exact hrow | exact hrowk | exact hrow 0 _ rfl | exact hrow 1 _ rfl | exact hrowk 0 _ rfl | assumption)) ?_
       refine D_g 14 rfl (fun W hW => r_neqs rfl rfl) ?_
       refine D_t 15 rfl (fun W hW => r_pt rfl rfl) ?_
       refine D_t 16 rfl (fun W hW => r_ab rfl) ?_
       refine D_done (by kernel_rfl) ?_
       refine ⟨⟨fx2, fx2, fx2, trivial⟩, (dec_i (by clear key hok2 hoc2; simp_all)), ?_⟩
       exact ⟨Ch.au, Bk.au⟩
      ·
       refine D_ps 2 rfl ?_
       refine D_ps 3 rfl ?_
       refine D_ps 4 rfl ?_
       refine D_ps 5 rfl ?_
       refine D_ps 6 rfl ?_
       refine D_ps 7 rfl ?_
       refine D_ps 8 rfl ?_
       refine D_ps 9 rfl ?_
       refine D_ps 10 rfl ?_
       refine D_ps 11 rfl ?_
       refine D_ps 12 rfl ?_
       refine D_ps 13 rfl ?_
       refine D_ps 14 rfl ?_
       refine D_t 15 rfl (fun W hW => r_pf rfl rfl) ?_
       refine D_t 16 rfl (fun W hW => r_ab rfl) ?_
       refine D_done (by kernel_rfl) ?_
       refine ⟨⟨fx2, fx2, fx2, trivial⟩, (dec_f (by clear key hok2 hoc2; simp_all)), ?_⟩
       exact ⟨Ch.au, Bk.au⟩
     rintro gcr17 w18 ⟨hf3, hCr17⟩
     refine W_as 3 hf3 rfl ?_
     clear hf3
     obtain ⟨hnwd2, hbcd2⟩ := hCr17
     have hzd2 := hnwd2.size
     refine W_region (L_r (r_mi rfl) ?_)
     refine L_r (r_add rfl rfl (by first | exact wr_i64 (by omega) | rfl)) (L_r (r_ai rfl) (L_nil ?_))
     refine ⟨⟨fx2, fx2, trivial⟩, _, ?_, k2 + 1, decide (oc2 = true ∧ y.name ≠ x.name), rfl, rfl, ?_, rfl⟩
     · omega
     refine ⟨by omega, ?_, Ch.au, Bk.au⟩
     rw [decide_eq_true_eq, hoc2, and_assoc]
     refine and_congr_right fun _ => ⟨fun h j hj hji => ?_, fun h => ⟨fun j hj hji => h j hj (by omega), by rw [hy]; exact h k2 hkl (by omega)⟩⟩
     rcases Nat.lt_or_ge j k2 with h2 | h2
     · exact h.1 j hj h2
     ·
      have e : j = k2 := by omega
      subst e; rw [← hy]; exact h.2
    ·
     refine W_exit ?_
     repeat (first | refine blk_hit ?_ | refine blk_miss rfl ?_)
     refine W_region (L_r (r_mi rfl) ?_)
     refine L_r (r_add rfl rfl (by first | exact wr_i64 (by omega) | rfl)) (L_r (r_ai rfl) (L_nil ?_))
     refine ⟨⟨fx2, trivial⟩, _, ?_, i2 + 1, oc2, rfl, rfl, ?_, rfl⟩
     · omega
     refine ⟨by omega, ?_, Ch.au, Bk.au⟩
     rw [hoc2, UU_s hil, ← hx, decide_eq_true_eq, hok2]
     constructor
     · rintro ⟨⟨⟨a1, a2⟩, a3⟩, a4⟩; exact ⟨a1, ⟨a2, a3⟩, fun k hk hki => a4 k hk (by omega)⟩
     · rintro ⟨a1, ⟨a2, a3⟩, a4⟩; exact ⟨⟨⟨a1, a2⟩, a3⟩, fun k hk hki => a4 k hk (by omega)⟩
   ·
    refine W_exit ?_
    repeat (first | refine blk_hit ?_ | refine blk_miss rfl ?_)
    refine W_seq (W_seq ?_)
    have hoke2 : ok2 = true ↔ (rP0 c ∧ UU c.p.like (rAL c) (fun s => s) c.p.like.length) ∧ UU c.p.fields (rAF c) CF.name c.p.fields.length := by rw [hok2, show i2 = c.p.fields.length by omega]
    refine W_region (L_r (r_ai rfl) (L_nil (W_block ?_)))
    refine W_loopF [1] (fun mz_ f W => ∃ (i4 : Nat) (ok4 : Bool), f 8 = .int .i64 i4 ∧ f 3 = .bool ok4 ∧ (i4 ≤ c.q.length ∧ (ok4 = true ↔ ((rP0 c ∧ UU c.p.like (rAL c) (fun s => s) c.p.like.length) ∧ UU c.p.fields (rAF c) CF.name c.p.fields.length) ∧ UU c.q (rAM c) (fun y => y.m.name) i4) ∧ Nw w0 W ∧ Bk W b1 #[.string c.p.name, .string c.p.super, c.vl, .bool c.p.ifc, .bool c.p.abs, .bool c.p.fin, c.vf, c.vm] 26) ∧ mz_ = c.q.length - i4) ?_ ?_
    ·
     refine ⟨_, 0, ok2, rfl, rfl, ?_, rfl⟩
     exact ⟨by omega, by rw [hoke2]; simp [UU_0], Ch.au, Bk.au⟩
    rintro m4 g4 w19 ⟨i4, ok4, hf8, hf3, hR4, rfl⟩
    refine W_as 8 hf8 rfl ?_
    refine W_as 3 hf3 rfl ?_
    clear hf8 hf3
    obtain ⟨hi4, hok4, hnw4, hbc4⟩ := hR4
    have hz4 := hnw4.size
    refine W_seq (W_seq (W_region (L_r (r_mi rfl) ?_)))
    refine L_r (r_fieldb Tryz.underlying26 rfl (show _ = some 1 from rfl) rfl rfl (show _ = 7 from rfl)) (L_r (r_lb rfl rfl) ?_)
    refine L_r (r_lenSl Tryz.underlying24 (by conv => lhs; whnf) Sl.au) (L_r (r_lss rfl rfl) (L_nil ?_))
    refine W_if rfl (fun h127 => ?_) (fun h127 => ?_)
    ·
     have hil : i4 < c.q.length := by omega
     have hrow := cellsCM_row c.q i4 hil
     have hxm := List.getElem_mem hil
     obtain ⟨x, hx⟩ : ∃ x, x = c.q[i4] := ⟨_, rfl⟩
     rw [← hx] at hrow hxm
     have hxo := hc.ms x hxm
     have h1x := hxo.one
     have hxs := hs.ms _ (q_mem hc hxm)
     refine W_skip (W_seq (W_block (W_seq (W_region ?_))))
     refine L_r (r_fieldb Tryz.underlying26 rfl (show _ = some 1 from rfl) rfl rfl (show _ = 7 from rfl)) (L_r (r_lb rfl rfl) (L_r (r_mi rfl) ?_))
     refine L_r (r_ix Tryz.underlying24 (show _ = some 7 from rfl) (by conv => lhs; whnf) rfl Sl.au) ?_
     refine L_r (r_loadSlrow (us := [.string x.m.name, x.vp, .string x.m.result, .bool x.m.abs, .int .i64 x.m.locals, x.vc, x.vk]) Tryz.underlying43 rfl rfl rfl rfl Sl.au (by exact hrow)) ?_
     refine L_new (.plain rfl) rfl rfl (r_alloca rfl) (fun w20 b9 hb9 eb20 hs20 c20 => ?_)
     refine L_storerow (.plain rfl) rfl rfl Bk.au (by first | rfl | (simp; done) | assumption) (by first | rfl | assumption) (by first | rfl | (simp [Value.oneCell']; done) | assumption) (fun w21 hb21 hs21 c21 => (L_nil ?_))
     refine W_cutF [1, 8, 9] (fun f W => f 3 = .bool (decide (ok4 = true ∧ rAM c x)) ∧ (Nw w0 W ∧ Bk W b1 #[.string c.p.name, .string c.p.super, c.vl, .bool c.p.ifc, .bool c.p.abs, .bool c.p.fin, c.vf, c.vm] 26 ∧ Bk W b9 #[.string x.m.name, x.vp, .string x.m.result, .bool x.m.abs, .int .i64 x.m.locals, x.vc, x.vk] 43)) ?_ ?_
     ·
      refine W_region (L_r (r_mb rfl) (L_r (r_mb rfl) ?_))
      refine L_caseb (d := 136) rfl (fun h136 => ?_) (fun h136 => ?_)
      ·
       refine L_g (r_loadrow Tryz.underlying43 rfl rfl Bk.au (by first | rfl | assumption)) ?_
       refine L_call (.yes 1 true rfl rfl) rfl rfl (r_call Tryz.func74 rfl rfl rfl (by rfl)) (rmethod05_walk x _ (hxo.nw Ch.au) hxs) ?_
       rintro v138 w22 ⟨rfl, c22⟩
       have hz22 := c22.size
       refine L_r (r_pt rfl rfl) (L_r (r_mb rfl) ?_)
       refine L_caseb (d := 140) rfl (fun h140 => ?_) (fun h140 => ?_)
       ·
        refine L_g (r_fieldb Tryz.underlying43 rfl (show _ = some 1 from rfl) rfl rfl (show _ = 3 from rfl)) ?_
        refine L_g (r_lb rfl rfl) ?_
        refine L_g (r_not rfl) ?_
        refine L_g (r_mb rfl) ?_
        refine L_caseb (d := 144) rfl (fun h144 => ?_) (fun h144 => ?_)
        ·
         refine L_ps (L_ps ?_)
         refine L_g (r_pt rfl rfl) (L_r (r_pt rfl rfl) (L_r (r_mb rfl) ?_))
         refine L_g (r_fieldb Tryz.underlying26 rfl (show _ = some 1 from rfl) rfl rfl (show _ = 3 from rfl)) ?_
         refine L_g (r_lb rfl rfl) ?_
         refine L_g (r_not rfl) ?_
         refine L_g (r_mb rfl) ?_
         refine L_caseb (d := 153) rfl (fun h153 => ?_) (fun h153 => ?_)
         ·
          refine L_ps (L_ps ?_)
          refine L_g (r_pt rfl rfl) (L_r (r_pt rfl rfl) (L_r (r_ab rfl) (L_nil ?_)))
          refine ⟨⟨fx2, fx2, fx2, trivial⟩, (dec_t (by unfold rAM; clear key hok4; simp_all)), ?_⟩
          exact ⟨Ch.au, Bk.au, Bk.au⟩
         ·
          refine L_g (r_fieldb Tryz.underlying43 rfl (show _ = some 1 from rfl) rfl rfl (show _ = 3 from rfl)) ?_
          refine L_g (r_lb rfl rfl) ?_
          refine L_g (r_pf rfl rfl) (L_r (r_pt rfl rfl) (L_r (r_ab rfl) (L_nil ?_)))
          refine ⟨⟨fx2, fx2, fx2, trivial⟩, (dec_b (by unfold rAM; clear key hok4; simp_all)), ?_⟩
          exact ⟨Ch.au, Bk.au, Bk.au⟩
        ·
         refine L_g (r_fieldb Tryz.underlying26 rfl (show _ = some 1 from rfl) rfl rfl (show _ = 4 from rfl)) ?_
         refine L_g (r_lb rfl rfl) ?_
         refine L_g (r_pf rfl rfl) (L_r (r_pt rfl rfl) (L_r (r_mb rfl) ?_))
         refine L_caseb (d := 149) rfl (fun h149 => ?_) (fun h149 => ?_)
         ·
          refine L_g (r_fieldb Tryz.underlying26 rfl (show _ = some 1 from rfl) rfl rfl (show _ = 3 from rfl)) ?_
          refine L_g (r_lb rfl rfl) ?_
          refine L_g (r_not rfl) ?_
          refine L_g (r_mb rfl) ?_
          refine L_caseb (d := 153) rfl (fun h153 => ?_) (fun h153 => ?_)
          ·
           refine L_ps (L_ps ?_)
           refine L_g (r_pt rfl rfl) (L_r (r_pt rfl rfl) (L_r (r_ab rfl) (L_nil ?_)))
           refine ⟨⟨fx2, fx2, fx2, trivial⟩, (dec_t (by unfold rAM; clear key hok4; simp_all)), ?_⟩
           exact ⟨Ch.au, Bk.au, Bk.au⟩
          ·
           refine L_g (r_fieldb Tryz.underlying43 rfl (show _ = some 1 from rfl) rfl rfl (show _ = 3 from rfl)) ?_
           refine L_g (r_lb rfl rfl) ?_
           refine L_g (r_pf rfl rfl) (L_r (r_pt rfl rfl) (L_r (r_ab rfl) (L_nil ?_)))
           refine ⟨⟨fx2, fx2, fx2, trivial⟩, (dec_b (by unfold rAM; clear key hok4; simp_all)), ?_⟩
           exact ⟨Ch.au, Bk.au, Bk.au⟩
         ·
          refine L_ps (L_ps (L_ps (L_ps ?_)))
          refine L_pu ?_
          refine L_pu (L_ps (L_r (r_pf rfl rfl) (L_r (r_ab rfl) (L_nil ?_))))
          refine ⟨⟨fx2, fx2, fx2, trivial⟩, (dec_f (by unfold rAM; clear key hok4; simp_all)), ?_⟩
          exact ⟨Ch.au, Bk.au, Bk.au⟩
       ·
        refine L_ps (L_ps (L_ps (L_ps ?_)))
        refine L_pu ?_
        refine L_pu (L_ps (L_r (r_pf rfl rfl) (L_r (r_mb rfl) (L_ps (L_ps (L_ps (L_ps ?_)))))))
        refine L_pu ?_
        refine L_pu (L_ps (L_r (r_pf rfl rfl) (L_r (r_ab rfl) (L_nil ?_))))
        refine ⟨⟨fx2, fx2, fx2, trivial⟩, (dec_f (by unfold rAM; clear key hok4; simp_all)), ?_⟩
        exact ⟨Ch.au, Bk.au, Bk.au⟩
      ·
       refine L_ps (L_ps (L_r (r_pf rfl rfl) (L_r (r_mb rfl) (L_ps (L_ps (L_ps (L_ps ?_)))))))
       refine L_pu ?_
       refine L_pu (L_ps (L_r (r_pf rfl rfl) (L_r (r_mb rfl) (L_ps (L_ps (L_ps (L_ps ?_)))))))
       refine L_pu ?_
       refine L_pu (L_ps (L_r (r_pf rfl rfl) (L_r (r_ab rfl) (L_nil ?_))))
       refine ⟨⟨fx2, fx2, fx2, trivial⟩, (dec_f (by unfold rAM; clear key hok4; simp_all)), ?_⟩
       exact ⟨Ch.au, Bk.au, Bk.au⟩
     rintro gcr22 w23 ⟨hf3, hCr22⟩
     refine W_as 3 hf3 rfl ?_
     clear hf3
     obtain ⟨hnwc4, hbcc4, hb9c⟩ := hCr22
     have hzc4 := hnwc4.size
     refine W_seq (W_region (L_r (r_ai rfl) (L_nil (W_block ?_))))
     refine W_loopF [1, 8, 9] (fun mz_ f W => ∃ (k4 : Nat) (oc4 : Bool), f 10 = .int .i64 k4 ∧ f 3 = .bool oc4 ∧ (k4 ≤ i4 ∧ (oc4 = true ↔ decide (ok4 = true ∧ rAM c x) = true ∧ ∀ k (hk : k < c.q.length), k < k4 → c.q[k].m.name ≠ x.m.name) ∧ Nw w0 W ∧ Bk W b1 #[.string c.p.name, .string c.p.super, c.vl, .bool c.p.ifc, .bool c.p.abs, .bool c.p.fin, c.vf, c.vm] 26 ∧ Bk W b9 #[.string x.m.name, x.vp, .string x.m.result, .bool x.m.abs, .int .i64 x.m.locals, x.vc, x.vk] 43) ∧ mz_ = i4 - k4) ?_ ?_
     ·
      refine ⟨_, 0, decide (ok4 = true ∧ rAM c x), rfl, rfl, ?_, rfl⟩
      exact ⟨by omega, by simp, Ch.au, Bk.au, Bk.au⟩
     rintro m5 g5 w24 ⟨k4, oc4, hf10, hf3, hR5, rfl⟩
     refine W_as 10 hf10 rfl ?_
     refine W_as 3 hf3 rfl ?_
     clear hf10 hf3
     obtain ⟨hk4, hoc4, hnwk4, hbk4, hb9k⟩ := hR5
     have hzk4 := hnwk4.size
     refine W_seq (W_seq (W_region (L_r (r_mi rfl) (L_r (r_mi rfl) (L_r (r_lss rfl rfl) (L_nil ?_))))))
     refine W_if rfl (fun h160 => ?_) (fun h160 => ?_)
     ·
      have hkl : k4 < c.q.length := by omega
      have hrowk := cellsCM_row c.q k4 hkl
      obtain ⟨y, hy⟩ : ∃ y, y = c.q[k4] := ⟨_, rfl⟩
      rw [← hy] at hrowk
      refine W_skip (W_seq (W_block ?_))
      refine W_endF [1, 8, 9, 10] (fun f W => f 3 = .bool (decide (oc4 = true ∧ y.m.name ≠ x.m.name)) ∧ (Nw w0 W ∧ Bk W b1 #[.string c.p.name, .string c.p.super, c.vl, .bool c.p.ifc, .bool c.p.abs, .bool c.p.fin, c.vf, c.vm] 26 ∧ Bk W b9 #[.string x.m.name, x.vp, .string x.m.result, .bool x.m.abs, .int .i64 x.m.locals, x.vc, x.vk] 43)) ?_ ?_
      ·
       refine W_draw (fun W => Bk W b1 #[.string c.p.name, .string c.p.super, c.vl, .bool c.p.ifc, .bool c.p.abs, .bool c.p.fin, c.vf, c.vm] 26 ∧ Sl W c.vm 7 c.q.length (cellsCM c.q) ∧ Bk W b9 #[.string x.m.name, x.vp, .string x.m.result, .bool x.m.abs, .int .i64 x.m.locals, x.vc, x.vk] 43) 13 (m := 13) (by kernel_rfl) rfl (fun w25 c25 hs25 => ?_)
       refine held (by exact ⟨Bk.au, Sl.au, Bk.au⟩) (fun hS => ?_)
       refine D_t 0 rfl (fun W hW => r_mb rfl) ?_
       refine D_t 1 rfl (fun W hW => r_mb rfl) ?_
       refine D_caseb (d := 164) rfl (fun h164 => ?_) (fun h164 => ?_)
       ·
        refine D_g 2 rfl (fun W hW => r_fieldb Tryz.underlying26 rfl (show _ = some 1 from rfl) rfl rfl (show _ = 7 from rfl)) ?_
        refine D_g 3 rfl (fun W hW => r_loadb rfl rfl (by first | exact hW.1 | exact hW.2 | exact hW.2.1 | exact hW.2.2) (by first | assumption | (conv => lhs; simp only [List.getElem?_toArray, List.getElem?_cons_succ, List.getElem?_cons_zero]))) ?_
        refine D_g 4 rfl (fun W hW => r_mi rfl) ?_
        refine D_g 5 rfl (fun W hW => r_ix Tryz.underlying24 (show _ = some 7 from rfl) (by conv => lhs; whnf) rfl (by first | exact hW.1 | exact hW.2 | exact hW.2.1 | exact hW.2.2)) ?_
        refine D_g 6 rfl (fun W hW => r_fieldSl Tryz.underlying43 rfl (show _ = some 1 from rfl) rfl (show _ = 0 from rfl) (Nat.add_zero _) rfl) ?_
        refine D_g 7 rfl (fun W hW => r_loadSl rfl rfl (by first | exact hW.1 | exact hW.2 | exact hW.2.1 | exact hW.2.2) (by first | exact hrow | exact hrowk | exact hrow 0 _ rfl | exact hrow 1 _ rfl | exact hrowk 0 _ rfl | assumption)) ?_
        refine D_g 8 rfl (fun W hW => r_fieldb Tryz.underlying43 rfl (show _ = some 1 from rfl) rfl rfl (show _ = 0 from rfl)) ?_
        refine D_g 9 rfl (fun W hW => r_loadb rfl rfl (by first | exact hW.1 | exact hW.2 | exact hW.2.1 | exact hW.2.2) (by first | assumption | (conv => lhs; simp only [List.getElem?_toArray, List.getElem?_cons_succ, List.getElem?_cons_zero]))) ?_
        refine D_g 10 rfl (fun W hW => r_neqs rfl rfl) ?_
        refine D_t 11 rfl (fun W hW => r_pt rfl rfl) ?_
        refine D_t 12 rfl (fun W hW => r_ab rfl) ?_
        refine D_done (by kernel_rfl) ?_
        refine ⟨⟨fx2, fx2, fx2, fx2, trivial⟩, (dec_i (by clear key hok4 hoc4; simp_all)), ?_⟩
        exact ⟨Ch.au, Bk.au, Bk.au⟩
       ·
        refine D_ps 2 rfl ?_
        refine D_ps 3 rfl ?_
        refine D_ps 4 rfl ?_
        refine D_ps 5 rfl ?_
        refine D_ps 6 rfl ?_
        refine D_ps 7 rfl ?_
        refine D_ps 8 rfl ?_
        refine D_ps 9 rfl ?_
        refine D_ps 10 rfl ?_
        refine D_t 11 rfl (fun W hW => r_pf rfl rfl) ?_
        refine D_t 12 rfl (fun W hW => r_ab rfl) ?_
        refine D_done (by kernel_rfl) ?_
        refine ⟨⟨fx2, fx2, fx2, fx2, trivial⟩, (dec_f (by clear key hok4 hoc4; simp_all)), ?_⟩
        exact ⟨Ch.au, Bk.au, Bk.au⟩
      rintro gcr26 w26 ⟨hf3, hCr26⟩
      refine W_as 3 hf3 rfl ?_
      clear hf3
      obtain ⟨hnwd4, hbcd4, hb9d⟩ := hCr26
      have hzd4 := hnwd4.size
      refine W_region (L_r (r_mi rfl) ?_)
      refine L_r (r_add rfl rfl (by first | exact wr_i64 (by omega) | rfl)) (L_r (r_ai rfl) (L_nil ?_))
      refine ⟨⟨fx2, fx2, fx2, trivial⟩, _, ?_, k4 + 1, decide (oc4 = true ∧ y.m.name ≠ x.m.name), rfl, rfl, ?_, rfl⟩
      · omega
      refine ⟨by omega, ?_, Ch.au, Bk.au, Bk.au⟩
      rw [decide_eq_true_eq, hoc4, and_assoc]
      refine and_congr_right fun _ => ⟨fun h j hj hji => ?_, fun h => ⟨fun j hj hji => h j hj (by omega), by rw [hy]; exact h k4 hkl (by omega)⟩⟩
      rcases Nat.lt_or_ge j k4 with h2 | h2
      · exact h.1 j hj h2
      ·
       have e : j = k4 := by omega
       subst e; rw [← hy]; exact h.2
     ·
      refine W_exit ?_
      repeat (first | refine blk_hit ?_ | refine blk_miss rfl ?_)
      refine W_region (L_r (r_mi rfl) ?_)
      refine L_r (r_add rfl rfl (by first | exact wr_i64 (by omega) | rfl)) (L_r (r_ai rfl) (L_nil ?_))
      refine ⟨⟨fx2, trivial⟩, _, ?_, i4 + 1, oc4, rfl, rfl, ?_, rfl⟩
      · omega
      refine ⟨by omega, ?_, Ch.au, Bk.au⟩
      rw [hoc4, UU_s hil, ← hx, decide_eq_true_eq, hok4]
      constructor
      · rintro ⟨⟨⟨a1, a2⟩, a3⟩, a4⟩; exact ⟨a1, ⟨a2, a3⟩, fun k hk hki => a4 k hk (by omega)⟩
      · rintro ⟨a1, ⟨a2, a3⟩, a4⟩; exact ⟨⟨⟨a1, a2⟩, a3⟩, fun k hk hki => a4 k hk (by omega)⟩
    ·
     refine W_exit ?_
     repeat (first | refine blk_hit ?_ | refine blk_miss rfl ?_)
     refine W_seq ?_
     have hoke4 : ok4 = true ↔ ((rP0 c ∧ UU c.p.like (rAL c) (fun s => s) c.p.like.length) ∧ UU c.p.fields (rAF c) CF.name c.p.fields.length) ∧ UU c.q (rAM c) (fun y => y.m.name) c.q.length := by rw [hok4, show i4 = c.q.length by omega]
     refine W_region (L_r (r_mb rfl) (L_r (r_mb rfl) ?_))
     refine L_caseb (d := 176) rfl (fun h176 => ?_) (fun h176 => ?_)
     ·
      refine L_g (r_fieldb Tryz.underlying26 rfl (show _ = some 1 from rfl) rfl rfl (show _ = 3 from rfl)) ?_
      refine L_g (r_lb rfl rfl) ?_
      refine L_g (r_not rfl) ?_
      refine L_g (r_mb rfl) ?_
      refine L_caseb (d := 180) rfl (fun h180 => ?_) (fun h180 => ?_)
      ·
       refine L_ps (L_ps (L_ps ?_))
       refine L_pu ?_
       refine L_pu ?_
       refine L_pu (L_ps ?_)
       refine L_g (r_pt rfl rfl) (L_r (r_pt rfl rfl) (L_r (r_mb rfl) ?_))
       refine L_g (r_fieldb Tryz.underlying26 rfl (show _ = some 1 from rfl) rfl rfl (show _ = 4 from rfl)) ?_
       refine L_g (r_lb rfl rfl) ?_
       refine L_g (r_mb rfl) ?_
       refine L_caseb (d := 193) rfl (fun h193 => ?_) (fun h193 => ?_)
       ·
        refine L_g (r_fieldb Tryz.underlying26 rfl (show _ = some 1 from rfl) rfl rfl (show _ = 5 from rfl)) ?_
        refine L_g (r_lb rfl rfl) ?_
        refine L_g (r_pt rfl rfl) ?_
        refine L_g (r_not rfl) (L_r (r_pt rfl rfl) (L_r (r_ab rfl) (L_nil (W_ret ?_))))
        refine ret1 (v := .bool _) rfl rfl ?_
        refine ⟨?_, Ch.au⟩
        rw [← hoke4] at key
        unfold rEnd at key
        clear hoke0 hoke2 hoke4 hok4 hok2 hok0
        first
        | exact bool_f (fun h => by rw [key] at h; simp_all; done)
        | exact bool_t (by rw [key]; simp_all; done)
        | exact bool_dec (by rw [key]; simp_all; done)
        | exact dec_b (by rw [key]; simp_all; done)
       ·
        refine L_ps (L_ps ?_)
        refine L_g (r_pf rfl rfl) ?_
        refine L_g (r_not rfl) (L_r (r_pt rfl rfl) (L_r (r_ab rfl) (L_nil (W_ret ?_))))
        refine ret1 (v := .bool _) rfl rfl ?_
        refine ⟨?_, Ch.au⟩
        rw [← hoke4] at key
        unfold rEnd at key
        clear hoke0 hoke2 hoke4 hok4 hok2 hok0
        first
        | exact bool_f (fun h => by rw [key] at h; simp_all; done)
        | exact bool_t (by rw [key]; simp_all; done)
        | exact bool_dec (by rw [key]; simp_all; done)
        | exact dec_b (by rw [key]; simp_all; done)
      ·
       refine L_g (r_fieldb Tryz.underlying26 rfl (show _ = some 1 from rfl) rfl rfl (show _ = 4 from rfl)) ?_
       refine L_g (r_lb rfl rfl) ?_
       refine L_g (r_mb rfl) ?_
       refine L_caseb (d := 183) rfl (fun h183 => ?_) (fun h183 => ?_)
       ·
        refine L_g (r_fieldb Tryz.underlying26 rfl (show _ = some 1 from rfl) rfl rfl (show _ = 1 from rfl)) ?_
        refine L_g (r_lb rfl rfl) ?_
        refine L_g (r_eqls rfl rfl) ?_
        refine L_g (r_pt rfl rfl) ?_
        refine L_g (r_pf rfl rfl) (L_r (r_pt rfl rfl) (L_r (r_mb rfl) ?_))
        refine L_case (d := 190) rfl (fun h190 => ?_) (fun h190 => ?_)
        ·
         refine L_g (r_fieldb Tryz.underlying26 rfl (show _ = some 1 from rfl) rfl rfl (show _ = 4 from rfl)) ?_
         refine L_g (r_lb rfl rfl) ?_
         refine L_g (r_mb rfl) ?_
         refine L_caseb (d := 193) rfl (fun h193 => ?_) (fun h193 => ?_)
         ·
          refine L_g (r_fieldb Tryz.underlying26 rfl (show _ = some 1 from rfl) rfl rfl (show _ = 5 from rfl)) ?_
          refine L_g (r_lb rfl rfl) ?_
          refine L_g (r_pt rfl rfl) ?_
          refine L_g (r_not rfl) (L_r (r_pt rfl rfl) (L_r (r_ab rfl) (L_nil (W_ret ?_))))
          refine ret1 (v := .bool _) rfl rfl ?_
          refine ⟨?_, Ch.au⟩
          rw [← hoke4] at key
          unfold rEnd at key
          clear hoke0 hoke2 hoke4 hok4 hok2 hok0
          first
          | exact bool_f (fun h => by rw [key] at h; simp_all; done)
          | exact bool_t (by rw [key]; simp_all; done)
          | exact bool_dec (by rw [key]; simp_all; done)
          | exact dec_b (by rw [key]; simp_all; done)
         ·
          refine L_ps (L_ps ?_)
          refine L_g (r_pf rfl rfl) ?_
          refine L_g (r_not rfl) (L_r (r_pt rfl rfl) (L_r (r_ab rfl) (L_nil (W_ret ?_))))
          refine ret1 (v := .bool _) rfl rfl ?_
          refine ⟨?_, Ch.au⟩
          rw [← hoke4] at key
          unfold rEnd at key
          clear hoke0 hoke2 hoke4 hok4 hok2 hok0
          first
          | exact bool_f (fun h => by rw [key] at h; simp_all; done)
          | exact bool_t (by rw [key]; simp_all; done)
          | exact bool_dec (by rw [key]; simp_all; done)
          | exact dec_b (by rw [key]; simp_all; done)
        ·
         refine L_ps (L_ps (L_ps ?_))
         refine L_pu ?_
         refine L_pu (L_ps (L_ps (L_r (r_pf rfl rfl) (L_r (r_ab rfl) (L_nil (W_ret ?_))))))
         refine ret1 (v := .bool _) rfl rfl ?_
         refine ⟨?_, Ch.au⟩
         rw [← hoke4] at key
         unfold rEnd at key
         clear hoke0 hoke2 hoke4 hok4 hok2 hok0
         first
         | exact bool_f (fun h => by rw [key] at h; simp_all; done)
         | exact bool_t (by rw [key]; simp_all; done)
         | exact bool_dec (by rw [key]; simp_all; done)
         | exact dec_b (by rw [key]; simp_all; done)
       ·
        refine L_ps (L_ps (L_ps ?_))
        refine L_g (r_pf rfl rfl) ?_
        refine L_g (r_pf rfl rfl) (L_r (r_pt rfl rfl) (L_r (r_mb rfl) (L_ps (L_ps (L_ps ?_)))))
        refine L_pu ?_
        refine L_pu (L_ps (L_ps (L_r (r_pf rfl rfl) (L_r (r_ab rfl) (L_nil (W_ret ?_))))))
        refine ret1 (v := .bool _) rfl rfl ?_
        refine ⟨?_, Ch.au⟩
        rw [← hoke4] at key
        unfold rEnd at key
        clear hoke0 hoke2 hoke4 hok4 hok2 hok0
        first
        | exact bool_f (fun h => by rw [key] at h; simp_all; done)
        | exact bool_t (by rw [key]; simp_all; done)
        | exact bool_dec (by rw [key]; simp_all; done)
        | exact dec_b (by rw [key]; simp_all; done)
     ·
      refine L_ps (L_ps (L_ps (L_ps ?_)))
      refine L_pu ?_
      refine L_pu ?_
      refine L_pu ?_
      refine L_pu ?_
      refine L_pu ?_
      refine L_pu ?_
      refine L_pu (L_ps (L_r (r_pf rfl rfl) (L_r (r_mb rfl) (L_ps (L_ps (L_ps ?_))))))
      refine L_pu ?_
      refine L_pu (L_ps (L_ps (L_r (r_pf rfl rfl) (L_r (r_ab rfl) (L_nil (W_ret ?_))))))
      refine ret1 (v := .bool _) rfl rfl ?_
      refine ⟨?_, Ch.au⟩
      rw [← hoke4] at key
      unfold rEnd at key
      clear hoke0 hoke2 hoke4 hok4 hok2 hok0
      first
      | exact bool_f (fun h => by rw [key] at h; simp_all; done)
      | exact bool_t (by rw [key]; simp_all; done)
      | exact bool_dec (by rw [key]; simp_all; done)
      | exact dec_b (by rw [key]; simp_all; done)
end Go.Proofs.YthpknpfhpkkheaaGreatDoor

namespace Go.Proofs.YthpknpfhpkkheaaGreatDoor
open Go Go.RowKit
set_option linter.unusedVariables false
set_option linter.unusedSimpArgs false
set_option maxRecDepth 100000
theorem txt05 (s : ByteArray) (w : World) (hs : s.size ≤ 100) : Does Tryz.prog 36 #[.string s] w (fun r w' => ∃ t, r = .string t ∧ t = sb (textL s) ∧ t.size ≤ 110 ∧ Nw w w') :=
  (rtext_walk s w (by omega)).mono fun r w' ⟨h, c⟩ => ⟨_, h, by unfold textL; rw [sb_append, sb_bs], by have := varL_ten (v := s.size) (by omega); rw [ByteArray.size_append, sb_size]; omega, c⟩
theorem flg05 (b : Bool) (w : World) : Does Tryz.prog 38 #[.bool b] w (fun r w' => ∃ t, r = .string t ∧ t = sb (flagL b) ∧ t.size ≤ 1 ∧ Nw w w') :=
  (rflag_walk b w).mono fun r w' ⟨h, c⟩ => ⟨_, h, rfl, by rw [sb_size, flagL_len']; exact Nat.le_refl _, c ▸ Ch.refl _⟩
theorem rnum05_walk (n : Nat) (w0 : World) (hn : n ≤ 1000000000000000) : Does Tryz.prog 39 #[.int .i64 n] w0 (fun r w' => ∃ t, r = .string t ∧ t = sb (varL n) ∧ t.size ≤ 10 ∧ Nw w0 w') := by
  refine fn_of (n := 6) (args := [.int .i64 n]) Tryz.func39 rfl rfl rfl (W_seq (W_region (L_r (r_as rfl) (L_nil (W_seq (W_region (L_r (r_mi rfl) ?_)))))))
  refine L_r (r_conv Tryz.underlying3 Tryz.underlying80 rfl (by first | exact wr_u64 (by omega) | rfl)) ?_
  refine L_call (.plain rfl) rfl rfl (r_call Tryz.func100 rfl rfl rfl (by rfl)) (rvar_walk n _ (by omega)) ?_
  rintro v5 w1 ⟨rfl, c1⟩
  have hz1 := c1.size
  refine L_r (r_as rfl) (L_nil (W_ret ?_))
  refine ret1 (v := .string _) rfl rfl ?_
  exact ⟨_, rfl, rfl, by rw [sb_size]; exact varL_ten (by omega), Ch.au⟩
set_option maxHeartbeats 1000000 in
theorem rtexts05_walk (v : Value) (z : List ByteArray) (w0 : World) (hv : Sl w0 v 1 z.length (scells z)) (hl : z.length ≤ 32) (hs : ∀ x ∈ z, x.size ≤ 100) : Does Tryz.prog 37 #[v] w0 (fun r w' => ∃ t, r = .string t ∧ t = sb (txtsL z) ∧ t.size ≤ 10000 ∧ Nw w0 w') := by
  refine fn_of (n := 22) (args := [v]) Tryz.func37 rfl rfl rfl (W_seq (W_region (L_r (r_as rfl) (L_nil (W_seq (W_region (L_r (r_mv) ?_)))))))
  refine L_r (r_lenSl Tryz.underlying22 (by conv => lhs; whnf) Sl.au) ?_
  refine L_call (.plain rfl) rfl rfl (r_call Tryz.func39 rfl rfl rfl (by rfl)) (rnum05_walk z.length _ (by omega)) ?_
  rintro v7 w1 ⟨tn, rfl, htn, hln, c1⟩
  have hz1 := c1.size
  refine L_r (r_as rfl) (L_nil (W_seq (W_seq (W_region (L_r (r_ai rfl) (L_nil (W_block ?_)))))))
  refine W_loopF [0] (fun mz_ f W => ∃ (i : Nat) (B : List UInt8), f 4 = .int .i64 i ∧ f 3 = .string (sb B) ∧ (i ≤ z.length ∧ B = varL z.length ++ (z.take i).flatMap textL ∧ Nw w0 W) ∧ mz_ = z.length - i) ?_ ?_
  ·
   refine ⟨_, 0, varL z.length, rfl, (by refine congrArg Value.string ?_; rw [htn]), ?_, rfl⟩
   exact ⟨by omega, by simp, Ch.au⟩
  rintro m0 g0 w2 ⟨i, B, hf4, hf3, hR0, rfl⟩
  refine W_as 4 hf4 rfl ?_
  refine W_as 3 hf3 rfl ?_
  clear hf4 hf3
  obtain ⟨hi, hB, hnw⟩ := hR0
  have hz := hnw.size
  have hpl := flat_leL textL 110 (z.take i) (fun x hx => textL_leK (hs x (List.mem_of_mem_take hx)) (by omega))
  rw [List.length_take] at hpl
  have hvn := varL_ten (v := z.length) (by omega)
  have hBl : B.length ≤ 10000 := by rw [hB, List.length_append]; omega
  have hBs := sb_size B
  refine W_seq (W_seq (W_region (L_r (r_mi rfl) (L_r (r_mv) ?_))))
  refine L_r (r_lenSl Tryz.underlying22 (by conv => lhs; whnf) Sl.au) (L_r (r_lss rfl rfl) (L_nil ?_))
  refine W_if rfl (fun h11 => ?_) (fun h11 => ?_)
  ·
   have hil : i < z.length := by omega
   have hrow := scells_get z i hil
   have hxm := List.getElem_mem hil
   obtain ⟨x, hx⟩ : ∃ x, x = z[i] := ⟨_, rfl⟩
   rw [← hx] at hrow hxm
   refine W_skip (W_seq (W_block (W_region (L_r (r_ms rfl) (L_r (r_mv) (L_r (r_mi rfl) ?_))))))
   refine L_r (r_ix Tryz.underlying22 (show _ = some 1 from rfl) (by conv => lhs; whnf) rfl Sl.au) ?_
   refine L_r (r_loadSl rfl rfl Sl.au (by first | exact hrow | assumption)) ?_
   refine L_call (.plain rfl) rfl rfl (r_call Tryz.func36 rfl rfl rfl (by rfl)) (txt05 x _ (hs x hxm)) ?_
   rintro v19 w3 ⟨tx, rfl, htx, hlx, c3⟩
   have hz3 := c3.size
   refine L_r (r_adds rfl rfl (by first | omega | (simp only [ByteArray.size_append]; omega))) (L_r (r_as rfl) (L_nil (W_region (L_r (r_mi rfl) ?_))))
   refine L_r (r_add rfl rfl (by first | exact wr_i64 (by omega) | rfl)) (L_r (r_ai rfl) (L_nil ?_))
   refine ⟨⟨fx2, trivial⟩, _, ?_, i + 1, B ++ textL x, rfl, (by refine congrArg Value.string ?_; rw [htx, sb_append]), ?_, rfl⟩
   · omega
   exact ⟨by omega, by rw [List.take_succ_eq_append_getElem hil, List.flatMap_append, ← List.append_assoc, ← hB, ← hx]; simp, Ch.au⟩
  ·
   refine W_exit ?_
   repeat (first | refine blk_hit ?_ | refine blk_miss rfl ?_)
   refine W_seq (W_region (L_r (r_ms rfl) (L_r (r_as rfl) (L_nil (W_ret ?_)))))
   refine ret1 (v := .string _) rfl rfl ?_
   exact ⟨_, rfl, by rw [hB, show i = z.length by omega, List.take_length]; rfl, by omega, Ch.au⟩
theorem rnum05i (z : Int) (w : World) (h0 : 0 ≤ z) (h1 : z ≤ 1000000000000000) : Does Tryz.prog 39 #[.int .i64 z] w (fun r w' => ∃ t, r = .string t ∧ t = sb (varL z.toNat) ∧ t.size ≤ 10 ∧ Nw w w') := by
  obtain ⟨n, rfl⟩ := Int.eq_ofNat_of_zero_le h0
  exact rnum05_walk n w (by omega)
def mhdB (m : Mth) : List UInt8 := textL m.name ++ (txtsL m.params ++ (textL m.result ++ flagL m.abs))
theorem mthB_hd (m : Mth) : mthB m = mhdB m ++ bodyB m := by unfold mthB mhdB; simp only [List.append_assoc]
def chdB (c : Cls) : List UInt8 := textL c.name ++ (textL c.super ++ (txtsL c.like ++ (flagL c.ifc ++ (flagL c.abs ++ (flagL c.fin ++ varL c.fields.length)))))
theorem clsB_hd (c : Cls) : clsB c = chdB c ++ (c.fields.flatMap fldB ++ (varL c.ms.length ++ c.ms.flatMap mthB)) := by unfold clsB chdB; simp only [List.append_assoc]
theorem put04u (v : Value) (z : List Ins) (w : World) (hv : Sl w v 3 z.length (cellsI z)) (hl : z.length ≤ 200) (hs : ∀ x ∈ z, (-9223372036854775808 ≤ x.n ∧ x.n ≤ 9223372036854775807) ∧ x.s.size ≤ 70) (hok : ∀ x ∈ z, checkI x = 0) :
    Does Tryz.prog 40 #[v] w (fun r w' => ∃ t, r = .string t ∧ t = sb (putL z) ∧ t.size ≤ 21000 ∧ Nw w w') :=
  (rput04_walk v z w hv (by omega) (fun x hx => ⟨(hs x hx).1, by have := (hs x hx).2; omega⟩) hok).mono fun r w' ⟨h, c⟩ => ⟨_, h, rfl, by
    have := flat_leL insB 100 z fun x hx => insB_le (hs x hx).1 (hs x hx).2
    have h2 := varL_ten (v := z.length) (by omega)
    rw [sb_size]
    unfold putL
    rw [List.length_append]
    omega, c⟩
set_option maxHeartbeats 8000000 in
theorem rput05_walk (c : CC) (w0 : World) (hc : c.ok w0) (hp : clsP c.p) (hf : ¬ manyP c.p) (hn : insN c.p) : Does Tryz.prog 17 #[c.v] w0 (fun r w' => r = .string (sb (clsB c.p)) ∧ Nw w0 w') := by
  have h1c := hc.one
  have hcl := hc.l
  have hcf := hc.f
  have hcm := hc.m
  have hql := q_len hc
  have f1 : c.p.like.length ≤ 32 := by { have : ¬ 32 < c.p.like.length := fun k => hf (.inr (.inl k)); omega }
  have f2 : c.p.fields.length ≤ 32 := by { have : ¬ 32 < c.p.fields.length := fun k => hf (.inr (.inr (.inl k))); omega }
  have f3 : c.p.ms.length ≤ 32 := by { have : ¬ 32 < c.p.ms.length := fun k => hf (.inr (.inr (.inr k))); omega }
  have f4 : ∀ m ∈ c.p.ms, ¬ manyM m := fun m hm k => hf (.inl ⟨m, hm, k⟩)
  have n1 := hp.name.1.2.1
  have n2 := hp.super.1.2.1
  have hfl : ∀ x ∈ c.p.fields, (fldB x).length ≤ 91 := fun x hx => by
    have a1 := textL_leK (hp.fields x hx).1.1.2.1 (by omega)
    have a2 := textL_leK (right_le38 (hp.fields x hx).2) (by omega)
    have a3 := flagL_len' x.tr
    unfold fldB
    simp only [List.length_append]
    omega
  refine fn_of (n := 150) (args := [c.v]) Tryz.func17 rfl rfl rfl (W_seq (W_region ?_))
  refine L_new (.plain rfl) rfl rfl (r_boxa rfl) (fun w1 b1 hb1 eb1 hs1 c1 => (L_r (r_as rfl) (L_nil ?_)))
  refine W_cutF [1] (fun f W => f 3 = .string (sb (chdB c.p)) ∧ (Bk W b1 #[.string c.p.name, .string c.p.super, c.vl, .bool c.p.ifc, .bool c.p.abs, .bool c.p.fin, c.vf, c.vm] 26 ∧ Nw w0 W ∧ (chdB c.p).length ≤ 20000)) ?_ ?_
  ·
   refine W_draw (fun W => Bk W b1 #[.string c.p.name, .string c.p.super, c.vl, .bool c.p.ifc, .bool c.p.abs, .bool c.p.fin, c.vf, c.vm] 26 ∧ Sl W c.vf 3 c.p.fields.length (cellsCF c.p.fields)) 29 (m := 29) (by kernel_rfl) rfl (fun w2 c2 hs2 => ?_)
   refine held (by exact ⟨Bk.au, Sl.au⟩) (fun hS => ?_)
   refine D_t 0 rfl (fun W hW => r_fieldb Tryz.underlying26 rfl (show _ = some 1 from rfl) rfl rfl (show _ = 0 from rfl)) ?_
   refine D_t 1 rfl (fun W hW => r_loadb rfl rfl (by first | exact hW.1 | exact hW.2) (by first | assumption | (conv => lhs; simp only [List.getElem?_toArray, List.getElem?_cons_succ, List.getElem?_cons_zero]))) ?_
   refine D_t 3 rfl (fun W hW => r_fieldb Tryz.underlying26 rfl (show _ = some 1 from rfl) rfl rfl (show _ = 1 from rfl)) ?_
   refine D_t 4 rfl (fun W hW => r_loadb rfl rfl (by first | exact hW.1 | exact hW.2) (by first | assumption | (conv => lhs; simp only [List.getElem?_toArray, List.getElem?_cons_succ, List.getElem?_cons_zero]))) ?_
   refine D_t 7 rfl (fun W hW => r_fieldb Tryz.underlying26 rfl (show _ = some 1 from rfl) rfl rfl (show _ = 2 from rfl)) ?_
   refine D_t 8 rfl (fun W hW => r_loadb rfl rfl (by first | exact hW.1 | exact hW.2) (by first | assumption | (conv => lhs; simp only [List.getElem?_toArray, List.getElem?_cons_succ, List.getElem?_cons_zero]))) ?_
   refine D_t 11 rfl (fun W hW => r_fieldb Tryz.underlying26 rfl (show _ = some 1 from rfl) rfl rfl (show _ = 3 from rfl)) ?_
   refine D_t 12 rfl (fun W hW => r_loadb rfl rfl (by first | exact hW.1 | exact hW.2) (by first | assumption | (conv => lhs; simp only [List.getElem?_toArray, List.getElem?_cons_succ, List.getElem?_cons_zero]))) ?_
   refine D_t 15 rfl (fun W hW => r_fieldb Tryz.underlying26 rfl (show _ = some 1 from rfl) rfl rfl (show _ = 4 from rfl)) ?_
   refine D_t 16 rfl (fun W hW => r_loadb rfl rfl (by first | exact hW.1 | exact hW.2) (by first | assumption | (conv => lhs; simp only [List.getElem?_toArray, List.getElem?_cons_succ, List.getElem?_cons_zero]))) ?_
   refine D_t 19 rfl (fun W hW => r_fieldb Tryz.underlying26 rfl (show _ = some 1 from rfl) rfl rfl (show _ = 5 from rfl)) ?_
   refine D_t 20 rfl (fun W hW => r_loadb rfl rfl (by first | exact hW.1 | exact hW.2) (by first | assumption | (conv => lhs; simp only [List.getElem?_toArray, List.getElem?_cons_succ, List.getElem?_cons_zero]))) ?_
   refine D_t 23 rfl (fun W hW => r_fieldb Tryz.underlying26 rfl (show _ = some 1 from rfl) rfl rfl (show _ = 6 from rfl)) ?_
   refine D_t 24 rfl (fun W hW => r_loadb rfl rfl (by first | exact hW.1 | exact hW.2) (by first | assumption | (conv => lhs; simp only [List.getElem?_toArray, List.getElem?_cons_succ, List.getElem?_cons_zero]))) ?_
   refine D_t 25 rfl (fun W hW => r_lenSl Tryz.underlying23 (by conv => lhs; whnf) (by first | exact hW.1 | exact hW.2)) ?_
   refine D_ev 2 (by kernel_rfl) rfl ?_
   refine L_call (.plain rfl) rfl rfl (r_call Tryz.func36 rfl rfl rfl (by rfl)) (txt05 c.p.name _ (by omega)) ?_
   rintro v11 w3 ⟨t11, rfl, ht11, hl11, c3⟩
   have hz3 := c3.size
   refine L_nil ?_
   refine heldK (by exact ⟨Bk.au, Sl.au⟩) (fun hS => ?_)
   refine D_ev 5 (by kernel_rfl) rfl ?_
   refine L_call (.plain rfl) rfl rfl (r_call Tryz.func36 rfl rfl rfl (by rfl)) (txt05 c.p.super _ (by omega)) ?_
   rintro v14 w4 ⟨t14, rfl, ht14, hl14, c4⟩
   have hz4 := c4.size
   refine L_nil ?_
   refine heldK (by exact ⟨Bk.au, Sl.au⟩) (fun hS => ?_)
   refine D_t 6 rfl (fun W hW => r_adds rfl rfl (by first | omega | (simp only [ByteArray.size_append]; omega))) ?_
   refine D_ev 9 (by kernel_rfl) rfl ?_
   refine L_call (.plain rfl) rfl rfl (r_call Tryz.func37 rfl rfl rfl (by rfl)) (rtexts05_walk c.vl c.p.like _ Sl.au f1 (fun x hx => by have := (hp.like x hx).1.1.2.1; omega)) ?_
   rintro v18 w5 ⟨t18, rfl, ht18, hl18, c5⟩
   have hz5 := c5.size
   refine L_nil ?_
   refine heldK (by exact ⟨Bk.au, Sl.au⟩) (fun hS => ?_)
   refine D_t 10 rfl (fun W hW => r_adds rfl rfl (by first | omega | (simp only [ByteArray.size_append]; omega))) ?_
   refine D_ev 13 (by kernel_rfl) rfl ?_
   refine L_call (.plain rfl) rfl rfl (r_call Tryz.func38 rfl rfl rfl (by rfl)) (flg05 c.p.ifc _) ?_
   rintro v22 w6 ⟨t22, rfl, ht22, hl22, c6⟩
   have hz6 := c6.size
   refine L_nil ?_
   refine heldK (by exact ⟨Bk.au, Sl.au⟩) (fun hS => ?_)
   refine D_t 14 rfl (fun W hW => r_adds rfl rfl (by first | omega | (simp only [ByteArray.size_append]; omega))) ?_
   refine D_ev 17 (by kernel_rfl) rfl ?_
   refine L_call (.plain rfl) rfl rfl (r_call Tryz.func38 rfl rfl rfl (by rfl)) (flg05 c.p.abs _) ?_
   rintro v26 w7 ⟨t26, rfl, ht26, hl26, c7⟩
   have hz7 := c7.size
   refine L_nil ?_
   refine heldK (by exact ⟨Bk.au, Sl.au⟩) (fun hS => ?_)
   refine D_t 18 rfl (fun W hW => r_adds rfl rfl (by first | omega | (simp only [ByteArray.size_append]; omega))) ?_
   refine D_ev 21 (by kernel_rfl) rfl ?_
   refine L_call (.plain rfl) rfl rfl (r_call Tryz.func38 rfl rfl rfl (by rfl)) (flg05 c.p.fin _) ?_
   rintro v30 w8 ⟨t30, rfl, ht30, hl30, c8⟩
   have hz8 := c8.size
   refine L_nil ?_
   refine heldK (by exact ⟨Bk.au, Sl.au⟩) (fun hS => ?_)
   refine D_t 22 rfl (fun W hW => r_adds rfl rfl (by first | omega | (simp only [ByteArray.size_append]; omega))) ?_
   refine D_ev 26 (by kernel_rfl) rfl ?_
   refine L_call (.plain rfl) rfl rfl (r_call Tryz.func39 rfl rfl rfl (by rfl)) (rnum05_walk c.p.fields.length _ (by omega)) ?_
   rintro v35 w9 ⟨t35, rfl, ht35, hl35, c9⟩
   have hz9 := c9.size
   refine L_nil ?_
   refine heldK (by exact ⟨Bk.au, Sl.au⟩) (fun hS => ?_)
   refine D_t 27 rfl (fun W hW => r_adds rfl rfl (by first | omega | (simp only [ByteArray.size_append]; omega))) ?_
   refine D_t 28 rfl (fun W hW => r_as rfl) ?_
   refine D_done (by kernel_rfl) ?_
   refine ⟨⟨fx2, trivial⟩, (by refine congrArg Value.string ?_; rw [ht11, ht14, ht18, ht22, ht26, ht30, ht35]; unfold chdB; simp only [sb_append, ByteArray.append_assoc]), ?_⟩
   exact ⟨Bk.au, Ch.au, by
     have e : (chdB c.p).length = t11.size + (t14.size + (t18.size + (t22.size + (t26.size + (t30.size + t35.size))))) := by
       rw [ht11, ht14, ht18, ht22, ht26, ht30, ht35]
       unfold chdB
       simp only [sb_size, List.length_append]
     omega⟩
  rintro gcr1 w10 ⟨hf3, hCr1⟩
  refine W_as 3 hf3 rfl ?_
  clear hf3
  obtain ⟨hb1c, hnw1, hhd⟩ := hCr1
  have hz1 := hnw1.size
  refine W_seq (W_seq (W_region (L_r (r_ai rfl) (L_nil (W_block ?_)))))
  refine W_loopF [1] (fun mz_ f W => ∃ (i : Nat) (B : List UInt8), f 4 = .int .i64 i ∧ f 3 = .string (sb B) ∧ (i ≤ c.p.fields.length ∧ B = chdB c.p ++ (c.p.fields.take i).flatMap fldB ∧ Nw w0 W ∧ Bk W b1 #[.string c.p.name, .string c.p.super, c.vl, .bool c.p.ifc, .bool c.p.abs, .bool c.p.fin, c.vf, c.vm] 26) ∧ mz_ = c.p.fields.length - i) ?_ ?_
  ·
   refine ⟨_, 0, chdB c.p, rfl, rfl, ?_, rfl⟩
   exact ⟨by omega, by simp, Ch.au, Bk.au⟩
  rintro m0 g0 w11 ⟨i, B, hf4, hf3, hR0, rfl⟩
  refine W_as 4 hf4 rfl ?_
  refine W_as 3 hf3 rfl ?_
  clear hf4 hf3
  obtain ⟨hi, hB, hnw, hbc⟩ := hR0
  have hz := hnw.size
  have hpl := flat_leL fldB 91 (c.p.fields.take i) (fun x hx => hfl x (List.mem_of_mem_take hx))
  rw [List.length_take] at hpl
  have hBl : B.length ≤ 30000 := by rw [hB, List.length_append]; omega
  have hBs := sb_size B
  refine W_seq (W_seq (W_region (L_r (r_mi rfl) ?_)))
  refine L_r (r_fieldb Tryz.underlying26 rfl (show _ = some 1 from rfl) rfl rfl (show _ = 6 from rfl)) (L_r (r_lb rfl rfl) ?_)
  refine L_r (r_lenSl Tryz.underlying23 (by conv => lhs; whnf) Sl.au) (L_r (r_lss rfl rfl) (L_nil ?_))
  refine W_if rfl (fun h41 => ?_) (fun h41 => ?_)
  ·
   have hil : i < c.p.fields.length := by omega
   have hrow := cellsCF_row c.p.fields i hil
   have hxm := List.getElem_mem hil
   obtain ⟨x, hx⟩ : ∃ x, x = c.p.fields[i] := ⟨_, rfl⟩
   rw [← hx] at hrow hxm
   have hx1 := (hp.fields x hxm).1.1.2.1
   have hx2 := right_le38 (hp.fields x hxm).2
   refine W_skip (W_seq (W_block ?_))
   refine W_draw (fun W => Bk W b1 #[.string c.p.name, .string c.p.super, c.vl, .bool c.p.ifc, .bool c.p.abs, .bool c.p.fin, c.vf, c.vm] 26 ∧ Sl W c.vf 3 c.p.fields.length (cellsCF c.p.fields)) 26 (m := 26) (by kernel_rfl) rfl (fun w12 c12 hs12 => ?_)
   refine held (by exact ⟨Bk.au, Sl.au⟩) (fun hS => ?_)
   refine D_t 0 rfl (fun W hW => r_ms rfl) ?_
   refine D_t 1 rfl (fun W hW => r_fieldb Tryz.underlying26 rfl (show _ = some 1 from rfl) rfl rfl (show _ = 6 from rfl)) ?_
   refine D_t 2 rfl (fun W hW => r_loadb rfl rfl (by first | exact hW.1 | exact hW.2) (by first | assumption | (conv => lhs; simp only [List.getElem?_toArray, List.getElem?_cons_succ, List.getElem?_cons_zero]))) ?_
   refine D_t 3 rfl (fun W hW => r_mi rfl) ?_
   refine D_t 4 rfl (fun W hW => r_ix Tryz.underlying23 (show _ = some 3 from rfl) (by conv => lhs; whnf) rfl (by first | exact hW.1 | exact hW.2)) ?_
   refine D_t 5 rfl (fun W hW => r_fieldSl Tryz.underlying52 rfl (show _ = some 1 from rfl) rfl (show _ = 0 from rfl) (Nat.add_zero _) rfl) ?_
   refine D_t 6 rfl (fun W hW => r_loadSl rfl rfl (by first | exact hW.1 | exact hW.2) (by first | exact hrow 0 _ rfl | exact hrow 1 _ rfl | exact hrow 2 _ rfl | assumption)) ?_
   refine D_t 8 rfl (fun W hW => r_fieldb Tryz.underlying26 rfl (show _ = some 1 from rfl) rfl rfl (show _ = 6 from rfl)) ?_
   refine D_t 9 rfl (fun W hW => r_loadb rfl rfl (by first | exact hW.1 | exact hW.2) (by first | assumption | (conv => lhs; simp only [List.getElem?_toArray, List.getElem?_cons_succ, List.getElem?_cons_zero]))) ?_
   refine D_t 10 rfl (fun W hW => r_mi rfl) ?_
   refine D_t 11 rfl (fun W hW => r_ix Tryz.underlying23 (show _ = some 3 from rfl) (by conv => lhs; whnf) rfl (by first | exact hW.1 | exact hW.2)) ?_
   refine D_t 12 rfl (fun W hW => r_fieldSl Tryz.underlying52 rfl (show _ = some 1 from rfl) rfl (show _ = 1 from rfl) rfl rfl) ?_
   refine D_t 13 rfl (fun W hW => r_loadSl rfl rfl (by first | exact hW.1 | exact hW.2) (by first | exact hrow 0 _ rfl | exact hrow 1 _ rfl | exact hrow 2 _ rfl | assumption)) ?_
   refine D_t 16 rfl (fun W hW => r_fieldb Tryz.underlying26 rfl (show _ = some 1 from rfl) rfl rfl (show _ = 6 from rfl)) ?_
   refine D_t 17 rfl (fun W hW => r_loadb rfl rfl (by first | exact hW.1 | exact hW.2) (by first | assumption | (conv => lhs; simp only [List.getElem?_toArray, List.getElem?_cons_succ, List.getElem?_cons_zero]))) ?_
   refine D_t 18 rfl (fun W hW => r_mi rfl) ?_
   refine D_t 19 rfl (fun W hW => r_ix Tryz.underlying23 (show _ = some 3 from rfl) (by conv => lhs; whnf) rfl (by first | exact hW.1 | exact hW.2)) ?_
   refine D_t 20 rfl (fun W hW => r_fieldSl Tryz.underlying52 rfl (show _ = some 1 from rfl) rfl (show _ = 2 from rfl) rfl rfl) ?_
   refine D_t 21 rfl (fun W hW => r_loadSl rfl rfl (by first | exact hW.1 | exact hW.2) (by first | exact hrow 0 _ rfl | exact hrow 1 _ rfl | exact hrow 2 _ rfl | assumption)) ?_
   refine D_ev 7 (by kernel_rfl) rfl ?_
   refine L_call (.plain rfl) rfl rfl (r_call Tryz.func36 rfl rfl rfl (by rfl)) (txt05 x.name _ (by omega)) ?_
   rintro v51 w13 ⟨t51, rfl, ht51, hl51, c13⟩
   have hz13 := c13.size
   refine L_nil ?_
   refine heldK (by exact ⟨Bk.au, Sl.au⟩) (fun hS => ?_)
   refine D_ev 14 (by kernel_rfl) rfl ?_
   refine L_call (.plain rfl) rfl rfl (r_call Tryz.func36 rfl rfl rfl (by rfl)) (txt05 x.kind _ (by omega)) ?_
   rintro v58 w14 ⟨t58, rfl, ht58, hl58, c14⟩
   have hz14 := c14.size
   refine L_nil ?_
   refine heldK (by exact ⟨Bk.au, Sl.au⟩) (fun hS => ?_)
   refine D_t 15 rfl (fun W hW => r_adds rfl rfl (by first | omega | (simp only [ByteArray.size_append]; omega))) ?_
   refine D_ev 22 (by kernel_rfl) rfl ?_
   refine L_call (.plain rfl) rfl rfl (r_call Tryz.func38 rfl rfl rfl (by rfl)) (flg05 x.tr _) ?_
   rintro v66 w15 ⟨t66, rfl, ht66, hl66, c15⟩
   have hz15 := c15.size
   refine L_nil ?_
   refine heldK (by exact ⟨Bk.au, Sl.au⟩) (fun hS => ?_)
   refine D_t 23 rfl (fun W hW => r_adds rfl rfl (by first | omega | (simp only [ByteArray.size_append]; omega))) ?_
   refine D_t 24 rfl (fun W hW => r_adds rfl rfl (by first | omega | (simp only [ByteArray.size_append]; omega))) ?_
   refine D_t 25 rfl (fun W hW => r_as rfl) ?_
   refine D_done (by kernel_rfl) (W_region (L_r (r_mi rfl) ?_))
   refine L_r (r_add rfl rfl (by first | exact wr_i64 (by omega) | rfl)) (L_r (r_ai rfl) (L_nil ?_))
   refine ⟨⟨fx2, trivial⟩, _, ?_, i + 1, B ++ fldB x, rfl, (by refine congrArg Value.string ?_; rw [ht51, ht58, ht66]; unfold fldB; simp only [sb_append, ByteArray.append_assoc]), ?_, rfl⟩
   · omega
   exact ⟨by omega, by rw [List.take_succ_eq_append_getElem hil, List.flatMap_append, ← List.append_assoc, ← hB, ← hx]; simp, Ch.au, Bk.au⟩
  ·
   refine W_exit ?_
   repeat (first | refine blk_hit ?_ | refine blk_miss rfl ?_)
   refine W_seq (W_region (L_r (r_ms rfl) ?_))
   refine L_r (r_fieldb Tryz.underlying26 rfl (show _ = some 1 from rfl) rfl rfl (show _ = 7 from rfl)) (L_r (r_lb rfl rfl) ?_)
   refine L_r (r_lenSl Tryz.underlying24 (by conv => lhs; whnf) Sl.au) ?_
   refine L_call (.plain rfl) rfl rfl (r_call Tryz.func39 rfl rfl rfl (by rfl)) (rnum05_walk c.q.length _ (by omega)) ?_
   rintro v73 w16 ⟨t73, rfl, ht73, hl73, c16⟩
   have hz16 := c16.size
   refine L_r (r_adds rfl rfl (by first | omega | (simp only [ByteArray.size_append]; omega))) (L_r (r_as rfl) (L_nil (W_seq (W_seq (W_region (L_r (r_ai rfl) (L_nil (W_block ?_))))))))
   refine W_loopF [1] (fun mz_ f W => ∃ (k : Nat) (C : List UInt8), f 5 = .int .i64 k ∧ f 3 = .string (sb C) ∧ (k ≤ c.q.length ∧ C = B ++ varL c.q.length ++ (c.q.take k).flatMap (fun y => mthB y.m) ∧ Nw w0 W ∧ Bk W b1 #[.string c.p.name, .string c.p.super, c.vl, .bool c.p.ifc, .bool c.p.abs, .bool c.p.fin, c.vf, c.vm] 26) ∧ mz_ = c.q.length - k) ?_ ?_
   ·
    refine ⟨_, 0, B ++ varL c.q.length, rfl, (by refine congrArg Value.string ?_; rw [ht73, sb_append]), ?_, rfl⟩
    exact ⟨by omega, by simp, Ch.au, Bk.au⟩
   rintro m1 g1 w17 ⟨k, C, hf5, hf3, hR1, rfl⟩
   refine W_as 5 hf5 rfl ?_
   refine W_as 3 hf3 rfl ?_
   clear hf5 hf3
   obtain ⟨hk, hC, hnwk, hbk⟩ := hR1
   have hzk := hnwk.size
   have hpm := flat_leL (fun y : MM => mthB y.m) 25000 (c.q.take k) (fun x hx => mthB_le (hp.ms _ (q_mem hc (List.mem_of_mem_take hx))) (f4 _ (q_mem hc (List.mem_of_mem_take hx))) (hn _ (q_mem hc (List.mem_of_mem_take hx))))
   rw [List.length_take] at hpm
   have hvq := varL_ten (v := c.q.length) (by omega)
   have hCl : C.length ≤ 900000 := by rw [hC, List.length_append, List.length_append]; omega
   have hCs := sb_size C
   refine W_seq (W_seq (W_region (L_r (r_mi rfl) ?_)))
   refine L_r (r_fieldb Tryz.underlying26 rfl (show _ = some 1 from rfl) rfl rfl (show _ = 7 from rfl)) (L_r (r_lb rfl rfl) ?_)
   refine L_r (r_lenSl Tryz.underlying24 (by conv => lhs; whnf) Sl.au) (L_r (r_lss rfl rfl) (L_nil ?_))
   refine W_if rfl (fun h79 => ?_) (fun h79 => ?_)
   ·
    have hkl : k < c.q.length := by omega
    have hrowy := cellsCM_row c.q k hkl
    have hym := List.getElem_mem hkl
    obtain ⟨y, hy⟩ : ∃ y, y = c.q[k] := ⟨_, rfl⟩
    rw [← hy] at hrowy hym
    have hyo := hc.ms y hym
    have h1y := hyo.one
    have hyp := hyo.p
    have hyc := hyo.c
    have hyk := hyo.k
    have hmp := hp.ms _ (q_mem hc hym)
    have hmf := f4 _ (q_mem hc hym)
    have hmn := hn _ (q_mem hc hym)
    have hmi := mth_ins hmp
    unfold manyM at hmf
    have hmr : y.m.result.size ≤ 38 := by { rcases hmp.2.2.1 with h | h; (rw [h]; exact Nat.zero_le _); exact right_le38 h }
    have hmm := hmp.1.1.2.1
    refine W_skip ?_
    refine W_cutF [1, 5] (fun f W => ∃ (C2 : List UInt8), f 3 = .string (sb C2) ∧ (C2 = C ++ mthB y.m ∧ Nw w0 W ∧ Bk W b1 #[.string c.p.name, .string c.p.super, c.vl, .bool c.p.ifc, .bool c.p.abs, .bool c.p.fin, c.vf, c.vm] 26)) ?_ ?_
    ·
     refine W_block (W_seq (W_region ?_))
     refine L_r (r_fieldb Tryz.underlying26 rfl (show _ = some 1 from rfl) rfl rfl (show _ = 7 from rfl)) (L_r (r_lb rfl rfl) (L_r (r_mi rfl) ?_))
     refine L_r (r_ix Tryz.underlying24 (show _ = some 7 from rfl) (by conv => lhs; whnf) rfl Sl.au) ?_
     refine L_r (r_loadSlrow (us := [.string y.m.name, y.vp, .string y.m.result, .bool y.m.abs, .int .i64 y.m.locals, y.vc, y.vk]) Tryz.underlying43 rfl rfl rfl rfl Sl.au (by exact hrowy)) ?_
     refine L_new (.plain rfl) rfl rfl (r_alloca rfl) (fun w18 b6 hb6 eb18 hs18 c18 => ?_)
     refine L_storerow (.plain rfl) rfl rfl Bk.au (by first | rfl | (simp; done) | assumption) (by first | rfl | assumption) (by first | rfl | (simp [Value.oneCell']; done) | assumption) (fun w19 hb19 hs19 c19 => (L_nil ?_))
     refine W_cutF [1, 5, 6] (fun f W => f 3 = .string (sb (C ++ mhdB y.m)) ∧ (Nw w0 W ∧ Bk W b1 #[.string c.p.name, .string c.p.super, c.vl, .bool c.p.ifc, .bool c.p.abs, .bool c.p.fin, c.vf, c.vm] 26 ∧ Bk W b6 #[.string y.m.name, y.vp, .string y.m.result, .bool y.m.abs, .int .i64 y.m.locals, y.vc, y.vk] 43 ∧ (mhdB y.m).length ≤ 12000)) ?_ ?_
     ·
      refine W_draw (fun W => Bk W b6 #[.string y.m.name, y.vp, .string y.m.result, .bool y.m.abs, .int .i64 y.m.locals, y.vc, y.vk] 43) 18 (m := 18) (by kernel_rfl) rfl (fun w20 c20 hs20 => ?_)
      refine held Bk.au (fun hS => ?_)
      refine D_t 0 rfl (fun W hW => r_ms rfl) ?_
      refine D_t 1 rfl (fun W hW => r_fieldb Tryz.underlying43 rfl (show _ = some 1 from rfl) rfl rfl (show _ = 0 from rfl)) ?_
      refine D_t 2 rfl (fun W hW => r_loadb rfl rfl (by exact hW) (by first | assumption | (conv => lhs; simp only [List.getElem?_toArray, List.getElem?_cons_succ, List.getElem?_cons_zero]))) ?_
      refine D_t 4 rfl (fun W hW => r_fieldb Tryz.underlying43 rfl (show _ = some 1 from rfl) rfl rfl (show _ = 1 from rfl)) ?_
      refine D_t 5 rfl (fun W hW => r_loadb rfl rfl (by exact hW) (by first | assumption | (conv => lhs; simp only [List.getElem?_toArray, List.getElem?_cons_succ, List.getElem?_cons_zero]))) ?_
      refine D_t 8 rfl (fun W hW => r_fieldb Tryz.underlying43 rfl (show _ = some 1 from rfl) rfl rfl (show _ = 2 from rfl)) ?_
      refine D_t 9 rfl (fun W hW => r_loadb rfl rfl (by exact hW) (by first | assumption | (conv => lhs; simp only [List.getElem?_toArray, List.getElem?_cons_succ, List.getElem?_cons_zero]))) ?_
      refine D_t 12 rfl (fun W hW => r_fieldb Tryz.underlying43 rfl (show _ = some 1 from rfl) rfl rfl (show _ = 3 from rfl)) ?_
      refine D_t 13 rfl (fun W hW => r_loadb rfl rfl (by exact hW) (by first | assumption | (conv => lhs; simp only [List.getElem?_toArray, List.getElem?_cons_succ, List.getElem?_cons_zero]))) ?_
      refine D_ev 3 (by kernel_rfl) rfl ?_
      refine L_call (.plain rfl) rfl rfl (r_call Tryz.func36 rfl rfl rfl (by rfl)) (txt05 y.m.name _ (by omega)) ?_
      rintro v90 w21 ⟨t90, rfl, ht90, hl90, c21⟩
      have hz21 := c21.size
      refine L_nil ?_
      refine heldK Bk.au (fun hS => ?_)
      refine D_ev 6 (by kernel_rfl) rfl ?_
      refine L_call (.plain rfl) rfl rfl (r_call Tryz.func37 rfl rfl rfl (by rfl)) (rtexts05_walk y.vp y.m.params _ Sl.au (by omega) (fun x hx => by have := right_le38 (hmp.2.1 x hx); omega)) ?_
      rintro v93 w22 ⟨t93, rfl, ht93, hl93, c22⟩
      have hz22 := c22.size
      refine L_nil ?_
      refine heldK Bk.au (fun hS => ?_)
      refine D_t 7 rfl (fun W hW => r_adds rfl rfl (by first | omega | (simp only [ByteArray.size_append]; omega))) ?_
      refine D_ev 10 (by kernel_rfl) rfl ?_
      refine L_call (.plain rfl) rfl rfl (r_call Tryz.func36 rfl rfl rfl (by rfl)) (txt05 y.m.result _ (by omega)) ?_
      rintro v97 w23 ⟨t97, rfl, ht97, hl97, c23⟩
      have hz23 := c23.size
      refine L_nil ?_
      refine heldK Bk.au (fun hS => ?_)
      refine D_t 11 rfl (fun W hW => r_adds rfl rfl (by first | omega | (simp only [ByteArray.size_append]; omega))) ?_
      refine D_ev 14 (by kernel_rfl) rfl ?_
      refine L_call (.plain rfl) rfl rfl (r_call Tryz.func38 rfl rfl rfl (by rfl)) (flg05 y.m.abs _) ?_
      rintro v101 w24 ⟨t101, rfl, ht101, hl101, c24⟩
      have hz24 := c24.size
      refine L_nil ?_
      refine heldK Bk.au (fun hS => ?_)
      refine D_t 15 rfl (fun W hW => r_adds rfl rfl (by first | omega | (simp only [ByteArray.size_append]; omega))) ?_
      refine D_t 16 rfl (fun W hW => r_adds rfl rfl (by first | omega | (simp only [ByteArray.size_append]; omega))) ?_
      refine D_t 17 rfl (fun W hW => r_as rfl) ?_
      refine D_done (by kernel_rfl) ?_
      refine ⟨⟨fx2, fx2, fx2, trivial⟩, (by refine congrArg Value.string ?_; rw [ht90, ht93, ht97, ht101]; unfold mhdB; simp only [sb_append, ByteArray.append_assoc]), ?_⟩
      exact ⟨Ch.au, Bk.au, Bk.au, by
        have e : (mhdB y.m).length = t90.size + (t93.size + (t97.size + t101.size)) := by
          rw [ht90, ht93, ht97, ht101]
          unfold mhdB
          simp only [sb_size, List.length_append]
        omega⟩
     rintro gcr11 w25 ⟨hf3, hCr11⟩
     refine W_as 3 hf3 rfl ?_
     clear hf3
     obtain ⟨hnw11, hb11, hb6c, hhm⟩ := hCr11
     have hz11 := hnw11.size
     have hCm := sb_size (C ++ mhdB y.m)
     rw [List.length_append] at hCm
     refine W_seq (W_seq (W_region ?_))
     refine L_r (r_fieldb Tryz.underlying43 rfl (show _ = some 1 from rfl) rfl rfl (show _ = 3 from rfl)) (L_r (r_lb rfl rfl) (L_nil ?_))
     refine W_bool rfl (fun h105 => ?_) (fun h105 => ?_)
     ·
      obtain ⟨tg, htg⟩ : ∃ x, x = C ++ mhdB y.m := ⟨_, rfl⟩
      have hte : tg = C ++ mthB y.m := by rw [htg, mthB_hd]; unfold bodyB; rw [if_pos h105, List.append_nil]
      refine W_exit ?_
      repeat (first | refine blk_hit ?_ | refine blk_miss rfl ?_)
      refine ⟨⟨fx2, fx2, trivial⟩, tg, (by refine congrArg Value.string ?_; rw [htg]), ?_⟩
      exact ⟨hte, Ch.au, Bk.au⟩
     ·
      have hab : y.m.abs = false := by simpa using h105
      have hbd : bodyB y.m = varL y.m.locals.toNat ++ (putL y.m.code ++ (varL y.m.cats.length ++ y.m.cats.flatMap catB)) := by unfold bodyB; rw [if_neg (by rw [hab]; decide)]
      have hbp := hmp.2.2.2
      unfold bodyP at hbp
      rw [if_neg (by rw [hab]; decide)] at hbp
      obtain ⟨q1, q2, q3, q4⟩ := hbp
      refine W_skip ?_
      refine W_cutF [1, 5, 6] (fun f W => f 3 = .string (sb (C ++ mhdB y.m ++ (varL y.m.locals.toNat ++ (putL y.m.code ++ varL y.m.cats.length)))) ∧ (Nw w0 W ∧ Bk W b1 #[.string c.p.name, .string c.p.super, c.vl, .bool c.p.ifc, .bool c.p.abs, .bool c.p.fin, c.vf, c.vm] 26 ∧ Bk W b6 #[.string y.m.name, y.vp, .string y.m.result, .bool y.m.abs, .int .i64 y.m.locals, y.vc, y.vk] 43 ∧ (varL y.m.locals.toNat ++ (putL y.m.code ++ varL y.m.cats.length)).length ≤ 22000)) ?_ ?_
      ·
       refine W_draw (fun W => Bk W b6 #[.string y.m.name, y.vp, .string y.m.result, .bool y.m.abs, .int .i64 y.m.locals, y.vc, y.vk] 43 ∧ Sl W y.vk 4 y.m.cats.length (cellsCK y.m.cats)) 15 (m := 15) (by kernel_rfl) rfl (fun w26 c26 hs26 => ?_)
       refine held (by exact ⟨Bk.au, Sl.au⟩) (fun hS => ?_)
       refine D_t 0 rfl (fun W hW => r_ms rfl) ?_
       refine D_t 1 rfl (fun W hW => r_fieldb Tryz.underlying43 rfl (show _ = some 1 from rfl) rfl rfl (show _ = 4 from rfl)) ?_
       refine D_t 2 rfl (fun W hW => r_loadb rfl rfl (by first | exact hW.1 | exact hW.2) (by first | assumption | (conv => lhs; simp only [List.getElem?_toArray, List.getElem?_cons_succ, List.getElem?_cons_zero]))) ?_
       refine D_t 4 rfl (fun W hW => r_fieldb Tryz.underlying43 rfl (show _ = some 1 from rfl) rfl rfl (show _ = 5 from rfl)) ?_
       refine D_t 5 rfl (fun W hW => r_loadb rfl rfl (by first | exact hW.1 | exact hW.2) (by first | assumption | (conv => lhs; simp only [List.getElem?_toArray, List.getElem?_cons_succ, List.getElem?_cons_zero]))) ?_
       refine D_t 8 rfl (fun W hW => r_fieldb Tryz.underlying43 rfl (show _ = some 1 from rfl) rfl rfl (show _ = 6 from rfl)) ?_
       refine D_t 9 rfl (fun W hW => r_loadb rfl rfl (by first | exact hW.1 | exact hW.2) (by first | assumption | (conv => lhs; simp only [List.getElem?_toArray, List.getElem?_cons_succ, List.getElem?_cons_zero]))) ?_
       refine D_t 10 rfl (fun W hW => r_lenSl Tryz.underlying41 (by conv => lhs; whnf) (by first | exact hW.1 | exact hW.2)) ?_
       refine D_ev 3 (by kernel_rfl) rfl ?_
       refine L_call (.plain rfl) rfl rfl (r_call Tryz.func39 rfl rfl rfl (by rfl)) (rnum05i y.m.locals _ (by omega) (by omega)) ?_
       rintro v109 w27 ⟨t109, rfl, ht109, hl109, c27⟩
       have hz27 := c27.size
       refine L_nil ?_
       refine heldK (by exact ⟨Bk.au, Sl.au⟩) (fun hS => ?_)
       refine D_ev 6 (by kernel_rfl) rfl ?_
       refine L_call (.plain rfl) rfl rfl (r_call Tryz.func40 rfl rfl rfl (by rfl)) (put04u y.vc y.m.code _ Sl.au (by omega) (fun x hx => ⟨hmn x hx, hmi x hx⟩) (all_ok q3)) ?_
       rintro v112 w28 ⟨t112, rfl, ht112, hl112, c28⟩
       have hz28 := c28.size
       refine L_nil ?_
       refine heldK (by exact ⟨Bk.au, Sl.au⟩) (fun hS => ?_)
       refine D_t 7 rfl (fun W hW => r_adds rfl rfl (by first | omega | (simp only [ByteArray.size_append]; omega))) ?_
       refine D_ev 11 (by kernel_rfl) rfl ?_
       refine L_call (.plain rfl) rfl rfl (r_call Tryz.func39 rfl rfl rfl (by rfl)) (rnum05_walk y.m.cats.length _ (by omega)) ?_
       rintro v117 w29 ⟨t117, rfl, ht117, hl117, c29⟩
       have hz29 := c29.size
       refine L_nil ?_
       refine heldK (by exact ⟨Bk.au, Sl.au⟩) (fun hS => ?_)
       refine D_t 12 rfl (fun W hW => r_adds rfl rfl (by first | omega | (simp only [ByteArray.size_append]; omega))) ?_
       refine D_t 13 rfl (fun W hW => r_adds rfl rfl (by first | omega | (simp only [ByteArray.size_append]; omega))) ?_
       refine D_t 14 rfl (fun W hW => r_as rfl) ?_
       refine D_done (by kernel_rfl) ?_
       refine ⟨⟨fx2, fx2, fx2, trivial⟩, (by refine congrArg Value.string ?_; rw [ht109, ht112, ht117]; simp only [sb_append, ByteArray.append_assoc]), ?_⟩
       exact ⟨Ch.au, Bk.au, Bk.au, by
         have e : (varL y.m.locals.toNat ++ (putL y.m.code ++ varL y.m.cats.length)).length = t109.size + (t112.size + t117.size) := by
           rw [ht109, ht112, ht117]
           simp only [sb_size, List.length_append]
         omega⟩
      rintro gcr13 w30 ⟨hf3, hCr13⟩
      refine W_as 3 hf3 rfl ?_
      clear hf3
      obtain ⟨hnw13, hb13, hb6d, hhb⟩ := hCr13
      have hz13 := hnw13.size
      obtain ⟨E, hE⟩ : ∃ E, E = C ++ mhdB y.m ++ (varL y.m.locals.toNat ++ (putL y.m.code ++ varL y.m.cats.length)) := ⟨_, rfl⟩
      have hEl : E.length ≤ 950000 := by rw [hE, List.length_append, List.length_append]; omega
      refine W_seq (W_region (L_r (r_ai rfl) (L_nil (W_block ?_))))
      refine W_loopF [1, 5, 6] (fun mz_ f W => ∃ (n : Nat) (D : List UInt8), f 7 = .int .i64 n ∧ f 3 = .string (sb D) ∧ (n ≤ y.m.cats.length ∧ D = E ++ (y.m.cats.take n).flatMap catB ∧ Nw w0 W ∧ Bk W b1 #[.string c.p.name, .string c.p.super, c.vl, .bool c.p.ifc, .bool c.p.abs, .bool c.p.fin, c.vf, c.vm] 26 ∧ Bk W b6 #[.string y.m.name, y.vp, .string y.m.result, .bool y.m.abs, .int .i64 y.m.locals, y.vc, y.vk] 43) ∧ mz_ = y.m.cats.length - n) ?_ ?_
      ·
       refine ⟨_, 0, E, rfl, (by refine congrArg Value.string ?_; rw [hE]), ?_, rfl⟩
       exact ⟨by omega, by simp, Ch.au, Bk.au, Bk.au⟩
      rintro m2 g2 w31 ⟨n, D, hf7, hf3, hR2, rfl⟩
      refine W_as 7 hf7 rfl ?_
      refine W_as 3 hf3 rfl ?_
      clear hf7 hf3
      obtain ⟨hin, hD, hnwn, hbn, hb6n⟩ := hR2
      have hzn := hnwn.size
      have hpc := flat_leL catB 140 (y.m.cats.take n) (fun x hx => by
        obtain ⟨r1, r2, r3, r4, r5, r6⟩ := q4 x (List.mem_of_mem_take hx)
        have a1 : (varL x.fr.toNat).length ≤ 10 := varL_ten (by omega)
        have a2 : (varL x.tt.toNat).length ≤ 10 := varL_ten (by omega)
        have a3 : (varL x.aa.toNat).length ≤ 10 := varL_ten (by omega)
        have a4 := textL_leK r6.1.2.1 (by omega)
        unfold catB
        simp only [List.length_append]
        omega)
      rw [List.length_take] at hpc
      have hDl : D.length ≤ 1000000 := by rw [hD, List.length_append]; omega
      have hDs := sb_size D
      refine W_seq (W_seq (W_region (L_r (r_mi rfl) ?_)))
      refine L_r (r_fieldb Tryz.underlying43 rfl (show _ = some 1 from rfl) rfl rfl (show _ = 6 from rfl)) (L_r (r_lb rfl rfl) ?_)
      refine L_r (r_lenSl Tryz.underlying41 (by conv => lhs; whnf) Sl.au) (L_r (r_lss rfl rfl) (L_nil ?_))
      refine W_if rfl (fun h124 => ?_) (fun h124 => ?_)
      ·
       have hnl : n < y.m.cats.length := by omega
       have hrowu := cellsCK_row y.m.cats n hnl
       have hum := List.getElem_mem hnl
       obtain ⟨u, hu⟩ : ∃ u, u = y.m.cats[n] := ⟨_, rfl⟩
       rw [← hu] at hrowu hum
       obtain ⟨r1, r2, r3, r4, r5, r6⟩ := q4 u hum
       have r7 := r6.1.2.1
       refine W_skip (W_seq (W_block (W_seq (W_region ?_))))
       refine L_r (r_fieldb Tryz.underlying43 rfl (show _ = some 1 from rfl) rfl rfl (show _ = 6 from rfl)) (L_r (r_lb rfl rfl) (L_r (r_mi rfl) ?_))
       refine L_r (r_ix Tryz.underlying41 (show _ = some 4 from rfl) (by conv => lhs; whnf) rfl Sl.au) ?_
       refine L_r (r_loadSlrow (us := [.int .i64 u.fr, .int .i64 u.tt, .int .i64 u.aa, .string u.cls]) Tryz.underlying70 rfl rfl rfl rfl Sl.au (by exact hrowu)) ?_
       refine L_new (.plain rfl) rfl rfl (r_alloca rfl) (fun w32 b8 hb8 eb32 hs32 c32 => ?_)
       refine L_storerow (.plain rfl) rfl rfl Bk.au (by first | rfl | (simp; done) | assumption) (by first | rfl | assumption) (by first | rfl | (simp [Value.oneCell']; done) | assumption) (fun w33 hb33 hs33 c33 => (L_nil ?_))
       refine W_draw (fun W => Bk W b8 #[.int .i64 u.fr, .int .i64 u.tt, .int .i64 u.aa, .string u.cls] 70) 18 (m := 18) (by kernel_rfl) rfl (fun w34 c34 hs34 => ?_)
       refine held Bk.au (fun hS => ?_)
       refine D_t 0 rfl (fun W hW => r_ms rfl) ?_
       refine D_t 1 rfl (fun W hW => r_fieldb Tryz.underlying70 rfl (show _ = some 1 from rfl) rfl rfl (show _ = 0 from rfl)) ?_
       refine D_t 2 rfl (fun W hW => r_loadb rfl rfl (by exact hW) (by first | assumption | (conv => lhs; simp only [List.getElem?_toArray, List.getElem?_cons_succ, List.getElem?_cons_zero]))) ?_
       refine D_t 4 rfl (fun W hW => r_fieldb Tryz.underlying70 rfl (show _ = some 1 from rfl) rfl rfl (show _ = 1 from rfl)) ?_
       refine D_t 5 rfl (fun W hW => r_loadb rfl rfl (by exact hW) (by first | assumption | (conv => lhs; simp only [List.getElem?_toArray, List.getElem?_cons_succ, List.getElem?_cons_zero]))) ?_
       refine D_t 8 rfl (fun W hW => r_fieldb Tryz.underlying70 rfl (show _ = some 1 from rfl) rfl rfl (show _ = 2 from rfl)) ?_
       refine D_t 9 rfl (fun W hW => r_loadb rfl rfl (by exact hW) (by first | assumption | (conv => lhs; simp only [List.getElem?_toArray, List.getElem?_cons_succ, List.getElem?_cons_zero]))) ?_
       refine D_t 12 rfl (fun W hW => r_fieldb Tryz.underlying70 rfl (show _ = some 1 from rfl) rfl rfl (show _ = 3 from rfl)) ?_
       refine D_t 13 rfl (fun W hW => r_loadb rfl rfl (by exact hW) (by first | assumption | (conv => lhs; simp only [List.getElem?_toArray, List.getElem?_cons_succ, List.getElem?_cons_zero]))) ?_
       refine D_ev 3 (by kernel_rfl) rfl ?_
       refine L_call (.plain rfl) rfl rfl (r_call Tryz.func39 rfl rfl rfl (by rfl)) (rnum05i u.fr _ (by omega) (by omega)) ?_
       rintro v135 w35 ⟨t135, rfl, ht135, hl135, c35⟩
       have hz35 := c35.size
       refine L_nil ?_
       refine heldK Bk.au (fun hS => ?_)
       refine D_ev 6 (by kernel_rfl) rfl ?_
       refine L_call (.plain rfl) rfl rfl (r_call Tryz.func39 rfl rfl rfl (by rfl)) (rnum05i u.tt _ (by omega) (by omega)) ?_
       rintro v138 w36 ⟨t138, rfl, ht138, hl138, c36⟩
       have hz36 := c36.size
       refine L_nil ?_
       refine heldK Bk.au (fun hS => ?_)
       refine D_t 7 rfl (fun W hW => r_adds rfl rfl (by first | omega | (simp only [ByteArray.size_append]; omega))) ?_
       refine D_ev 10 (by kernel_rfl) rfl ?_
       refine L_call (.plain rfl) rfl rfl (r_call Tryz.func39 rfl rfl rfl (by rfl)) (rnum05i u.aa _ (by omega) (by omega)) ?_
       rintro v142 w37 ⟨t142, rfl, ht142, hl142, c37⟩
       have hz37 := c37.size
       refine L_nil ?_
       refine heldK Bk.au (fun hS => ?_)
       refine D_t 11 rfl (fun W hW => r_adds rfl rfl (by first | omega | (simp only [ByteArray.size_append]; omega))) ?_
       refine D_ev 14 (by kernel_rfl) rfl ?_
       refine L_call (.plain rfl) rfl rfl (r_call Tryz.func36 rfl rfl rfl (by rfl)) (txt05 u.cls _ (by omega)) ?_
       rintro v146 w38 ⟨t146, rfl, ht146, hl146, c38⟩
       have hz38 := c38.size
       refine L_nil ?_
       refine heldK Bk.au (fun hS => ?_)
       refine D_t 15 rfl (fun W hW => r_adds rfl rfl (by first | omega | (simp only [ByteArray.size_append]; omega))) ?_
       refine D_t 16 rfl (fun W hW => r_adds rfl rfl (by first | omega | (simp only [ByteArray.size_append]; omega))) ?_
       refine D_t 17 rfl (fun W hW => r_as rfl) ?_
       refine D_done (by kernel_rfl) (W_region (L_r (r_mi rfl) ?_))
       refine L_r (r_add rfl rfl (by first | exact wr_i64 (by omega) | rfl)) (L_r (r_ai rfl) (L_nil ?_))
       refine ⟨⟨fx2, fx2, fx2, trivial⟩, _, ?_, n + 1, D ++ catB u, rfl, (by refine congrArg Value.string ?_; rw [ht135, ht138, ht142, ht146]; unfold catB; simp only [sb_append, ByteArray.append_assoc]), ?_, rfl⟩
       · omega
       exact ⟨by omega, by rw [List.take_succ_eq_append_getElem hnl, List.flatMap_append, ← List.append_assoc, ← hD, ← hu]; simp, Ch.au, Bk.au, Bk.au⟩
      ·
       obtain ⟨tg, htg⟩ : ∃ x, x = D := ⟨_, rfl⟩
       have hte : tg = C ++ mthB y.m := by rw [htg, hD, show n = y.m.cats.length by omega, List.take_length, hE, mthB_hd, hbd]; simp only [List.append_assoc]
       refine W_exit ?_
       repeat (first | refine blk_hit ?_ | refine blk_miss rfl ?_)
       refine ⟨⟨fx2, fx2, trivial⟩, tg, (by refine congrArg Value.string ?_; rw [htg]), ?_⟩
       exact ⟨hte, Ch.au, Bk.au⟩
    rintro gcb3 w39 ⟨C2, hf3, hCb3⟩
    refine W_as 3 hf3 rfl ?_
    clear hf3
    obtain ⟨hC2, hnwe, hb1e⟩ := hCb3
    have hze := hnwe.size
    refine W_region (L_r (r_mi rfl) ?_)
    refine L_r (r_add rfl rfl (by first | exact wr_i64 (by omega) | rfl)) (L_r (r_ai rfl) (L_nil ?_))
    refine ⟨⟨fx2, trivial⟩, _, ?_, k + 1, C2, rfl, rfl, ?_, rfl⟩
    · omega
    exact ⟨by omega, by rw [hC2, List.take_succ_eq_append_getElem hkl, List.flatMap_append, ← List.append_assoc, ← hC, ← hy]; simp, Ch.au, Bk.au⟩
   ·
    refine W_exit ?_
    repeat (first | refine blk_hit ?_ | refine blk_miss rfl ?_)
    refine W_seq (W_region (L_r (r_ms rfl) (L_r (r_as rfl) (L_nil (W_ret ?_)))))
    refine ret1 (v := .string _) rfl rfl ?_
    refine ⟨?_, Ch.au⟩
    have e : C = clsB c.p := by
      rw [hC, hB, show k = c.q.length by omega, show i = c.p.fields.length by omega, List.take_length, List.take_length, clsB_hd, q_flat hc mthB, hql]
      simp only [List.append_assoc]
    rw [e]
end Go.Proofs.YthpknpfhpkkheaaGreatDoor
