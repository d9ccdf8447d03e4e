/- A part of the proof. -/
import Derived.Test.YthpknpfhpkkheaaGreatDoorMGj
namespace Go.Proofs.YthpknpfhpkkheaaGreatDoor
open Go Go.RowKit
set_option linter.unusedVariables false
set_option linter.unusedSimpArgs false
set_option maxRecDepth 100000
set_option maxHeartbeats 2000000 in
theorem ClassChecks_walk (c : CC) (w0 : World) (hc : cGood 140737488351232 w0 c) (hL : Gv w0.heap.size w0) : Does Tryz.prog 3 #[c.v] w0 (fun r w' => r = .bool true ∧ Nw w0 w') := by
  have hok := hc.ok
  have h1x := hok.one
  have hs := hc.sz
  refine fn_of (n := 15) (args := [c.v]) Tryz.func3 rfl rfl rfl (W_seq (W_region ?_))
  refine L_new (.plain rfl) rfl rfl (r_boxa rfl) (fun w1 b1 hb1 eb1 hs1 c1 => (L_r (r_ab rfl) (L_nil (W_seq (W_seq (W_region ?_))))))
  refine L_r (r_loadrow Tryz.underlying26 rfl rfl Bk.au (by first | rfl | assumption)) ?_
  refine L_call (.plain rfl) rfl rfl (r_call Tryz.func11 rfl rfl rfl (by rfl)) (few05_walk c _ (hc.nw Ch.au)) ?_
  rintro v4 w2 ⟨b, rfl, hfew, c2⟩
  have hz2 := c2.size
  refine L_r (r_not rfl) (L_nil ?_)
  refine W_bool rfl (fun h5 => ?_) (fun h5 => ?_)
  ·
   refine W_seq (W_region ?_)
   refine L_call (.plain rfl) rfl rfl (r_call Tryz.func12 rfl rfl rfl (by rfl)) (awake05_walk w0.heap.size _ (hL.nw Ch.au (by omega)) (by omega)) ?_
   rintro v6 w3 ⟨rfl, c3⟩
   have hz3 := c3.size
   refine L_r (r_ab rfl) (L_nil (W_ret ?_))
   refine ret1 (v := .bool _) rfl rfl ?_
   refine ⟨?_, Ch.au⟩
   first
   | rfl
   | exact congrArg Value.bool (decide_eq_true rfl)
  ·
   refine W_skip (W_seq ?_)
   refine W_draw (fun W => Bk W b1 #[.string c.p.name, .string c.p.super, c.vl, .bool c.p.ifc, .bool c.p.abs, .bool c.p.fin, c.vf, c.vm] 26) 9 (m := 9) (by kernel_rfl) rfl (fun w4 c4 hs4 => ?_)
   refine held Bk.au (fun hS => ?_)
   refine D_ev 0 (by kernel_rfl) rfl ?_
   refine L_call (.plain rfl) rfl rfl (r_call Tryz.func12 rfl rfl rfl (by rfl)) (awake05_walk w0.heap.size _ (hL.nw Ch.au (by omega)) (by omega)) ?_
   rintro v7 w5 ⟨rfl, c5⟩
   have hz5 := c5.size
   refine L_nil ?_
   refine heldK Bk.au (fun hS => ?_)
   refine D_t 1 rfl (fun W hW => r_mb rfl) ?_
   refine D_as (v := .bool _) (v' := .bool true) 8 rfl (congrArg Value.bool (by rfl)) ?_
   refine D_g 2 rfl (fun W hW => r_loadrow Tryz.underlying26 rfl rfl (by exact hW) (by first | rfl | assumption)) ?_
   refine D_g 4 rfl (fun W hW => r_loadrow Tryz.underlying26 rfl rfl (by exact hW) (by first | rfl | assumption)) ?_
   refine D_ev 3 (by kernel_rfl) rfl ?_
   refine L_call (.yes 1 true rfl rfl) rfl rfl (r_call Tryz.func13 rfl rfl rfl (by rfl)) (ccheck_walk w0.heap.size c _ (hL.nw Ch.au (by omega)) (by omega) (hok.nw Ch.au) hs) ?_
   rintro v10 w6 ⟨rfl, c6⟩
   have hz6 := c6.size
   refine L_nil ?_
   refine heldK Bk.au (fun hS => ?_)
   refine D_ev 5 (by kernel_rfl) rfl ?_
   refine L_call (.yes 1 true rfl rfl) rfl rfl (r_call Tryz.func14 rfl rfl rfl (by rfl)) (rcheck05_walk c _ (hok.nw Ch.au) hs) ?_
   rintro v12 w7 ⟨rfl, c7⟩
   have hz7 := c7.size
   refine L_nil ?_
   refine heldK Bk.au (fun hS => ?_)
   refine D_g 6 rfl (fun W hW => r_eql rfl rfl) ?_
   refine D_t 7 rfl (fun W hW => r_pt rfl rfl) ?_
   refine D_t 8 rfl (fun W hW => r_ab rfl) ?_
   refine D_done (by kernel_rfl) (W_ret ?_)
   refine ret1 (v := .bool _) rfl rfl ?_
   refine ⟨?_, Ch.au⟩
   first
   | rfl
   | exact congrArg Value.bool (decide_eq_true rfl)
theorem cput2 (g : Nat) (c : CC) (w : World) (hG : Gv g w) (hb : g ≤ w.heap.size) (hc : c.ok w) (hs : c.p.sz) (hn : insN c.p) : Does Tryz.prog 15 #[c.v] w (fun r w' => ∃ (v' : Value) (l : List UInt8), r = .tuple #[v', .int .i64 (checkCls c.p)] ∧ Sl w' v' 1 l.length (l.map b8) ∧ l.length ≤ 900000 ∧ (checkCls c.p ≠ 0 → l = []) ∧ (checkCls c.p = 0 → l = clsB c.p ∧ getC l ∧ (rCls l (0, 0)).1 = c.p) ∧ Nw w w') := by
  refine (cput_walk g c w hG hb hc hs hn).mono ?_
  rintro r w' ⟨v', h, h1, h2, k⟩
  by_cases hk : checkCls c.p = 0
  ·
   obtain ⟨hp, hf⟩ := check_0 hk
   obtain ⟨g1, g2⟩ := get_of hp hf hn
   exact ⟨v', clsB c.p, h, (h2 hk).sl, clsB_le hp hf hn, fun k => absurd hk k, fun _ => ⟨rfl, g1, g2⟩, k⟩
  ·
   have e := h1 hk
   subst e
   exact ⟨_, [], h, Sl.nil _ _, by decide, fun _ => rfl, fun k => absurd k hk, k⟩
set_option maxHeartbeats 2000000 in
theorem ClassPuts_walk (c : CC) (w0 : World) (hc : cGood 140737488351232 w0 c) (hL : Gv w0.heap.size w0) : Does Tryz.prog 4 #[c.v] w0 (fun r w' => r = .bool true ∧ Nw w0 w') := by
  have hok := hc.ok
  have h1x := hok.one
  have hs := hc.sz
  have hn := hc.insN
  refine fn_of (n := 58) (args := [c.v]) Tryz.func4 rfl rfl rfl (W_seq (W_region ?_))
  refine L_new (.plain rfl) rfl rfl (r_boxa rfl) (fun w1 b1 hb1 eb1 hs1 c1 => (L_r (r_ab rfl) (L_nil (W_seq (W_seq (W_region ?_))))))
  refine L_r (r_loadrow Tryz.underlying26 rfl rfl Bk.au (by first | rfl | assumption)) ?_
  refine L_call (.plain rfl) rfl rfl (r_call Tryz.func11 rfl rfl rfl (by rfl)) (few05_walk c _ (hc.nw Ch.au)) ?_
  rintro v9 w2 ⟨b, rfl, hfew, c2⟩
  have hz2 := c2.size
  refine L_r (r_not rfl) (L_nil ?_)
  refine W_bool rfl (fun h10 => ?_) (fun h10 => ?_)
  ·
   refine W_seq (W_region ?_)
   refine L_call (.plain rfl) rfl rfl (r_call Tryz.func12 rfl rfl rfl (by rfl)) (awake05_walk w0.heap.size _ (hL.nw Ch.au (by omega)) (by omega)) ?_
   rintro v11 w3 ⟨rfl, c3⟩
   have hz3 := c3.size
   refine L_r (r_ab rfl) (L_nil (W_ret ?_))
   refine ret1 (v := .bool _) rfl rfl ?_
   refine ⟨?_, Ch.au⟩
   first
   | rfl
   | exact congrArg Value.bool (decide_eq_true rfl)
   | (rw [hl0']; rfl)
  ·
   refine W_skip (W_seq (W_region ?_))
   refine L_r (r_loadrow Tryz.underlying26 rfl rfl Bk.au (by first | rfl | assumption)) ?_
   refine L_call (.plain rfl) rfl rfl (r_call Tryz.func15 rfl rfl rfl (by rfl)) (cput2 w0.heap.size c _ (hL.nw Ch.au (by omega)) (by omega) (hok.nw Ch.au) hs hn) ?_
   rintro v14 w4 ⟨vp, l, rfl, hvp, hll, hl0, hl1, c4⟩
   have hz4 := c4.size
   refine L_r (r_mv) (L_r (r_ext2_0 rfl) (L_r (r_ext2_1 rfl) (L_r (r_av) (L_r (r_ai rfl) (L_nil (W_seq (W_seq (W_region ?_))))))))
   refine L_r (r_loadrow Tryz.underlying26 rfl rfl Bk.au (by first | rfl | assumption)) ?_
   refine L_call (.plain rfl) rfl rfl (r_call Tryz.func14 rfl rfl rfl (by rfl)) (rcheck05_walk c _ (hok.nw Ch.au) hs) ?_
   rintro v18 w5 ⟨rfl, c5⟩
   have hz5 := c5.size
   refine L_r (r_ai rfl) (L_nil (W_seq (W_region (L_r (r_mi rfl) (L_r (r_neq rfl rfl) (L_nil ?_))))))
   refine W_if rfl (fun h20 => ?_) (fun h20 => ?_)
   ·
    have hl0' : l = [] := hl0 (by first | assumption | omega)
    have hl00 : l.length = 0 := by rw [hl0']; rfl
    refine W_seq (W_region ?_)
    refine L_call (.plain rfl) rfl rfl (r_call Tryz.func12 rfl rfl rfl (by rfl)) (awake05_walk w0.heap.size _ (hL.nw Ch.au (by omega)) (by omega)) ?_
    rintro v21 w6 ⟨rfl, c6⟩
    have hz6 := c6.size
    refine L_r (r_mb rfl) ?_
    refine L_as (v := .bool _) (v' := .bool true) 22 rfl (congrArg Value.bool (by rfl)) ?_
    refine L_g (r_mv) ?_
    refine L_g (r_lenSl Tryz.underlying31 (by conv => lhs; whnf) Sl.au) ?_
    refine L_g (r_eql rfl rfl) (L_r (r_pt rfl rfl) (L_r (r_mb rfl) ?_))
    refine L_as (v := .bool _) (v' := .bool true) 27 rfl (dec_t (by omega)).symm ?_
    refine L_g (r_mi rfl) ?_
    refine L_g (r_mi rfl) ?_
    refine L_g (r_eql rfl rfl) (L_r (r_pt rfl rfl) (L_r (r_ab rfl) (L_nil (W_ret ?_))))
    refine ret1 (v := .bool _) rfl rfl ?_
    refine ⟨?_, Ch.au⟩
    first
    | rfl
    | exact congrArg Value.bool (decide_eq_true rfl)
    | (rw [hl0']; rfl)
   ·
    have hck : checkCls c.p = 0 := Classical.not_not.1 h20
    obtain ⟨hcp, hcf⟩ := check_0 hck
    obtain ⟨hle, hg1, hg2⟩ := hl1 hck
    refine W_skip (W_seq (W_region (L_r (r_mv) ?_)))
    refine L_call (.plain rfl) rfl rfl (r_call Tryz.func16 rfl rfl rfl (by rfl)) (cget_walk w0.heap.size vp l _ (hL.nw Ch.au (by omega)) (by omega) Sl.au (by omega)) ?_
    rintro v34 w7 ⟨x, rfl, hxp, hxo, c7⟩
    have hz7 := c7.size
    have h1y := hxo.ok.one
    rw [if_pos hg1] at hxp ⊢
    rw [hg2] at hxp
    refine L_r (r_mv) (L_r (r_ext2_0 rfl) (L_r (r_ext2_1 rfl) ?_))
    refine L_new (.plain rfl) rfl rfl (r_alloca rfl) (fun w8 b6 hb6 eb8 hs8 c8 => ?_)
    refine L_storerow (.plain rfl) rfl rfl Bk.au (by first | rfl | (simp; done) | assumption) (by first | rfl | assumption) (by first | rfl | (simp [Value.oneCell']; done) | assumption) (fun w9 hb9 hs9 c9 => (L_r (r_ai rfl) (L_nil (W_seq ?_))))
    refine W_draw (fun W => Bk W b1 #[.string c.p.name, .string c.p.super, c.vl, .bool c.p.ifc, .bool c.p.abs, .bool c.p.fin, c.vf, c.vm] 26 ∧ By W vp l ∧ Bk W b6 #[.string x.p.name, .string x.p.super, x.vl, .bool x.p.ifc, .bool x.p.abs, .bool x.p.fin, x.vf, x.vm] 26) 22 (m := 22) (by kernel_rfl) rfl (fun w10 c10 hs10 => ?_)
    refine held (by exact ⟨Bk.au, Sl.au, Bk.au⟩) (fun hS => ?_)
    refine D_ev 0 (by kernel_rfl) rfl ?_
    refine L_call (.plain rfl) rfl rfl (r_call Tryz.func12 rfl rfl rfl (by rfl)) (awake05_walk w0.heap.size _ (hL.nw Ch.au (by omega)) (by omega)) ?_
    rintro v37 w11 ⟨rfl, c11⟩
    have hz11 := c11.size
    refine L_nil ?_
    refine heldK (by exact ⟨Bk.au, Sl.au, Bk.au⟩) (fun hS => ?_)
    refine D_t 1 rfl (fun W hW => r_mb rfl) ?_
    refine D_as (v := .bool _) (v' := .bool true) 38 rfl (congrArg Value.bool (by rfl)) ?_
    refine D_g 2 rfl (fun W hW => r_mi rfl) ?_
    refine D_g 3 rfl (fun W hW => r_eql rfl rfl) ?_
    refine D_t 4 rfl (fun W hW => r_pt rfl rfl) ?_
    refine D_t 5 rfl (fun W hW => r_mb rfl) ?_
    refine D_as (v := .bool _) (v' := .bool true) 42 rfl (dec_t (by exact hck)).symm ?_
    refine D_g 6 rfl (fun W hW => r_mv) ?_
    refine D_g 7 rfl (fun W hW => r_bstr Tryz.underlying31 Tryz.underlying5 Tryz.underlying9 (by conv => lhs; whnf) gw) ?_
    refine D_g 8 rfl (fun W hW => r_loadrow Tryz.underlying26 rfl rfl gw (by first | rfl | assumption)) ?_
    refine D_ev 9 (by kernel_rfl) rfl ?_
    refine L_call (.yes 5 true rfl rfl) rfl rfl (r_call Tryz.func17 rfl rfl rfl (by rfl)) (rput05_walk c _ (hok.nw Ch.au) hcp hcf hn) ?_
    rintro v46 w12 ⟨rfl, c12⟩
    have hz12 := c12.size
    rw [← hle]
    refine L_nil ?_
    refine heldK (by exact ⟨Bk.au, Sl.au, Bk.au⟩) (fun hS => ?_)
    refine D_g 10 rfl (fun W hW => r_eqls rfl rfl) ?_
    refine D_t 11 rfl (fun W hW => r_pt rfl rfl) ?_
    refine D_t 12 rfl (fun W hW => r_mb rfl) ?_
    refine D_as (v := .bool _) (v' := .bool true) 49 rfl (dec_t (by rfl)).symm ?_
    refine D_g 13 rfl (fun W hW => r_mi rfl) ?_
    refine D_g 14 rfl (fun W hW => r_eql rfl rfl) ?_
    refine D_t 15 rfl (fun W hW => r_pt rfl rfl) ?_
    refine D_t 16 rfl (fun W hW => r_mb rfl) ?_
    refine D_as (v := .bool _) (v' := .bool true) 53 rfl (dec_t (by rfl)).symm ?_
    refine D_g 17 rfl (fun W hW => r_loadrow Tryz.underlying26 rfl rfl gw (by first | rfl | assumption)) ?_
    refine D_g 18 rfl (fun W hW => r_loadrow Tryz.underlying26 rfl rfl gw (by first | rfl | assumption)) ?_
    refine D_ev 19 (by kernel_rfl) rfl ?_
    refine L_call (.yes 16 true rfl rfl) rfl rfl (r_call Tryz.func18 rfl rfl rfl (by rfl)) (rsame05_walk c x _ (hok.nw Ch.au) ((hxo.nw Ch.au).ok) hs (by rw [hxp]; exact hs)) ?_
    rintro v56 w13 ⟨b56, rfl, hb56, c13⟩
    have hz13 := c13.size
    obtain rfl : b56 = true := hb56.2 hxp.symm
    refine L_nil ?_
    refine heldK (by exact ⟨Bk.au, Sl.au, Bk.au⟩) (fun hS => ?_)
    refine D_t 20 rfl (fun W hW => r_pt rfl rfl) ?_
    refine D_t 21 rfl (fun W hW => r_ab rfl) ?_
    refine D_done (by kernel_rfl) (W_ret ?_)
    refine ret1 (v := .bool _) rfl rfl ?_
    refine ⟨?_, Ch.au⟩
    first
    | rfl
    | exact congrArg Value.bool (decide_eq_true rfl)
    | (rw [hl0']; rfl)
end Go.Proofs.YthpknpfhpkkheaaGreatDoor
