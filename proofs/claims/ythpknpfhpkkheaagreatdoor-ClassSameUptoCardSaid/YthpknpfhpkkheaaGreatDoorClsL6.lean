/- A part of the proof. -/
import Derived.Test.YthpknpfhpkkheaaGreatDoorMGj
import Derived.Test.YthpknpfhpkkheaaGreatDoorClsSg
namespace Go.Proofs.YthpknpfhpkkheaaGreatDoor
open Go Go.RowKit
set_option linter.unusedVariables false
set_option linter.unusedSimpArgs false
set_option maxRecDepth 100000
theorem cGood.mono {R R' : Nat} {W : World} {c : CC} (h : cGood R W c) (k : R ≤ R') : cGood R' W c :=
  ⟨h.ok, fun x hx => by obtain ⟨a1, a2, a3, a4, a5⟩ := h.ms x hx; exact ⟨a1, a2, a3, fun p hp => Nat.le_trans (a4 p hp) k, Nat.le_trans a5 k⟩, Nat.le_trans h.name k, Nat.le_trans h.super k, fun p hp => Nat.le_trans (h.like p hp) k, fun f hf => ⟨Nat.le_trans (h.fields f hf).1 k, Nat.le_trans (h.fields f hf).2 k⟩, Nat.le_trans h.ll k, Nat.le_trans h.lf k, Nat.le_trans h.lm k⟩
theorem signs_ready {W : World} {c : CC} {y : MM} (h : cGood 1048576 W c) (hk : ∀ m ∈ c.p.ms, m.params.length ≤ 40) (hy : y ∈ c.q) : y.ok W ∧ y.m.params.length ≤ 40 ∧ (∀ p ∈ y.m.params, p.size ≤ 1000000000000) ∧ (joinS y.m.params { data := #[44] }).size ≤ 140737488355328 ∧ y.m.result.size ≤ 1000000000000 := by
  have hm : y.m ∈ c.p.ms := by rw [← h.ok.e]; exact List.mem_map_of_mem hy
  have hl := hk y.m hm
  obtain ⟨a1, a2, a3, a4, a5⟩ := h.ms y hy
  have hj := joinS_le (B := 1048576) y.m.params a4
  exact ⟨a1, hl, fun p hp => by have := a4 p hp; omega, by omega, by omega⟩
set_option maxHeartbeats 4000000 in
theorem ClassSame_walk (a b : CC) (w0 : World) (ha : cGood 1048576 w0 a) (hb : cGood 1048576 w0 b) (hL : Gv w0.heap.size w0) : Does Tryz.prog 6 #[a.v, b.v] w0 (fun r w' => r = .bool true ∧ Nw w0 w') := by
  have hga := ha.mono (show 1048576 ≤ 140737488351232 by decide)
  have hgb := hb.mono (show 1048576 ≤ 140737488351232 by decide)
  have h1a := ha.ok.one
  have h1b := hb.ok.one
  have hav := ha.ok.m
  have hla := ha.lm
  refine fn_of (n := 50) (args := [a.v, b.v]) Tryz.func6 rfl rfl rfl (W_seq (W_region ?_))
  refine L_new (.plain rfl) rfl rfl (r_boxa rfl) (fun w1 b2 hb2 eb1 hs1 c1 => ?_)
  refine L_new (.plain rfl) rfl rfl (r_boxa rfl) (fun w2 b3 hb3 eb2 hs2 c2 => (L_r (r_ab rfl) (L_nil (W_seq (W_seq (W_region ?_))))))
  refine L_r (r_loadrow Tryz.underlying26 rfl rfl Bk.au (by first | rfl | assumption)) ?_
  refine L_call (.plain rfl) rfl rfl (r_call Tryz.func11 rfl rfl rfl (by rfl)) (few05_walk a _ (hga.nw Ch.au)) ?_
  rintro v7 w3 ⟨bfa, rfl, hfa, c3⟩
  have hz3 := c3.size
  refine L_r (r_not rfl) (L_r (r_mb rfl) ?_)
  refine L_caseb (d := 9) rfl (fun h9 => ?_) (fun h9 => ?_)
  ·
   refine L_ps (L_ps (L_ps (L_r (r_pt rfl rfl) (L_nil ?_))))
   refine W_true rfl (W_seq (W_region ?_))
   refine L_call (.plain rfl) rfl rfl (r_call Tryz.func12 rfl rfl rfl (by rfl)) (awake05_walk w0.heap.size _ (hL.nw Ch.au (by omega)) (by omega)) ?_
   rintro v14 w4 ⟨rfl, c4⟩
   have hz4 := c4.size
   refine L_r (r_ab rfl) (L_nil (W_ret ?_))
   refine ret1 (v := .bool _) rfl rfl ?_
   refine ⟨?_, Ch.au⟩
   first
   | rfl
   | exact congrArg Value.bool (decide_eq_true rfl)
  ·
   refine L_g (r_loadrow Tryz.underlying26 rfl rfl Bk.au (by first | rfl | assumption)) ?_
   refine L_call (.yes 3 false rfl rfl) rfl rfl (r_call Tryz.func11 rfl rfl rfl (by rfl)) (few05_walk b _ (hgb.nw Ch.au)) ?_
   rintro v11 w5 ⟨bfb, rfl, hfb, c5⟩
   have hz5 := c5.size
   refine L_g (r_not rfl) (L_r (r_pf rfl rfl) (L_nil ?_))
   refine W_bool rfl (fun h13 => ?_) (fun h13 => ?_)
   ·
    refine W_seq (W_region ?_)
    refine L_call (.plain rfl) rfl rfl (r_call Tryz.func12 rfl rfl rfl (by rfl)) (awake05_walk w0.heap.size _ (hL.nw Ch.au (by omega)) (by omega)) ?_
    rintro v14 w6 ⟨rfl, c6⟩
    have hz6 := c6.size
    refine L_r (r_ab rfl) (L_nil (W_ret ?_))
    refine ret1 (v := .bool _) rfl rfl ?_
    refine ⟨?_, Ch.au⟩
    first
    | rfl
    | exact congrArg Value.bool (decide_eq_true rfl)
   ·
    refine W_skip (W_seq (W_seq ?_))
    have hfk := (hfa (by simpa using h9)).2
    refine W_region (L_r (r_ai rfl) (L_nil (W_block ?_)))
    refine W_loopF [2, 3] (fun mz_ f W => ∃ (i : Nat), f 5 = .int .i64 i ∧ (i ≤ a.q.length ∧ Nw w5 W) ∧ mz_ = a.q.length - i) ?_ ?_
    ·
     refine ⟨_, 0, rfl, ?_, rfl⟩
     exact ⟨by omega, Ch.au⟩
    rintro m0 g0 w7 ⟨i, hf5, hR0, rfl⟩
    refine W_as 5 hf5 rfl ?_
    clear hf5
    obtain ⟨hi, hnw⟩ := hR0
    have hz := hnw.size
    refine W_seq (W_seq (W_region (L_r (r_mi rfl) ?_)))
    refine L_r (r_fieldb Tryz.underlying26 rfl (show _ = some 1 from rfl) rfl rfl (show _ = 7 from rfl)) (L_r (r_lb rfl rfl) ?_)
    refine L_r (r_lenSl Tryz.underlying24 (by conv => lhs; whnf) Sl.au) (L_r (r_lss rfl rfl) (L_nil ?_))
    refine W_if rfl (fun h19 => ?_) (fun h19 => ?_)
    ·
     have hil : i < a.q.length := by omega
     have hrow := cellsCM_row a.q i hil
     have hxm := List.getElem_mem hil
     obtain ⟨x, hx⟩ : ∃ x, x = a.q[i] := ⟨_, rfl⟩
     rw [← hx] at hrow hxm
     obtain ⟨hxo, hx40, hxs, hxj, hxr⟩ := signs_ready ha hfk hxm
     have h1x := hxo.one
     refine W_skip (W_seq (W_block (W_seq ?_)))
     refine W_draw (fun W => Bk W b2 #[.string a.p.name, .string a.p.super, a.vl, .bool a.p.ifc, .bool a.p.abs, .bool a.p.fin, a.vf, a.vm] 26 ∧ Sl W a.vm 7 a.q.length (cellsCM a.q)) 13 (m := 13) (by kernel_rfl) rfl (fun w8 c8 hs8 => ?_)
     refine held (by exact ⟨Bk.au, Sl.au⟩) (fun hS => ?_)
     refine D_t 0 rfl (fun W hW => r_fieldb Tryz.underlying26 rfl (show _ = some 1 from rfl) rfl rfl (show _ = 7 from rfl)) ?_
     refine D_t 1 rfl (fun W hW => r_loadb rfl rfl (by first | exact hW.1 | exact hW.2) (by first | assumption | (conv => lhs; simp only [List.getElem?_toArray, List.getElem?_cons_succ, List.getElem?_cons_zero]))) ?_
     refine D_t 2 rfl (fun W hW => r_mi rfl) ?_
     refine D_t 3 rfl (fun W hW => r_ix Tryz.underlying24 (show _ = some 7 from rfl) (by conv => lhs; whnf) rfl (by first | exact hW.1 | exact hW.2)) ?_
     refine D_t 4 rfl (fun W hW => r_loadSlrow (us := [.string x.m.name, x.vp, .string x.m.result, .bool x.m.abs, .int .i64 x.m.locals, x.vc, x.vk]) Tryz.underlying43 rfl rfl rfl rfl (by first | exact hW.1 | exact hW.2) (by exact hrow)) ?_
     refine D_t 6 rfl (fun W hW => r_fieldb Tryz.underlying26 rfl (show _ = some 1 from rfl) rfl rfl (show _ = 7 from rfl)) ?_
     refine D_t 7 rfl (fun W hW => r_loadb rfl rfl (by first | exact hW.1 | exact hW.2) (by first | assumption | (conv => lhs; simp only [List.getElem?_toArray, List.getElem?_cons_succ, List.getElem?_cons_zero]))) ?_
     refine D_t 8 rfl (fun W hW => r_mi rfl) ?_
     refine D_t 9 rfl (fun W hW => r_ix Tryz.underlying24 (show _ = some 7 from rfl) (by conv => lhs; whnf) rfl (by first | exact hW.1 | exact hW.2)) ?_
     refine D_t 10 rfl (fun W hW => r_loadSlrow (us := [.string x.m.name, x.vp, .string x.m.result, .bool x.m.abs, .int .i64 x.m.locals, x.vc, x.vk]) Tryz.underlying43 rfl rfl rfl rfl (by first | exact hW.1 | exact hW.2) (by exact hrow)) ?_
     refine D_ev 5 (by kernel_rfl) rfl ?_
     refine L_call (.plain rfl) rfl rfl (r_call Tryz.func19 rfl rfl rfl (by rfl)) (sign_walk x _ (hxo.nw Ch.au) (by omega) hxj (by omega)) ?_
     rintro v27 w9 ⟨rfl, c9⟩
     have hz9 := c9.size
     refine L_nil ?_
     refine heldK (by exact ⟨Bk.au, Sl.au⟩) (fun hS => ?_)
     refine D_ev 11 (by kernel_rfl) rfl ?_
     refine L_call (.plain rfl) rfl rfl (r_call Tryz.func20 rfl rfl rfl (by rfl)) (rsign05_walk x _ (hxo.nw Ch.au) hx40 hxs hxr) ?_
     rintro v33 w10 ⟨rfl, c10⟩
     have hz10 := c10.size
     refine L_nil ?_
     refine heldK (by exact ⟨Bk.au, Sl.au⟩) (fun hS => ?_)
     refine D_t 12 rfl (fun W hW => r_neqs rfl rfl) ?_
     refine D_as (v := .bool _) (v' := .bool false) 34 rfl (dec_f (by simp)).symm ?_
     refine D_done (by kernel_rfl) ?_
     refine W_false rfl (W_skip (W_region (L_r (r_mi rfl) ?_)))
     refine L_r (r_add rfl rfl (by first | exact wr_i64 (by omega) | rfl)) (L_r (r_ai rfl) (L_nil ?_))
     refine ⟨⟨fx2, fx2, trivial⟩, _, ?_, i + 1, rfl, ?_, rfl⟩
     · omega
     exact ⟨by omega, Ch.au⟩
    ·
     refine W_exit ?_
     repeat (first | refine blk_hit ?_ | refine blk_miss rfl ?_)
     refine W_seq ?_
     refine W_draw (fun W => Bk W b2 #[.string a.p.name, .string a.p.super, a.vl, .bool a.p.ifc, .bool a.p.abs, .bool a.p.fin, a.vf, a.vm] 26 ∧ Bk W b3 #[.string b.p.name, .string b.p.super, b.vl, .bool b.p.ifc, .bool b.p.abs, .bool b.p.fin, b.vf, b.vm] 26) 16 (m := 16) (by kernel_rfl) rfl (fun w11 c11 hs11 => ?_)
     refine held (by exact ⟨Bk.au, Bk.au⟩) (fun hS => ?_)
     refine D_ev 0 (by kernel_rfl) rfl ?_
     refine L_call (.plain rfl) rfl rfl (r_call Tryz.func12 rfl rfl rfl (by rfl)) (awake05_walk w0.heap.size _ (hL.nw Ch.au (by omega)) (by omega)) ?_
     rintro v35 w12 ⟨rfl, c12⟩
     have hz12 := c12.size
     refine L_nil ?_
     refine heldK (by exact ⟨Bk.au, Bk.au⟩) (fun hS => ?_)
     refine D_t 1 rfl (fun W hW => r_mb rfl) ?_
     refine D_as (v := .bool _) (v' := .bool true) 36 rfl (congrArg Value.bool (by rfl)) ?_
     refine D_g 2 rfl (fun W hW => r_loadrow Tryz.underlying26 rfl rfl (by first | exact hW.1 | exact hW.2) (by first | rfl | assumption)) ?_
     refine D_g 3 rfl (fun W hW => r_loadrow Tryz.underlying26 rfl rfl (by first | exact hW.1 | exact hW.2) (by first | rfl | assumption)) ?_
     refine D_g 5 rfl (fun W hW => r_loadrow Tryz.underlying26 rfl rfl (by first | exact hW.1 | exact hW.2) (by first | rfl | assumption)) ?_
     refine D_g 6 rfl (fun W hW => r_loadrow Tryz.underlying26 rfl rfl (by first | exact hW.1 | exact hW.2) (by first | rfl | assumption)) ?_
     refine D_ev 4 (by kernel_rfl) rfl ?_
     refine L_call (.yes 1 true rfl rfl) rfl rfl (r_call Tryz.func21 rfl rfl rfl (by rfl)) (same_walk a b _ (ha.ok.nw Ch.au) (hb.ok.nw Ch.au) hga.sz hgb.sz) ?_
     rintro v39 w13 ⟨b1, rfl, hb1, c13⟩
     have hz13 := c13.size
     refine L_nil ?_
     refine heldK (by exact ⟨Bk.au, Bk.au⟩) (fun hS => ?_)
     refine D_ev 7 (by kernel_rfl) rfl ?_
     refine L_call (.yes 1 true rfl rfl) rfl rfl (r_call Tryz.func18 rfl rfl rfl (by rfl)) (rsame05_walk a b _ (ha.ok.nw Ch.au) (hb.ok.nw Ch.au) hga.sz hgb.sz) ?_
     rintro v42 w14 ⟨b2', rfl, hgb', c14⟩
     have hz14 := c14.size
     obtain rfl : b2' = b1 := by { have h := hgb'.trans hb1.symm; cases b2' <;> cases b1 <;> simp_all }
     refine L_nil ?_
     refine heldK (by exact ⟨Bk.au, Bk.au⟩) (fun hS => ?_)
     refine D_g 8 rfl (fun W hW => r_eqlb Tryz.underlying4 rfl rfl) ?_
     refine D_t 9 rfl (fun W hW => r_pt rfl rfl) ?_
     refine D_t 10 rfl (fun W hW => r_mb rfl) ?_
     refine D_as (v := .bool _) (v' := .bool true) 45 rfl (dec_t (by simp)).symm ?_
     refine D_g 11 rfl (fun W hW => r_loadrow Tryz.underlying26 rfl rfl (by first | exact hW.1 | exact hW.2) (by first | rfl | assumption)) ?_
     refine D_g 12 rfl (fun W hW => r_loadrow Tryz.underlying26 rfl rfl (by first | exact hW.1 | exact hW.2) (by first | rfl | assumption)) ?_
     refine D_ev 13 (by kernel_rfl) rfl ?_
     refine L_call (.yes 10 true rfl rfl) rfl rfl (r_call Tryz.func21 rfl rfl rfl (by rfl)) (same_walk a a _ (ha.ok.nw Ch.au) (ha.ok.nw Ch.au) hga.sz hga.sz) ?_
     rintro v48 w15 ⟨b4, rfl, hb4, c15⟩
     have hz15 := c15.size
     obtain rfl : b4 = true := hb4.2 rfl
     refine L_nil ?_
     refine heldK (by exact ⟨Bk.au, Bk.au⟩) (fun hS => ?_)
     refine D_t 14 rfl (fun W hW => r_pt rfl rfl) ?_
     refine D_t 15 rfl (fun W hW => r_ab rfl) ?_
     refine D_done (by kernel_rfl) (W_ret ?_)
     refine ret1 (v := .bool _) rfl rfl ?_
     refine ⟨?_, Ch.au⟩
     first
     | rfl
     | exact congrArg Value.bool (decide_eq_true rfl)
end Go.Proofs.YthpknpfhpkkheaaGreatDoor
