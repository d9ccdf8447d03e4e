/- A part of the proof. -/
import Derived.Test.YthpknpfhpkkheaaGreatDoorClsL2
import Derived.Test.YthpknpfhpkkheaaGreatDoorClsL3
namespace Go.Proofs.YthpknpfhpkkheaaGreatDoor
open Go Go.RowKit
set_option linter.unusedVariables false
set_option linter.unusedSimpArgs false
set_option maxRecDepth 100000
theorem allC_append (z : List Cls) (c : Cls) : allC (z ++ [c]) = if allC z ≠ 0 then allC z else checkCls c := by
  induction z with
  | nil =>
    show (if checkCls c ≠ 0 then checkCls c else 0) = if (0 : Int) ≠ 0 then 0 else checkCls c
    by_cases h : checkCls c = 0
    · rw [if_neg (fun k => k h), if_neg (fun k => k rfl), h]
    · rw [if_pos h, if_neg (fun k => k rfl)]
  | cons x z ih =>
    show (if checkCls x ≠ 0 then checkCls x else allC (z ++ [c])) = if (if checkCls x ≠ 0 then checkCls x else allC z) ≠ 0 then (if checkCls x ≠ 0 then checkCls x else allC z) else checkCls c
    by_cases h : checkCls x = 0
    ·
     have e : ∀ y : Int, (if checkCls x ≠ 0 then checkCls x else y) = y := fun y => if_neg (fun k => k h)
     rw [e, e, ih]
    ·
     have e : ∀ y : Int, (if checkCls x ≠ 0 then checkCls x else y) = checkCls x := fun y => if_pos h
     rw [e, e, if_pos h]
theorem allC_all {z : List Cls} (h : allC z = 0) : ∀ c ∈ z, checkCls c = 0 := by
  induction z with
  | nil => intro c hc; simp at hc
  | cons x z ih =>
    have h' : (if checkCls x ≠ 0 then checkCls x else allC z) = 0 := h
    by_cases hx : checkCls x = 0
    ·
     rw [if_neg (fun k => k hx)] at h'
     intro c hc
     rcases List.mem_cons.1 hc with rfl | hc
     · exact hx
     · exact ih h' c hc
    ·
     rw [if_pos hx] at h'
     exact absurd h' hx
theorem packE_0 {z : List Cls} (h : packE z = 0) : z.length ≤ 64 ∧ ∀ c ∈ z, checkCls c = 0 := by
  unfold packE at h
  split at h
  · exact absurd h (by decide)
  · exact ⟨by omega, allC_all h⟩
theorem packB_le {z : List Cls} (h : packE z = 0) (hn : ∀ c ∈ z, insN c) : (packB z).length ≤ 60000000 := by
  obtain ⟨hl, hc⟩ := packE_0 h
  have hpl := flat_leL clsB 900000 z (fun x hx => by obtain ⟨hp, hf⟩ := check_0 (hc x hx); exact clsB_le hp hf (hn x hx))
  have := varL_ten (v := z.length) (by omega)
  unfold packB
  rw [List.length_append]
  omega
theorem clsB_pos (c : Cls) : 0 < (clsB c).length := by unfold clsB; rw [List.length_append]; have := textL_pos c.name; omega
theorem unp_of {z : List Cls} (h : packE z = 0) (hn : ∀ c ∈ z, insN c) : unpC (packB z) ∧ (rList 64 rCls (packB z) (0, 0)).1 = z := by
  obtain ⟨hl, hc⟩ := packE_0 h
  have k := rList_of (f := rCls) (e := clsB) (most := 64) (z := z) (l := packB z) (a := 0) (rest := []) (by omega) (by decide) (fun x _ => clsB_pos x) (fun x hx a rest h => by
    obtain ⟨hp, hf⟩ := check_0 (hc x hx)
    exact rCls_of (good_of hp hf (hn x hx)) a rest h) (by rw [List.append_nil]; rfl)
  unfold unpC
  rw [k]
  refine ⟨⟨?_, hc⟩, rfl⟩
  unfold endE
  rw [if_neg]
  intro k
  apply k.2
  show 0 + (packB z).length = _
  omega
theorem cpack2 (g : Nat) (v : Value) (z : List CC) (w : World) (hG : Gv g w) (hb : g ≤ w.heap.size) (hv : Sl w v 8 z.length (cellsCC z)) (hl : z.length ≤ 1000000000000) (hc : ∀ c ∈ z, c.ok w) (hs : ∀ c ∈ z, c.p.sz) (hn : ∀ c ∈ z, insN c.p) :
    Does Tryz.prog 24 #[v] w (fun r w' => ∃ (v' : Value) (l : List UInt8), r = .tuple #[v', .int .i64 (packE (z.map CC.p))] ∧ Sl w' v' 1 l.length (l.map b8) ∧ l.length ≤ 60000000 ∧ (packE (z.map CC.p) ≠ 0 → l = []) ∧ (packE (z.map CC.p) = 0 → l = packB (z.map CC.p) ∧ unpC l ∧ (rList 64 rCls l (0, 0)).1 = z.map CC.p) ∧ Nw w w') := by
  refine (cpack_walk g v z w hG hb hv hl hc hs hn).mono ?_
  rintro r w' ⟨v', h, h1, h2, k⟩
  have hn' : ∀ c ∈ z.map CC.p, insN c := fun c hc => by obtain ⟨y, hy, rfl⟩ := List.mem_map.1 hc; exact hn y hy
  by_cases hk : packE (z.map CC.p) = 0
  ·
   obtain ⟨g1, g2⟩ := unp_of hk hn'
   exact ⟨v', _, h, (h2 hk).sl, packB_le hk hn', fun k => absurd hk k, fun _ => ⟨rfl, g1, g2⟩, k⟩
  ·
   have e := h1 hk
   subst e
   exact ⟨_, [], h, Sl.nil _ _, by decide, fun _ => rfl, fun k => absurd k hk, k⟩
set_option maxHeartbeats 4000000 in
theorem ClassPacks_n (v : Value) (z : List CC) (w0 : World) (hv : Sl w0 v 8 z.length (cellsCC z)) (hc : ∀ c ∈ z, cGood 140737488351232 w0 c) (hzl : z.length ≤ 140737488351232) (hL : Gv w0.heap.size w0) : Does Tryz.prog 10 #[v] w0 (fun r w' => r = .bool true ∧ Nw w0 w') := by
  have hml : (z.map CC.p).length = z.length := List.length_map _
  refine fn_of (n := 80) (args := [v]) Tryz.func10 rfl rfl rfl (W_seq (W_region (L_r (r_ab rfl) (L_nil (W_seq (W_seq (W_region (L_r (r_mv) ?_))))))))
  refine L_r (r_lenSl Tryz.underlying44 (by conv => lhs; whnf) Sl.au) (L_r (r_gtr rfl rfl) (L_nil ?_))
  refine W_if rfl (fun h11 => ?_) (fun h11 => ?_)
  ·
   refine W_seq (W_region ?_)
   refine L_call (.plain rfl) rfl rfl (r_call Tryz.func12 rfl rfl rfl (by rfl)) (awake05_walk w0.heap.size _ (hL.nw Ch.au (by omega)) (by omega)) ?_
   rintro v12 w1 ⟨rfl, c1⟩
   have hz1 := c1.size
   refine L_r (r_ab rfl) (L_nil (W_ret ?_))
   refine ret1 (v := .bool _) rfl rfl ?_
   refine ⟨?_, Ch.au⟩
   first
   | rfl
   | exact congrArg Value.bool (decide_eq_true rfl)
   | (rw [hl0']; rfl)
  ·
   refine W_skip (W_seq (W_region (L_r (r_ai rfl) (L_nil (W_seq (W_seq (W_region (L_r (r_ai rfl) ?_))))))))
   refine L_nil (W_block ?_)
   refine W_loopF [0] (fun mz_ f W => ∃ (i : Nat) (k : Int), f 4 = .int .i64 i ∧ f 3 = .int .i64 k ∧ (i ≤ z.length ∧ k = allC ((z.take i).map CC.p) ∧ Nw w0 W) ∧ mz_ = z.length - i) ?_ ?_
   ·
    refine ⟨_, 0, 0, rfl, rfl, ?_, rfl⟩
    exact ⟨by omega, rfl, Ch.au⟩
   rintro m0 g0 w2 ⟨i, k, hf4, hf3, hR0, rfl⟩
   refine W_as 4 hf4 rfl ?_
   refine W_as 3 hf3 rfl ?_
   clear hf4 hf3
   obtain ⟨hi, hk, hnw⟩ := hR0
   have hzz := hnw.size
   refine W_seq (W_seq (W_region (L_r (r_mi rfl) (L_r (r_mv) ?_))))
   refine L_r (r_lenSl Tryz.underlying44 (by conv => lhs; whnf) Sl.au) (L_r (r_lss rfl rfl) (L_nil ?_))
   refine W_if rfl (fun h16 => ?_) (fun h16 => ?_)
   ·
    have hil : i < z.length := by omega
    have hrow := cellsCC_row z i hil
    have hxm := List.getElem_mem hil
    obtain ⟨x, hx⟩ : ∃ x, x = z[i] := ⟨_, rfl⟩
    rw [← hx] at hrow hxm
    have hxg := hc x hxm
    have hxo := hxg.ok
    have h1x := hxo.one
    refine W_skip (W_seq (W_block (W_seq (W_seq (W_region (L_r (r_mv) (L_r (r_mi rfl) ?_)))))))
    refine L_r (r_ix Tryz.underlying44 (show _ = some 8 from rfl) (by conv => lhs; whnf) rfl Sl.au) ?_
    refine L_r (r_loadSlrow (us := [.string x.p.name, .string x.p.super, x.vl, .bool x.p.ifc, .bool x.p.abs, .bool x.p.fin, x.vf, x.vm]) Tryz.underlying26 rfl rfl rfl rfl Sl.au (by exact hrow)) ?_
    refine L_call (.plain rfl) rfl rfl (r_call Tryz.func11 rfl rfl rfl (by rfl)) (few05_walk x _ (hxg.nw Ch.au)) ?_
    rintro v23 w3 ⟨b, rfl, hfew, c3⟩
    have hz3 := c3.size
    refine L_r (r_not rfl) (L_nil ?_)
    refine W_bool rfl (fun h24 => ?_) (fun h24 => ?_)
    ·
     refine W_seq (W_region ?_)
     refine L_call (.plain rfl) rfl rfl (r_call Tryz.func12 rfl rfl rfl (by rfl)) (awake05_walk w0.heap.size _ (hL.nw Ch.au (by omega)) (by omega)) ?_
     rintro v25 w4 ⟨rfl, c4⟩
     have hz4 := c4.size
     refine L_r (r_ab rfl) (L_nil (W_ret ?_))
     refine ret1 (v := .bool _) rfl rfl ?_
     refine ⟨?_, Ch.au⟩
     first
     | rfl
     | exact congrArg Value.bool (decide_eq_true rfl)
     | (rw [hl0']; rfl)
    ·
     refine W_skip (W_seq (W_region (L_r (r_mi rfl) (L_r (r_eql rfl rfl) (L_nil ?_)))))
     refine W_endF [0, 4] (fun f W => f 3 = .int .i64 (if k ≠ 0 then k else checkCls x.p) ∧ (Nw w0 W)) ?_ ?_
     ·
      refine W_if rfl (fun h27 => ?_) (fun h27 => ?_)
      ·
       refine W_region (L_r (r_mv) (L_r (r_mi rfl) ?_))
       refine L_r (r_ix Tryz.underlying44 (show _ = some 8 from rfl) (by conv => lhs; whnf) rfl Sl.au) ?_
       refine L_r (r_loadSlrow (us := [.string x.p.name, .string x.p.super, x.vl, .bool x.p.ifc, .bool x.p.abs, .bool x.p.fin, x.vf, x.vm]) Tryz.underlying26 rfl rfl rfl rfl Sl.au (by exact hrow)) ?_
       refine L_call (.plain rfl) rfl rfl (r_call Tryz.func14 rfl rfl rfl (by rfl)) (rcheck05_walk x _ (hxo.nw Ch.au) hxg.sz) ?_
       rintro v32 w5 ⟨rfl, c5⟩
       have hz5 := c5.size
       refine L_r (r_ai rfl) (L_nil ?_)
       refine ⟨⟨fx2, fx2, trivial⟩, (by refine congrArg (Value.int .i64) ?_; first | (rw [if_neg (fun hh => hh h27)]; done) | (rw [if_pos h27]; done)), ?_⟩
       exact Ch.au
      ·
       refine W_skip ?_
       refine ⟨⟨fx2, fx2, trivial⟩, (by refine congrArg (Value.int .i64) ?_; first | (rw [if_neg (fun hh => hh h27)]; done) | (rw [if_pos h27]; done)), ?_⟩
       exact Ch.au
     rintro gct27 w6 ⟨hf3, hCt27⟩
     refine W_as 3 hf3 rfl ?_
     clear hf3
     have hnwt := hCt27
     have hzt := hnwt.size
     refine W_region (L_r (r_mi rfl) ?_)
     refine L_r (r_add rfl rfl (by first | exact wr_i64 (by omega) | rfl)) (L_r (r_ai rfl) (L_nil ?_))
     refine ⟨⟨fx2, trivial⟩, _, ?_, i + 1, (if k ≠ 0 then k else checkCls x.p), rfl, rfl, ?_, rfl⟩
     · omega
     exact ⟨by omega, by rw [List.take_succ_eq_append_getElem hil, List.map_append, List.map_singleton, allC_append, ← hk, ← hx], Ch.au⟩
   ·
    have hie : i = z.length := by omega
    rw [hie, List.take_length] at hk
    refine W_exit ?_
    repeat (first | refine blk_hit ?_ | refine blk_miss rfl ?_)
    refine W_seq (W_seq (W_region (L_r (r_mv) ?_)))
    refine L_r (r_lenSl Tryz.underlying44 (by conv => lhs; whnf) Sl.au) (L_r (r_gtr rfl rfl) (L_nil ?_))
    refine W_endF [0] (fun f W => f 3 = .int .i64 (packE (z.map CC.p)) ∧ (Nw w0 W)) ?_ ?_
    ·
     refine W_if rfl (fun h35 => ?_) (fun h35 => ?_)
     ·
      refine W_region (L_r (r_ai rfl) (L_nil ?_))
      refine ⟨⟨fx2, trivial⟩, (by refine congrArg (Value.int .i64) ?_; unfold packE; first | (rw [if_pos (by omega)]; done) | (rw [if_neg (by omega), hk]; done)), ?_⟩
      exact Ch.au
     ·
      refine W_skip ?_
      refine ⟨⟨fx2, trivial⟩, (by refine congrArg (Value.int .i64) ?_; unfold packE; first | (rw [if_pos (by omega)]; done) | (rw [if_neg (by omega), hk]; done)), ?_⟩
      exact Ch.au
    rintro gct35 w7 ⟨hf3, hCt35⟩
    refine W_as 3 hf3 rfl ?_
    clear hf3
    have hnwu := hCt35
    have hzu := hnwu.size
    refine W_seq (W_region (L_r (r_mv) ?_))
    refine L_call (.plain rfl) rfl rfl (r_call Tryz.func24 rfl rfl rfl (by rfl)) (cpack2 w0.heap.size v z _ (hL.nw Ch.au (by omega)) (by omega) Sl.au (by omega) (fun c hcz => (hc c hcz).ok.nw Ch.au) (fun c hcz => (hc c hcz).sz) (fun c hcz => (hc c hcz).insN)) ?_
    rintro v38 w8 ⟨vp, l, rfl, hvp, hll, hl0, hl1, c8⟩
    have hz8 := c8.size
    refine L_r (r_mv) (L_r (r_ext2_0 rfl) (L_r (r_ext2_1 rfl) (L_r (r_av) (L_r (r_ai rfl) (L_nil (W_seq (W_seq (W_region ?_))))))))
    refine L_r (r_mi rfl) (L_r (r_neq rfl rfl) (L_nil ?_))
    refine W_if rfl (fun h42 => ?_) (fun h42 => ?_)
    ·
     have hl0' : l = [] := hl0 (by first | assumption | omega)
     have hl00 : l.length = 0 := by rw [hl0']; rfl
     refine W_seq (W_region ?_)
     refine L_call (.plain rfl) rfl rfl (r_call Tryz.func12 rfl rfl rfl (by rfl)) (awake05_walk w0.heap.size _ (hL.nw Ch.au (by omega)) (by omega)) ?_
     rintro v43 w9 ⟨rfl, c9⟩
     have hz9 := c9.size
     refine L_r (r_mb rfl) ?_
     refine L_as (v := .bool _) (v' := .bool true) 44 rfl (congrArg Value.bool (by rfl)) ?_
     refine L_g (r_mv) ?_
     refine L_g (r_lenSl Tryz.underlying31 (by conv => lhs; whnf) Sl.au) ?_
     refine L_g (r_eql rfl rfl) (L_r (r_pt rfl rfl) (L_r (r_mb rfl) ?_))
     refine L_as (v := .bool _) (v' := .bool true) 49 rfl (dec_t (by omega)).symm ?_
     refine L_g (r_mi rfl) ?_
     refine L_g (r_mi rfl) ?_
     refine L_g (r_eql rfl rfl) (L_r (r_pt rfl rfl) (L_r (r_ab rfl) (L_nil (W_ret ?_))))
     refine ret1 (v := .bool _) rfl rfl ?_
     refine ⟨?_, Ch.au⟩
     first
     | rfl
     | exact congrArg Value.bool (decide_eq_true rfl)
     | (rw [hl0']; rfl)
    ·
     have hpe : packE (z.map CC.p) = 0 := Classical.not_not.1 h42
     obtain ⟨hle, hg1, hg2⟩ := hl1 hpe
     obtain ⟨hz64, hck⟩ := packE_0 hpe
     refine W_skip (W_seq (W_region (L_r (r_mv) ?_)))
     refine L_call (.plain rfl) rfl rfl (r_call Tryz.func22 rfl rfl rfl (by rfl)) (cunpack_walk w0.heap.size vp l _ (hL.nw Ch.au (by omega)) (by omega) Sl.au (by omega)) ?_
     rintro v56 w10 ⟨vu, y, rfl, hy1, hy2, c10⟩
     have hz10 := c10.size
     rw [if_pos hg1]
     obtain ⟨hyo, hyp, hyk⟩ := hy1 hg1
     rw [hg2] at hyp
     have hyl := congrArg List.length hyp
     rw [List.length_map, List.length_map] at hyl
     refine L_r (r_mv) (L_r (r_ext2_0 rfl) (L_r (r_ext2_1 rfl) (L_r (r_av) (L_r (r_ai rfl) (L_nil (W_seq ?_))))))
     refine W_draw (fun W => By W vp l) 22 (m := 22) (by kernel_rfl) rfl (fun w11 c11 hs11 => ?_)
     refine held Sl.au (fun hS => ?_)
     refine D_ev 0 (by kernel_rfl) rfl ?_
     refine L_call (.plain rfl) rfl rfl (r_call Tryz.func12 rfl rfl rfl (by rfl)) (awake05_walk w0.heap.size _ (hL.nw Ch.au (by omega)) (by omega)) ?_
     rintro v59 w12 ⟨rfl, c12⟩
     have hz12 := c12.size
     refine L_nil ?_
     refine heldK Sl.au (fun hS => ?_)
     refine D_t 1 rfl (fun W hW => r_mb rfl) ?_
     refine D_as (v := .bool _) (v' := .bool true) 60 rfl (congrArg Value.bool (by rfl)) ?_
     refine D_g 2 rfl (fun W hW => r_mi rfl) ?_
     refine D_g 3 rfl (fun W hW => r_eql rfl rfl) ?_
     refine D_t 4 rfl (fun W hW => r_pt rfl rfl) ?_
     refine D_t 5 rfl (fun W hW => r_mb rfl) ?_
     refine D_as (v := .bool _) (v' := .bool true) 64 rfl (dec_t (by exact hpe)).symm ?_
     refine D_g 6 rfl (fun W hW => r_mv) ?_
     refine D_g 7 rfl (fun W hW => r_bstr Tryz.underlying31 Tryz.underlying5 Tryz.underlying9 (by conv => lhs; whnf) (by exact hW)) ?_
     refine D_g 8 rfl (fun W hW => r_mv) ?_
     refine D_ev 9 (by kernel_rfl) rfl ?_
     refine L_call (.yes 5 true rfl rfl) rfl rfl (r_call Tryz.func23 rfl rfl rfl (by rfl)) (rpack05_walk v z _ Sl.au (by omega) (fun c hcz => (hc c hcz).ok.nw Ch.au) (fun c hcz => hck _ (List.mem_map_of_mem hcz)) (fun c hcz => (hc c hcz).insN)) ?_
     rintro v68 w13 ⟨rfl, c13⟩
     have hz13 := c13.size
     rw [← hle]
     refine L_nil ?_
     refine heldK Sl.au (fun hS => ?_)
     refine D_g 10 rfl (fun W hW => r_eqls rfl rfl) ?_
     refine D_t 11 rfl (fun W hW => r_pt rfl rfl) ?_
     refine D_t 12 rfl (fun W hW => r_mb rfl) ?_
     refine D_as (v := .bool _) (v' := .bool true) 71 rfl (dec_t (by rfl)).symm ?_
     refine D_g 13 rfl (fun W hW => r_mi rfl) ?_
     refine D_g 14 rfl (fun W hW => r_eql rfl rfl) ?_
     refine D_t 15 rfl (fun W hW => r_pt rfl rfl) ?_
     refine D_t 16 rfl (fun W hW => r_mb rfl) ?_
     refine D_as (v := .bool _) (v' := .bool true) 75 rfl (dec_t (by rfl)).symm ?_
     refine D_g 17 rfl (fun W hW => r_mv) ?_
     refine D_g 18 rfl (fun W hW => r_mv) ?_
     refine D_ev 19 (by kernel_rfl) rfl ?_
     refine L_call (.yes 16 true rfl rfl) rfl rfl (r_call Tryz.func25 rfl rfl rfl (by rfl)) (rsameall05_walk v vu z y _ Sl.au Sl.au (by omega) (by omega) (fun c hcz => (hc c hcz).ok.nw Ch.au) (fun c hcz => ((hyk c hcz).nw Ch.au).ok) (fun c hcz => (hc c hcz).sz) (fun c hcz => by { have h := List.mem_map_of_mem (f := CC.p) hcz; rw [hyp] at h; obtain ⟨q, hq, e⟩ := List.mem_map.1 h; rw [← e]; exact (hc q hq).sz })) ?_
     rintro v78 w14 ⟨b78, rfl, hb78, c14⟩
     have hz14 := c14.size
     obtain rfl : b78 = true := hb78.2 hyp.symm
     refine L_nil ?_
     refine heldK Sl.au (fun hS => ?_)
     refine D_t 20 rfl (fun W hW => r_pt rfl rfl) ?_
     refine D_t 21 rfl (fun W hW => r_ab rfl) ?_
     refine D_done (by kernel_rfl) (W_ret ?_)
     refine ret1 (v := .bool _) rfl rfl ?_
     refine ⟨?_, Ch.au⟩
     first
     | rfl
     | exact congrArg Value.bool (decide_eq_true rfl)
     | (rw [hl0']; rfl)
theorem ClassPacks_walk (v : Value) (z : List CC) (w0 : World) (hz : Sl w0 v 8 z.length (cellsCC z) ∧ (∀ c ∈ z, cGood 140737488351232 w0 c) ∧ z.length ≤ 140737488351232) (hL : Gv w0.heap.size w0) : Does Tryz.prog 10 #[v] w0 (fun r w' => r = .bool true ∧ Nw w0 w') :=
  ClassPacks_n v z w0 hz.1 hz.2.1 hz.2.2 hL
theorem packB_flat (z : List CC) : packB (z.map CC.p) = varL z.length ++ z.flatMap (fun c => clsB c.p) := by unfold packB; rw [List.length_map, List.flatMap_map]
set_option maxHeartbeats 4000000 in
theorem ClassLists_n (v : Value) (z : List CC) (w0 : World) (hv : Sl w0 v 8 z.length (cellsCC z)) (hc : ∀ c ∈ z, cGood 140737488351232 w0 c) (hzl : z.length ≤ 140737488351232) (hL : Gv w0.heap.size w0) : Does Tryz.prog 9 #[v] w0 (fun r w' => r = .bool true ∧ Nw w0 w') := by
  have hml : (z.map CC.p).length = z.length := List.length_map _
  refine fn_of (n := 84) (args := [v]) Tryz.func9 rfl rfl rfl (W_seq (W_region (L_r (r_ab rfl) (L_nil (W_seq (W_seq (W_region (L_r (r_mv) ?_))))))))
  refine L_r (r_lenSl Tryz.underlying44 (by conv => lhs; whnf) Sl.au) (L_r (r_gtr rfl rfl) (L_nil ?_))
  refine W_if rfl (fun h13 => ?_) (fun h13 => ?_)
  ·
   refine W_seq (W_region ?_)
   refine L_call (.plain rfl) rfl rfl (r_call Tryz.func12 rfl rfl rfl (by rfl)) (awake05_walk w0.heap.size _ (hL.nw Ch.au (by omega)) (by omega)) ?_
   rintro v14 w1 ⟨rfl, c1⟩
   have hz1 := c1.size
   refine L_r (r_ab rfl) (L_nil (W_ret ?_))
   refine ret1 (v := .bool _) rfl rfl ?_
   refine ⟨?_, Ch.au⟩
   first
   | rfl
   | exact congrArg Value.bool (decide_eq_true rfl)
   | exact congrArg Value.bool (decide_eq_true hpe)
   | (refine congrArg Value.bool (decide_eq_true ?_)
      rw [(hq1 hpe).1, packB_flat, ← hB, sb_append, varL_low (by omega)])
  ·
   refine W_skip (W_seq (W_region (L_r (r_as rfl) (L_nil (W_seq (W_seq (W_region (L_r (r_ai rfl) ?_))))))))
   refine L_nil (W_block ?_)
   refine W_loopF [0] (fun mz_ f W => ∃ (i : Nat) (B : List UInt8), f 4 = .int .i64 i ∧ f 3 = .string (sb B) ∧ (i ≤ z.length ∧ B = (z.take i).flatMap (fun c => clsB c.p) ∧ (∀ j (h : j < z.length), j < i → checkCls z[j].p = 0) ∧ Nw w0 W) ∧ mz_ = z.length - i) ?_ ?_
   ·
    refine ⟨_, 0, [], rfl, rfl, ?_, rfl⟩
    exact ⟨by omega, by simp, fun j h hj => absurd hj (by omega), Ch.au⟩
   rintro m0 g0 w2 ⟨i, B, hf4, hf3, hR0, rfl⟩
   refine W_as 4 hf4 rfl ?_
   refine W_as 3 hf3 rfl ?_
   clear hf4 hf3
   obtain ⟨hi, hB, hck, hnw⟩ := hR0
   have hzz := hnw.size
   have hpl := flat_leL (fun c : CC => clsB c.p) 900000 (z.take i) (fun x hx => by { obtain ⟨j, hj, rfl⟩ := List.mem_iff_getElem.1 hx; rw [List.length_take] at hj; rw [List.getElem_take]; obtain ⟨hp, hf⟩ := check_0 (hck j (by omega) (by omega)); exact clsB_le hp hf (hc _ (List.getElem_mem _)).insN })
   rw [List.length_take] at hpl
   have hBl : B.length ≤ 20000000 := by rw [hB]; omega
   have hBs := sb_size B
   refine W_seq (W_seq (W_region (L_r (r_mi rfl) (L_r (r_mv) ?_))))
   refine L_r (r_lenSl Tryz.underlying44 (by conv => lhs; whnf) Sl.au) (L_r (r_lss rfl rfl) (L_nil ?_))
   refine W_if rfl (fun h18 => ?_) (fun h18 => ?_)
   ·
    have hil : i < z.length := by omega
    have hrow := cellsCC_row z i hil
    have hxm := List.getElem_mem hil
    obtain ⟨x, hx⟩ : ∃ x, x = z[i] := ⟨_, rfl⟩
    rw [← hx] at hrow hxm
    have hxg := hc x hxm
    have hxo := hxg.ok
    have h1x := hxo.one
    refine W_skip (W_seq (W_block (W_seq (W_seq (W_region (L_r (r_mv) (L_r (r_mi rfl) ?_)))))))
    refine L_r (r_ix Tryz.underlying44 (show _ = some 8 from rfl) (by conv => lhs; whnf) rfl Sl.au) ?_
    refine L_r (r_loadSlrow (us := [.string x.p.name, .string x.p.super, x.vl, .bool x.p.ifc, .bool x.p.abs, .bool x.p.fin, x.vf, x.vm]) Tryz.underlying26 rfl rfl rfl rfl Sl.au (by exact hrow)) ?_
    refine L_call (.plain rfl) rfl rfl (r_call Tryz.func11 rfl rfl rfl (by rfl)) (few05_walk x _ (hxg.nw Ch.au)) ?_
    rintro v25 w3 ⟨b, rfl, hfew, c3⟩
    have hz3 := c3.size
    refine L_r (r_not rfl) (L_nil ?_)
    refine W_bool rfl (fun h26 => ?_) (fun h26 => ?_)
    ·
     refine W_seq (W_region ?_)
     refine L_call (.plain rfl) rfl rfl (r_call Tryz.func12 rfl rfl rfl (by rfl)) (awake05_walk w0.heap.size _ (hL.nw Ch.au (by omega)) (by omega)) ?_
     rintro v27 w4 ⟨rfl, c4⟩
     have hz4 := c4.size
     refine L_r (r_ab rfl) (L_nil (W_ret ?_))
     refine ret1 (v := .bool _) rfl rfl ?_
     refine ⟨?_, Ch.au⟩
     first
     | rfl
     | exact congrArg Value.bool (decide_eq_true rfl)
     | exact congrArg Value.bool (decide_eq_true hpe)
     | (refine congrArg Value.bool (decide_eq_true ?_)
        rw [(hq1 hpe).1, packB_flat, ← hB, sb_append, varL_low (by omega)])
    ·
     refine W_skip (W_seq (W_region (L_r (r_mv) (L_r (r_mi rfl) ?_))))
     refine L_r (r_ix Tryz.underlying44 (show _ = some 8 from rfl) (by conv => lhs; whnf) rfl Sl.au) ?_
     refine L_r (r_loadSlrow (us := [.string x.p.name, .string x.p.super, x.vl, .bool x.p.ifc, .bool x.p.abs, .bool x.p.fin, x.vf, x.vm]) Tryz.underlying26 rfl rfl rfl rfl Sl.au (by exact hrow)) ?_
     refine L_call (.plain rfl) rfl rfl (r_call Tryz.func15 rfl rfl rfl (by rfl)) (cput2 w0.heap.size x _ (hL.nw Ch.au (by omega)) (by omega) (hxo.nw Ch.au) hxg.sz hxg.insN) ?_
     rintro v33 w5 ⟨vp, l, rfl, hvp, hll, hl0, hl1, c5⟩
     have hz5 := c5.size
     refine L_r (r_mv) (L_r (r_ext2_0 rfl) (L_r (r_ext2_1 rfl) (L_r (r_av) (L_r (r_ai rfl) (L_nil (W_seq (W_seq (W_region ?_))))))))
     refine L_r (r_mi rfl) (L_r (r_neq rfl rfl) (L_nil ?_))
     refine W_if rfl (fun h37 => ?_) (fun h37 => ?_)
     ·
      have hpe : packE (z.map CC.p) = checkCls x.p := by
        unfold packE
        rw [if_neg (by omega)]
        have h := allC_at (z := z.map CC.p) (i := i) (by omega) (fun j hj hji => by rw [List.getElem_map]; exact hck j (by omega) hji) (by rw [List.getElem_map, ← hx]; exact h37)
        rw [h, List.getElem_map, ← hx]
      refine W_seq (W_region (L_r (r_mv) ?_))
      refine L_call (.plain rfl) rfl rfl (r_call Tryz.func24 rfl rfl rfl (by rfl)) (cpack2 w0.heap.size v z _ (hL.nw Ch.au (by omega)) (by omega) Sl.au (by omega) (fun c hcz => (hc c hcz).ok.nw Ch.au) (fun c hcz => (hc c hcz).sz) (fun c hcz => (hc c hcz).insN)) ?_
      rintro v40 w6 ⟨vq, lq, rfl, hvq, hlq, hq0, hq1, c6⟩
      have hz6 := c6.size
      refine L_r (r_mv) (L_r (r_ext2_0 rfl) (L_r (r_ext2_1 rfl) (L_r (r_av) (L_r (r_ai rfl) (L_nil (W_seq (W_region ?_)))))))
      refine L_call (.plain rfl) rfl rfl (r_call Tryz.func12 rfl rfl rfl (by rfl)) (awake05_walk w0.heap.size _ (hL.nw Ch.au (by omega)) (by omega)) ?_
      rintro v43 w7 ⟨rfl, c7⟩
      have hz7 := c7.size
      refine L_r (r_mb rfl) ?_
      refine L_as (v := .bool _) (v' := .bool true) 44 rfl (congrArg Value.bool (by rfl)) ?_
      refine L_g (r_mi rfl) ?_
      refine L_g (r_mi rfl) ?_
      refine L_g (r_eql rfl rfl) (L_r (r_pt rfl rfl) (L_r (r_mb rfl) ?_))
      refine L_as (v := .bool _) (v' := .bool true) 49 rfl (dec_t (by exact hpe)).symm ?_
      refine L_g (r_mv) ?_
      refine L_g (r_mi rfl) ?_
      refine L_g (r_ix Tryz.underlying44 (show _ = some 8 from rfl) (by conv => lhs; whnf) rfl Sl.au) ?_
      refine L_g (r_loadSlrow (us := [.string x.p.name, .string x.p.super, x.vl, .bool x.p.ifc, .bool x.p.abs, .bool x.p.fin, x.vf, x.vm]) Tryz.underlying26 rfl rfl rfl rfl Sl.au (by exact hrow)) ?_
      refine L_call (.yes 6 true rfl rfl) rfl rfl (r_call Tryz.func13 rfl rfl rfl (by rfl)) (ccheck_walk w0.heap.size x _ (hL.nw Ch.au (by omega)) (by omega) (hxo.nw Ch.au) hxg.sz) ?_
      rintro v54 w8 ⟨rfl, c8⟩
      have hz8 := c8.size
      refine L_g (r_mi rfl) ?_
      refine L_g (r_eql rfl rfl) (L_r (r_pt rfl rfl) (L_r (r_ab rfl) (L_nil (W_ret ?_))))
      refine ret1 (v := .bool _) rfl rfl ?_
      refine ⟨?_, Ch.au⟩
      first
      | rfl
      | exact congrArg Value.bool (decide_eq_true rfl)
      | exact congrArg Value.bool (decide_eq_true hpe)
      | (refine congrArg Value.bool (decide_eq_true ?_)
         rw [(hq1 hpe).1, packB_flat, ← hB, sb_append, varL_low (by omega)])
     ·
      have hkx : checkCls x.p = 0 := Classical.not_not.1 h37
      obtain ⟨hle, hg1, hg2⟩ := hl1 hkx
      have hls := sb_size l
      refine W_skip (W_region (L_r (r_ms rfl) (L_r (r_mv) ?_)))
      refine L_r (r_bstr Tryz.underlying31 Tryz.underlying5 Tryz.underlying9 (by conv => lhs; whnf) Sl.au) ?_
      refine L_r (r_adds rfl rfl (by first | omega | (simp only [ByteArray.size_append]; omega))) (L_r (r_as rfl) (L_nil (W_region (L_r (r_mi rfl) ?_))))
      refine L_r (r_add rfl rfl (by first | exact wr_i64 (by omega) | rfl)) (L_r (r_ai rfl) (L_nil ?_))
      refine ⟨⟨fx2, trivial⟩, _, ?_, i + 1, B ++ l, rfl, (by refine congrArg Value.string ?_; rw [sb_append]), ?_, rfl⟩
      · omega
      refine ⟨by omega, by rw [List.take_succ_eq_append_getElem hil, List.flatMap_append, ← hB, ← hx, hle]; simp, fun j h hj => ?_, Ch.au⟩
      rcases Nat.lt_or_ge j i with h' | h'
      · exact hck j h h'
      ·
       have e : j = i := by omega
       subst e
       rw [← hx]; exact hkx
   ·
    have hie : i = z.length := by omega
    have hall : allC (z.map CC.p) = 0 := allC_0 fun c hcz => by { obtain ⟨y, hy, rfl⟩ := List.mem_map.1 hcz; obtain ⟨j, hj, rfl⟩ := List.mem_iff_getElem.1 hy; exact hck j hj (by omega) }
    have hpe : packE (z.map CC.p) = 0 := by unfold packE; rw [if_neg (by omega), hall]
    rw [hie, List.take_length] at hB
    refine W_exit ?_
    repeat (first | refine blk_hit ?_ | refine blk_miss rfl ?_)
    refine W_seq (W_region (L_r (r_mv) ?_))
    refine L_call (.plain rfl) rfl rfl (r_call Tryz.func24 rfl rfl rfl (by rfl)) (cpack2 w0.heap.size v z _ (hL.nw Ch.au (by omega)) (by omega) Sl.au (by omega) (fun c hcz => (hc c hcz).ok.nw Ch.au) (fun c hcz => (hc c hcz).sz) (fun c hcz => (hc c hcz).insN)) ?_
    rintro v64 w9 ⟨vq, lq, rfl, hvq, hlq, hq0, hq1, c9⟩
    have hz9 := c9.size
    refine L_r (r_mv) (L_r (r_ext2_0 rfl) (L_r (r_ext2_1 rfl) (L_r (r_av) (L_r (r_ai rfl) (L_nil (W_seq (W_region ?_)))))))
    refine L_call (.plain rfl) rfl rfl (r_call Tryz.func12 rfl rfl rfl (by rfl)) (awake05_walk w0.heap.size _ (hL.nw Ch.au (by omega)) (by omega)) ?_
    rintro v67 w10 ⟨rfl, c10⟩
    have hz10 := c10.size
    refine L_r (r_mb rfl) ?_
    refine L_as (v := .bool _) (v' := .bool true) 68 rfl (congrArg Value.bool (by rfl)) ?_
    refine L_g (r_mi rfl) ?_
    refine L_g (r_eql rfl rfl) (L_r (r_pt rfl rfl) (L_r (r_mb rfl) ?_))
    refine L_as (v := .bool _) (v' := .bool true) 72 rfl (dec_t (by exact hpe)).symm ?_
    refine L_g (r_mv) ?_
    refine L_g (r_bstr Tryz.underlying31 Tryz.underlying5 Tryz.underlying9 (by conv => lhs; whnf) Sl.au) ?_
    refine L_g (r_mv) ?_
    refine L_g (r_lenSl Tryz.underlying44 (by conv => lhs; whnf) Sl.au) ?_
    refine L_g (r_conv Tryz.underlying3 Tryz.underlying5 rfl (by first | exact wr_u8 (by omega) | rfl)) ?_
    refine L_build1 [.int _ _] Tryz.underlying31 rfl rfl rfl (.yes 5 true rfl rfl) rfl (by rfl) (by rfl) (by rfl) (fun b78 w11 hb78 hv78 eb11 hs11 c11 => ?_)
    have hby : By w11 (Value.slice (some ⟨b78, 0, none⟩) 1 1) [UInt8.ofNat z.length] := by
      have e1 : (UInt8.ofNat z.length).toNat = z.length := by rw [UInt8.toNat_ofNat']; omega
      have e : [Value.int .u8 (z.length : Int)] = [UInt8.ofNat z.length].map b8 := by
        show _ = [Value.int .u8 (((UInt8.ofNat z.length).toNat : Nat) : Int)]
        rw [e1]
      rw [e] at hv78
      exact hv78
    have hs1 : (sb [UInt8.ofNat z.length]).size = 1 := sb_size _
    refine L_g (r_bstr Tryz.underlying31 Tryz.underlying5 Tryz.underlying9 (by conv => lhs; whnf) Sl.au) ?_
    refine L_g (r_ms rfl) ?_
    refine L_g (r_adds rfl rfl (by first | omega | (simp only [ByteArray.size_append]; omega))) ?_
    refine L_g (r_eqls rfl rfl) (L_r (r_pt rfl rfl) (L_r (r_ab rfl) (L_nil (W_ret ?_))))
    refine ret1 (v := .bool _) rfl rfl ?_
    refine ⟨?_, Ch.au⟩
    first
    | rfl
    | exact congrArg Value.bool (decide_eq_true rfl)
    | exact congrArg Value.bool (decide_eq_true hpe)
    | (refine congrArg Value.bool (decide_eq_true ?_)
       rw [(hq1 hpe).1, packB_flat, ← hB, sb_append, varL_low (by omega)])
theorem ClassLists_walk (v : Value) (z : List CC) (w0 : World) (hz : Sl w0 v 8 z.length (cellsCC z) ∧ (∀ c ∈ z, cGood 140737488351232 w0 c) ∧ z.length ≤ 140737488351232) (hL : Gv w0.heap.size w0) : Does Tryz.prog 9 #[v] w0 (fun r w' => r = .bool true ∧ Nw w0 w') :=
  ClassLists_n v z w0 hz.1 hz.2.1 hz.2.2 hL
end Go.Proofs.YthpknpfhpkkheaaGreatDoor
