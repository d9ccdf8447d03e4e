/- Parts of the proof (Ref05q, Ref05s, Ref05t, ClsAw, ClsC, ClsL1, ClsArg). -/
import Derived.Test.YthpknpfhpkkheaaGreatDoorMGi
import Derived.LaidMore
import Derived.Lay
import Derived.Lib.LaidIn
import Derived.Lib.LaidU8T
import Derived.Lib.ValidU
import Derived.ProofKit
import Derived.Test.YthpknpfhpkkheaaGreatDoorCards
namespace Go.Proofs.YthpknpfhpkkheaaGreatDoor
open Go Go.RowKit
set_option linter.unusedVariables false
set_option linter.unusedSimpArgs false
set_option maxRecDepth 100000
theorem rcheck05_walk (c : CC) (w0 : World) (hc : c.ok w0) (hs : c.p.sz) : Does Tryz.prog 14 #[c.v] w0 (fun r w' => r = .int .i64 (checkCls c.p) ∧ Nw w0 w') := by
  have h1c := hc.one
  have hx := check_walk_aux c.p
  refine fn_of (n := 8) (args := [c.v]) Tryz.func14 rfl rfl rfl (W_seq (W_region ?_))
  refine L_new (.plain rfl) rfl rfl (r_boxa rfl) (fun w1 b1 hb1 eb1 hs1 c1 => (L_r (r_ai rfl) (L_nil (W_seq (W_seq (W_region ?_))))))
  refine L_r (r_loadrow Tryz.underlying26 rfl rfl Bk.au (by first | rfl | assumption)) ?_
  refine L_call (.plain rfl) rfl rfl (r_call Tryz.func28 rfl rfl rfl (by rfl)) (rmany05_walk c _ (hc.nw Ch.au) hs) ?_
  rintro v4 w2 ⟨rfl, c2⟩
  have hz2 := c2.size
  refine L_nil ?_
  refine W_bool rfl (fun h4 => ?_) (fun h4 => ?_)
  ·
   refine W_seq (W_region (L_r (r_ai rfl) (L_nil (W_ret ?_))))
   refine ret1 (v := .int _ _) rfl rfl ?_
   refine ⟨?_, Ch.au⟩
   (try simp only [decide_eq_true_eq, decide_eq_false_iff_not] at *)
   rcases hx with ⟨e, k⟩ | ⟨e, k, k2⟩ | ⟨e, k, k2⟩ <;> first | (rw [e]; done) | (exfalso; simp_all; done)
  ·
   refine W_skip (W_seq (W_seq (W_region ?_)))
   refine L_r (r_loadrow Tryz.underlying26 rfl rfl Bk.au (by first | rfl | assumption)) ?_
   refine L_call (.plain rfl) rfl rfl (r_call Tryz.func29 rfl rfl rfl (by rfl)) (rright05_walk c _ (hc.nw Ch.au) hs) ?_
   rintro v6 w3 ⟨rfl, c3⟩
   have hz3 := c3.size
   refine L_r (r_not rfl) (L_nil ?_)
   refine W_bool rfl (fun h7 => ?_) (fun h7 => ?_)
   ·
    refine W_seq (W_region (L_r (r_ai rfl) (L_nil (W_ret ?_))))
    refine ret1 (v := .int _ _) rfl rfl ?_
    refine ⟨?_, Ch.au⟩
    (try simp only [decide_eq_true_eq, decide_eq_false_iff_not] at *)
    rcases hx with ⟨e, k⟩ | ⟨e, k, k2⟩ | ⟨e, k, k2⟩ <;> first | (rw [e]; done) | (exfalso; simp_all; done)
   ·
    refine W_skip (W_seq (W_region (L_r (r_ai rfl) (L_nil (W_ret ?_)))))
    refine ret1 (v := .int _ _) rfl rfl ?_
    refine ⟨?_, Ch.au⟩
    (try simp only [decide_eq_true_eq, decide_eq_false_iff_not] at *)
    rcases hx with ⟨e, k⟩ | ⟨e, k, k2⟩ | ⟨e, k, k2⟩ <;> first | (rw [e]; done) | (exfalso; simp_all; done)
set_option maxHeartbeats 1000000 in
theorem rpack05_walk (v : Value) (z : List CC) (w0 : World) (hv : Sl w0 v 8 z.length (cellsCC z)) (hl : z.length ≤ 64) (hc : ∀ c ∈ z, c.ok w0) (hk : ∀ c ∈ z, checkCls c.p = 0) (hn : ∀ c ∈ z, insN c.p) : Does Tryz.prog 23 #[v] w0 (fun r w' => r = .string (sb (packB (z.map CC.p))) ∧ Nw w0 w') := by
  have hcl : ∀ c ∈ z, (clsB c.p).length ≤ 900000 := fun c hcz => by
    obtain ⟨hp, hf⟩ := check_0 (hk c hcz)
    exact clsB_le hp hf (hn c hcz)
  have hvn := varL_ten (v := z.length) (by omega)
  refine fn_of (n := 22) (args := [v]) Tryz.func23 rfl rfl rfl (W_seq (W_region (L_r (r_as rfl) (L_nil (W_seq (W_region (L_r (r_mv) ?_)))))))
  refine L_r (r_lenSl Tryz.underlying44 (by conv => lhs; whnf) Sl.au) ?_
  refine L_call (.plain rfl) rfl rfl (r_call Tryz.func39 rfl rfl rfl (by rfl)) (rnum05_walk z.length _ (by omega)) ?_
  rintro v7 w1 ⟨tn, rfl, htn, hln, c1⟩
  have hz1 := c1.size
  refine L_r (r_as rfl) (L_nil (W_seq (W_seq (W_region (L_r (r_ai rfl) (L_nil (W_block ?_)))))))
  refine W_loopF [0] (fun mz_ f W => ∃ (i : Nat) (B : List UInt8), f 4 = .int .i64 i ∧ f 3 = .string (sb B) ∧ (i ≤ z.length ∧ B = varL z.length ++ (z.take i).flatMap (fun c => clsB c.p) ∧ Nw w0 W) ∧ mz_ = z.length - i) ?_ ?_
  ·
   refine ⟨_, 0, varL z.length, rfl, (by refine congrArg Value.string ?_; rw [htn]), ?_, rfl⟩
   exact ⟨by omega, by simp, Ch.au⟩
  rintro m0 g0 w2 ⟨i, B, hf4, hf3, hR0, rfl⟩
  refine W_as 4 hf4 rfl ?_
  refine W_as 3 hf3 rfl ?_
  clear hf4 hf3
  obtain ⟨hi, hB, hnw⟩ := hR0
  have hz := hnw.size
  have hpl := flat_leL (fun c : CC => clsB c.p) 900000 (z.take i) (fun x hx => hcl x (List.mem_of_mem_take hx))
  rw [List.length_take] at hpl
  have hBl : B.length ≤ 60000000 := by rw [hB, List.length_append]; omega
  have hBs := sb_size B
  refine W_seq (W_seq (W_region (L_r (r_mi rfl) (L_r (r_mv) ?_))))
  refine L_r (r_lenSl Tryz.underlying44 (by conv => lhs; whnf) Sl.au) (L_r (r_lss rfl rfl) (L_nil ?_))
  refine W_if rfl (fun h11 => ?_) (fun h11 => ?_)
  ·
   have hil : i < z.length := by omega
   have hrow := cellsCC_row z i hil
   have hxm := List.getElem_mem hil
   obtain ⟨x, hx⟩ : ∃ x, x = z[i] := ⟨_, rfl⟩
   rw [← hx] at hrow hxm
   have hxo := hc x hxm
   have h1x := hxo.one
   obtain ⟨hp, hf⟩ := check_0 (hk x hxm)
   have hxl := hcl x hxm
   have hxs := sb_size (clsB x.p)
   refine W_skip (W_seq (W_block (W_region (L_r (r_ms rfl) (L_r (r_mv) (L_r (r_mi rfl) ?_))))))
   refine L_r (r_ix Tryz.underlying44 (show _ = some 8 from rfl) (by conv => lhs; whnf) rfl Sl.au) ?_
   refine L_r (r_loadSlrow (us := [.string x.p.name, .string x.p.super, x.vl, .bool x.p.ifc, .bool x.p.abs, .bool x.p.fin, x.vf, x.vm]) Tryz.underlying26 rfl rfl rfl rfl Sl.au (by exact hrow)) ?_
   refine L_call (.plain rfl) rfl rfl (r_call Tryz.func17 rfl rfl rfl (by rfl)) (rput05_walk x _ (hxo.nw Ch.au) hp hf (hn x hxm)) ?_
   rintro v19 w3 ⟨rfl, c3⟩
   have hz3 := c3.size
   refine L_r (r_adds rfl rfl (by first | omega | (simp only [ByteArray.size_append]; omega))) (L_r (r_as rfl) (L_nil (W_region (L_r (r_mi rfl) ?_))))
   refine L_r (r_add rfl rfl (by first | exact wr_i64 (by omega) | rfl)) (L_r (r_ai rfl) (L_nil ?_))
   refine ⟨⟨fx2, trivial⟩, _, ?_, i + 1, B ++ clsB x.p, rfl, (by refine congrArg Value.string ?_; rw [sb_append]), ?_, rfl⟩
   · omega
   exact ⟨by omega, by rw [List.take_succ_eq_append_getElem hil, List.flatMap_append, ← List.append_assoc, ← hB, ← hx]; simp, Ch.au⟩
  ·
   refine W_exit ?_
   repeat (first | refine blk_hit ?_ | refine blk_miss rfl ?_)
   refine W_seq (W_region (L_r (r_ms rfl) (L_r (r_as rfl) (L_nil (W_ret ?_)))))
   refine ret1 (v := .string _) rfl rfl ?_
   refine ⟨?_, Ch.au⟩
   rw [hB, show i = z.length by omega, List.take_length]
   unfold packB
   rw [List.length_map, List.flatMap_map]
set_option maxHeartbeats 1000000 in
theorem stexts_walk (va vb : Value) (x y : List ByteArray) (w0 : World) (hva : Sl w0 va 1 x.length (scells x)) (hvb : Sl w0 vb 1 y.length (scells y)) (hl : x.length ≤ 1000000000000000) (hl2 : y.length ≤ 1000000000000000) : Does Tryz.prog 41 #[va, vb] w0 (fun r w' => ∃ b : Bool, r = .bool b ∧ (b = true ↔ x = y) ∧ Nw w0 w') := by
  refine fn_of (n := 26) (args := [va, vb]) Tryz.func41 rfl rfl rfl (W_seq (W_region (L_r (r_ab rfl) (L_nil (W_seq (W_seq (W_region (L_r (r_mv) ?_))))))))
  refine L_r (r_lenSl Tryz.underlying22 (by conv => lhs; whnf) Sl.au) (L_r (r_mv) ?_)
  refine L_r (r_lenSl Tryz.underlying22 (by conv => lhs; whnf) Sl.au) (L_r (r_neq rfl rfl) (L_nil ?_))
  refine W_if rfl (fun h10 => ?_) (fun h10 => ?_)
  ·
   refine W_seq (W_region (L_r (r_ab rfl) (L_nil (W_ret ?_))))
   refine ret1 (v := .bool _) rfl rfl ?_
   first
   | exact ⟨true, rfl, ⟨fun _ => List.ext_getElem (by omega) fun j h1 h2 => hn j h1 h2 (by omega), fun _ => rfl⟩, Ch.au⟩
   | exact ⟨false, rfl, ⟨fun h => absurd h (by decide), fun e => by subst e; omega⟩, Ch.au⟩
   | (have hpq : p ≠ q := by first | exact h25 | simpa using h25
      exact ⟨false, rfl, ⟨fun h => absurd h (by decide), fun e => absurd (by subst e; rw [hp, hq]) hpq⟩, Ch.au⟩)
  ·
   refine W_skip (W_seq (W_seq (W_region (L_r (r_ai rfl) (L_nil (W_block ?_))))))
   refine W_loopF [0, 1] (fun mz_ f W => ∃ (i : Nat), f 5 = .int .i64 i ∧ (i ≤ x.length ∧ (∀ j (h1 : j < x.length) (h2 : j < y.length), j < i → x[j] = y[j]) ∧ Nw w0 W) ∧ mz_ = x.length - i) ?_ ?_
   ·
    refine ⟨_, 0, rfl, ?_, rfl⟩
    exact ⟨by omega, fun j h1 h2 hji => absurd hji (by omega), Ch.au⟩
   rintro m0 g0 w1 ⟨i, hf5, hR0, rfl⟩
   refine W_as 5 hf5 rfl ?_
   clear hf5
   obtain ⟨hi, hn, hnw⟩ := hR0
   have hz := hnw.size
   refine W_seq (W_seq (W_region (L_r (r_mi rfl) (L_r (r_mv) ?_))))
   refine L_r (r_lenSl Tryz.underlying22 (by conv => lhs; whnf) Sl.au) (L_r (r_lss rfl rfl) (L_nil ?_))
   refine W_if rfl (fun h14 => ?_) (fun h14 => ?_)
   ·
    have hil : i < x.length := by omega
    have hil2 : i < y.length := by omega
    have hrp := scells_get x i hil
    have hrq := scells_get y i hil2
    obtain ⟨p, hp⟩ : ∃ p, p = x[i] := ⟨_, rfl⟩
    obtain ⟨q, hq⟩ : ∃ q, q = y[i] := ⟨_, rfl⟩
    rw [← hp] at hrp
    rw [← hq] at hrq
    refine W_skip (W_seq (W_block (W_seq ?_)))
    refine W_draw (fun W => Sl W va 1 x.length (scells x) ∧ Sl W vb 1 y.length (scells y)) 9 (m := 9) (by kernel_rfl) rfl (fun w2 c2 hs2 => ?_)
    refine held (by exact ⟨Sl.au, Sl.au⟩) (fun hS => ?_)
    refine D_t 0 rfl (fun W hW => r_mv) ?_
    refine D_t 1 rfl (fun W hW => r_mi rfl) ?_
    refine D_t 2 rfl (fun W hW => r_ix Tryz.underlying22 (show _ = some 1 from rfl) (by conv => lhs; whnf) rfl (by first | exact hW.1 | exact hW.2)) ?_
    refine D_t 3 rfl (fun W hW => r_loadSl rfl rfl (by first | exact hW.1 | exact hW.2) (by first | exact hrp | exact hrq)) ?_
    refine D_t 4 rfl (fun W hW => r_mv) ?_
    refine D_t 5 rfl (fun W hW => r_mi rfl) ?_
    refine D_t 6 rfl (fun W hW => r_ix Tryz.underlying22 (show _ = some 1 from rfl) (by conv => lhs; whnf) rfl (by first | exact hW.1 | exact hW.2)) ?_
    refine D_t 7 rfl (fun W hW => r_loadSl rfl rfl (by first | exact hW.1 | exact hW.2) (by first | exact hrp | exact hrq)) ?_
    refine D_t 8 rfl (fun W hW => r_neqs rfl rfl) ?_
    refine D_done (by kernel_rfl) ?_
    refine W_if rfl (fun h25 => ?_) (fun h25 => ?_)
    ·
     refine W_seq (W_region (L_r (r_ab rfl) (L_nil (W_ret ?_))))
     refine ret1 (v := .bool _) rfl rfl ?_
     first
     | exact ⟨true, rfl, ⟨fun _ => List.ext_getElem (by omega) fun j h1 h2 => hn j h1 h2 (by omega), fun _ => rfl⟩, Ch.au⟩
     | exact ⟨false, rfl, ⟨fun h => absurd h (by decide), fun e => by subst e; omega⟩, Ch.au⟩
     | (have hpq : p ≠ q := by first | exact h25 | simpa using h25
        exact ⟨false, rfl, ⟨fun h => absurd h (by decide), fun e => absurd (by subst e; rw [hp, hq]) hpq⟩, Ch.au⟩)
    ·
     refine W_skip (W_region (L_r (r_mi rfl) ?_))
     refine L_r (r_add rfl rfl (by first | exact wr_i64 (by omega) | rfl)) (L_r (r_ai rfl) (L_nil ?_))
     refine ⟨⟨fx2, fx2, trivial⟩, _, ?_, i + 1, rfl, ?_, rfl⟩
     · omega
     have hpq : p = q := by first | exact h25 | exact Classical.not_not.1 h25 | simpa using h25
     refine ⟨by omega, fun j h1 h2 hji => ?_, Ch.au⟩
     rcases Nat.lt_or_ge j i with h | h
     · exact hn j h1 h2 h
     ·
      have e : j = i := by omega
      subst e
      rw [← hp, ← hq]; exact hpq
   ·
    refine W_exit ?_
    repeat (first | refine blk_hit ?_ | refine blk_miss rfl ?_)
    refine W_seq (W_region (L_r (r_ab rfl) (L_nil (W_ret ?_))))
    refine ret1 (v := .bool _) rfl rfl ?_
    first
    | exact ⟨true, rfl, ⟨fun _ => List.ext_getElem (by omega) fun j h1 h2 => hn j h1 h2 (by omega), fun _ => rfl⟩, Ch.au⟩
    | exact ⟨false, rfl, ⟨fun h => absurd h (by decide), fun e => by subst e; omega⟩, Ch.au⟩
    | (have hpq : p ≠ q := by first | exact h25 | simpa using h25
       exact ⟨false, rfl, ⟨fun h => absurd h (by decide), fun e => absurd (by subst e; rw [hp, hq]) hpq⟩, Ch.au⟩)
set_option maxHeartbeats 2000000 in
theorem rsamem_walk (x y : MM) (w0 : World) (hx : x.ok w0) (hy : y.ok w0) (hs : x.m.sz) (ht : y.m.sz) : Does Tryz.prog 42 #[x.v, y.v] w0 (fun r w' => ∃ b : Bool, r = .bool b ∧ (b = true ↔ x.m = y.m) ∧ Nw w0 w') := by
  have h1x := hx.one
  have h1y := hy.one
  have hxw := fun W (c : Nw w0 W) => hx.nw c
  have hyw := fun W (c : Nw w0 W) => hy.nw c
  have key := mth_iff x.m y.m
  have hl1 := hs.lp
  have hl2 := hs.lc
  have hl3 := hs.lk
  have hm1 := ht.lp
  have hm2 := ht.lc
  have hm3 := ht.lk
  have hxk := hx.k
  have hyk := hy.k
  obtain ⟨bcode, hbcode⟩ : ∃ b : Bool, b = true ↔ x.m.code = y.m.code := by { classical exact ⟨decide (x.m.code = y.m.code), by simp⟩ }
  rw [← hbcode] at key
  refine fn_of (n := 75) (args := [x.v, y.v]) Tryz.func42 rfl rfl rfl (W_seq (W_region ?_))
  refine L_new (.plain rfl) rfl rfl (r_boxa rfl) (fun w1 b2 hb2 eb1 hs1 c1 => ?_)
  refine L_new (.plain rfl) rfl rfl (r_boxa rfl) (fun w2 b3 hb3 eb2 hs2 c2 => (L_r (r_ab rfl) (L_nil (W_seq ?_))))
  refine W_cutF [2, 3] (fun f W => f 56 = .bool (decide (¬ (x.m.name = y.m.name ∧ x.m.result = y.m.result ∧ x.m.abs = y.m.abs ∧ x.m.locals = y.m.locals ∧ x.m.params = y.m.params ∧ bcode = true ∧ (x.m.cats.length : Int) = y.m.cats.length))) ∧ (Bk W b2 #[.string x.m.name, x.vp, .string x.m.result, .bool x.m.abs, .int .i64 x.m.locals, x.vc, x.vk] 43 ∧ Bk W b3 #[.string y.m.name, y.vp, .string y.m.result, .bool y.m.abs, .int .i64 y.m.locals, y.vc, y.vk] 43 ∧ Nw w0 W)) ?_ ?_
  ·
   refine W_region ?_
   refine L_r (r_fieldb Tryz.underlying43 rfl (show _ = some 1 from rfl) rfl rfl (show _ = 0 from rfl)) (L_r (r_lb rfl rfl) ?_)
   refine L_r (r_fieldb Tryz.underlying43 rfl (show _ = some 1 from rfl) rfl rfl (show _ = 0 from rfl)) (L_r (r_lb rfl rfl) (L_r (r_neqs rfl rfl) (L_r (r_mb rfl) ?_)))
   refine L_case (d := 11) rfl (fun h11 => ?_) (fun h11 => ?_)
   ·
    refine L_ps (L_ps (L_ps (L_ps (L_ps (L_r (r_pt rfl rfl) (L_r (r_mb rfl) (L_ps (L_ps ?_))))))))
    refine L_ps (L_ps (L_ps (L_r (r_pt rfl rfl) (L_r (r_mb rfl) (L_ps (L_ps (L_ps (L_ps ?_))))))))
    refine L_ps (L_r (r_pt rfl rfl) (L_r (r_mb rfl) (L_ps (L_ps (L_ps (L_ps (L_ps (L_ps ?_))))))))
    refine L_r (r_pt rfl rfl) (L_r (r_mb rfl) (L_ps (L_ps (L_ps (L_ps (L_ps (L_ps (L_r (r_pt rfl rfl) ?_))))))))
    refine L_r (r_mb rfl) (L_ps (L_ps (L_ps (L_ps (L_ps (L_ps (L_ps (L_r (r_pt rfl rfl) ?_))))))))
    refine L_nil ?_
    refine ⟨⟨fx2, fx2, trivial⟩, (dec_t (by clear key hbcode; simp_all)), ?_⟩
    exact ⟨Bk.au, Bk.au, Ch.au⟩
   ·
    refine L_g (r_fieldb Tryz.underlying43 rfl (show _ = some 1 from rfl) rfl rfl (show _ = 2 from rfl)) ?_
    refine L_g (r_lb rfl rfl) ?_
    refine L_g (r_fieldb Tryz.underlying43 rfl (show _ = some 1 from rfl) rfl rfl (show _ = 2 from rfl)) ?_
    refine L_g (r_lb rfl rfl) ?_
    refine L_g (r_neqs rfl rfl) (L_r (r_pf rfl rfl) (L_r (r_mb rfl) ?_))
    refine L_case (d := 18) rfl (fun h18 => ?_) (fun h18 => ?_)
    ·
     refine L_ps (L_ps (L_ps (L_ps (L_ps (L_r (r_pt rfl rfl) (L_r (r_mb rfl) (L_ps (L_ps ?_))))))))
     refine L_ps (L_ps (L_ps (L_r (r_pt rfl rfl) (L_r (r_mb rfl) (L_ps (L_ps (L_ps (L_ps ?_))))))))
     refine L_ps (L_ps (L_r (r_pt rfl rfl) (L_r (r_mb rfl) (L_ps (L_ps (L_ps (L_ps (L_ps ?_))))))))
     refine L_ps (L_r (r_pt rfl rfl) (L_r (r_mb rfl) (L_ps (L_ps (L_ps (L_ps (L_ps (L_ps ?_))))))))
     refine L_ps (L_r (r_pt rfl rfl) (L_nil ?_))
     refine ⟨⟨fx2, fx2, trivial⟩, (dec_t (by clear key hbcode; simp_all)), ?_⟩
     exact ⟨Bk.au, Bk.au, Ch.au⟩
    ·
     refine L_g (r_fieldb Tryz.underlying43 rfl (show _ = some 1 from rfl) rfl rfl (show _ = 3 from rfl)) ?_
     refine L_g (r_lb rfl rfl) ?_
     refine L_g (r_fieldb Tryz.underlying43 rfl (show _ = some 1 from rfl) rfl rfl (show _ = 3 from rfl)) ?_
     refine L_g (r_lb rfl rfl) ?_
     refine L_g (r_neqb Tryz.underlying4 rfl rfl) (L_r (r_pf rfl rfl) (L_r (r_mb rfl) ?_))
     refine L_case (d := 25) rfl (fun h25 => ?_) (fun h25 => ?_)
     ·
      refine L_ps (L_ps (L_ps (L_ps (L_ps (L_r (r_pt rfl rfl) (L_r (r_mb rfl) (L_ps (L_ps ?_))))))))
      refine L_ps (L_ps (L_ps (L_ps (L_r (r_pt rfl rfl) (L_r (r_mb rfl) (L_ps (L_ps (L_ps ?_))))))))
      refine L_ps (L_ps (L_ps (L_r (r_pt rfl rfl) (L_r (r_mb rfl) (L_ps (L_ps (L_ps (L_ps ?_))))))))
      refine L_ps (L_ps (L_ps (L_r (r_pt rfl rfl) (L_nil ?_))))
      refine ⟨⟨fx2, fx2, trivial⟩, (dec_t (by clear key hbcode; simp_all)), ?_⟩
      exact ⟨Bk.au, Bk.au, Ch.au⟩
     ·
      refine L_g (r_fieldb Tryz.underlying43 rfl (show _ = some 1 from rfl) rfl rfl (show _ = 4 from rfl)) ?_
      refine L_g (r_lb rfl rfl) ?_
      refine L_g (r_fieldb Tryz.underlying43 rfl (show _ = some 1 from rfl) rfl rfl (show _ = 4 from rfl)) ?_
      refine L_g (r_lb rfl rfl) ?_
      refine L_g (r_neq rfl rfl) (L_r (r_pf rfl rfl) (L_r (r_mb rfl) ?_))
      refine L_case (d := 32) rfl (fun h32 => ?_) (fun h32 => ?_)
      ·
       refine L_ps (L_ps (L_ps (L_ps (L_ps (L_ps (L_r (r_pt rfl rfl) (L_r (r_mb rfl) (L_ps ?_))))))))
       refine L_ps (L_ps (L_ps (L_ps (L_ps (L_r (r_pt rfl rfl) (L_r (r_mb rfl) (L_ps (L_ps ?_))))))))
       refine L_ps (L_ps (L_ps (L_ps (L_ps (L_r (r_pt rfl rfl) (L_nil ?_))))))
       refine ⟨⟨fx2, fx2, trivial⟩, (dec_t (by clear key hbcode; simp_all)), ?_⟩
       exact ⟨Bk.au, Bk.au, Ch.au⟩
      ·
       refine L_g (r_fieldb Tryz.underlying43 rfl (show _ = some 1 from rfl) rfl rfl (show _ = 1 from rfl)) ?_
       refine L_g (r_lb rfl rfl) ?_
       refine L_g (r_fieldb Tryz.underlying43 rfl (show _ = some 1 from rfl) rfl rfl (show _ = 1 from rfl)) ?_
       refine L_g (r_lb rfl rfl) ?_
       refine L_call (.yes 26 false rfl rfl) rfl rfl (r_call Tryz.func41 rfl rfl rfl (by rfl)) (stexts_walk x.vp y.vp x.m.params y.m.params _ (hxw _ Ch.au).p (hyw _ Ch.au).p hl1 hm1) ?_
       rintro v37 w3 ⟨bp, rfl, hbp, c3⟩
       have hz3 := c3.size
       refine L_g (r_not rfl) (L_r (r_pf rfl rfl) (L_r (r_mb rfl) ?_))
       refine L_caseb (d := 40) rfl (fun h40 => ?_) (fun h40 => ?_)
       ·
        refine L_ps (L_ps (L_ps (L_ps (L_ps (L_ps (L_r (r_pt rfl rfl) (L_r (r_mb rfl) (L_ps ?_))))))))
        refine L_ps (L_ps (L_ps (L_ps (L_ps (L_ps (L_r (r_pt rfl rfl) (L_nil ?_)))))))
        refine ⟨⟨fx2, fx2, trivial⟩, (dec_t (by clear key hbcode; simp_all)), ?_⟩
        exact ⟨Bk.au, Bk.au, Ch.au⟩
       ·
        refine L_g (r_fieldb Tryz.underlying43 rfl (show _ = some 1 from rfl) rfl rfl (show _ = 5 from rfl)) ?_
        refine L_g (r_lb rfl rfl) ?_
        refine L_g (r_fieldb Tryz.underlying43 rfl (show _ = some 1 from rfl) rfl rfl (show _ = 5 from rfl)) ?_
        refine L_g (r_lb rfl rfl) ?_
        refine L_call (.yes 34 false rfl rfl) rfl rfl (r_call Tryz.func104 rfl rfl rfl (by rfl)) (rsame04_walk x.vc x.m.code y.vc y.m.code _ (hxw _ Ch.au).c (hyw _ Ch.au).c hl2) ?_
        rintro v45 w4 ⟨bc, rfl, hbc, c4⟩
        have hz4 := c4.size
        rw [← hbcode] at hbc
        refine L_g (r_not rfl) (L_r (r_pf rfl rfl) (L_r (r_mb rfl) ?_))
        refine L_caseb (d := 48) rfl (fun h48 => ?_) (fun h48 => ?_)
        ·
         refine L_ps (L_ps (L_ps (L_ps (L_ps (L_ps (L_ps (L_r (r_pt rfl rfl) (L_nil ?_))))))))
         refine ⟨⟨fx2, fx2, trivial⟩, (dec_t (by clear key hbcode; simp_all)), ?_⟩
         exact ⟨Bk.au, Bk.au, Ch.au⟩
        ·
         refine L_g (r_fieldb Tryz.underlying43 rfl (show _ = some 1 from rfl) rfl rfl (show _ = 6 from rfl)) ?_
         refine L_g (r_lb rfl rfl) ?_
         refine L_g (r_lenSl Tryz.underlying41 (by conv => lhs; whnf) Sl.au) ?_
         refine L_g (r_fieldb Tryz.underlying43 rfl (show _ = some 1 from rfl) rfl rfl (show _ = 6 from rfl)) ?_
         refine L_g (r_lb rfl rfl) ?_
         refine L_g (r_lenSl Tryz.underlying41 (by conv => lhs; whnf) Sl.au) ?_
         refine L_g (r_neq rfl rfl) (L_r (r_pf rfl rfl) (L_nil ?_))
         refine ⟨⟨fx2, fx2, trivial⟩, (dec_i (by clear key hbcode; simp_all)), ?_⟩
         exact ⟨Bk.au, Bk.au, Ch.au⟩
  rintro gcr1 w5 ⟨hf56, hCr1⟩
  refine W_as 56 hf56 rfl ?_
  clear hf56
  obtain ⟨hb2, hb3, hnw1⟩ := hCr1
  have hz1 := hnw1.size
  refine W_if rfl (fun h56 => ?_) (fun h56 => ?_)
  ·
   refine W_seq (W_region (L_r (r_ab rfl) (L_nil (W_ret ?_))))
   refine ret1 (v := .bool _) rfl rfl ?_
   first
   | (refine ⟨true, rfl, ⟨fun _ => key.2 ⟨hall.1, hall.2.1, hall.2.2.1, hall.2.2.2.1, hall.2.2.2.2.1, hall.2.2.2.2.2.1, List.ext_getElem (by omega) fun j h1 h2 => hn j h1 h2 (by omega)⟩, fun _ => rfl⟩, Ch.au⟩)
   | exact ⟨false, rfl, ⟨fun h => absurd h (by decide), fun e => absurd (by have k := key.1 e; exact ⟨k.1, k.2.1, k.2.2.1, k.2.2.2.1, k.2.2.2.2.1, k.2.2.2.2.2.1, by rw [k.2.2.2.2.2.2]⟩) h56⟩, Ch.au⟩
   | (have hpq : p ≠ q := by { intro e; subst e; first | exact h74 (by simp) | simp at h74 }
      refine ⟨false, rfl, ⟨fun h => absurd h (by decide), fun e => absurd ?_ hpq⟩, Ch.au⟩
      have k := (key.1 e).2.2.2.2.2.2
      rw [hp, hq]
      simp only [k])
  ·
   have hall := Classical.not_not.1 h56
   have hlen := hall.2.2.2.2.2.2
   refine W_skip (W_seq (W_seq (W_region (L_r (r_ai rfl) (L_nil (W_block ?_))))))
   refine W_loopF [2, 3] (fun mz_ f W => ∃ (i : Nat), f 5 = .int .i64 i ∧ (i ≤ x.m.cats.length ∧ (∀ j (h1 : j < x.m.cats.length) (h2 : j < y.m.cats.length), j < i → x.m.cats[j] = y.m.cats[j]) ∧ Nw w0 W ∧ Bk W b2 #[.string x.m.name, x.vp, .string x.m.result, .bool x.m.abs, .int .i64 x.m.locals, x.vc, x.vk] 43 ∧ Bk W b3 #[.string y.m.name, y.vp, .string y.m.result, .bool y.m.abs, .int .i64 y.m.locals, y.vc, y.vk] 43) ∧ mz_ = x.m.cats.length - i) ?_ ?_
   ·
    refine ⟨_, 0, rfl, ?_, rfl⟩
    exact ⟨by omega, fun j h1 h2 hji => absurd hji (by omega), Ch.au, Bk.au, Bk.au⟩
   rintro m0 g0 w6 ⟨i, hf5, hR0, rfl⟩
   refine W_as 5 hf5 rfl ?_
   clear hf5
   obtain ⟨hi, hn, hnw, hb2i, hb3i⟩ := hR0
   have hz := hnw.size
   refine W_seq (W_seq (W_region (L_r (r_mi rfl) ?_)))
   refine L_r (r_fieldb Tryz.underlying43 rfl (show _ = some 1 from rfl) rfl rfl (show _ = 6 from rfl)) (L_r (r_lb rfl rfl) ?_)
   refine L_r (r_lenSl Tryz.underlying41 (by conv => lhs; whnf) Sl.au) (L_r (r_lss rfl rfl) (L_nil ?_))
   refine W_if rfl (fun h61 => ?_) (fun h61 => ?_)
   ·
    have hil : i < x.m.cats.length := by omega
    have hil2 : i < y.m.cats.length := by omega
    have hrp := cellsCK_row x.m.cats i hil
    have hrq := cellsCK_row y.m.cats i hil2
    obtain ⟨p, hp⟩ : ∃ p, p = x.m.cats[i] := ⟨_, rfl⟩
    obtain ⟨q, hq⟩ : ∃ q, q = y.m.cats[i] := ⟨_, rfl⟩
    rw [← hp] at hrp
    rw [← hq] at hrq
    refine W_skip (W_seq (W_block (W_seq ?_)))
    refine W_draw (fun W => Bk W b2 #[.string x.m.name, x.vp, .string x.m.result, .bool x.m.abs, .int .i64 x.m.locals, x.vc, x.vk] 43 ∧ Bk W b3 #[.string y.m.name, y.vp, .string y.m.result, .bool y.m.abs, .int .i64 y.m.locals, y.vc, y.vk] 43 ∧ Sl W x.vk 4 x.m.cats.length (cellsCK x.m.cats) ∧ Sl W y.vk 4 y.m.cats.length (cellsCK y.m.cats)) 11 (m := 11) (by kernel_rfl) rfl (fun w7 c7 hs7 => ?_)
    refine held (by exact ⟨Bk.au, Bk.au, Sl.au, Sl.au⟩) (fun hS => ?_)
    refine D_t 0 rfl (fun W hW => r_fieldb Tryz.underlying43 rfl (show _ = some 1 from rfl) rfl rfl (show _ = 6 from rfl)) ?_
    refine D_t 1 rfl (fun W hW => r_loadb rfl rfl (by first | exact hW.1 | exact hW.2.1 | exact hW.2.2.1 | exact hW.2.2.2) (by first | assumption | (conv => lhs; simp only [List.getElem?_toArray, List.getElem?_cons_succ, List.getElem?_cons_zero]))) ?_
    refine D_t 2 rfl (fun W hW => r_mi rfl) ?_
    refine D_t 3 rfl (fun W hW => r_ix Tryz.underlying41 (show _ = some 4 from rfl) (by conv => lhs; whnf) rfl (by first | exact hW.1 | exact hW.2.1 | exact hW.2.2.1 | exact hW.2.2.2)) ?_
    refine D_t 4 rfl (fun W hW => r_loadSlrow (us := [.int .i64 p.fr, .int .i64 p.tt, .int .i64 p.aa, .string p.cls]) Tryz.underlying70 rfl rfl rfl rfl (by first | exact hW.1 | exact hW.2.1 | exact hW.2.2.1 | exact hW.2.2.2) (by exact hrp)) ?_
    refine D_t 5 rfl (fun W hW => r_fieldb Tryz.underlying43 rfl (show _ = some 1 from rfl) rfl rfl (show _ = 6 from rfl)) ?_
    refine D_t 6 rfl (fun W hW => r_loadb rfl rfl (by first | exact hW.1 | exact hW.2.1 | exact hW.2.2.1 | exact hW.2.2.2) (by first | assumption | (conv => lhs; simp only [List.getElem?_toArray, List.getElem?_cons_succ, List.getElem?_cons_zero]))) ?_
    refine D_t 7 rfl (fun W hW => r_mi rfl) ?_
    refine D_t 8 rfl (fun W hW => r_ix Tryz.underlying41 (show _ = some 4 from rfl) (by conv => lhs; whnf) rfl (by first | exact hW.1 | exact hW.2.1 | exact hW.2.2.1 | exact hW.2.2.2)) ?_
    refine D_t 9 rfl (fun W hW => r_loadSlrow (us := [.int .i64 q.fr, .int .i64 q.tt, .int .i64 q.aa, .string q.cls]) Tryz.underlying70 rfl rfl rfl rfl (by first | exact hW.1 | exact hW.2.1 | exact hW.2.2.1 | exact hW.2.2.2) (by exact hrq)) ?_
    refine D_t 10 rfl (fun W hW => r_neqR (xs := #[.int _ _, .int _ _, .int _ _, .string _]) (ys := #[.int _ _, .int _ _, .int _ _, .string _]) rfl rfl (by kernel_rfl) (eqCat _ _ _ _ _ _ _ _ _)) ?_
    refine D_done (by kernel_rfl) ?_
    refine W_if rfl (fun h74 => ?_) (fun h74 => ?_)
    ·
     refine W_seq (W_region (L_r (r_ab rfl) (L_nil (W_ret ?_))))
     refine ret1 (v := .bool _) rfl rfl ?_
     first
     | (refine ⟨true, rfl, ⟨fun _ => key.2 ⟨hall.1, hall.2.1, hall.2.2.1, hall.2.2.2.1, hall.2.2.2.2.1, hall.2.2.2.2.2.1, List.ext_getElem (by omega) fun j h1 h2 => hn j h1 h2 (by omega)⟩, fun _ => rfl⟩, Ch.au⟩)
     | exact ⟨false, rfl, ⟨fun h => absurd h (by decide), fun e => absurd (by have k := key.1 e; exact ⟨k.1, k.2.1, k.2.2.1, k.2.2.2.1, k.2.2.2.2.1, k.2.2.2.2.2.1, by rw [k.2.2.2.2.2.2]⟩) h56⟩, Ch.au⟩
     | (have hpq : p ≠ q := by { intro e; subst e; first | exact h74 (by simp) | simp at h74 }
        refine ⟨false, rfl, ⟨fun h => absurd h (by decide), fun e => absurd ?_ hpq⟩, Ch.au⟩
        have k := (key.1 e).2.2.2.2.2.2
        rw [hp, hq]
        simp only [k])
    ·
     refine W_skip (W_region (L_r (r_mi rfl) ?_))
     refine L_r (r_add rfl rfl (by first | exact wr_i64 (by omega) | rfl)) (L_r (r_ai rfl) (L_nil ?_))
     refine ⟨⟨fx2, fx2, trivial⟩, _, ?_, i + 1, rfl, ?_, rfl⟩
     · omega
     have hpq : p = q := by { have h : p.fr = q.fr ∧ p.tt = q.tt ∧ p.aa = q.aa ∧ p.cls = q.cls := by { first | exact h74 | exact Classical.not_not.1 h74 | simpa using h74 }; cases p; cases q; simp_all }
     refine ⟨by omega, fun j h1 h2 hji => ?_, Ch.au, Bk.au, Bk.au⟩
     rcases Nat.lt_or_ge j i with h | h
     · exact hn j h1 h2 h
     ·
      have e : j = i := by omega
      subst e
      rw [← hp, ← hq]; exact hpq
   ·
    refine W_exit ?_
    repeat (first | refine blk_hit ?_ | refine blk_miss rfl ?_)
    refine W_seq (W_region (L_r (r_ab rfl) (L_nil (W_ret ?_))))
    refine ret1 (v := .bool _) rfl rfl ?_
    first
    | (refine ⟨true, rfl, ⟨fun _ => key.2 ⟨hall.1, hall.2.1, hall.2.2.1, hall.2.2.2.1, hall.2.2.2.2.1, hall.2.2.2.2.2.1, List.ext_getElem (by omega) fun j h1 h2 => hn j h1 h2 (by omega)⟩, fun _ => rfl⟩, Ch.au⟩)
    | exact ⟨false, rfl, ⟨fun h => absurd h (by decide), fun e => absurd (by have k := key.1 e; exact ⟨k.1, k.2.1, k.2.2.1, k.2.2.2.1, k.2.2.2.2.1, k.2.2.2.2.2.1, by rw [k.2.2.2.2.2.2]⟩) h56⟩, Ch.au⟩
    | (have hpq : p ≠ q := by { intro e; subst e; first | exact h74 (by simp) | simp at h74 }
       refine ⟨false, rfl, ⟨fun h => absurd h (by decide), fun e => absurd ?_ hpq⟩, Ch.au⟩
       have k := (key.1 e).2.2.2.2.2.2
       rw [hp, hq]
       simp only [k])
end Go.Proofs.YthpknpfhpkkheaaGreatDoor

namespace Go.Proofs.YthpknpfhpkkheaaGreatDoor
open Go Go.RowKit
set_option linter.unusedVariables false
set_option linter.unusedSimpArgs false
set_option maxRecDepth 100000
set_option maxHeartbeats 4000000 in
theorem rsame05_walk (x y : CC) (w0 : World) (hx : x.ok w0) (hy : y.ok w0) (hs : x.p.sz) (ht : y.p.sz) : Does Tryz.prog 18 #[x.v, y.v] w0 (fun r w' => ∃ b : Bool, r = .bool b ∧ (b = true ↔ x.p = y.p) ∧ Nw w0 w') := by
  have h1x := hx.one
  have h1y := hy.one
  have hxw := fun W (c : Nw w0 W) => hx.nw c
  have hyw := fun W (c : Nw w0 W) => hy.nw c
  have key := cls_eq x.p y.p
  have hql := q_len hx
  have hqm := q_len hy
  have hl1 := hs.ll
  have hl2 := hs.lf
  have hl3 := hs.lm
  have hm1 := ht.ll
  have hm2 := ht.lf
  have hm3 := ht.lm
  have hxf := hx.f
  have hyf := hy.f
  have hxm := hx.m
  have hym := hy.m
  refine fn_of (n := 103) (args := [x.v, y.v]) Tryz.func18 rfl rfl rfl (W_seq (W_region ?_))
  refine L_new (.plain rfl) rfl rfl (r_boxa rfl) (fun w1 b2 hb2 eb1 hs1 c1 => ?_)
  refine L_new (.plain rfl) rfl rfl (r_boxa rfl) (fun w2 b3 hb3 eb2 hs2 c2 => (L_r (r_ab rfl) (L_nil (W_seq ?_))))
  refine W_cutF [2, 3] (fun f W => f 65 = .bool (decide (¬ (x.p.name = y.p.name ∧ x.p.super = y.p.super ∧ x.p.ifc = y.p.ifc ∧ x.p.abs = y.p.abs ∧ x.p.fin = y.p.fin ∧ x.p.like = y.p.like ∧ (x.p.fields.length : Int) = y.p.fields.length ∧ (x.q.length : Int) = y.q.length))) ∧ (Bk W b2 #[.string x.p.name, .string x.p.super, x.vl, .bool x.p.ifc, .bool x.p.abs, .bool x.p.fin, x.vf, x.vm] 26 ∧ Bk W b3 #[.string y.p.name, .string y.p.super, y.vl, .bool y.p.ifc, .bool y.p.abs, .bool y.p.fin, y.vf, y.vm] 26 ∧ Nw w0 W)) ?_ ?_
  ·
   refine W_region ?_
   refine L_r (r_fieldb Tryz.underlying26 rfl (show _ = some 1 from rfl) rfl rfl (show _ = 0 from rfl)) (L_r (r_lb rfl rfl) ?_)
   refine L_r (r_fieldb Tryz.underlying26 rfl (show _ = some 1 from rfl) rfl rfl (show _ = 0 from rfl)) (L_r (r_lb rfl rfl) (L_r (r_neqs rfl rfl) (L_r (r_mb rfl) ?_)))
   refine L_case (d := 12) rfl (fun h12 => ?_) (fun h12 => ?_)
   ·
    refine L_ps (L_ps (L_ps (L_ps (L_ps (L_r (r_pt rfl rfl) (L_r (r_mb rfl) (L_ps (L_ps ?_))))))))
    refine L_ps (L_ps (L_ps (L_r (r_pt rfl rfl) (L_r (r_mb rfl) (L_ps (L_ps (L_ps (L_ps ?_))))))))
    refine L_ps (L_r (r_pt rfl rfl) (L_r (r_mb rfl) (L_ps (L_ps (L_ps (L_ps (L_ps (L_r (r_pt rfl rfl) ?_))))))))
    refine L_r (r_mb rfl) (L_ps (L_ps (L_ps (L_ps (L_ps (L_ps (L_r (r_pt rfl rfl) (L_r (r_mb rfl) ?_))))))))
    refine L_ps (L_ps (L_ps (L_ps (L_ps (L_ps (L_ps (L_r (r_pt rfl rfl) (L_r (r_mb rfl) ?_))))))))
    refine L_ps (L_ps (L_ps (L_ps (L_ps (L_ps (L_ps (L_r (r_pt rfl rfl) (L_nil ?_))))))))
    refine ⟨⟨fx2, fx2, trivial⟩, (dec_t (by clear key hql hqm; simp_all)), ?_⟩
    exact ⟨Bk.au, Bk.au, Ch.au⟩
   ·
    refine L_g (r_fieldb Tryz.underlying26 rfl (show _ = some 1 from rfl) rfl rfl (show _ = 1 from rfl)) ?_
    refine L_g (r_lb rfl rfl) ?_
    refine L_g (r_fieldb Tryz.underlying26 rfl (show _ = some 1 from rfl) rfl rfl (show _ = 1 from rfl)) ?_
    refine L_g (r_lb rfl rfl) ?_
    refine L_g (r_neqs rfl rfl) (L_r (r_pf rfl rfl) (L_r (r_mb rfl) ?_))
    refine L_case (d := 19) rfl (fun h19 => ?_) (fun h19 => ?_)
    ·
     refine L_ps (L_ps (L_ps (L_ps (L_ps (L_r (r_pt rfl rfl) (L_r (r_mb rfl) (L_ps (L_ps ?_))))))))
     refine L_ps (L_ps (L_ps (L_r (r_pt rfl rfl) (L_r (r_mb rfl) (L_ps (L_ps (L_ps (L_ps ?_))))))))
     refine L_ps (L_r (r_pt rfl rfl) (L_r (r_mb rfl) (L_ps (L_ps (L_ps (L_ps (L_ps (L_ps ?_))))))))
     refine L_r (r_pt rfl rfl) (L_r (r_mb rfl) (L_ps (L_ps (L_ps (L_ps (L_ps (L_ps (L_ps ?_))))))))
     refine L_r (r_pt rfl rfl) (L_r (r_mb rfl) (L_ps (L_ps (L_ps (L_ps (L_ps (L_ps (L_ps ?_))))))))
     refine L_r (r_pt rfl rfl) (L_nil ?_)
     refine ⟨⟨fx2, fx2, trivial⟩, (dec_t (by clear key hql hqm; simp_all)), ?_⟩
     exact ⟨Bk.au, Bk.au, Ch.au⟩
    ·
     refine L_g (r_fieldb Tryz.underlying26 rfl (show _ = some 1 from rfl) rfl rfl (show _ = 3 from rfl)) ?_
     refine L_g (r_lb rfl rfl) ?_
     refine L_g (r_fieldb Tryz.underlying26 rfl (show _ = some 1 from rfl) rfl rfl (show _ = 3 from rfl)) ?_
     refine L_g (r_lb rfl rfl) ?_
     refine L_g (r_neqb Tryz.underlying4 rfl rfl) (L_r (r_pf rfl rfl) (L_r (r_mb rfl) ?_))
     refine L_case (d := 26) rfl (fun h26 => ?_) (fun h26 => ?_)
     ·
      refine L_ps (L_ps (L_ps (L_ps (L_ps (L_r (r_pt rfl rfl) (L_r (r_mb rfl) (L_ps (L_ps ?_))))))))
      refine L_ps (L_ps (L_ps (L_r (r_pt rfl rfl) (L_r (r_mb rfl) (L_ps (L_ps (L_ps (L_ps ?_))))))))
      refine L_ps (L_ps (L_r (r_pt rfl rfl) (L_r (r_mb rfl) (L_ps (L_ps (L_ps (L_ps (L_ps ?_))))))))
      refine L_ps (L_ps (L_r (r_pt rfl rfl) (L_r (r_mb rfl) (L_ps (L_ps (L_ps (L_ps (L_ps ?_))))))))
      refine L_ps (L_ps (L_r (r_pt rfl rfl) (L_nil ?_)))
      refine ⟨⟨fx2, fx2, trivial⟩, (dec_t (by clear key hql hqm; simp_all)), ?_⟩
      exact ⟨Bk.au, Bk.au, Ch.au⟩
     ·
      refine L_g (r_fieldb Tryz.underlying26 rfl (show _ = some 1 from rfl) rfl rfl (show _ = 4 from rfl)) ?_
      refine L_g (r_lb rfl rfl) ?_
      refine L_g (r_fieldb Tryz.underlying26 rfl (show _ = some 1 from rfl) rfl rfl (show _ = 4 from rfl)) ?_
      refine L_g (r_lb rfl rfl) ?_
      refine L_g (r_neqb Tryz.underlying4 rfl rfl) (L_r (r_pf rfl rfl) (L_r (r_mb rfl) ?_))
      refine L_case (d := 33) rfl (fun h33 => ?_) (fun h33 => ?_)
      ·
       refine L_ps (L_ps (L_ps (L_ps (L_ps (L_r (r_pt rfl rfl) (L_r (r_mb rfl) (L_ps (L_ps ?_))))))))
       refine L_ps (L_ps (L_ps (L_ps (L_r (r_pt rfl rfl) (L_r (r_mb rfl) (L_ps (L_ps (L_ps ?_))))))))
       refine L_ps (L_ps (L_ps (L_ps (L_r (r_pt rfl rfl) (L_r (r_mb rfl) (L_ps (L_ps (L_ps ?_))))))))
       refine L_ps (L_ps (L_ps (L_ps (L_r (r_pt rfl rfl) (L_nil ?_)))))
       refine ⟨⟨fx2, fx2, trivial⟩, (dec_t (by clear key hql hqm; simp_all)), ?_⟩
       exact ⟨Bk.au, Bk.au, Ch.au⟩
      ·
       refine L_g (r_fieldb Tryz.underlying26 rfl (show _ = some 1 from rfl) rfl rfl (show _ = 5 from rfl)) ?_
       refine L_g (r_lb rfl rfl) ?_
       refine L_g (r_fieldb Tryz.underlying26 rfl (show _ = some 1 from rfl) rfl rfl (show _ = 5 from rfl)) ?_
       refine L_g (r_lb rfl rfl) ?_
       refine L_g (r_neqb Tryz.underlying4 rfl rfl) (L_r (r_pf rfl rfl) (L_r (r_mb rfl) ?_))
       refine L_case (d := 40) rfl (fun h40 => ?_) (fun h40 => ?_)
       ·
        refine L_ps (L_ps (L_ps (L_ps (L_ps (L_ps (L_r (r_pt rfl rfl) (L_r (r_mb rfl) (L_ps ?_))))))))
        refine L_ps (L_ps (L_ps (L_ps (L_ps (L_ps (L_r (r_pt rfl rfl) (L_r (r_mb rfl) (L_ps ?_))))))))
        refine L_ps (L_ps (L_ps (L_ps (L_ps (L_ps (L_r (r_pt rfl rfl) (L_nil ?_)))))))
        refine ⟨⟨fx2, fx2, trivial⟩, (dec_t (by clear key hql hqm; simp_all)), ?_⟩
        exact ⟨Bk.au, Bk.au, Ch.au⟩
       ·
        refine L_g (r_fieldb Tryz.underlying26 rfl (show _ = some 1 from rfl) rfl rfl (show _ = 2 from rfl)) ?_
        refine L_g (r_lb rfl rfl) ?_
        refine L_g (r_fieldb Tryz.underlying26 rfl (show _ = some 1 from rfl) rfl rfl (show _ = 2 from rfl)) ?_
        refine L_g (r_lb rfl rfl) ?_
        refine L_call (.yes 33 false rfl rfl) rfl rfl (r_call Tryz.func41 rfl rfl rfl (by rfl)) (stexts_walk x.vl y.vl x.p.like y.p.like _ (hxw _ Ch.au).l (hyw _ Ch.au).l (by omega) (by omega)) ?_
        rintro v45 w3 ⟨bp, rfl, hbp, c3⟩
        have hz3 := c3.size
        refine L_g (r_not rfl) (L_r (r_pf rfl rfl) (L_r (r_mb rfl) ?_))
        refine L_caseb (d := 48) rfl (fun h48 => ?_) (fun h48 => ?_)
        ·
         refine L_ps (L_ps (L_ps (L_ps (L_ps (L_ps (L_ps (L_r (r_pt rfl rfl) (L_r (r_mb rfl) ?_))))))))
         refine L_ps (L_ps (L_ps (L_ps (L_ps (L_ps (L_ps (L_r (r_pt rfl rfl) (L_nil ?_))))))))
         refine ⟨⟨fx2, fx2, trivial⟩, (dec_t (by clear key hql hqm; simp_all)), ?_⟩
         exact ⟨Bk.au, Bk.au, Ch.au⟩
        ·
         refine L_g (r_fieldb Tryz.underlying26 rfl (show _ = some 1 from rfl) rfl rfl (show _ = 6 from rfl)) ?_
         refine L_g (r_lb rfl rfl) ?_
         refine L_g (r_lenSl Tryz.underlying23 (by conv => lhs; whnf) Sl.au) ?_
         refine L_g (r_fieldb Tryz.underlying26 rfl (show _ = some 1 from rfl) rfl rfl (show _ = 6 from rfl)) ?_
         refine L_g (r_lb rfl rfl) ?_
         refine L_g (r_lenSl Tryz.underlying23 (by conv => lhs; whnf) Sl.au) ?_
         refine L_g (r_neq rfl rfl) (L_r (r_pf rfl rfl) (L_r (r_mb rfl) ?_))
         refine L_case (d := 57) rfl (fun h57 => ?_) (fun h57 => ?_)
         ·
          refine L_ps (L_ps (L_ps (L_ps (L_ps (L_ps (L_ps (L_r (r_pt rfl rfl) (L_nil ?_))))))))
          refine ⟨⟨fx2, fx2, trivial⟩, (dec_t (by clear key hql hqm; simp_all)), ?_⟩
          exact ⟨Bk.au, Bk.au, Ch.au⟩
         ·
          refine L_g (r_fieldb Tryz.underlying26 rfl (show _ = some 1 from rfl) rfl rfl (show _ = 7 from rfl)) ?_
          refine L_g (r_lb rfl rfl) ?_
          refine L_g (r_lenSl Tryz.underlying24 (by conv => lhs; whnf) Sl.au) ?_
          refine L_g (r_fieldb Tryz.underlying26 rfl (show _ = some 1 from rfl) rfl rfl (show _ = 7 from rfl)) ?_
          refine L_g (r_lb rfl rfl) ?_
          refine L_g (r_lenSl Tryz.underlying24 (by conv => lhs; whnf) Sl.au) ?_
          refine L_g (r_neq rfl rfl) (L_r (r_pf rfl rfl) (L_nil ?_))
          refine ⟨⟨fx2, fx2, trivial⟩, (dec_i (by clear key hql hqm; simp_all)), ?_⟩
          exact ⟨Bk.au, Bk.au, Ch.au⟩
  rintro gcr1 w4 ⟨hf65, hCr1⟩
  refine W_as 65 hf65 rfl ?_
  clear hf65
  obtain ⟨hb2, hb3, hnw1⟩ := hCr1
  have hz1 := hnw1.size
  refine W_if rfl (fun h65 => ?_) (fun h65 => ?_)
  ·
   refine W_seq (W_region (L_r (r_ab rfl) (L_nil (W_ret ?_))))
   refine ret1 (v := .bool _) rfl rfl ?_
   first
   | exact ⟨true, rfl, ⟨fun _ => key.2 ⟨hall.1, hall.2.1, hall.2.2.1, hall.2.2.2.1, hall.2.2.2.2.1, hall.2.2.2.2.2.1, hff, hmm⟩, fun _ => rfl⟩, Ch.au⟩
   | exact ⟨false, rfl, ⟨fun h => absurd h (by decide), fun e => absurd (by have k := key.1 e; exact ⟨k.1, k.2.1, k.2.2.1, k.2.2.2.1, k.2.2.2.2.1, k.2.2.2.2.2.1, by rw [k.2.2.2.2.2.2.1], by rw [hql, hqm, k.2.2.2.2.2.2.2]⟩) h65⟩, Ch.au⟩
   | (have hpq : p ≠ q := by { intro e; subst e; first | exact h83 (by simp) | simp at h83 }
      refine ⟨false, rfl, ⟨fun h => absurd h (by decide), fun e => absurd ?_ hpq⟩, Ch.au⟩
      have k := (key.1 e).2.2.2.2.2.2.1
      rw [hp, hq]
      simp only [k])
   | (have hb0 : bb = false := by simpa using h102
      have hpq : ¬ p.m = q.m := fun e => by have k := hbb.2 e; rw [hb0] at k; cases k
      refine ⟨false, rfl, ⟨fun h => absurd h (by decide), fun e => absurd ?_ hpq⟩, Ch.au⟩
      have km := (key.1 e).2.2.2.2.2.2.2
      rw [← hx.e, ← hy.e] at km
      have e2 : (x.q.map MM.m)[k]'(by rw [List.length_map]; exact hil) = (y.q.map MM.m)[k]'(by rw [List.length_map]; exact hil2) := by simp only [km]
      rw [List.getElem_map, List.getElem_map, ← hp, ← hq] at e2
      exact e2)
  ·
   have hall := Classical.not_not.1 h65
   have hlen := hall.2.2.2.2.2.2.1
   have hlen2 := hall.2.2.2.2.2.2.2
   refine W_skip (W_seq (W_seq (W_region (L_r (r_ai rfl) (L_nil (W_block ?_))))))
   refine W_loopF [2, 3] (fun mz_ f W => ∃ (i : Nat), f 5 = .int .i64 i ∧ (i ≤ x.p.fields.length ∧ (∀ j (h1 : j < x.p.fields.length) (h2 : j < y.p.fields.length), j < i → x.p.fields[j] = y.p.fields[j]) ∧ Nw w0 W ∧ Bk W b2 #[.string x.p.name, .string x.p.super, x.vl, .bool x.p.ifc, .bool x.p.abs, .bool x.p.fin, x.vf, x.vm] 26 ∧ Bk W b3 #[.string y.p.name, .string y.p.super, y.vl, .bool y.p.ifc, .bool y.p.abs, .bool y.p.fin, y.vf, y.vm] 26) ∧ mz_ = x.p.fields.length - i) ?_ ?_
   ·
    refine ⟨_, 0, rfl, ?_, rfl⟩
    exact ⟨by omega, fun j h1 h2 hji => absurd hji (by omega), Ch.au, Bk.au, Bk.au⟩
   rintro m0 g0 w5 ⟨i, hf5, hR0, rfl⟩
   refine W_as 5 hf5 rfl ?_
   clear hf5
   obtain ⟨hi, hn, hnw, hb2i, hb3i⟩ := hR0
   have hz := hnw.size
   refine W_seq (W_seq (W_region (L_r (r_mi rfl) ?_)))
   refine L_r (r_fieldb Tryz.underlying26 rfl (show _ = some 1 from rfl) rfl rfl (show _ = 6 from rfl)) (L_r (r_lb rfl rfl) ?_)
   refine L_r (r_lenSl Tryz.underlying23 (by conv => lhs; whnf) Sl.au) (L_r (r_lss rfl rfl) (L_nil ?_))
   refine W_if rfl (fun h70 => ?_) (fun h70 => ?_)
   ·
    have hil : i < x.p.fields.length := by omega
    have hil2 : i < y.p.fields.length := by omega
    have hrp := cellsCF_row x.p.fields i hil
    have hrq := cellsCF_row y.p.fields i hil2
    obtain ⟨p, hp⟩ : ∃ p, p = x.p.fields[i] := ⟨_, rfl⟩
    obtain ⟨q, hq⟩ : ∃ q, q = y.p.fields[i] := ⟨_, rfl⟩
    rw [← hp] at hrp
    rw [← hq] at hrq
    refine W_skip (W_seq (W_block (W_seq ?_)))
    refine W_draw (fun W => Bk W b2 #[.string x.p.name, .string x.p.super, x.vl, .bool x.p.ifc, .bool x.p.abs, .bool x.p.fin, x.vf, x.vm] 26 ∧ Bk W b3 #[.string y.p.name, .string y.p.super, y.vl, .bool y.p.ifc, .bool y.p.abs, .bool y.p.fin, y.vf, y.vm] 26 ∧ Sl W x.vf 3 x.p.fields.length (cellsCF x.p.fields) ∧ Sl W y.vf 3 y.p.fields.length (cellsCF y.p.fields)) 11 (m := 11) (by kernel_rfl) rfl (fun w6 c6 hs6 => ?_)
    refine held (by exact ⟨Bk.au, Bk.au, Sl.au, Sl.au⟩) (fun hS => ?_)
    refine D_t 0 rfl (fun W hW => r_fieldb Tryz.underlying26 rfl (show _ = some 1 from rfl) rfl rfl (show _ = 6 from rfl)) ?_
    refine D_t 1 rfl (fun W hW => r_loadb rfl rfl (by first | exact hW.1 | exact hW.2.1 | exact hW.2.2.1 | exact hW.2.2.2) (by first | assumption | (conv => lhs; simp only [List.getElem?_toArray, List.getElem?_cons_succ, List.getElem?_cons_zero]))) ?_
    refine D_t 2 rfl (fun W hW => r_mi rfl) ?_
    refine D_t 3 rfl (fun W hW => r_ix Tryz.underlying23 (show _ = some 3 from rfl) (by conv => lhs; whnf) rfl (by first | exact hW.1 | exact hW.2.1 | exact hW.2.2.1 | exact hW.2.2.2)) ?_
    refine D_t 4 rfl (fun W hW => r_loadSlrow (us := [.string p.name, .string p.kind, .bool p.tr]) Tryz.underlying52 rfl rfl rfl rfl (by first | exact hW.1 | exact hW.2.1 | exact hW.2.2.1 | exact hW.2.2.2) (by exact hrp)) ?_
    refine D_t 5 rfl (fun W hW => r_fieldb Tryz.underlying26 rfl (show _ = some 1 from rfl) rfl rfl (show _ = 6 from rfl)) ?_
    refine D_t 6 rfl (fun W hW => r_loadb rfl rfl (by first | exact hW.1 | exact hW.2.1 | exact hW.2.2.1 | exact hW.2.2.2) (by first | assumption | (conv => lhs; simp only [List.getElem?_toArray, List.getElem?_cons_succ, List.getElem?_cons_zero]))) ?_
    refine D_t 7 rfl (fun W hW => r_mi rfl) ?_
    refine D_t 8 rfl (fun W hW => r_ix Tryz.underlying23 (show _ = some 3 from rfl) (by conv => lhs; whnf) rfl (by first | exact hW.1 | exact hW.2.1 | exact hW.2.2.1 | exact hW.2.2.2)) ?_
    refine D_t 9 rfl (fun W hW => r_loadSlrow (us := [.string q.name, .string q.kind, .bool q.tr]) Tryz.underlying52 rfl rfl rfl rfl (by first | exact hW.1 | exact hW.2.1 | exact hW.2.2.1 | exact hW.2.2.2) (by exact hrq)) ?_
    refine D_t 10 rfl (fun W hW => r_neqR (xs := #[.string _, .string _, .bool _]) (ys := #[.string _, .string _, .bool _]) rfl rfl (by kernel_rfl) (eqFld _ _ _ _ _ _ _)) ?_
    refine D_done (by kernel_rfl) ?_
    refine W_if rfl (fun h83 => ?_) (fun h83 => ?_)
    ·
     refine W_seq (W_region (L_r (r_ab rfl) (L_nil (W_ret ?_))))
     refine ret1 (v := .bool _) rfl rfl ?_
     first
     | exact ⟨true, rfl, ⟨fun _ => key.2 ⟨hall.1, hall.2.1, hall.2.2.1, hall.2.2.2.1, hall.2.2.2.2.1, hall.2.2.2.2.2.1, hff, hmm⟩, fun _ => rfl⟩, Ch.au⟩
     | exact ⟨false, rfl, ⟨fun h => absurd h (by decide), fun e => absurd (by have k := key.1 e; exact ⟨k.1, k.2.1, k.2.2.1, k.2.2.2.1, k.2.2.2.2.1, k.2.2.2.2.2.1, by rw [k.2.2.2.2.2.2.1], by rw [hql, hqm, k.2.2.2.2.2.2.2]⟩) h65⟩, Ch.au⟩
     | (have hpq : p ≠ q := by { intro e; subst e; first | exact h83 (by simp) | simp at h83 }
        refine ⟨false, rfl, ⟨fun h => absurd h (by decide), fun e => absurd ?_ hpq⟩, Ch.au⟩
        have k := (key.1 e).2.2.2.2.2.2.1
        rw [hp, hq]
        simp only [k])
     | (have hb0 : bb = false := by simpa using h102
        have hpq : ¬ p.m = q.m := fun e => by have k := hbb.2 e; rw [hb0] at k; cases k
        refine ⟨false, rfl, ⟨fun h => absurd h (by decide), fun e => absurd ?_ hpq⟩, Ch.au⟩
        have km := (key.1 e).2.2.2.2.2.2.2
        rw [← hx.e, ← hy.e] at km
        have e2 : (x.q.map MM.m)[k]'(by rw [List.length_map]; exact hil) = (y.q.map MM.m)[k]'(by rw [List.length_map]; exact hil2) := by simp only [km]
        rw [List.getElem_map, List.getElem_map, ← hp, ← hq] at e2
        exact e2)
    ·
     refine W_skip (W_region (L_r (r_mi rfl) ?_))
     refine L_r (r_add rfl rfl (by first | exact wr_i64 (by omega) | rfl)) (L_r (r_ai rfl) (L_nil ?_))
     refine ⟨⟨fx2, fx2, trivial⟩, _, ?_, i + 1, rfl, ?_, rfl⟩
     · omega
     have hpq : p = q := by { have h : p.name = q.name ∧ p.kind = q.kind ∧ p.tr = q.tr := by { first | exact h83 | exact Classical.not_not.1 h83 | simpa using h83 }; cases p; cases q; simp_all }
     refine ⟨by omega, fun j h1 h2 hji => ?_, Ch.au, Bk.au, Bk.au⟩
     rcases Nat.lt_or_ge j i with h | h
     · exact hn j h1 h2 h
     ·
      have e : j = i := by omega
      subst e
      rw [← hp, ← hq]; exact hpq
   ·
    refine W_exit ?_
    repeat (first | refine blk_hit ?_ | refine blk_miss rfl ?_)
    refine W_seq (W_seq ?_)
    have hff : x.p.fields = y.p.fields := List.ext_getElem (by omega) fun j h1 h2 => hn j h1 h2 (by omega)
    refine W_region (L_r (r_ai rfl) (L_nil (W_block ?_)))
    refine W_loopF [2, 3] (fun mz_ f W => ∃ (k : Nat), f 6 = .int .i64 k ∧ (k ≤ x.q.length ∧ (∀ j (h1 : j < x.q.length) (h2 : j < y.q.length), j < k → x.q[j].m = y.q[j].m) ∧ Nw w0 W ∧ Bk W b2 #[.string x.p.name, .string x.p.super, x.vl, .bool x.p.ifc, .bool x.p.abs, .bool x.p.fin, x.vf, x.vm] 26 ∧ Bk W b3 #[.string y.p.name, .string y.p.super, y.vl, .bool y.p.ifc, .bool y.p.abs, .bool y.p.fin, y.vf, y.vm] 26) ∧ mz_ = x.q.length - k) ?_ ?_
    ·
     refine ⟨_, 0, rfl, ?_, rfl⟩
     exact ⟨by omega, fun j h1 h2 hji => absurd hji (by omega), Ch.au, Bk.au, Bk.au⟩
    rintro m1 g1 w7 ⟨k, hf6, hR1, rfl⟩
    refine W_as 6 hf6 rfl ?_
    clear hf6
    obtain ⟨hk, hnk, hnwk, hb2k, hb3k⟩ := hR1
    have hzk := hnwk.size
    refine W_seq (W_seq (W_region (L_r (r_mi rfl) ?_)))
    refine L_r (r_fieldb Tryz.underlying26 rfl (show _ = some 1 from rfl) rfl rfl (show _ = 7 from rfl)) (L_r (r_lb rfl rfl) ?_)
    refine L_r (r_lenSl Tryz.underlying24 (by conv => lhs; whnf) Sl.au) (L_r (r_lss rfl rfl) (L_nil ?_))
    refine W_if rfl (fun h88 => ?_) (fun h88 => ?_)
    ·
     have hil : k < x.q.length := by omega
     have hil2 : k < y.q.length := by omega
     have hrp := cellsCM_row x.q k hil
     have hrq := cellsCM_row y.q k hil2
     have hpm := List.getElem_mem hil
     have hqmm := List.getElem_mem hil2
     obtain ⟨p, hp⟩ : ∃ p, p = x.q[k] := ⟨_, rfl⟩
     obtain ⟨q, hq⟩ : ∃ q, q = y.q[k] := ⟨_, rfl⟩
     rw [← hp] at hrp hpm
     rw [← hq] at hrq hqmm
     have h1p := (hx.ms p hpm).one
     have h1q := (hy.ms q hqmm).one
     refine W_skip (W_seq (W_block (W_seq ?_)))
     refine W_draw (fun W => Bk W b2 #[.string x.p.name, .string x.p.super, x.vl, .bool x.p.ifc, .bool x.p.abs, .bool x.p.fin, x.vf, x.vm] 26 ∧ Bk W b3 #[.string y.p.name, .string y.p.super, y.vl, .bool y.p.ifc, .bool y.p.abs, .bool y.p.fin, y.vf, y.vm] 26 ∧ Sl W x.vm 7 x.q.length (cellsCM x.q) ∧ Sl W y.vm 7 y.q.length (cellsCM y.q)) 12 (m := 12) (by kernel_rfl) rfl (fun w8 c8 hs8 => ?_)
     refine held (by exact ⟨Bk.au, Bk.au, Sl.au, Sl.au⟩) (fun hS => ?_)
     refine D_t 0 rfl (fun W hW => r_fieldb Tryz.underlying26 rfl (show _ = some 1 from rfl) rfl rfl (show _ = 7 from rfl)) ?_
     refine D_t 1 rfl (fun W hW => r_loadb rfl rfl (by first | exact hW.1 | exact hW.2.1 | exact hW.2.2.1 | exact hW.2.2.2) (by first | assumption | (conv => lhs; simp only [List.getElem?_toArray, List.getElem?_cons_succ, List.getElem?_cons_zero]))) ?_
     refine D_t 2 rfl (fun W hW => r_mi rfl) ?_
     refine D_t 3 rfl (fun W hW => r_ix Tryz.underlying24 (show _ = some 7 from rfl) (by conv => lhs; whnf) rfl (by first | exact hW.1 | exact hW.2.1 | exact hW.2.2.1 | exact hW.2.2.2)) ?_
     refine D_t 4 rfl (fun W hW => r_loadSlrow (us := [.string p.m.name, p.vp, .string p.m.result, .bool p.m.abs, .int .i64 p.m.locals, p.vc, p.vk]) Tryz.underlying43 rfl rfl rfl rfl (by first | exact hW.1 | exact hW.2.1 | exact hW.2.2.1 | exact hW.2.2.2) (by exact hrp)) ?_
     refine D_t 5 rfl (fun W hW => r_fieldb Tryz.underlying26 rfl (show _ = some 1 from rfl) rfl rfl (show _ = 7 from rfl)) ?_
     refine D_t 6 rfl (fun W hW => r_loadb rfl rfl (by first | exact hW.1 | exact hW.2.1 | exact hW.2.2.1 | exact hW.2.2.2) (by first | assumption | (conv => lhs; simp only [List.getElem?_toArray, List.getElem?_cons_succ, List.getElem?_cons_zero]))) ?_
     refine D_t 7 rfl (fun W hW => r_mi rfl) ?_
     refine D_t 8 rfl (fun W hW => r_ix Tryz.underlying24 (show _ = some 7 from rfl) (by conv => lhs; whnf) rfl (by first | exact hW.1 | exact hW.2.1 | exact hW.2.2.1 | exact hW.2.2.2)) ?_
     refine D_t 9 rfl (fun W hW => r_loadSlrow (us := [.string q.m.name, q.vp, .string q.m.result, .bool q.m.abs, .int .i64 q.m.locals, q.vc, q.vk]) Tryz.underlying43 rfl rfl rfl rfl (by first | exact hW.1 | exact hW.2.1 | exact hW.2.2.1 | exact hW.2.2.2) (by exact hrq)) ?_
     refine D_ev 10 (by kernel_rfl) rfl ?_
     refine L_call (.plain rfl) rfl rfl (r_call Tryz.func42 rfl rfl rfl (by rfl)) (rsamem_walk p q _ ((hxw _ Ch.au).ms p hpm) ((hyw _ Ch.au).ms q hqmm) (hs.ms _ (q_mem hx hpm)) (ht.ms _ (q_mem hy hqmm))) ?_
     rintro v101 w9 ⟨bb, rfl, hbb, c9⟩
     have hz9 := c9.size
     refine L_nil ?_
     refine heldK (by exact ⟨Bk.au, Bk.au, Sl.au, Sl.au⟩) (fun hS => ?_)
     refine D_t 11 rfl (fun W hW => r_not rfl) ?_
     refine D_done (by kernel_rfl) ?_
     refine W_bool rfl (fun h102 => ?_) (fun h102 => ?_)
     ·
      refine W_seq (W_region (L_r (r_ab rfl) (L_nil (W_ret ?_))))
      refine ret1 (v := .bool _) rfl rfl ?_
      first
      | exact ⟨true, rfl, ⟨fun _ => key.2 ⟨hall.1, hall.2.1, hall.2.2.1, hall.2.2.2.1, hall.2.2.2.2.1, hall.2.2.2.2.2.1, hff, hmm⟩, fun _ => rfl⟩, Ch.au⟩
      | exact ⟨false, rfl, ⟨fun h => absurd h (by decide), fun e => absurd (by have k := key.1 e; exact ⟨k.1, k.2.1, k.2.2.1, k.2.2.2.1, k.2.2.2.2.1, k.2.2.2.2.2.1, by rw [k.2.2.2.2.2.2.1], by rw [hql, hqm, k.2.2.2.2.2.2.2]⟩) h65⟩, Ch.au⟩
      | (have hpq : p ≠ q := by { intro e; subst e; first | exact h83 (by simp) | simp at h83 }
         refine ⟨false, rfl, ⟨fun h => absurd h (by decide), fun e => absurd ?_ hpq⟩, Ch.au⟩
         have k := (key.1 e).2.2.2.2.2.2.1
         rw [hp, hq]
         simp only [k])
      | (have hb0 : bb = false := by simpa using h102
         have hpq : ¬ p.m = q.m := fun e => by have k := hbb.2 e; rw [hb0] at k; cases k
         refine ⟨false, rfl, ⟨fun h => absurd h (by decide), fun e => absurd ?_ hpq⟩, Ch.au⟩
         have km := (key.1 e).2.2.2.2.2.2.2
         rw [← hx.e, ← hy.e] at km
         have e2 : (x.q.map MM.m)[k]'(by rw [List.length_map]; exact hil) = (y.q.map MM.m)[k]'(by rw [List.length_map]; exact hil2) := by simp only [km]
         rw [List.getElem_map, List.getElem_map, ← hp, ← hq] at e2
         exact e2)
     ·
      refine W_skip (W_region (L_r (r_mi rfl) ?_))
      refine L_r (r_add rfl rfl (by first | exact wr_i64 (by omega) | rfl)) (L_r (r_ai rfl) (L_nil ?_))
      refine ⟨⟨fx2, fx2, trivial⟩, _, ?_, k + 1, rfl, ?_, rfl⟩
      · omega
      have hpq : p.m = q.m := hbb.1 (by simpa using h102)
      refine ⟨by omega, fun j h1 h2 hji => ?_, Ch.au, Bk.au, Bk.au⟩
      rcases Nat.lt_or_ge j k with h | h
      · exact hnk j h1 h2 h
      ·
       have e : j = k := by omega
       subst e
       rw [← hp, ← hq]; exact hpq
    ·
     refine W_exit ?_
     repeat (first | refine blk_hit ?_ | refine blk_miss rfl ?_)
     refine W_seq ?_
     have hmm : x.p.ms = y.p.ms := by
       rw [← hx.e, ← hy.e]
       exact List.ext_getElem (by rw [List.length_map, List.length_map]; omega) fun j h1 h2 => by rw [List.getElem_map, List.getElem_map]; rw [List.length_map] at h1 h2; exact hnk j h1 h2 (by omega)
     refine W_region (L_r (r_ab rfl) (L_nil (W_ret ?_)))
     refine ret1 (v := .bool _) rfl rfl ?_
     first
     | exact ⟨true, rfl, ⟨fun _ => key.2 ⟨hall.1, hall.2.1, hall.2.2.1, hall.2.2.2.1, hall.2.2.2.2.1, hall.2.2.2.2.2.1, hff, hmm⟩, fun _ => rfl⟩, Ch.au⟩
     | exact ⟨false, rfl, ⟨fun h => absurd h (by decide), fun e => absurd (by have k := key.1 e; exact ⟨k.1, k.2.1, k.2.2.1, k.2.2.2.1, k.2.2.2.2.1, k.2.2.2.2.2.1, by rw [k.2.2.2.2.2.2.1], by rw [hql, hqm, k.2.2.2.2.2.2.2]⟩) h65⟩, Ch.au⟩
     | (have hpq : p ≠ q := by { intro e; subst e; first | exact h83 (by simp) | simp at h83 }
        refine ⟨false, rfl, ⟨fun h => absurd h (by decide), fun e => absurd ?_ hpq⟩, Ch.au⟩
        have k := (key.1 e).2.2.2.2.2.2.1
        rw [hp, hq]
        simp only [k])
     | (have hb0 : bb = false := by simpa using h102
        have hpq : ¬ p.m = q.m := fun e => by have k := hbb.2 e; rw [hb0] at k; cases k
        refine ⟨false, rfl, ⟨fun h => absurd h (by decide), fun e => absurd ?_ hpq⟩, Ch.au⟩
        have km := (key.1 e).2.2.2.2.2.2.2
        rw [← hx.e, ← hy.e] at km
        have e2 : (x.q.map MM.m)[k]'(by rw [List.length_map]; exact hil) = (y.q.map MM.m)[k]'(by rw [List.length_map]; exact hil2) := by simp only [km]
        rw [List.getElem_map, List.getElem_map, ← hp, ← hq] at e2
        exact e2)
set_option maxHeartbeats 2000000 in
theorem rsameall05_walk (va vb : Value) (x y : List CC) (w0 : World) (hva : Sl w0 va 8 x.length (cellsCC x)) (hvb : Sl w0 vb 8 y.length (cellsCC y)) (hl : x.length ≤ 1000000000000000) (hl2 : y.length ≤ 1000000000000000) (hxo : ∀ a ∈ x, a.ok w0) (hyo : ∀ a ∈ y, a.ok w0) (hxs : ∀ a ∈ x, a.p.sz) (hys : ∀ a ∈ y, a.p.sz) : Does Tryz.prog 25 #[va, vb] w0 (fun r w' => ∃ b : Bool, r = .bool b ∧ (b = true ↔ x.map CC.p = y.map CC.p) ∧ Nw w0 w') := by
  refine fn_of (n := 27) (args := [va, vb]) Tryz.func25 rfl rfl rfl (W_seq (W_region (L_r (r_ab rfl) (L_nil (W_seq (W_seq (W_region (L_r (r_mv) ?_))))))))
  refine L_r (r_lenSl Tryz.underlying44 (by conv => lhs; whnf) Sl.au) (L_r (r_mv) ?_)
  refine L_r (r_lenSl Tryz.underlying44 (by conv => lhs; whnf) Sl.au) (L_r (r_neq rfl rfl) (L_nil ?_))
  refine W_if rfl (fun h10 => ?_) (fun h10 => ?_)
  ·
   refine W_seq (W_region (L_r (r_ab rfl) (L_nil (W_ret ?_))))
   refine ret1 (v := .bool _) rfl rfl ?_
   first
   | exact ⟨true, rfl, ⟨fun _ => List.ext_getElem (by rw [List.length_map, List.length_map]; omega) fun j h1 h2 => by rw [List.getElem_map, List.getElem_map]; rw [List.length_map] at h1 h2; exact hn j h1 h2 (by omega), fun _ => rfl⟩, Ch.au⟩
   | exact ⟨false, rfl, ⟨fun h => absurd h (by decide), fun e => by have e2 := congrArg List.length e; rw [List.length_map, List.length_map] at e2; omega⟩, Ch.au⟩
   | (have hb0 : bb = false := by simpa using h26
      have hpq : ¬ p.p = q.p := fun e => by have k := hbb.2 e; rw [hb0] at k; cases k
      refine ⟨false, rfl, ⟨fun h => absurd h (by decide), fun e => absurd ?_ hpq⟩, Ch.au⟩
      have e2 : (x.map CC.p)[i]'(by rw [List.length_map]; exact hil) = (y.map CC.p)[i]'(by rw [List.length_map]; exact hil2) := by simp only [e]
      rw [List.getElem_map, List.getElem_map, ← hp, ← hq] at e2
      exact e2)
  ·
   refine W_skip (W_seq (W_seq (W_region (L_r (r_ai rfl) (L_nil (W_block ?_))))))
   refine W_loopF [0, 1] (fun mz_ f W => ∃ (i : Nat), f 5 = .int .i64 i ∧ (i ≤ x.length ∧ (∀ j (h1 : j < x.length) (h2 : j < y.length), j < i → x[j].p = y[j].p) ∧ Nw w0 W) ∧ mz_ = x.length - i) ?_ ?_
   ·
    refine ⟨_, 0, rfl, ?_, rfl⟩
    exact ⟨by omega, fun j h1 h2 hji => absurd hji (by omega), Ch.au⟩
   rintro m0 g0 w1 ⟨i, hf5, hR0, rfl⟩
   refine W_as 5 hf5 rfl ?_
   clear hf5
   obtain ⟨hi, hn, hnw⟩ := hR0
   have hz := hnw.size
   refine W_seq (W_seq (W_region (L_r (r_mi rfl) (L_r (r_mv) ?_))))
   refine L_r (r_lenSl Tryz.underlying44 (by conv => lhs; whnf) Sl.au) (L_r (r_lss rfl rfl) (L_nil ?_))
   refine W_if rfl (fun h14 => ?_) (fun h14 => ?_)
   ·
    have hil : i < x.length := by omega
    have hil2 : i < y.length := by omega
    have hrp := cellsCC_row x i hil
    have hrq := cellsCC_row y i hil2
    have hpm := List.getElem_mem hil
    have hqm := List.getElem_mem hil2
    obtain ⟨p, hp⟩ : ∃ p, p = x[i] := ⟨_, rfl⟩
    obtain ⟨q, hq⟩ : ∃ q, q = y[i] := ⟨_, rfl⟩
    rw [← hp] at hrp hpm
    rw [← hq] at hrq hqm
    have h1p := (hxo p hpm).one
    have h1q := (hyo q hqm).one
    refine W_skip (W_seq (W_block (W_seq ?_)))
    refine W_draw (fun W => Sl W va 8 x.length (cellsCC x) ∧ Sl W vb 8 y.length (cellsCC y)) 10 (m := 10) (by kernel_rfl) rfl (fun w2 c2 hs2 => ?_)
    refine held (by exact ⟨Sl.au, Sl.au⟩) (fun hS => ?_)
    refine D_t 0 rfl (fun W hW => r_mv) ?_
    refine D_t 1 rfl (fun W hW => r_mi rfl) ?_
    refine D_t 2 rfl (fun W hW => r_ix Tryz.underlying44 (show _ = some 8 from rfl) (by conv => lhs; whnf) rfl (by first | exact hW.1 | exact hW.2)) ?_
    refine D_t 3 rfl (fun W hW => r_loadSlrow (us := [.string p.p.name, .string p.p.super, p.vl, .bool p.p.ifc, .bool p.p.abs, .bool p.p.fin, p.vf, p.vm]) Tryz.underlying26 rfl rfl rfl rfl (by first | exact hW.1 | exact hW.2) (by exact hrp)) ?_
    refine D_t 4 rfl (fun W hW => r_mv) ?_
    refine D_t 5 rfl (fun W hW => r_mi rfl) ?_
    refine D_t 6 rfl (fun W hW => r_ix Tryz.underlying44 (show _ = some 8 from rfl) (by conv => lhs; whnf) rfl (by first | exact hW.1 | exact hW.2)) ?_
    refine D_t 7 rfl (fun W hW => r_loadSlrow (us := [.string q.p.name, .string q.p.super, q.vl, .bool q.p.ifc, .bool q.p.abs, .bool q.p.fin, q.vf, q.vm]) Tryz.underlying26 rfl rfl rfl rfl (by first | exact hW.1 | exact hW.2) (by exact hrq)) ?_
    refine D_ev 8 (by kernel_rfl) rfl ?_
    refine L_call (.plain rfl) rfl rfl (r_call Tryz.func18 rfl rfl rfl (by rfl)) (rsame05_walk p q _ ((hxo p hpm).nw Ch.au) ((hyo q hqm).nw Ch.au) (hxs p hpm) (hys q hqm)) ?_
    rintro v25 w3 ⟨bb, rfl, hbb, c3⟩
    have hz3 := c3.size
    refine L_nil ?_
    refine heldK (by exact ⟨Sl.au, Sl.au⟩) (fun hS => ?_)
    refine D_t 9 rfl (fun W hW => r_not rfl) ?_
    refine D_done (by kernel_rfl) ?_
    refine W_bool rfl (fun h26 => ?_) (fun h26 => ?_)
    ·
     refine W_seq (W_region (L_r (r_ab rfl) (L_nil (W_ret ?_))))
     refine ret1 (v := .bool _) rfl rfl ?_
     first
     | exact ⟨true, rfl, ⟨fun _ => List.ext_getElem (by rw [List.length_map, List.length_map]; omega) fun j h1 h2 => by rw [List.getElem_map, List.getElem_map]; rw [List.length_map] at h1 h2; exact hn j h1 h2 (by omega), fun _ => rfl⟩, Ch.au⟩
     | exact ⟨false, rfl, ⟨fun h => absurd h (by decide), fun e => by have e2 := congrArg List.length e; rw [List.length_map, List.length_map] at e2; omega⟩, Ch.au⟩
     | (have hb0 : bb = false := by simpa using h26
        have hpq : ¬ p.p = q.p := fun e => by have k := hbb.2 e; rw [hb0] at k; cases k
        refine ⟨false, rfl, ⟨fun h => absurd h (by decide), fun e => absurd ?_ hpq⟩, Ch.au⟩
        have e2 : (x.map CC.p)[i]'(by rw [List.length_map]; exact hil) = (y.map CC.p)[i]'(by rw [List.length_map]; exact hil2) := by simp only [e]
        rw [List.getElem_map, List.getElem_map, ← hp, ← hq] at e2
        exact e2)
    ·
     refine W_skip (W_region (L_r (r_mi rfl) ?_))
     refine L_r (r_add rfl rfl (by first | exact wr_i64 (by omega) | rfl)) (L_r (r_ai rfl) (L_nil ?_))
     refine ⟨⟨fx2, fx2, trivial⟩, _, ?_, i + 1, rfl, ?_, rfl⟩
     · omega
     have hpq : p.p = q.p := hbb.1 (by simpa using h26)
     refine ⟨by omega, fun j h1 h2 hji => ?_, Ch.au⟩
     rcases Nat.lt_or_ge j i with h | h
     · exact hn j h1 h2 h
     ·
      have e : j = i := by omega
      subst e
      rw [← hp, ← hq]; exact hpq
   ·
    refine W_exit ?_
    repeat (first | refine blk_hit ?_ | refine blk_miss rfl ?_)
    refine W_seq (W_region (L_r (r_ab rfl) (L_nil (W_ret ?_))))
    refine ret1 (v := .bool _) rfl rfl ?_
    first
    | exact ⟨true, rfl, ⟨fun _ => List.ext_getElem (by rw [List.length_map, List.length_map]; omega) fun j h1 h2 => by rw [List.getElem_map, List.getElem_map]; rw [List.length_map] at h1 h2; exact hn j h1 h2 (by omega), fun _ => rfl⟩, Ch.au⟩
    | exact ⟨false, rfl, ⟨fun h => absurd h (by decide), fun e => by have e2 := congrArg List.length e; rw [List.length_map, List.length_map] at e2; omega⟩, Ch.au⟩
    | (have hb0 : bb = false := by simpa using h26
       have hpq : ¬ p.p = q.p := fun e => by have k := hbb.2 e; rw [hb0] at k; cases k
       refine ⟨false, rfl, ⟨fun h => absurd h (by decide), fun e => absurd ?_ hpq⟩, Ch.au⟩
       have e2 : (x.map CC.p)[i]'(by rw [List.length_map]; exact hil) = (y.map CC.p)[i]'(by rw [List.length_map]; exact hil2) := by simp only [e]
       rw [List.getElem_map, List.getElem_map, ← hp, ← hq] at e2
       exact e2)
end Go.Proofs.YthpknpfhpkkheaaGreatDoor

namespace Go.Proofs.YthpknpfhpkkheaaGreatDoor
open Go Go.RowKit
set_option linter.unusedVariables false
set_option linter.unusedSimpArgs false
set_option maxRecDepth 100000
theorem inter_snoc (sep : List UInt8) : ∀ (z : List (List UInt8)) (x : List UInt8), z ≠ [] → Lib.join (z ++ [x]) sep = Lib.join z sep ++ (sep ++ x)
  | [], x, h => absurd rfl h
  | a :: z, x, _ => by
    rw [List.cons_append, Lib.join_cons, Lib.join_cons]
    unfold Lib.joinTail
    rw [List.map_append, List.flatten_append, List.append_assoc]
    simp
abbrev jn (z : List ByteArray) : List UInt8 := Lib.join (z.map (·.data.toList)) [44]
theorem jn_one (x : ByteArray) : jn [x] = bs x := Lib.join_one _ _
theorem jn_snoc (z : List ByteArray) (x : ByteArray) (h : z ≠ []) : jn (z ++ [x]) = jn z ++ ([44] ++ bs x) := by
  unfold jn
  rw [List.map_append]
  exact inter_snoc _ _ _ (by simpa using h)
set_option maxHeartbeats 1000000 in
theorem rsign05_walk (x : MM) (w0 : World) (hx : x.ok w0) (hl : x.m.params.length ≤ 40) (hs : ∀ p ∈ x.m.params, p.size ≤ 1000000000000) (hr : x.m.result.size ≤ 1000000000000) : Does Tryz.prog 20 #[x.v] w0 (fun r w' => r = .string (signS x.m) ∧ Nw w0 w') := by
  have h1x := hx.one
  have hxp := hx.p
  have e40 : ({ data := #[40] } : ByteArray).size = 1 := rfl
  have e41 : ({ data := #[41] } : ByteArray).size = 1 := rfl
  have e44 : ({ data := #[44] } : ByteArray).size = 1 := rfl
  refine fn_of (n := 28) (args := [x.v]) Tryz.func20 rfl rfl rfl (W_seq (W_region ?_))
  refine L_new (.plain rfl) rfl rfl (r_boxa rfl) (fun w1 b1 hb1 eb1 hs1 c1 => (L_r (r_as rfl) (L_nil (W_seq (W_region (L_r (r_as rfl) (L_nil (W_seq ?_))))))))
  refine W_seq (W_region (L_r (r_ai rfl) (L_nil (W_block ?_))))
  refine W_loopF [1] (fun mz_ f W => ∃ (i : Nat) (B : ByteArray), f 4 = .int .i64 i ∧ f 3 = .string B ∧ (i ≤ x.m.params.length ∧ B = { data := #[40] } ++ sb (jn (x.m.params.take i)) ∧ B.size ≤ 1 + 1000000000001 * i ∧ Nw w0 W ∧ Bk W b1 #[.string x.m.name, x.vp, .string x.m.result, .bool x.m.abs, .int .i64 x.m.locals, x.vc, x.vk] 43) ∧ mz_ = x.m.params.length - i) ?_ ?_
  ·
   refine ⟨_, 0, { data := #[40] }, rfl, rfl, ?_, rfl⟩
   exact ⟨by omega, rfl, by omega, Ch.au, Bk.au⟩
  rintro m0 g0 w2 ⟨i, B, hf4, hf3, hR0, rfl⟩
  refine W_as 4 hf4 rfl ?_
  refine W_as 3 hf3 rfl ?_
  clear hf4 hf3
  obtain ⟨hi, hB, hBl, hnw, hbk⟩ := hR0
  have hz := hnw.size
  refine W_seq (W_seq (W_region (L_r (r_mi rfl) ?_)))
  refine L_r (r_fieldb Tryz.underlying43 rfl (show _ = some 1 from rfl) rfl rfl (show _ = 1 from rfl)) (L_r (r_lb rfl rfl) ?_)
  refine L_r (r_lenSl Tryz.underlying22 (by conv => lhs; whnf) Sl.au) (L_r (r_lss rfl rfl) (L_nil ?_))
  refine W_if rfl (fun h9 => ?_) (fun h9 => ?_)
  ·
   have hil : i < x.m.params.length := by omega
   have hrow := scells_get x.m.params i hil
   have hpm := List.getElem_mem hil
   obtain ⟨p, hp⟩ : ∃ p, p = x.m.params[i] := ⟨_, rfl⟩
   rw [← hp] at hrow hpm
   have hps := hs p hpm
   refine W_skip (W_seq (W_block (W_seq (W_seq (W_region (L_r (r_mi rfl) (L_r (r_gtr rfl rfl) (L_nil ?_))))))))
   refine W_endF [1, 4] (fun f W => ∃ (B2 : ByteArray), f 3 = .string B2 ∧ (B2 = (if i = 0 then B else B ++ { data := #[44] }) ∧ B2.size ≤ B.size + 1 ∧ Nw w0 W ∧ Bk W b1 #[.string x.m.name, x.vp, .string x.m.result, .bool x.m.abs, .int .i64 x.m.locals, x.vc, x.vk] 43)) ?_ ?_
   ·
    refine W_if rfl (fun h13 => ?_) (fun h13 => ?_)
    ·
     refine W_region (L_r (r_ms rfl) ?_)
     refine L_r (r_adds rfl rfl (by first | omega | (simp only [ByteArray.size_append]; omega))) (L_r (r_as rfl) (L_nil ?_))
     refine ⟨⟨fx2, fx2, trivial⟩, if i = 0 then B else B ++ { data := #[44] }, (by first | (rw [if_neg (by omega)]; rfl) | (rw [if_pos (by omega)]; rfl)), ?_⟩
     exact ⟨rfl, by split <;> first | omega | (rw [ByteArray.size_append]; omega), Ch.au, Bk.au⟩
    ·
     refine W_skip ?_
     refine ⟨⟨fx2, fx2, trivial⟩, if i = 0 then B else B ++ { data := #[44] }, (by first | (rw [if_neg (by omega)]; rfl) | (rw [if_pos (by omega)]; rfl)), ?_⟩
     exact ⟨rfl, by split <;> first | omega | (rw [ByteArray.size_append]; omega), Ch.au, Bk.au⟩
   rintro gct13 w3 ⟨B2, hf3, hCt13⟩
   refine W_as 3 hf3 rfl ?_
   clear hf3
   obtain ⟨hB2, hB2l, hnw2, hbk2⟩ := hCt13
   have hz2 := hnw2.size
   refine W_region (L_r (r_ms rfl) ?_)
   refine L_r (r_fieldb Tryz.underlying43 rfl (show _ = some 1 from rfl) rfl rfl (show _ = 1 from rfl)) (L_r (r_lb rfl rfl) (L_r (r_mi rfl) ?_))
   refine L_r (r_ix Tryz.underlying22 (show _ = some 1 from rfl) (by conv => lhs; whnf) rfl Sl.au) ?_
   refine L_r (r_loadSl rfl rfl Sl.au (by first | exact hrow | assumption)) ?_
   refine L_r (r_adds rfl rfl (by first | omega | (simp only [ByteArray.size_append]; omega))) (L_r (r_as rfl) (L_nil (W_region (L_r (r_mi rfl) ?_))))
   refine L_r (r_add rfl rfl (by first | exact wr_i64 (by omega) | rfl)) (L_r (r_ai rfl) (L_nil ?_))
   refine ⟨⟨fx2, trivial⟩, _, ?_, i + 1, B2 ++ p, rfl, rfl, ?_, rfl⟩
   · omega
   refine ⟨by omega, ?_, by rw [ByteArray.size_append]; omega, Ch.au, Bk.au⟩
   rw [List.take_succ_eq_append_getElem hil, ← hp, hB2]
   by_cases h0 : i = 0
   ·
    rw [if_pos h0, hB, h0]
    rw [List.take_zero, List.nil_append, jn_one, sb_bs]
    rfl
   ·
    rw [if_neg h0, hB, jn_snoc _ _ (by intro e; have e2 := congrArg List.length e; rw [List.length_take] at e2; simp only [List.length_nil] at e2; omega), sb_append, sb_append, sb_bs]
    simp only [ByteArray.append_assoc]
    rfl
  ·
   refine W_exit ?_
   repeat (first | refine blk_hit ?_ | refine blk_miss rfl ?_)
   refine W_seq (W_region (L_r (r_ms rfl) ?_))
   refine L_r (r_adds rfl rfl (by first | omega | (simp only [ByteArray.size_append]; omega))) ?_
   refine L_r (r_fieldb Tryz.underlying43 rfl (show _ = some 1 from rfl) rfl rfl (show _ = 2 from rfl)) (L_r (r_lb rfl rfl) ?_)
   refine L_r (r_adds rfl rfl (by first | omega | (simp only [ByteArray.size_append]; omega))) (L_r (r_as rfl) (L_nil (W_ret ?_)))
   refine ret1 (v := .string _) rfl rfl ?_
   refine ⟨?_, Ch.au⟩
   rw [hB, show i = x.m.params.length by omega, List.take_length]
   rfl
end Go.Proofs.YthpknpfhpkkheaaGreatDoor

namespace Go.Proofs.YthpknpfhpkkheaaGreatDoor
open Go Go.RowKit
set_option linter.unusedVariables false
set_option linter.unusedSimpArgs false
set_option maxRecDepth 100000
theorem get_of {c : Cls} (hp : clsP c) (hf : ¬ manyP c) (hn : insN c) : getC (clsB c) ∧ (rCls (clsB c) (0, 0)).1 = c := by
  have h := rCls_of (l := clsB c) (good_of hp hf hn) 0 [] (by rw [List.append_nil]; rfl)
  have hk : checkCls c = 0 := by unfold checkCls; rw [if_neg hf, if_pos hp]
  unfold getC
  rw [h]
  refine ⟨⟨?_, hk⟩, rfl⟩
  unfold endE
  rw [if_neg]
  intro k
  apply k.2
  show 0 + (clsB c).length = _
  omega
def N0m : Mth := ⟨{ data := #[103, 111] }, [], { data := #[105, 110, 116] }, false, 1, [⟨{ data := #[105, 110, 116] }, 1, { data := #[] }⟩, ⟨{ data := #[114, 101, 116, 117, 114, 110] }, 0, { data := #[] }⟩], []⟩
def N0f : CF := ⟨{ data := #[110, 101, 120, 116] }, { data := #[78, 111, 100, 101] }, false⟩
def N0 : Cls := ⟨{ data := #[78, 111, 100, 101] }, { data := #[79, 98, 106, 101, 99, 116] }, [], false, false, false, [N0f], [N0m]⟩
theorem N0_few : ¬ manyP N0 := by
  rintro (⟨m, hm, h⟩ | h | h | h)
  ·
   have hm' : m ∈ [N0m] := hm
   rw [List.mem_singleton] at hm'
   subst hm'
   revert h
   decide
  · exact absurd h (by decide)
  · exact absurd h (by decide)
  · exact absurd h (by decide)
theorem N0_ins : insN N0 := by
  intro m hm
  have hm' : m ∈ [N0m] := hm
  rw [List.mem_singleton] at hm'
  subst hm'
  intro x hx
  have hx' : x = ⟨{ data := #[105, 110, 116] }, 1, { data := #[] }⟩ ∨ x = ⟨{ data := #[114, 101, 116, 117, 114, 110] }, 0, { data := #[] }⟩ := by simpa [N0m] using hx
  rcases hx' with rfl | rfl <;> decide
theorem N0_m : mthP N0m := by
  refine ⟨by decide +kernel, fun p hp => absurd hp (by simp [N0m]), .inr (by decide +kernel), ?_⟩
  unfold bodyP
  rw [if_neg (by decide)]
  exact ⟨by decide, by decide, by decide +kernel, fun x hx => absurd hx (by simp [N0m])⟩
theorem N0_ok : clsP N0 := by
  refine ⟨by decide +kernel, by decide +kernel, by decide +kernel, fun l hl => absurd hl (by simp [N0]), by simp [N0], fun f hf => ?_, by simp [N0], fun m hm => ?_, by simp [N0], fun h => absurd h (by decide), by decide, fun m hm h => ?_⟩
  ·
   have hf' : f ∈ [N0f] := hf
   rw [List.mem_singleton] at hf'
   subst hf'
   exact ⟨by decide +kernel, by decide +kernel⟩
  ·
   have hm' : m ∈ [N0m] := hm
   rw [List.mem_singleton] at hm'
   subst hm'
   exact N0_m
  ·
   have hm' : m ∈ [N0m] := hm
   rw [List.mem_singleton] at hm'
   subst hm'
   exact absurd h (by decide)
theorem N0_check : checkCls N0 = 0 := by unfold checkCls; rw [if_neg N0_few, if_pos N0_ok]
theorem N0_sz : N0.sz := by
  refine ⟨by decide, by decide, fun x hx => absurd hx (by simp [N0]), fun f hf => ?_, fun m hm => ?_, by decide, by decide, by decide⟩
  ·
   have hf' : f ∈ [N0f] := hf
   rw [List.mem_singleton] at hf'
   subst hf'
   exact ⟨by decide, by decide⟩
  ·
   have hm' : m ∈ [N0m] := hm
   rw [List.mem_singleton] at hm'
   subst hm'
   refine ⟨by decide, fun x hx => absurd hx (by simp [N0m]), by decide, fun x hx => ?_, fun x hx => absurd hx (by simp [N0m]), by decide, by decide, by decide⟩
   have hx' : x = ⟨{ data := #[105, 110, 116] }, 1, { data := #[] }⟩ ∨ x = ⟨{ data := #[114, 101, 116, 117, 114, 110] }, 0, { data := #[] }⟩ := by simpa [N0m] using hx
   rcases hx' with rfl | rfl <;> decide
abbrev N0y (v10 : Value) : MM := ⟨N0m, .slice none 0 0, v10, .slice none 0 0⟩
abbrev N0c (v7 v10 v12 : Value) : CC := ⟨N0, .slice none 0 0, v7, v12, [N0y v10]⟩
theorem N0_cok {v7 v10 v12 : Value} {w : World} (h7 : Sl w v7 3 1 (cellsCF [N0f])) (h10 : Sl w v10 3 2 (cellsI N0m.code)) (h12 : Sl w v12 7 1 (cellsCM [N0y v10])) : (N0c v7 v10 v12).ok w :=
  ⟨Sl.nil _ _, h7, h12, rfl, fun y hy => by rw [List.mem_singleton] at hy; subst hy; exact ⟨Sl.nil _ _, h10, Sl.nil _ _⟩⟩
theorem put0 (g : Nat) (v7 v10 v12 : Value) (w : World) (hG : Gv g w) (hb : g ≤ w.heap.size) (hc : (N0c v7 v10 v12).ok w) : Does Tryz.prog 15 #[(N0c v7 v10 v12).v] w (fun r w' => ∃ v', r = .tuple #[v', .int .i64 0] ∧ Ow w' w.heap.size 5 1 v' (clsB N0).length ((clsB N0).map b8) ∧ Nw w w') := by
  refine (cput_walk g (N0c v7 v10 v12) w hG hb hc N0_sz N0_ins).mono ?_
  rintro r w' ⟨v', h, h1, h2, c⟩
  exact ⟨v', by rw [h]; show _ = Value.tuple #[v', .int .i64 0]; rw [← N0_check], h2 N0_check, c⟩
theorem get0 (g : Nat) (v : Value) (w : World) (hG : Gv g w) (hb : g ≤ w.heap.size) (hv : Sl w v 1 (clsB N0).length ((clsB N0).map b8)) : Does Tryz.prog 16 #[v] w (fun r w' => ∃ x : CC, r = .tuple #[x.v, .int .i64 0] ∧ x.p = N0 ∧ x.own w.heap.size w' ∧ Nw w w') := by
  obtain ⟨g1, g2⟩ := get_of N0_ok N0_few N0_ins
  refine (cget_walk g v (clsB N0) w hG hb hv (by have := clsB_le N0_ok N0_few N0_ins; omega)).mono ?_
  rintro r w' ⟨x, h, h1, h2, c⟩
  rw [if_pos g1] at h h1
  rw [g2] at h1
  exact ⟨x, h, h1, h2, c⟩
def S0m : Mth := ⟨{ data := #[] }, [{ data := #[105, 110, 116] }, { data := #[78, 111, 100, 101, 91, 93] }], { data := #[116, 101, 120, 116] }, false, 0, [], []⟩
theorem sign0 (v : Value) (w : World) (hv : Sl w v 1 2 (scells S0m.params)) : Does Tryz.prog 19 #[(⟨S0m, v, .slice none 0 0, .slice none 0 0⟩ : MM).v] w (fun r w' => r = .string { data := #[40, 105, 110, 116, 44, 78, 111, 100, 101, 91, 93, 41, 116, 101, 120, 116] } ∧ Nw w w') := by
  refine (sign_walk ⟨S0m, v, .slice none 0 0, .slice none 0 0⟩ w ⟨hv, Sl.nil _ _, Sl.nil _ _⟩ (show S0m.params.length ≤ _ by decide) (show (joinS S0m.params { data := #[44] }).size ≤ _ by decide +kernel) (show S0m.result.size ≤ _ by decide)).mono ?_
  rintro r w' ⟨rfl, c⟩
  exact ⟨congrArg Value.string (show signS S0m = _ by decide +kernel), c⟩
theorem check0 (g : Nat) (v7 v10 v12 : Value) (w : World) (hG : Gv g w) (hb : g ≤ w.heap.size) (hc : (N0c v7 v10 v12).ok w) : Does Tryz.prog 13 #[(N0c v7 v10 v12).v] w (fun r w' => r = .int .i64 0 ∧ Nw w w') := by
  refine (ccheck_walk g (N0c v7 v10 v12) w hG hb hc N0_sz).mono ?_
  rintro r w' ⟨h, c⟩
  exact ⟨by rw [h]; exact congrArg (Value.int .i64) N0_check, c⟩
set_option maxHeartbeats 4000000 in
theorem awake05_walk (g : Nat) (w0 : World) (hG : Gv g w0) (hb : g ≤ w0.heap.size) : Does Tryz.prog 12 #[] w0 (fun r w' => r = .bool true ∧ Nw w0 w') := by
  refine fn_of (n := 51) (args := []) Tryz.func12 rfl rfl rfl (W_seq (W_region (L_r (r_ab rfl) (L_nil (W_seq (W_region ?_))))))
  refine L_r (r_build1 (pl := [(0, 1), (1, 1), (2, 1)]) (vs := [(0, .string _), (1, .string _)]) (cells := [_, _, _]) Tryz.underlying52 rfl rfl (by rfl) rfl (by rfl)) ?_
  refine L_buildrow [[_, _, _]] Tryz.underlying23 (show _ = some (some _, 3, _) from rfl) rfl rfl (.plain rfl) rfl (by rfl) (by rfl) rfl (fun b7 w1 hb7 hv7 eb1 hs1 c1 => ?_)
  simp only [List.flatten_cons, List.flatten_nil, List.append_nil, List.cons_append, List.nil_append] at hb7 hv7
  refine L_r (r_build1 (pl := [(0, 1), (1, 1), (2, 1)]) (vs := [(0, .string _), (1, .int _ _)]) (cells := [_, _, _]) Tryz.underlying54 rfl rfl (by rfl) rfl (by rfl)) ?_
  refine L_r (r_build1 (pl := [(0, 1), (1, 1), (2, 1)]) (vs := [(0, .string _)]) (cells := [_, _, _]) Tryz.underlying54 rfl rfl (by rfl) rfl (by rfl)) ?_
  refine L_buildrow [[_, _, _], [_, _, _]] Tryz.underlying40 (show _ = some (some _, 3, _) from rfl) rfl rfl (.plain rfl) rfl (by rfl) (by rfl) rfl (fun b10 w2 hb10 hv10 eb2 hs2 c2 => ?_)
  simp only [List.flatten_cons, List.flatten_nil, List.append_nil, List.cons_append, List.nil_append] at hb10 hv10
  refine L_r (r_build1 (pl := [(0, 1), (1, 1), (2, 1), (3, 1), (4, 1), (5, 1), (6, 1)]) (vs := [(0, .string _), (2, .string _), (4, .int _ _), (5, .slice _ _ _)]) (cells := [_, _, _, _, _, _, _]) Tryz.underlying43 rfl rfl (by rfl) rfl (by rfl)) ?_
  refine L_buildrow [[_, _, _, _, _, _, _]] Tryz.underlying24 (show _ = some (some _, 7, _) from rfl) rfl rfl (.plain rfl) rfl (by rfl) (by rfl) rfl (fun b12 w3 hb12 hv12 eb3 hs3 c3 => ?_)
  simp only [List.flatten_cons, List.flatten_nil, List.append_nil, List.cons_append, List.nil_append] at hb12 hv12
  refine L_r (r_build1 (pl := [(0, 1), (1, 1), (2, 1), (3, 1), (4, 1), (5, 1), (6, 1), (7, 1)]) (vs := [(0, .string _), (1, .string _), (6, .slice _ _ _), (7, .slice _ _ _)]) (cells := [_, _, _, _, _, _, _, _]) Tryz.underlying26 rfl rfl (by rfl) rfl (by rfl)) ?_
  refine L_new (.plain rfl) rfl rfl (r_alloca rfl) (fun w4 b1 hb1 eb4 hs4 c4 => ?_)
  refine L_storerow (.plain rfl) rfl rfl Bk.au (by first | rfl | (simp; done) | assumption) (by first | rfl | assumption) (by first | rfl | (simp [Value.oneCell']; done) | assumption) (fun w5 hb5 hs5 c5 => (L_nil (W_seq (W_region ?_))))
  refine L_r (r_loadrow Tryz.underlying26 rfl rfl Bk.au (by first | rfl | assumption)) ?_
  refine L_call (.plain rfl) rfl rfl (r_call Tryz.func15 rfl rfl rfl (by rfl)) (put0 g _ _ _ _ (hG.nw Ch.au hb) (by omega) (N0_cok Sl.au Sl.au Sl.au)) ?_
  rintro v16 w6 ⟨vp, rfl, hvp, c6⟩
  have hz6 := c6.size
  refine L_r (r_mv) (L_r (r_ext2_0 rfl) (L_r (r_ext2_1 rfl) (L_r (r_av) (L_r (r_ai rfl) (L_nil (W_seq (W_region (L_r (r_mv) ?_))))))))
  refine L_call (.plain rfl) rfl rfl (r_call Tryz.func16 rfl rfl rfl (by rfl)) (get0 g _ _ (hG.nw Ch.au hb) (by omega) Sl.au) ?_
  rintro v21 w7 ⟨x, rfl, hxp, hxo, c7⟩
  have hz7 := c7.size
  have h1x := hxo.ok.one
  refine L_r (r_mv) (L_r (r_ext2_0 rfl) (L_r (r_ext2_1 rfl) ?_))
  refine L_new (.plain rfl) rfl rfl (r_alloca rfl) (fun w8 b4 hb4 eb8 hs8 c8 => ?_)
  refine L_storerow (.plain rfl) rfl rfl Bk.au (by first | rfl | (simp; done) | assumption) (by first | rfl | assumption) (by first | rfl | (simp [Value.oneCell']; done) | assumption) (fun w9 hb9 hs9 c9 => (L_r (r_ai rfl) (L_nil (W_seq (W_region ?_)))))
  refine L_build1 [.string _, .string _] Tryz.underlying22 rfl rfl rfl (.plain rfl) rfl (by rfl) (by rfl) (by rfl) (fun b24 w10 hb24 hv24 eb10 hs10 c10 => ?_)
  refine L_r (r_build1 (pl := [(0, 1), (1, 1), (2, 1), (3, 1), (4, 1), (5, 1), (6, 1)]) (vs := [(1, .slice _ _ _), (2, .string _)]) (cells := [_, _, _, _, _, _, _]) Tryz.underlying43 rfl rfl (by rfl) rfl (by rfl)) ?_
  refine L_call (.plain rfl) rfl rfl (r_call Tryz.func19 rfl rfl rfl (by rfl)) (sign0 _ _ Sl.au) ?_
  rintro v26 w11 ⟨rfl, c11⟩
  have hz11 := c11.size
  refine L_r (r_eqls rfl rfl) (L_r (r_mb rfl) ?_)
  refine L_as (v := .bool _) (v' := .bool true) 28 rfl (dec_t (by rfl)).symm ?_
  refine L_g (r_mi rfl) ?_
  refine L_g (r_eql rfl rfl) (L_r (r_pt rfl rfl) (L_r (r_mb rfl) ?_))
  refine L_as (v := .bool _) (v' := .bool true) 32 rfl (dec_t (by rfl)).symm ?_
  refine L_g (r_mi rfl) ?_
  refine L_g (r_eql rfl rfl) (L_r (r_pt rfl rfl) (L_r (r_mb rfl) ?_))
  refine L_as (v := .bool _) (v' := .bool true) 36 rfl (dec_t (by rfl)).symm ?_
  refine L_g (r_loadrow Tryz.underlying26 rfl rfl Bk.au (by first | rfl | assumption)) ?_
  refine L_g (r_loadrow Tryz.underlying26 rfl rfl Bk.au (by first | rfl | assumption)) ?_
  refine L_call (.yes 12 true rfl rfl) rfl rfl (r_call Tryz.func18 rfl rfl rfl (by rfl)) (rsame05_walk (N0c _ _ _) x _ ((N0_cok Sl.au Sl.au Sl.au)) ((hxo.nw Ch.au).ok) N0_sz (by rw [hxp]; exact N0_sz)) ?_
  rintro v39 w12 ⟨b39, rfl, hb39, c12⟩
  have hz12 := c12.size
  obtain rfl : b39 = true := hb39.2 hxp.symm
  refine L_r (r_pt rfl rfl) (L_r (r_mb rfl) ?_)
  refine L_as (v := .bool _) (v' := .bool true) 41 rfl (congrArg Value.bool (by rfl)) ?_
  refine L_g (r_loadrow Tryz.underlying26 rfl rfl Bk.au (by first | rfl | assumption)) ?_
  refine L_call (.yes 17 true rfl rfl) rfl rfl (r_call Tryz.func13 rfl rfl rfl (by rfl)) (check0 g _ _ _ _ (hG.nw Ch.au hb) (by omega) (N0_cok Sl.au Sl.au Sl.au)) ?_
  rintro v43 w13 ⟨rfl, c13⟩
  have hz13 := c13.size
  refine L_g (r_eql rfl rfl) (L_r (r_pt rfl rfl) (L_r (r_mb rfl) ?_))
  refine L_as (v := .bool _) (v' := .bool true) 46 rfl (dec_t (by rfl)).symm ?_
  refine L_g (r_loadrow Tryz.underlying26 rfl rfl Bk.au (by first | rfl | assumption)) ?_
  refine L_g (r_loadrow Tryz.underlying26 rfl rfl Bk.au (by first | rfl | assumption)) ?_
  refine L_call (.yes 22 true rfl rfl) rfl rfl (r_call Tryz.func21 rfl rfl rfl (by rfl)) (same_walk (N0c _ _ _) x _ ((N0_cok Sl.au Sl.au Sl.au)) ((hxo.nw Ch.au).ok) N0_sz (by rw [hxp]; exact N0_sz)) ?_
  rintro v49 w14 ⟨b49, rfl, hb49, c14⟩
  have hz14 := c14.size
  obtain rfl : b49 = true := hb49.2 hxp.symm
  refine L_r (r_pt rfl rfl) (L_r (r_ab rfl) (L_nil (W_ret ?_)))
  refine ret1 (v := .bool _) rfl rfl ?_
  exact ⟨rfl, Ch.au⟩
end Go.Proofs.YthpknpfhpkkheaaGreatDoor

namespace Go.Proofs.YthpknpfhpkkheaaGreatDoor
open Go Go.RowKit Go.Lib
set_option linter.unusedVariables false
set_option maxRecDepth 100000
/-- What the rows list. -/
noncomputable def laidL : List (String × DataW Unit) := Rows.classChecksRow.laid
theorem laid_plain (W : World) : laidMetH Tryz.prog laidL W = laidMet Tryz.prog laidL W := MakeChecks.laidMetH_plain _ _ _ (by kernel_rfl)
theorem accept_eq : (Rows.laid_unicode_utf8_acceptRanges : DataW Unit) = Lib.acceptData := by kernel_rfl
theorem first_eq : Rows.laid_unicode_utf8_first = Lib.firstData := by kernel_rfl
def opD (o : ByteArray × Bool × Bool) : DataW Unit := .agg [.lit (.string (bs o.1)), .lit (.bool o.2.1), .lit (.bool o.2.2)]
theorem ops_eq : (Rows.laid_squinch_code_ops : DataW Unit) = .agg (opT.map opD) := by kernel_rfl
theorem lt_cell {W : World} {a : Addr} {v : Value} (hc : W.cell? a = some v) : a.block < W.heap.size := by
  rcases Nat.lt_or_ge a.block W.heap.size with h' | h'
  · exact h'
  · simp [World.cell?, Array.getElem?_eq_none h'] at hc
theorem lt_blk {W : World} {g : Nat} {o : Obj} (hc : W.heap[g]? = some o) : g < W.heap.size := (Array.getElem?_eq_some_iff.1 hc).1
/-- A row of an operator. -/
theorem op_cells {W : World} {fuel : Nat} {cs : List Value} {o : ByteArray × Bool × Bool} {p : List MemPlace} (h : DataW.trod (fun _ => ()) Tryz.prog W 0 (fun _ => true) false fuel 158 cs = some (opD o, p)) : cs = opr o := by
  obtain ⟨xs, m, _, hx, hl, hxl, hf⟩ := DataW.trod_struct Tryz.underlying158 h
  have h0 := congrArg Prod.fst hx
  have hl3 : cs.length = 3 := hl
  have hf2 : ∀ (i : Nat) (f : Field), _ = some f → DataW.trod (fun _ => ()) Tryz.prog W 0 (fun _ => true) false m f.type ((cs.drop f.offset).take (Tryz.prog.cellsOf f.type)) = xs[i]? := hf
  have hxl3 : xs.length = 3 := hxl
  match cs, hl3, xs, hxl3 with
  | [c0, c1, c2], _, [x0, x1, x2], _ =>
    have g0 := hf2 0 _ rfl
    have g1 := hf2 1 _ rfl
    have g2 := hf2 2 _ rfl
    obtain ⟨s0, e0, k0⟩ := DataW.trod_string Tryz.underlying9 g0
    obtain ⟨s1, e1, k1⟩ := DataW.trod_bool Tryz.underlying4 g1
    obtain ⟨s2, e2, k2⟩ := DataW.trod_bool Tryz.underlying4 g2
    obtain rfl : c0 = .string s0 := by injection e0
    obtain rfl : c1 = .bool s1 := by injection e1
    obtain rfl : c2 = .bool s2 := by injection e2
    subst k1 k2
    obtain rfl : x0 = _ := k0.1
    simp only [opD, List.map_cons, List.map_nil] at h0
    injection h0 with h0
    injection h0 with a0 h0
    injection h0 with a1 h0
    injection h0 with a2 h0
    injection a0 with a0
    injection a0 with a0
    injection a1 with a1
    injection a1 with a1
    injection a2 with a2
    injection a2 with a2
    have e : s0 = o.1 := bs_inj.1 a0.symm
    rw [e, ← a1, ← a2]
theorem ops_of {W : World} (h : VarReads Tryz.prog W "squinch/code.ops" (.agg (opT.map opD))) : (∀ (i : Nat) (u : Value), opL[i]? = some u → W.cell? ⟨0, i, none⟩ = some u) ∧ ∃ cs t fr, W.heap[0]? = some (.cells cs t fr) := by
  obtain ⟨g, t, cs, fuel, p, hg, hty, hvar, hd⟩ := h
  obtain rfl := Option.some.inj ((show Tryz.prog.globalNamed "squinch/code.ops" = some 0 by kernel_rfl).symm.trans hg)
  obtain rfl := Option.some.inj ((show (Tryz.prog.globals[0]?).map (·.type) = some 159 by kernel_rfl).symm.trans hty)
  constructor
  ·
   intro k u hu
   have hk : k < 126 := by rw [← opL_len]; exact (List.getElem?_eq_some_iff.1 hu).1
   have hi : k / 3 < 42 := by omega
   obtain ⟨fuel', d, q, hd1, hd2⟩ := array_elem (n := 42) Tryz.underlying159 hd (k / 3) hi
   have hi' : k / 3 < opT.length := by rw [opT_len]; exact hi
   rw [List.getElem?_map, List.getElem?_eq_getElem hi', Option.map_some] at hd1
   injection hd1 with hd1
   subst hd1
   have hrow := op_cells hd2
   have h3 : Tryz.prog.cellsOf 158 = 3 := by kernel_rfl
   rw [h3] at hrow
   have hj : k % 3 < 3 := by omega
   have hjl : k % 3 < (opr opT[k / 3]).length := hj
   have h4 := opL_row (k / 3) hi' (k % 3) _ (List.getElem?_eq_getElem hjl)
   rw [show k / 3 * 3 + k % 3 = k by omega, hu] at h4
   injection h4 with h4
   rw [World.var?_cell hg hvar k, ← Array.getElem?_toList]
   have h5 : ((cs.toList.drop (k / 3 * 3)).take 3)[k % 3]? = some u := by rw [hrow, List.getElem?_eq_getElem hjl, h4]
   rw [List.getElem?_take_of_lt hj, List.getElem?_drop, show k / 3 * 3 + k % 3 = k by omega] at h5
   exact h5
  ·
   unfold World.var? at hvar
   rw [hg, Option.bind_some] at hvar
   split at hvar
   ·
    rename_i cs' t' fr' hh
    exact ⟨_, _, _, hh⟩
   · cases hvar
/-- What the walks ask of the first world. -/
structure Lv (W : World) : Prop where
  gv : Gv W.heap.size W
theorem lv_of {W : World} {l : List (String × DataW Unit)} (h : laidMet Tryz.prog l W)
    (m1 : ("unicode/utf8.first", Lib.firstData) ∈ l) (m2 : ("unicode/utf8.acceptRanges", Lib.acceptData) ∈ l) (m3 : ("squinch/code.ops", .agg (opT.map opD)) ∈ l) : Lv W := by
  have ht : Lib.Utf8Tabs (Tryz.laysValid_ren.g 3) (Tryz.laysValid_ren.g 4) W :=
    utf8Tabs_of_readsT (U8Types.of196 Tryz.laysValid) ⟨by kernel_rfl, by kernel_rfl, by kernel_rfl, by kernel_rfl, by kernel_rfl, by kernel_rfl, by kernel_rfl⟩ (Lib.laidMet.reads h m1) (Lib.laidMet.reads h m2)
  obtain ⟨o1, o2⟩ := ops_of (Lib.laidMet.reads h m3)
  obtain ⟨cs, t2, fr2, hb⟩ := id o2
  exact ⟨⟨⟨ht, lt_cell (ht.1 0 (by decide)), lt_cell (ht.2 0 (by decide)).1⟩, o1, o2, lt_blk hb⟩⟩
theorem tabs_of {W : World} (h : laidMetH Tryz.prog laidL W) : Gv W.heap.size W := by
  rw [laid_plain] at h
  refine (lv_of h ?_ ?_ ?_).gv
  · rw [← first_eq]; exact .tail _ (.tail _ (.head _))
  · rw [← accept_eq]; exact .head _
  · rw [← ops_eq]; exact .tail _ (.head _)
/-- The settled world, the listed variables laid. -/
noncomputable def laidWorld (os : Os) : World := World.laidAll Tryz.prog os laidL
theorem laid_met (os : Os) (args : Array Value) : laidMetH Tryz.prog laidL ((laidWorld os).forCall (fun _ _ => 0) ⟨#[], args, []⟩).memory := by
  rw [laid_plain]
  exact laidMet_laidAll args (by kernel_rfl) (by kernel_rfl)
theorem laid_shaped (os : Os) (args : Array Value) : ((laidWorld os).forCall (fun _ _ => 0) ⟨#[], args, []⟩).Shaped Tryz.prog := World.shaped_of_ZipB (by kernel_rfl) (by kernel_rfl)
end Go.Proofs.YthpknpfhpkkheaaGreatDoor

namespace Go.Proofs.YthpknpfhpkkheaaGreatDoor
open Go Go.RowKit
set_option linter.unusedVariables false
set_option linter.unusedSimpArgs false
set_option maxRecDepth 100000
theorem zag_rng {n : Nat} (h : n ≤ 18446744073709551615) : -9223372036854775808 ≤ zagI (n : Int) ∧ zagI (n : Int) ≤ 9223372036854775807 := by
  unfold zagI; split <;> omega
theorem takeN_n (l : List UInt8) (t : Tk) (h : ∀ x ∈ t.out, -9223372036854775808 ≤ x.n ∧ x.n ≤ 9223372036854775807) : ∀ n, ∀ x ∈ (takeN l n t).out, -9223372036854775808 ≤ x.n ∧ x.n ≤ 9223372036854775807
  | 0 => h
  | n + 1 => by
    have ih := takeN_n l t h n
    intro x hx
    have hx' : x ∈ (take1 l (takeN l n t)).out := hx
    unfold take1 at hx'
    split at hx'
    · exact ih x hx'
    ·
     unfold takeO at hx'
     rcases List.mem_append.1 hx' with hx' | hx'
     · exact ih x hx'
     ·
      rw [List.mem_singleton] at hx'
      rw [hx']
      show _ ≤ (if _ then _ else (0 : Int)) ∧ (if _ then _ else (0 : Int)) ≤ _
      split
      · exact zag_rng (nm_le _ _)
      · omega
theorem takeL_n (l : List UInt8) (st : St) : ∀ x ∈ takeL l st, -9223372036854775808 ≤ x.n ∧ x.n ≤ 9223372036854775807 := by
  unfold takeL
  split
  · exact fun x hx => absurd hx (by simp)
  · exact takeN_n l ⟨cs l st, true, []⟩ (fun x hx => absurd hx (by simp)) _
theorem rCls_ins (l : List UInt8) (st : St) : insN (rCls l st).1 := by
  have h : ∀ m ∈ (rCls l st).1.ms, ∀ x ∈ m.code, -9223372036854775808 ≤ x.n ∧ x.n ≤ 9223372036854775807 := rl_all (C := fun (m : Mth) => ∀ x ∈ m.code, -9223372036854775808 ≤ x.n ∧ x.n ≤ 9223372036854775807) (fun st => by
    unfold rMth
    split
    · exact fun x hx => absurd hx (by simp)
    · exact takeL_n l _)
  exact h
theorem getC_bytes {l : List UInt8} (h : getC l) : clsB (rCls l (0, 0)).1 = l := by
  obtain ⟨h1, h2⟩ := h
  obtain ⟨hp, hf⟩ := check_0 h2
  unfold endE at h1
  split at h1
  · exact absurd h1 (by decide)
  ·
   rename_i hn
   have e : (rCls l (0, 0)).2.1 = l.length := Classical.byContradiction fun k => hn ⟨h1, k⟩
   have h3 := (rCls_ok (0, 0) h1 (read_of hp hf)).2
   rw [e, List.drop_length, List.append_nil] at h3
   exact h3.symm
theorem Cls.zero_sz : Cls.zero.sz := ⟨by decide, by decide, fun x hx => absurd hx (by simp [Cls.zero]), fun x hx => absurd hx (by simp [Cls.zero]), fun x hx => absurd hx (by simp [Cls.zero]), by decide, by decide, by decide⟩
theorem CC.zero_ok (w : World) : CC.zero.ok w := (CC.zero_own 0 w).ok
theorem cget2 (g : Nat) (v : Value) (l : List UInt8) (w : World) (hG : Gv g w) (hb : g ≤ w.heap.size) (hv : Sl w v 1 l.length (l.map b8)) (hl : l.length ≤ 100000000) : Does Tryz.prog 16 #[v] w (fun r w' => ∃ (x : CC) (e : Int), r = .tuple #[x.v, .int .i64 e] ∧ ((e = 0 ∧ checkCls x.p = 0 ∧ clsB x.p = l ∧ insN x.p) ∨ (e = 50 ∧ x.p = Cls.zero)) ∧ x.p.sz ∧ x.own w.heap.size w' ∧ Nw w w') := by
  refine (cget_walk g v l w hG hb hv hl).mono ?_
  rintro r w' ⟨x, h, h1, h2, c⟩
  refine ⟨x, _, h, ?_, ?_, h2, c⟩
  ·
   by_cases hg : getC l
   ·
    rw [if_pos hg] at h1 ⊢
    refine .inl ⟨rfl, by rw [h1]; exact hg.2, by rw [h1]; exact getC_bytes hg, by rw [h1]; exact rCls_ins _ _⟩
   ·
    rw [if_neg hg] at h1 ⊢
    exact .inr ⟨rfl, h1⟩
  ·
   rw [h1]
   split
   · exact rCls_sz _ _
   · exact Cls.zero_sz
set_option maxHeartbeats 2000000 in
theorem ClassGets_walk (s : ByteArray) (w0 : World) (hs : s.size ≤ 140737488351232) (hL : Gv w0.heap.size w0) : Does Tryz.prog 5 #[.string s] w0 (fun r w' => r = .bool true ∧ Nw w0 w') := by
  refine fn_of (n := 39) (args := [.string s]) Tryz.func5 rfl rfl rfl (W_seq (W_region (L_r (r_ab rfl) (L_nil (W_seq (W_seq (W_region (L_r (r_ms rfl) ?_))))))))
  refine L_r (r_lens Tryz.underlying9 rfl) (L_r (r_gtr rfl rfl) (L_nil ?_))
  refine W_if rfl (fun h7 => ?_) (fun h7 => ?_)
  ·
   refine W_seq (W_region ?_)
   refine L_call (.plain rfl) rfl rfl (r_call Tryz.func12 rfl rfl rfl (by rfl)) (awake05_walk w0.heap.size _ (hL.nw Ch.au (by omega)) (by omega)) ?_
   rintro v8 w1 ⟨rfl, c1⟩
   have hz1 := c1.size
   refine L_r (r_ab rfl) (L_nil (W_ret ?_))
   refine ret1 (v := .bool _) rfl rfl ?_
   refine ⟨?_, Ch.au⟩
   first
   | rfl
   | (exfalso; omega)
   | simp
  ·
   refine W_skip (W_seq (W_region (L_r (r_ms rfl) ?_)))
   refine L_sbytes Tryz.underlying9 Tryz.underlying31 Tryz.underlying5 (by first | omega | (simp only [sb_size, ByteArray.size_append]; omega)) (.plain rfl) rfl rfl (fun v11 w2 hv11 c2 eb2 hs2 => ?_)
   refine L_call (.plain rfl) rfl rfl (r_call Tryz.func16 rfl rfl rfl (by rfl)) (cget2 w0.heap.size _ (bs s) _ (hL.nw Ch.au (by omega)) (by omega) Sl.au (by rw [bs_length]; omega)) ?_
   rintro v12 w3 ⟨x, e, rfl, hxe, hxs, hxo, c3⟩
   have hz3 := c3.size
   have h1x := hxo.ok.one
   refine L_r (r_mv) (L_r (r_ext2_0 rfl) (L_r (r_ext2_1 rfl) ?_))
   refine L_new (.plain rfl) rfl rfl (r_alloca rfl) (fun w4 b3 hb3 eb4 hs4 c4 => ?_)
   refine L_storerow (.plain rfl) rfl rfl Bk.au (by first | rfl | (simp; done) | assumption) (by first | rfl | assumption) (by first | rfl | (simp [Value.oneCell']; done) | assumption) (fun w5 hb5 hs5 c5 => (L_r (r_ai rfl) (L_nil (W_seq (W_seq (W_region (L_r (r_mi rfl) (L_r (r_neq rfl rfl) ?_))))))))
   refine L_nil ?_
   refine W_if rfl (fun h16 => ?_) (fun h16 => ?_)
   ·
    obtain ⟨he, hxz⟩ : e = 50 ∧ x.p = Cls.zero := hxe.resolve_left (fun k => h16 k.1)
    refine W_seq (W_region ?_)
    refine L_call (.plain rfl) rfl rfl (r_call Tryz.func12 rfl rfl rfl (by rfl)) (awake05_walk w0.heap.size _ (hL.nw Ch.au (by omega)) (by omega)) ?_
    rintro v17 w6 ⟨rfl, c6⟩
    have hz6 := c6.size
    refine L_r (r_mb rfl) ?_
    refine L_as (v := .bool _) (v' := .bool true) 18 rfl (congrArg Value.bool (by rfl)) ?_
    refine L_g (r_mi rfl) ?_
    refine L_g (r_eql rfl rfl) (L_r (r_pt rfl rfl) (L_r (r_mb rfl) ?_))
    refine L_case (d := 22) rfl (fun h22 => ?_) (fun h22 => ?_)
    ·
     refine L_g (r_loadrow Tryz.underlying26 rfl rfl Bk.au (by first | rfl | assumption)) ?_
     refine L_g (r_build1 (pl := [(0, 1), (1, 1), (2, 1), (3, 1), (4, 1), (5, 1), (6, 1), (7, 1)]) (vs := []) (cells := [_, _, _, _, _, _, _, _]) Tryz.underlying26 rfl rfl (by rfl) rfl (by rfl)) ?_
     refine L_call (.yes 5 true rfl rfl) rfl rfl (r_call Tryz.func18 rfl rfl rfl (by rfl)) (rsame05_walk x CC.zero _ ((hxo.nw Ch.au).ok) (CC.zero_ok _) hxs Cls.zero_sz) ?_
     rintro v25 w7 ⟨b25, rfl, hb25, c7⟩
     have hz7 := c7.size
     obtain rfl : b25 = true := hb25.2 hxz
     refine L_r (r_pt rfl rfl) (L_r (r_ab rfl) (L_nil (W_ret ?_)))
     refine ret1 (v := .bool _) rfl rfl ?_
     refine ⟨?_, Ch.au⟩
     first
     | rfl
     | (exfalso; omega)
     | simp
    ·
     refine L_ps (L_ps (L_ps (L_r (r_pf rfl rfl) (L_r (r_ab rfl) (L_nil (W_ret ?_))))))
     refine ret1 (v := .bool _) rfl rfl ?_
     refine ⟨?_, Ch.au⟩
     first
     | rfl
     | (exfalso; omega)
     | simp
   ·
    obtain ⟨he, hck, hcb, hin⟩ : e = 0 ∧ checkCls x.p = 0 ∧ clsB x.p = bs s ∧ insN x.p := hxe.resolve_right (fun k => by have := k.1; omega)
    obtain ⟨hcp, hcf⟩ := check_0 hck
    refine W_skip (W_seq (W_region ?_))
    refine L_call (.plain rfl) rfl rfl (r_call Tryz.func12 rfl rfl rfl (by rfl)) (awake05_walk w0.heap.size _ (hL.nw Ch.au (by omega)) (by omega)) ?_
    rintro v27 w8 ⟨rfl, c8⟩
    have hz8 := c8.size
    refine L_r (r_mb rfl) ?_
    refine L_as (v := .bool _) (v' := .bool true) 28 rfl (congrArg Value.bool (by rfl)) ?_
    refine L_g (r_loadrow Tryz.underlying26 rfl rfl Bk.au (by first | rfl | assumption)) ?_
    refine L_call (.yes 1 true rfl rfl) rfl rfl (r_call Tryz.func14 rfl rfl rfl (by rfl)) (rcheck05_walk x _ ((hxo.nw Ch.au).ok) hxs) ?_
    rintro v30 w9 ⟨rfl, c9⟩
    have hz9 := c9.size
    rw [hck]
    refine L_g (r_eql rfl rfl) (L_r (r_pt rfl rfl) (L_r (r_mb rfl) ?_))
    refine L_case (d := 33) rfl (fun h33 => ?_) (fun h33 => ?_)
    ·
     refine L_g (r_loadrow Tryz.underlying26 rfl rfl Bk.au (by first | rfl | assumption)) ?_
     refine L_call (.yes 6 true rfl rfl) rfl rfl (r_call Tryz.func17 rfl rfl rfl (by rfl)) (rput05_walk x _ ((hxo.nw Ch.au).ok) hcp hcf hin) ?_
     rintro v35 w10 ⟨rfl, c10⟩
     have hz10 := c10.size
     rw [hcb, sb_bs]
     refine L_g (r_ms rfl) ?_
     refine L_g (r_eqls rfl rfl) (L_r (r_pt rfl rfl) (L_r (r_ab rfl) (L_nil (W_ret ?_))))
     refine ret1 (v := .bool _) rfl rfl ?_
     refine ⟨?_, Ch.au⟩
     first
     | rfl
     | (exfalso; omega)
     | simp
    ·
     refine L_ps (L_ps (L_ps (L_ps (L_r (r_pf rfl rfl) (L_r (r_ab rfl) (L_nil (W_ret ?_)))))))
     refine ret1 (v := .bool _) rfl rfl ?_
     refine ⟨?_, Ch.au⟩
     first
     | rfl
     | (exfalso; omega)
     | simp
end Go.Proofs.YthpknpfhpkkheaaGreatDoor

namespace Go.Proofs.YthpknpfhpkkheaaGreatDoor
open Go Go.RowKit Go.ChangeShapes
set_option linter.unusedVariables false
set_option linter.unusedSimpArgs false
set_option maxRecDepth 100000
section
variable {H : Type} {enc : TypeId × Value → H} {W : World} {G : TypeId → DataW H → Prop} {R : Nat}
abbrev rdAt (enc : TypeId × Value → H) (W : World) (n : Nat) (t : TypeId) (cs : List Value) (d : DataW H) (p : List MemPlace) : Prop := DataW.trod enc Tryz.prog W 0 (fun _ => true) true n t cs = some (d, p)
theorem rd_S {n : Nat} {c : Value} {d : DataW H} {p : List MemPlace} (h : rdAt enc W n 9 [c] d p) (hG : Inh Tryz.prog G R) (hw : G 9 d) : ∃ s : ByteArray, c = .string s ∧ s.size ≤ R := by
  obtain ⟨s, e, hx, _⟩ := DataW.trod_string Tryz.underlying9 h
  injection e with e
  refine ⟨s, e, ?_⟩
  have hd : d = .lit (.string s.data.toList) := congrArg Prod.fst hx
  subst hd
  have h2 := hG.str hw
  rw [Array.length_toList] at h2
  exact h2
theorem rd_N {n : Nat} {c : Value} {d : DataW H} {p : List MemPlace} (h : rdAt enc W n 3 [c] d p) : ∃ m : Int, c = .int .i64 m ∧ (-9223372036854775808 ≤ m ∧ m ≤ 9223372036854775807) := by
  obtain ⟨m, e, _, k⟩ := DataW.trod_int Tryz.underlying3 h
  injection e with e
  exact ⟨m, e, by simpa [Lit.wf, IntKind.min, IntKind.max, IntKind.signed, IntKind.bits] using k⟩
theorem rd_L {n : Nat} {c : Value} {d : DataW H} {p : List MemPlace} (h : rdAt enc W n 2 [c] d p) : ∃ m : Int, c = .int .i64 m ∧ (-9223372036854775808 ≤ m ∧ m ≤ 9223372036854775807) := by
  obtain ⟨m, e, _, k⟩ := DataW.trod_int Tryz.underlying2 h
  injection e with e
  exact ⟨m, e, by simpa [Lit.wf, IntKind.min, IntKind.max, IntKind.signed, IntKind.bits] using k⟩
theorem rd_B {n : Nat} {c : Value} {d : DataW H} {p : List MemPlace} (h : rdAt enc W n 4 [c] d p) : ∃ b : Bool, c = .bool b := by
  obtain ⟨b, e, _⟩ := DataW.trod_bool Tryz.underlying4 h
  injection e with e
  exact ⟨b, e⟩
abbrev reach : Nat := 140737488351232
theorem rdc_Str (n : Nat) (cs : List Value) (d : DataW H) (p : List MemPlace) (h : rdAt enc W n 9 cs d p) (hG : Inh Tryz.prog G R) (hw : G 9 d) : ∃ s : ByteArray, cs = [.string s] ∧ s.size ≤ R := by
  obtain ⟨s, rfl, hx, _⟩ := DataW.trod_string Tryz.underlying9 h
  refine ⟨s, rfl, ?_⟩
  have hd : d = .lit (.string s.data.toList) := congrArg Prod.fst hx
  subst hd
  have h2 := hG.str hw
  rw [Array.length_toList] at h2
  exact h2
theorem rdc_F (n : Nat) (cs : List Value) (d : DataW H) (p : List MemPlace) (h : rdAt enc W n 52 cs d p) (hG : Inh Tryz.prog G R) (hw : G 52 d) : ∃ x : CF, cs = cfl x ∧ (x.name.size ≤ R ∧ x.kind.size ≤ R) := by
  obtain ⟨hl, hf⟩ := st_sz hG Tryz.underlying52 h hw
  have hl8 : cs.length = 3 := hl
  match cs, hl8 with
  | [c0, c1, c2], _ =>
    obtain ⟨_, _, _, g0, w0⟩ := hf 0 _ rfl
    obtain ⟨_, _, _, g1, w1⟩ := hf 1 _ rfl
    obtain ⟨_, _, _, g2, w2⟩ := hf 2 _ rfl
    obtain ⟨s0, rfl, k0⟩ := rd_S g0 hG w0
    obtain ⟨s1, rfl, k1⟩ := rd_S g1 hG w1
    obtain ⟨b2, rfl⟩ := rd_B g2
    exact ⟨⟨s0, s1, b2⟩, rfl, k0, k1⟩
theorem rdc_I (n : Nat) (cs : List Value) (d : DataW H) (p : List MemPlace) (h : rdAt enc W n 54 cs d p) (hG : Inh Tryz.prog G R) (hw : G 54 d) : ∃ x : Ins, cs = insl x ∧ ((-9223372036854775808 ≤ x.n ∧ x.n ≤ 9223372036854775807) ∧ x.s.size ≤ R) := by
  obtain ⟨hl, hf⟩ := st_sz hG Tryz.underlying54 h hw
  have hl8 : cs.length = 3 := hl
  match cs, hl8 with
  | [c0, c1, c2], _ =>
    obtain ⟨_, _, _, g0, w0⟩ := hf 0 _ rfl
    obtain ⟨_, _, _, g1, w1⟩ := hf 1 _ rfl
    obtain ⟨_, _, _, g2, w2⟩ := hf 2 _ rfl
    obtain ⟨s0, rfl, k0⟩ := rd_S g0 hG w0
    obtain ⟨m1, rfl, k1⟩ := rd_L g1
    obtain ⟨s2, rfl, k2⟩ := rd_S g2 hG w2
    exact ⟨⟨s0, m1, s2⟩, rfl, k1, k2⟩
theorem rdc_K (n : Nat) (cs : List Value) (d : DataW H) (p : List MemPlace) (h : rdAt enc W n 70 cs d p) (hG : Inh Tryz.prog G R) (hw : G 70 d) : ∃ x : Cat, cs = ctl x ∧ x.cls.size ≤ R := by
  obtain ⟨hl, hf⟩ := st_sz hG Tryz.underlying70 h hw
  have hl8 : cs.length = 4 := hl
  match cs, hl8 with
  | [c0, c1, c2, c3], _ =>
    obtain ⟨_, _, _, g0, w0⟩ := hf 0 _ rfl
    obtain ⟨_, _, _, g1, w1⟩ := hf 1 _ rfl
    obtain ⟨_, _, _, g2, w2⟩ := hf 2 _ rfl
    obtain ⟨_, _, _, g3, w3⟩ := hf 3 _ rfl
    obtain ⟨m0, rfl, k0⟩ := rd_N g0
    obtain ⟨m1, rfl, k1⟩ := rd_N g1
    obtain ⟨m2, rfl, k2⟩ := rd_N g2
    obtain ⟨s3, rfl, k3⟩ := rd_S g3 hG w3
    exact ⟨⟨m0, m1, m2, s3⟩, rfl, k3⟩
instance : Inhabited CF := ⟨⟨default, default, default⟩⟩
instance : Inhabited Cat := ⟨⟨default, default, default, default⟩⟩
instance : Inhabited MM := ⟨⟨⟨default, [], default, default, default, [], []⟩, .bool false, .bool false, .bool false⟩⟩
instance : Inhabited CC := ⟨⟨⟨default, default, [], default, default, default, [], []⟩, .bool false, .bool false, .bool false, []⟩⟩
theorem rdr_S {n : Nat} {c : Value} {d : DataW H} {p : List MemPlace} (h : rdAt enc W n 22 [c] d p) (hG : Inh Tryz.prog G R) (hw : G 22 d) : ∃ z : List ByteArray, Sl W c 1 z.length (scells z) ∧ (∀ x ∈ z, x.size ≤ R) ∧ z.length ≤ R := by
  obtain ⟨v, z, e, h1, h2, h3⟩ := sl_trod (fun s : ByteArray => [Value.string s]) 1 (fun x => x.size ≤ R) hG (fun _ => rfl) (by decide) Tryz.underlying22 rfl (by decide) (fun n cs d p h k => rdc_Str n cs d p h hG k) h hw
  injection e with e
  subst e
  have e2 : (z.flatMap fun s : ByteArray => [Value.string s]) = scells z := by unfold scells; rw [List.map_eq_flatMap]
  exact ⟨z, e2 ▸ h1, h2, h3⟩
theorem rdr_F {n : Nat} {c : Value} {d : DataW H} {p : List MemPlace} (h : rdAt enc W n 23 [c] d p) (hG : Inh Tryz.prog G R) (hw : G 23 d) : ∃ z : List CF, Sl W c 3 z.length (cellsCF z) ∧ (∀ x ∈ z, x.name.size ≤ R ∧ x.kind.size ≤ R) ∧ z.length ≤ R := by
  obtain ⟨v, z, e, h1, h2, h3⟩ := sl_trod cfl 3 (fun x => x.name.size ≤ R ∧ x.kind.size ≤ R) hG (fun _ => rfl) (by decide) Tryz.underlying23 rfl (by decide) (fun n cs d p h k => rdc_F n cs d p h hG k) h hw
  injection e with e
  subst e
  exact ⟨z, h1, h2, h3⟩
theorem rdr_I {n : Nat} {c : Value} {d : DataW H} {p : List MemPlace} (h : rdAt enc W n 40 [c] d p) (hG : Inh Tryz.prog G R) (hw : G 40 d) : ∃ z : List Ins, Sl W c 3 z.length (cellsI z) ∧ (∀ x ∈ z, (-9223372036854775808 ≤ x.n ∧ x.n ≤ 9223372036854775807) ∧ x.s.size ≤ R) ∧ z.length ≤ R := by
  obtain ⟨v, z, e, h1, h2, h3⟩ := sl_trod insl 3 (fun x => (-9223372036854775808 ≤ x.n ∧ x.n ≤ 9223372036854775807) ∧ x.s.size ≤ R) hG (fun _ => rfl) (by decide) Tryz.underlying40 rfl (by decide) (fun n cs d p h k => rdc_I n cs d p h hG k) h hw
  injection e with e
  subst e
  exact ⟨z, h1, h2, h3⟩
theorem rdr_K {n : Nat} {c : Value} {d : DataW H} {p : List MemPlace} (h : rdAt enc W n 41 [c] d p) (hG : Inh Tryz.prog G R) (hw : G 41 d) : ∃ z : List Cat, Sl W c 4 z.length (cellsCK z) ∧ (∀ x ∈ z, x.cls.size ≤ R) ∧ z.length ≤ R := by
  obtain ⟨v, z, e, h1, h2, h3⟩ := sl_trod ctl 4 (fun x => x.cls.size ≤ R) hG (fun _ => rfl) (by decide) Tryz.underlying41 rfl (by decide) (fun n cs d p h k => rdc_K n cs d p h hG k) h hw
  injection e with e
  subst e
  exact ⟨z, h1, h2, h3⟩
/-- What is known of a method that is handed in. -/
def mGood (R : Nat) (W : World) (x : MM) : Prop := x.ok W ∧ x.m.sz ∧ (∀ i ∈ x.m.code, -9223372036854775808 ≤ i.n ∧ i.n ≤ 9223372036854775807) ∧ (∀ p ∈ x.m.params, p.size ≤ R) ∧ x.m.result.size ≤ R
theorem rdc_M (hR : R ≤ 140737488351232) (n : Nat) (cs : List Value) (d : DataW H) (p : List MemPlace) (h : rdAt enc W n 43 cs d p) (hG : Inh Tryz.prog G R) (hw : G 43 d) : ∃ x : MM, cs = mml x ∧ mGood R W x := by
  obtain ⟨hl, hf⟩ := st_sz hG Tryz.underlying43 h hw
  have hl8 : cs.length = 7 := hl
  match cs, hl8 with
  | [c0, c1, c2, c3, c4, c5, c6], _ =>
    obtain ⟨_, _, _, g0, w0⟩ := hf 0 _ rfl
    obtain ⟨_, _, _, g1, w1⟩ := hf 1 _ rfl
    obtain ⟨_, _, _, g2, w2⟩ := hf 2 _ rfl
    obtain ⟨_, _, _, g3, w3⟩ := hf 3 _ rfl
    obtain ⟨_, _, _, g4, w4⟩ := hf 4 _ rfl
    obtain ⟨_, _, _, g5, w5⟩ := hf 5 _ rfl
    obtain ⟨_, _, _, g6, w6⟩ := hf 6 _ rfl
    obtain ⟨s0, rfl, k0⟩ := rd_S g0 hG w0
    obtain ⟨z1, k1, l1, n1⟩ := rdr_S g1 hG w1
    obtain ⟨s2, rfl, k2⟩ := rd_S g2 hG w2
    obtain ⟨b3, rfl⟩ := rd_B g3
    obtain ⟨m4, rfl, k4⟩ := rd_N g4
    obtain ⟨z5, k5, l5, n5⟩ := rdr_I g5 hG w5
    obtain ⟨z6, k6, l6, n6⟩ := rdr_K g6 hG w6
    refine ⟨⟨⟨s0, z1, s2, b3, m4, z5, z6⟩, c1, c5, c6⟩, rfl, ⟨k1, k5, k6⟩, ⟨?_, fun p hp => ?_, ?_, fun x hx => ?_, fun x hx => ?_, ?_, ?_, ?_⟩, fun i hi => (l5 i hi).1, l1, k2⟩
    · show s0.size ≤ _; omega
    · have := l1 p hp; omega
    · show s2.size ≤ _; omega
    · have := (l5 x hx).2; omega
    · have := l6 x hx; omega
    · show z1.length ≤ _; omega
    · show z5.length ≤ _; omega
    · show z6.length ≤ _; omega
/-- What is known of a class that is handed in. -/
structure cGood (R : Nat) (W : World) (c : CC) : Prop where
  ok : c.ok W
  ms : ∀ x ∈ c.q, mGood R W x
  name : c.p.name.size ≤ R
  super : c.p.super.size ≤ R
  like : ∀ p ∈ c.p.like, p.size ≤ R
  fields : ∀ f ∈ c.p.fields, f.name.size ≤ R ∧ f.kind.size ≤ R
  ll : c.p.like.length ≤ R
  lf : c.p.fields.length ≤ R
  lm : c.q.length ≤ R
theorem rdc_C (hR : R ≤ 140737488351232) (n : Nat) (cs : List Value) (d : DataW H) (p : List MemPlace) (h : rdAt enc W n 26 cs d p) (hG : Inh Tryz.prog G R) (hw : G 26 d) : ∃ c : CC, cs = ccl c ∧ cGood R W c := by
  obtain ⟨hl, hf⟩ := st_sz hG Tryz.underlying26 h hw
  have hl8 : cs.length = 8 := hl
  match cs, hl8 with
  | [c0, c1, c2, c3, c4, c5, c6, c7], _ =>
    obtain ⟨_, _, _, g0, w0⟩ := hf 0 _ rfl
    obtain ⟨_, _, _, g1, w1⟩ := hf 1 _ rfl
    obtain ⟨_, _, _, g2, w2⟩ := hf 2 _ rfl
    obtain ⟨_, _, _, g3, w3⟩ := hf 3 _ rfl
    obtain ⟨_, _, _, g4, w4⟩ := hf 4 _ rfl
    obtain ⟨_, _, _, g5, w5⟩ := hf 5 _ rfl
    obtain ⟨_, _, _, g6, w6⟩ := hf 6 _ rfl
    obtain ⟨_, _, _, g7, w7⟩ := hf 7 _ rfl
    obtain ⟨s0, rfl, k0⟩ := rd_S g0 hG w0
    obtain ⟨s1, rfl, k1⟩ := rd_S g1 hG w1
    obtain ⟨z2, k2, l2, n2⟩ := rdr_S g2 hG w2
    obtain ⟨b3, rfl⟩ := rd_B g3
    obtain ⟨b4, rfl⟩ := rd_B g4
    obtain ⟨b5, rfl⟩ := rd_B g5
    obtain ⟨z6, k6, l6, n6⟩ := rdr_F g6 hG w6
    obtain ⟨v7, z7, e, k7, l7, n7⟩ := sl_trod mml 7 (mGood R W) hG (fun _ => rfl) (by decide) Tryz.underlying24 rfl (by decide) (fun n cs d p h k => rdc_M hR n cs d p h hG k) g7 w7
    injection e with e
    subst e
    exact ⟨⟨⟨s0, s1, z2, b3, b4, b5, z6, z7.map MM.m⟩, c2, c6, c7, z7⟩, rfl, ⟨k2, k6, k7, rfl, fun y hy => (l7 y hy).1⟩, l7, k0, k1, l2, l6, n2, n6, n7⟩
theorem rdG_C (hR : R ≤ 140737488351232) {b0 : Nat} {v : Value} {d : DataW H} {p : List MemPlace}
    (hok : Value.okWide Tryz.prog W .any b0 26 v) (hG : Inh Tryz.prog G R) (hw : G 26 d) (h : DataW.Trod enc Tryz.prog W 0 (fun _ => true) true 26 v d p) : ∃ c : CC, v = c.v ∧ cGood R W c := by
  have hag : ∃ cs, v = .agg cs ∧ cs.size = Tryz.prog.cellsOf 26 := by
    unfold Value.okWide at hok
    rw [Tryz.underlying26] at hok
    obtain ⟨cs, h1, h2, _⟩ := hok
    exact ⟨cs, h1, h2⟩
  obtain ⟨cs, rfl, hsz⟩ := hag
  obtain ⟨n, hy⟩ := h
  obtain ⟨c, e, hc⟩ := rdc_C hR n cs.toList d p hy hG hw
  refine ⟨c, ?_, hc⟩
  have hcs : cs = cs.toList.toArray := by simp
  rw [hcs, e]
theorem rd_26 {b0 : Nat} {v : Value} {d : DataW H} {p : List MemPlace}
    (hok : Value.okWide Tryz.prog W .any b0 26 v) (hw : ∀ k ∈ d.weights Tryz.prog 26, k ≤ 140737488351232) (h : DataW.Trod enc Tryz.prog W 0 (fun _ => true) true 26 v d p) : ∃ c : CC, v = c.v ∧ cGood 140737488351232 W c :=
  rdG_C (Nat.le_refl _) hok (inh_weights _ _) hw h
theorem rdG_L (hR : R ≤ 140737488351232) {b0 : Nat} {v : Value} {d : DataW H} {p : List MemPlace}
    (hok : Value.okWide Tryz.prog W .any b0 44 v) (hG : Inh Tryz.prog G R) (hw : G 44 d) (h : DataW.Trod enc Tryz.prog W 0 (fun _ => true) true 44 v d p) : ∃ z : List CC, Sl W v 8 z.length (cellsCC z) ∧ (∀ c ∈ z, cGood R W c) ∧ z.length ≤ R := by
  obtain ⟨n, hy⟩ := h
  obtain ⟨v', z, e, h1, h2, h3⟩ := sl_trod ccl 8 (cGood R W) hG (fun _ => rfl) (by decide) Tryz.underlying44 rfl (by decide) (fun n cs d p h k => rdc_C hR n cs d p h hG k) hy hw
  have e2 : v = v' := by
    unfold Value.okWide at hok
    rw [Tryz.underlying44] at hok
    unfold Cell.okWide at hok
    rw [Tryz.underlying44] at hok
    unfold Cell.ok at hok
    rw [Tryz.underlying44] at hok
    cases v <;> first | exact hok.elim | (injection e)
  subst e2
  exact ⟨z, h1, h2, h3⟩
theorem rd_44 {b0 : Nat} {v : Value} {d : DataW H} {p : List MemPlace}
    (hok : Value.okWide Tryz.prog W .any b0 44 v) (hw : ∀ k ∈ d.weights Tryz.prog 44, k ≤ 140737488351232) (h : DataW.Trod enc Tryz.prog W 0 (fun _ => true) true 44 v d p) : ∃ z : List CC, Sl W v 8 z.length (cellsCC z) ∧ (∀ c ∈ z, cGood 140737488351232 W c) ∧ z.length ≤ 140737488351232 :=
  rdG_L (Nat.le_refl _) hok (inh_weights _ _) hw h
end
theorem cGood.nw {R : Nat} {W W' : World} {c : CC} (h : cGood R W c) (k : Nw W W') : cGood R W' c := ⟨h.ok.nw k, fun x hx => by obtain ⟨a, b⟩ := h.ms x hx; exact ⟨a.nw k, b⟩, h.name, h.super, h.like, h.fields, h.ll, h.lf, h.lm⟩
theorem cGood.insN {R : Nat} {W : World} {c : CC} (h : cGood R W c) : insN c.p := by
  intro m hm x hx
  rw [← h.ok.e] at hm
  obtain ⟨y, hy, rfl⟩ := List.mem_map.1 hm
  exact (h.ms y hy).2.2.1 x hx
structure fewC (c : Cls) : Prop where
  ll : c.like.length ≤ 40
  lf : c.fields.length ≤ 40
  lm : c.ms.length ≤ 40
  name : c.name.size ≤ 300
  super : c.super.size ≤ 300
theorem cGood.sz {W : World} {c : CC} (h : cGood 140737488351232 W c) : c.p.sz := by
  refine ⟨?_, ?_, fun p hp => ?_, fun f hf => ?_, fun m hm => ?_, ?_, ?_, ?_⟩
  · have := h.name; omega
  · have := h.super; omega
  · have := h.like p hp; omega
  · have := h.fields f hf; omega
  ·
   rw [← h.ok.e] at hm
   obtain ⟨y, hy, rfl⟩ := List.mem_map.1 hm
   exact (h.ms y hy).2.1
  · have := h.ll; omega
  · have := h.lf; omega
  ·
   have := h.lm
   rw [← h.ok.e, List.length_map]; omega
theorem few05_walk (c : CC) (w0 : World) (hc : cGood 140737488351232 w0 c) : Does Tryz.prog 11 #[c.v] w0 (fun r w' => ∃ b, r = .bool b ∧ (b = true → fewC c.p ∧ ∀ m ∈ c.p.ms, m.params.length ≤ 40) ∧ Nw w0 w') := by
  have hok := hc.ok
  have h1x := hok.one
  have hll := hok.l
  have hlf := hok.f
  have hlm := hok.m
  have hqm := hc.lm
  have hq := congrArg List.length hok.e
  rw [List.length_map] at hq
  refine fn_of (n := 61) (args := [c.v]) Tryz.func11 rfl rfl rfl (W_seq (W_region ?_))
  refine L_new (.plain rfl) rfl rfl (r_boxa rfl) (fun w1 b1 hb1 eb1 hs1 c1 => (L_r (r_ab rfl) (L_nil (W_seq (W_seq (W_region ?_))))))
  refine L_r (r_fieldb Tryz.underlying26 rfl (show _ = some 1 from rfl) rfl rfl (show _ = 2 from rfl)) (L_r (r_lb rfl rfl) ?_)
  refine L_r (r_lenSl Tryz.underlying22 (by conv => lhs; whnf) Sl.au) (L_r (r_gtr rfl rfl) (L_r (r_mb rfl) ?_))
  refine L_case (d := 9) rfl (fun h9 => ?_) (fun h9 => ?_)
  ·
   refine L_ps (L_ps (L_ps (L_ps (L_r (r_pt rfl rfl) (L_r (r_mb rfl) (L_ps (L_ps (L_ps ?_))))))))
   refine L_ps (L_r (r_pt rfl rfl) (L_r (r_mb rfl) (L_ps (L_ps (L_ps (L_ps (L_r (r_pt rfl rfl) (L_r (r_mb rfl) ?_))))))))
   refine L_ps (L_ps (L_ps (L_ps (L_r (r_pt rfl rfl) (L_nil ?_)))))
   refine W_true rfl (W_seq (W_region (L_r (r_ab rfl) (L_nil (W_ret ?_)))))
   refine ret1 (v := .bool _) rfl rfl ?_
   first
   | exact ⟨false, rfl, fun h => Bool.noConfusion h, Ch.au⟩
   | (refine ⟨_, rfl, fun _ => ⟨⟨by omega, by omega, by omega, by omega, by omega⟩, fun x hx => ?_⟩, Ch.au⟩
      rw [← hok.e] at hx
      obtain ⟨y, hy, rfl⟩ := List.mem_map.1 hx
      obtain ⟨j, hj, rfl⟩ := List.mem_iff_getElem.1 hy
      exact ha j hj (by omega))
  ·
   refine L_g (r_fieldb Tryz.underlying26 rfl (show _ = some 1 from rfl) rfl rfl (show _ = 6 from rfl)) ?_
   refine L_g (r_lb rfl rfl) ?_
   refine L_g (r_lenSl Tryz.underlying23 (by conv => lhs; whnf) Sl.au) ?_
   refine L_g (r_gtr rfl rfl) (L_r (r_pf rfl rfl) (L_r (r_mb rfl) ?_))
   refine L_case (d := 15) rfl (fun h15 => ?_) (fun h15 => ?_)
   ·
    refine L_ps (L_ps (L_ps (L_ps (L_r (r_pt rfl rfl) (L_r (r_mb rfl) (L_ps (L_ps (L_ps ?_))))))))
    refine L_ps (L_r (r_pt rfl rfl) (L_r (r_mb rfl) (L_ps (L_ps (L_ps (L_ps (L_r (r_pt rfl rfl) (L_nil ?_))))))))
    refine W_true rfl (W_seq (W_region (L_r (r_ab rfl) (L_nil (W_ret ?_)))))
    refine ret1 (v := .bool _) rfl rfl ?_
    first
    | exact ⟨false, rfl, fun h => Bool.noConfusion h, Ch.au⟩
    | (refine ⟨_, rfl, fun _ => ⟨⟨by omega, by omega, by omega, by omega, by omega⟩, fun x hx => ?_⟩, Ch.au⟩
       rw [← hok.e] at hx
       obtain ⟨y, hy, rfl⟩ := List.mem_map.1 hx
       obtain ⟨j, hj, rfl⟩ := List.mem_iff_getElem.1 hy
       exact ha j hj (by omega))
   ·
    refine L_g (r_fieldb Tryz.underlying26 rfl (show _ = some 1 from rfl) rfl rfl (show _ = 7 from rfl)) ?_
    refine L_g (r_lb rfl rfl) ?_
    refine L_g (r_lenSl Tryz.underlying24 (by conv => lhs; whnf) Sl.au) ?_
    refine L_g (r_gtr rfl rfl) (L_r (r_pf rfl rfl) (L_r (r_mb rfl) ?_))
    refine L_case (d := 21) rfl (fun h21 => ?_) (fun h21 => ?_)
    ·
     refine L_ps (L_ps (L_ps (L_ps (L_r (r_pt rfl rfl) (L_r (r_mb rfl) (L_ps (L_ps (L_ps ?_))))))))
     refine L_ps (L_r (r_pt rfl rfl) (L_nil ?_))
     refine W_true rfl (W_seq (W_region (L_r (r_ab rfl) (L_nil (W_ret ?_)))))
     refine ret1 (v := .bool _) rfl rfl ?_
     first
     | exact ⟨false, rfl, fun h => Bool.noConfusion h, Ch.au⟩
     | (refine ⟨_, rfl, fun _ => ⟨⟨by omega, by omega, by omega, by omega, by omega⟩, fun x hx => ?_⟩, Ch.au⟩
        rw [← hok.e] at hx
        obtain ⟨y, hy, rfl⟩ := List.mem_map.1 hx
        obtain ⟨j, hj, rfl⟩ := List.mem_iff_getElem.1 hy
        exact ha j hj (by omega))
    ·
     refine L_g (r_fieldb Tryz.underlying26 rfl (show _ = some 1 from rfl) rfl rfl (show _ = 0 from rfl)) ?_
     refine L_g (r_lb rfl rfl) ?_
     refine L_g (r_lens Tryz.underlying9 rfl) ?_
     refine L_g (r_gtr rfl rfl) (L_r (r_pf rfl rfl) (L_r (r_mb rfl) ?_))
     refine L_case (d := 27) rfl (fun h27 => ?_) (fun h27 => ?_)
     ·
      refine L_ps (L_ps (L_ps (L_ps (L_r (r_pt rfl rfl) (L_nil ?_)))))
      refine W_true rfl (W_seq (W_region (L_r (r_ab rfl) (L_nil (W_ret ?_)))))
      refine ret1 (v := .bool _) rfl rfl ?_
      first
      | exact ⟨false, rfl, fun h => Bool.noConfusion h, Ch.au⟩
      | (refine ⟨_, rfl, fun _ => ⟨⟨by omega, by omega, by omega, by omega, by omega⟩, fun x hx => ?_⟩, Ch.au⟩
         rw [← hok.e] at hx
         obtain ⟨y, hy, rfl⟩ := List.mem_map.1 hx
         obtain ⟨j, hj, rfl⟩ := List.mem_iff_getElem.1 hy
         exact ha j hj (by omega))
     ·
      refine L_g (r_fieldb Tryz.underlying26 rfl (show _ = some 1 from rfl) rfl rfl (show _ = 1 from rfl)) ?_
      refine L_g (r_lb rfl rfl) ?_
      refine L_g (r_lens Tryz.underlying9 rfl) ?_
      refine L_g (r_gtr rfl rfl) (L_r (r_pf rfl rfl) (L_nil ?_))
      refine W_if rfl (fun h32 => ?_) (fun h32 => ?_)
      ·
       refine W_seq (W_region (L_r (r_ab rfl) (L_nil (W_ret ?_))))
       refine ret1 (v := .bool _) rfl rfl ?_
       first
       | exact ⟨false, rfl, fun h => Bool.noConfusion h, Ch.au⟩
       | (refine ⟨_, rfl, fun _ => ⟨⟨by omega, by omega, by omega, by omega, by omega⟩, fun x hx => ?_⟩, Ch.au⟩
          rw [← hok.e] at hx
          obtain ⟨y, hy, rfl⟩ := List.mem_map.1 hx
          obtain ⟨j, hj, rfl⟩ := List.mem_iff_getElem.1 hy
          exact ha j hj (by omega))
      ·
       refine W_skip (W_seq (W_seq (W_region (L_r (r_ai rfl) (L_nil (W_block ?_))))))
       refine W_loopF [1] (fun mz_ f W => ∃ (i : Nat), f 3 = .int .i64 i ∧ (i ≤ c.q.length ∧ (∀ j (h : j < c.q.length), j < i → c.q[j].m.params.length ≤ 40) ∧ Nw w1 W) ∧ mz_ = c.q.length - i) ?_ ?_
       ·
        refine ⟨_, 0, rfl, ?_, rfl⟩
        exact ⟨by omega, fun j h hj => absurd hj (by omega), Ch.au⟩
       rintro m0 g0 w2 ⟨i, hf3, hR0, rfl⟩
       refine W_as 3 hf3 rfl ?_
       clear hf3
       obtain ⟨hi, ha, hnw⟩ := hR0
       have hz := hnw.size
       refine W_seq (W_seq (W_region (L_r (r_mi rfl) ?_)))
       refine L_r (r_fieldb Tryz.underlying26 rfl (show _ = some 1 from rfl) rfl rfl (show _ = 7 from rfl)) (L_r (r_lb rfl rfl) ?_)
       refine L_r (r_lenSl Tryz.underlying24 (by conv => lhs; whnf) Sl.au) (L_r (r_lss rfl rfl) (L_nil ?_))
       refine W_if rfl (fun h37 => ?_) (fun h37 => ?_)
       ·
        have hil : i < c.q.length := by omega
        have hrow := cellsCM_row c.q i hil
        have hxm := List.getElem_mem hil
        obtain ⟨x, hx⟩ : ∃ x, x = c.q[i] := ⟨_, rfl⟩
        rw [← hx] at hrow hxm
        have hxo := (hc.ms x hxm).1
        have h1y := hxo.one
        have hxp := hxo.p
        have hxc := hxo.c
        have hxk := hxo.k
        refine W_skip (W_seq (W_block (W_seq (W_region ?_))))
        refine L_r (r_fieldb Tryz.underlying26 rfl (show _ = some 1 from rfl) rfl rfl (show _ = 7 from rfl)) (L_r (r_lb rfl rfl) (L_r (r_mi rfl) ?_))
        refine L_r (r_ix Tryz.underlying24 (show _ = some 7 from rfl) (by conv => lhs; whnf) rfl Sl.au) ?_
        refine L_r (r_loadSlrow (us := [.string x.m.name, x.vp, .string x.m.result, .bool x.m.abs, .int .i64 x.m.locals, x.vc, x.vk]) Tryz.underlying43 rfl rfl rfl rfl Sl.au (by exact hrow)) ?_
        refine L_new (.plain rfl) rfl rfl (r_alloca rfl) (fun w3 b4 hb4 eb3 hs3 c3 => ?_)
        refine L_storerow (.plain rfl) rfl rfl Bk.au (by first | rfl | (simp; done) | assumption) (by first | rfl | assumption) (by first | rfl | (simp [Value.oneCell']; done) | assumption) (fun w4 hb4 hs4 c4 => (L_nil (W_seq (W_region ?_))))
        refine L_r (r_fieldb Tryz.underlying43 rfl (show _ = some 1 from rfl) rfl rfl (show _ = 1 from rfl)) (L_r (r_lb rfl rfl) ?_)
        refine L_r (r_lenSl Tryz.underlying22 (by conv => lhs; whnf) Sl.au) (L_r (r_gtr rfl rfl) (L_r (r_mb rfl) ?_))
        refine L_case (d := 49) rfl (fun h49 => ?_) (fun h49 => ?_)
        ·
         refine L_ps (L_ps (L_ps (L_ps (L_r (r_pt rfl rfl) (L_r (r_mb rfl) (L_ps (L_ps (L_ps ?_))))))))
         refine L_ps (L_r (r_pt rfl rfl) (L_nil ?_))
         refine W_true rfl (W_seq (W_region (L_r (r_ab rfl) (L_nil (W_ret ?_)))))
         refine ret1 (v := .bool _) rfl rfl ?_
         first
         | exact ⟨false, rfl, fun h => Bool.noConfusion h, Ch.au⟩
         | (refine ⟨_, rfl, fun _ => ⟨⟨by omega, by omega, by omega, by omega, by omega⟩, fun x hx => ?_⟩, Ch.au⟩
            rw [← hok.e] at hx
            obtain ⟨y, hy, rfl⟩ := List.mem_map.1 hx
            obtain ⟨j, hj, rfl⟩ := List.mem_iff_getElem.1 hy
            exact ha j hj (by omega))
        ·
         refine L_g (r_fieldb Tryz.underlying43 rfl (show _ = some 1 from rfl) rfl rfl (show _ = 5 from rfl)) ?_
         refine L_g (r_lb rfl rfl) ?_
         refine L_g (r_lenSl Tryz.underlying40 (by conv => lhs; whnf) Sl.au) ?_
         refine L_g (r_gtr rfl rfl) (L_r (r_pf rfl rfl) (L_r (r_mb rfl) ?_))
         refine L_case (d := 55) rfl (fun h55 => ?_) (fun h55 => ?_)
         ·
          refine L_ps (L_ps (L_ps (L_ps (L_r (r_pt rfl rfl) (L_nil ?_)))))
          refine W_true rfl (W_seq (W_region (L_r (r_ab rfl) (L_nil (W_ret ?_)))))
          refine ret1 (v := .bool _) rfl rfl ?_
          first
          | exact ⟨false, rfl, fun h => Bool.noConfusion h, Ch.au⟩
          | (refine ⟨_, rfl, fun _ => ⟨⟨by omega, by omega, by omega, by omega, by omega⟩, fun x hx => ?_⟩, Ch.au⟩
             rw [← hok.e] at hx
             obtain ⟨y, hy, rfl⟩ := List.mem_map.1 hx
             obtain ⟨j, hj, rfl⟩ := List.mem_iff_getElem.1 hy
             exact ha j hj (by omega))
         ·
          refine L_g (r_fieldb Tryz.underlying43 rfl (show _ = some 1 from rfl) rfl rfl (show _ = 6 from rfl)) ?_
          refine L_g (r_lb rfl rfl) ?_
          refine L_g (r_lenSl Tryz.underlying41 (by conv => lhs; whnf) Sl.au) ?_
          refine L_g (r_gtr rfl rfl) (L_r (r_pf rfl rfl) (L_nil ?_))
          refine W_if rfl (fun h60 => ?_) (fun h60 => ?_)
          ·
           refine W_seq (W_region (L_r (r_ab rfl) (L_nil (W_ret ?_))))
           refine ret1 (v := .bool _) rfl rfl ?_
           first
           | exact ⟨false, rfl, fun h => Bool.noConfusion h, Ch.au⟩
           | (refine ⟨_, rfl, fun _ => ⟨⟨by omega, by omega, by omega, by omega, by omega⟩, fun x hx => ?_⟩, Ch.au⟩
              rw [← hok.e] at hx
              obtain ⟨y, hy, rfl⟩ := List.mem_map.1 hx
              obtain ⟨j, hj, rfl⟩ := List.mem_iff_getElem.1 hy
              exact ha j hj (by omega))
          ·
           refine W_skip (W_region (L_r (r_mi rfl) ?_))
           refine L_r (r_add rfl rfl (by first | exact wr_i64 (by omega) | rfl)) (L_r (r_ai rfl) (L_nil ?_))
           refine ⟨⟨fx2, trivial⟩, _, ?_, i + 1, rfl, ?_, rfl⟩
           · omega
           refine ⟨by omega, fun j h hj => ?_, Ch.au⟩
           rcases Nat.lt_or_ge j i with h' | h'
           · exact ha j h h'
           ·
            have e : j = i := by omega
            subst e
            rw [← hx]
            omega
       ·
        refine W_exit ?_
        repeat (first | refine blk_hit ?_ | refine blk_miss rfl ?_)
        refine W_seq (W_region (L_r (r_ab rfl) (L_nil (W_ret ?_))))
        refine ret1 (v := .bool _) rfl rfl ?_
        first
        | exact ⟨false, rfl, fun h => Bool.noConfusion h, Ch.au⟩
        | (refine ⟨_, rfl, fun _ => ⟨⟨by omega, by omega, by omega, by omega, by omega⟩, fun x hx => ?_⟩, Ch.au⟩
           rw [← hok.e] at hx
           obtain ⟨y, hy, rfl⟩ := List.mem_map.1 hx
           obtain ⟨j, hj, rfl⟩ := List.mem_iff_getElem.1 hy
           exact ha j hj (by omega))
end Go.Proofs.YthpknpfhpkkheaaGreatDoor
