/- A part of the proof. -/
import Derived.Test.YthpknpfhpkkheaaGreatDoorMGj
namespace Go.Proofs.YthpknpfhpkkheaaGreatDoor
open Go Go.RowKit
set_option linter.unusedVariables false
set_option linter.unusedSimpArgs false
set_option maxRecDepth 100000
theorem unpC_bytes {l : List UInt8} (h : unpC l) : packB (rList 64 rCls l (0, 0)).1 = l := by
  obtain ⟨h1, h2⟩ := h
  unfold endE at h1
  split at h1
  · exact absurd h1 (by decide)
  ·
   rename_i hn
   have e : (rList 64 rCls l (0, 0)).2.1 = l.length := Classical.byContradiction fun k => hn ⟨h1, k⟩
   have h3 := (rList_ok (f := rCls) (e := clsB) (C := fun c => ∀ m ∈ c.ms, readM m) (l := l) (fun st h hC => rCls_ok st h hC) (most := 64) (st := (0, 0)) h1 (fun c hc => by
     obtain ⟨hp, hf⟩ := check_0 (h2 c hc)
     exact read_of hp hf)).2.1
   rw [e, List.drop_length, List.append_nil] at h3
   exact h3.symm
theorem cunp2 (g : Nat) (v : Value) (l : List UInt8) (w : World) (hG : Gv g w) (hb : g ≤ w.heap.size) (hv : Sl w v 1 l.length (l.map b8)) (hl : l.length ≤ 100000000) : Does Tryz.prog 22 #[v] w (fun r w' => ∃ (u : Value) (z : List CC) (e : Int), r = .tuple #[u, .int .i64 e] ∧ ((e = 0 ∧ (∀ c ∈ z, checkCls c.p = 0) ∧ packB (z.map CC.p) = l ∧ (∀ c ∈ z, insN c.p) ∧ (∀ c ∈ z, c.p.sz) ∧ (∀ c ∈ z, c.ok w')) ∨ (e = 50 ∧ z = [])) ∧ Sl w' u 8 z.length (cellsCC z) ∧ z.length ≤ 64 ∧ Nw w w') := by
  refine (cunpack_walk g v l w hG hb hv hl).mono ?_
  rintro r w' ⟨u, z, h, h1, h2, c⟩
  by_cases hu : unpC l
  ·
   rw [if_pos hu] at h
   obtain ⟨k1, k2, k3⟩ := h1 hu
   refine ⟨u, z, 0, h, .inl ⟨rfl, fun c hc => hu.2 _ (k2 ▸ List.mem_map_of_mem hc), by rw [k2]; exact unpC_bytes hu, fun c hc => ?_, fun c hc => ?_, fun c hc => (k3 c hc).ok⟩, k1.sl, ?_, c⟩
   · exact (rl_all (C := insN) (fun st => rCls_ins l st)) _ (k2 ▸ List.mem_map_of_mem hc)
   · exact (rl_all (C := Cls.sz) (fun st => rCls_sz l st)) _ (k2 ▸ List.mem_map_of_mem hc)
   ·
    have e := congrArg List.length k2
    rw [List.length_map] at e
    have := rl_len64 (l := l) (st := (0, 0))
    omega
  ·
   rw [if_neg hu] at h
   have e := h2 hu
   subst e
   exact ⟨_, [], 50, h, .inr ⟨rfl, rfl⟩, Sl.nil _ _, by decide, c⟩
set_option maxHeartbeats 2000000 in
theorem ClassUnpacks_walk (s : ByteArray) (w0 : World) (hs : s.size ≤ 140737488351232) (hL : Gv w0.heap.size w0) : Does Tryz.prog 8 #[.string s] w0 (fun r w' => r = .bool true ∧ Nw w0 w') := by
  refine fn_of (n := 52) (args := [.string s]) Tryz.func8 rfl rfl rfl (W_seq (W_region (L_r (r_ab rfl) (L_nil (W_seq (W_seq (W_region (L_r (r_ms rfl) ?_))))))))
  refine L_r (r_lens Tryz.underlying9 rfl) (L_r (r_gtr rfl rfl) (L_nil ?_))
  refine W_if rfl (fun h8 => ?_) (fun h8 => ?_)
  ·
   refine W_seq (W_region ?_)
   refine L_call (.plain rfl) rfl rfl (r_call Tryz.func12 rfl rfl rfl (by rfl)) (awake05_walk w0.heap.size _ (hL.nw Ch.au (by omega)) (by omega)) ?_
   rintro v9 w1 ⟨rfl, c1⟩
   have hz1 := c1.size
   refine L_r (r_ab rfl) (L_nil (W_ret ?_))
   refine ret1 (v := .bool _) rfl rfl ?_
   refine ⟨?_, Ch.au⟩
   first
   | rfl
   | (exfalso; omega)
   | (simp; done)
   | (simp [hz0]; done)
   | (exfalso; simp_all; done)
   | (simp_all; done)
  ·
   refine W_skip (W_seq (W_region (L_r (r_ms rfl) ?_)))
   refine L_sbytes Tryz.underlying9 Tryz.underlying31 Tryz.underlying5 (by first | omega | (simp only [sb_size, ByteArray.size_append]; omega)) (.plain rfl) rfl rfl (fun v12 w2 hv12 c2 eb2 hs2 => ?_)
   refine L_call (.plain rfl) rfl rfl (r_call Tryz.func22 rfl rfl rfl (by rfl)) (cunp2 w0.heap.size _ (bs s) _ (hL.nw Ch.au (by omega)) (by omega) Sl.au (by rw [bs_length]; omega)) ?_
   rintro v13 w3 ⟨u, z, e, rfl, hze, hzs, hzl, c3⟩
   have hz3 := c3.size
   refine L_r (r_mv) (L_r (r_ext2_0 rfl) (L_r (r_ext2_1 rfl) (L_r (r_av) (L_r (r_ai rfl) (L_nil (W_seq (W_seq (W_region ?_))))))))
   refine L_r (r_mi rfl) (L_r (r_neq rfl rfl) (L_nil ?_))
   refine W_if rfl (fun h17 => ?_) (fun h17 => ?_)
   ·
    obtain ⟨he, hz0⟩ : e = 50 ∧ z = [] := hze.resolve_left (fun k => h17 k.1)
    have hl0 : z.length = 0 := by rw [hz0]; rfl
    refine W_seq (W_region ?_)
    refine L_call (.plain rfl) rfl rfl (r_call Tryz.func12 rfl rfl rfl (by rfl)) (awake05_walk w0.heap.size _ (hL.nw Ch.au (by omega)) (by omega)) ?_
    rintro v18 w4 ⟨rfl, c4⟩
    have hz4 := c4.size
    refine L_r (r_mb rfl) ?_
    refine L_as (v := .bool _) (v' := .bool true) 19 rfl (congrArg Value.bool (by rfl)) ?_
    refine L_g (r_mi rfl) ?_
    refine L_g (r_eql rfl rfl) (L_r (r_pt rfl rfl) (L_r (r_mb rfl) ?_))
    refine L_case (d := 23) rfl (fun h23 => ?_) (fun h23 => ?_)
    ·
     refine L_g (r_mv) ?_
     refine L_g (r_lenSl Tryz.underlying44 (by conv => lhs; whnf) Sl.au) ?_
     refine L_g (r_eql rfl rfl) (L_r (r_pt rfl rfl) (L_r (r_ab rfl) (L_nil (W_ret ?_))))
     refine ret1 (v := .bool _) rfl rfl ?_
     refine ⟨?_, Ch.au⟩
     first
     | rfl
     | (exfalso; omega)
     | (simp; done)
     | (simp [hz0]; done)
     | (exfalso; simp_all; done)
     | (simp_all; done)
    ·
     refine L_ps (L_ps (L_ps (L_r (r_pf rfl rfl) (L_r (r_ab rfl) (L_nil (W_ret ?_))))))
     refine ret1 (v := .bool _) rfl rfl ?_
     refine ⟨?_, Ch.au⟩
     first
     | rfl
     | (exfalso; omega)
     | (simp; done)
     | (simp [hz0]; done)
     | (exfalso; simp_all; done)
     | (simp_all; done)
   ·
    obtain ⟨he, hck, hpk, hin, hsz, hok⟩ : e = 0 ∧ (∀ c ∈ z, checkCls c.p = 0) ∧ packB (z.map CC.p) = bs s ∧ (∀ c ∈ z, insN c.p) ∧ (∀ c ∈ z, c.p.sz) ∧ (∀ c ∈ z, c.ok w3) := hze.resolve_right (fun k => by have := k.1; omega)
    refine W_skip (W_seq (W_seq (W_region (L_r (r_ai rfl) (L_nil (W_block ?_))))))
    refine W_loopF [0, 3] (fun mz_ f W => ∃ (i : Nat), f 5 = .int .i64 i ∧ (i ≤ z.length ∧ Nw w3 W) ∧ mz_ = z.length - i) ?_ ?_
    ·
     refine ⟨_, 0, rfl, ?_, rfl⟩
     exact ⟨by omega, Ch.au⟩
    rintro m0 g0 w5 ⟨i, hf5, hR0, rfl⟩
    refine W_as 5 hf5 rfl ?_
    clear hf5
    obtain ⟨hi, hnw⟩ := hR0
    have hzz := hnw.size
    refine W_seq (W_seq (W_region (L_r (r_mi rfl) (L_r (r_mv) ?_))))
    refine L_r (r_lenSl Tryz.underlying44 (by conv => lhs; whnf) Sl.au) (L_r (r_lss rfl rfl) (L_nil ?_))
    refine W_if rfl (fun h31 => ?_) (fun h31 => ?_)
    ·
     have hil : i < z.length := by omega
     have hrow := cellsCC_row z i hil
     have hxm := List.getElem_mem hil
     obtain ⟨x, hx⟩ : ∃ x, x = z[i] := ⟨_, rfl⟩
     rw [← hx] at hrow hxm
     have hxo := hok x hxm
     have h1x := hxo.one
     refine W_skip (W_seq (W_block (W_seq (W_region (L_r (r_mv) (L_r (r_mi rfl) ?_))))))
     refine L_r (r_ix Tryz.underlying44 (show _ = some 8 from rfl) (by conv => lhs; whnf) rfl Sl.au) ?_
     refine L_r (r_loadSlrow (us := [.string x.p.name, .string x.p.super, x.vl, .bool x.p.ifc, .bool x.p.abs, .bool x.p.fin, x.vf, x.vm]) Tryz.underlying26 rfl rfl rfl rfl Sl.au (by exact hrow)) ?_
     refine L_call (.plain rfl) rfl rfl (r_call Tryz.func14 rfl rfl rfl (by rfl)) (rcheck05_walk x _ (hxo.nw Ch.au) (hsz x hxm)) ?_
     rintro v38 w6 ⟨rfl, c6⟩
     have hz6 := c6.size
     rw [hck x hxm]
     refine L_r (r_neq rfl rfl) (L_nil ?_)
     refine W_if rfl (fun h39 => ?_) (fun h39 => ?_)
     ·
      refine W_seq (W_region (L_r (r_ab rfl) (L_nil (W_ret ?_))))
      refine ret1 (v := .bool _) rfl rfl ?_
      refine ⟨?_, Ch.au⟩
      first
      | rfl
      | (exfalso; omega)
      | (simp; done)
      | (simp [hz0]; done)
      | (exfalso; simp_all; done)
      | (simp_all; done)
     ·
      refine W_skip (W_region (L_r (r_mi rfl) ?_))
      refine L_r (r_add rfl rfl (by first | exact wr_i64 (by omega) | rfl)) (L_r (r_ai rfl) (L_nil ?_))
      refine ⟨⟨fx2, fx2, trivial⟩, _, ?_, i + 1, rfl, ?_, rfl⟩
      · omega
      exact ⟨by omega, Ch.au⟩
    ·
     refine W_exit ?_
     repeat (first | refine blk_hit ?_ | refine blk_miss rfl ?_)
     refine W_seq (W_region ?_)
     refine L_call (.plain rfl) rfl rfl (r_call Tryz.func12 rfl rfl rfl (by rfl)) (awake05_walk w0.heap.size _ (hL.nw Ch.au (by omega)) (by omega)) ?_
     rintro v40 w7 ⟨rfl, c7⟩
     have hz7 := c7.size
     refine L_r (r_mb rfl) ?_
     refine L_as (v := .bool _) (v' := .bool true) 41 rfl (congrArg Value.bool (by rfl)) ?_
     refine L_g (r_mv) ?_
     refine L_g (r_lenSl Tryz.underlying44 (by conv => lhs; whnf) Sl.au) ?_
     refine L_g (r_leq rfl rfl) (L_r (r_pt rfl rfl) (L_r (r_mb rfl) ?_))
     refine L_case (d := 46) rfl (fun h46 => ?_) (fun h46 => ?_)
     ·
      refine L_g (r_mv) ?_
      refine L_call (.yes 6 true rfl rfl) rfl rfl (r_call Tryz.func23 rfl rfl rfl (by rfl)) (rpack05_walk u z _ Sl.au hzl (fun c hc => (hok c hc).nw Ch.au) hck hin) ?_
      rintro v48 w8 ⟨rfl, c8⟩
      have hz8 := c8.size
      rw [hpk, sb_bs]
      refine L_g (r_ms rfl) ?_
      refine L_g (r_eqls rfl rfl) (L_r (r_pt rfl rfl) (L_r (r_ab rfl) (L_nil (W_ret ?_))))
      refine ret1 (v := .bool _) rfl rfl ?_
      refine ⟨?_, Ch.au⟩
      first
      | rfl
      | (exfalso; omega)
      | (simp; done)
      | (simp [hz0]; done)
      | (exfalso; simp_all; done)
      | (simp_all; done)
     ·
      refine L_ps (L_ps (L_ps (L_ps (L_r (r_pf rfl rfl) (L_r (r_ab rfl) (L_nil (W_ret ?_)))))))
      refine ret1 (v := .bool _) rfl rfl ?_
      refine ⟨?_, Ch.au⟩
      first
      | rfl
      | (exfalso; omega)
      | (simp; done)
      | (simp [hz0]; done)
      | (exfalso; simp_all; done)
      | (simp_all; done)
end Go.Proofs.YthpknpfhpkkheaaGreatDoor
