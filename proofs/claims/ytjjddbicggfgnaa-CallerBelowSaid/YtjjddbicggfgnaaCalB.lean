/- CallerBelow, walked. -/
import Derived.Test.YtjjddbicggfgnaaCalO
namespace Go.Proofs.Ytjjddbicggfgnaa
open Go Go.RowKit
set_option linter.unusedVariables false
set_option linter.unusedSimpArgs false
set_option maxRecDepth 100000
theorem seen_in {L : List Rst} (hn : (L.map (·.seq)).Nodup) {k : Int} (h : ∃ r ∈ L, r.seq = k) : mget (seenL L) k = some 1 := by
  obtain ⟨r, hr, e⟩ := h
  have h1 : ((seenL L).map (·.1)).Nodup := by unfold seenL; rw [List.map_map]; exact hn
  exact mget_mem h1 (List.mem_map.2 ⟨r, hr, by rw [← e]⟩)
set_option maxHeartbeats 8000000 in
theorem CallerBelow_walk (v2 : Value) (z : List SAct) (w0 : World) (y1 : Sl w0 v2 9 z.length (cellsS z) ∧ ∀ a ∈ z, a.m.ok) : Does Try.prog 6 #[v2] w0 (fun r w' => r = .bool true ∧ Nw w0 w') := by
  have y0 := y1.1
  refine fn_of (n := 123) (args := [v2]) Try.func6 rfl rfl rfl ?_
  refine W_seq ?_
  refine W_region ?_
  refine L_r (r_ab rfl) ?_
  refine L_nil ?_
  refine W_seq ?_
  refine W_region ?_
  refine L_call (.plain rfl) rfl rfl (r_call Try.func9 rfl rfl rfl (by rfl)) (new_use 7 3 3 _ (by omega)) ?_
  rintro v15 w1 ⟨b, F0, rfl, hX0, hF0, c1⟩
  have hz1 := c1.size
  refine L_r (r_mv) ?_
  refine L_r (r_ext2_0 rfl) ?_
  refine L_r (r_ext2_1 rfl) ?_
  refine L_r (r_ap rfl) ?_
  refine L_r (r_ai rfl) ?_
  refine L_nil ?_
  refine W_seq ?_
  refine W_seq ?_
  refine W_region ?_
  refine L_call (.plain rfl) rfl rfl (r_call Try.func10 rfl rfl rfl (by rfl)) (awake_walk _) ?_
  rintro v18 w2 ⟨rfl, c2⟩
  have hz2 := c2.size
  refine L_as (v := .bool _) (v' := .bool true) 18 rfl (congrArg Value.bool (by rfl)) ?_
  refine L_r (r_not rfl) ?_
  refine L_r (r_mb rfl) ?_
  refine L_g (r_mi rfl) ?_
  refine L_g (r_neq rfl rfl) ?_
  refine L_as (v := .bool _) (v' := .bool false) 22 rfl (dec_f (by simp)).symm ?_
  refine L_r (r_pf rfl rfl) ?_
  refine L_r (r_mb rfl) ?_
  refine L_g (r_mp rfl) ?_
  refine L_g (r_eqpnil Try.underlying22 rfl rfl) ?_
  refine L_as (v := .bool _) (v' := .bool false) 26 rfl (congrArg Value.bool (by simp)) ?_
  refine L_r (r_pf rfl rfl) ?_
  refine L_nil ?_
  refine W_false rfl ?_
  refine W_skip ?_
  refine W_seq ?_
  refine W_region ?_
  refine L_r (r_ai rfl) ?_
  refine L_nil ?_
  refine W_seq ?_
  refine W_seq ?_
  refine W_region ?_
  refine L_r (r_ai rfl) ?_
  refine L_nil ?_
  refine W_block ?_
  refine W_loopF [0, 3] (fun mz_ f W => ∃ (i : Nat) (F : Nat → Prop) (C : Cal) (was : Int), f 6 = .int .i64 i ∧ f 5 = .int .u64 was ∧ (i ≤ z.length ∧ i ≤ 100 ∧ OX w0.heap.size F W b C i ∧ was ≤ belowC C ∧ Nw w0 W) ∧ mz_ = 100 - i) ?_ ?_
  · refine ⟨_, 0, F0, cal0 7 3 3, 1, rfl, rfl, ?_, rfl⟩
    exact ⟨by omega, by omega, ⟨hX0.nw Ch.au, Cal.Inv.zero _ _ _, fun p hp => absurd hp (by simp), lim0 _ _ _⟩, Int.le_refl _, Ch.au⟩
  rintro m0 g0 w3 ⟨i, F, C, was, hf6, hf5, hR0, rfl⟩
  refine W_as 6 hf6 rfl ?_
  refine W_as 5 hf5 rfl ?_
  clear hf6 hf5
  obtain ⟨hi1, hi2, hO, hwas, hnw⟩ := hR0
  have hz := hnw.size
  have q1 := hO.l.1
  have q0 := hO.x.good.lst
  obtain ⟨wx, hwx⟩ : ∃ x, x = was := ⟨_, rfl⟩
  refine W_seq ?_
  refine W_seq ?_
  refine W_region ?_
  refine L_r (r_mi rfl) ?_
  refine L_r (r_mv) ?_
  refine L_r (r_lenSl Try.underlying37 (by conv => lhs; whnf) Sl.au) ?_
  refine L_r (r_lss rfl rfl) ?_
  refine L_r (r_mb rfl) ?_
  refine L_case (d := 32) rfl (fun h32 => ?_) (fun h32 => ?_)
  · refine L_g (r_mi rfl) ?_
    refine L_g (r_lss rfl rfl) ?_
    refine L_r (r_pt rfl rfl) ?_
    refine L_nil ?_
    refine W_if rfl (fun h35 => ?_) (fun h35 => ?_)
    · have hlt : i < z.length := by omega
      refine W_skip ?_
      refine W_cutF [0, 3, 6] (fun f W => ∃ (F2 : Nat → Prop) (C2 : Cal) (wx2 : Int), f 5 = .int .u64 wx2 ∧ (i + 1 ≤ z.length ∧ i + 1 ≤ 100 ∧ OX w0.heap.size F2 W b C2 (i + 1) ∧ wx2 ≤ belowC C2 ∧ Nw w0 W)) ?_ ?_
      · refine W_block ?_
        refine W_seq ?_
        have hc9 := cellsS_row z i hlt
        obtain ⟨a, ha⟩ : ∃ a, a = z[i] := ⟨_, rfl⟩
        rw [← ha] at hc9
        obtain ⟨Fx, hFx⟩ : ∃ x, x = F := ⟨_, rfl⟩
        obtain ⟨Cx, hCx⟩ : ∃ x, x = C := ⟨_, rfl⟩
        refine W_region ?_
        refine L_r (r_mv) ?_
        refine L_r (r_mi rfl) ?_
        refine L_r (r_ix Try.underlying37 (show _ = some 9 from rfl) (by conv => lhs; whnf) rfl Sl.au) ?_
        refine L_r (r_loadSlrow (us := [.int .i64 a.k, .int .i64 a.m.kind, .int .u64 a.m.life, .int .u64 a.m.seq, .int .u64 a.m.below, .int .u64 a.m.object, .string a.m.method, .int .i64 a.m.way, .string a.m.body]) Try.underlying43 rfl rfl rfl rfl Sl.au (by exact hc9)) ?_
        refine L_new (.plain rfl) rfl rfl (r_alloca rfl) (fun w4 b7 hb7 eb4 hs4 c4 => ?_)
        refine L_storerow (.plain rfl) rfl rfl Bk.au (by first | rfl | (simp; done) | assumption) (by first | rfl | assumption) (by first | rfl | (simp [Value.oneCell']; done) | assumption) (fun w5 hb5 hs5 c5 => ?_)
        refine L_nil ?_
        refine W_seq ?_
        refine W_seq ?_
        refine W_region ?_
        refine L_r (r_fieldb Try.underlying43 rfl (show _ = some 8 from rfl) rfl rfl (show _ = 1 from rfl)) ?_
        refine L_r (r_fieldb Try.underlying33 rfl (show _ = some 1 from rfl) rfl rfl (show _ = 8 from rfl)) ?_
        refine L_r (r_lb rfl rfl) ?_
        refine L_r (r_lens Try.underlying9 rfl) ?_
        refine L_r (r_gtr rfl rfl) ?_
        refine L_r (r_mb rfl) ?_
        refine L_case (d := 47) rfl (fun h47 => ?_) (fun h47 => ?_)
        · refine L_ps ?_
          refine L_ps ?_
          refine L_ps ?_
          refine L_ps ?_
          refine L_ps ?_
          refine L_r (r_pt rfl rfl) ?_
          refine L_nil ?_
          refine W_true rfl ?_
          refine W_exit ?_
          repeat (first | refine blk_hit ?_ | refine blk_miss rfl ?_)
          refine ⟨⟨rfl, rfl, rfl, trivial⟩, Fx, Cx, wx, (by rw [hwx]; rfl), ?_⟩
          subst hFx hCx hwx
          first
          | exact ⟨by omega, by omega, (hO.nw Ch.au).mono (by omega), hwas, Ch.au⟩
          | exact ⟨by omega, by omega, hO5.nw Ch.au, Int.le_refl _, Ch.au⟩
        · refine L_g (r_fieldb Try.underlying43 rfl (show _ = some 8 from rfl) rfl rfl (show _ = 1 from rfl)) ?_
          refine L_g (r_fieldb Try.underlying33 rfl (show _ = some 1 from rfl) rfl rfl (show _ = 6 from rfl)) ?_
          refine L_g (r_lb rfl rfl) ?_
          refine L_g (r_lens Try.underlying9 rfl) ?_
          refine L_g (r_gtr rfl rfl) ?_
          refine L_r (r_pf rfl rfl) ?_
          refine L_nil ?_
          refine W_if rfl (fun h53 => ?_) (fun h53 => ?_)
          · refine W_exit ?_
            repeat (first | refine blk_hit ?_ | refine blk_miss rfl ?_)
            refine ⟨⟨rfl, rfl, rfl, trivial⟩, Fx, Cx, wx, (by rw [hwx]; rfl), ?_⟩
            subst hFx hCx hwx
            first
            | exact ⟨by omega, by omega, (hO.nw Ch.au).mono (by omega), hwas, Ch.au⟩
            | exact ⟨by omega, by omega, hO5.nw Ch.au, Int.le_refl _, Ch.au⟩
          · refine W_skip ?_
            refine W_seq ?_
            refine W_seq ?_
            refine W_region ?_
            refine L_r (r_fieldb Try.underlying43 rfl (show _ = some 1 from rfl) rfl rfl (show _ = 0 from rfl)) ?_
            refine L_r (r_lb rfl rfl) ?_
            refine L_nil ?_
            refine W_endF [0, 3, 5, 6] (fun f W => ∃ (F2 : Nat → Prop) (C2 : Cal), True ∧ (OX w0.heap.size F2 W b C2 (i + 1) ∧ was ≤ belowC C2 ∧ Nw w0 W)) ?_ ?_
            · refine W_block ?_
              refine W_seq ?_
              refine W_region ?_
              refine L_r (r_eql rfl rfl) ?_
              refine L_r (r_ab rfl) ?_
              refine L_nil ?_
              refine W_if rfl (fun h56 => ?_) (fun h56 => ?_)
              · refine W_region ?_
                refine L_r (r_mp rfl) ?_
                refine L_r (r_fieldb Try.underlying43 rfl (show _ = some 8 from rfl) rfl rfl (show _ = 1 from rfl)) ?_
                refine L_r (r_fieldb Try.underlying33 rfl (show _ = some 1 from rfl) rfl rfl (show _ = 5 from rfl)) ?_
                refine L_r (r_lb rfl rfl) ?_
                refine L_r (r_fieldb Try.underlying43 rfl (show _ = some 8 from rfl) rfl rfl (show _ = 1 from rfl)) ?_
                refine L_r (r_fieldb Try.underlying33 rfl (show _ = some 1 from rfl) rfl rfl (show _ = 6 from rfl)) ?_
                refine L_r (r_lb rfl rfl) ?_
                refine L_r (r_fieldb Try.underlying43 rfl (show _ = some 8 from rfl) rfl rfl (show _ = 1 from rfl)) ?_
                refine L_r (r_fieldb Try.underlying33 rfl (show _ = some 1 from rfl) rfl rfl (show _ = 8 from rfl)) ?_
                refine L_r (r_lb rfl rfl) ?_
                refine L_call (.plain rfl) rfl rfl (r_call Try.func11 rfl rfl rfl (by rfl)) (call_use _ F b i C a.m.object a.m.method a.m.body _ (hO.x.nw Ch.au) hO.l (by omega) (by omega)) ?_
                rintro v68 w6 ⟨F', rfl, hX', hLim2, hF', c6⟩
                have hz6 := c6.size
                have hO2 := hO.call_ (by omega) hX' hLim2
                have hwas2 := Int.le_trans hwas (below_call hO.x.good (by omega) a.m.object a.m.method a.m.body)
                clear hFx hCx
                obtain ⟨Fx, hFx⟩ : ∃ x, x = F' := ⟨_, rfl⟩
                obtain ⟨Cx, hCx⟩ : ∃ x, x = (callC C a.m.object a.m.method a.m.body).1 := ⟨_, rfl⟩
                refine L_nil ?_
                refine ⟨⟨rfl, rfl, rfl, rfl, trivial⟩, Fx, Cx, trivial, ?_⟩
                subst hFx hCx
                first
                | exact ⟨(hO.nw Ch.au).mono (by omega), hwas, Ch.au⟩
                | exact ⟨hO2.nw Ch.au, hwas2, Ch.au⟩
              · refine W_seq ?_
                refine W_region ?_
                refine L_r (r_eql rfl rfl) ?_
                refine L_r (r_ab rfl) ?_
                refine L_nil ?_
                refine W_if rfl (fun h69 => ?_) (fun h69 => ?_)
                · refine W_region ?_
                  refine L_r (r_mp rfl) ?_
                  refine L_call (.plain rfl) rfl rfl (r_call Try.func14 rfl rfl rfl (by rfl)) (tick_use _ F b i C _ (hO.x.nw Ch.au) hO.l (by omega) (by omega)) ?_
                  rintro v72 w7 ⟨F', rfl, hX', hLim2, hF', c7⟩
                  have hz7 := c7.size
                  have hO2 := hO.tick_ hX' hLim2
                  have hwas2 := Int.le_trans hwas (below_tick hO.x.good)
                  clear hFx hCx
                  obtain ⟨Fx, hFx⟩ : ∃ x, x = F' := ⟨_, rfl⟩
                  obtain ⟨Cx, hCx⟩ : ∃ x, x = tick C := ⟨_, rfl⟩
                  refine L_nil ?_
                  refine ⟨⟨rfl, rfl, rfl, rfl, trivial⟩, Fx, Cx, trivial, ?_⟩
                  subst hFx hCx
                  first
                  | exact ⟨(hO.nw Ch.au).mono (by omega), hwas, Ch.au⟩
                  | exact ⟨hO2.nw Ch.au, hwas2, Ch.au⟩
                · refine W_seq ?_
                  refine W_region ?_
                  refine L_r (r_eql rfl rfl) ?_
                  refine L_r (r_ab rfl) ?_
                  refine L_nil ?_
                  refine W_if rfl (fun h73 => ?_) (fun h73 => ?_)
                  · refine W_seq ?_
                    refine W_region ?_
                    refine L_r (r_fieldb Try.underlying43 rfl (show _ = some 8 from rfl) rfl rfl (show _ = 1 from rfl)) ?_
                    refine L_r (r_fieldb Try.underlying33 rfl (show _ = some 1 from rfl) rfl rfl (show _ = 2 from rfl)) ?_
                    refine L_set (.plain rfl) rfl Bk.au (r_store (v := .int _ _) rfl rfl rfl rfl Bk.au (by first | decide | (simp; done) | omega)) (fun w8 hb8 hs8 c8 => ?_)
                    try simp only [List.setIfInBounds_toArray, List.set_cons_zero, List.set_cons_succ] at hb8
                    refine L_nil ?_
                    refine W_region ?_
                    refine L_r (r_mp rfl) ?_
                    refine L_r (r_fieldb Try.underlying43 rfl (show _ = some 8 from rfl) rfl rfl (show _ = 1 from rfl)) ?_
                    refine L_r (r_loadsub (us := [.int _ _, .int _ _, .int _ _, .int _ _, .int _ _, .string _, .int _ _, .string _]) Try.underlying33 rfl (show _ = some 8 from rfl) rfl Bk.au rfl rfl) ?_
                    refine L_call (.plain rfl) rfl rfl (r_call Try.func19 rfl rfl rfl (by rfl)) (recv_use _ F b i C { a.m with life := 7 } _ (hO.x.nw Ch.au) hO.l (by omega) (by omega)) ?_
                    rintro v80 w9 ⟨F', rfl, hX', hLim2, hF', c9⟩
                    have hz9 := c9.size
                    have hO2 := hO.recv_ hX' hLim2
                    have hwas2 := Int.le_trans hwas (below_recv hO.x.good { a.m with life := 7 })
                    clear hFx hCx
                    obtain ⟨Fx, hFx⟩ : ∃ x, x = F' := ⟨_, rfl⟩
                    obtain ⟨Cx, hCx⟩ : ∃ x, x = (recvC C { a.m with life := 7 }).1 := ⟨_, rfl⟩
                    refine L_nil ?_
                    refine ⟨⟨rfl, rfl, rfl, rfl, trivial⟩, Fx, Cx, trivial, ?_⟩
                    subst hFx hCx
                    first
                    | exact ⟨(hO.nw Ch.au).mono (by omega), hwas, Ch.au⟩
                    | exact ⟨hO2.nw Ch.au, hwas2, Ch.au⟩
                  · refine W_skip ?_
                    refine ⟨⟨rfl, rfl, rfl, rfl, trivial⟩, Fx, Cx, trivial, ?_⟩
                    subst hFx hCx
                    first
                    | exact ⟨(hO.nw Ch.au).mono (by omega), hwas, Ch.au⟩
                    | exact ⟨hO2.nw Ch.au, hwas2, Ch.au⟩
            rintro gcb2 w10 ⟨F2, C2, -, hCb2⟩
            obtain ⟨hO3, hwas3, hnw3⟩ := hCb2
            have hz3 := hnw3.size
            have r1 := hO3.l.1
            have r2 := hO3.l.2.1
            have r3 := hO3.l.2.2.1
            have r4 := hO3.l.2.2.2
            have hinv := hO3.i
            have hrnd := hinv.rnd
            clear hFx hCx
            refine W_seq ?_
            refine W_region ?_
            refine L_r (r_mp rfl) ?_
            refine L_call (.plain rfl) rfl rfl (r_call Try.func12 rfl rfl rfl (by rfl)) (out_use _ F2 b C2 _ (hO3.x.nw Ch.au)) ?_
            rintro v82 w11 ⟨v5, F4, rfl, hv5, hX4, hF4, hd4, c11⟩
            have hz11 := c11.size
            have hO4 := hO3.out0 hX4
            have hsl5 := hv5.sl
            have hlim4 := hO4.l
            refine L_r (r_av) ?_
            refine L_nil ?_
            refine W_seq ?_
            refine W_region ?_
            refine L_mkmap (K := Int) (V := Int) (.int .u64) (.int .i64) (.plain rfl) rfl (fun w12 b83 hb83 eb12 hs12 c12 => ?_)
            refine L_r (r_av) ?_
            refine L_nil ?_
            refine W_seq ?_
            refine W_region ?_
            refine L_r (r_mp rfl) ?_
            refine L_call (.plain rfl) rfl rfl (r_call Try.func13 rfl rfl rfl (by rfl)) (results_use _ F4 b _ _ (hO4.x.nw Ch.au) (by show C2.res.length ≤ _; omega)) ?_
            rintro v85 w13 ⟨v6, rfl, hv6, c13⟩
            have hz13 := c13.size
            have hsl6 := hv6.sl
            refine L_r (r_av) ?_
            refine L_nil ?_
            refine W_seq ?_
            refine W_seq ?_
            have hlo : ∀ i, v85.ownBlock = some i → b83 < i := fun i hi => by have := ow_base hv6 hi; omega
            have hsep5 : ∀ i, v82.ownBlock = some i → i < b83 := fun i hi => by have := hv5.lt hi; omega
            have hnF : ¬ F4 b83 := fun h => by have := (hO4.x.lt _ h).2; omega
            refine W_region ?_
            refine L_r (r_ai rfl) ?_
            refine L_nil ?_
            refine W_block ?_
            refine W_loopF [0, 3, 5, 6, 8, 9, 10] (fun mz_ f W => ∃ (q : Nat), f 11 = .int .i64 q ∧ (q ≤ C2.res.length ∧ Mp (.int .u64) (.int .i64) W b83 (seenL (C2.res.take q)) ∧ Sl W v85 3 C2.res.length (cellsT C2.res) ∧ Sl W v82 8 C2.out.length (cellsM C2.out) ∧ OX w0.heap.size F4 W b { C2 with out := [] } (i + 1) ∧ Nw w0 W) ∧ mz_ = C2.res.length - q) ?_ ?_
            · refine ⟨_, 0, rfl, ?_, rfl⟩
              exact ⟨by omega, Mp.au, Sl.au, Sl.au, hO4.nw Ch.au, Ch.au⟩
            rintro m1 g1 w14 ⟨q, hf11, hR1, rfl⟩
            refine W_as 11 hf11 rfl ?_
            clear hf11
            obtain ⟨hq, hmp, hslr, hslm, hP6, hnw6⟩ := hR1
            clear hsl5 hsl6 hv5 hv6
            have hz6 := hnw6.size
            have hml := hmp.lt
            refine W_seq ?_
            refine W_seq ?_
            refine W_region ?_
            refine L_r (r_mi rfl) ?_
            refine L_r (r_mv) ?_
            refine L_r (r_lenSl Try.underlying34 (by conv => lhs; whnf) Sl.au) ?_
            refine L_r (r_lss rfl rfl) ?_
            refine L_nil ?_
            refine W_if rfl (fun h89 => ?_) (fun h89 => ?_)
            · have hql : q < C2.res.length := by omega
              have hrow := cellsT_row C2.res q hql
              have hse := seen_no hrnd hql
              have hri := hinv.rin C2.res[q] (List.getElem_mem _)
              obtain ⟨r, hre⟩ : ∃ r, r = C2.res[q] := ⟨_, rfl⟩
              rw [← hre] at hrow hse hri
              refine W_skip ?_
              refine W_seq ?_
              refine W_block ?_
              refine W_region ?_
              refine L_r (r_mv) ?_
              refine L_r (r_mv) ?_
              refine L_r (r_mi rfl) ?_
              refine L_r (r_ix Try.underlying34 (show _ = some 3 from rfl) (by conv => lhs; whnf) rfl Sl.au) ?_
              refine L_r (r_fieldSl Try.underlying58 rfl (show _ = some 1 from rfl) rfl (show _ = 0 from rfl) (Nat.add_zero _) rfl) ?_
              refine L_r (r_loadSl rfl rfl Sl.au (by first | assumption | exact hrow 0 _ rfl | exact hrow 3 _ rfl | (conv => lhs; simp only [List.getElem?_toArray, List.getElem?_cons_succ, List.getElem?_cons_zero]))) ?_
              refine L_mapset (ke := .int .u64) (ve := .int .i64) (r.seq) (1) Try.underlying56 Try.underlying26 (fun _ => by first | trivial | rfl) (fun _ _ h => by cases h; rfl) (.plain rfl) rfl rfl rfl Mp.au (fun w15 hm15 hs15 c15 => ?_)
              refine L_nil ?_
              refine W_region ?_
              refine L_r (r_mi rfl) ?_
              refine L_r (r_add rfl rfl (by first | exact wr_i64 (by omega) | rfl)) ?_
              refine L_r (r_ai rfl) ?_
              refine L_nil ?_
              refine ⟨⟨rfl, rfl, rfl, rfl, rfl, rfl, rfl, trivial⟩, _, ?_, q + 1, rfl, ?_, rfl⟩
              · omega
              refine ⟨by omega, by rw [← seen_next hrnd hql, ← hre]; (exact Mp.au), Sl.au, ?_, hP6.st hnF Ch.au, Ch.au⟩
              clear hlo
              have hlo := hsep5
              (exact Sl.au)
            · refine W_exit ?_
              repeat (first | refine blk_hit ?_ | refine blk_miss rfl ?_)
              refine W_seq ?_
              refine W_seq ?_
              have e : C2.res.take q = C2.res := by rw [show q = C2.res.length by omega, List.take_length]
              rw [e] at hmp
              refine W_region ?_
              refine L_r (r_ai rfl) ?_
              refine L_nil ?_
              refine W_block ?_
              refine W_loopF [0, 3, 5, 6, 8, 9] (fun mz_ f W => ∃ (j : Nat), f 12 = .int .i64 j ∧ (j ≤ C2.out.length ∧ Nw w14 W) ∧ mz_ = C2.out.length - j) ?_ ?_
              · refine ⟨_, 0, rfl, ?_, rfl⟩
                exact ⟨by omega, Ch.au⟩
              rintro m2 g2 w16 ⟨j, hf12, hR2, rfl⟩
              refine W_as 12 hf12 rfl ?_
              clear hf12
              obtain ⟨hj, hnj⟩ := hR2
              have hzj := hnj.size
              refine W_seq ?_
              refine W_seq ?_
              refine W_region ?_
              refine L_r (r_mi rfl) ?_
              refine L_r (r_mv) ?_
              refine L_r (r_lenSl Try.underlying30 (by conv => lhs; whnf) Sl.au) ?_
              refine L_r (r_lss rfl rfl) ?_
              refine L_nil ?_
              refine W_if rfl (fun h101 => ?_) (fun h101 => ?_)
              · have hjl : j < C2.out.length := by omega
                have hrow := cellsM_row C2.out j hjl
                have hom := hinv.out C2.out[j] (List.getElem_mem _)
                obtain ⟨m, hme⟩ : ∃ m, m = C2.out[j] := ⟨_, rfl⟩
                rw [← hme] at hrow hom
                refine W_skip ?_
                refine W_seq ?_
                refine W_block ?_
                refine W_seq ?_
                refine W_region ?_
                refine L_r (r_ai rfl) ?_
                refine L_nil ?_
                refine W_block ?_
                refine W_loopF [0, 3, 5, 6, 8, 9, 12] (fun mz_ f W => ∃ (n : Int), f 13 = .int .u64 n ∧ (1 ≤ n ∧ n ≤ 1000 ∧ Nw w14 W) ∧ mz_ = (m.below - n).toNat) ?_ ?_
                · refine ⟨_, 1, rfl, ?_, rfl⟩
                  exact ⟨by omega, by omega, Ch.au⟩
                rintro m3 g3 w17 ⟨n, hf13, hR3, rfl⟩
                refine W_as 13 hf13 rfl ?_
                clear hf13
                obtain ⟨hn1, hn2, hnn⟩ := hR3
                have hzn := hnn.size
                refine W_seq ?_
                refine W_seq ?_
                refine W_region ?_
                refine L_r (r_mi rfl) ?_
                refine L_r (r_mv) ?_
                refine L_r (r_mi rfl) ?_
                refine L_r (r_ix Try.underlying30 (show _ = some 8 from rfl) (by conv => lhs; whnf) rfl Sl.au) ?_
                refine L_r (r_fieldSl Try.underlying33 rfl (show _ = some 1 from rfl) rfl (show _ = 3 from rfl) rfl rfl) ?_
                refine L_r (r_loadSl rfl rfl Sl.au (by first | assumption | exact hrow 0 _ rfl | exact hrow 3 _ rfl | (conv => lhs; simp only [List.getElem?_toArray, List.getElem?_cons_succ, List.getElem?_cons_zero]))) ?_
                refine L_r (r_lss rfl rfl) ?_
                refine L_nil ?_
                refine W_if rfl (fun h110 => ?_) (fun h110 => ?_)
                · have hex := hom n hn1 (by omega)
                  have hsi := seen_in hrnd hex
                  obtain ⟨r, hr, her⟩ := hex
                  have hrr := (hinv.rin r hr).1
                  refine W_skip ?_
                  refine W_seq ?_
                  refine W_block ?_
                  refine W_seq ?_
                  refine W_region ?_
                  refine L_r (r_mv) ?_
                  refine L_r (r_mi rfl) ?_
                  refine L_r (r_lookup (ke := .int .u64) (ve := .int .i64) _ (0) Try.underlying56 Try.underlying26 (fun _ => by first | trivial | rfl) (fun _ _ h => by cases h; rfl) rfl rfl rfl Mp.au) ?_
                  rw [show (mget (seenL C2.res) n).getD 0 = 1 by rw [hsi]; rfl]
                  refine L_r (r_eql rfl rfl) ?_
                  refine L_nil ?_
                  refine W_if rfl (fun h116 => ?_) (fun h116 => ?_)
                  · omega
                  · refine W_skip ?_
                    refine W_region ?_
                    refine L_r (r_mi rfl) ?_
                    refine L_r (r_add rfl rfl (by first | exact wr_u64 (by omega) | rfl)) ?_
                    refine L_r (r_ai rfl) ?_
                    refine L_nil ?_
                    refine ⟨⟨rfl, rfl, rfl, rfl, rfl, rfl, rfl, trivial⟩, _, ?_, n + 1, rfl, ?_, rfl⟩
                    · omega
                    exact ⟨by omega, by omega, Ch.au⟩
                · refine W_exit ?_
                  repeat (first | refine blk_hit ?_ | refine blk_miss rfl ?_)
                  refine W_region ?_
                  refine L_r (r_mi rfl) ?_
                  refine L_r (r_add rfl rfl (by first | exact wr_i64 (by omega) | rfl)) ?_
                  refine L_r (r_ai rfl) ?_
                  refine L_nil ?_
                  refine ⟨⟨rfl, rfl, rfl, rfl, rfl, rfl, trivial⟩, _, ?_, j + 1, rfl, ?_, rfl⟩
                  · omega
                  exact ⟨by omega, Ch.au⟩
              · refine W_exit ?_
                repeat (first | refine blk_hit ?_ | refine blk_miss rfl ?_)
                refine W_seq ?_
                refine W_seq ?_
                refine W_region ?_
                refine L_r (r_mp rfl) ?_
                refine L_call (.plain rfl) rfl rfl (r_call Try.func23 rfl rfl rfl (by rfl)) (below_x _ F4 b { C2 with out := [] } _ (hP6.x.nw Ch.au) (by show C2.op.length ≤ _; omega)) ?_
                rintro v118 w18 ⟨rfl, c18⟩
                have hz18 := c18.size
                refine L_r (r_mi rfl) ?_
                refine L_r (r_lss rfl rfl) ?_
                refine L_nil ?_
                refine W_if rfl (fun h120 => ?_) (fun h120 => ?_)
                · exact absurd h120 (by show ¬ belowC C2 < was; omega)
                · have hbb := hP6.x.good.toAsc.bel
                  have hO5 := hP6
                  have hwx0 := hwx
                  clear hwx
                  obtain ⟨wx, hwx⟩ : ∃ x, x = belowC { C2 with out := [] } := ⟨_, rfl⟩
                  obtain ⟨Fx, hFx⟩ : ∃ x, x = F4 := ⟨_, rfl⟩
                  obtain ⟨Cx, hCx⟩ : ∃ x, x = ({ C2 with out := [] } : Cal) := ⟨_, rfl⟩
                  refine W_skip ?_
                  refine W_region ?_
                  refine L_r (r_mp rfl) ?_
                  refine L_call (.plain rfl) rfl rfl (r_call Try.func23 rfl rfl rfl (by rfl)) (below_x _ F4 b { C2 with out := [] } _ (hP6.x.nw Ch.au) (by show C2.op.length ≤ _; omega)) ?_
                  rintro v122 w19 ⟨rfl, c19⟩
                  have hz19 := c19.size
                  refine L_r (r_ai rfl) ?_
                  refine L_nil ?_
                  refine ⟨⟨rfl, rfl, rfl, trivial⟩, Fx, Cx, wx, (by rw [hwx]; rfl), ?_⟩
                  subst hFx hCx hwx
                  first
                  | exact ⟨by omega, by omega, (hO.nw Ch.au).mono (by omega), hwas, Ch.au⟩
                  | exact ⟨by omega, by omega, hO5.nw Ch.au, Int.le_refl _, Ch.au⟩
      rintro gcb1 w20 ⟨F2, C2, wx2, hf5, hCb1⟩
      refine W_as 5 hf5 rfl ?_
      clear hf5
      refine W_region ?_
      refine L_r (r_mi rfl) ?_
      refine L_r (r_add rfl rfl (by first | exact wr_i64 (by omega) | rfl)) ?_
      refine L_r (r_ai rfl) ?_
      refine L_nil ?_
      refine ⟨⟨rfl, rfl, trivial⟩, _, ?_, i + 1, F2, C2, wx2, rfl, rfl, ?_, rfl⟩
      · omega
      exact hCb1
    · refine W_exit ?_
      repeat (first | refine blk_hit ?_ | refine blk_miss rfl ?_)
      refine W_seq ?_
      refine W_region ?_
      refine L_r (r_ab rfl) ?_
      refine L_nil ?_
      refine W_ret ?_
      refine ret1 (v := .bool _) rfl rfl ?_
      exact ⟨rfl, Ch.au⟩
  · refine L_ps ?_
    refine L_ps ?_
    refine L_r (r_pf rfl rfl) ?_
    refine L_nil ?_
    refine W_false rfl ?_
    refine W_exit ?_
    repeat (first | refine blk_hit ?_ | refine blk_miss rfl ?_)
    refine W_seq ?_
    refine W_region ?_
    refine L_r (r_ab rfl) ?_
    refine L_nil ?_
    refine W_ret ?_
    refine ret1 (v := .bool _) rfl rfl ?_
    exact ⟨rfl, Ch.au⟩
end Go.Proofs.Ytjjddbicggfgnaa

