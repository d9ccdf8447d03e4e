/- CallerIgnores, walked. -/
import Derived.Test.YtjjddbicggfgnaaCalO
import Derived.OpenShut
namespace Go.Proofs.Ytjjddbicggfgnaa
open Go Go.RowKit
set_option linter.unusedVariables false
set_option linter.unusedSimpArgs false
set_option maxRecDepth 100000
theorem wf_u64 {n : Int} (h : (Lit.int .u64 n).wf = true) : 0 ≤ n ∧ n ≤ 18446744073709551615 := by simpa [Lit.wf, IntKind.min, IntKind.max, IntKind.signed, IntKind.bits] using h
theorem rd_33 {H : Type} {enc : TypeId × Value → H} {W : World} {b0 : Nat} {v : Value} {d : DataW H} {p : List MemPlace}
    (hok : Value.okWide Try.prog W .any b0 33 v) (h : DataW.Trod enc Try.prog W 0 (fun _ => true) true 33 v d p) : ∃ z : Msg, v = z.v ∧ z.ok := by
  have hag : ∃ cs, v = .agg cs ∧ cs.size = Try.prog.cellsOf 33 := by
    unfold Value.okWide at hok
    rw [Try.underlying33] at hok
    obtain ⟨cs, h1, h2, _⟩ := hok
    exact ⟨cs, h1, h2⟩
  obtain ⟨cs, rfl, hsz⟩ := hag
  obtain ⟨n, hy⟩ := h
  obtain ⟨xs, m, _, _, hl, hxl, hf⟩ := DataW.trod_struct Try.underlying33 hy
  have hl8 : cs.toList.length = 8 := by rw [Array.length_toList]; exact hsz
  have hcs : cs = cs.toList.toArray := by simp
  have hf2 : ∀ (i : Nat) (f : Field), _ = some f → DataW.trod enc Try.prog W 0 (fun _ => true) true m f.type ((cs.toList.drop f.offset).take (Try.prog.cellsOf f.type)) = xs[i]? := hf
  rw [hcs]
  generalize cs.toList = L at hl8 hf2
  match L, hl8 with
  | [c0, c1, c2, c3, c4, c5, c6, c7], _ =>
    obtain ⟨y0, g0⟩ := st_at hxl hf2 0 _ rfl
    obtain ⟨y1, g1⟩ := st_at hxl hf2 1 _ rfl
    obtain ⟨y2, g2⟩ := st_at hxl hf2 2 _ rfl
    obtain ⟨y3, g3⟩ := st_at hxl hf2 3 _ rfl
    obtain ⟨y4, g4⟩ := st_at hxl hf2 4 _ rfl
    obtain ⟨y5, g5⟩ := st_at hxl hf2 5 _ rfl
    obtain ⟨y6, g6⟩ := st_at hxl hf2 6 _ rfl
    obtain ⟨y7, g7⟩ := st_at hxl hf2 7 _ rfl
    obtain ⟨n0, e0, _⟩ := DataW.trod_int Try.underlying3 g0
    obtain ⟨n1, e1, _, k1⟩ := DataW.trod_int Try.underlying26 g1
    obtain ⟨n2, e2, _, k2⟩ := DataW.trod_int Try.underlying26 g2
    obtain ⟨n3, e3, _, k3⟩ := DataW.trod_int Try.underlying26 g3
    obtain ⟨n4, e4, _, k4⟩ := DataW.trod_int Try.underlying26 g4
    obtain ⟨n5, e5, _⟩ := DataW.trod_string Try.underlying9 g5
    obtain ⟨n6, e6, _⟩ := DataW.trod_int Try.underlying3 g6
    obtain ⟨n7, e7, _⟩ := DataW.trod_string Try.underlying9 g7
    have f0 : c0 = .int .i64 n0 := (List.cons.inj e0).1
    have f1 : c1 = .int .u64 n1 := (List.cons.inj e1).1
    have f2 : c2 = .int .u64 n2 := (List.cons.inj e2).1
    have f3 : c3 = .int .u64 n3 := (List.cons.inj e3).1
    have f4 : c4 = .int .u64 n4 := (List.cons.inj e4).1
    have f5 : c5 = .string n5 := (List.cons.inj e5).1
    have f6 : c6 = .int .i64 n6 := (List.cons.inj e6).1
    have f7 : c7 = .string n7 := (List.cons.inj e7).1
    exact ⟨⟨n0, n1, n2, n3, n4, n5, n6, n7⟩, by rw [f0, f1, f2, f3, f4, f5, f6, f7], ⟨wf_u64 k1, wf_u64 k2, wf_u64 k3, wf_u64 k4⟩⟩
theorem recv_t {C : Cal} {m : Msg} (h : (recvC C m).2 = true) : ∃ o, mget C.op m.seq = some o ∧ m.kind = 1 ∧ m.life = C.life ∧ recvC C m = (endC C m.seq m.way m.body, true) := by
  by_cases hn : mget C.op m.seq = none ∨ m.kind ≠ 1 ∨ m.life ≠ C.life ∨ checkC m ≠ 0
  · rw [recv_no hn] at h; exact absurd h (by simp)
  · obtain ⟨o, ho⟩ := Option.ne_none_iff_exists'.1 (fun e => hn (.inl e))
    exact ⟨o, ho, by omega, by omega, recv_yes hn⟩
theorem recv_f {C : Cal} {m : Msg} (h : (recvC C m).2 = false) : recvC C m = (C, false) := by
  by_cases hn : mget C.op m.seq = none ∨ m.kind ≠ 1 ∨ m.life ≠ C.life ∨ checkC m ≠ 0
  · exact recv_no hn
  · rw [recv_yes hn] at h; exact absurd h (by simp)
theorem recv_life' (C : Cal) (m : Msg) : (recvC C m).1.life = C.life := by
  unfold recvC
  split <;> rfl
theorem CalX.base' {base base' : Nat} {F : Nat → Prop} {w : World} {b : Nat} {C : Cal} (h : CalX base F w b C) (hb : base' ≤ base) : CalX base' F w b C := by
  obtain ⟨hG, bm, vo, vr, g, hA⟩ := h
  exact ⟨hG, bm, vo, vr, g, hA.base' hb⟩
theorem open_q (base : Nat) (F : Nat → Prop) (b : Nat) (C : Cal) (w0 : World) (hC : CalX base F w0 b C) :
    Does Try.prog 21 #[.pointer (some ⟨b, 0, none⟩)] w0 (fun r w' => r = .int .i64 (C.op.length : Int) ∧ w0 = w') :=
  (open_use base F b C w0 hC).mono (by rintro r w' ⟨rfl, rfl⟩; exact ⟨rfl, rfl⟩)
theorem fx2 {a b v : Value} (h1 : a = v := by conv => lhs; whnf) (h2 : b = v := by conv => lhs; whnf) : a = b := h1.trans h2.symm
set_option maxHeartbeats 8000000 in
theorem CallerIgnores_walk (v2 : Value) (z : List SAct) (mm : Msg) (w0 : World) (y1 : Sl w0 v2 9 z.length (cellsS z) ∧ ∀ a ∈ z, a.m.ok) (hmo : mm.ok) : Does Try.prog 7 #[v2, mm.v] w0 (fun r w' => r = .bool true ∧ Nw w0 w') := by
  have y0 := y1.1
  refine fn_of (n := 156) (args := [v2, mm.v]) Try.func7 rfl rfl rfl ?_
  refine W_seq ?_
  refine W_region ?_
  refine L_new (.plain rfl) rfl rfl (r_boxa rfl) (fun w1 b3 hb3 eb1 hs1 c1 => ?_)
  refine L_r (r_ab rfl) ?_
  refine L_nil ?_
  refine W_seq ?_
  refine W_region ?_
  refine L_call (.plain rfl) rfl rfl (r_call Try.func9 rfl rfl rfl (by rfl)) (new_use 7 3 3 _ (by omega)) ?_
  rintro v14 w2 ⟨b, F0, rfl, hX0, hF0, c2⟩
  have hz2 := c2.size
  refine L_r (r_mv) ?_
  refine L_r (r_ext2_0 rfl) ?_
  refine L_r (r_ext2_1 rfl) ?_
  refine L_r (r_ap rfl) ?_
  refine L_r (r_ai rfl) ?_
  refine L_nil ?_
  refine W_seq ?_
  refine W_seq ?_
  refine W_region ?_
  refine L_call (.plain rfl) rfl rfl (r_call Try.func10 rfl rfl rfl (by rfl)) (awake_walk _) ?_
  rintro v17 w3 ⟨rfl, c3⟩
  have hz3 := c3.size
  refine L_as (v := .bool _) (v' := .bool true) 17 rfl (congrArg Value.bool (by rfl)) ?_
  refine L_r (r_not rfl) ?_
  refine L_r (r_mb rfl) ?_
  refine L_g (r_mi rfl) ?_
  refine L_g (r_neq rfl rfl) ?_
  refine L_as (v := .bool _) (v' := .bool false) 21 rfl (dec_f (by simp)).symm ?_
  refine L_r (r_pf rfl rfl) ?_
  refine L_r (r_mb rfl) ?_
  refine L_g (r_mp rfl) ?_
  refine L_g (r_eqpnil Try.underlying22 rfl rfl) ?_
  refine L_as (v := .bool _) (v' := .bool false) 25 rfl (congrArg Value.bool (by simp)) ?_
  refine L_r (r_pf rfl rfl) ?_
  refine L_r (r_mb rfl) ?_
  refine L_g (r_fieldb Try.underlying33 rfl (show _ = some 1 from rfl) rfl rfl (show _ = 7 from rfl)) ?_
  refine L_g (r_lb rfl rfl) ?_
  refine L_g (r_lens Try.underlying9 rfl) ?_
  refine L_g (r_gtr rfl rfl) ?_
  refine L_r (r_pf rfl rfl) ?_
  refine L_r (r_mb rfl) ?_
  refine L_case (d := 33) rfl (fun h33 => ?_) (fun h33 => ?_)
  · refine L_ps ?_
    refine L_ps ?_
    refine L_ps ?_
    refine L_ps ?_
    refine L_r (r_pt rfl rfl) ?_
    refine L_nil ?_
    refine W_true rfl ?_
    refine W_seq ?_
    refine W_region ?_
    refine L_call (.plain rfl) rfl rfl (r_call Try.func10 rfl rfl rfl (by rfl)) (awake_walk _) ?_
    rintro v39 w4 ⟨rfl, c4⟩
    have hz4 := c4.size
    refine L_as (v := .bool _) (v' := .bool true) 39 rfl (congrArg Value.bool (by rfl)) ?_
    refine L_r (r_ab rfl) ?_
    refine L_nil ?_
    refine W_ret ?_
    refine ret1 (v := .bool _) rfl rfl ?_
    exact ⟨rfl, Ch.au⟩
  · refine L_g (r_fieldb Try.underlying33 rfl (show _ = some 1 from rfl) rfl rfl (show _ = 5 from rfl)) ?_
    refine L_g (r_lb rfl rfl) ?_
    refine L_g (r_lens Try.underlying9 rfl) ?_
    refine L_g (r_gtr rfl rfl) ?_
    refine L_r (r_pf rfl rfl) ?_
    refine L_nil ?_
    refine W_if rfl (fun h38 => ?_) (fun h38 => ?_)
    · refine W_seq ?_
      refine W_region ?_
      refine L_call (.plain rfl) rfl rfl (r_call Try.func10 rfl rfl rfl (by rfl)) (awake_walk _) ?_
      rintro v39 w5 ⟨rfl, c5⟩
      have hz5 := c5.size
      refine L_as (v := .bool _) (v' := .bool true) 39 rfl (congrArg Value.bool (by rfl)) ?_
      refine L_r (r_ab rfl) ?_
      refine L_nil ?_
      refine W_ret ?_
      refine ret1 (v := .bool _) rfl rfl ?_
      exact ⟨rfl, Ch.au⟩
    · refine W_skip ?_
      refine W_seq ?_
      refine W_seq ?_
      refine W_region ?_
      refine L_r (r_ai rfl) ?_
      refine L_nil ?_
      refine W_block ?_
      refine W_loopF [0, 3, 5] (fun mz_ f W => ∃ (i : Nat) (F : Nat → Prop) (C : Cal), f 7 = .int .i64 i ∧ (i ≤ z.length ∧ i ≤ 60 ∧ OX w0.heap.size F W b C i ∧ C.life = 7 ∧ ¬ F b3 ∧ Bk W b3 #[.int .i64 mm.kind, .int .u64 mm.life, .int .u64 mm.seq, .int .u64 mm.below, .int .u64 mm.object, .string mm.method, .int .i64 mm.way, .string mm.body] 33 ∧ Nw w0 W) ∧ mz_ = 60 - i) ?_ ?_
      · refine ⟨_, 0, F0, cal0 7 3 3, rfl, ?_, rfl⟩
        exact ⟨by omega, by omega, ⟨(hX0.base' (by omega)).nw Ch.au, Cal.Inv.zero _ _ _, fun p hp => absurd hp (by simp), lim0 _ _ _⟩, rfl, fun h => by have := hF0 _ h; omega, Bk.au, Ch.au⟩
      rintro m0 g0 w6 ⟨i, F, C, hf7, hR0, rfl⟩
      refine W_as 7 hf7 rfl ?_
      clear hf7
      obtain ⟨hi1, hi2, hO, hlf, hnF, hbm, hnw⟩ := hR0
      have hz := hnw.size
      have q1 := hO.l.1
      have hbml := hbm.lt
      refine W_seq ?_
      refine W_seq ?_
      refine W_region ?_
      refine L_r (r_mi rfl) ?_
      refine L_r (r_mv) ?_
      refine L_r (r_lenSl Try.underlying37 (by conv => lhs; whnf) Sl.au) ?_
      refine L_r (r_lss rfl rfl) ?_
      refine L_r (r_mb rfl) ?_
      refine L_case (d := 44) rfl (fun h44 => ?_) (fun h44 => ?_)
      · refine L_g (r_mi rfl) ?_
        refine L_g (r_lss rfl rfl) ?_
        refine L_r (r_pt rfl rfl) ?_
        refine L_nil ?_
        refine W_if rfl (fun h47 => ?_) (fun h47 => ?_)
        · have hlt : i < z.length := by omega
          refine W_skip ?_
          refine W_cutF [0, 3, 5, 7] (fun f W => ∃ (F2 : Nat → Prop) (C2 : Cal), True ∧ (i + 1 ≤ z.length ∧ i + 1 ≤ 60 ∧ OX w0.heap.size F2 W b C2 (i + 1) ∧ C2.life = 7 ∧ ¬ F2 b3 ∧ Bk W b3 #[.int .i64 mm.kind, .int .u64 mm.life, .int .u64 mm.seq, .int .u64 mm.below, .int .u64 mm.object, .string mm.method, .int .i64 mm.way, .string mm.body] 33 ∧ Nw w0 W)) ?_ ?_
          · refine W_block ?_
            refine W_seq ?_
            have hc9 := cellsS_row z i hlt
            obtain ⟨a, ha⟩ : ∃ a, a = z[i] := ⟨_, rfl⟩
            rw [← ha] at hc9
            obtain ⟨Fx, hFx⟩ : ∃ x, x = F := ⟨_, rfl⟩
            obtain ⟨Cx, hCx⟩ : ∃ x, x = C := ⟨_, rfl⟩
            have hnF9 : ¬ (w0.heap.size ≤ b3 ∧ F b3) := fun h => hnF h.2
            refine W_region ?_
            refine L_r (r_mv) ?_
            refine L_r (r_mi rfl) ?_
            refine L_r (r_ix Try.underlying37 (show _ = some 9 from rfl) (by conv => lhs; whnf) rfl Sl.au) ?_
            refine L_r (r_loadSlrow (us := [.int .i64 a.k, .int .i64 a.m.kind, .int .u64 a.m.life, .int .u64 a.m.seq, .int .u64 a.m.below, .int .u64 a.m.object, .string a.m.method, .int .i64 a.m.way, .string a.m.body]) Try.underlying43 rfl rfl rfl rfl Sl.au (by exact hc9)) ?_
            refine L_new (.plain rfl) rfl rfl (r_alloca rfl) (fun w7 b8 hb8 eb7 hs7 c7 => ?_)
            refine L_storerow (.plain rfl) rfl rfl Bk.au (by first | rfl | (simp; done) | assumption) (by first | rfl | assumption) (by first | rfl | (simp [Value.oneCell']; done) | assumption) (fun w8 hb8 hs8 c8 => ?_)
            refine L_nil ?_
            refine W_seq ?_
            refine W_seq ?_
            refine W_region ?_
            refine L_r (r_fieldb Try.underlying43 rfl (show _ = some 8 from rfl) rfl rfl (show _ = 1 from rfl)) ?_
            refine L_r (r_fieldb Try.underlying33 rfl (show _ = some 1 from rfl) rfl rfl (show _ = 8 from rfl)) ?_
            refine L_r (r_lb rfl rfl) ?_
            refine L_r (r_lens Try.underlying9 rfl) ?_
            refine L_r (r_gtr rfl rfl) ?_
            refine L_r (r_mb rfl) ?_
            refine L_case (d := 59) rfl (fun h59 => ?_) (fun h59 => ?_)
            · refine L_ps ?_
              refine L_ps ?_
              refine L_ps ?_
              refine L_ps ?_
              refine L_ps ?_
              refine L_r (r_pt rfl rfl) ?_
              refine L_nil ?_
              refine W_true rfl ?_
              refine W_exit ?_
              repeat (first | refine blk_hit ?_ | refine blk_miss rfl ?_)
              refine ⟨⟨fx2, fx2, fx2, fx2, trivial⟩, Fx, Cx, trivial, ?_⟩
              subst hFx hCx
              first
              | exact ⟨by omega, by omega, (hO.nw Ch.au).mono (by omega), hlf, hnF, Bk.au, Ch.au⟩
              | exact ⟨by omega, by omega, hO2.nw Ch.au, hlf2, hnF2, Bk.au, Ch.au⟩
            · refine L_g (r_fieldb Try.underlying43 rfl (show _ = some 8 from rfl) rfl rfl (show _ = 1 from rfl)) ?_
              refine L_g (r_fieldb Try.underlying33 rfl (show _ = some 1 from rfl) rfl rfl (show _ = 6 from rfl)) ?_
              refine L_g (r_lb rfl rfl) ?_
              refine L_g (r_lens Try.underlying9 rfl) ?_
              refine L_g (r_gtr rfl rfl) ?_
              refine L_r (r_pf rfl rfl) ?_
              refine L_nil ?_
              refine W_if rfl (fun h65 => ?_) (fun h65 => ?_)
              · refine W_exit ?_
                repeat (first | refine blk_hit ?_ | refine blk_miss rfl ?_)
                refine ⟨⟨fx2, fx2, fx2, fx2, trivial⟩, Fx, Cx, trivial, ?_⟩
                subst hFx hCx
                first
                | exact ⟨by omega, by omega, (hO.nw Ch.au).mono (by omega), hlf, hnF, Bk.au, Ch.au⟩
                | exact ⟨by omega, by omega, hO2.nw Ch.au, hlf2, hnF2, Bk.au, Ch.au⟩
              · refine W_skip ?_
                refine W_seq ?_
                refine W_region ?_
                refine L_r (r_fieldb Try.underlying43 rfl (show _ = some 1 from rfl) rfl rfl (show _ = 0 from rfl)) ?_
                refine L_r (r_lb rfl rfl) ?_
                refine L_nil ?_
                refine W_block ?_
                refine W_seq ?_
                refine W_region ?_
                refine L_r (r_eql rfl rfl) ?_
                refine L_r (r_ab rfl) ?_
                refine L_nil ?_
                refine W_if rfl (fun h68 => ?_) (fun h68 => ?_)
                · refine W_region ?_
                  refine L_r (r_mp rfl) ?_
                  refine L_r (r_fieldb Try.underlying43 rfl (show _ = some 8 from rfl) rfl rfl (show _ = 1 from rfl)) ?_
                  refine L_r (r_fieldb Try.underlying33 rfl (show _ = some 1 from rfl) rfl rfl (show _ = 5 from rfl)) ?_
                  refine L_r (r_lb rfl rfl) ?_
                  refine L_r (r_fieldb Try.underlying43 rfl (show _ = some 8 from rfl) rfl rfl (show _ = 1 from rfl)) ?_
                  refine L_r (r_fieldb Try.underlying33 rfl (show _ = some 1 from rfl) rfl rfl (show _ = 6 from rfl)) ?_
                  refine L_r (r_lb rfl rfl) ?_
                  refine L_r (r_fieldb Try.underlying43 rfl (show _ = some 8 from rfl) rfl rfl (show _ = 1 from rfl)) ?_
                  refine L_r (r_fieldb Try.underlying33 rfl (show _ = some 1 from rfl) rfl rfl (show _ = 8 from rfl)) ?_
                  refine L_r (r_lb rfl rfl) ?_
                  refine L_call (.plain rfl) rfl rfl (r_call Try.func11 rfl rfl rfl (by rfl)) (call_use _ F b i C a.m.object a.m.method a.m.body _ (hO.x.nw Ch.au) hO.l (by omega) (by omega)) ?_
                  rintro v80 w9 ⟨F', rfl, hX', hLim2, hF', c9⟩
                  have hz9 := c9.size
                  have hO2 := hO.call_ (by omega) hX' hLim2
                  have hlf2 := (call_same C a.m.object a.m.method a.m.body).2.2.trans hlf
                  have hnF2 : ¬ F' b3 := fun h => (hF' _ h).elim hnF (fun h => by omega)
                  clear hFx hCx
                  obtain ⟨Fx, hFx⟩ : ∃ x, x = F' := ⟨_, rfl⟩
                  obtain ⟨Cx, hCx⟩ : ∃ x, x = (callC C a.m.object a.m.method a.m.body).1 := ⟨_, rfl⟩
                  refine L_nil ?_
                  refine ⟨⟨fx2, fx2, fx2, fx2, trivial⟩, Fx, Cx, trivial, ?_⟩
                  subst hFx hCx
                  first
                  | exact ⟨by omega, by omega, (hO.nw Ch.au).mono (by omega), hlf, hnF, Bk.au, Ch.au⟩
                  | exact ⟨by omega, by omega, hO2.nw Ch.au, hlf2, hnF2, Bk.au, Ch.au⟩
                · refine W_seq ?_
                  refine W_region ?_
                  refine L_r (r_eql rfl rfl) ?_
                  refine L_r (r_ab rfl) ?_
                  refine L_nil ?_
                  refine W_if rfl (fun h81 => ?_) (fun h81 => ?_)
                  · refine W_region ?_
                    refine L_r (r_mp rfl) ?_
                    refine L_call (.plain rfl) rfl rfl (r_call Try.func14 rfl rfl rfl (by rfl)) (tick_use _ F b i C _ (hO.x.nw Ch.au) hO.l (by omega) (by omega)) ?_
                    rintro v84 w10 ⟨F', rfl, hX', hLim2, hF', c10⟩
                    have hz10 := c10.size
                    have hO2 := hO.tick_ hX' hLim2
                    have hlf2 : (tick C).life = 7 := (show (tick C).life = C.life from (ticks_same _ C).2.2.2).trans hlf
                    have hnF2 : ¬ F' b3 := fun h => (hF' _ h).elim hnF (fun h => by omega)
                    clear hFx hCx
                    obtain ⟨Fx, hFx⟩ : ∃ x, x = F' := ⟨_, rfl⟩
                    obtain ⟨Cx, hCx⟩ : ∃ x, x = tick C := ⟨_, rfl⟩
                    refine L_nil ?_
                    refine ⟨⟨fx2, fx2, fx2, fx2, trivial⟩, Fx, Cx, trivial, ?_⟩
                    subst hFx hCx
                    first
                    | exact ⟨by omega, by omega, (hO.nw Ch.au).mono (by omega), hlf, hnF, Bk.au, Ch.au⟩
                    | exact ⟨by omega, by omega, hO2.nw Ch.au, hlf2, hnF2, Bk.au, Ch.au⟩
                  · refine W_seq ?_
                    refine W_region ?_
                    refine L_r (r_eql rfl rfl) ?_
                    refine L_r (r_ab rfl) ?_
                    refine L_nil ?_
                    refine W_if rfl (fun h85 => ?_) (fun h85 => ?_)
                    · refine W_region ?_
                      refine L_r (r_mp rfl) ?_
                      refine L_r (r_fieldb Try.underlying43 rfl (show _ = some 8 from rfl) rfl rfl (show _ = 1 from rfl)) ?_
                      refine L_r (r_loadsub (us := [.int _ _, .int _ _, .int _ _, .int _ _, .int _ _, .string _, .int _ _, .string _]) Try.underlying33 rfl (show _ = some 8 from rfl) rfl Bk.au rfl rfl) ?_
                      refine L_call (.plain rfl) rfl rfl (r_call Try.func19 rfl rfl rfl (by rfl)) (recv_use _ F b i C a.m _ (hO.x.nw Ch.au) hO.l (by omega) (by omega)) ?_
                      rintro v90 w11 ⟨F', -, hX', hLim2, hF', c11⟩
                      have hz11 := c11.size
                      have hO2 := hO.recv_ hX' hLim2
                      have hlf2 := (recv_life' C a.m).trans hlf
                      have hnF2 : ¬ F' b3 := fun h => (hF' _ h).elim hnF (fun h => by omega)
                      clear hFx hCx
                      obtain ⟨Fx, hFx⟩ : ∃ x, x = F' := ⟨_, rfl⟩
                      obtain ⟨Cx, hCx⟩ : ∃ x, x = (recvC C a.m).1 := ⟨_, rfl⟩
                      refine L_nil ?_
                      refine ⟨⟨fx2, fx2, fx2, fx2, trivial⟩, Fx, Cx, trivial, ?_⟩
                      subst hFx hCx
                      first
                      | exact ⟨by omega, by omega, (hO.nw Ch.au).mono (by omega), hlf, hnF, Bk.au, Ch.au⟩
                      | exact ⟨by omega, by omega, hO2.nw Ch.au, hlf2, hnF2, Bk.au, Ch.au⟩
                    · refine W_skip ?_
                      refine ⟨⟨fx2, fx2, fx2, fx2, trivial⟩, Fx, Cx, trivial, ?_⟩
                      subst hFx hCx
                      first
                      | exact ⟨by omega, by omega, (hO.nw Ch.au).mono (by omega), hlf, hnF, Bk.au, Ch.au⟩
                      | exact ⟨by omega, by omega, hO2.nw Ch.au, hlf2, hnF2, Bk.au, Ch.au⟩
          rintro gcb1 w12 ⟨F2, C2, -, hCb1⟩
          refine W_region ?_
          refine L_r (r_mi rfl) ?_
          refine L_r (r_add rfl rfl (by first | exact wr_i64 (by omega) | rfl)) ?_
          refine L_r (r_ai rfl) ?_
          refine L_nil ?_
          refine ⟨⟨fx2, fx2, fx2, trivial⟩, _, ?_, i + 1, F2, C2, rfl, ?_, rfl⟩
          · omega
          exact hCb1
        · refine W_exit ?_
          repeat (first | refine blk_hit ?_ | refine blk_miss rfl ?_)
          refine W_seq ?_
          have q2 := hO.l.2.1
          have q4 := hO.l.2.2.2
          have hnF9 : ¬ (w0.heap.size ≤ b3 ∧ F b3) := fun h => hnF h.2
          refine W_region ?_
          refine L_r (r_mp rfl) ?_
          refine L_call (.plain rfl) rfl rfl (r_call Try.func21 rfl rfl rfl (by rfl)) (open_use _ F b C _ (hO.x.nw Ch.au)) ?_
          rintro v92 w13 ⟨rfl, rfl⟩
          refine L_r (r_mp rfl) ?_
          refine L_call (.plain rfl) rfl rfl (r_call Try.func23 rfl rfl rfl (by rfl)) (below_x _ F b C _ (hO.x.nw Ch.au) (by omega)) ?_
          rintro v94 w14 ⟨rfl, c14⟩
          have hz14 := c14.size
          refine L_r (r_mp rfl) ?_
          refine L_call (.plain rfl) rfl rfl (r_call Try.func13 rfl rfl rfl (by rfl)) (results_use _ F b C _ (hO.x.nw Ch.au) (by omega)) ?_
          rintro v96 w15 ⟨v6, rfl, hv6, c15⟩
          have hz15 := c15.size
          have hsl6 := hv6.sl
          have hnF6 : ∀ j, v96.ownBlock = some j → ¬ (w0.heap.size ≤ j ∧ F j) := fun j hj h => by { have h1 := ow_base hv6 hj; have h2 := (hO.x.lt j h.2).2; omega }
          refine L_r (r_ai rfl) ?_
          refine L_r (r_ai rfl) ?_
          refine L_r (r_av) ?_
          refine L_nil ?_
          refine W_seq ?_
          refine W_seq ?_
          refine W_region ?_
          refine L_r (r_mp rfl) ?_
          refine L_r (r_loadrow Try.underlying33 rfl rfl Bk.au (by first | rfl | assumption)) ?_
          refine L_call (.plain rfl) rfl rfl (r_call Try.func19 rfl rfl rfl (by rfl)) (recv_use _ F b i C mm _ (hO.x.nw Ch.au) hO.l (by omega) (by omega)) ?_
          rintro v99 w16 ⟨F', rfl, hX', hLim2, hF', c16⟩
          have hz16 := c16.size
          have hsl7 := Sl.ch c16 (fun j hj => hnF6 j hj) hsl6
          clear hsl6 hv6
          refine L_nil ?_
          refine W_bool rfl (fun h99 => ?_) (fun h99 => ?_)
          · obtain ⟨o, ho, hk1, hl1, he⟩ := recv_t h99
            rw [he] at hX' hLim2
            have hlen := mdel_len hO.x.good.toAsc.nd ho
            have hrl : (endC C mm.seq mm.way mm.body).res.length = C.res.length + 1 := by show (C.res ++ [_]).length = _; simp
            have hol : (endC C mm.seq mm.way mm.body).op.length + 1 = C.op.length := hlen
            have hX8 : CalX w0.heap.size F' _ b (endC C mm.seq mm.way mm.body) := hX'
            refine W_seq ?_
            refine W_region ?_
            refine L_r (r_mp rfl) ?_
            refine L_call (.plain rfl) rfl rfl (r_call Try.func13 rfl rfl rfl (by rfl)) (results_use _ F' b (endC C mm.seq mm.way mm.body) _ (hX8.nw Ch.au) (by omega)) ?_
            rintro v101 w17 ⟨v8, rfl, hv8, c17⟩
            have hz17 := c17.size
            have hsl8 := hv8.sl
            have hrow : ∀ (j : Nat) (u : Value), (rsl ⟨mm.seq, mm.way, mm.body⟩)[j]? = some u → (cellsT (endC C mm.seq mm.way mm.body).res)[C.res.length * 3 + j]? = some u := fun j u hj => cellsT_row _ C.res.length (by omega) j u (by rw [show (endC C mm.seq mm.way mm.body).res[C.res.length]'(by omega) = ⟨mm.seq, mm.way, mm.body⟩ from by simp [endC]]; exact hj)
            refine L_r (r_av) ?_
            refine L_nil ?_
            refine W_seq ?_
            refine W_still (by kernel_rfl) (by kernel_rfl) (fun w18 c18 hs18 => ?_)
            refine H_r (r_mp rfl) ?_
            refine H_call (.plain rfl) rfl rfl (r_call Try.func21 rfl rfl rfl (by rfl)) (open_q _ F' b (endC C mm.seq mm.way mm.body) _ (hX8.nw Ch.au)) ?_
            refine H_r (r_mi rfl) ?_
            refine H_r (r_sub rfl rfl (by first | exact wr_i64 (by omega) | rfl)) ?_
            refine H_r (r_eql rfl rfl) ?_
            refine H_as (v := .bool _) (v' := .bool true) 106 rfl (dec_t (by omega)).symm ?_
            refine H_r (r_mb rfl) ?_
            refine H_g (r_mv) ?_
            refine H_g (r_lenSl Try.underlying34 (by conv => lhs; whnf) Sl.au) ?_
            refine H_g (r_mv) ?_
            refine H_g (r_lenSl Try.underlying34 (by conv => lhs; whnf) Sl.au) ?_
            refine H_g (r_add rfl rfl (by first | exact wr_i64 (by omega) | rfl)) ?_
            refine H_g (r_eql rfl rfl) ?_
            refine H_as (v := .bool _) (v' := .bool true) 113 rfl (dec_t (by omega)).symm ?_
            refine H_r (r_pt rfl rfl) ?_
            refine H_r (r_mb rfl) ?_
            refine H_g (r_mv) ?_
            refine H_g (r_mv) ?_
            refine H_g (r_lenSl Try.underlying34 (by conv => lhs; whnf) Sl.au) ?_
            refine H_g (r_ix Try.underlying34 (show _ = some 3 from rfl) (by conv => lhs; whnf) rfl Sl.au) ?_
            refine H_g (r_loadSlrow (us := [.int .u64 mm.seq, .int .i64 mm.way, .string mm.body]) Try.underlying58 rfl rfl rfl rfl Sl.au (by exact hrow)) ?_
            refine H_g (r_fieldb Try.underlying33 rfl (show _ = some 1 from rfl) rfl rfl (show _ = 2 from rfl)) ?_
            refine H_g (r_lb rfl rfl) ?_
            refine H_g (r_fieldb Try.underlying33 rfl (show _ = some 1 from rfl) rfl rfl (show _ = 6 from rfl)) ?_
            refine H_g (r_lb rfl rfl) ?_
            refine H_g (r_fieldb Try.underlying33 rfl (show _ = some 1 from rfl) rfl rfl (show _ = 7 from rfl)) ?_
            refine H_g (r_lb rfl rfl) ?_
            refine H_g (r_build1 (pl := [(0, 1), (1, 1), (2, 1)]) (vs := [(0, .int _ _), (1, .int _ _), (2, .string _)]) (cells := [_, _, _]) Try.underlying58 rfl rfl (by rfl) rfl (by rfl)) ?_
            refine H_g (r_eqlR (xs := #[.int _ _, .int _ _, .string _]) (ys := #[.int _ _, .int _ _, .string _]) rfl rfl (by kernel_rfl) (eqRst _ _ _ _ _ _ _)) ?_
            refine H_as (v := .bool _) (v' := .bool true) 128 rfl (dec_t (by exact ⟨rfl, rfl, rfl⟩)).symm ?_
            refine H_r (r_pt rfl rfl) ?_
            refine H_r (r_mb rfl) ?_
            refine H_g (r_fieldb Try.underlying33 rfl (show _ = some 1 from rfl) rfl rfl (show _ = 0 from rfl)) ?_
            refine H_g (r_lb rfl rfl) ?_
            refine H_g (r_eql rfl rfl) ?_
            refine H_as (v := .bool _) (v' := .bool true) 133 rfl (dec_t (by omega)).symm ?_
            refine H_r (r_pt rfl rfl) ?_
            refine H_r (r_mb rfl) ?_
            refine H_g (r_fieldb Try.underlying33 rfl (show _ = some 1 from rfl) rfl rfl (show _ = 1 from rfl)) ?_
            refine H_g (r_lb rfl rfl) ?_
            refine H_g (r_eql rfl rfl) ?_
            refine H_as (v := .bool _) (v' := .bool true) 138 rfl (dec_t (by omega)).symm ?_
            refine H_r (r_pt rfl rfl) ?_
            refine H_r (r_ab rfl) ?_
            refine H_nil ?_
            refine W_ret ?_
            refine ret1 (v := .bool _) rfl rfl ?_
            exact ⟨rfl, Ch.au⟩
          · have he := recv_f h99
            rw [he] at hX' hLim2
            have hX8 : CalX w0.heap.size F' _ b C := hX'
            refine W_skip ?_
            refine W_seq ?_
            refine W_region ?_
            refine L_r (r_mp rfl) ?_
            refine L_call (.plain rfl) rfl rfl (r_call Try.func21 rfl rfl rfl (by rfl)) (open_use _ F' b C _ (hX8.nw Ch.au)) ?_
            rintro v141 w19 ⟨rfl, rfl⟩
            refine L_r (r_mi rfl) ?_
            refine L_r (r_eql rfl rfl) ?_
            refine L_as (v := .bool _) (v' := .bool true) 143 rfl (dec_t (by rfl)).symm ?_
            refine L_r (r_mb rfl) ?_
            refine L_g (r_mp rfl) ?_
            refine L_call (.yes 4 true rfl rfl) rfl rfl (r_call Try.func23 rfl rfl rfl (by rfl)) (below_x _ F' b C _ (hX8.nw Ch.au) (by omega)) ?_
            rintro v146 w20 ⟨rfl, c20⟩
            have hz20 := c20.size
            refine L_g (r_mi rfl) ?_
            refine L_g (r_eql rfl rfl) ?_
            refine L_as (v := .bool _) (v' := .bool true) 148 rfl (dec_t (by rfl)).symm ?_
            refine L_r (r_pt rfl rfl) ?_
            refine L_r (r_mb rfl) ?_
            refine L_g (r_mp rfl) ?_
            refine L_call (.yes 10 true rfl rfl) rfl rfl (r_call Try.func13 rfl rfl rfl (by rfl)) (results_use _ F' b C _ (hX8.nw Ch.au) (by omega)) ?_
            rintro v152 w21 ⟨v9, rfl, hv9, c21⟩
            have hz21 := c21.size
            have hsl9 := hv9.sl
            refine L_g (r_mv) ?_
            refine L_call (.yes 10 true rfl rfl) rfl rfl (r_call Try.func25 rfl rfl rfl (by rfl)) (samer_walk _ _ C.res _ Sl.au Sl.au (by omega)) ?_
            rintro v154 w22 ⟨rfl, c22⟩
            have hz22 := c22.size
            refine L_as (v := .bool _) (v' := .bool true) 154 rfl (congrArg Value.bool (by rfl)) ?_
            refine L_r (r_pt rfl rfl) ?_
            refine L_r (r_ab rfl) ?_
            refine L_nil ?_
            refine W_ret ?_
            refine ret1 (v := .bool _) rfl rfl ?_
            exact ⟨rfl, Ch.au⟩
      · refine L_ps ?_
        refine L_ps ?_
        refine L_r (r_pf rfl rfl) ?_
        refine L_nil ?_
        refine W_false rfl ?_
        refine W_exit ?_
        repeat (first | refine blk_hit ?_ | refine blk_miss rfl ?_)
        refine W_seq ?_
        have q2 := hO.l.2.1
        have q4 := hO.l.2.2.2
        have hnF9 : ¬ (w0.heap.size ≤ b3 ∧ F b3) := fun h => hnF h.2
        refine W_region ?_
        refine L_r (r_mp rfl) ?_
        refine L_call (.plain rfl) rfl rfl (r_call Try.func21 rfl rfl rfl (by rfl)) (open_use _ F b C _ (hO.x.nw Ch.au)) ?_
        rintro v92 w23 ⟨rfl, rfl⟩
        refine L_r (r_mp rfl) ?_
        refine L_call (.plain rfl) rfl rfl (r_call Try.func23 rfl rfl rfl (by rfl)) (below_x _ F b C _ (hO.x.nw Ch.au) (by omega)) ?_
        rintro v94 w24 ⟨rfl, c24⟩
        have hz24 := c24.size
        refine L_r (r_mp rfl) ?_
        refine L_call (.plain rfl) rfl rfl (r_call Try.func13 rfl rfl rfl (by rfl)) (results_use _ F b C _ (hO.x.nw Ch.au) (by omega)) ?_
        rintro v96 w25 ⟨v6, rfl, hv6, c25⟩
        have hz25 := c25.size
        have hsl6 := hv6.sl
        have hnF6 : ∀ j, v96.ownBlock = some j → ¬ (w0.heap.size ≤ j ∧ F j) := fun j hj h => by { have h1 := ow_base hv6 hj; have h2 := (hO.x.lt j h.2).2; omega }
        refine L_r (r_ai rfl) ?_
        refine L_r (r_ai rfl) ?_
        refine L_r (r_av) ?_
        refine L_nil ?_
        refine W_seq ?_
        refine W_seq ?_
        refine W_region ?_
        refine L_r (r_mp rfl) ?_
        refine L_r (r_loadrow Try.underlying33 rfl rfl Bk.au (by first | rfl | assumption)) ?_
        refine L_call (.plain rfl) rfl rfl (r_call Try.func19 rfl rfl rfl (by rfl)) (recv_use _ F b i C mm _ (hO.x.nw Ch.au) hO.l (by omega) (by omega)) ?_
        rintro v99 w26 ⟨F', rfl, hX', hLim2, hF', c26⟩
        have hz26 := c26.size
        have hsl7 := Sl.ch c26 (fun j hj => hnF6 j hj) hsl6
        clear hsl6 hv6
        refine L_nil ?_
        refine W_bool rfl (fun h99 => ?_) (fun h99 => ?_)
        · obtain ⟨o, ho, hk1, hl1, he⟩ := recv_t h99
          rw [he] at hX' hLim2
          have hlen := mdel_len hO.x.good.toAsc.nd ho
          have hrl : (endC C mm.seq mm.way mm.body).res.length = C.res.length + 1 := by show (C.res ++ [_]).length = _; simp
          have hol : (endC C mm.seq mm.way mm.body).op.length + 1 = C.op.length := hlen
          have hX8 : CalX w0.heap.size F' _ b (endC C mm.seq mm.way mm.body) := hX'
          refine W_seq ?_
          refine W_region ?_
          refine L_r (r_mp rfl) ?_
          refine L_call (.plain rfl) rfl rfl (r_call Try.func13 rfl rfl rfl (by rfl)) (results_use _ F' b (endC C mm.seq mm.way mm.body) _ (hX8.nw Ch.au) (by omega)) ?_
          rintro v101 w27 ⟨v8, rfl, hv8, c27⟩
          have hz27 := c27.size
          have hsl8 := hv8.sl
          have hrow : ∀ (j : Nat) (u : Value), (rsl ⟨mm.seq, mm.way, mm.body⟩)[j]? = some u → (cellsT (endC C mm.seq mm.way mm.body).res)[C.res.length * 3 + j]? = some u := fun j u hj => cellsT_row _ C.res.length (by omega) j u (by rw [show (endC C mm.seq mm.way mm.body).res[C.res.length]'(by omega) = ⟨mm.seq, mm.way, mm.body⟩ from by simp [endC]]; exact hj)
          refine L_r (r_av) ?_
          refine L_nil ?_
          refine W_seq ?_
          refine W_still (by kernel_rfl) (by kernel_rfl) (fun w28 c28 hs28 => ?_)
          refine H_r (r_mp rfl) ?_
          refine H_call (.plain rfl) rfl rfl (r_call Try.func21 rfl rfl rfl (by rfl)) (open_q _ F' b (endC C mm.seq mm.way mm.body) _ (hX8.nw Ch.au)) ?_
          refine H_r (r_mi rfl) ?_
          refine H_r (r_sub rfl rfl (by first | exact wr_i64 (by omega) | rfl)) ?_
          refine H_r (r_eql rfl rfl) ?_
          refine H_as (v := .bool _) (v' := .bool true) 106 rfl (dec_t (by omega)).symm ?_
          refine H_r (r_mb rfl) ?_
          refine H_g (r_mv) ?_
          refine H_g (r_lenSl Try.underlying34 (by conv => lhs; whnf) Sl.au) ?_
          refine H_g (r_mv) ?_
          refine H_g (r_lenSl Try.underlying34 (by conv => lhs; whnf) Sl.au) ?_
          refine H_g (r_add rfl rfl (by first | exact wr_i64 (by omega) | rfl)) ?_
          refine H_g (r_eql rfl rfl) ?_
          refine H_as (v := .bool _) (v' := .bool true) 113 rfl (dec_t (by omega)).symm ?_
          refine H_r (r_pt rfl rfl) ?_
          refine H_r (r_mb rfl) ?_
          refine H_g (r_mv) ?_
          refine H_g (r_mv) ?_
          refine H_g (r_lenSl Try.underlying34 (by conv => lhs; whnf) Sl.au) ?_
          refine H_g (r_ix Try.underlying34 (show _ = some 3 from rfl) (by conv => lhs; whnf) rfl Sl.au) ?_
          refine H_g (r_loadSlrow (us := [.int .u64 mm.seq, .int .i64 mm.way, .string mm.body]) Try.underlying58 rfl rfl rfl rfl Sl.au (by exact hrow)) ?_
          refine H_g (r_fieldb Try.underlying33 rfl (show _ = some 1 from rfl) rfl rfl (show _ = 2 from rfl)) ?_
          refine H_g (r_lb rfl rfl) ?_
          refine H_g (r_fieldb Try.underlying33 rfl (show _ = some 1 from rfl) rfl rfl (show _ = 6 from rfl)) ?_
          refine H_g (r_lb rfl rfl) ?_
          refine H_g (r_fieldb Try.underlying33 rfl (show _ = some 1 from rfl) rfl rfl (show _ = 7 from rfl)) ?_
          refine H_g (r_lb rfl rfl) ?_
          refine H_g (r_build1 (pl := [(0, 1), (1, 1), (2, 1)]) (vs := [(0, .int _ _), (1, .int _ _), (2, .string _)]) (cells := [_, _, _]) Try.underlying58 rfl rfl (by rfl) rfl (by rfl)) ?_
          refine H_g (r_eqlR (xs := #[.int _ _, .int _ _, .string _]) (ys := #[.int _ _, .int _ _, .string _]) rfl rfl (by kernel_rfl) (eqRst _ _ _ _ _ _ _)) ?_
          refine H_as (v := .bool _) (v' := .bool true) 128 rfl (dec_t (by exact ⟨rfl, rfl, rfl⟩)).symm ?_
          refine H_r (r_pt rfl rfl) ?_
          refine H_r (r_mb rfl) ?_
          refine H_g (r_fieldb Try.underlying33 rfl (show _ = some 1 from rfl) rfl rfl (show _ = 0 from rfl)) ?_
          refine H_g (r_lb rfl rfl) ?_
          refine H_g (r_eql rfl rfl) ?_
          refine H_as (v := .bool _) (v' := .bool true) 133 rfl (dec_t (by omega)).symm ?_
          refine H_r (r_pt rfl rfl) ?_
          refine H_r (r_mb rfl) ?_
          refine H_g (r_fieldb Try.underlying33 rfl (show _ = some 1 from rfl) rfl rfl (show _ = 1 from rfl)) ?_
          refine H_g (r_lb rfl rfl) ?_
          refine H_g (r_eql rfl rfl) ?_
          refine H_as (v := .bool _) (v' := .bool true) 138 rfl (dec_t (by omega)).symm ?_
          refine H_r (r_pt rfl rfl) ?_
          refine H_r (r_ab rfl) ?_
          refine H_nil ?_
          refine W_ret ?_
          refine ret1 (v := .bool _) rfl rfl ?_
          exact ⟨rfl, Ch.au⟩
        · have he := recv_f h99
          rw [he] at hX' hLim2
          have hX8 : CalX w0.heap.size F' _ b C := hX'
          refine W_skip ?_
          refine W_seq ?_
          refine W_region ?_
          refine L_r (r_mp rfl) ?_
          refine L_call (.plain rfl) rfl rfl (r_call Try.func21 rfl rfl rfl (by rfl)) (open_use _ F' b C _ (hX8.nw Ch.au)) ?_
          rintro v141 w29 ⟨rfl, rfl⟩
          refine L_r (r_mi rfl) ?_
          refine L_r (r_eql rfl rfl) ?_
          refine L_as (v := .bool _) (v' := .bool true) 143 rfl (dec_t (by rfl)).symm ?_
          refine L_r (r_mb rfl) ?_
          refine L_g (r_mp rfl) ?_
          refine L_call (.yes 4 true rfl rfl) rfl rfl (r_call Try.func23 rfl rfl rfl (by rfl)) (below_x _ F' b C _ (hX8.nw Ch.au) (by omega)) ?_
          rintro v146 w30 ⟨rfl, c30⟩
          have hz30 := c30.size
          refine L_g (r_mi rfl) ?_
          refine L_g (r_eql rfl rfl) ?_
          refine L_as (v := .bool _) (v' := .bool true) 148 rfl (dec_t (by rfl)).symm ?_
          refine L_r (r_pt rfl rfl) ?_
          refine L_r (r_mb rfl) ?_
          refine L_g (r_mp rfl) ?_
          refine L_call (.yes 10 true rfl rfl) rfl rfl (r_call Try.func13 rfl rfl rfl (by rfl)) (results_use _ F' b C _ (hX8.nw Ch.au) (by omega)) ?_
          rintro v152 w31 ⟨v9, rfl, hv9, c31⟩
          have hz31 := c31.size
          have hsl9 := hv9.sl
          refine L_g (r_mv) ?_
          refine L_call (.yes 10 true rfl rfl) rfl rfl (r_call Try.func25 rfl rfl rfl (by rfl)) (samer_walk _ _ C.res _ Sl.au Sl.au (by omega)) ?_
          rintro v154 w32 ⟨rfl, c32⟩
          have hz32 := c32.size
          refine L_as (v := .bool _) (v' := .bool true) 154 rfl (congrArg Value.bool (by rfl)) ?_
          refine L_r (r_pt rfl rfl) ?_
          refine L_r (r_ab rfl) ?_
          refine L_nil ?_
          refine W_ret ?_
          refine ret1 (v := .bool _) rfl rfl ?_
          exact ⟨rfl, Ch.au⟩
end Go.Proofs.Ytjjddbicggfgnaa

