/- CallerOnce, walked. -/
import Derived.Test.YtjjddbicggfgnaaCalQ
import Derived.Test.YtjjddbicggfgnaaCalG
namespace Go.Proofs.Ytjjddbicggfgnaa
open Go Go.RowKit
set_option linter.unusedVariables false
set_option linter.unusedSimpArgs false
set_option maxRecDepth 100000
/-- A caller, as it always is. -/
structure OX (base : Nat) (F : Nat → Prop) (w : World) (b : Nat) (C : Cal) (n : Nat) : Prop where
  x : CalX base F w b C
  i : C.Inv
  a : C.Ask
  l : C.Lim n
variable {base : Nat} {F F' : Nat → Prop} {w w' : World} {b n : Nat} {C : Cal}
theorem OX.nw (h : OX base F w b C n) (c : Nw w w') : OX base F w' b C n := ⟨h.x.nw c, h.i, h.a, h.l⟩
theorem OX.st {q : Nat} (h : OX base F w b C n) (hn : ¬ F q) (c : Ch (fun j => j = q) w w') : OX base F w' b C n := ⟨h.x.ch c (fun j hj e => hn (by have e' : j = q := e; rw [← e']; exact hj)), h.i, h.a, h.l⟩
theorem OX.mono {m : Nat} (h : OX base F w b C n) (hm : n ≤ m) : OX base F w b C m := ⟨h.x, h.i, h.a, h.l.mono hm⟩
theorem OX.tick_ (h : OX base F w b C n) (hx : CalX base F' w' b (tick C)) (hl : (tick C).Lim (n + 1)) : OX base F' w' b (tick C) (n + 1) := ⟨hx, h.i.tick_ h.x.good, h.a.tick_, hl⟩
theorem OX.call_ {ob : Int} {me bo : ByteArray} (h : OX base F w b C n) (hn : n ≤ 800) (hx : CalX base F' w' b (callC C ob me bo).1) (hl : (callC C ob me bo).1.Lim (n + 1)) : OX base F' w' b (callC C ob me bo).1 (n + 1) := ⟨hx, h.i.call_ h.x.good (by have := h.l.1; omega) _ _ _, h.a.call_ _ _ _, hl⟩
theorem OX.recv_ {m : Msg} (h : OX base F w b C n) (hx : CalX base F' w' b (recvC C m).1) (hl : (recvC C m).1.Lim (n + 1)) : OX base F' w' b (recvC C m).1 (n + 1) := ⟨hx, h.i.recv_ h.x.good m, h.a.recv_ m, hl⟩
theorem OX.out0 (h : OX base F w b C n) (hx : CalX base F' w' b { C with out := [] }) : OX base F' w' b { C with out := [] } n := ⟨hx, h.i.out0, h.a, h.l.out0⟩
def seenL (L : List Rst) : List (Int × Int) := L.map fun r => (r.seq, 1)
theorem seen_no {L : List Rst} (hn : (L.map (·.seq)).Nodup) {i : Nat} (h : i < L.length) : mget (seenL (L.take i)) L[i].seq = none := by
  apply mget_none
  intro p hp e
  obtain ⟨r, hr, rfl⟩ := List.mem_map.1 hp
  obtain ⟨j, hj, e2⟩ := List.mem_iff_getElem.1 hr
  rw [List.length_take] at hj
  rw [List.getElem_take] at e2
  have h1 : (L.map (·.seq))[j]'(by rw [List.length_map]; omega) = (L.map (·.seq))[i]'(by rw [List.length_map]; omega) := by
    rw [List.getElem_map, List.getElem_map, e2]; exact e
  have := (List.getElem_inj hn).1 h1
  omega
theorem seen_next {L : List Rst} (hn : (L.map (·.seq)).Nodup) {i : Nat} (h : i < L.length) : mset (seenL (L.take i)) L[i].seq 1 = seenL (L.take (i + 1)) := by
  unfold mset
  rw [seen_no hn h, if_neg (by simp), List.take_succ_eq_append_getElem h]
  unfold seenL
  rw [List.map_append]; rfl
theorem prod10 {a b : Int} (ha : 0 ≤ a) (hb : 0 ≤ b) : ∃ K : Nat, (K : Int) = (1 + a % 10) * (1 + b % 10) ∧ K ≤ 100 ∧ 1 ≤ K := by
  have h1 : 1 ≤ 1 + a % 10 ∧ 1 + a % 10 ≤ 10 := by omega
  have h2 : 1 ≤ 1 + b % 10 ∧ 1 + b % 10 ≤ 10 := by omega
  generalize 1 + a % 10 = x at *
  generalize 1 + b % 10 = y at *
  have h3 : x * y ≤ 10 * 10 := Int.mul_le_mul h1.2 h2.2 (by omega) (by omega)
  have h4 : 1 * 1 ≤ x * y := Int.mul_le_mul h1.1 h2.1 (by omega) (by omega)
  exact ⟨(x * y).toNat, by omega, by omega, by omega⟩
set_option maxHeartbeats 8000000 in
theorem CallerOnce_walk (a0 a1 : Int) (v2 : Value) (z : List SAct) (w0 : World) (x0 : 0 ≤ a0 ∧ a0 ≤ 255) (x1 : 0 ≤ a1 ∧ a1 ≤ 255) (y1 : Sl w0 v2 9 z.length (cellsS z) ∧ ∀ a ∈ z, a.m.ok) : Does Try.prog 5 #[.int .u8 a0, .int .u8 a1, v2] w0 (fun r w' => r = .bool true ∧ Nw w0 w') := by
  have y0 := y1.1
  obtain ⟨K, hK, hK1, hK2⟩ := prod10 x0.1 x1.1
  refine fn_of (n := 191) (args := [.int .u8 a0, .int .u8 a1, v2]) Try.func5 rfl rfl rfl ?_
  refine W_seq ?_
  refine W_region ?_
  refine L_r (r_ab rfl) ?_
  refine L_nil ?_
  refine W_seq ?_
  refine W_region ?_
  refine L_r (r_mi rfl) ?_
  refine L_r (r_remn rfl rfl (by omega) (by omega)) ?_
  refine L_r (r_conv Try.underlying5 Try.underlying3 rfl (by first | exact wr_i64 (by omega) | rfl)) ?_
  refine L_r (r_add rfl rfl (by first | exact wr_i64 (by omega) | rfl)) ?_
  refine L_r (r_mi rfl) ?_
  refine L_r (r_remn rfl rfl (by omega) (by omega)) ?_
  refine L_r (r_conv Try.underlying5 Try.underlying3 rfl (by first | exact wr_i64 (by omega) | rfl)) ?_
  refine L_r (r_add rfl rfl (by first | exact wr_i64 (by omega) | rfl)) ?_
  refine L_call (.plain rfl) rfl rfl (r_call Try.func9 rfl rfl rfl (by rfl)) (new_use 7 (1 + a0 % 10) (1 + a1 % 10) _ (by omega)) ?_
  rintro v27 w1 ⟨b, F0, rfl, hX0, hF0, c1⟩
  have hz1 := c1.size
  refine L_r (r_mv) ?_
  refine L_r (r_ext2_0 rfl) ?_
  refine L_r (r_ext2_1 rfl) ?_
  refine L_r (r_ap rfl) ?_
  refine L_r (r_ai rfl) ?_
  refine L_nil ?_
  refine W_seq ?_
  refine W_seq ?_
  refine W_region ?_
  refine L_call (.plain rfl) rfl rfl (r_call Try.func10 rfl rfl rfl (by rfl)) (awake_walk _) ?_
  rintro v30 w2 ⟨rfl, c2⟩
  have hz2 := c2.size
  refine L_as (v := .bool _) (v' := .bool true) 30 rfl (congrArg Value.bool (by rfl)) ?_
  refine L_r (r_not rfl) ?_
  refine L_r (r_mb rfl) ?_
  refine L_g (r_mi rfl) ?_
  refine L_g (r_neq rfl rfl) ?_
  refine L_as (v := .bool _) (v' := .bool false) 34 rfl (dec_f (by simp)).symm ?_
  refine L_r (r_pf rfl rfl) ?_
  refine L_r (r_mb rfl) ?_
  refine L_g (r_mp rfl) ?_
  refine L_g (r_eqpnil Try.underlying22 rfl rfl) ?_
  refine L_as (v := .bool _) (v' := .bool false) 38 rfl (congrArg Value.bool (by simp)) ?_
  refine L_r (r_pf rfl rfl) ?_
  refine L_nil ?_
  refine W_false rfl ?_
  refine W_skip ?_
  refine W_seq ?_
  refine W_region ?_
  refine L_r (r_ai rfl) ?_
  refine L_nil ?_
  refine W_seq ?_
  refine W_seq ?_
  refine W_region ?_
  refine L_r (r_ai rfl) ?_
  refine L_nil ?_
  refine W_block ?_
  refine W_loopF [0, 1, 2, 7] (fun mz_ f W => ∃ (i : Nat) (F : Nat → Prop) (C : Cal), f 10 = .int .i64 i ∧ f 9 = .int .u64 C.last ∧ (i ≤ z.length ∧ i ≤ 100 ∧ OX w0.heap.size F W b C i ∧ C.wait = 1 + a0 % 10 ∧ C.most = 1 + a1 % 10 ∧ Nw w0 W) ∧ mz_ = 100 - i) ?_ ?_
  · refine ⟨_, 0, F0, cal0 7 (1 + a0 % 10) (1 + a1 % 10), rfl, rfl, ?_, rfl⟩
    exact ⟨by omega, by omega, ⟨hX0.nw Ch.au, Cal.Inv.zero _ _ _, fun p hp => absurd hp (by simp), lim0 _ _ _⟩, rfl, rfl, Ch.au⟩
  rintro m0 g0 w3 ⟨i, F, C, hf10, hf9, hR0, rfl⟩
  refine W_as 10 hf10 rfl ?_
  refine W_as 9 hf9 rfl ?_
  clear hf10 hf9
  obtain ⟨hi1, hi2, hO, hwt, hmo, hnw⟩ := hR0
  have hz := hnw.size
  have q1 := hO.l.1
  have q0 := hO.x.good.lst
  refine W_seq ?_
  refine W_seq ?_
  refine W_region ?_
  refine L_r (r_mi rfl) ?_
  refine L_r (r_mv) ?_
  refine L_r (r_lenSl Try.underlying37 (by conv => lhs; whnf) Sl.au) ?_
  refine L_r (r_lss rfl rfl) ?_
  refine L_r (r_mb rfl) ?_
  refine L_case (d := 44) rfl (fun h44 => ?_) (fun h44 => ?_)
  · refine L_g (r_mi rfl) ?_
    refine L_g (r_lss rfl rfl) ?_
    refine L_r (r_pt rfl rfl) ?_
    refine L_nil ?_
    refine W_if rfl (fun h47 => ?_) (fun h47 => ?_)
    · have hlt : i < z.length := by omega
      refine W_skip ?_
      refine W_cutF [0, 1, 2, 7, 10] (fun f W => ∃ (F2 : Nat → Prop) (C2 : Cal), f 9 = .int .u64 C2.last ∧ (i + 1 ≤ z.length ∧ i + 1 ≤ 100 ∧ OX w0.heap.size F2 W b C2 (i + 1) ∧ C2.wait = 1 + a0 % 10 ∧ C2.most = 1 + a1 % 10 ∧ Nw w0 W)) ?_ ?_
      · refine W_block ?_
        refine W_seq ?_
        have hc9 := cellsS_row z i hlt
        obtain ⟨a, ha⟩ : ∃ a, a = z[i] := ⟨_, rfl⟩
        rw [← ha] at hc9
        obtain ⟨Fx, hFx⟩ : ∃ x, x = F := ⟨_, rfl⟩
        obtain ⟨Cx, hCx⟩ : ∃ x, x = C := ⟨_, rfl⟩
        have hL : Cx.last = C.last := by rw [hCx]
        refine W_region ?_
        refine L_r (r_mv) ?_
        refine L_r (r_mi rfl) ?_
        refine L_r (r_ix Try.underlying37 (show _ = some 9 from rfl) (by conv => lhs; whnf) rfl Sl.au) ?_
        refine L_r (r_loadSlrow (us := [.int .i64 a.k, .int .i64 a.m.kind, .int .u64 a.m.life, .int .u64 a.m.seq, .int .u64 a.m.below, .int .u64 a.m.object, .string a.m.method, .int .i64 a.m.way, .string a.m.body]) Try.underlying43 rfl rfl rfl rfl Sl.au (by exact hc9)) ?_
        refine L_new (.plain rfl) rfl rfl (r_alloca rfl) (fun w4 b11 hb11 eb4 hs4 c4 => ?_)
        refine L_storerow (.plain rfl) rfl rfl Bk.au (by first | rfl | (simp; done) | assumption) (by first | rfl | assumption) (by first | rfl | (simp [Value.oneCell']; done) | assumption) (fun w5 hb5 hs5 c5 => ?_)
        refine L_nil ?_
        refine W_seq ?_
        refine W_seq ?_
        refine W_region ?_
        refine L_r (r_fieldb Try.underlying43 rfl (show _ = some 8 from rfl) rfl rfl (show _ = 1 from rfl)) ?_
        refine L_r (r_fieldb Try.underlying33 rfl (show _ = some 1 from rfl) rfl rfl (show _ = 8 from rfl)) ?_
        refine L_r (r_lb rfl rfl) ?_
        refine L_r (r_lens Try.underlying9 rfl) ?_
        refine L_r (r_gtr rfl rfl) ?_
        refine L_r (r_mb rfl) ?_
        refine L_case (d := 59) rfl (fun h59 => ?_) (fun h59 => ?_)
        · refine L_ps ?_
          refine L_ps ?_
          refine L_ps ?_
          refine L_ps ?_
          refine L_ps ?_
          refine L_r (r_pt rfl rfl) ?_
          refine L_nil ?_
          refine W_true rfl ?_
          refine W_exit ?_
          repeat (first | refine blk_hit ?_ | refine blk_miss rfl ?_)
          refine ⟨⟨rfl, rfl, rfl, rfl, rfl, trivial⟩, Fx, Cx, (by exact congrArg (Value.int .u64) hL.symm), ?_⟩
          subst hFx hCx
          first
          | exact ⟨by omega, by omega, (hO.nw Ch.au).mono (by omega), hwt, hmo, Ch.au⟩
          | exact ⟨by omega, by omega, hO2.nw Ch.au, by omega, by omega, Ch.au⟩
        · refine L_g (r_fieldb Try.underlying43 rfl (show _ = some 8 from rfl) rfl rfl (show _ = 1 from rfl)) ?_
          refine L_g (r_fieldb Try.underlying33 rfl (show _ = some 1 from rfl) rfl rfl (show _ = 6 from rfl)) ?_
          refine L_g (r_lb rfl rfl) ?_
          refine L_g (r_lens Try.underlying9 rfl) ?_
          refine L_g (r_gtr rfl rfl) ?_
          refine L_r (r_pf rfl rfl) ?_
          refine L_nil ?_
          refine W_if rfl (fun h65 => ?_) (fun h65 => ?_)
          · refine W_exit ?_
            repeat (first | refine blk_hit ?_ | refine blk_miss rfl ?_)
            refine ⟨⟨rfl, rfl, rfl, rfl, rfl, trivial⟩, Fx, Cx, (by exact congrArg (Value.int .u64) hL.symm), ?_⟩
            subst hFx hCx
            first
            | exact ⟨by omega, by omega, (hO.nw Ch.au).mono (by omega), hwt, hmo, Ch.au⟩
            | exact ⟨by omega, by omega, hO2.nw Ch.au, by omega, by omega, Ch.au⟩
          · refine W_skip ?_
            refine W_seq ?_
            refine W_region ?_
            refine L_r (r_fieldb Try.underlying43 rfl (show _ = some 1 from rfl) rfl rfl (show _ = 0 from rfl)) ?_
            refine L_r (r_lb rfl rfl) ?_
            refine L_nil ?_
            refine W_block ?_
            refine W_seq ?_
            refine W_region ?_
            refine L_r (r_eql rfl rfl) ?_
            refine L_r (r_ab rfl) ?_
            refine L_nil ?_
            refine W_if rfl (fun h68 => ?_) (fun h68 => ?_)
            · refine W_seq ?_
              refine W_region ?_
              refine L_r (r_mp rfl) ?_
              refine L_r (r_fieldb Try.underlying43 rfl (show _ = some 8 from rfl) rfl rfl (show _ = 1 from rfl)) ?_
              refine L_r (r_fieldb Try.underlying33 rfl (show _ = some 1 from rfl) rfl rfl (show _ = 5 from rfl)) ?_
              refine L_r (r_lb rfl rfl) ?_
              refine L_r (r_fieldb Try.underlying43 rfl (show _ = some 8 from rfl) rfl rfl (show _ = 1 from rfl)) ?_
              refine L_r (r_fieldb Try.underlying33 rfl (show _ = some 1 from rfl) rfl rfl (show _ = 6 from rfl)) ?_
              refine L_r (r_lb rfl rfl) ?_
              refine L_r (r_fieldb Try.underlying43 rfl (show _ = some 8 from rfl) rfl rfl (show _ = 1 from rfl)) ?_
              refine L_r (r_fieldb Try.underlying33 rfl (show _ = some 1 from rfl) rfl rfl (show _ = 8 from rfl)) ?_
              refine L_r (r_lb rfl rfl) ?_
              refine L_call (.plain rfl) rfl rfl (r_call Try.func11 rfl rfl rfl (by rfl)) (call_use _ F b i C a.m.object a.m.method a.m.body _ (hO.x.nw Ch.au) hO.l (by omega) (by omega)) ?_
              rintro v81 w6 ⟨F', rfl, hX', hLim2, hF', c6⟩
              have hz6 := c6.size
              have hO2 := hO.call_ (by omega) hX' hLim2
              have hcs := call_same C a.m.object a.m.method a.m.body
              have hca := call_ans C a.m.object a.m.method a.m.body
              clear hFx hCx hL
              obtain ⟨Fx, hFx⟩ : ∃ x, x = F' := ⟨_, rfl⟩
              obtain ⟨Cx, hCx⟩ : ∃ x, x = (callC C a.m.object a.m.method a.m.body).1 := ⟨_, rfl⟩
              refine L_r (r_mv) ?_
              refine L_r (r_ext2_0 rfl) ?_
              refine L_r (r_ext2_1 rfl) ?_
              refine L_r (r_ai rfl) ?_
              refine L_r (r_ai rfl) ?_
              refine L_nil ?_
              refine W_seq ?_
              refine W_region ?_
              refine L_r (r_mi rfl) ?_
              refine L_r (r_eql rfl rfl) ?_
              refine L_nil ?_
              refine W_if rfl (fun h85 => ?_) (fun h85 => ?_)
              · have hL : Cx.last = C.last + 1 := by rw [hCx]; omega
                refine W_seq ?_
                refine W_region ?_
                refine L_r (r_mi rfl) ?_
                refine L_r (r_add rfl rfl (by first | exact wr_u64 (by omega) | rfl)) ?_
                refine L_r (r_ai rfl) ?_
                refine L_nil ?_
                refine W_seq ?_
                refine W_region ?_
                refine L_r (r_mi rfl) ?_
                refine L_r (r_mi rfl) ?_
                refine L_r (r_neq rfl rfl) ?_
                refine L_nil ?_
                refine W_if rfl (fun h90 => ?_) (fun h90 => ?_)
                · omega
                · refine W_skip ?_
                  refine ⟨⟨rfl, rfl, rfl, rfl, rfl, trivial⟩, Fx, Cx, (by exact congrArg (Value.int .u64) hL.symm), ?_⟩
                  subst hFx hCx
                  first
                  | exact ⟨by omega, by omega, (hO.nw Ch.au).mono (by omega), hwt, hmo, Ch.au⟩
                  | exact ⟨by omega, by omega, hO2.nw Ch.au, by omega, by omega, Ch.au⟩
              · have hL : Cx.last = C.last := by { rw [hCx]; rcases hca with h | h; exact absurd h.1 h85; rw [h.2] }
                refine W_skip ?_
                refine ⟨⟨rfl, rfl, rfl, rfl, rfl, trivial⟩, Fx, Cx, (by exact congrArg (Value.int .u64) hL.symm), ?_⟩
                subst hFx hCx
                first
                | exact ⟨by omega, by omega, (hO.nw Ch.au).mono (by omega), hwt, hmo, Ch.au⟩
                | exact ⟨by omega, by omega, hO2.nw Ch.au, by omega, by omega, Ch.au⟩
            · refine W_seq ?_
              refine W_region ?_
              refine L_r (r_eql rfl rfl) ?_
              refine L_r (r_ab rfl) ?_
              refine L_nil ?_
              refine W_if rfl (fun h91 => ?_) (fun h91 => ?_)
              · refine W_region ?_
                refine L_r (r_mp rfl) ?_
                refine L_call (.plain rfl) rfl rfl (r_call Try.func14 rfl rfl rfl (by rfl)) (tick_use _ F b i C _ (hO.x.nw Ch.au) hO.l (by omega) (by omega)) ?_
                rintro v94 w7 ⟨F', rfl, hX', hLim2, hF', c7⟩
                have hz7 := c7.size
                have hO2 := hO.tick_ hX' hLim2
                have hcs := tick_last C
                clear hFx hCx hL
                obtain ⟨Fx, hFx⟩ : ∃ x, x = F' := ⟨_, rfl⟩
                obtain ⟨Cx, hCx⟩ : ∃ x, x = tick C := ⟨_, rfl⟩
                have hL : Cx.last = C.last := by rw [hCx]; exact hcs.1
                refine L_nil ?_
                refine ⟨⟨rfl, rfl, rfl, rfl, rfl, trivial⟩, Fx, Cx, (by exact congrArg (Value.int .u64) hL.symm), ?_⟩
                subst hFx hCx
                first
                | exact ⟨by omega, by omega, (hO.nw Ch.au).mono (by omega), hwt, hmo, Ch.au⟩
                | exact ⟨by omega, by omega, hO2.nw Ch.au, by omega, by omega, Ch.au⟩
              · refine W_seq ?_
                refine W_region ?_
                refine L_r (r_eql rfl rfl) ?_
                refine L_r (r_ab rfl) ?_
                refine L_nil ?_
                refine W_if rfl (fun h95 => ?_) (fun h95 => ?_)
                · refine W_seq ?_
                  refine W_region ?_
                  refine L_r (r_fieldb Try.underlying43 rfl (show _ = some 8 from rfl) rfl rfl (show _ = 1 from rfl)) ?_
                  refine L_r (r_fieldb Try.underlying33 rfl (show _ = some 1 from rfl) rfl rfl (show _ = 2 from rfl)) ?_
                  refine L_set (.plain rfl) rfl Bk.au (r_store (v := .int _ _) rfl rfl rfl rfl Bk.au (by first | decide | (simp; done) | omega)) (fun w8 hb8 hs8 c8 => ?_)
                  try simp only [List.setIfInBounds_toArray, List.set_cons_zero, List.set_cons_succ] at hb8
                  refine L_nil ?_
                  refine W_region ?_
                  refine L_r (r_mp rfl) ?_
                  refine L_r (r_fieldb Try.underlying43 rfl (show _ = some 8 from rfl) rfl rfl (show _ = 1 from rfl)) ?_
                  refine L_r (r_loadsub (us := [.int _ _, .int _ _, .int _ _, .int _ _, .int _ _, .string _, .int _ _, .string _]) Try.underlying33 rfl (show _ = some 8 from rfl) rfl Bk.au rfl rfl) ?_
                  refine L_call (.plain rfl) rfl rfl (r_call Try.func19 rfl rfl rfl (by rfl)) (recv_use _ F b i C { a.m with life := 7 } _ (hO.x.nw Ch.au) hO.l (by omega) (by omega)) ?_
                  rintro v102 w9 ⟨F', rfl, hX', hLim2, hF', c9⟩
                  have hz9 := c9.size
                  have hO2 := hO.recv_ hX' hLim2
                  have hcs := recv_last C { a.m with life := 7 }
                  clear hFx hCx hL
                  obtain ⟨Fx, hFx⟩ : ∃ x, x = F' := ⟨_, rfl⟩
                  obtain ⟨Cx, hCx⟩ : ∃ x, x = (recvC C { a.m with life := 7 }).1 := ⟨_, rfl⟩
                  have hL : Cx.last = C.last := by rw [hCx]; exact hcs.1
                  refine L_nil ?_
                  refine ⟨⟨rfl, rfl, rfl, rfl, rfl, trivial⟩, Fx, Cx, (by exact congrArg (Value.int .u64) hL.symm), ?_⟩
                  subst hFx hCx
                  first
                  | exact ⟨by omega, by omega, (hO.nw Ch.au).mono (by omega), hwt, hmo, Ch.au⟩
                  | exact ⟨by omega, by omega, hO2.nw Ch.au, by omega, by omega, Ch.au⟩
                · refine W_skip ?_
                  refine ⟨⟨rfl, rfl, rfl, rfl, rfl, trivial⟩, Fx, Cx, (by exact congrArg (Value.int .u64) hL.symm), ?_⟩
                  subst hFx hCx
                  first
                  | exact ⟨by omega, by omega, (hO.nw Ch.au).mono (by omega), hwt, hmo, Ch.au⟩
                  | exact ⟨by omega, by omega, hO2.nw Ch.au, by omega, by omega, Ch.au⟩
      rintro gcb1 w10 ⟨F2, C2, hf9, hCb1⟩
      refine W_as 9 hf9 rfl ?_
      clear hf9
      refine W_region ?_
      refine L_r (r_mi rfl) ?_
      refine L_r (r_add rfl rfl (by first | exact wr_i64 (by omega) | rfl)) ?_
      refine L_r (r_ai rfl) ?_
      refine L_nil ?_
      refine ⟨⟨rfl, rfl, rfl, rfl, trivial⟩, _, ?_, i + 1, F2, C2, rfl, rfl, ?_, rfl⟩
      · omega
      exact hCb1
    · refine W_exit ?_
      repeat (first | refine blk_hit ?_ | refine blk_miss rfl ?_)
      refine W_seq ?_
      refine W_seq ?_
      refine W_region ?_
      refine L_r (r_ai rfl) ?_
      refine L_nil ?_
      refine W_block ?_
      refine W_loopF [0, 1, 7, 9] (fun mz_ f W => ∃ (j : Nat) (F4 : Nat → Prop) (D : Cal), f 14 = .int .i64 j ∧ (j ≤ K ∧ OX w0.heap.size F4 W b D (100 + j) ∧ Within D ((K : Int) - j) ∧ D.last = C.last ∧ Nw w0 W) ∧ mz_ = K - j) ?_ ?_
      · refine ⟨_, 0, F, C, rfl, ?_, rfl⟩
        refine ⟨by omega, (hO.nw Ch.au).mono (by omega), ?_, rfl, Ch.au⟩
        have h := hO.a.within hO.x.good
        rw [hwt, hmo, ← hK] at h
        exact fun p hp => by have := h p hp; omega
      rintro m1 g1 w11 ⟨j, F4, D, hf14, hR1, rfl⟩
      refine W_as 14 hf14 rfl ?_
      clear hf14
      obtain ⟨hj, hP, hW, hDl, hnw4⟩ := hR1
      have hz4 := hnw4.size
      have q2 := hP.l.1
      refine W_seq ?_
      refine W_seq ?_
      refine W_region ?_
      refine L_r (r_mi rfl) ?_
      refine L_r (r_mi rfl) ?_
      refine L_r (r_remn rfl rfl (by omega) (by omega)) ?_
      refine L_r (r_conv Try.underlying5 Try.underlying3 rfl (by first | exact wr_i64 (by omega) | rfl)) ?_
      refine L_r (r_add rfl rfl (by first | exact wr_i64 (by omega) | rfl)) ?_
      refine L_r (r_mi rfl) ?_
      refine L_r (r_remn rfl rfl (by omega) (by omega)) ?_
      refine L_r (r_conv Try.underlying5 Try.underlying3 rfl (by first | exact wr_i64 (by omega) | rfl)) ?_
      refine L_r (r_add rfl rfl (by first | exact wr_i64 (by omega) | rfl)) ?_
      refine L_r (r_mul rfl rfl (by first | exact wr_i64 (by omega) | rfl)) ?_
      rw [← hK]
      refine L_r (r_lss rfl rfl) ?_
      refine L_nil ?_
      refine W_if rfl (fun h113 => ?_) (fun h113 => ?_)
      · refine W_skip ?_
        refine W_seq ?_
        refine W_block ?_
        refine W_region ?_
        refine L_r (r_mp rfl) ?_
        refine L_call (.plain rfl) rfl rfl (r_call Try.func14 rfl rfl rfl (by rfl)) (tick_use _ F4 b (100 + j) D _ (hP.x.nw Ch.au) hP.l (by omega) (by omega)) ?_
        rintro v117 w12 ⟨F5, rfl, hX', hLim2, hF', c12⟩
        have hz12 := c12.size
        have hP2 : OX w0.heap.size F5 w12 b (tick D) (100 + (j + 1)) := hP.tick_ hX' hLim2
        have hDl2 := (tick_last D).1.trans hDl
        have hW2 : Within (tick D) ((K : Int) - (j + 1 : Nat)) := Within.tick (n := (K : Int) - (j + 1 : Nat)) (fun p hp => by have := hW p hp; omega) hP.x.good
        refine L_nil ?_
        refine W_region ?_
        refine L_r (r_mi rfl) ?_
        refine L_r (r_add rfl rfl (by first | exact wr_i64 (by omega) | rfl)) ?_
        refine L_r (r_ai rfl) ?_
        refine L_nil ?_
        refine ⟨⟨rfl, rfl, rfl, rfl, trivial⟩, _, ?_, j + 1, F5, tick D, rfl, ?_, rfl⟩
        · omega
        exact ⟨by omega, hP2.nw Ch.au, hW2, hDl2, Ch.au⟩
      · refine W_exit ?_
        repeat (first | refine blk_hit ?_ | refine blk_miss rfl ?_)
        refine W_seq ?_
        have hjK : j = K := by omega
        have hop : D.op = [] := Within.done (fun p hp => by have := hW p hp; omega) hP.x.good
        have hinv := hP.i
        have hcnt := hinv.cnt
        have hrnd := hinv.rnd
        have hrl := hP.l.2.2.2
        have hb0 : belowC D = D.last + 1 := by unfold belowC; rw [hop]
        have hop0 : D.op.length = 0 := by rw [hop]; rfl
        refine W_region ?_
        refine L_r (r_mp rfl) ?_
        refine L_call (.plain rfl) rfl rfl (r_call Try.func13 rfl rfl rfl (by rfl)) (results_use _ F4 b D _ (hP.x.nw Ch.au) (by omega)) ?_
        rintro v119 w13 ⟨v', rfl, hv', c13⟩
        have hz13 := c13.size
        have hsl := hv'.sl
        refine L_r (r_av) ?_
        refine L_nil ?_
        refine W_seq ?_
        refine W_region ?_
        refine L_mkmap (K := Int) (V := Int) (.int .u64) (.int .i64) (.plain rfl) rfl (fun w14 b120 hb120 eb14 hs14 c14 => ?_)
        refine L_r (r_av) ?_
        refine L_nil ?_
        refine W_seq ?_
        refine W_seq ?_
        have hlo : ∀ i, v119.ownBlock = some i → i < b120 := fun i hi => by have := hv'.lt hi; omega
        have hnF : ¬ F4 b120 := fun h => by have := (hP.x.lt _ h).2; omega
        refine W_region ?_
        refine L_r (r_ai rfl) ?_
        refine L_nil ?_
        refine W_block ?_
        refine W_loopF [7, 9, 15, 16] (fun mz_ f W => ∃ (q : Nat), f 17 = .int .i64 q ∧ (q ≤ D.res.length ∧ Mp (.int .u64) (.int .i64) W b120 (seenL (D.res.take q)) ∧ Sl W v119 3 D.res.length (cellsT D.res) ∧ OX w0.heap.size F4 W b D (100 + j) ∧ Nw w0 W) ∧ mz_ = D.res.length - q) ?_ ?_
        · refine ⟨_, 0, rfl, ?_, rfl⟩
          exact ⟨by omega, Mp.au, Sl.au, hP.nw Ch.au, Ch.au⟩
        rintro m2 g2 w15 ⟨q, hf17, hR2, rfl⟩
        refine W_as 17 hf17 rfl ?_
        clear hf17
        obtain ⟨hq, hmp, hsl6, hP6, hnw6⟩ := hR2
        clear hsl hv'
        have hz6 := hnw6.size
        have hml := hmp.lt
        refine W_seq ?_
        refine W_seq ?_
        refine W_region ?_
        refine L_r (r_mi rfl) ?_
        refine L_r (r_mv) ?_
        refine L_r (r_lenSl Try.underlying34 (by conv => lhs; whnf) Sl.au) ?_
        refine L_r (r_lss rfl rfl) ?_
        refine L_nil ?_
        refine W_if rfl (fun h124 => ?_) (fun h124 => ?_)
        · have hql : q < D.res.length := by omega
          have hrow := cellsT_row D.res q hql
          have hse := seen_no hrnd hql
          have hri := hinv.rin D.res[q] (List.getElem_mem _)
          obtain ⟨r, hre⟩ : ∃ r, r = D.res[q] := ⟨_, rfl⟩
          rw [← hre] at hrow hse hri
          refine W_skip ?_
          refine W_seq ?_
          refine W_block ?_
          refine W_seq ?_
          refine W_seq ?_
          refine W_region ?_
          refine L_r (r_mv) ?_
          refine L_r (r_mv) ?_
          refine L_r (r_mi rfl) ?_
          refine L_r (r_ix Try.underlying34 (show _ = some 3 from rfl) (by conv => lhs; whnf) rfl Sl.au) ?_
          refine L_r (r_fieldSl Try.underlying58 rfl (show _ = some 1 from rfl) rfl (show _ = 0 from rfl) (Nat.add_zero _) rfl) ?_
          refine L_r (r_loadSl rfl rfl Sl.au (by first | assumption | exact hrow 0 _ rfl | exact hrow 1 _ rfl | (conv => lhs; simp only [List.getElem?_toArray, List.getElem?_cons_succ, List.getElem?_cons_zero]))) ?_
          refine L_r (r_lookup (ke := .int .u64) (ve := .int .i64) _ (0) Try.underlying56 Try.underlying26 (fun _ => by first | trivial | rfl) (fun _ _ h => by cases h; rfl) rfl rfl rfl Mp.au) ?_
          rw [show (mget (seenL (D.res.take q)) r.seq).getD 0 = 0 by rw [hse]; rfl]
          refine L_r (r_gtr rfl rfl) ?_
          refine L_r (r_mb rfl) ?_
          refine L_case (d := 135) rfl (fun h135 => ?_) (fun h135 => ?_)
          · omega
          · refine L_g (r_mv) ?_
            refine L_g (r_mi rfl) ?_
            refine L_g (r_ix Try.underlying34 (show _ = some 3 from rfl) (by conv => lhs; whnf) rfl Sl.au) ?_
            refine L_g (r_fieldSl Try.underlying58 rfl (show _ = some 1 from rfl) rfl (show _ = 0 from rfl) (Nat.add_zero _) rfl) ?_
            refine L_g (r_loadSl rfl rfl Sl.au (by first | assumption | exact hrow 0 _ rfl | exact hrow 1 _ rfl | (conv => lhs; simp only [List.getElem?_toArray, List.getElem?_cons_succ, List.getElem?_cons_zero]))) ?_
            refine L_g (r_lss rfl rfl) ?_
            refine L_r (r_pf rfl rfl) ?_
            refine L_r (r_mb rfl) ?_
            refine L_case (d := 143) rfl (fun h143 => ?_) (fun h143 => ?_)
            · omega
            · refine L_g (r_mv) ?_
              refine L_g (r_mi rfl) ?_
              refine L_g (r_ix Try.underlying34 (show _ = some 3 from rfl) (by conv => lhs; whnf) rfl Sl.au) ?_
              refine L_g (r_fieldSl Try.underlying58 rfl (show _ = some 1 from rfl) rfl (show _ = 0 from rfl) (Nat.add_zero _) rfl) ?_
              refine L_g (r_loadSl rfl rfl Sl.au (by first | assumption | exact hrow 0 _ rfl | exact hrow 1 _ rfl | (conv => lhs; simp only [List.getElem?_toArray, List.getElem?_cons_succ, List.getElem?_cons_zero]))) ?_
              refine L_g (r_mi rfl) ?_
              refine L_g (r_gtr rfl rfl) ?_
              refine L_r (r_pf rfl rfl) ?_
              refine L_r (r_mb rfl) ?_
              refine L_case (d := 152) rfl (fun h152 => ?_) (fun h152 => ?_)
              · omega
              · refine L_g (r_mv) ?_
                refine L_g (r_mi rfl) ?_
                refine L_g (r_ix Try.underlying34 (show _ = some 3 from rfl) (by conv => lhs; whnf) rfl Sl.au) ?_
                refine L_g (r_fieldSl Try.underlying58 rfl (show _ = some 1 from rfl) rfl (show _ = 1 from rfl) rfl rfl) ?_
                refine L_g (r_loadSl rfl rfl Sl.au (by first | assumption | exact hrow 0 _ rfl | exact hrow 1 _ rfl | (conv => lhs; simp only [List.getElem?_toArray, List.getElem?_cons_succ, List.getElem?_cons_zero]))) ?_
                refine L_g (r_lss rfl rfl) ?_
                refine L_r (r_pf rfl rfl) ?_
                refine L_r (r_mb rfl) ?_
                refine L_case (d := 160) rfl (fun h160 => ?_) (fun h160 => ?_)
                · omega
                · refine L_g (r_mv) ?_
                  refine L_g (r_mi rfl) ?_
                  refine L_g (r_ix Try.underlying34 (show _ = some 3 from rfl) (by conv => lhs; whnf) rfl Sl.au) ?_
                  refine L_g (r_fieldSl Try.underlying58 rfl (show _ = some 1 from rfl) rfl (show _ = 1 from rfl) rfl rfl) ?_
                  refine L_g (r_loadSl rfl rfl Sl.au (by first | assumption | exact hrow 0 _ rfl | exact hrow 1 _ rfl | (conv => lhs; simp only [List.getElem?_toArray, List.getElem?_cons_succ, List.getElem?_cons_zero]))) ?_
                  refine L_g (r_gtr rfl rfl) ?_
                  refine L_r (r_pf rfl rfl) ?_
                  refine L_nil ?_
                  refine W_if rfl (fun h167 => ?_) (fun h167 => ?_)
                  · omega
                  · refine W_skip ?_
                    refine W_region ?_
                    refine L_r (r_mv) ?_
                    refine L_r (r_mv) ?_
                    refine L_r (r_mi rfl) ?_
                    refine L_r (r_ix Try.underlying34 (show _ = some 3 from rfl) (by conv => lhs; whnf) rfl Sl.au) ?_
                    refine L_r (r_fieldSl Try.underlying58 rfl (show _ = some 1 from rfl) rfl (show _ = 0 from rfl) (Nat.add_zero _) rfl) ?_
                    refine L_r (r_loadSl rfl rfl Sl.au (by first | assumption | exact hrow 0 _ rfl | exact hrow 1 _ rfl | (conv => lhs; simp only [List.getElem?_toArray, List.getElem?_cons_succ, List.getElem?_cons_zero]))) ?_
                    refine L_mapset (ke := .int .u64) (ve := .int .i64) (r.seq) (1) Try.underlying56 Try.underlying26 (fun _ => by first | trivial | rfl) (fun _ _ h => by cases h; rfl) (.plain rfl) rfl rfl rfl Mp.au (fun w16 hm16 hs16 c16 => ?_)
                    refine L_nil ?_
                    refine W_region ?_
                    refine L_r (r_mi rfl) ?_
                    refine L_r (r_add rfl rfl (by first | exact wr_i64 (by omega) | rfl)) ?_
                    refine L_r (r_ai rfl) ?_
                    refine L_nil ?_
                    refine ⟨⟨rfl, rfl, rfl, rfl, trivial⟩, _, ?_, q + 1, rfl, ?_, rfl⟩
                    · omega
                    exact ⟨by omega, by rw [← seen_next hrnd hql, ← hre]; (exact Mp.au), Sl.au, hP6.st hnF Ch.au, Ch.au⟩
        · refine W_exit ?_
          repeat (first | refine blk_hit ?_ | refine blk_miss rfl ?_)
          refine W_seq ?_
          refine W_region ?_
          refine L_r (r_mv) ?_
          refine L_r (r_lenSl Try.underlying34 (by conv => lhs; whnf) Sl.au) ?_
          refine L_r (r_conv Try.underlying3 Try.underlying26 rfl (by first | exact wr_u64 (by omega) | rfl)) ?_
          refine L_r (r_mi rfl) ?_
          refine L_r (r_eql rfl rfl) ?_
          refine L_as (v := .bool _) (v' := .bool true) 178 rfl (dec_t (by omega)).symm ?_
          refine L_r (r_mb rfl) ?_
          refine L_g (r_mp rfl) ?_
          refine L_call (.yes 5 true rfl rfl) rfl rfl (r_call Try.func21 rfl rfl rfl (by rfl)) (open_use _ F4 b D _ (hP6.x.nw Ch.au)) ?_
          rintro v181 w17 ⟨rfl, rfl⟩
          refine L_g (r_eql rfl rfl) ?_
          refine L_as (v := .bool _) (v' := .bool true) 182 rfl (dec_t (by omega)).symm ?_
          refine L_r (r_pt rfl rfl) ?_
          refine L_r (r_mb rfl) ?_
          refine L_g (r_mp rfl) ?_
          refine L_call (.yes 10 true rfl rfl) rfl rfl (r_call Try.func23 rfl rfl rfl (by rfl)) (below_x _ F4 b D _ (hP6.x.nw Ch.au) (by omega)) ?_
          rintro v186 w18 ⟨rfl, c18⟩
          have hz18 := c18.size
          refine L_g (r_mi rfl) ?_
          refine L_g (r_add rfl rfl (by first | exact wr_u64 (by omega) | rfl)) ?_
          refine L_g (r_eql rfl rfl) ?_
          refine L_as (v := .bool _) (v' := .bool true) 189 rfl (dec_t (by omega)).symm ?_
          refine L_r (r_pt rfl rfl) ?_
          refine L_r (r_ab rfl) ?_
          refine L_nil ?_
          refine W_ret ?_
          refine ret1 (v := .bool _) rfl rfl ?_
          exact ⟨rfl, Ch.au⟩
  · refine L_ps ?_
    refine L_ps ?_
    refine L_r (r_pf rfl rfl) ?_
    refine L_nil ?_
    refine W_false rfl ?_
    refine W_exit ?_
    repeat (first | refine blk_hit ?_ | refine blk_miss rfl ?_)
    refine W_seq ?_
    refine W_seq ?_
    refine W_region ?_
    refine L_r (r_ai rfl) ?_
    refine L_nil ?_
    refine W_block ?_
    refine W_loopF [0, 1, 7, 9] (fun mz_ f W => ∃ (j : Nat) (F4 : Nat → Prop) (D : Cal), f 14 = .int .i64 j ∧ (j ≤ K ∧ OX w0.heap.size F4 W b D (100 + j) ∧ Within D ((K : Int) - j) ∧ D.last = C.last ∧ Nw w0 W) ∧ mz_ = K - j) ?_ ?_
    · refine ⟨_, 0, F, C, rfl, ?_, rfl⟩
      refine ⟨by omega, (hO.nw Ch.au).mono (by omega), ?_, rfl, Ch.au⟩
      have h := hO.a.within hO.x.good
      rw [hwt, hmo, ← hK] at h
      exact fun p hp => by have := h p hp; omega
    rintro m1 g1 w19 ⟨j, F4, D, hf14, hR1, rfl⟩
    refine W_as 14 hf14 rfl ?_
    clear hf14
    obtain ⟨hj, hP, hW, hDl, hnw4⟩ := hR1
    have hz4 := hnw4.size
    have q2 := hP.l.1
    refine W_seq ?_
    refine W_seq ?_
    refine W_region ?_
    refine L_r (r_mi rfl) ?_
    refine L_r (r_mi rfl) ?_
    refine L_r (r_remn rfl rfl (by omega) (by omega)) ?_
    refine L_r (r_conv Try.underlying5 Try.underlying3 rfl (by first | exact wr_i64 (by omega) | rfl)) ?_
    refine L_r (r_add rfl rfl (by first | exact wr_i64 (by omega) | rfl)) ?_
    refine L_r (r_mi rfl) ?_
    refine L_r (r_remn rfl rfl (by omega) (by omega)) ?_
    refine L_r (r_conv Try.underlying5 Try.underlying3 rfl (by first | exact wr_i64 (by omega) | rfl)) ?_
    refine L_r (r_add rfl rfl (by first | exact wr_i64 (by omega) | rfl)) ?_
    refine L_r (r_mul rfl rfl (by first | exact wr_i64 (by omega) | rfl)) ?_
    rw [← hK]
    refine L_r (r_lss rfl rfl) ?_
    refine L_nil ?_
    refine W_if rfl (fun h113 => ?_) (fun h113 => ?_)
    · refine W_skip ?_
      refine W_seq ?_
      refine W_block ?_
      refine W_region ?_
      refine L_r (r_mp rfl) ?_
      refine L_call (.plain rfl) rfl rfl (r_call Try.func14 rfl rfl rfl (by rfl)) (tick_use _ F4 b (100 + j) D _ (hP.x.nw Ch.au) hP.l (by omega) (by omega)) ?_
      rintro v117 w20 ⟨F5, rfl, hX', hLim2, hF', c20⟩
      have hz20 := c20.size
      have hP2 : OX w0.heap.size F5 w20 b (tick D) (100 + (j + 1)) := hP.tick_ hX' hLim2
      have hDl2 := (tick_last D).1.trans hDl
      have hW2 : Within (tick D) ((K : Int) - (j + 1 : Nat)) := Within.tick (n := (K : Int) - (j + 1 : Nat)) (fun p hp => by have := hW p hp; omega) hP.x.good
      refine L_nil ?_
      refine W_region ?_
      refine L_r (r_mi rfl) ?_
      refine L_r (r_add rfl rfl (by first | exact wr_i64 (by omega) | rfl)) ?_
      refine L_r (r_ai rfl) ?_
      refine L_nil ?_
      refine ⟨⟨rfl, rfl, rfl, rfl, trivial⟩, _, ?_, j + 1, F5, tick D, rfl, ?_, rfl⟩
      · omega
      exact ⟨by omega, hP2.nw Ch.au, hW2, hDl2, Ch.au⟩
    · refine W_exit ?_
      repeat (first | refine blk_hit ?_ | refine blk_miss rfl ?_)
      refine W_seq ?_
      have hjK : j = K := by omega
      have hop : D.op = [] := Within.done (fun p hp => by have := hW p hp; omega) hP.x.good
      have hinv := hP.i
      have hcnt := hinv.cnt
      have hrnd := hinv.rnd
      have hrl := hP.l.2.2.2
      have hb0 : belowC D = D.last + 1 := by unfold belowC; rw [hop]
      have hop0 : D.op.length = 0 := by rw [hop]; rfl
      refine W_region ?_
      refine L_r (r_mp rfl) ?_
      refine L_call (.plain rfl) rfl rfl (r_call Try.func13 rfl rfl rfl (by rfl)) (results_use _ F4 b D _ (hP.x.nw Ch.au) (by omega)) ?_
      rintro v119 w21 ⟨v', rfl, hv', c21⟩
      have hz21 := c21.size
      have hsl := hv'.sl
      refine L_r (r_av) ?_
      refine L_nil ?_
      refine W_seq ?_
      refine W_region ?_
      refine L_mkmap (K := Int) (V := Int) (.int .u64) (.int .i64) (.plain rfl) rfl (fun w22 b120 hb120 eb22 hs22 c22 => ?_)
      refine L_r (r_av) ?_
      refine L_nil ?_
      refine W_seq ?_
      refine W_seq ?_
      have hlo : ∀ i, v119.ownBlock = some i → i < b120 := fun i hi => by have := hv'.lt hi; omega
      have hnF : ¬ F4 b120 := fun h => by have := (hP.x.lt _ h).2; omega
      refine W_region ?_
      refine L_r (r_ai rfl) ?_
      refine L_nil ?_
      refine W_block ?_
      refine W_loopF [7, 9, 15, 16] (fun mz_ f W => ∃ (q : Nat), f 17 = .int .i64 q ∧ (q ≤ D.res.length ∧ Mp (.int .u64) (.int .i64) W b120 (seenL (D.res.take q)) ∧ Sl W v119 3 D.res.length (cellsT D.res) ∧ OX w0.heap.size F4 W b D (100 + j) ∧ Nw w0 W) ∧ mz_ = D.res.length - q) ?_ ?_
      · refine ⟨_, 0, rfl, ?_, rfl⟩
        exact ⟨by omega, Mp.au, Sl.au, hP.nw Ch.au, Ch.au⟩
      rintro m2 g2 w23 ⟨q, hf17, hR2, rfl⟩
      refine W_as 17 hf17 rfl ?_
      clear hf17
      obtain ⟨hq, hmp, hsl6, hP6, hnw6⟩ := hR2
      clear hsl hv'
      have hz6 := hnw6.size
      have hml := hmp.lt
      refine W_seq ?_
      refine W_seq ?_
      refine W_region ?_
      refine L_r (r_mi rfl) ?_
      refine L_r (r_mv) ?_
      refine L_r (r_lenSl Try.underlying34 (by conv => lhs; whnf) Sl.au) ?_
      refine L_r (r_lss rfl rfl) ?_
      refine L_nil ?_
      refine W_if rfl (fun h124 => ?_) (fun h124 => ?_)
      · have hql : q < D.res.length := by omega
        have hrow := cellsT_row D.res q hql
        have hse := seen_no hrnd hql
        have hri := hinv.rin D.res[q] (List.getElem_mem _)
        obtain ⟨r, hre⟩ : ∃ r, r = D.res[q] := ⟨_, rfl⟩
        rw [← hre] at hrow hse hri
        refine W_skip ?_
        refine W_seq ?_
        refine W_block ?_
        refine W_seq ?_
        refine W_seq ?_
        refine W_region ?_
        refine L_r (r_mv) ?_
        refine L_r (r_mv) ?_
        refine L_r (r_mi rfl) ?_
        refine L_r (r_ix Try.underlying34 (show _ = some 3 from rfl) (by conv => lhs; whnf) rfl Sl.au) ?_
        refine L_r (r_fieldSl Try.underlying58 rfl (show _ = some 1 from rfl) rfl (show _ = 0 from rfl) (Nat.add_zero _) rfl) ?_
        refine L_r (r_loadSl rfl rfl Sl.au (by first | assumption | exact hrow 0 _ rfl | exact hrow 1 _ rfl | (conv => lhs; simp only [List.getElem?_toArray, List.getElem?_cons_succ, List.getElem?_cons_zero]))) ?_
        refine L_r (r_lookup (ke := .int .u64) (ve := .int .i64) _ (0) Try.underlying56 Try.underlying26 (fun _ => by first | trivial | rfl) (fun _ _ h => by cases h; rfl) rfl rfl rfl Mp.au) ?_
        rw [show (mget (seenL (D.res.take q)) r.seq).getD 0 = 0 by rw [hse]; rfl]
        refine L_r (r_gtr rfl rfl) ?_
        refine L_r (r_mb rfl) ?_
        refine L_case (d := 135) rfl (fun h135 => ?_) (fun h135 => ?_)
        · omega
        · refine L_g (r_mv) ?_
          refine L_g (r_mi rfl) ?_
          refine L_g (r_ix Try.underlying34 (show _ = some 3 from rfl) (by conv => lhs; whnf) rfl Sl.au) ?_
          refine L_g (r_fieldSl Try.underlying58 rfl (show _ = some 1 from rfl) rfl (show _ = 0 from rfl) (Nat.add_zero _) rfl) ?_
          refine L_g (r_loadSl rfl rfl Sl.au (by first | assumption | exact hrow 0 _ rfl | exact hrow 1 _ rfl | (conv => lhs; simp only [List.getElem?_toArray, List.getElem?_cons_succ, List.getElem?_cons_zero]))) ?_
          refine L_g (r_lss rfl rfl) ?_
          refine L_r (r_pf rfl rfl) ?_
          refine L_r (r_mb rfl) ?_
          refine L_case (d := 143) rfl (fun h143 => ?_) (fun h143 => ?_)
          · omega
          · refine L_g (r_mv) ?_
            refine L_g (r_mi rfl) ?_
            refine L_g (r_ix Try.underlying34 (show _ = some 3 from rfl) (by conv => lhs; whnf) rfl Sl.au) ?_
            refine L_g (r_fieldSl Try.underlying58 rfl (show _ = some 1 from rfl) rfl (show _ = 0 from rfl) (Nat.add_zero _) rfl) ?_
            refine L_g (r_loadSl rfl rfl Sl.au (by first | assumption | exact hrow 0 _ rfl | exact hrow 1 _ rfl | (conv => lhs; simp only [List.getElem?_toArray, List.getElem?_cons_succ, List.getElem?_cons_zero]))) ?_
            refine L_g (r_mi rfl) ?_
            refine L_g (r_gtr rfl rfl) ?_
            refine L_r (r_pf rfl rfl) ?_
            refine L_r (r_mb rfl) ?_
            refine L_case (d := 152) rfl (fun h152 => ?_) (fun h152 => ?_)
            · omega
            · refine L_g (r_mv) ?_
              refine L_g (r_mi rfl) ?_
              refine L_g (r_ix Try.underlying34 (show _ = some 3 from rfl) (by conv => lhs; whnf) rfl Sl.au) ?_
              refine L_g (r_fieldSl Try.underlying58 rfl (show _ = some 1 from rfl) rfl (show _ = 1 from rfl) rfl rfl) ?_
              refine L_g (r_loadSl rfl rfl Sl.au (by first | assumption | exact hrow 0 _ rfl | exact hrow 1 _ rfl | (conv => lhs; simp only [List.getElem?_toArray, List.getElem?_cons_succ, List.getElem?_cons_zero]))) ?_
              refine L_g (r_lss rfl rfl) ?_
              refine L_r (r_pf rfl rfl) ?_
              refine L_r (r_mb rfl) ?_
              refine L_case (d := 160) rfl (fun h160 => ?_) (fun h160 => ?_)
              · omega
              · refine L_g (r_mv) ?_
                refine L_g (r_mi rfl) ?_
                refine L_g (r_ix Try.underlying34 (show _ = some 3 from rfl) (by conv => lhs; whnf) rfl Sl.au) ?_
                refine L_g (r_fieldSl Try.underlying58 rfl (show _ = some 1 from rfl) rfl (show _ = 1 from rfl) rfl rfl) ?_
                refine L_g (r_loadSl rfl rfl Sl.au (by first | assumption | exact hrow 0 _ rfl | exact hrow 1 _ rfl | (conv => lhs; simp only [List.getElem?_toArray, List.getElem?_cons_succ, List.getElem?_cons_zero]))) ?_
                refine L_g (r_gtr rfl rfl) ?_
                refine L_r (r_pf rfl rfl) ?_
                refine L_nil ?_
                refine W_if rfl (fun h167 => ?_) (fun h167 => ?_)
                · omega
                · refine W_skip ?_
                  refine W_region ?_
                  refine L_r (r_mv) ?_
                  refine L_r (r_mv) ?_
                  refine L_r (r_mi rfl) ?_
                  refine L_r (r_ix Try.underlying34 (show _ = some 3 from rfl) (by conv => lhs; whnf) rfl Sl.au) ?_
                  refine L_r (r_fieldSl Try.underlying58 rfl (show _ = some 1 from rfl) rfl (show _ = 0 from rfl) (Nat.add_zero _) rfl) ?_
                  refine L_r (r_loadSl rfl rfl Sl.au (by first | assumption | exact hrow 0 _ rfl | exact hrow 1 _ rfl | (conv => lhs; simp only [List.getElem?_toArray, List.getElem?_cons_succ, List.getElem?_cons_zero]))) ?_
                  refine L_mapset (ke := .int .u64) (ve := .int .i64) (r.seq) (1) Try.underlying56 Try.underlying26 (fun _ => by first | trivial | rfl) (fun _ _ h => by cases h; rfl) (.plain rfl) rfl rfl rfl Mp.au (fun w24 hm24 hs24 c24 => ?_)
                  refine L_nil ?_
                  refine W_region ?_
                  refine L_r (r_mi rfl) ?_
                  refine L_r (r_add rfl rfl (by first | exact wr_i64 (by omega) | rfl)) ?_
                  refine L_r (r_ai rfl) ?_
                  refine L_nil ?_
                  refine ⟨⟨rfl, rfl, rfl, rfl, trivial⟩, _, ?_, q + 1, rfl, ?_, rfl⟩
                  · omega
                  exact ⟨by omega, by rw [← seen_next hrnd hql, ← hre]; (exact Mp.au), Sl.au, hP6.st hnF Ch.au, Ch.au⟩
      · refine W_exit ?_
        repeat (first | refine blk_hit ?_ | refine blk_miss rfl ?_)
        refine W_seq ?_
        refine W_region ?_
        refine L_r (r_mv) ?_
        refine L_r (r_lenSl Try.underlying34 (by conv => lhs; whnf) Sl.au) ?_
        refine L_r (r_conv Try.underlying3 Try.underlying26 rfl (by first | exact wr_u64 (by omega) | rfl)) ?_
        refine L_r (r_mi rfl) ?_
        refine L_r (r_eql rfl rfl) ?_
        refine L_as (v := .bool _) (v' := .bool true) 178 rfl (dec_t (by omega)).symm ?_
        refine L_r (r_mb rfl) ?_
        refine L_g (r_mp rfl) ?_
        refine L_call (.yes 5 true rfl rfl) rfl rfl (r_call Try.func21 rfl rfl rfl (by rfl)) (open_use _ F4 b D _ (hP6.x.nw Ch.au)) ?_
        rintro v181 w25 ⟨rfl, rfl⟩
        refine L_g (r_eql rfl rfl) ?_
        refine L_as (v := .bool _) (v' := .bool true) 182 rfl (dec_t (by omega)).symm ?_
        refine L_r (r_pt rfl rfl) ?_
        refine L_r (r_mb rfl) ?_
        refine L_g (r_mp rfl) ?_
        refine L_call (.yes 10 true rfl rfl) rfl rfl (r_call Try.func23 rfl rfl rfl (by rfl)) (below_x _ F4 b D _ (hP6.x.nw Ch.au) (by omega)) ?_
        rintro v186 w26 ⟨rfl, c26⟩
        have hz26 := c26.size
        refine L_g (r_mi rfl) ?_
        refine L_g (r_add rfl rfl (by first | exact wr_u64 (by omega) | rfl)) ?_
        refine L_g (r_eql rfl rfl) ?_
        refine L_as (v := .bool _) (v' := .bool true) 189 rfl (dec_t (by omega)).symm ?_
        refine L_r (r_pt rfl rfl) ?_
        refine L_r (r_ab rfl) ?_
        refine L_nil ?_
        refine W_ret ?_
        refine ret1 (v := .bool _) rfl rfl ?_
        exact ⟨rfl, Ch.au⟩
end Go.Proofs.Ytjjddbicggfgnaa

