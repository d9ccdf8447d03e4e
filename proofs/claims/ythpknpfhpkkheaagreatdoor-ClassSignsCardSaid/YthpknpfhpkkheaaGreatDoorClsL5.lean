/- A part of the proof. -/
import Derived.Test.YthpknpfhpkkheaaGreatDoorMGj
import Derived.Test.YthpknpfhpkkheaaGreatDoorClsSg
namespace Go.Proofs.YthpknpfhpkkheaaGreatDoor
open Go Go.RowKit
set_option linter.unusedVariables false
set_option linter.unusedSimpArgs false
set_option maxRecDepth 100000
theorem sign_ready {W : World} {c : CC} {y : MM} (h : cGood 140737488351232 W c) (hk : checkCls c.p = 0) (hy : y ∈ c.q) : y.ok W ∧ (∀ p ∈ y.m.params, rightK p) ∧ y.m.params.length ≤ 140737488355328 ∧ (joinS y.m.params { data := #[44] }).size ≤ 140737488355328 ∧ y.m.result.size ≤ 140737488355328 := by
  obtain ⟨hp, hf⟩ := check_0 hk
  have hm : y.m ∈ c.p.ms := by rw [← h.ok.e]; exact List.mem_map_of_mem hy
  have hr := (hp.ms y.m hm).2.1
  have hl : y.m.params.length ≤ 32 := by
    rcases Nat.lt_or_ge 32 y.m.params.length with h | h
    · exact absurd (.inl ⟨y.m, hm, .inl h⟩) hf
    · exact h
  have hj := joinS_le (B := 38) y.m.params fun x hx => right_le38 (hr x hx)
  refine ⟨(h.ms y hy).1, hr, by omega, by omega, ?_⟩
  have := (h.ms y hy).2.2.2.2
  omega
theorem sign2 (y : MM) (w W : World) (h : y.ok w ∧ (∀ p ∈ y.m.params, rightK p) ∧ y.m.params.length ≤ 140737488355328 ∧ (joinS y.m.params { data := #[44] }).size ≤ 140737488355328 ∧ y.m.result.size ≤ 140737488355328) (c : Nw w W) : Does Tryz.prog 19 #[y.v] W (fun r w' => r = .string (signS y.m) ∧ Nw W w') :=
  sign_walk y W (h.1.nw c) h.2.2.1 h.2.2.2.1 h.2.2.2.2
theorem sg_done {x y : Mth} {e : Bool} {n : Nat} (hsg : signS x = signS y ↔ x.result = y.result ∧ x.params = y.params) (hee : e = true ↔ (x.result = y.result ∧ x.params.length = y.params.length ∧ ∀ j, j < n → x.params[j]? = y.params[j]?)) (hx : e = false ∨ ¬ ((n : Int) < x.params.length)) (hn : n ≤ x.params.length) (h : decide (signS x = signS y) ≠ e) : False := by
  apply h
  cases e with
  | false =>
    rw [decide_eq_false_iff_not]
    intro hs
    obtain ⟨h1, h2⟩ := hsg.1 hs
    have := hee.2 ⟨h1, by rw [h2], fun j _ => by rw [h2]⟩
    cases this
  | true =>
    obtain ⟨h1, h2, h3⟩ := hee.1 rfl
    rcases hx with hx | hx
    · cases hx
    rw [decide_eq_true_iff]
    refine hsg.2 ⟨h1, List.ext_getElem? fun j => ?_⟩
    rcases Nat.lt_or_ge j n with h' | h'
    · exact h3 j h'
    · rw [List.getElem?_eq_none (by omega), List.getElem?_eq_none (by omega)]
set_option maxHeartbeats 4000000 in
theorem ClassSigns_walk (a b : CC) (w0 : World) (ha : cGood 140737488351232 w0 a) (hb : cGood 140737488351232 w0 b) (hL : Gv w0.heap.size w0) : Does Tryz.prog 7 #[a.v, b.v] w0 (fun r w' => r = .bool true ∧ Nw w0 w') := by
  have h1a := ha.ok.one
  have h1b := hb.ok.one
  have hav := ha.ok.m
  have hbv := hb.ok.m
  have hla := ha.lm
  have hlb := hb.lm
  refine fn_of (n := 97) (args := [a.v, b.v]) Tryz.func7 rfl rfl rfl (W_seq (W_region ?_))
  refine L_new (.plain rfl) rfl rfl (r_boxa rfl) (fun w1 b2 hb2 eb1 hs1 c1 => ?_)
  refine L_new (.plain rfl) rfl rfl (r_boxa rfl) (fun w2 b3 hb3 eb2 hs2 c2 => (L_r (r_ab rfl) (L_nil (W_seq (W_seq (W_region ?_))))))
  refine L_r (r_loadrow Tryz.underlying26 rfl rfl Bk.au (by first | rfl | assumption)) ?_
  refine L_call (.plain rfl) rfl rfl (r_call Tryz.func11 rfl rfl rfl (by rfl)) (few05_walk a _ (ha.nw Ch.au)) ?_
  rintro v12 w3 ⟨bfa, rfl, hfa, c3⟩
  have hz3 := c3.size
  refine L_r (r_not rfl) (L_r (r_mb rfl) ?_)
  refine L_caseb (d := 14) rfl (fun h14 => ?_) (fun h14 => ?_)
  ·
   refine L_ps (L_ps (L_ps (L_r (r_pt rfl rfl) (L_r (r_mb rfl) (L_ps (L_ps (L_ps (L_r (r_pt rfl rfl) ?_))))))))
   refine L_r (r_mb rfl) (L_ps (L_ps (L_ps (L_r (r_pt rfl rfl) (L_nil ?_)))))
   refine W_true rfl (W_seq (W_region ?_))
   refine L_call (.plain rfl) rfl rfl (r_call Tryz.func12 rfl rfl rfl (by rfl)) (awake05_walk w0.heap.size _ (hL.nw Ch.au (by omega)) (by omega)) ?_
   rintro v29 w4 ⟨rfl, c4⟩
   have hz4 := c4.size
   refine L_r (r_ab rfl) (L_nil (W_ret ?_))
   refine ret1 (v := .bool _) rfl rfl ?_
   refine ⟨?_, Ch.au⟩
   first
   | rfl
   | exact (sg_done hsg hee (by first | exact .inl (by assumption) | exact .inr (by assumption)) hn (by assumption)).elim
  ·
   refine L_g (r_loadrow Tryz.underlying26 rfl rfl Bk.au (by first | rfl | assumption)) ?_
   refine L_call (.yes 3 false rfl rfl) rfl rfl (r_call Tryz.func11 rfl rfl rfl (by rfl)) (few05_walk b _ (hb.nw Ch.au)) ?_
   rintro v16 w5 ⟨bfb, rfl, hfb, c5⟩
   have hz5 := c5.size
   refine L_g (r_not rfl) (L_r (r_pf rfl rfl) (L_r (r_mb rfl) ?_))
   refine L_caseb (d := 19) rfl (fun h19 => ?_) (fun h19 => ?_)
   ·
    refine L_ps (L_ps (L_ps (L_r (r_pt rfl rfl) (L_r (r_mb rfl) (L_ps (L_ps (L_ps (L_r (r_pt rfl rfl) ?_))))))))
    refine L_nil ?_
    refine W_true rfl (W_seq (W_region ?_))
    refine L_call (.plain rfl) rfl rfl (r_call Tryz.func12 rfl rfl rfl (by rfl)) (awake05_walk w0.heap.size _ (hL.nw Ch.au (by omega)) (by omega)) ?_
    rintro v29 w6 ⟨rfl, c6⟩
    have hz6 := c6.size
    refine L_r (r_ab rfl) (L_nil (W_ret ?_))
    refine ret1 (v := .bool _) rfl rfl ?_
    refine ⟨?_, Ch.au⟩
    first
    | rfl
    | exact (sg_done hsg hee (by first | exact .inl (by assumption) | exact .inr (by assumption)) hn (by assumption)).elim
   ·
    refine L_g (r_loadrow Tryz.underlying26 rfl rfl Bk.au (by first | rfl | assumption)) ?_
    refine L_call (.yes 8 false rfl rfl) rfl rfl (r_call Tryz.func14 rfl rfl rfl (by rfl)) (rcheck05_walk a _ (ha.ok.nw Ch.au) ha.sz) ?_
    rintro v21 w7 ⟨rfl, c7⟩
    have hz7 := c7.size
    refine L_g (r_neq rfl rfl) (L_r (r_pf rfl rfl) (L_r (r_mb rfl) ?_))
    refine L_case (d := 24) rfl (fun h24 => ?_) (fun h24 => ?_)
    ·
     refine L_ps (L_ps (L_ps (L_r (r_pt rfl rfl) (L_nil ?_))))
     refine W_true rfl (W_seq (W_region ?_))
     refine L_call (.plain rfl) rfl rfl (r_call Tryz.func12 rfl rfl rfl (by rfl)) (awake05_walk w0.heap.size _ (hL.nw Ch.au (by omega)) (by omega)) ?_
     rintro v29 w8 ⟨rfl, c8⟩
     have hz8 := c8.size
     refine L_r (r_ab rfl) (L_nil (W_ret ?_))
     refine ret1 (v := .bool _) rfl rfl ?_
     refine ⟨?_, Ch.au⟩
     first
     | rfl
     | exact (sg_done hsg hee (by first | exact .inl (by assumption) | exact .inr (by assumption)) hn (by assumption)).elim
    ·
     refine L_g (r_loadrow Tryz.underlying26 rfl rfl Bk.au (by first | rfl | assumption)) ?_
     refine L_call (.yes 13 false rfl rfl) rfl rfl (r_call Tryz.func14 rfl rfl rfl (by rfl)) (rcheck05_walk b _ (hb.ok.nw Ch.au) hb.sz) ?_
     rintro v26 w9 ⟨rfl, c9⟩
     have hz9 := c9.size
     refine L_g (r_neq rfl rfl) (L_r (r_pf rfl rfl) (L_nil ?_))
     refine W_if rfl (fun h28 => ?_) (fun h28 => ?_)
     ·
      refine W_seq (W_region ?_)
      refine L_call (.plain rfl) rfl rfl (r_call Tryz.func12 rfl rfl rfl (by rfl)) (awake05_walk w0.heap.size _ (hL.nw Ch.au (by omega)) (by omega)) ?_
      rintro v29 w10 ⟨rfl, c10⟩
      have hz10 := c10.size
      refine L_r (r_ab rfl) (L_nil (W_ret ?_))
      refine ret1 (v := .bool _) rfl rfl ?_
      refine ⟨?_, Ch.au⟩
      first
      | rfl
      | exact (sg_done hsg hee (by first | exact .inl (by assumption) | exact .inr (by assumption)) hn (by assumption)).elim
     ·
      refine W_skip (W_seq (W_seq ?_))
      have hka : checkCls a.p = 0 := by first | exact Classical.not_not.1 h24 | simpa using h24
      have hkb : checkCls b.p = 0 := by first | exact Classical.not_not.1 h28 | simpa using h28
      refine W_region (L_r (r_ai rfl) (L_nil (W_block ?_)))
      refine W_loopF [2, 3] (fun mz_ f W => ∃ (i : Nat), f 5 = .int .i64 i ∧ (i ≤ a.q.length ∧ Nw w9 W) ∧ mz_ = a.q.length - i) ?_ ?_
      ·
       refine ⟨_, 0, rfl, ?_, rfl⟩
       exact ⟨by omega, Ch.au⟩
      rintro m0 g0 w11 ⟨i, hf5, hR0, rfl⟩
      refine W_as 5 hf5 rfl ?_
      clear hf5
      obtain ⟨hi, hnw⟩ := hR0
      have hz := hnw.size
      refine W_seq (W_seq (W_region (L_r (r_mi rfl) ?_)))
      refine L_r (r_fieldb Tryz.underlying26 rfl (show _ = some 1 from rfl) rfl rfl (show _ = 7 from rfl)) (L_r (r_lb rfl rfl) ?_)
      refine L_r (r_lenSl Tryz.underlying24 (by conv => lhs; whnf) Sl.au) (L_r (r_lss rfl rfl) (L_nil ?_))
      refine W_if rfl (fun h34 => ?_) (fun h34 => ?_)
      ·
       have hil : i < a.q.length := by omega
       have hrow := cellsCM_row a.q i hil
       have hxm := List.getElem_mem hil
       obtain ⟨x, hx⟩ : ∃ x, x = a.q[i] := ⟨_, rfl⟩
       rw [← hx] at hrow hxm
       have hxs := sign_ready ha hka hxm
       have h1x := hxs.1.one
       have hxp := hxs.1.p
       refine W_skip (W_seq (W_block (W_seq (W_region (L_r (r_ai rfl) (L_nil (W_block ?_)))))))
       refine W_loopF [2, 3, 5] (fun mz_ f W => ∃ (k : Nat), f 6 = .int .i64 k ∧ (k ≤ b.q.length ∧ Nw w11 W) ∧ mz_ = b.q.length - k) ?_ ?_
       ·
        refine ⟨_, 0, rfl, ?_, rfl⟩
        exact ⟨by omega, Ch.au⟩
       rintro m1 g1 w12 ⟨k, hf6, hR1, rfl⟩
       refine W_as 6 hf6 rfl ?_
       clear hf6
       obtain ⟨hk, hnwk⟩ := hR1
       have hzk := hnwk.size
       refine W_seq (W_seq (W_region (L_r (r_mi rfl) ?_)))
       refine L_r (r_fieldb Tryz.underlying26 rfl (show _ = some 1 from rfl) rfl rfl (show _ = 7 from rfl)) (L_r (r_lb rfl rfl) ?_)
       refine L_r (r_lenSl Tryz.underlying24 (by conv => lhs; whnf) Sl.au) (L_r (r_lss rfl rfl) (L_nil ?_))
       refine W_if rfl (fun h41 => ?_) (fun h41 => ?_)
       ·
        have hkl : k < b.q.length := by omega
        have hrowy := cellsCM_row b.q k hkl
        have hym := List.getElem_mem hkl
        obtain ⟨y, hy⟩ : ∃ y, y = b.q[k] := ⟨_, rfl⟩
        rw [← hy] at hrowy hym
        have hys := sign_ready hb hkb hym
        have h1y := hys.1.one
        have hyp := hys.1.p
        have hsg := sign_iff hxs.2.1 hys.2.1
        refine W_skip (W_seq (W_block ?_))
        refine W_cutF [2, 3, 5, 6] (fun f W => ∃ (p q : Nat), f 7 = .pointer (some ⟨p, 0, none⟩) ∧ f 8 = .pointer (some ⟨q, 0, none⟩) ∧ (Bk W p #[.string x.m.name, x.vp, .string x.m.result, .bool x.m.abs, .int .i64 x.m.locals, x.vc, x.vk] 43 ∧ Bk W q #[.string y.m.name, y.vp, .string y.m.result, .bool y.m.abs, .int .i64 y.m.locals, y.vc, y.vk] 43 ∧ Nw w12 W)) ?_ ?_
        ·
         refine W_draw (fun W => Bk W b2 #[.string a.p.name, .string a.p.super, a.vl, .bool a.p.ifc, .bool a.p.abs, .bool a.p.fin, a.vf, a.vm] 26 ∧ Bk W b3 #[.string b.p.name, .string b.p.super, b.vl, .bool b.p.ifc, .bool b.p.abs, .bool b.p.fin, b.vf, b.vm] 26 ∧ Sl W a.vm 7 a.q.length (cellsCM a.q) ∧ Sl W b.vm 7 b.q.length (cellsCM b.q)) 13 (m := 14) (by kernel_rfl) rfl (fun w13 c13 hs13 => ?_)
         refine held (by exact ⟨Bk.au, Bk.au, Sl.au, Sl.au⟩) (fun hS => ?_)
         refine D_t 0 rfl (fun W hW => r_fieldb Tryz.underlying26 rfl (show _ = some 1 from rfl) rfl rfl (show _ = 7 from rfl)) ?_
         refine D_t 1 rfl (fun W hW => r_loadb rfl rfl (by first | exact hW.1 | exact hW.2.1 | exact hW.2.2.1 | exact hW.2.2.2) (by first | assumption | (conv => lhs; simp only [List.getElem?_toArray, List.getElem?_cons_succ, List.getElem?_cons_zero]))) ?_
         refine D_t 2 rfl (fun W hW => r_mi rfl) ?_
         refine D_t 3 rfl (fun W hW => r_ix Tryz.underlying24 (show _ = some 7 from rfl) (by conv => lhs; whnf) rfl (by first | exact hW.1 | exact hW.2.1 | exact hW.2.2.1 | exact hW.2.2.2)) ?_
         refine D_t 4 rfl (fun W hW => r_loadSlrow (us := [.string x.m.name, x.vp, .string x.m.result, .bool x.m.abs, .int .i64 x.m.locals, x.vc, x.vk]) Tryz.underlying43 rfl rfl rfl rfl (by first | exact hW.1 | exact hW.2.1 | exact hW.2.2.1 | exact hW.2.2.2) (by exact hrow)) ?_
         refine D_t 5 rfl (fun W hW => r_fieldb Tryz.underlying26 rfl (show _ = some 1 from rfl) rfl rfl (show _ = 7 from rfl)) ?_
         refine D_t 6 rfl (fun W hW => r_loadb rfl rfl (by first | exact hW.1 | exact hW.2.1 | exact hW.2.2.1 | exact hW.2.2.2) (by first | assumption | (conv => lhs; simp only [List.getElem?_toArray, List.getElem?_cons_succ, List.getElem?_cons_zero]))) ?_
         refine D_t 7 rfl (fun W hW => r_mi rfl) ?_
         refine D_t 8 rfl (fun W hW => r_ix Tryz.underlying24 (show _ = some 7 from rfl) (by conv => lhs; whnf) rfl (by first | exact hW.1 | exact hW.2.1 | exact hW.2.2.1 | exact hW.2.2.2)) ?_
         refine D_t 9 rfl (fun W hW => r_loadSlrow (us := [.string y.m.name, y.vp, .string y.m.result, .bool y.m.abs, .int .i64 y.m.locals, y.vc, y.vk]) Tryz.underlying43 rfl rfl rfl rfl (by first | exact hW.1 | exact hW.2.1 | exact hW.2.2.1 | exact hW.2.2.2) (by exact hrowy)) ?_
         refine D_ev2 10 11 (by kernel_rfl) rfl rfl ?_ ?_
         ·
          refine L_new (.plain rfl) rfl rfl (r_alloca rfl) (fun w14 b7 hb7 eb14 hs14 c14 => (L_nil ?_))
          refine heldK (by exact ⟨Bk.au, Bk.au, Sl.au, Sl.au⟩) (fun hS => ?_)
          refine D_ev 11 (by kernel_rfl) rfl ?_
          refine L_new (.plain rfl) rfl rfl (r_alloca rfl) (fun w15 b8 hb8 eb15 hs15 c15 => (L_nil ?_))
          refine heldK (by exact ⟨Bk.au, Bk.au, Sl.au, Sl.au⟩) (fun hS => ?_)
          refine D_ev 12 (by kernel_rfl) rfl ?_
          refine L_storerow (.plain rfl) rfl rfl Bk.au (by first | rfl | (simp; done) | assumption) (by first | rfl | assumption) (by first | rfl | (simp [Value.oneCell']; done) | assumption) (fun w16 hb16 hs16 c16 => (L_nil ?_))
          refine heldK (by exact ⟨Bk.au, Bk.au, Sl.au, Sl.au⟩) (fun hS => ?_)
          refine D_ev 13 (by kernel_rfl) rfl ?_
          refine L_storerow (.plain rfl) rfl rfl Bk.au (by first | rfl | (simp; done) | assumption) (by first | rfl | assumption) (by first | rfl | (simp [Value.oneCell']; done) | assumption) (fun w17 hb17 hs17 c17 => (L_nil ?_))
          refine heldL ?_
          refine D_done (by kernel_rfl) ?_
          refine ⟨⟨fx2, fx2, fx2, fx2, trivial⟩, b7, b8, rfl, rfl, ?_⟩
          exact ⟨Bk.au, Bk.au, Ch.au⟩
         ·
          refine L_new (.plain rfl) rfl rfl (r_alloca rfl) (fun w18 b8 hb8 eb18 hs18 c18 => (L_nil ?_))
          refine heldK (by exact ⟨Bk.au, Bk.au, Sl.au, Sl.au⟩) (fun hS => ?_)
          refine D_ev 10 (by kernel_rfl) rfl ?_
          refine L_new (.plain rfl) rfl rfl (r_alloca rfl) (fun w19 b7 hb7 eb19 hs19 c19 => (L_nil ?_))
          refine heldK (by exact ⟨Bk.au, Bk.au, Sl.au, Sl.au⟩) (fun hS => ?_)
          refine D_ev 12 (by kernel_rfl) rfl ?_
          refine L_storerow (.plain rfl) rfl rfl Bk.au (by first | rfl | (simp; done) | assumption) (by first | rfl | assumption) (by first | rfl | (simp [Value.oneCell']; done) | assumption) (fun w20 hb20 hs20 c20 => (L_nil ?_))
          refine heldK (by exact ⟨Bk.au, Bk.au, Sl.au, Sl.au⟩) (fun hS => ?_)
          refine D_ev 13 (by kernel_rfl) rfl ?_
          refine L_storerow (.plain rfl) rfl rfl Bk.au (by first | rfl | (simp; done) | assumption) (by first | rfl | assumption) (by first | rfl | (simp [Value.oneCell']; done) | assumption) (fun w21 hb21 hs21 c21 => (L_nil ?_))
          refine heldL ?_
          refine D_done (by kernel_rfl) ?_
          refine ⟨⟨fx2, fx2, fx2, fx2, trivial⟩, b7, b8, rfl, rfl, ?_⟩
          exact ⟨Bk.au, Bk.au, Ch.au⟩
        rintro gcr9 w22 ⟨p, q, hf7, hf8, hCr9⟩
        refine W_as 7 hf7 rfl ?_
        refine W_as 8 hf8 rfl ?_
        clear hf7 hf8
        obtain ⟨hbp, hbq, hnw9⟩ := hCr9
        have hz9 := hnw9.size
        refine W_cutF [2, 3, 5, 6, 7, 8] (fun f W => f 9 = .bool (decide (x.m.result = y.m.result ∧ (x.m.params.length : Int) = y.m.params.length)) ∧ (W = w22)) ?_ ?_
        ·
         refine W_region ?_
         refine L_r (r_fieldb Tryz.underlying43 rfl (show _ = some 1 from rfl) rfl rfl (show _ = 2 from rfl)) (L_r (r_lb rfl rfl) ?_)
         refine L_r (r_fieldb Tryz.underlying43 rfl (show _ = some 1 from rfl) rfl rfl (show _ = 2 from rfl)) (L_r (r_lb rfl rfl) (L_r (r_eqls rfl rfl) (L_r (r_mb rfl) ?_)))
         refine L_case (d := 59) rfl (fun h59 => ?_) (fun h59 => ?_)
         ·
          refine L_g (r_fieldb Tryz.underlying43 rfl (show _ = some 1 from rfl) rfl rfl (show _ = 1 from rfl)) ?_
          refine L_g (r_lb rfl rfl) ?_
          refine L_g (r_lenSl Tryz.underlying22 (by conv => lhs; whnf) Sl.au) ?_
          refine L_g (r_fieldb Tryz.underlying43 rfl (show _ = some 1 from rfl) rfl rfl (show _ = 1 from rfl)) ?_
          refine L_g (r_lb rfl rfl) ?_
          refine L_g (r_lenSl Tryz.underlying22 (by conv => lhs; whnf) Sl.au) ?_
          refine L_g (r_eql rfl rfl) (L_r (r_pt rfl rfl) (L_r (r_ab rfl) (L_nil ?_)))
          refine ⟨⟨fx2, fx2, fx2, fx2, fx2, fx2, trivial⟩, (dec_i (by clear hsg; simp_all)), ?_⟩
          rfl
         ·
          refine L_ps (L_ps (L_ps (L_ps (L_ps (L_ps (L_ps (L_r (r_pf rfl rfl) (L_r (r_ab rfl) ?_))))))))
          refine L_nil ?_
          refine ⟨⟨fx2, fx2, fx2, fx2, fx2, fx2, trivial⟩, (dec_f (by clear hsg; simp_all)), ?_⟩
          rfl
        rintro gcr10 w23 ⟨hf9, hCr10⟩
        refine W_as 9 hf9 rfl ?_
        clear hf9
        subst hCr10
        refine W_seq (W_seq (W_region (L_r (r_ai rfl) (L_nil (W_block ?_)))))
        refine W_loopF [2, 3, 5, 6, 7, 8] (fun mz_ f W => ∃ (n : Nat) (e : Bool), f 10 = .int .i64 n ∧ f 9 = .bool e ∧ (n ≤ x.m.params.length ∧ (e = true ↔ (x.m.result = y.m.result ∧ x.m.params.length = y.m.params.length ∧ ∀ j, j < n → x.m.params[j]? = y.m.params[j]?)) ∧ Nw w23 W) ∧ mz_ = x.m.params.length - n) ?_ ?_
        ·
         refine ⟨_, 0, _, rfl, rfl, ?_, rfl⟩
         refine ⟨by omega, ?_, Ch.au⟩
         rw [decide_eq_true_iff]
         exact ⟨fun h => ⟨h.1, by omega, fun j hj => absurd hj (by omega)⟩, fun h => ⟨h.1, by omega⟩⟩
        rintro m2 g2 w24 ⟨n, e, hf10, hf9, hR2, rfl⟩
        refine W_as 10 hf10 rfl ?_
        refine W_as 9 hf9 rfl ?_
        clear hf10 hf9
        obtain ⟨hn, hee, hnwn⟩ := hR2
        have hzn := hnwn.size
        refine W_seq (W_seq (W_region (L_r (r_mb rfl) (L_r (r_mb rfl) ?_))))
        refine L_caseb (d := 69) rfl (fun h69 => ?_) (fun h69 => ?_)
        ·
         refine L_g (r_mi rfl) ?_
         refine L_g (r_fieldb Tryz.underlying43 rfl (show _ = some 1 from rfl) rfl rfl (show _ = 1 from rfl)) ?_
         refine L_g (r_lb rfl rfl) ?_
         refine L_g (r_lenSl Tryz.underlying22 (by conv => lhs; whnf) Sl.au) ?_
         refine L_g (r_lss rfl rfl) (L_r (r_pt rfl rfl) (L_nil ?_))
         refine W_if rfl (fun h75 => ?_) (fun h75 => ?_)
         ·
          obtain ⟨hq1, hq2, hq3⟩ := hee.1 (by assumption)
          have hnx : n < x.m.params.length := by omega
          have hny : n < y.m.params.length := by omega
          have hrx := scells_get x.m.params n hnx
          have hry := scells_get y.m.params n hny
          refine W_skip (W_seq (W_block ?_))
          refine W_draw (fun W => Bk W p #[.string x.m.name, x.vp, .string x.m.result, .bool x.m.abs, .int .i64 x.m.locals, x.vc, x.vk] 43 ∧ Bk W q #[.string y.m.name, y.vp, .string y.m.result, .bool y.m.abs, .int .i64 y.m.locals, y.vc, y.vk] 43 ∧ Sl W x.vp 1 x.m.params.length (scells x.m.params) ∧ Sl W y.vp 1 y.m.params.length (scells y.m.params)) 12 (m := 12) (by kernel_rfl) rfl (fun w25 c25 hs25 => ?_)
          refine held (by exact ⟨Bk.au, Bk.au, Sl.au, Sl.au⟩) (fun hS => ?_)
          refine D_t 0 rfl (fun W hW => r_fieldb Tryz.underlying43 rfl (show _ = some 1 from rfl) rfl rfl (show _ = 1 from rfl)) ?_
          refine D_t 1 rfl (fun W hW => r_loadb rfl rfl (by first | exact hW.1 | exact hW.2.1 | exact hW.2.2.1 | exact hW.2.2.2) (by first | assumption | (conv => lhs; simp only [List.getElem?_toArray, List.getElem?_cons_succ, List.getElem?_cons_zero]))) ?_
          refine D_t 2 rfl (fun W hW => r_mi rfl) ?_
          refine D_t 3 rfl (fun W hW => r_ix Tryz.underlying22 (show _ = some 1 from rfl) (by conv => lhs; whnf) rfl (by first | exact hW.1 | exact hW.2.1 | exact hW.2.2.1 | exact hW.2.2.2)) ?_
          refine D_t 4 rfl (fun W hW => r_loadSl rfl rfl (by first | exact hW.1 | exact hW.2.1 | exact hW.2.2.1 | exact hW.2.2.2) (by first | exact hrx | exact hry | exact hrow 0 _ rfl)) ?_
          refine D_t 5 rfl (fun W hW => r_fieldb Tryz.underlying43 rfl (show _ = some 1 from rfl) rfl rfl (show _ = 1 from rfl)) ?_
          refine D_t 6 rfl (fun W hW => r_loadb rfl rfl (by first | exact hW.1 | exact hW.2.1 | exact hW.2.2.1 | exact hW.2.2.2) (by first | assumption | (conv => lhs; simp only [List.getElem?_toArray, List.getElem?_cons_succ, List.getElem?_cons_zero]))) ?_
          refine D_t 7 rfl (fun W hW => r_mi rfl) ?_
          refine D_t 8 rfl (fun W hW => r_ix Tryz.underlying22 (show _ = some 1 from rfl) (by conv => lhs; whnf) rfl (by first | exact hW.1 | exact hW.2.1 | exact hW.2.2.1 | exact hW.2.2.2)) ?_
          refine D_t 9 rfl (fun W hW => r_loadSl rfl rfl (by first | exact hW.1 | exact hW.2.1 | exact hW.2.2.1 | exact hW.2.2.2) (by first | exact hrx | exact hry | exact hrow 0 _ rfl)) ?_
          refine D_t 10 rfl (fun W hW => r_eqls rfl rfl) ?_
          refine D_t 11 rfl (fun W hW => r_ab rfl) ?_
          refine D_done (by kernel_rfl) (W_region (L_r (r_mi rfl) ?_))
          refine L_r (r_add rfl rfl (by first | exact wr_i64 (by omega) | rfl)) (L_r (r_ai rfl) (L_nil ?_))
          refine ⟨⟨fx2, fx2, fx2, fx2, fx2, fx2, trivial⟩, _, ?_, n + 1, _, rfl, rfl, ?_, rfl⟩
          · omega
          refine ⟨by omega, ?_, Ch.au⟩
          rw [decide_eq_true_iff]
          constructor
          ·
           intro hq
           refine ⟨hq1, hq2, fun j hj => ?_⟩
           rcases Nat.lt_or_ge j n with h' | h'
           · exact hq3 j h'
           ·
            have e0 : j = n := by omega
            subst e0
            rw [List.getElem?_eq_getElem hnx, List.getElem?_eq_getElem hny, hq]
          ·
           intro hq
           have h2 := hq.2.2 n (by omega)
           rw [List.getElem?_eq_getElem hnx, List.getElem?_eq_getElem hny] at h2
           injection h2
         ·
          refine W_exit ?_
          repeat (first | refine blk_hit ?_ | refine blk_miss rfl ?_)
          refine W_seq ?_
          refine W_draw (fun W => Bk W p #[.string x.m.name, x.vp, .string x.m.result, .bool x.m.abs, .int .i64 x.m.locals, x.vc, x.vk] 43 ∧ Bk W q #[.string y.m.name, y.vp, .string y.m.result, .bool y.m.abs, .int .i64 y.m.locals, y.vc, y.vk] 43) 7 (m := 7) (by kernel_rfl) rfl (fun w26 c26 hs26 => ?_)
          refine held (by exact ⟨Bk.au, Bk.au⟩) (fun hS => ?_)
          refine D_t 0 rfl (fun W hW => r_loadrow Tryz.underlying43 rfl rfl (by first | exact hW.1 | exact hW.2) (by first | rfl | assumption)) ?_
          refine D_t 2 rfl (fun W hW => r_loadrow Tryz.underlying43 rfl rfl (by first | exact hW.1 | exact hW.2) (by first | rfl | assumption)) ?_
          refine D_t 5 rfl (fun W hW => r_mb rfl) ?_
          refine D_ev 1 (by kernel_rfl) rfl ?_
          refine L_call (.plain rfl) rfl rfl (r_call Tryz.func19 rfl rfl rfl (by rfl)) (sign2 x _ _ hxs Ch.au) ?_
          rintro v90 w27 ⟨rfl, c27⟩
          have hz27 := c27.size
          refine L_nil ?_
          refine heldK (by exact ⟨Bk.au, Bk.au⟩) (fun hS => ?_)
          refine D_ev 3 (by kernel_rfl) rfl ?_
          refine L_call (.plain rfl) rfl rfl (r_call Tryz.func19 rfl rfl rfl (by rfl)) (sign2 y _ _ hys Ch.au) ?_
          rintro v92 w28 ⟨rfl, c28⟩
          have hz28 := c28.size
          refine L_nil ?_
          refine heldK (by exact ⟨Bk.au, Bk.au⟩) (fun hS => ?_)
          refine D_t 4 rfl (fun W hW => r_eqls rfl rfl) ?_
          refine D_t 6 rfl (fun W hW => r_neqb Tryz.underlying4 rfl rfl) ?_
          refine D_done (by kernel_rfl) ?_
          refine W_if rfl (fun h95 => ?_) (fun h95 => ?_)
          ·
           refine W_seq (W_region (L_r (r_ab rfl) (L_nil (W_ret ?_))))
           refine ret1 (v := .bool _) rfl rfl ?_
           refine ⟨?_, Ch.au⟩
           first
           | rfl
           | exact (sg_done hsg hee (by first | exact .inl (by assumption) | exact .inr (by assumption)) hn (by assumption)).elim
          ·
           refine W_skip (W_region (L_r (r_mi rfl) ?_))
           refine L_r (r_add rfl rfl (by first | exact wr_i64 (by omega) | rfl)) (L_r (r_ai rfl) (L_nil ?_))
           refine ⟨⟨fx2, fx2, fx2, trivial⟩, _, ?_, k + 1, rfl, ?_, rfl⟩
           · omega
           exact ⟨by omega, Ch.au⟩
        ·
         refine L_ps (L_ps (L_ps (L_ps (L_ps (L_r (r_pf rfl rfl) (L_nil ?_))))))
         refine W_false rfl ?_
         refine W_exit ?_
         repeat (first | refine blk_hit ?_ | refine blk_miss rfl ?_)
         refine W_seq ?_
         refine W_draw (fun W => Bk W p #[.string x.m.name, x.vp, .string x.m.result, .bool x.m.abs, .int .i64 x.m.locals, x.vc, x.vk] 43 ∧ Bk W q #[.string y.m.name, y.vp, .string y.m.result, .bool y.m.abs, .int .i64 y.m.locals, y.vc, y.vk] 43) 7 (m := 7) (by kernel_rfl) rfl (fun w29 c29 hs29 => ?_)
         refine held (by exact ⟨Bk.au, Bk.au⟩) (fun hS => ?_)
         refine D_t 0 rfl (fun W hW => r_loadrow Tryz.underlying43 rfl rfl (by first | exact hW.1 | exact hW.2) (by first | rfl | assumption)) ?_
         refine D_t 2 rfl (fun W hW => r_loadrow Tryz.underlying43 rfl rfl (by first | exact hW.1 | exact hW.2) (by first | rfl | assumption)) ?_
         refine D_t 5 rfl (fun W hW => r_mb rfl) ?_
         refine D_ev 1 (by kernel_rfl) rfl ?_
         refine L_call (.plain rfl) rfl rfl (r_call Tryz.func19 rfl rfl rfl (by rfl)) (sign2 x _ _ hxs Ch.au) ?_
         rintro v90 w30 ⟨rfl, c30⟩
         have hz30 := c30.size
         refine L_nil ?_
         refine heldK (by exact ⟨Bk.au, Bk.au⟩) (fun hS => ?_)
         refine D_ev 3 (by kernel_rfl) rfl ?_
         refine L_call (.plain rfl) rfl rfl (r_call Tryz.func19 rfl rfl rfl (by rfl)) (sign2 y _ _ hys Ch.au) ?_
         rintro v92 w31 ⟨rfl, c31⟩
         have hz31 := c31.size
         refine L_nil ?_
         refine heldK (by exact ⟨Bk.au, Bk.au⟩) (fun hS => ?_)
         refine D_t 4 rfl (fun W hW => r_eqls rfl rfl) ?_
         refine D_t 6 rfl (fun W hW => r_neqb Tryz.underlying4 rfl rfl) ?_
         refine D_done (by kernel_rfl) ?_
         refine W_if rfl (fun h95 => ?_) (fun h95 => ?_)
         ·
          refine W_seq (W_region (L_r (r_ab rfl) (L_nil (W_ret ?_))))
          refine ret1 (v := .bool _) rfl rfl ?_
          refine ⟨?_, Ch.au⟩
          first
          | rfl
          | exact (sg_done hsg hee (by first | exact .inl (by assumption) | exact .inr (by assumption)) hn (by assumption)).elim
         ·
          refine W_skip (W_region (L_r (r_mi rfl) ?_))
          refine L_r (r_add rfl rfl (by first | exact wr_i64 (by omega) | rfl)) (L_r (r_ai rfl) (L_nil ?_))
          refine ⟨⟨fx2, fx2, fx2, trivial⟩, _, ?_, k + 1, rfl, ?_, rfl⟩
          · omega
          exact ⟨by omega, Ch.au⟩
       ·
        refine W_exit ?_
        repeat (first | refine blk_hit ?_ | refine blk_miss rfl ?_)
        refine W_region (L_r (r_mi rfl) ?_)
        refine L_r (r_add rfl rfl (by first | exact wr_i64 (by omega) | rfl)) (L_r (r_ai rfl) (L_nil ?_))
        refine ⟨⟨fx2, fx2, trivial⟩, _, ?_, i + 1, rfl, ?_, rfl⟩
        · omega
        exact ⟨by omega, Ch.au⟩
      ·
       refine W_exit ?_
       repeat (first | refine blk_hit ?_ | refine blk_miss rfl ?_)
       refine W_seq (W_region ?_)
       refine L_call (.plain rfl) rfl rfl (r_call Tryz.func12 rfl rfl rfl (by rfl)) (awake05_walk w0.heap.size _ (hL.nw Ch.au (by omega)) (by omega)) ?_
       rintro v96 w32 ⟨rfl, c32⟩
       have hz32 := c32.size
       refine L_r (r_ab rfl) (L_nil (W_ret ?_))
       refine ret1 (v := .bool _) rfl rfl ?_
       refine ⟨?_, Ch.au⟩
       first
       | rfl
       | exact (sg_done hsg hee (by first | exact .inl (by assumption) | exact .inr (by assumption)) hn (by assumption)).elim
end Go.Proofs.YthpknpfhpkkheaaGreatDoor
