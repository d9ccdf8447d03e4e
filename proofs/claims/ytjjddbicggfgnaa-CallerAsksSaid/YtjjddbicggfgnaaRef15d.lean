/- The document's caller, walked: a tick, a reply; the same lists. -/
import Derived.Test.YtjjddbicggfgnaaRef15c
namespace Go.Proofs.Ytjjddbicggfgnaa
open Go Go.RowKit
set_option linter.unusedVariables false
set_option linter.unusedSimpArgs false
set_option maxRecDepth 100000
variable {base : Nat} {w w' : World} {vl vo vr : Value} {R : RCal}
theorem RcAt.nb {b : Nat} {cs : Array Value} {t : TypeId} (h : RcAt base w vl vo vr R) (hb : Bk w b cs t) (h1 : t ≠ 75) (h2 : t ≠ 33) (h3 : t ≠ 58) : ∀ j, Rown vl vo vr j → ¬ (j = b) := by
  rintro j (e | e | e) rfl
  · obtain ⟨cs, hc⟩ := h.l.bk e
    exact Bk.ne hb hc h1 rfl
  · obtain ⟨cs, hc⟩ := h.o.bk e
    exact Bk.ne hb hc h2 rfl
  · obtain ⟨cs, hc⟩ := h.r.bk e
    exact Bk.ne hb hc h3 rfl
abbrev wx (x : RCl) : RCl := { x with waited := x.waited + 1 }
def rtick1 (R : RCal) (i : Nat) : RCal := match R.L[i]? with
  | none => R
  | some x => if x.ended = true then R else if x.waited + 1 < R.wait then withR R i (wx x) else if R.most ≤ x.asks then endR (withR R i (wx x)) i (wx x) 3 { data := #[] } else askR (withR R i (wx x)) i (wx x)
def rtickN (R : RCal) (i : Nat) : RCal := (List.range i).foldl rtick1 R
def rtick (R : RCal) : RCal := rtickN R R.L.length
theorem rtickN_next (R : RCal) (i : Nat) : rtickN R (i + 1) = rtick1 (rtickN R i) i := by
  unfold rtickN
  rw [List.range_succ, List.foldl_append]; rfl
theorem rtick1_ended {i : Nat} {x : RCl} (h : R.L[i]? = some x) (he : x.ended = true) : rtick1 R i = R := by
  unfold rtick1; rw [h]; exact if_pos he
theorem rtick1_wait {i : Nat} {x : RCl} (h : R.L[i]? = some x) (he : x.ended = false) (h1 : x.waited + 1 < R.wait) : rtick1 R i = withR R i (wx x) := by
  unfold rtick1; rw [h]; exact (if_neg (by rw [he]; decide)).trans (if_pos h1)
theorem rtick1_end {i : Nat} {x : RCl} (h : R.L[i]? = some x) (he : x.ended = false) (h1 : ¬ x.waited + 1 < R.wait) (h2 : R.most ≤ x.asks) : rtick1 R i = endR (withR R i (wx x)) i (wx x) 3 { data := #[] } := by
  unfold rtick1; rw [h]; exact (if_neg (by rw [he]; decide)).trans ((if_neg h1).trans (if_pos h2))
theorem rtick1_ask {i : Nat} {x : RCl} (h : R.L[i]? = some x) (he : x.ended = false) (h1 : ¬ x.waited + 1 < R.wait) (h2 : ¬ R.most ≤ x.asks) : rtick1 R i = askR (withR R i (wx x)) i (wx x) := by
  unfold rtick1; rw [h]; exact (if_neg (by rw [he]; decide)).trans ((if_neg h1).trans (if_neg h2))
theorem rtick1_facts (R : RCal) (i : Nat) : (rtick1 R i).L.length = R.L.length ∧ (rtick1 R i).life = R.life ∧ (rtick1 R i).wait = R.wait ∧ (rtick1 R i).most = R.most ∧ (rtick1 R i).out.length ≤ R.out.length + 1 ∧ (rtick1 R i).res.length ≤ R.res.length + 1 ∧ ∀ j, j ≠ i → (rtick1 R i).L[j]? = R.L[j]? := by
  cases h : R.L[i]? with
  | none => unfold rtick1; rw [h]; exact ⟨rfl, rfl, rfl, rfl, Nat.le_succ _, Nat.le_succ _, fun _ _ => rfl⟩
  | some x =>
    cases he : x.ended with
    | true => rw [rtick1_ended h he]; exact ⟨rfl, rfl, rfl, rfl, Nat.le_succ _, Nat.le_succ _, fun _ _ => rfl⟩
    | false =>
      by_cases h1 : x.waited + 1 < R.wait
      · rw [rtick1_wait h he h1]
        exact ⟨by simp, rfl, rfl, rfl, Nat.le_succ _, Nat.le_succ _, fun j hj => List.getElem?_set_ne hj.symm⟩
      · by_cases h2 : R.most ≤ x.asks
        · rw [rtick1_end h he h1 h2]
          exact ⟨by simp, rfl, rfl, rfl, Nat.le_succ _, by simp, fun j hj => by show ((R.L.set i _).set i _)[j]? = _; rw [List.getElem?_set_ne hj.symm, List.getElem?_set_ne hj.symm]⟩
        · rw [rtick1_ask h he h1 h2]
          exact ⟨by simp, rfl, rfl, rfl, by simp, Nat.le_succ _, fun j hj => by show ((R.L.set i _).set i _)[j]? = _; rw [List.getElem?_set_ne hj.symm, List.getElem?_set_ne hj.symm]⟩
theorem rtickN_facts (R : RCal) (i : Nat) : (rtickN R i).L.length = R.L.length ∧ (rtickN R i).life = R.life ∧ (rtickN R i).wait = R.wait ∧ (rtickN R i).most = R.most ∧ (rtickN R i).out.length ≤ R.out.length + i ∧ (rtickN R i).res.length ≤ R.res.length + i ∧ ∀ j, i ≤ j → (rtickN R i).L[j]? = R.L[j]? := by
  induction i with
  | zero => exact ⟨rfl, rfl, rfl, rfl, Nat.le_refl _, Nat.le_refl _, fun _ _ => rfl⟩
  | succ i ih =>
    obtain ⟨a1, a2, a3, a4, a5, a6, a7⟩ := ih
    obtain ⟨b1, b2, b3, b4, b5, b6, b7⟩ := rtick1_facts (rtickN R i) i
    rw [rtickN_next]
    exact ⟨b1.trans a1, b2.trans a2, b3.trans a3, b4.trans a4, by omega, by omega, fun j hj => (b7 j (by omega)).trans (a7 j (by omega))⟩
theorem set_get {L : List RCl} {i : Nat} {x y : RCl} (h : L[i]? = some x) : (L.set i y)[i]? = some y := by
  obtain ⟨hi, _⟩ := getx h
  exact List.getElem?_set_self hi
set_option maxHeartbeats 4000000 in
theorem rtick_walk (base : Nat) (vl vo vr : Value) (R : RCal) (w0 : World) (hR : RcAt base w0 vl vo vr R) (hg : ∀ (i : Nat) (x : RCl), R.L[i]? = some x → x.ended = false → (0 ≤ x.waited ∧ x.waited ≤ 1000) ∧ 0 ≤ x.asks ∧ x.asks ≤ 1000) (hl : R.L.length ≤ 90000) (hol : R.out.length ≤ 8000000) (hrl : R.res.length ≤ 900000) (hbs : base ≤ w0.heap.size) : Does Try.prog 17 #[.agg #[.int .u64 R.life, .int .i64 R.wait, .int .i64 R.most, vl, vo, vr]] w0 (fun r w' => ∃ vl' vo' vr', r = .agg ((rtick R).row vl' vo' vr') ∧ RcAt base w' vl' vo' vr' (rtick R) ∧ (∀ j, Rown vl' vo' vr' j → Rown vl vo vr j ∨ w0.heap.size ≤ j) ∧ Nw w0 w') := by
  have h1 := sl_one hR.l.sl
  have h2 := sl_one hR.o.sl
  have h3 := sl_one hR.r.sl
  refine fn_of (n := 44) (args := [.agg #[.int .u64 R.life, .int .i64 R.wait, .int .i64 R.most, vl, vo, vr]]) Try.func17 rfl rfl rfl ?_
  refine W_seq ?_
  refine W_region ?_
  refine L_new (.plain rfl) rfl rfl (r_boxa rfl) (fun w1 b1 hb1 eb1 hs1 c1 => ?_)
  refine L_new (.plain rfl) rfl rfl (r_alloca rfl) (fun w2 b2 hb2 eb2 hs2 c2 => ?_)
  refine L_nil ?_
  refine W_seq ?_
  refine W_seq ?_
  refine W_region ?_
  refine L_r (r_ai rfl) ?_
  refine L_nil ?_
  refine W_block ?_
  refine W_loopF [1, 2] (fun mz_ f W => ∃ (i : Nat) (R1 : RCal) (vl1 vo1 vr1 : Value), f 3 = .int .i64 i ∧ (i ≤ R.L.length ∧ R1 = rtickN R i ∧ RcAt base W vl1 vo1 vr1 R1 ∧ Bk W b1 (R1.row vl1 vo1 vr1) 41 ∧ (∀ j, Rown vl1 vo1 vr1 j → Rown vl vo vr j ∨ w0.heap.size ≤ j) ∧ Bk W b2 #[.int .u64 0, .int .i64 0, .int .i64 0, .slice none 0 0, .slice none 0 0, .slice none 0 0] 41 ∧ Nw w0 W) ∧ mz_ = R.L.length - i) ?_ ?_
  · refine ⟨_, 0, R, vl, vo, vr, rfl, ?_, rfl⟩
    exact ⟨by omega, rfl, hR.nw Ch.au, Bk.au, fun j hj => .inl hj, Bk.au, Ch.au⟩
  rintro m0 g0 w3 ⟨i, R1, vl1, vo1, vr1, hf3, hR0, rfl⟩
  refine W_as 3 hf3 rfl ?_
  clear hf3
  obtain ⟨hi, hRi, hA, hbR, hown, hbZ, hnw⟩ := hR0
  have hbRl := hbR.lt
  have hbZl := hbZ.lt
  have hb12 : b1 ≠ b2 := by omega
  have hz := hnw.size
  obtain ⟨f1, f2, f3, f4, f5, f6, f7⟩ := rtickN_facts R i
  rw [← hRi] at f1 f2 f3 f4 f5 f6 f7
  have hv := hA.l.sl
  have k1 := sl_one hA.l.sl
  have k2 := sl_one hA.o.sl
  have k3 := sl_one hA.r.sl
  have hnb0 := hA.nb hbR (by decide) (by decide) (by decide)
  refine W_seq ?_
  refine W_seq ?_
  refine W_region ?_
  refine L_r (r_mi rfl) ?_
  refine L_r (r_fieldb Try.underlying41 rfl (show _ = some 1 from rfl) rfl rfl (show _ = 3 from rfl)) ?_
  refine L_r (r_lb rfl rfl) ?_
  refine L_r (r_lenSl Try.underlying39 (by conv => lhs; whnf) Sl.au) ?_
  refine L_r (r_lss rfl rfl) ?_
  refine L_nil ?_
  refine W_if rfl (fun h9 => ?_) (fun h9 => ?_)
  · have hin : i < R.L.length := by omega
    obtain ⟨x, hx⟩ : ∃ x, R1.L[i]? = some x := ⟨_, List.getElem?_eq_getElem (by omega)⟩
    have hx0 : R.L[i]? = some x := by rw [← f7 i (Nat.le_refl _)]; exact hx
    have hgx := hg i x hx0
    obtain ⟨hi1, hxi⟩ := getx hx
    have hrow : ∀ (j : Nat) (u : Value), (rcl x)[j]? = some u → (cellsC R1.L)[i * 11 + j]? = some u := by rw [← hxi]; exact cellsC_row R1.L i hi1
    obtain ⟨Rx, hRx⟩ : ∃ x, x = R1 := ⟨_, rfl⟩
    obtain ⟨vlx, hvlx⟩ : ∃ x, x = vl1 := ⟨_, rfl⟩
    obtain ⟨vox, hvox⟩ : ∃ x, x = vo1 := ⟨_, rfl⟩
    obtain ⟨vrx, hvrx⟩ : ∃ x, x = vr1 := ⟨_, rfl⟩
    refine W_skip ?_
    refine W_cutF [1, 2, 3] (fun f W => ∃ (R2 : RCal) (vl2 vo2 vr2 : Value), True ∧ (R2 = rtickN R (i + 1) ∧ RcAt base W vl2 vo2 vr2 R2 ∧ Bk W b1 (R2.row vl2 vo2 vr2) 41 ∧ (∀ j, Rown vl2 vo2 vr2 j → Rown vl vo vr j ∨ w0.heap.size ≤ j) ∧ Bk W b2 #[.int .u64 0, .int .i64 0, .int .i64 0, .slice none 0 0, .slice none 0 0, .slice none 0 0] 41 ∧ Nw w0 W)) ?_ ?_
    · refine W_block ?_
      refine W_seq ?_
      refine W_region ?_
      refine L_r (r_fieldb Try.underlying41 rfl (show _ = some 1 from rfl) rfl rfl (show _ = 3 from rfl)) ?_
      refine L_r (r_lb rfl rfl) ?_
      refine L_r (r_mi rfl) ?_
      refine L_r (r_ix Try.underlying39 (show _ = some 11 from rfl) (by conv => lhs; whnf) rfl Sl.au) ?_
      refine L_r (r_loadSlrow (us := [.int .i64 x.m.kind, .int .u64 x.m.life, .int .u64 x.m.seq, .int .u64 x.m.below, .int .u64 x.m.object, .string x.m.method, .int .i64 x.m.way, .string x.m.body, .int .i64 x.waited, .int .i64 x.asks, .bool x.ended]) Try.underlying75 rfl rfl rfl rfl Sl.au (by exact hrow)) ?_
      refine L_new (.plain rfl) rfl rfl (r_alloca rfl) (fun w4 b4 hb4 eb4 hs4 c4 => ?_)
      refine L_storerow (.plain rfl) rfl rfl Bk.au (by first | rfl | (simp; done) | assumption) (by first | rfl | assumption) (by first | exact six_one h1 h2 h3 | exact six_one k1 k2 k3 | exact six_one g1 g2 g3 | rfl | (simp [Value.oneCell']; done)) (fun w5 hb5 hs5 c5 => ?_)
      refine L_nil ?_
      refine W_seq ?_
      refine W_seq ?_
      refine W_region ?_
      refine L_r (r_fieldb Try.underlying75 rfl (show _ = some 1 from rfl) rfl rfl (show _ = 10 from rfl)) ?_
      refine L_r (r_lb rfl rfl) ?_
      refine L_nil ?_
      refine W_bool rfl (fun h18 => ?_) (fun h18 => ?_)
      · refine W_exit ?_
        repeat (first | refine blk_hit ?_ | refine blk_miss rfl ?_)
        refine ⟨⟨rfl, rfl, rfl, trivial⟩, Rx, vlx, vox, vrx, trivial, ?_⟩
        subst hRx hvlx hvox hvrx
        rw [rtickN_next, ← hRi]
        first
        | exact ⟨(rtick1_ended hx (by simpa using h18)).symm, hA.nw Ch.au, Bk.au, hown, Bk.au, Ch.au⟩
        | exact ⟨(rtick1_wait hx (by simpa using h18) (by omega)).symm, hA3.nw Ch.au, Bk.au, hown3, Bk.au, Ch.au⟩
        | exact ⟨(rtick1_end hx (by simpa using h18) (by omega) (by omega)).symm, hA5.nw Ch.au, Bk.au, hown4, Bk.au, Ch.au⟩
        | exact ⟨(rtick1_ask hx (by simpa using h18) (by omega) (by omega)).symm, hA5.nw Ch.au, Bk.au, hown4, Bk.au, Ch.au⟩
      · have hgx2 := hgx (by simpa using h18)
        refine W_skip ?_
        refine W_seq ?_
        refine W_region ?_
        refine L_r (r_fieldb Try.underlying75 rfl (show _ = some 1 from rfl) rfl rfl (show _ = 8 from rfl)) ?_
        refine L_r (r_lb rfl rfl) ?_
        refine L_r (r_add rfl rfl (by first | exact wr_i64 (by omega) | rfl)) ?_
        refine L_r (r_fieldb Try.underlying75 rfl (show _ = some 1 from rfl) rfl rfl (show _ = 8 from rfl)) ?_
        refine L_set (.plain rfl) rfl Bk.au (r_store (v := .int _ _) rfl rfl rfl rfl Bk.au (by first | decide | (simp; done) | omega)) (fun w6 hb6 hs6 c6 => ?_)
        try simp only [List.setIfInBounds_toArray, List.set_cons_zero, List.set_cons_succ] at hb6
        refine L_nil ?_
        refine W_seq ?_
        refine W_region ?_
        refine L_r (r_loadrow Try.underlying41 rfl rfl Bk.au (by first | rfl | assumption)) ?_
        refine L_r (r_mi rfl) ?_
        refine L_r (r_loadrow Try.underlying75 rfl rfl Bk.au (by first | rfl | assumption)) ?_
        refine L_call (.plain rfl) rfl rfl (r_call Try.func34 rfl rfl rfl (by rfl)) (with_walk base vl1 vo1 vr1 R1 i (wx x) _ (hA.nw Ch.au) hi1 (by omega) (by omega)) ?_
        rintro v26 w7 ⟨vl', rfl, hA', hlo, c7⟩
        have hz7 := c7.size
        have g1 := sl_one hA'.l.sl
        have g2 := k2
        have g3 := k3
        have hown3 : ∀ j, Rown vl' vo1 vr1 j → Rown vl vo vr j ∨ w0.heap.size ≤ j := fun j hj => hj.elim (fun e => .inr (by have := hlo j e; omega)) (fun e => hown j (.inr e))
        have hnb := hA'.nb (Bk.au : Bk w7 b1 (R1.row vl1 vo1 vr1) 41) (by decide) (by decide) (by decide)
        refine L_storerow (.plain rfl) rfl rfl Bk.au (by first | rfl | (simp; done) | assumption) (by first | rfl | assumption) (by first | exact six_one h1 h2 h3 | exact six_one k1 k2 k3 | exact six_one g1 g2 g3 | rfl | (simp [Value.oneCell']; done)) (fun w8 hb8 hs8 c8 => ?_)
        have hA3 := hA'.ch (w' := w8) (X := fun j => j = b1) Ch.au hnb
        have hq3 : (withR R1 i (wx x)).L[i]? = some (wx x) := set_get hx
        have hq4 : (withR R1 i (wx x)).L.length = R1.L.length := by simp
        clear hRx hvlx
        obtain ⟨Rx, hRx⟩ : ∃ y, y = withR R1 i (wx x) := ⟨_, rfl⟩
        obtain ⟨vlx, hvlx⟩ : ∃ y, y = vl' := ⟨_, rfl⟩
        refine L_nil ?_
        refine W_seq ?_
        refine W_region ?_
        refine L_r (r_fieldb Try.underlying75 rfl (show _ = some 1 from rfl) rfl rfl (show _ = 8 from rfl)) ?_
        refine L_r (r_lb rfl rfl) ?_
        refine L_r (r_fieldb Try.underlying41 rfl (show _ = some 1 from rfl) rfl rfl (show _ = 1 from rfl)) ?_
        refine L_r (r_lb rfl rfl) ?_
        refine L_r (r_geq rfl rfl) ?_
        refine L_nil ?_
        refine W_if rfl (fun h31 => ?_) (fun h31 => ?_)
        · refine W_seq ?_
          refine W_region ?_
          refine L_r (r_fieldb Try.underlying75 rfl (show _ = some 1 from rfl) rfl rfl (show _ = 9 from rfl)) ?_
          refine L_r (r_lb rfl rfl) ?_
          refine L_r (r_fieldb Try.underlying41 rfl (show _ = some 1 from rfl) rfl rfl (show _ = 2 from rfl)) ?_
          refine L_r (r_lb rfl rfl) ?_
          refine L_r (r_geq rfl rfl) ?_
          refine L_nil ?_
          refine W_if rfl (fun h36 => ?_) (fun h36 => ?_)
          · refine W_region ?_
            refine L_r (r_loadrow Try.underlying41 rfl rfl Bk.au (by first | rfl | assumption)) ?_
            refine L_r (r_mi rfl) ?_
            refine L_call (.plain rfl) rfl rfl (r_call Try.func35 rfl rfl rfl (by rfl)) (rend_walk base vl' vo1 vr1 (withR R1 i (wx x)) i (wx x) 3 { data := #[] } _ (hA3.nw Ch.au) hq3 (by omega) (by show R1.res.length ≤ _; omega) (by omega)) ?_
            rintro v39 w9 ⟨vl4, vr4, rfl, hA4, hw4, c9⟩
            have hz9 := c9.size
            have hown4 : ∀ j, Rown vl4 vo1 vr4 j → Rown vl vo vr j ∨ w0.heap.size ≤ j := fun j hj => (hw4 j hj).elim (fun e => hown3 j e) (fun e => .inr (by omega))
            clear g1 g2 g3
            have g1 := sl_one hA4.l.sl
            have g2 := sl_one hA4.o.sl
            have g3 := sl_one hA4.r.sl
            clear hRx hvlx hvrx
            obtain ⟨Rx, hRx⟩ : ∃ y, y = endR (withR R1 i (wx x)) i (wx x) 3 { data := #[] } := ⟨_, rfl⟩
            obtain ⟨vlx, hvlx⟩ : ∃ y, y = vl4 := ⟨_, rfl⟩
            obtain ⟨vrx, hvrx⟩ : ∃ y, y = vr4 := ⟨_, rfl⟩
            have hnb4 := hA4.nb (Bk.au : Bk w9 b1 ((withR R1 i (wx x)).row vl' vo1 vr1) 41) (by decide) (by decide) (by decide)
            refine L_storerow (.plain rfl) rfl rfl Bk.au (by first | rfl | (simp; done) | assumption) (by first | rfl | assumption) (by first | exact six_one h1 h2 h3 | exact six_one k1 k2 k3 | exact six_one g1 g2 g3 | rfl | (simp [Value.oneCell']; done)) (fun w10 hb10 hs10 c10 => ?_)
            have hA5 := hA4.ch (w' := w10) (X := fun j => j = b1) Ch.au hnb4
            refine L_nil ?_
            refine ⟨⟨rfl, rfl, rfl, trivial⟩, Rx, vlx, vox, vrx, trivial, ?_⟩
            subst hRx hvlx hvox hvrx
            rw [rtickN_next, ← hRi]
            first
            | exact ⟨(rtick1_ended hx (by simpa using h18)).symm, hA.nw Ch.au, Bk.au, hown, Bk.au, Ch.au⟩
            | exact ⟨(rtick1_wait hx (by simpa using h18) (by omega)).symm, hA3.nw Ch.au, Bk.au, hown3, Bk.au, Ch.au⟩
            | exact ⟨(rtick1_end hx (by simpa using h18) (by omega) (by omega)).symm, hA5.nw Ch.au, Bk.au, hown4, Bk.au, Ch.au⟩
            | exact ⟨(rtick1_ask hx (by simpa using h18) (by omega) (by omega)).symm, hA5.nw Ch.au, Bk.au, hown4, Bk.au, Ch.au⟩
          · refine W_region ?_
            refine L_r (r_loadrow Try.underlying41 rfl rfl Bk.au (by first | rfl | assumption)) ?_
            refine L_r (r_mi rfl) ?_
            refine L_call (.plain rfl) rfl rfl (r_call Try.func33 rfl rfl rfl (by rfl)) (rask_walk base vl' vo1 vr1 (withR R1 i (wx x)) i (wx x) _ (hA3.nw Ch.au) hq3 (by omega) (by show R1.out.length ≤ _; omega) (by show 0 ≤ x.asks ∧ x.asks ≤ 1000000; omega) (by omega)) ?_
            rintro v42 w11 ⟨vl4, vo4, rfl, hA4, hw4, c11⟩
            have hz11 := c11.size
            have hown4 : ∀ j, Rown vl4 vo4 vr1 j → Rown vl vo vr j ∨ w0.heap.size ≤ j := fun j hj => (hw4 j hj).elim (fun e => hown3 j e) (fun e => .inr (by omega))
            clear g1 g2 g3
            have g1 := sl_one hA4.l.sl
            have g2 := sl_one hA4.o.sl
            have g3 := sl_one hA4.r.sl
            clear hRx hvlx hvox
            obtain ⟨Rx, hRx⟩ : ∃ y, y = askR (withR R1 i (wx x)) i (wx x) := ⟨_, rfl⟩
            obtain ⟨vlx, hvlx⟩ : ∃ y, y = vl4 := ⟨_, rfl⟩
            obtain ⟨vox, hvox⟩ : ∃ y, y = vo4 := ⟨_, rfl⟩
            have hnb4 := hA4.nb (Bk.au : Bk w11 b1 ((withR R1 i (wx x)).row vl' vo1 vr1) 41) (by decide) (by decide) (by decide)
            refine L_storerow (.plain rfl) rfl rfl Bk.au (by first | rfl | (simp; done) | assumption) (by first | rfl | assumption) (by first | exact six_one h1 h2 h3 | exact six_one k1 k2 k3 | exact six_one g1 g2 g3 | rfl | (simp [Value.oneCell']; done)) (fun w12 hb12 hs12 c12 => ?_)
            have hA5 := hA4.ch (w' := w12) (X := fun j => j = b1) Ch.au hnb4
            refine L_nil ?_
            refine ⟨⟨rfl, rfl, rfl, trivial⟩, Rx, vlx, vox, vrx, trivial, ?_⟩
            subst hRx hvlx hvox hvrx
            rw [rtickN_next, ← hRi]
            first
            | exact ⟨(rtick1_ended hx (by simpa using h18)).symm, hA.nw Ch.au, Bk.au, hown, Bk.au, Ch.au⟩
            | exact ⟨(rtick1_wait hx (by simpa using h18) (by omega)).symm, hA3.nw Ch.au, Bk.au, hown3, Bk.au, Ch.au⟩
            | exact ⟨(rtick1_end hx (by simpa using h18) (by omega) (by omega)).symm, hA5.nw Ch.au, Bk.au, hown4, Bk.au, Ch.au⟩
            | exact ⟨(rtick1_ask hx (by simpa using h18) (by omega) (by omega)).symm, hA5.nw Ch.au, Bk.au, hown4, Bk.au, Ch.au⟩
        · refine W_skip ?_
          refine ⟨⟨rfl, rfl, rfl, trivial⟩, Rx, vlx, vox, vrx, trivial, ?_⟩
          subst hRx hvlx hvox hvrx
          rw [rtickN_next, ← hRi]
          first
          | exact ⟨(rtick1_ended hx (by simpa using h18)).symm, hA.nw Ch.au, Bk.au, hown, Bk.au, Ch.au⟩
          | exact ⟨(rtick1_wait hx (by simpa using h18) (by omega)).symm, hA3.nw Ch.au, Bk.au, hown3, Bk.au, Ch.au⟩
          | exact ⟨(rtick1_end hx (by simpa using h18) (by omega) (by omega)).symm, hA5.nw Ch.au, Bk.au, hown4, Bk.au, Ch.au⟩
          | exact ⟨(rtick1_ask hx (by simpa using h18) (by omega) (by omega)).symm, hA5.nw Ch.au, Bk.au, hown4, Bk.au, Ch.au⟩
    rintro gcb1 w13 ⟨R2, vl2, vo2, vr2, -, hCb1⟩
    obtain ⟨hE2, hA2, hbR2, hown2, hbZ2, hnw2⟩ := hCb1
    have hz2 := hnw2.size
    refine W_region ?_
    refine L_r (r_mi rfl) ?_
    refine L_r (r_add rfl rfl (by first | exact wr_i64 (by omega) | rfl)) ?_
    refine L_r (r_ai rfl) ?_
    refine L_nil ?_
    refine ⟨⟨rfl, rfl, trivial⟩, _, ?_, i + 1, R2, vl2, vo2, vr2, rfl, ?_, rfl⟩
    · omega
    exact ⟨by omega, hE2, hA2.nw Ch.au, Bk.au, hown2, Bk.au, Ch.au⟩
  · refine W_exit ?_
    repeat (first | refine blk_hit ?_ | refine blk_miss rfl ?_)
    refine W_seq ?_
    have e : i = R.L.length := by omega
    have eR : R1 = rtick R := by rw [hRi, e]; rfl
    refine W_region ?_
    refine L_r (r_loadrow Try.underlying41 rfl rfl Bk.au (by first | rfl | assumption)) ?_
    have hA9 := hA.nw (w' := w3) Ch.au
    have hnb9 := hA9.nb hbZ (by decide) (by decide) (by decide)
    refine L_storerow (.plain rfl) rfl rfl Bk.au (by first | rfl | (simp; done) | assumption) (by first | rfl | assumption) (by first | exact six_one h1 h2 h3 | exact six_one k1 k2 k3 | exact six_one g1 g2 g3 | rfl | (simp [Value.oneCell']; done)) (fun w14 hb14 hs14 c14 => ?_)
    refine L_nil ?_
    refine W_ret ?_
    refine r_ret_row rfl rfl Try.underlying41 rfl Bk.au (by first | rfl | assumption) ?_
    subst eR
    exact ⟨vl1, vo1, vr1, rfl, hA9.ch (X := fun j => j = b2) Ch.au hnb9, hown, Ch.au⟩
end Go.Proofs.Ytjjddbicggfgnaa

