/- A caller: time for one call. -/
import Derived.Test.YtjjddbicggfgnaaCalE
namespace Go.Proofs.Ytjjddbicggfgnaa
open Go Go.RowKit
set_option linter.unusedVariables false
set_option linter.unusedSimpArgs false
set_option maxRecDepth 100000
variable {base : Nat} {F : Nat → Prop} {w w' : World} {b bm : Nat} {vo vr : Value} {g : Int → Nat} {C : Cal}
theorem tick1_wait {k : Int} {o : Opn} (h : mget C.op k = some o) (h1 : o.waited + 1 < C.wait) : tick1 C k = { C with op := mupd C.op k (waitO o) } := by
  unfold tick1; rw [h]; exact if_pos h1
theorem tick1_end {k : Int} {o : Opn} (h : mget C.op k = some o) (h1 : ¬ o.waited + 1 < C.wait) (h2 : C.most ≤ o.asks) : tick1 C k = endC C k 3 { data := #[] } := by
  unfold tick1; rw [h]; exact (if_neg h1).trans (if_pos h2)
theorem tick1_ask {k : Int} {o : Opn} (h : mget C.op k = some o) (h1 : ¬ o.waited + 1 < C.wait) (h2 : ¬ C.most ≤ o.asks) : tick1 C k = ask1 C k o := by
  unfold tick1; rw [h]; exact (if_neg h1).trans (if_neg h2)
theorem CalAt.waited {k : Int} {o o' : Opn} (h : CalAt base F w b bm vo vr g C) (hk : mget C.op k = some o) (c : Ch (fun j => j = g k) w w') (hk' : Bk w' (g k) o'.row 69) :
    CalAt base F w' b bm vo vr g { C with op := mupd C.op k o' } := by
  have hkm := mget_some hk
  have hnk := h.nec hkm
  refine ⟨h.bk.ch c (fun e => hnk.1 e.symm), by show Mp _ _ _ _ (pm g (mupd C.op k o')); rw [mupd_pm]; exact h.mp.ch c (fun e => hnk.2.1 e.symm), fun p hp => ?_, fun p hp q hq e => ?_, h.ow.to fun i hi => Sm.step c (fun _ e => by have e' : i = g k := e; rw [e'] at hi; exact hnk.2.2.1 hi) (Sm.refl _ _), h.wr.to fun i hi => Sm.step c (fun _ e => by have e' : i = g k := e; rw [e'] at hi; exact hnk.2.2.2 hi) (Sm.refl _ _), h.fb, h.fm, h.fo, h.fr, fun p hp => ?_, fun j hj => ⟨(h.fF j hj).1, Nat.lt_of_lt_of_le (h.fF j hj).2 c.size⟩⟩
  · rcases mupd_mem hp with rfl | ⟨hp, hne⟩
    · exact hk'
    · exact (h.cl p hp).ch c (fun e => hne (h.inj p hp _ hkm e))
  · have f : ∀ p ∈ mupd C.op k o', ∃ o', (p.1, o') ∈ C.op := fun p hp => by
      rcases mupd_mem hp with rfl | ⟨hp, hne⟩
      · exact ⟨_, hkm⟩
      · exact ⟨_, hp⟩
    obtain ⟨x, hx⟩ := f p hp
    obtain ⟨y, hy⟩ := f q hq
    exact h.inj (p.1, x) hx (q.1, y) hy e
  · rcases mupd_mem hp with rfl | ⟨hp, hne⟩
    · exact h.fc (k, o) hkm
    · exact h.fc p hp
theorem CalAt.ext_ (h : CalAt base F w' b bm vo vr g C) (hB : ∀ j, ext F w w' j → base ≤ j ∧ j < w'.heap.size) : CalAt base (ext F w w') w' b bm vo vr g C := h.wid (fun j hj => .inl hj) hB
theorem ext_ok (hF : ∀ j, F j → base ≤ j ∧ j < w.heap.size) (hs : w.heap.size ≤ w'.heap.size) (hb : base ≤ w.heap.size) : ∀ j, ext F w w' j → base ≤ j ∧ j < w'.heap.size := by
  rintro j (h | h)
  · exact ⟨(hF j h).1, Nat.lt_of_lt_of_le (hF j h).2 hs⟩
  · exact ⟨Nat.le_trans hb h.1, h.2⟩
theorem ext_le {w1 : World} (hs : w.heap.size ≤ w1.heap.size) : ∀ j, ext F w1 w' j → ext F w w' j := by
  rintro j (h | h)
  · exact .inl h
  · exact .inr ⟨Nat.le_trans hs h.1, h.2⟩
theorem end_tick (base : Nat) (F : Nat → Prop) (b bm : Nat) (vo vr : Value) (g : Int → Nat) (C : Cal) (k : Int) (o : Opn) (w0 : World) (hC : CalAt base F w0 b bm vo vr g { C with op := mupd C.op k o }) (hl : C.op.length ≤ 100000) (hrl : C.res.length ≤ 1000000) (hbs : base ≤ w0.heap.size) :
    Does Try.prog 31 #[.pointer (some ⟨b, 0, none⟩), .int .u64 k, .int .i64 3, .string { data := #[] }] w0 (fun r w' => ∃ vr', r = .tuple #[] ∧ CalAt base (ext F w0 w') w' b bm vo vr' g (endC C k 3 { data := #[] }) ∧ CalC base F w0 w') := by
  have h := end_walk base F b bm vo vr g { C with op := mupd C.op k o } k 3 { data := #[] } w0 hC (by rw [mupd_len]; exact hl) hrl hbs
  rw [end_wait] at h
  exact h
theorem ask_tick (base : Nat) (F : Nat → Prop) (b bm q : Nat) (vo vr : Value) (g : Int → Nat) (C : Cal) (k : Int) (o : Opn) (w0 : World) (hC : CalAt base F w0 b bm vo vr g { C with op := mupd C.op k (waitO o) }) (hA : C.Asc) (hk : mget C.op k = some o) (hq : q = g k) (ha : 0 ≤ o.asks ∧ o.asks ≤ 1000000) (hl : C.op.length ≤ 100000) (hol : C.out.length ≤ 10000000) (hbs : base ≤ w0.heap.size) :
    Does Try.prog 27 #[.pointer (some ⟨b, 0, none⟩), .pointer (some ⟨q, 0, none⟩)] w0 (fun r w' => ∃ vo', r = .tuple #[] ∧ CalAt base (ext F w0 w') w' b bm vo' vr g (ask1 C k o) ∧ CalC base F w0 w') := by
  have h := ask_walk base F b bm q vo vr g { C with op := mupd C.op k (waitO o) } k (waitO o) w0 hC (hA.upd hk) (by show mget (mupd C.op k (waitO o)) k = _; rw [mget_mupd, if_pos rfl, hk]; rfl) hq ha (by rw [mupd_len]; exact hl) hol hbs
  rw [ask_wait] at h
  exact h
theorem tk_walk (base : Nat) (F : Nat → Prop) (b bm q bt : Nat) (vo vr : Value) (g : Int → Nat) (C : Cal) (k : Int) (o : Opn) (w0 : World) (hC : CalAt base F w0 b bm vo vr g C) (hG : C.Good) (hk : mget C.op k = some o) (hq : q = g k) (hbt : Bk w0 bt #[.pointer (some ⟨b, 0, none⟩)] 22) (hl : C.op.length ≤ 100000) (hol : C.out.length ≤ 10000000) (hrl : C.res.length ≤ 1000000) (hbs : base ≤ w0.heap.size) : Does Try.prog 30 #[.pointer (some ⟨q, 0, none⟩), .pointer (some ⟨bt, 0, none⟩)] w0 (fun r w' => ∃ vo' vr', r = .tuple #[] ∧ CalAt base (ext F w0 w') w' b bm vo' vr' g (tick1 C k) ∧ CalC base F w0 w') := by
  have hbk := hC.bk
  have hkm := mget_some hk
  have hcl : Bk w0 q o.row 69 := by rw [hq]; exact hC.cl _ hkm
  have hnk := hC.nec hkm
  rw [show g (k, o).1 = q from hq.symm] at hnk
  have hne := hnk.1
  have hnt : q ≠ bt := Bk.ne hcl hbt (by decide)
  have hnb : b ≠ bt := Bk.ne hbk hbt (by decide)
  have hlb := hbk.lt
  have hlq := hcl.lt
  have hlt' := hbt.lt
  have hcn : 0 ≤ o.waited ∧ o.waited < C.wait ∧ 0 ≤ o.asks ∧ o.asks ≤ C.most := hG.cnt _ hkm
  have hwt := hG.wt
  have hsq : o.m.seq = k := hG.seq _ hkm
  have hw1 : (waitO o).waited = o.waited + 1 := rfl
  have hw2 : (waitO o).asks = o.asks := rfl
  refine fn_of (n := 40) (args := [.pointer (some ⟨q, 0, none⟩), .pointer (some ⟨bt, 0, none⟩)]) Try.func30 rfl rfl rfl ?_
  refine W_seq ?_
  refine W_region ?_
  refine L_r (r_mp rfl) ?_
  refine L_r (r_nilCheck rfl) ?_
  refine L_r (r_fieldb Try.underlying69 rfl (show _ = some 1 from rfl) rfl rfl (show _ = 8 from rfl)) ?_
  refine L_r (r_lb rfl rfl) ?_
  refine L_r (r_add rfl rfl (by first | exact wr_i64 (by omega) | rfl)) ?_
  refine L_r (r_nilCheck rfl) ?_
  refine L_r (r_fieldb Try.underlying69 rfl (show _ = some 1 from rfl) rfl rfl (show _ = 8 from rfl)) ?_
  refine L_set (.plain rfl) rfl Bk.au (r_store (v := .int _ _) rfl rfl rfl rfl Bk.au (by first | decide | (simp; done) | omega)) (fun w1 hb1 hs1 c1 => ?_)
  try simp only [List.setIfInBounds_toArray, List.set_cons_zero, List.set_cons_succ] at hb1
  refine L_nil ?_
  refine W_block ?_
  refine W_seq ?_
  have hC1 : CalAt base F w1 b bm vo vr g { C with op := mupd C.op k (waitO o) } := hC.waited hk (by rw [← hq]; (exact Ch.au)) (by rw [← hq]; (exact Bk.au))
  have hcc : True ∧ CalC base F w0 w1 := by have h : Ch (fun j => j = q) w0 w1 := by { (exact Ch.au) }; exact ⟨trivial, h.mono fun i _ e => by { have e' : i = q := e; rw [e', hq]; exact ⟨(hC.fF _ (hC.fc _ hkm)).1, hC.fc _ hkm⟩ }⟩
  have hbw : Bk w1 q (waitO o).row 69 := Bk.au
  refine W_draw (fun W => Bk W b (C.row bm vo vr) 65 ∧ Bk W q (waitO o).row 69 ∧ Bk W bt #[.pointer (some ⟨b, 0, none⟩)] 22) 10 (m := 10) (by kernel_rfl) rfl (fun w2 c2 hs2 => ?_)
  refine held (by exact ⟨Bk.au, Bk.au, Bk.au⟩) (fun hS => ?_)
  refine D_t 0 rfl (fun W hW => r_mp rfl) ?_
  refine D_t 1 rfl (fun W hW => r_nilCheck rfl) ?_
  refine D_t 2 rfl (fun W hW => r_fieldb Try.underlying69 rfl (show _ = some 1 from rfl) rfl rfl (show _ = 8 from rfl)) ?_
  refine D_t 3 rfl (fun W hW => r_loadb rfl rfl (by first | exact hW.1 | exact hW.2.1 | exact hW.2.2) (by first | assumption | (conv => lhs; simp only [List.getElem?_toArray, List.getElem?_cons_succ, List.getElem?_cons_zero]))) ?_
  refine D_t 4 rfl (fun W hW => r_loadb rfl rfl (by first | exact hW.1 | exact hW.2.1 | exact hW.2.2) (by first | assumption | (conv => lhs; simp only [List.getElem?_toArray, List.getElem?_cons_succ, List.getElem?_cons_zero]))) ?_
  refine D_t 5 rfl (fun W hW => r_nilCheck rfl) ?_
  refine D_t 6 rfl (fun W hW => r_fieldb Try.underlying65 rfl (show _ = some 1 from rfl) rfl rfl (show _ = 1 from rfl)) ?_
  refine D_t 7 rfl (fun W hW => r_loadb rfl rfl (by first | exact hW.1 | exact hW.2.1 | exact hW.2.2) (by first | assumption | (conv => lhs; simp only [List.getElem?_toArray, List.getElem?_cons_succ, List.getElem?_cons_zero]))) ?_
  refine D_t 8 rfl (fun W hW => r_lss rfl rfl) ?_
  refine D_t 9 rfl (fun W hW => r_ab rfl) ?_
  refine D_done (by kernel_rfl) ?_
  refine W_if rfl (fun h13 => ?_) (fun h13 => ?_)
  · refine W_skip ?_
    refine ret0 rfl  ?_
    have hcc2 := hcc.2
    first
    | (refine ⟨vo, vr, rfl, ?_, Ch.au⟩
       rw [tick1_wait hk (by omega)]
       exact (hC1.nw Ch.au).ext_ (ext_ok hC.fF (by omega) hbs))
    | (refine ⟨vo, vr', rfl, ?_, Ch.au⟩
       rw [tick1_end hk (by omega) (by omega)]
       exact hC2.wid (ext_le (by omega)) (ext_ok hC.fF (by omega) hbs))
    | (refine ⟨vo', vr, rfl, ?_, Ch.au⟩
       rw [tick1_ask hk (by omega) (by omega)]
       exact hC2.wid (ext_le (by omega)) (ext_ok hC.fF (by omega) hbs))
  · refine W_seq ?_
    refine W_draw (fun W => Bk W b (C.row bm vo vr) 65 ∧ Bk W q (waitO o).row 69 ∧ Bk W bt #[.pointer (some ⟨b, 0, none⟩)] 22) 10 (m := 10) (by kernel_rfl) rfl (fun w3 c3 hs3 => ?_)
    refine held (by exact ⟨Bk.au, Bk.au, Bk.au⟩) (fun hS => ?_)
    refine D_t 0 rfl (fun W hW => r_mp rfl) ?_
    refine D_t 1 rfl (fun W hW => r_nilCheck rfl) ?_
    refine D_t 2 rfl (fun W hW => r_fieldb Try.underlying69 rfl (show _ = some 1 from rfl) rfl rfl (show _ = 9 from rfl)) ?_
    refine D_t 3 rfl (fun W hW => r_loadb rfl rfl (by first | exact hW.1 | exact hW.2.1 | exact hW.2.2) (by first | assumption | (conv => lhs; simp only [List.getElem?_toArray, List.getElem?_cons_succ, List.getElem?_cons_zero]))) ?_
    refine D_t 4 rfl (fun W hW => r_loadb rfl rfl (by first | exact hW.1 | exact hW.2.1 | exact hW.2.2) (by first | assumption | (conv => lhs; simp only [List.getElem?_toArray, List.getElem?_cons_succ, List.getElem?_cons_zero]))) ?_
    refine D_t 5 rfl (fun W hW => r_nilCheck rfl) ?_
    refine D_t 6 rfl (fun W hW => r_fieldb Try.underlying65 rfl (show _ = some 1 from rfl) rfl rfl (show _ = 2 from rfl)) ?_
    refine D_t 7 rfl (fun W hW => r_loadb rfl rfl (by first | exact hW.1 | exact hW.2.1 | exact hW.2.2) (by first | assumption | (conv => lhs; simp only [List.getElem?_toArray, List.getElem?_cons_succ, List.getElem?_cons_zero]))) ?_
    refine D_t 8 rfl (fun W hW => r_geq rfl rfl) ?_
    refine D_t 9 rfl (fun W hW => r_ab rfl) ?_
    refine D_done (by kernel_rfl) ?_
    refine W_if rfl (fun h23 => ?_) (fun h23 => ?_)
    · refine W_draw (fun W => Bk W b (C.row bm vo vr) 65 ∧ Bk W q (waitO o).row 69 ∧ Bk W bt #[.pointer (some ⟨b, 0, none⟩)] 22) 6 (m := 7) (by kernel_rfl) rfl (fun w4 c4 hs4 => ?_)
      refine held (by exact ⟨Bk.au, Bk.au, Bk.au⟩) (fun hS => ?_)
      refine D_t 0 rfl (fun W hW => r_loadb rfl rfl (by first | exact hW.1 | exact hW.2.1 | exact hW.2.2) (by first | assumption | (conv => lhs; simp only [List.getElem?_toArray, List.getElem?_cons_succ, List.getElem?_cons_zero]))) ?_
      refine D_ev 1 (by kernel_rfl) rfl ?_
      refine L_r (r_mp rfl) ?_
      refine L_nil ?_
      refine heldK (by exact ⟨Bk.au, Bk.au, Bk.au⟩) (fun hS => ?_)
      refine D_ev 2 (by kernel_rfl) rfl ?_
      refine L_r (r_nilCheck rfl) ?_
      refine L_nil ?_
      refine heldK (by exact ⟨Bk.au, Bk.au, Bk.au⟩) (fun hS => ?_)
      refine D_ev 3 (by kernel_rfl) rfl ?_
      refine L_r (r_fieldb Try.underlying69 rfl (show _ = some 8 from rfl) rfl rfl (show _ = 0 from rfl)) ?_
      refine L_nil ?_
      refine heldK (by exact ⟨Bk.au, Bk.au, Bk.au⟩) (fun hS => ?_)
      refine D_ev 4 (by kernel_rfl) rfl ?_
      refine L_r (r_fieldb Try.underlying33 rfl (show _ = some 1 from rfl) rfl rfl (show _ = 2 from rfl)) ?_
      refine L_nil ?_
      refine heldK (by exact ⟨Bk.au, Bk.au, Bk.au⟩) (fun hS => ?_)
      refine D_t 5 rfl (fun W hW => r_loadb rfl rfl (by first | exact hW.1 | exact hW.2.1 | exact hW.2.2) (by first | assumption | (conv => lhs; simp only [List.getElem?_toArray, List.getElem?_cons_succ, List.getElem?_cons_zero]))) ?_
      rw [show (waitO o).m.seq = k from hsq]
      refine D_ev 6 (by kernel_rfl) rfl ?_
      refine L_call (.plain rfl) rfl rfl (r_call Try.func31 rfl rfl rfl (by rfl)) (end_tick base F b bm vo vr g C k (waitO o) _ (hC1.nw Ch.au) hl hrl (by omega)) ?_
      rintro v39 w5 ⟨vr', rfl, hC2, c5⟩
      have hz5 := c5.size
      refine L_nil ?_
      refine heldL ?_
      refine D_done (by kernel_rfl) ?_
      refine ret0 rfl  ?_
      have hcc2 := hcc.2
      first
      | (refine ⟨vo, vr, rfl, ?_, Ch.au⟩
         rw [tick1_wait hk (by omega)]
         exact (hC1.nw Ch.au).ext_ (ext_ok hC.fF (by omega) hbs))
      | (refine ⟨vo, vr', rfl, ?_, Ch.au⟩
         rw [tick1_end hk (by omega) (by omega)]
         exact hC2.wid (ext_le (by omega)) (ext_ok hC.fF (by omega) hbs))
      | (refine ⟨vo', vr, rfl, ?_, Ch.au⟩
         rw [tick1_ask hk (by omega) (by omega)]
         exact hC2.wid (ext_le (by omega)) (ext_ok hC.fF (by omega) hbs))
    · refine W_region ?_
      refine L_r (r_lb rfl rfl) ?_
      refine L_r (r_mp rfl) ?_
      refine L_call (.plain rfl) rfl rfl (r_call Try.func27 rfl rfl rfl (by rfl)) (ask_tick base F b bm q vo vr g C k o _ (hC1.nw Ch.au) hG.toAsc hk hq (by omega) hl hol (by omega)) ?_
      rintro v12 w6 ⟨vo', rfl, hC2, c6⟩
      have hz6 := c6.size
      refine L_nil ?_
      refine ret0 rfl  ?_
      have hcc2 := hcc.2
      first
      | (refine ⟨vo, vr, rfl, ?_, Ch.au⟩
         rw [tick1_wait hk (by omega)]
         exact (hC1.nw Ch.au).ext_ (ext_ok hC.fF (by omega) hbs))
      | (refine ⟨vo, vr', rfl, ?_, Ch.au⟩
         rw [tick1_end hk (by omega) (by omega)]
         exact hC2.wid (ext_le (by omega)) (ext_ok hC.fF (by omega) hbs))
      | (refine ⟨vo', vr, rfl, ?_, Ch.au⟩
         rw [tick1_ask hk (by omega) (by omega)]
         exact hC2.wid (ext_le (by omega)) (ext_ok hC.fF (by omega) hbs))
end Go.Proofs.Ytjjddbicggfgnaa

