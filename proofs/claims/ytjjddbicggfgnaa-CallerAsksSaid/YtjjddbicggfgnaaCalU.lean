/- A caller: a tick, a call, a reply. -/
import Derived.Test.YtjjddbicggfgnaaCalI
namespace Go.Proofs.Ytjjddbicggfgnaa
open Go Go.RowKit
set_option linter.unusedVariables false
set_option linter.unusedSimpArgs false
set_option maxRecDepth 100000
variable {base : Nat} {F : Nat → Prop} {w w' : World} {b bm : Nat} {vo vr : Value} {g : Int → Nat} {C : Cal}
theorem CalAt.insert {k : Int} {o : Opn} {q : Nat} (h : CalAt base F w b bm vo vr g C) (hn : ∀ p ∈ C.op, p.1 ≠ k) (c : Ch (fun j => j = b ∨ j = bm) w w') (hbs : base ≤ w.heap.size) (hq : w.heap.size ≤ q)
    (hb : Bk w' b (({ C with last := k, op := C.op ++ [(k, o)] } : Cal).row bm vo vr) 65) (hm : Mp (.int .u64) idv w' bm (mset (pm g C.op) k (pt q))) (hk : Bk w' q o.row 69) :
    CalAt base (ext F w w') w' b bm vo vr (gset g k q) { C with last := k, op := C.op ++ [(k, o)] } ∧ CalC base F w w' := by
  have hnv := h.nov
  have hgs : ∀ p ∈ C.op, gset g k q p.1 = g p.1 := fun p hp => if_neg (hn p hp)
  have hgk : gset g k q k = q := if_pos rfl
  have hlt : ∀ p ∈ C.op, g p.1 < w.heap.size := fun p hp => (h.fF _ (h.fc p hp)).2
  refine ⟨⟨hb, ?_, fun p hp => ?_, fun p hp r hr e => ?_, h.ow.to fun i hi => Sm.step c (fun _ e => ?_) (Sm.refl _ _), h.wr.to fun i hi => Sm.step c (fun _ e => ?_) (Sm.refl _ _), .inl h.fb, .inl h.fm, fun j hj => .inl (h.fo j hj), fun j hj => .inl (h.fr j hj), fun p hp => ?_, ext_ok h.fF c.size hbs⟩, c.mono fun i _ e => ?_⟩
  · show Mp _ _ _ _ (pm (gset g k q) (C.op ++ [(k, o)]))
    rw [← mset_pm (mget_none hn)]
    exact hm
  · rcases List.mem_append.1 hp with hp | hp
    · have hnn := h.nec hp
      rw [hgs p hp]
      refine (h.cl p hp).ch c (fun e => ?_)
      rcases e with e | e
      · exact hnn.1 e
      · exact hnn.2.1 e
    · rw [List.mem_singleton] at hp; subst hp
      show Bk w' (gset g k q k) _ _
      rw [hgk]; exact hk
  · rcases List.mem_append.1 hp with hp | hp
    · rw [hgs p hp] at e
      rcases List.mem_append.1 hr with hr | hr
      · rw [hgs r hr] at e; exact h.inj p hp r hr e
      · rw [List.mem_singleton] at hr; subst hr
        have e' : g p.1 = gset g k q k := e
        rw [hgk] at e'
        have := hlt p hp; omega
    · rw [List.mem_singleton] at hp; subst hp
      rcases List.mem_append.1 hr with hr | hr
      · rw [hgs r hr] at e
        have e' : gset g k q k = g r.1 := e
        rw [hgk] at e'
        have := hlt r hr; omega
      · rw [List.mem_singleton] at hr; subst hr; rfl
  · rcases e with e | e
    · rw [e] at hi; exact hnv.1 hi
    · rw [e] at hi; exact hnv.2.1 hi
  · rcases e with e | e
    · rw [e] at hi; exact hnv.2.2.1 hi
    · rw [e] at hi; exact hnv.2.2.2.1 hi
  · rcases List.mem_append.1 hp with hp | hp
    · rw [hgs p hp]; exact .inl (h.fc p hp)
    · rw [List.mem_singleton] at hp; subst hp
      show ext F w w' (gset g k q k)
      rw [hgk]; exact .inr ⟨hq, hk.lt⟩
  · have hi : F i := by
      rcases e with e | e
      · rw [e]; exact h.fb
      · rw [e]; exact h.fm
    exact ⟨(h.fF i hi).1, hi⟩
theorem tick_walk (base : Nat) (F : Nat → Prop) (b bm : Nat) (vo vr : Value) (g : Int → Nat) (C : Cal) (w0 : World) (hC : CalAt base F w0 b bm vo vr g C) (hG : C.Good) (hl : C.op.length ≤ 50000) (hol : C.out.length ≤ 9000000) (hrl : C.res.length ≤ 900000) (hbs : base ≤ w0.heap.size) : Does Try.prog 14 #[.pointer (some ⟨b, 0, none⟩)] w0 (fun r w' => ∃ vo' vr', r = .tuple #[] ∧ CalAt base (ext F w0 w') w' b bm vo' vr' g (tick C) ∧ CalC base F w0 w') := by
  have hbk := hC.bk
  refine fn_of (n := 5) (args := [.pointer (some ⟨b, 0, none⟩)]) Try.func14 rfl rfl rfl ?_
  refine W_seq ?_
  refine W_region ?_
  refine L_new (.plain rfl) rfl rfl (r_box1 (v := .pointer _) rfl rfl) (fun w1 b1 hb1 eb1 hs1 c1 => ?_)
  refine L_nil ?_
  refine W_region ?_
  refine L_r (r_lb rfl rfl) ?_
  refine L_r (r_funcL (l1 := []) (l2 := [.pointer _]) rfl rfl) ?_
  refine L_call (.plain rfl) rfl rfl (r_call Try.func29 rfl rfl rfl (by rfl)) (each_walk base F b bm b1 vo vr g C _ (hC.nw Ch.au) hG Bk.au (fun h => by have := (hC.fF _ h).2; omega) hl hol hrl (by omega)) ?_
  rintro v4 w2 ⟨vo', vr', rfl, hC2, c2⟩
  have hz2 := c2.size
  refine L_nil ?_
  refine ret0 rfl  ?_
  exact ⟨vo', vr', rfl, hC2.wid (ext_le (by omega)) (ext_ok hC.fF (by omega) hbs), Ch.au⟩
theorem callC_full {object : Int} {method body : ByteArray} (h : 1024 ≤ C.op.length) : callC C object method body = (C, 0, 150) := if_pos h
theorem callC_bad {object : Int} {method body : ByteArray} (h : ¬ 1024 ≤ C.op.length) (h2 : checkC (newM C object method body) ≠ 0) : callC C object method body = (C, 0, checkC (newM C object method body)) := (if_neg h).trans (if_pos h2)
abbrev insC (C : Cal) (object : Int) (method body : ByteArray) : Cal := { C with last := C.last + 1, op := C.op ++ [(C.last + 1, ⟨newM C object method body, 0, 0⟩)] }
theorem callC_ok {object : Int} {method body : ByteArray} (h : ¬ 1024 ≤ C.op.length) (h2 : checkC (newM C object method body) = 0) : callC C object method body = (ask1 (insC C object method body) (C.last + 1) ⟨newM C object method body, 0, 0⟩, C.last + 1, 0) := (if_neg h).trans (if_neg (fun k => k h2))
theorem call_walk (base : Nat) (F : Nat → Prop) (b bm : Nat) (vo vr : Value) (g : Int → Nat) (C : Cal) (object : Int) (method body : ByteArray) (w0 : World) (hC : CalAt base F w0 b bm vo vr g C) (hG : C.Good) (hll : C.last + 1 ≤ 1000000) (hl : C.op.length ≤ 50000) (hol : C.out.length ≤ 9000000) (hrl : C.res.length ≤ 900000) (hbs : base ≤ w0.heap.size) : Does Try.prog 11 #[.pointer (some ⟨b, 0, none⟩), .int .u64 object, .string method, .string body] w0 (fun r w' => ∃ vo' g', r = .tuple #[.int .u64 (callC C object method body).2.1, .int .i64 (callC C object method body).2.2] ∧ CalAt base (ext F w0 w') w' b bm vo' vr g' (callC C object method body).1 ∧ CalC base F w0 w') := by
  have hbk := hC.bk
  have hmp := hC.mp
  have hne := hC.ne
  have hpl := pm_len g C.op
  have hlb := hbk.lt
  have hlm := hmp.lt
  have hls := hG.lst
  refine fn_of (n := 63) (args := [.pointer (some ⟨b, 0, none⟩), .int .u64 object, .string method, .string body]) Try.func11 rfl rfl rfl ?_
  refine W_seq ?_
  refine W_region ?_
  refine L_r (r_ai rfl) ?_
  refine L_r (r_ai rfl) ?_
  refine L_nil ?_
  refine W_seq ?_
  refine W_seq ?_
  refine W_region ?_
  refine L_r (r_mp rfl) ?_
  refine L_r (r_nilCheck rfl) ?_
  refine L_r (r_fieldb Try.underlying65 rfl (show _ = some 1 from rfl) rfl rfl (show _ = 4 from rfl)) ?_
  refine L_r (r_lb rfl rfl) ?_
  refine L_r (r_lenMap Try.underlying63 rfl Mp.au) ?_
  refine L_r (r_geq rfl rfl) ?_
  refine L_nil ?_
  refine W_if rfl (fun h18 => ?_) (fun h18 => ?_)
  · refine W_seq ?_
    refine W_region ?_
    refine L_r (r_ai rfl) ?_
    refine L_r (r_ai rfl) ?_
    refine L_nil ?_
    refine W_ret ?_
    refine ret2 (u := .int _ _) (v := .int _ _) rfl rfl rfl ?_
    first
    | (rw [callC_full (by omega)]
       exact ⟨vo, g, rfl, (hC.nw Ch.au).ext_ (ext_ok hC.fF (by omega) hbs), Ch.au⟩)
    | (rw [callC_bad (by omega) h34]
       exact ⟨vo, g, rfl, (hC.nw Ch.au).ext_ (ext_ok hC.fF (by omega) hbs), Ch.au⟩)
    | (rw [callC_ok (by omega) h34]
       have hcf2 := hcf.2
       exact ⟨vo', gset g (C.last + 1) b46, rfl, hC2.wid (ext_ext hF1' hzi (by omega)) (ext_ok hC.fF (by omega) hbs), Ch.au⟩)
  · refine W_skip ?_
    refine W_seq ?_
    refine W_draw (fun W => Bk W b (C.row bm vo vr) 65) 14 (m := 15) (by kernel_rfl) rfl (fun w1 c1 hs1 => ?_)
    refine held Bk.au (fun hS => ?_)
    refine D_t 0 rfl (fun W hW => r_mp rfl) ?_
    refine D_t 1 rfl (fun W hW => r_nilCheck rfl) ?_
    refine D_t 2 rfl (fun W hW => r_fieldb Try.underlying65 rfl (show _ = some 1 from rfl) rfl rfl (show _ = 0 from rfl)) ?_
    refine D_t 3 rfl (fun W hW => r_loadb rfl rfl (by exact hW) (by first | assumption | (conv => lhs; simp only [List.getElem?_toArray, List.getElem?_cons_succ, List.getElem?_cons_zero]))) ?_
    refine D_t 4 rfl (fun W hW => r_mp rfl) ?_
    refine D_t 5 rfl (fun W hW => r_nilCheck rfl) ?_
    refine D_t 6 rfl (fun W hW => r_fieldb Try.underlying65 rfl (show _ = some 1 from rfl) rfl rfl (show _ = 3 from rfl)) ?_
    refine D_t 7 rfl (fun W hW => r_loadb rfl rfl (by exact hW) (by first | assumption | (conv => lhs; simp only [List.getElem?_toArray, List.getElem?_cons_succ, List.getElem?_cons_zero]))) ?_
    refine D_t 8 rfl (fun W hW => r_add rfl rfl (by first | exact wr_u64 (by omega) | rfl)) ?_
    refine D_t 9 rfl (fun W hW => r_mi rfl) ?_
    refine D_t 10 rfl (fun W hW => r_ms rfl) ?_
    refine D_t 11 rfl (fun W hW => r_ms rfl) ?_
    refine D_t 12 rfl (fun W hW => r_build1 (pl := [(0, 1), (1, 1), (2, 1), (3, 1), (4, 1), (5, 1), (6, 1), (7, 1)]) (vs := [(1, .int _ _), (2, .int _ _), (3, .int _ _), (4, .int _ _), (5, .string _), (7, .string _)]) (cells := [_, _, _, _, _, _, _, _]) Try.underlying33 rfl rfl (by rfl) rfl (by rfl)) ?_
    refine D_ev 13 (by kernel_rfl) rfl ?_
    refine L_new (.plain rfl) rfl rfl (r_alloca rfl) (fun w2 b10 hb10 eb2 hs2 c2 => ?_)
    refine L_nil ?_
    refine heldK Bk.au (fun hS => ?_)
    refine D_ev 14 (by kernel_rfl) rfl ?_
    refine L_storerow (.plain rfl) rfl rfl Bk.au (by first | rfl | (simp; done) | assumption) (by first | rfl | assumption) (by first | rfl | (simp [Value.oneCell']; done) | assumption) (fun w3 hb3 hs3 c3 => ?_)
    refine L_nil ?_
    refine heldL ?_
    refine D_done (by kernel_rfl) ?_
    refine W_seq ?_
    refine W_seq ?_
    refine W_region ?_
    refine L_r (r_loadrow Try.underlying33 rfl rfl Bk.au (by first | rfl | assumption)) ?_
    refine L_call (.plain rfl) rfl rfl (r_call Try.func26 rfl rfl rfl (by rfl)) (check_walk (newM C object method body) _) ?_
    rintro v33 w4 ⟨rfl, c4⟩
    have hz4 := c4.size
    refine L_r (r_ai rfl) ?_
    refine L_nil ?_
    refine W_seq ?_
    refine W_region ?_
    refine L_r (r_mi rfl) ?_
    refine L_r (r_neq rfl rfl) ?_
    refine L_nil ?_
    refine W_if rfl (fun h35 => ?_) (fun h35 => ?_)
    · have h34 : checkC (newM C object method body) ≠ 0 := by first | assumption | omega
      refine W_seq ?_
      refine W_region ?_
      refine L_r (r_mi rfl) ?_
      refine L_r (r_ai rfl) ?_
      refine L_r (r_ai rfl) ?_
      refine L_nil ?_
      refine W_ret ?_
      refine ret2 (u := .int _ _) (v := .int _ _) rfl rfl rfl ?_
      first
      | (rw [callC_full (by omega)]
         exact ⟨vo, g, rfl, (hC.nw Ch.au).ext_ (ext_ok hC.fF (by omega) hbs), Ch.au⟩)
      | (rw [callC_bad (by omega) h34]
         exact ⟨vo, g, rfl, (hC.nw Ch.au).ext_ (ext_ok hC.fF (by omega) hbs), Ch.au⟩)
      | (rw [callC_ok (by omega) h34]
         have hcf2 := hcf.2
         exact ⟨vo', gset g (C.last + 1) b46, rfl, hC2.wid (ext_ext hF1' hzi (by omega)) (ext_ok hC.fF (by omega) hbs), Ch.au⟩)
    · have h34 : checkC (newM C object method body) = 0 := by first | omega | (apply Classical.byContradiction; assumption)
      refine W_skip ?_
      refine W_seq ?_
      refine W_region ?_
      refine L_r (r_mp rfl) ?_
      refine L_r (r_nilCheck rfl) ?_
      refine L_r (r_fieldb Try.underlying65 rfl (show _ = some 1 from rfl) rfl rfl (show _ = 3 from rfl)) ?_
      refine L_r (r_lb rfl rfl) ?_
      refine L_r (r_add rfl rfl (by first | exact wr_u64 (by omega) | rfl)) ?_
      refine L_r (r_nilCheck rfl) ?_
      refine L_r (r_fieldb Try.underlying65 rfl (show _ = some 1 from rfl) rfl rfl (show _ = 3 from rfl)) ?_
      refine L_set (.plain rfl) rfl Bk.au (r_store (v := .int _ _) rfl rfl rfl rfl Bk.au (by first | decide | (simp; done) | omega)) (fun w5 hb5 hs5 c5 => ?_)
      try simp only [List.setIfInBounds_toArray, List.set_cons_zero, List.set_cons_succ] at hb5
      refine L_nil ?_
      refine W_seq ?_
      refine W_region ?_
      refine L_r (r_loadrow Try.underlying33 rfl rfl Bk.au (by first | rfl | assumption)) ?_
      refine L_r (r_buildN (pl := [(0, 8), (8, 1), (9, 1)]) (vs := [(0, .agg #[_, _, _, _, _, _, _, _])]) (cells := [_, _, _, _, _, _, _, _, _, _]) Try.underlying69 rfl rfl (by rfl) (by rfl)) ?_
      refine L_new (.plain rfl) rfl rfl (r_boxa rfl) (fun w6 b46 hb46 eb6 hs6 c6 => ?_)
      refine L_r (r_ap rfl) ?_
      refine L_nil ?_
      refine W_seq ?_
      refine W_draw (fun W => Bk W b (({ C with last := C.last + 1 } : Cal).row bm vo vr) 65 ∧ Mp (.int .u64) idv W bm (pm g C.op)) 9 (m := 10) (by kernel_rfl) rfl (fun w7 c7 hs7 => ?_)
      refine held (by exact ⟨Bk.au, Mp.au⟩) (fun hS => ?_)
      refine D_t 0 rfl (fun W hW => r_mp rfl) ?_
      refine D_t 1 rfl (fun W hW => r_nilCheck rfl) ?_
      refine D_t 2 rfl (fun W hW => r_fieldb Try.underlying65 rfl (show _ = some 1 from rfl) rfl rfl (show _ = 4 from rfl)) ?_
      refine D_t 3 rfl (fun W hW => r_loadb rfl rfl (by first | exact hW.1 | exact hW.2) (by first | assumption | (conv => lhs; simp only [List.getElem?_toArray, List.getElem?_cons_succ, List.getElem?_cons_zero]))) ?_
      refine D_t 4 rfl (fun W hW => r_mp rfl) ?_
      refine D_t 5 rfl (fun W hW => r_nilCheck rfl) ?_
      refine D_t 6 rfl (fun W hW => r_fieldb Try.underlying65 rfl (show _ = some 1 from rfl) rfl rfl (show _ = 3 from rfl)) ?_
      refine D_t 7 rfl (fun W hW => r_loadb rfl rfl (by first | exact hW.1 | exact hW.2) (by first | assumption | (conv => lhs; simp only [List.getElem?_toArray, List.getElem?_cons_succ, List.getElem?_cons_zero]))) ?_
      refine D_t 8 rfl (fun W hW => r_mp rfl) ?_
      refine D_ev 9 (by kernel_rfl) rfl ?_
      refine L_mapset (ke := .int .u64) (ve := idv) (_) (.pointer (some ⟨b46, 0, none⟩)) Try.underlying63 Try.underlying26 (fun _ => by first | trivial | rfl) (fun _ _ h => by cases h; rfl) (.plain rfl) rfl rfl rfl Mp.au (fun w8 hm8 hs8 c8 => ?_)
      refine L_nil ?_
      refine heldL ?_
      refine D_done (by kernel_rfl) ?_
      refine W_seq ?_
      have hins := hC.insert (w' := w8) (k := C.last + 1) (o := ⟨newM C object method body, 0, 0⟩) (q := b46) (fun p hp => by have := (hG.rng p hp).2; omega) Ch.au hbs (by omega) Bk.au Mp.au Bk.au
      have hzi : w0.heap.size ≤ (w8).heap.size := by omega
      obtain ⟨F1, hF1⟩ : ∃ X : Nat → Prop, X = ext F w0 w8 := ⟨_, rfl⟩
      have hF1' : ∀ j, F1 j → ext F w0 w8 j := fun j hj => by rw [← hF1]; exact hj
      rw [← hF1] at hins
      have hcc : True ∧ CalC base F w0 w8 := ⟨trivial, hins.2⟩
      refine W_region ?_
      refine L_r (r_mp rfl) ?_
      refine L_r (r_mp rfl) ?_
      refine L_call (.plain rfl) rfl rfl (r_call Try.func27 rfl rfl rfl (by rfl)) (ask_walk base F1 b bm b46 vo vr (gset g (C.last + 1) b46) (insC C object method body) (C.last + 1) ⟨newM C object method body, 0, 0⟩ _ hins.1 (hG.new_ hll object method body).toAsc (new_get hG.toAsc _) (if_pos rfl).symm (by show (0 : Int) ≤ 0 ∧ (0 : Int) ≤ 1000000; omega) (by show (C.op ++ [_]).length ≤ _; simp; omega) (by show C.out.length ≤ _; omega) (by omega)) ?_
      rintro v58 w9 ⟨vo', rfl, hC2, c9⟩
      have hz9 := c9.size
      have hbk2 := hC2.bk
      have hcf : True ∧ CalC base F w0 w9 := ⟨trivial, calc_ext hcc.2 c9 hF1'⟩
      refine L_nil ?_
      refine W_seq ?_
      refine W_region ?_
      refine L_r (r_mp rfl) ?_
      refine L_r (r_nilCheck rfl) ?_
      refine L_r (r_fieldb Try.underlying65 rfl (show _ = some 1 from rfl) rfl rfl (show _ = 3 from rfl)) ?_
      refine L_r (r_lb rfl rfl) ?_
      refine L_r (r_ai rfl) ?_
      refine L_r (r_ai rfl) ?_
      refine L_nil ?_
      refine W_ret ?_
      refine ret2 (u := .int _ _) (v := .int _ _) rfl rfl rfl ?_
      first
      | (rw [callC_full (by omega)]
         exact ⟨vo, g, rfl, (hC.nw Ch.au).ext_ (ext_ok hC.fF (by omega) hbs), Ch.au⟩)
      | (rw [callC_bad (by omega) h34]
         exact ⟨vo, g, rfl, (hC.nw Ch.au).ext_ (ext_ok hC.fF (by omega) hbs), Ch.au⟩)
      | (rw [callC_ok (by omega) h34]
         have hcf2 := hcf.2
         exact ⟨vo', gset g (C.last + 1) b46, rfl, hC2.wid (ext_ext hF1' hzi (by omega)) (ext_ok hC.fF (by omega) hbs), Ch.au⟩)
theorem recv_no {m : Msg} (h : mget C.op m.seq = none ∨ m.kind ≠ 1 ∨ m.life ≠ C.life ∨ checkC m ≠ 0) : recvC C m = (C, false) := if_pos h
theorem recv_yes {m : Msg} (h : ¬ (mget C.op m.seq = none ∨ m.kind ≠ 1 ∨ m.life ≠ C.life ∨ checkC m ≠ 0)) : recvC C m = (endC C m.seq m.way m.body, true) := if_neg h
theorem recv_walk (base : Nat) (F : Nat → Prop) (b bm : Nat) (vo vr : Value) (g : Int → Nat) (C : Cal) (m : Msg) (w0 : World) (hC : CalAt base F w0 b bm vo vr g C) (hl : C.op.length ≤ 50000) (hrl : C.res.length ≤ 900000) (hbs : base ≤ w0.heap.size) : Does Try.prog 19 #[.pointer (some ⟨b, 0, none⟩), m.v] w0 (fun r w' => ∃ vr', r = .bool (recvC C m).2 ∧ CalAt base (ext F w0 w') w' b bm vo vr' g (recvC C m).1 ∧ CalC base F w0 w') := by
  have hbk := hC.bk
  have hmp := hC.mp
  have hne := hC.ne
  have hpl := pm_len g C.op
  have hlb := hbk.lt
  have hlm := hmp.lt
  refine fn_of (n := 46) (args := [.pointer (some ⟨b, 0, none⟩), m.v]) Try.func19 rfl rfl rfl ?_
  refine W_seq ?_
  refine W_region ?_
  refine L_new (.plain rfl) rfl rfl (r_boxa rfl) (fun w1 b3 hb3 eb1 hs1 c1 => ?_)
  refine L_r (r_ab rfl) ?_
  refine L_nil ?_
  refine W_seq ?_
  refine W_seq ?_
  refine W_draw (fun W => Bk W b (C.row bm vo vr) 65 ∧ Mp (.int .u64) idv W bm (pm g C.op) ∧ Bk W b3 #[.int .i64 m.kind, .int .u64 m.life, .int .u64 m.seq, .int .u64 m.below, .int .u64 m.object, .string m.method, .int .i64 m.way, .string m.body] 33) 12 (m := 12) (by kernel_rfl) rfl (fun w2 c2 hs2 => ?_)
  refine held (by exact ⟨Bk.au, Mp.au, Bk.au⟩) (fun hS => ?_)
  refine D_t 0 rfl (fun W hW => r_mp rfl) ?_
  refine D_t 1 rfl (fun W hW => r_nilCheck rfl) ?_
  refine D_t 2 rfl (fun W hW => r_fieldb Try.underlying65 rfl (show _ = some 1 from rfl) rfl rfl (show _ = 4 from rfl)) ?_
  refine D_t 3 rfl (fun W hW => r_loadb rfl rfl (by first | exact hW.1 | exact hW.2.1 | exact hW.2.2) (by first | assumption | (conv => lhs; simp only [List.getElem?_toArray, List.getElem?_cons_succ, List.getElem?_cons_zero]))) ?_
  refine D_t 4 rfl (fun W hW => r_fieldb Try.underlying33 rfl (show _ = some 1 from rfl) rfl rfl (show _ = 2 from rfl)) ?_
  refine D_t 5 rfl (fun W hW => r_loadb rfl rfl (by first | exact hW.1 | exact hW.2.1 | exact hW.2.2) (by first | assumption | (conv => lhs; simp only [List.getElem?_toArray, List.getElem?_cons_succ, List.getElem?_cons_zero]))) ?_
  refine D_t 6 rfl (fun W hW => r_lookup2 (ke := .int .u64) (ve := idv) _ (.pointer none) Try.underlying63 Try.underlying26 (fun _ => by first | trivial | rfl) (fun _ _ h => by cases h; rfl) rfl rfl rfl (by first | exact hW.1 | exact hW.2.1 | exact hW.2.2)) ?_
  refine D_t 7 rfl (fun W hW => r_mv) ?_
  refine D_t 8 rfl (fun W hW => r_ext2_0 rfl) ?_
  refine D_t 9 rfl (fun W hW => r_ext2_1 rfl) ?_
  refine D_t 10 rfl (fun W hW => r_av) ?_
  refine D_t 11 rfl (fun W hW => r_ab rfl) ?_
  refine D_done (by kernel_rfl) ?_
  refine W_seq ?_
  refine W_draw (fun W => Bk W b (C.row bm vo vr) 65 ∧ Bk W b3 #[.int .i64 m.kind, .int .u64 m.life, .int .u64 m.seq, .int .u64 m.below, .int .u64 m.object, .string m.method, .int .i64 m.way, .string m.body] 33) 21 (m := 21) (by kernel_rfl) rfl (fun w3 c3 hs3 => ?_)
  refine held (by exact ⟨Bk.au, Bk.au⟩) (fun hS => ?_)
  refine D_t 0 rfl (fun W hW => r_mb rfl) ?_
  refine D_t 1 rfl (fun W hW => r_not rfl) ?_
  refine D_t 2 rfl (fun W hW => r_mb rfl) ?_
  refine D_caseb (d := 19) rfl (fun h19 => ?_) (fun h19 => ?_)
  · refine D_ps 3 rfl ?_
    refine D_ps 4 rfl ?_
    refine D_ps 5 rfl ?_
    refine D_t 6 rfl (fun W hW => r_pt rfl rfl) ?_
    refine D_t 7 rfl (fun W hW => r_mb rfl) ?_
    refine D_ps 8 rfl ?_
    refine D_ps 9 rfl ?_
    refine D_ps 10 rfl ?_
    refine D_ps 11 rfl ?_
    refine D_ps 12 rfl ?_
    refine D_ps 13 rfl ?_
    refine D_ps 14 rfl ?_
    refine D_t 15 rfl (fun W hW => r_pt rfl rfl) ?_
    refine D_t 16 rfl (fun W hW => r_mb rfl) ?_
    refine D_ps 17 rfl ?_
    refine D_ps 18 rfl ?_
    refine D_ps 19 rfl ?_
    refine D_t 20 rfl (fun W hW => r_pt rfl rfl) ?_
    refine D_done (by kernel_rfl) ?_
    refine W_true rfl ?_
    refine W_seq ?_
    refine W_region ?_
    refine L_r (r_ab rfl) ?_
    refine L_nil ?_
    refine W_ret ?_
    refine ret1 (v := .bool _) rfl rfl ?_
    have hmm := mget_pm g C.op m.seq
    have hN : (mget (pm g C.op) m.seq).isSome = (mget C.op m.seq).isSome := by rw [hmm]; cases mget C.op m.seq <;> rfl
    first
    | (rw [recv_no (by omega)]
       exact ⟨vr, rfl, (hC.nw Ch.au).ext_ (ext_ok hC.fF (by omega) hbs), Ch.au⟩)
    | (rw [hN] at h19
       rw [recv_no (.inl (by simpa using h19))]
       exact ⟨vr, rfl, (hC.nw Ch.au).ext_ (ext_ok hC.fF (by omega) hbs), Ch.au⟩)
    | (rw [hN] at h19
       rw [recv_yes (by rintro (k | k | k | k); rw [k] at h19; simp at h19; omega; omega; omega)]
       exact ⟨vr', rfl, hC2.wid (ext_le (by omega)) (ext_ok hC.fF (by omega) hbs), Ch.au⟩)
  · refine D_g 3 rfl (fun W hW => r_fieldb Try.underlying33 rfl (show _ = some 1 from rfl) rfl rfl (show _ = 0 from rfl)) ?_
    refine D_g 4 rfl (fun W hW => r_loadb rfl rfl (by first | exact hW.1 | exact hW.2) (by first | assumption | (conv => lhs; simp only [List.getElem?_toArray, List.getElem?_cons_succ, List.getElem?_cons_zero]))) ?_
    refine D_g 5 rfl (fun W hW => r_neq rfl rfl) ?_
    refine D_t 6 rfl (fun W hW => r_pf rfl rfl) ?_
    refine D_t 7 rfl (fun W hW => r_mb rfl) ?_
    refine D_case (d := 24) rfl (fun h24 => ?_) (fun h24 => ?_)
    · refine D_ps 8 rfl ?_
      refine D_ps 9 rfl ?_
      refine D_ps 10 rfl ?_
      refine D_ps 11 rfl ?_
      refine D_ps 12 rfl ?_
      refine D_ps 13 rfl ?_
      refine D_ps 14 rfl ?_
      refine D_t 15 rfl (fun W hW => r_pt rfl rfl) ?_
      refine D_t 16 rfl (fun W hW => r_mb rfl) ?_
      refine D_ps 17 rfl ?_
      refine D_ps 18 rfl ?_
      refine D_ps 19 rfl ?_
      refine D_t 20 rfl (fun W hW => r_pt rfl rfl) ?_
      refine D_done (by kernel_rfl) ?_
      refine W_true rfl ?_
      refine W_seq ?_
      refine W_region ?_
      refine L_r (r_ab rfl) ?_
      refine L_nil ?_
      refine W_ret ?_
      refine ret1 (v := .bool _) rfl rfl ?_
      have hmm := mget_pm g C.op m.seq
      have hN : (mget (pm g C.op) m.seq).isSome = (mget C.op m.seq).isSome := by rw [hmm]; cases mget C.op m.seq <;> rfl
      first
      | (rw [recv_no (by omega)]
         exact ⟨vr, rfl, (hC.nw Ch.au).ext_ (ext_ok hC.fF (by omega) hbs), Ch.au⟩)
      | (rw [hN] at h19
         rw [recv_no (.inl (by simpa using h19))]
         exact ⟨vr, rfl, (hC.nw Ch.au).ext_ (ext_ok hC.fF (by omega) hbs), Ch.au⟩)
      | (rw [hN] at h19
         rw [recv_yes (by rintro (k | k | k | k); rw [k] at h19; simp at h19; omega; omega; omega)]
         exact ⟨vr', rfl, hC2.wid (ext_le (by omega)) (ext_ok hC.fF (by omega) hbs), Ch.au⟩)
    · refine D_g 8 rfl (fun W hW => r_fieldb Try.underlying33 rfl (show _ = some 1 from rfl) rfl rfl (show _ = 1 from rfl)) ?_
      refine D_g 9 rfl (fun W hW => r_loadb rfl rfl (by first | exact hW.1 | exact hW.2) (by first | assumption | (conv => lhs; simp only [List.getElem?_toArray, List.getElem?_cons_succ, List.getElem?_cons_zero]))) ?_
      refine D_g 10 rfl (fun W hW => r_mp rfl) ?_
      refine D_g 11 rfl (fun W hW => r_nilCheck rfl) ?_
      refine D_g 12 rfl (fun W hW => r_fieldb Try.underlying65 rfl (show _ = some 1 from rfl) rfl rfl (show _ = 0 from rfl)) ?_
      refine D_g 13 rfl (fun W hW => r_loadb rfl rfl (by first | exact hW.1 | exact hW.2) (by first | assumption | (conv => lhs; simp only [List.getElem?_toArray, List.getElem?_cons_succ, List.getElem?_cons_zero]))) ?_
      refine D_g 14 rfl (fun W hW => r_neq rfl rfl) ?_
      refine D_t 15 rfl (fun W hW => r_pf rfl rfl) ?_
      refine D_t 16 rfl (fun W hW => r_mb rfl) ?_
      refine D_case (d := 33) rfl (fun h33 => ?_) (fun h33 => ?_)
      · refine D_ps 17 rfl ?_
        refine D_ps 18 rfl ?_
        refine D_ps 19 rfl ?_
        refine D_t 20 rfl (fun W hW => r_pt rfl rfl) ?_
        refine D_done (by kernel_rfl) ?_
        refine W_true rfl ?_
        refine W_seq ?_
        refine W_region ?_
        refine L_r (r_ab rfl) ?_
        refine L_nil ?_
        refine W_ret ?_
        refine ret1 (v := .bool _) rfl rfl ?_
        have hmm := mget_pm g C.op m.seq
        have hN : (mget (pm g C.op) m.seq).isSome = (mget C.op m.seq).isSome := by rw [hmm]; cases mget C.op m.seq <;> rfl
        first
        | (rw [recv_no (by omega)]
           exact ⟨vr, rfl, (hC.nw Ch.au).ext_ (ext_ok hC.fF (by omega) hbs), Ch.au⟩)
        | (rw [hN] at h19
           rw [recv_no (.inl (by simpa using h19))]
           exact ⟨vr, rfl, (hC.nw Ch.au).ext_ (ext_ok hC.fF (by omega) hbs), Ch.au⟩)
        | (rw [hN] at h19
           rw [recv_yes (by rintro (k | k | k | k); rw [k] at h19; simp at h19; omega; omega; omega)]
           exact ⟨vr', rfl, hC2.wid (ext_le (by omega)) (ext_ok hC.fF (by omega) hbs), Ch.au⟩)
      · refine D_g 17 rfl (fun W hW => r_loadrow Try.underlying33 rfl rfl (by first | exact hW.1 | exact hW.2) (by first | rfl | assumption)) ?_
        refine D_ev 18 (by kernel_rfl) rfl ?_
        refine L_call (.yes 16 false rfl rfl) rfl rfl (r_call Try.func26 rfl rfl rfl (by rfl)) (check_walk m _) ?_
        rintro v35 w4 ⟨rfl, c4⟩
        have hz4 := c4.size
        refine L_nil ?_
        refine heldK (by exact ⟨Bk.au, Bk.au⟩) (fun hS => ?_)
        refine D_g 19 rfl (fun W hW => r_neq rfl rfl) ?_
        refine D_t 20 rfl (fun W hW => r_pf rfl rfl) ?_
        refine D_done (by kernel_rfl) ?_
        refine W_if rfl (fun h37 => ?_) (fun h37 => ?_)
        · refine W_seq ?_
          refine W_region ?_
          refine L_r (r_ab rfl) ?_
          refine L_nil ?_
          refine W_ret ?_
          refine ret1 (v := .bool _) rfl rfl ?_
          have hmm := mget_pm g C.op m.seq
          have hN : (mget (pm g C.op) m.seq).isSome = (mget C.op m.seq).isSome := by rw [hmm]; cases mget C.op m.seq <;> rfl
          first
          | (rw [recv_no (by omega)]
             exact ⟨vr, rfl, (hC.nw Ch.au).ext_ (ext_ok hC.fF (by omega) hbs), Ch.au⟩)
          | (rw [hN] at h19
             rw [recv_no (.inl (by simpa using h19))]
             exact ⟨vr, rfl, (hC.nw Ch.au).ext_ (ext_ok hC.fF (by omega) hbs), Ch.au⟩)
          | (rw [hN] at h19
             rw [recv_yes (by rintro (k | k | k | k); rw [k] at h19; simp at h19; omega; omega; omega)]
             exact ⟨vr', rfl, hC2.wid (ext_le (by omega)) (ext_ok hC.fF (by omega) hbs), Ch.au⟩)
        · refine W_skip ?_
          refine W_seq ?_
          refine W_region ?_
          refine L_r (r_mp rfl) ?_
          refine L_r (r_fieldb Try.underlying33 rfl (show _ = some 1 from rfl) rfl rfl (show _ = 2 from rfl)) ?_
          refine L_r (r_lb rfl rfl) ?_
          refine L_r (r_fieldb Try.underlying33 rfl (show _ = some 1 from rfl) rfl rfl (show _ = 6 from rfl)) ?_
          refine L_r (r_lb rfl rfl) ?_
          refine L_r (r_fieldb Try.underlying33 rfl (show _ = some 1 from rfl) rfl rfl (show _ = 7 from rfl)) ?_
          refine L_r (r_lb rfl rfl) ?_
          refine L_call (.plain rfl) rfl rfl (r_call Try.func31 rfl rfl rfl (by rfl)) (end_walk base F b bm vo vr g C m.seq m.way m.body _ (hC.nw Ch.au) (by omega) (by omega) (by omega)) ?_
          rintro v45 w5 ⟨vr', rfl, hC2, c5⟩
          have hz5 := c5.size
          refine L_nil ?_
          refine W_seq ?_
          refine W_region ?_
          refine L_r (r_ab rfl) ?_
          refine L_nil ?_
          refine W_ret ?_
          refine ret1 (v := .bool _) rfl rfl ?_
          have hmm := mget_pm g C.op m.seq
          have hN : (mget (pm g C.op) m.seq).isSome = (mget C.op m.seq).isSome := by rw [hmm]; cases mget C.op m.seq <;> rfl
          first
          | (rw [recv_no (by omega)]
             exact ⟨vr, rfl, (hC.nw Ch.au).ext_ (ext_ok hC.fF (by omega) hbs), Ch.au⟩)
          | (rw [hN] at h19
             rw [recv_no (.inl (by simpa using h19))]
             exact ⟨vr, rfl, (hC.nw Ch.au).ext_ (ext_ok hC.fF (by omega) hbs), Ch.au⟩)
          | (rw [hN] at h19
             rw [recv_yes (by rintro (k | k | k | k); rw [k] at h19; simp at h19; omega; omega; omega)]
             exact ⟨vr', rfl, hC2.wid (ext_le (by omega)) (ext_ok hC.fF (by omega) hbs), Ch.au⟩)
end Go.Proofs.Ytjjddbicggfgnaa

