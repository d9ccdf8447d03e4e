/- A caller: a call ended; asked for. -/
import Derived.Test.YtjjddbicggfgnaaCalX
namespace Go.Proofs.Ytjjddbicggfgnaa
open Go Go.RowKit
set_option linter.unusedVariables false
set_option linter.unusedSimpArgs false
set_option maxRecDepth 100000
variable {base : Nat} {F : Nat → Prop} {w w' : World} {b bm : Nat} {vo vr : Value} {g : Int → Nat} {C : Cal}
theorem CalAt.ended {vr' : Value} {k way : Int} {body : ByteArray} (h : CalAt base F w b bm vo vr g C) (c : Ch (fun j => j = b ∨ j = bm ∨ vr.ownBlock = some j) w w') (hbs : base ≤ w.heap.size)
    (hb : Bk w' b ((endC C k way body).row bm vo vr') 65) (hm : Mp (.int .u64) idv w' bm (mdel (pm g C.op) k)) (hr : Ow w' base 58 3 vr' (C.res.length + 1) (cellsT C.res ++ rsl ⟨k, way, body⟩))
    (ho : ∀ j, vr'.ownBlock = some j → vr.ownBlock = some j ∨ w.heap.size ≤ j) : CalAt base (ext F w w') w' b bm vo vr' g (endC C k way body) ∧ CalC base F w w' := by
  have hnv := h.nov
  refine ⟨⟨hb, by show Mp _ _ _ _ (pm g (mdel C.op k)); rw [← mdel_pm]; exact hm, fun p hp => ?_, fun p hp q hq => h.inj p (mdel_mem.1 hp).1 q (mdel_mem.1 hq).1, h.ow.to fun i hi => Sm.step c (fun _ e => ?_) (Sm.refl _ _), ?_, .inl h.fb, .inl h.fm, fun j hj => .inl (h.fo j hj), fun j hj => ?_, fun p hp => .inl (h.fc p (mdel_mem.1 hp).1), fun j hj => ?_⟩, c.mono fun i _ e => ?_⟩
  · have hn := h.nec (mdel_mem.1 hp).1
    refine (h.cl p (mdel_mem.1 hp).1).ch c (fun e => ?_)
    rcases e with e | e | e
    · exact hn.1 e
    · exact hn.2.1 e
    · exact hn.2.2.2 e
  · rcases e with e | e | e
    · rw [e] at hi; exact hnv.1 hi
    · rw [e] at hi; exact hnv.2.1 hi
    · exact hnv.2.2.2.2 i hi e
  · show Ow _ _ _ _ _ (C.res ++ [_]).length (cellsT (C.res ++ [_]))
    rw [List.length_append, cellsT_append]
    exact hr
  · rcases ho j hj with e | e
    · exact .inl (h.fr j e)
    · exact .inr ⟨e, hr.lt hj⟩
  · rcases hj with hj | hj
    · exact ⟨(h.fF j hj).1, Nat.lt_of_lt_of_le (h.fF j hj).2 c.size⟩
    · exact ⟨Nat.le_trans hbs hj.1, hj.2⟩
  · have hi : F i := by
      rcases e with e | e | e
      · rw [e]; exact h.fb
      · rw [e]; exact h.fm
      · exact h.fr i e
    exact ⟨(h.fF i hi).1, hi⟩
theorem CalAt.asked {vo' : Value} {k : Int} {o : Opn} (h : CalAt base F w b bm vo vr g C) (hk : mget C.op k = some o) (c : Ch (fun j => j = b ∨ j = g k ∨ vo.ownBlock = some j) w w') (hbs : base ≤ w.heap.size)
    (hb : Bk w' b ((ask1 C k o).row bm vo' vr) 65) (hk' : Bk w' (g k) (askO (belowC C) o).row 69) (hr : Ow w' base 33 8 vo' (C.out.length + 1) (cellsM C.out ++ mcl (askO (belowC C) o).m))
    (ho : ∀ j, vo'.ownBlock = some j → vo.ownBlock = some j ∨ w.heap.size ≤ j) : CalAt base (ext F w w') w' b bm vo' vr g (ask1 C k o) ∧ CalC base F w w' := by
  have hnv := h.nov
  have hkm := mget_some hk
  have hnk := h.nec hkm
  refine ⟨⟨hb, by show Mp _ _ _ _ (pm g (mupd C.op k (askO (belowC C) o))); rw [mupd_pm]; exact h.mp.ch c (fun e => by rcases e with e | e | e; exact h.ne e; exact hnk.2.1 e.symm; exact hnv.2.1 e), fun p hp => ?_, fun p hp q hq e => ?_, ?_, h.wr.to fun i hi => Sm.step c (fun _ e => ?_) (Sm.refl _ _), .inl h.fb, .inl h.fm, fun j hj => ?_, fun j hj => .inl (h.fr j hj), fun p hp => ?_, fun j hj => ?_⟩, c.mono fun i _ e => ?_⟩
  · rcases mupd_mem hp with rfl | ⟨hp, hne⟩
    · exact hk'
    · have hn := h.nec hp
      refine (h.cl p hp).ch c (fun e => ?_)
      rcases e with e | e | e
      · exact hn.1 e
      · exact hne (h.inj p hp _ hkm e)
      · exact hn.2.2.1 e
  · have f : ∀ p ∈ mupd C.op k (askO (belowC C) o), ∃ o', (p.1, o') ∈ C.op := fun p hp => by
      rcases mupd_mem hp with rfl | ⟨hp, hne⟩
      · exact ⟨_, hkm⟩
      · exact ⟨_, hp⟩
    obtain ⟨x, hx⟩ := f p hp
    obtain ⟨y, hy⟩ := f q hq
    exact h.inj (p.1, x) hx (q.1, y) hy e
  · show Ow _ _ _ _ _ (C.out ++ [_]).length (cellsM (C.out ++ [_]))
    rw [List.length_append, cellsM_append]
    exact hr
  · rcases e with e | e | e
    · rw [e] at hi; exact hnv.2.2.1 hi
    · rw [e] at hi; exact hnk.2.2.2 hi
    · exact hnv.2.2.2.2 i e hi
  · rcases ho j hj with e | e
    · exact .inl (h.fo j e)
    · exact .inr ⟨e, hr.lt hj⟩
  · rcases mupd_mem hp with rfl | ⟨hp, hne⟩
    · exact .inl (h.fc (k, o) hkm)
    · exact .inl (h.fc p hp)
  · rcases hj with hj | hj
    · exact ⟨(h.fF j hj).1, Nat.lt_of_lt_of_le (h.fF j hj).2 c.size⟩
    · exact ⟨Nat.le_trans hbs hj.1, hj.2⟩
  · have hi : F i := by
      rcases e with e | e | e
      · rw [e]; exact h.fb
      · rw [e]; exact h.fc _ hkm
      · exact h.fo i e
    exact ⟨(h.fF i hi).1, hi⟩
theorem end_walk (base : Nat) (F : Nat → Prop) (b bm : Nat) (vo vr : Value) (g : Int → Nat) (C : Cal) (k way : Int) (body : ByteArray) (w0 : World) (hC : CalAt base F w0 b bm vo vr g C) (hl : C.op.length ≤ 100000) (hrl : C.res.length ≤ 1000000) (hbs : base ≤ w0.heap.size) : Does Try.prog 31 #[.pointer (some ⟨b, 0, none⟩), .int .u64 k, .int .i64 way, .string body] w0 (fun r w' => ∃ vr', r = .tuple #[] ∧ CalAt base (ext F w0 w') w' b bm vo vr' g (endC C k way body) ∧ CalC base F w0 w') := by
  have hbk := hC.bk
  have hmp := hC.mp
  have how := hC.wr
  have hne := hC.ne
  have hnv1 := hC.nov.2.2.1
  have hnv2 := hC.nov.2.2.2.1
  have hlb := hbk.lt
  have hlm := hmp.lt
  refine fn_of (n := 26) (args := [.pointer (some ⟨b, 0, none⟩), .int .u64 k, .int .i64 way, .string body]) Try.func31 rfl rfl rfl ?_
  refine W_seq ?_
  refine W_region ?_
  refine L_r (r_mp rfl) ?_
  refine L_r (r_nilCheck rfl) ?_
  refine L_r (r_fieldb Try.underlying65 rfl (show _ = some 1 from rfl) rfl rfl (show _ = 4 from rfl)) ?_
  refine L_r (r_lb rfl rfl) ?_
  refine L_r (r_mi rfl) ?_
  refine L_mapdel0 (ke := .int .u64) (ve := idv) _ Try.underlying63 Try.underlying26 (fun _ => by first | trivial | rfl) (fun _ _ h => by cases h; rfl) (.plain rfl) rfl rfl Mp.au (fun w1 hm1 hs1 c1 => ?_)
  refine L_nil ?_
  refine W_region ?_
  refine L_r (r_mp rfl) ?_
  refine L_r (r_mp rfl) ?_
  refine L_r (r_nilCheck rfl) ?_
  refine L_r (r_fieldb Try.underlying65 rfl (show _ = some 1 from rfl) rfl rfl (show _ = 6 from rfl)) ?_
  refine L_r (r_lb rfl rfl) ?_
  refine L_r (r_mi rfl) ?_
  refine L_r (r_mi rfl) ?_
  refine L_r (r_ms rfl) ?_
  refine L_r (r_build1 (pl := [(0, 1), (1, 1), (2, 1)]) (vs := [(0, .int _ _), (1, .int _ _), (2, .string _)]) (cells := [_, _, _]) Try.underlying58 rfl rfl (by rfl) rfl (by rfl)) ?_
  refine L_buildrow [[_, _, _]] Try.underlying34 (show _ = some (some _, 3, _) from rfl) rfl rfl (.plain rfl) rfl (by rfl) (by rfl) rfl (fun b22 w2 hb22 hv22 eb2 hs2 c2 => ?_)
  simp only [List.flatten_cons, List.flatten_nil, List.append_nil, List.cons_append, List.nil_append] at hb22 hv22
  refine L_apow Try.underlying34 rst_info rfl (by decide) (.plain rfl) rfl (by conv => lhs; whnf) (by conv => lhs; whnf) Ow.au Sl.au (by intro y hy; simp at hy; rcases hy with rfl | rfl | rfl <;> rfl) (by unfold maxLen; omega) (by omega) (by omega) (fun v23 w3 ho23 c3 hob23 => ?_)
  have hz3 := c3.size
  have hn23 : v23.ownBlock ≠ some b := fun e => by rcases hob23 _ e with h | h; exact hnv1 h; omega
  refine L_r (r_nilCheck rfl) ?_
  refine L_r (r_fieldb Try.underlying65 rfl (show _ = some 1 from rfl) rfl rfl (show _ = 6 from rfl)) ?_
  refine L_set (.plain rfl) rfl Bk.au (r_store rfl rfl (by conv => lhs; whnf) (by first | rfl | exact ow_one (by assumption) | exact own_one (by assumption) | exact sl_one (by assumption)) Bk.au (by first | decide | (simp; done) | omega)) (fun w4 hb4 hs4 c4 => ?_)
  try simp only [List.setIfInBounds_toArray, List.set_cons_zero, List.set_cons_succ] at hb4
  refine L_nil ?_
  refine ret0 rfl  ?_
  refine ⟨v23, rfl, hC.ended Ch.au hbs Bk.au Mp.au Ow.au (fun j hj => by rcases hob23 j hj with h | h; exact .inl h; right; omega)⟩
theorem ask_walk (base : Nat) (F : Nat → Prop) (b bm q : Nat) (vo vr : Value) (g : Int → Nat) (C : Cal) (k : Int) (o : Opn) (w0 : World) (hC : CalAt base F w0 b bm vo vr g C) (hA : C.Asc) (hk : mget C.op k = some o) (hq : q = g k) (ha : 0 ≤ o.asks ∧ o.asks ≤ 1000000) (hl : C.op.length ≤ 100000) (hol : C.out.length ≤ 10000000) (hbs : base ≤ w0.heap.size) : Does Try.prog 27 #[.pointer (some ⟨b, 0, none⟩), .pointer (some ⟨q, 0, none⟩)] w0 (fun r w' => ∃ vo', r = .tuple #[] ∧ CalAt base (ext F w0 w') w' b bm vo' vr g (ask1 C k o) ∧ CalC base F w0 w') := by
  have hbk := hC.bk
  have hmp := hC.mp
  have how := hC.ow
  have hkm := mget_some hk
  have hcl : Bk w0 q o.row 69 := by rw [hq]; exact hC.cl _ hkm
  have hnk := hC.nec hkm
  rw [show g (k, o).1 = q from hq.symm] at hnk
  have hne := hnk.1
  have hnem := hnk.2.1
  have hneo := hnk.2.2.1
  have hnv1 := hC.nov.1
  have hlb := hbk.lt
  have hlm := hmp.lt
  have hlq := hcl.lt
  refine fn_of (n := 33) (args := [.pointer (some ⟨b, 0, none⟩), .pointer (some ⟨q, 0, none⟩)]) Try.func27 rfl rfl rfl ?_
  refine W_seq ?_
  refine W_region ?_
  refine L_r (r_mp rfl) ?_
  refine L_r (r_nilCheck rfl) ?_
  refine L_r (r_fieldb Try.underlying69 rfl (show _ = some 1 from rfl) rfl rfl (show _ = 9 from rfl)) ?_
  refine L_r (r_lb rfl rfl) ?_
  refine L_r (r_add rfl rfl (by first | exact wr_i64 (by omega) | rfl)) ?_
  refine L_r (r_nilCheck rfl) ?_
  refine L_r (r_fieldb Try.underlying69 rfl (show _ = some 1 from rfl) rfl rfl (show _ = 9 from rfl)) ?_
  refine L_set (.plain rfl) rfl Bk.au (r_store (v := .int _ _) rfl rfl rfl rfl Bk.au (by first | decide | (simp; done) | omega)) (fun w1 hb1 hs1 c1 => ?_)
  try simp only [List.setIfInBounds_toArray, List.set_cons_zero, List.set_cons_succ] at hb1
  refine L_nil ?_
  refine W_seq ?_
  refine W_region ?_
  refine L_r (r_mp rfl) ?_
  refine L_r (r_nilCheck rfl) ?_
  refine L_r (r_fieldb Try.underlying69 rfl (show _ = some 1 from rfl) rfl rfl (show _ = 8 from rfl)) ?_
  refine L_set (.plain rfl) rfl Bk.au (r_store (v := .int _ _) rfl rfl rfl rfl Bk.au (by first | decide | (simp; done) | omega)) (fun w2 hb2 hs2 c2 => ?_)
  try simp only [List.setIfInBounds_toArray, List.set_cons_zero, List.set_cons_succ] at hb2
  refine L_nil ?_
  refine W_seq ?_
  refine W_region ?_
  refine L_r (r_mp rfl) ?_
  refine L_r (r_mp rfl) ?_
  refine L_call (.plain rfl) rfl rfl (r_call Try.func23 rfl rfl rfl (by rfl)) (below_walk b bm vo vr g C _ Bk.au Mp.au hA hl) ?_
  rintro v16 w3 ⟨rfl, c3⟩
  have hz3 := c3.size
  refine L_r (r_nilCheck rfl) ?_
  refine L_r (r_fieldb Try.underlying69 rfl (show _ = some 8 from rfl) rfl rfl (show _ = 0 from rfl)) ?_
  refine L_r (r_fieldb Try.underlying33 rfl (show _ = some 1 from rfl) rfl rfl (show _ = 3 from rfl)) ?_
  refine L_set (.plain rfl) rfl Bk.au (r_store (v := .int _ _) rfl rfl rfl rfl Bk.au (by first | decide | (simp; done) | omega)) (fun w4 hb4 hs4 c4 => ?_)
  try simp only [List.setIfInBounds_toArray, List.set_cons_zero, List.set_cons_succ] at hb4
  refine L_nil ?_
  refine W_draw (fun W => Bk W b (C.row bm vo vr) 65 ∧ Bk W q (askO (belowC C) o).row 69) 13 (m := 14) (by kernel_rfl) rfl (fun w5 c5 hs5 => ?_)
  refine held (by exact ⟨Bk.au, Bk.au⟩) (fun hS => ?_)
  refine D_t 0 rfl (fun W hW => r_mp rfl) ?_
  refine D_t 1 rfl (fun W hW => r_mp rfl) ?_
  refine D_t 2 rfl (fun W hW => r_nilCheck rfl) ?_
  refine D_t 3 rfl (fun W hW => r_fieldb Try.underlying65 rfl (show _ = some 1 from rfl) rfl rfl (show _ = 5 from rfl)) ?_
  refine D_t 4 rfl (fun W hW => r_loadb rfl rfl (by first | exact hW.1 | exact hW.2) (by first | assumption | (conv => lhs; simp only [List.getElem?_toArray, List.getElem?_cons_succ, List.getElem?_cons_zero]))) ?_
  refine D_t 5 rfl (fun W hW => r_mp rfl) ?_
  refine D_t 6 rfl (fun W hW => r_nilCheck rfl) ?_
  refine D_t 7 rfl (fun W hW => r_fieldb Try.underlying69 rfl (show _ = some 8 from rfl) rfl rfl (show _ = 0 from rfl)) ?_
  refine D_t 8 rfl (fun W hW => r_loadsub (us := [.int _ _, .int _ _, .int _ _, .int _ _, .int _ _, .string _, .int _ _, .string _]) Try.underlying33 rfl (show _ = some 8 from rfl) rfl (by first | exact hW.1 | exact hW.2) rfl rfl) ?_
  refine D_ev 9 (by kernel_rfl) rfl ?_
  refine L_buildrow [[_, _, _, _, _, _, _, _]] Try.underlying30 (show _ = some (some _, 8, _) from rfl) rfl rfl (.plain rfl) rfl (by rfl) (by rfl) rfl (fun b29 w6 hb29 hv29 eb6 hs6 c6 => ?_)
  simp only [List.flatten_cons, List.flatten_nil, List.append_nil, List.cons_append, List.nil_append] at hb29 hv29
  refine L_nil ?_
  refine heldK (by exact ⟨Bk.au, Bk.au⟩) (fun hS => ?_)
  refine D_ev 10 (by kernel_rfl) rfl ?_
  refine L_apow Try.underlying30 msg_info rfl (by decide) (.plain rfl) rfl (by conv => lhs; whnf) (by conv => lhs; whnf) Ow.au Sl.au (by intro y hy; simp at hy; rcases hy with rfl | rfl | rfl | rfl | rfl | rfl | rfl | rfl <;> rfl) (by unfold maxLen; omega) (by omega) (by omega) (fun v30 w7 ho30 c7 hob30 => ?_)
  have hz7 := c7.size
  have hn30 : v30.ownBlock ≠ some b := fun e => by rcases hob30 _ e with h | h; exact hnv1 h; omega
  have hn31 : v30.ownBlock ≠ some q := fun e => by rcases hob30 _ e with h | h; exact hneo h; omega
  refine L_nil ?_
  refine heldK (by exact ⟨Bk.au, Bk.au⟩) (fun hS => ?_)
  refine D_ev 11 (by kernel_rfl) rfl ?_
  refine L_r (r_nilCheck rfl) ?_
  refine L_nil ?_
  refine heldK (by exact ⟨Bk.au, Bk.au⟩) (fun hS => ?_)
  refine D_t 12 rfl (fun W hW => r_fieldb Try.underlying65 rfl (show _ = some 1 from rfl) rfl rfl (show _ = 5 from rfl)) ?_
  refine D_ev 13 (by kernel_rfl) rfl ?_
  refine L_set (.plain rfl) rfl Bk.au (r_store rfl rfl (by conv => lhs; whnf) (by first | rfl | exact ow_one (by assumption) | exact own_one (by assumption) | exact sl_one (by assumption)) Bk.au (by first | decide | (simp; done) | omega)) (fun w8 hb8 hs8 c8 => ?_)
  try simp only [List.setIfInBounds_toArray, List.set_cons_zero, List.set_cons_succ] at hb8
  refine L_nil ?_
  refine heldL ?_
  refine D_done (by kernel_rfl) ?_
  refine ret0 rfl  ?_
  refine ⟨v30, rfl, hC.asked hk (by rw [← hq]; (exact Ch.au)) hbs Bk.au (by rw [← hq]; (exact Bk.au)) Ow.au (fun j hj => by rcases hob30 j hj with h | h; exact .inl h; right; omega)⟩
end Go.Proofs.Ytjjddbicggfgnaa

