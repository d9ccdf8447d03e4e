/- Instructions read out of bytes: the walk. -/
import Derived.Test.YtioonbfinnigpaaGreatDoorCode6
namespace Go.Proofs.YtioonbfinnigpaaGreatDoor
open Go Go.RowKit
set_option linter.unusedVariables false
set_option linter.unusedSimpArgs false
set_option maxRecDepth 100000
theorem take1_bad {l : List UInt8} {t : Tk} (h : 42 ≤ nm l t.st) : take1 l t = { t with st := ns l t.st, ok := false } := if_pos h
theorem take1_ok {l : List UInt8} {t : Tk} (h : ¬ 42 ≤ nm l t.st) : take1 l t = takeO l (opT.getD (nm l t.st) default) t := if_neg h
theorem RdAt.st {base b q : Nat} {w w' : World} {v : Value} {l : List UInt8} {a : Nat} {e : Int} (h : RdAt base w b v l a e) (c : Ch (fun j => j = q) w w') (h1 : q ≠ b) (h2 : ∀ i, v.ownBlock = some i → i ≠ q) : RdAt base w' b v l a e :=
  ⟨h.bk.ch c (fun e => h1 e.symm), h.hb, h.ow.to (fun i hi => Sm.step c (fun _ e => h2 i hi e) (Sm.refl _ _)), h.ha, h.hl⟩
theorem RdAt.chg {base b : Nat} {w w' : World} {X : Nat → Prop} {v : Value} {l : List UInt8} {a : Nat} {e : Int} (h : RdAt base w b v l a e) (c : Ch X w w') (h1 : ¬ X b) (h2 : ∀ i, v.ownBlock = some i → ¬ X i) : RdAt base w' b v l a e :=
  ⟨h.bk.ch c h1, h.hb, h.ow.to (fun i hi => Sm.step c (fun _ => h2 i hi) (Sm.refl _ _)), h.ha, h.hl⟩
set_option maxHeartbeats 4000000 in
theorem itake_walk (base b : Nat) (v : Value) (l : List UInt8) (a : Nat) (e : Int) (w0 : World) (hG : Gv base w0) (hR : RdAt base w0 b v l a e) (hb : base ≤ w0.heap.size) : Does Tryz.prog 12 #[.pointer (some ⟨b, 0, none⟩)] w0 (fun r w' => ∃ v', r = v' ∧ Ow w' w0.heap.size 47 3 v' (takeL l (a, e)).length (cellsI (takeL l (a, e))) ∧ RdAt base w' b v l (takeA l (a, e)).st.1 (takeA l (a, e)).st.2 ∧ Ch (fun j => j = b) w0 w') := by
  have hbl := hR.bk.lt
  have hvl : ∀ i, v.ownBlock = some i → i < w0.heap.size := fun i hi => hR.ow.lt hi
  have hcn := cn_le l (a, e)
  have hGc := fun W (c : Ch (fun j => j = b) w0 W) => hG.ch c hb (fun i (hi : i = b) => by rw [hi]; exact hR.hb)
  refine fn_of (n := 58) (args := [.pointer (some ⟨b, 0, none⟩)]) Tryz.func12 rfl rfl rfl ?_
  refine W_seq ?_
  refine W_region ?_
  refine L_r (r_av) ?_
  refine L_nil ?_
  refine W_seq ?_
  refine W_region ?_
  refine L_r (r_av) ?_
  refine L_nil ?_
  refine W_seq ?_
  refine W_region ?_
  refine L_r (r_ab rfl) ?_
  refine L_nil ?_
  refine W_seq ?_
  refine W_seq ?_
  refine W_region ?_
  refine L_r (r_mp rfl) ?_
  refine L_call (.plain rfl) rfl rfl (r_call Tryz.func27 rfl rfl rfl (by rfl)) (rd_count base b v l (a, e) _ hR hb) ?_
  rintro v10 w1 ⟨rfl, hR1, c1⟩
  have hz1 := c1.size
  refine L_r (r_mi rfl) ?_
  refine L_nil ?_
  refine W_block ?_
  refine W_loopF [0, 10] (fun mz_ f W => ∃ (i : Nat) (t : Tk) (vo : Value), f 11 = .int .i64 i ∧ f 3 = vo ∧ f 4 = .bool t.ok ∧ (i ≤ cn l (a, e) ∧ t = takeN l i ⟨cs l (a, e), true, []⟩ ∧ RdAt base W b v l t.st.1 t.st.2 ∧ Ow W w0.heap.size 47 3 vo t.out.length (cellsI t.out) ∧ Ch (fun j => j = b) w0 W) ∧ mz_ = cn l (a, e) - i) ?_ ?_
  · refine ⟨_, 0, ⟨cs l (a, e), true, []⟩, .slice none 0 0, rfl, rfl, rfl, ?_, rfl⟩
    exact ⟨by omega, rfl, hR1, Ow.nil _ _ _ _, Ch.au⟩
  rintro m0 g0 w2 ⟨i, t, vo, hf11, hf3, hf4, hR0, rfl⟩
  refine W_as 11 hf11 rfl ?_
  refine W_as 3 hf3 rfl ?_
  refine W_as 4 hf4 rfl ?_
  clear hf11 hf3 hf4
  obtain ⟨hi, ht, hRt, hO, hch⟩ := hR0
  have hz := hch.size
  have htl := takeN_len l ⟨cs l (a, e), true, []⟩ i
  rw [← ht] at htl
  have htl' : t.out.length ≤ i := by simpa using htl
  obtain ⟨q, hq⟩ : ∃ x, x = vo := ⟨_, rfl⟩
  obtain ⟨tg, htg⟩ : ∃ x, x = t := ⟨_, rfl⟩
  refine W_seq ?_
  refine W_region ?_
  refine L_r (r_lss rfl rfl) ?_
  refine L_nil ?_
  refine W_seq ?_
  refine W_if rfl (fun h12 => ?_) (fun h12 => ?_)
  · refine W_skip ?_
    refine W_cutF [0, 10, 11] (fun f W => ∃ (t2 : Tk) (vo2 : Value), f 3 = vo2 ∧ f 4 = .bool t2.ok ∧ (t2 = take1 l t ∧ RdAt base W b v l t2.st.1 t2.st.2 ∧ Ow W w0.heap.size 47 3 vo2 t2.out.length (cellsI t2.out) ∧ Ch (fun j => j = b) w0 W)) ?_ ?_
    · refine W_block ?_
      refine W_seq ?_
      have hgw := fun W (c : Ch (fun j => j = b) w0 W) => hGc W c
      refine W_region ?_
      refine L_r (r_mp rfl) ?_
      refine L_call (.plain rfl) rfl rfl (r_call Tryz.func13 rfl rfl rfl (by rfl)) (rd_num base b v l t.st _ hRt (by omega)) ?_
      rintro v14 w3 ⟨rfl, hR2, c3⟩
      have hz3 := c3.size
      refine L_r (r_ai rfl) ?_
      refine L_nil ?_
      refine W_seq ?_
      refine W_seq ?_
      refine W_region ?_
      refine L_r (r_mi rfl) ?_
      refine L_r (r_geq rfl rfl) ?_
      refine L_nil ?_
      refine W_if rfl (fun h16 => ?_) (fun h16 => ?_)
      · clear htg
        obtain ⟨tg, htg⟩ : ∃ x, x = ({ t with st := ns l t.st, ok := false } : Tk) := ⟨_, rfl⟩
        have hte : tg = take1 l t := by rw [htg, take1_bad (by omega)]
        have hRg : True := trivial
        refine W_seq ?_
        refine W_region ?_
        refine L_r (r_ab rfl) ?_
        refine L_nil ?_
        refine W_exit ?_
        repeat (first | refine blk_hit ?_ | refine blk_miss rfl ?_)
        refine ⟨⟨fx2, fx2, fx2, trivial⟩, tg, q, (by exact hq.symm), (by rw [htg]; rfl), ?_⟩
        subst hq
        first
        | (refine ⟨hte, ?_, ?_, Ch.au⟩
           · rw [htg]; exact hR2
           · rw [htg]; exact Ow.au)
        | (refine ⟨hte, ?_, ?_, Ch.au⟩
           · have h := (hR6.nw (w' := w12) Ch.au).chg c13 (fun e => by have := ow_base hO5 e; omega) (fun j hj e => by have := hvl j hj; have := ow_base hO5 e; omega)
             rw [htg]; subst hst3; exact h
           · rw [htg]
             show Ow _ _ _ _ _ (t.out ++ [_]).length (cellsI (t.out ++ [_]))
             rw [List.length_append, cellsI_append]
             exact ho39)
      · have hk42 : nm l t.st < 42 := by omega
        have hgo := fun W (c : Ch (fun j => j = b) w0 W) => gv_ops (hGc W c) hk42
        have htk := take1_ok (l := l) (t := t) (by omega)
        generalize opT.getD (nm l t.st) default = o at hgo htk
        obtain ⟨st1, hst1⟩ : ∃ x, x = ns l t.st := ⟨_, rfl⟩
        rw [← hst1] at hR2
        refine W_skip ?_
        refine W_seq ?_
        refine W_region ?_
        refine L_r (r_mi rfl) ?_
        refine L_r (r_idxarr Tryz.underlying60 (show _ = some 3 from rfl) rfl rfl (by omega) (by omega) (by conv => lhs; (try simp only [Nat.mul_one, Nat.zero_add, Int.toNat_natCast, Int.toNat_zero, Int.reduceToNat, Nat.reduceMul, Nat.reduceAdd]))) ?_
        refine L_r (r_fieldb Tryz.underlying59 rfl (show _ = some 1 from rfl) rfl rfl rfl) ?_
        refine L_r (r_loadG rfl rfl (by first | exact hgo _ Ch.au 0 _ rfl | exact hgo _ Ch.au 1 _ rfl | exact hgo _ Ch.au 2 _ rfl)) ?_
        refine L_r (r_build1 (pl := [(0, 1), (1, 1), (2, 1)]) (vs := [(0, .string _)]) (cells := [_, _, _]) Tryz.underlying47 rfl rfl (by rfl) rfl (by rfl)) ?_
        refine L_new (.plain rfl) rfl rfl (r_alloca rfl) (fun w4 b6 hb6 eb4 hs4 c4 => ?_)
        refine L_storerow (.plain rfl) rfl rfl Bk.au (by first | rfl | (simp; done) | assumption) (by first | rfl | assumption) (by first | rfl | (simp [Value.oneCell']; done) | assumption) (fun w5 hb5 hs5 c5 => ?_)
        refine L_nil ?_
        refine W_seq ?_
        refine W_seq ?_
        have hn6 : vo.ownBlock ≠ some b6 := fun e => by have := hO.lt e; omega
        refine W_region ?_
        refine L_r (r_mi rfl) ?_
        refine L_r (r_idxarr Tryz.underlying60 (show _ = some 3 from rfl) rfl rfl (by omega) (by omega) (by conv => lhs; (try simp only [Nat.mul_one, Nat.zero_add, Int.toNat_natCast, Int.toNat_zero, Int.reduceToNat, Nat.reduceMul, Nat.reduceAdd]))) ?_
        refine L_r (r_fieldb Tryz.underlying59 rfl (show _ = some 1 from rfl) rfl rfl rfl) ?_
        refine L_r (r_loadG rfl rfl (by first | exact hgo _ Ch.au 0 _ rfl | exact hgo _ Ch.au 1 _ rfl | exact hgo _ Ch.au 2 _ rfl)) ?_
        refine L_nil ?_
        refine W_endF [0, 3, 4, 5, 6, 10, 11] (fun f W => True ∧ (RdAt base W b v l (if o.2.1 then ns l st1 else st1).1 (if o.2.1 then ns l st1 else st1).2 ∧ Bk W b6 #[.string o.1, .int .i64 (if o.2.1 then zagI (nm l st1 : Nat) else 0), .string { data := #[] }] 47 ∧ Ow W w0.heap.size 47 3 vo t.out.length (cellsI t.out) ∧ Ch (fun j => j = b) w0 W)) ?_ ?_
        · refine W_bool rfl (fun h25 => ?_) (fun h25 => ?_)
          · refine W_region ?_
            refine L_r (r_mp rfl) ?_
            refine L_call (.plain rfl) rfl rfl (r_call Tryz.func28 rfl rfl rfl (by rfl)) (rd_int base b v l st1 _ (hR2.nw Ch.au) (by omega)) ?_
            rintro v27 w6 ⟨rfl, hR3, c6⟩
            have hz6 := c6.size
            refine L_r (r_fieldb Tryz.underlying47 rfl (show _ = some 1 from rfl) rfl rfl (show _ = 1 from rfl)) ?_
            refine L_set (.plain rfl) rfl Bk.au (r_store (v := .int _ _) rfl rfl rfl rfl Bk.au (by first | decide | (simp; done) | omega)) (fun w7 hb7 hs7 c7 => ?_)
            try simp only [List.setIfInBounds_toArray, List.set_cons_zero, List.set_cons_succ] at hb7
            have hR3q := hR3.st (w' := w7) (q := b6) Ch.au (by omega) (fun i hi => by have := hvl i hi; omega)
            refine L_nil ?_
            refine ⟨⟨fx2, fx2, fx2, fx2, fx2, fx2, fx2, trivial⟩, trivial, ?_⟩
            first
            | (rw [if_pos (by assumption), if_pos (by assumption)]; exact ⟨hR3q, Bk.au, Ow.au, Ch.au⟩)
            | (rw [if_neg (by simpa using h25), if_neg (by simpa using h25)]; exact ⟨hR2.nw Ch.au, Bk.au, Ow.au, Ch.au⟩)
          · refine W_skip ?_
            refine ⟨⟨fx2, fx2, fx2, fx2, fx2, fx2, fx2, trivial⟩, trivial, ?_⟩
            first
            | (rw [if_pos (by assumption), if_pos (by assumption)]; exact ⟨hR3q, Bk.au, Ow.au, Ch.au⟩)
            | (rw [if_neg (by simpa using h25), if_neg (by simpa using h25)]; exact ⟨hR2.nw Ch.au, Bk.au, Ow.au, Ch.au⟩)
        rintro gct25 w8 ⟨-, hCt25⟩
        obtain ⟨hR4, hb6', hO4, hc4⟩ := hCt25
        clear hO
        have hz4 := hc4.size
        obtain ⟨st2, hst2⟩ : ∃ x, x = (if o.2.1 then ns l st1 else st1) := ⟨_, rfl⟩
        obtain ⟨n, hn⟩ : ∃ x, x = (if o.2.1 then zagI (nm l st1 : Nat) else 0) := ⟨_, rfl⟩
        rw [← hst2] at hR4
        rw [← hn] at hb6'
        refine W_seq ?_
        refine W_seq ?_
        refine W_region ?_
        refine L_r (r_mi rfl) ?_
        refine L_r (r_idxarr Tryz.underlying60 (show _ = some 3 from rfl) rfl rfl (by omega) (by omega) (by conv => lhs; (try simp only [Nat.mul_one, Nat.zero_add, Int.toNat_natCast, Int.toNat_zero, Int.reduceToNat, Nat.reduceMul, Nat.reduceAdd]))) ?_
        refine L_r (r_fieldb Tryz.underlying59 rfl (show _ = some 1 from rfl) rfl rfl rfl) ?_
        refine L_r (r_loadG rfl rfl (by first | exact hgo _ Ch.au 0 _ rfl | exact hgo _ Ch.au 1 _ rfl | exact hgo _ Ch.au 2 _ rfl)) ?_
        refine L_nil ?_
        refine W_endF [0, 3, 4, 6, 10, 11] (fun f W => True ∧ (RdAt base W b v l (if o.2.2 then ts l st2 else st2).1 (if o.2.2 then ts l st2 else st2).2 ∧ Bk W b6 #[.string o.1, .int .i64 n, .string (sb (if o.2.2 then tx l st2 else []))] 47 ∧ Ow W w0.heap.size 47 3 vo t.out.length (cellsI t.out) ∧ Ch (fun j => j = b) w0 W)) ?_ ?_
        · refine W_bool rfl (fun h32 => ?_) (fun h32 => ?_)
          · refine W_region ?_
            refine L_r (r_mp rfl) ?_
            refine L_call (.plain rfl) rfl rfl (r_call Tryz.func29 rfl rfl rfl (by rfl)) (rd_text base b v l st2 _ (hR4.nw Ch.au) (hGc _ Ch.au).tab (by omega)) ?_
            rintro v34 w9 ⟨rfl, hR5, c9⟩
            have hz9 := c9.size
            refine L_r (r_fieldb Tryz.underlying47 rfl (show _ = some 1 from rfl) rfl rfl (show _ = 2 from rfl)) ?_
            refine L_set (.plain rfl) rfl Bk.au (r_store (v := .string _) rfl rfl rfl rfl Bk.au (by first | decide | (simp; done) | omega)) (fun w10 hb10 hs10 c10 => ?_)
            try simp only [List.setIfInBounds_toArray, List.set_cons_zero, List.set_cons_succ] at hb10
            have hR5q := hR5.st (w' := w10) (q := b6) Ch.au (by omega) (fun i hi => by have := hvl i hi; omega)
            refine L_nil ?_
            refine ⟨⟨fx2, fx2, fx2, fx2, fx2, fx2, trivial⟩, trivial, ?_⟩
            first
            | (rw [if_pos (by assumption), if_pos (by assumption)]; exact ⟨hR5q, Bk.au, Ow.au, Ch.au⟩)
            | (rw [if_neg (by simpa using h32), if_neg (by simpa using h32)]; exact ⟨hR4.nw Ch.au, Bk.au, Ow.au, Ch.au⟩)
          · refine W_skip ?_
            refine ⟨⟨fx2, fx2, fx2, fx2, fx2, fx2, trivial⟩, trivial, ?_⟩
            first
            | (rw [if_pos (by assumption), if_pos (by assumption)]; exact ⟨hR5q, Bk.au, Ow.au, Ch.au⟩)
            | (rw [if_neg (by simpa using h32), if_neg (by simpa using h32)]; exact ⟨hR4.nw Ch.au, Bk.au, Ow.au, Ch.au⟩)
        rintro gct32 w11 ⟨-, hCt32⟩
        obtain ⟨hR6, hb6q, hO5, hc5⟩ := hCt32
        clear hO4
        have hz5 := hc5.size
        obtain ⟨st3, hst3⟩ : ∃ x, x = (if o.2.2 then ts l st2 else st2) := ⟨_, rfl⟩
        obtain ⟨s, hs⟩ : ∃ x, x = sb (if o.2.2 then tx l st2 else []) := ⟨_, rfl⟩
        rw [← hst3] at hR6
        rw [← hs] at hb6q
        refine W_region ?_
        refine L_r (r_mv) ?_
        refine L_r (r_loadrow Tryz.underlying47 rfl rfl Bk.au (by first | rfl | assumption)) ?_
        refine L_buildrow [[_, _, _]] Tryz.underlying22 (show _ = some (some _, 3, _) from rfl) rfl rfl (.plain rfl) rfl (by rfl) (by rfl) rfl (fun b38 w12 hb38 hv38 eb12 hs12 c12 => ?_)
        simp only [List.flatten_cons, List.flatten_nil, List.append_nil, List.cons_append, List.nil_append] at hb38 hv38
        refine L_apow Tryz.underlying22 ins_info rfl (by decide) (.plain rfl) rfl (by conv => lhs; whnf) (by conv => lhs; whnf) Ow.au Sl.au (by intro y hy; simp at hy; rcases hy with rfl | rfl | rfl <;> rfl) (by unfold maxLen; omega) (by omega) (by omega) (fun v39 w13 ho39 c13 hob39 => ?_)
        have hz13 := c13.size
        clear hq htg
        obtain ⟨q, hq⟩ : ∃ x, x = v39 := ⟨_, rfl⟩
        obtain ⟨tg, htg⟩ : ∃ x, x = ({ st := st3, ok := t.ok, out := t.out ++ [⟨o.1, n, s⟩] } : Tk) := ⟨_, rfl⟩
        have hte : tg = take1 l t := by { rw [htg, htk, hst3, hs, hn, hst2, hst1]; rfl }
        refine L_r (r_av) ?_
        refine L_nil ?_
        refine ⟨⟨fx2, fx2, fx2, trivial⟩, tg, q, (by exact hq.symm), (by rw [htg]; rfl), ?_⟩
        subst hq
        first
        | (refine ⟨hte, ?_, ?_, Ch.au⟩
           · rw [htg]; exact hR2
           · rw [htg]; exact Ow.au)
        | (refine ⟨hte, ?_, ?_, Ch.au⟩
           · have h := (hR6.nw (w' := w12) Ch.au).chg c13 (fun e => by have := ow_base hO5 e; omega) (fun j hj e => by have := hvl j hj; have := ow_base hO5 e; omega)
             rw [htg]; subst hst3; exact h
           · rw [htg]
             show Ow _ _ _ _ _ (t.out ++ [_]).length (cellsI (t.out ++ [_]))
             rw [List.length_append, cellsI_append]
             exact ho39)
    rintro gcb1 w14 ⟨t2, vo2, hf3, hf4, hCb1⟩
    refine W_as 3 hf3 rfl ?_
    refine W_as 4 hf4 rfl ?_
    clear hf3 hf4
    obtain ⟨ht2, hRb, hOb, hcb⟩ := hCb1
    refine W_region ?_
    refine L_r (r_add rfl rfl (by first | exact wr_i64 (by omega) | rfl)) ?_
    refine L_r (r_mi rfl) ?_
    refine L_nil ?_
    refine ⟨⟨fx2, fx2, trivial⟩, _, ?_, i + 1, t2, vo2, rfl, rfl, rfl, ?_, rfl⟩
    · omega
    exact ⟨by omega, by rw [ht2, ht]; rfl, hRb, hOb, hcb⟩
  · refine W_exit ?_
    repeat (first | refine blk_hit ?_ | refine blk_miss rfl ?_)
    refine W_seq ?_
    refine W_seq ?_
    refine W_region ?_
    refine L_r (r_mp rfl) ?_
    refine L_call (.plain rfl) rfl rfl (r_call Tryz.func30 rfl rfl rfl (by rfl)) (err_walk base b v l t.st.1 t.st.2 _ (hRt.nw Ch.au)) ?_
    rintro v43 w15 ⟨rfl, c15⟩
    have hz15 := c15.size
    refine L_r (r_mv) ?_
    refine L_r (r_ext2_0 rfl) ?_
    refine L_r (r_ext2_1 rfl) ?_
    refine L_r (r_ai rfl) ?_
    refine L_r (r_ai rfl) ?_
    refine L_nil ?_
    refine W_seq ?_
    refine W_region ?_
    refine L_r (r_mi rfl) ?_
    refine L_r (r_neq rfl rfl) ?_
    refine L_r (r_mb rfl) ?_
    refine L_case (d := 48) rfl (fun h48 => ?_) (fun h48 => ?_)
    · refine L_ps ?_
      refine L_ps ?_
      refine L_r (r_pt rfl rfl) ?_
      refine L_r (r_mb rfl) ?_
      refine L_ps ?_
      refine L_ps ?_
      refine L_ps ?_
      refine L_r (r_pt rfl rfl) ?_
      refine L_nil ?_
      refine W_true rfl ?_
      refine W_seq ?_
      refine W_region ?_
      refine L_r (r_av) ?_
      refine L_nil ?_
      refine W_ret ?_
      refine ret1 rfl (by conv => lhs; whnf) ?_
      have hi' : i = cn l (a, e) := by omega
      have hA : takeA l (a, e) = t := by unfold takeA; rw [← hi', ← ht]
      unfold takeL
      rw [hA]
      by_cases hc : t.st.2 ≠ 0 ∨ t.ok = false ∨ allI t.out ≠ 0
      · rw [if_pos hc]
        first
        | exact ⟨_, rfl, Ow.nil _ _ _ _, hRt.nw Ch.au, Ch.au⟩
        | (exfalso; rcases hc with k | k | k; exact h48 k; (rw [k] at h52; simp at h52); exact h56 k)
      · rw [if_neg hc]
        first
        | (exfalso; apply hc; first | exact .inl (by assumption) | exact .inr (.inl (by simpa using h52)) | exact .inr (.inr (by assumption)))
        | exact ⟨_, rfl, Ow.au, hRt.nw Ch.au, Ch.au⟩
    · refine L_g (r_mb rfl) ?_
      refine L_g (r_not rfl) ?_
      refine L_r (r_pf rfl rfl) ?_
      refine L_r (r_mb rfl) ?_
      refine L_caseb (d := 52) rfl (fun h52 => ?_) (fun h52 => ?_)
      · refine L_ps ?_
        refine L_ps ?_
        refine L_ps ?_
        refine L_r (r_pt rfl rfl) ?_
        refine L_nil ?_
        refine W_true rfl ?_
        refine W_seq ?_
        refine W_region ?_
        refine L_r (r_av) ?_
        refine L_nil ?_
        refine W_ret ?_
        refine ret1 rfl (by conv => lhs; whnf) ?_
        have hi' : i = cn l (a, e) := by omega
        have hA : takeA l (a, e) = t := by unfold takeA; rw [← hi', ← ht]
        unfold takeL
        rw [hA]
        by_cases hc : t.st.2 ≠ 0 ∨ t.ok = false ∨ allI t.out ≠ 0
        · rw [if_pos hc]
          first
          | exact ⟨_, rfl, Ow.nil _ _ _ _, hRt.nw Ch.au, Ch.au⟩
          | (exfalso; rcases hc with k | k | k; exact h48 k; (rw [k] at h52; simp at h52); exact h56 k)
        · rw [if_neg hc]
          first
          | (exfalso; apply hc; first | exact .inl (by assumption) | exact .inr (.inl (by simpa using h52)) | exact .inr (.inr (by assumption)))
          | exact ⟨_, rfl, Ow.au, hRt.nw Ch.au, Ch.au⟩
      · refine L_g (r_mv) ?_
        refine L_call (.yes 6 false rfl rfl) rfl rfl (r_call Tryz.func31 rfl rfl rfl (by rfl)) (all_ins_walk base vo t.out _ (hGc _ Ch.au) (by omega) Sl.au (by omega) (fun x hx => by rw [ht] at hx; have := takeN_sz l ⟨cs l (a, e), true, []⟩ (fun x hx => absurd hx (by simp)) i x hx; omega)) ?_
        rintro v54 w16 ⟨rfl, c16⟩
        have hz16 := c16.size
        refine L_g (r_neq rfl rfl) ?_
        refine L_r (r_pf rfl rfl) ?_
        refine L_nil ?_
        refine W_if rfl (fun h56 => ?_) (fun h56 => ?_)
        · refine W_seq ?_
          refine W_region ?_
          refine L_r (r_av) ?_
          refine L_nil ?_
          refine W_ret ?_
          refine ret1 rfl (by conv => lhs; whnf) ?_
          have hi' : i = cn l (a, e) := by omega
          have hA : takeA l (a, e) = t := by unfold takeA; rw [← hi', ← ht]
          unfold takeL
          rw [hA]
          by_cases hc : t.st.2 ≠ 0 ∨ t.ok = false ∨ allI t.out ≠ 0
          · rw [if_pos hc]
            first
            | exact ⟨_, rfl, Ow.nil _ _ _ _, hRt.nw Ch.au, Ch.au⟩
            | (exfalso; rcases hc with k | k | k; exact h48 k; (rw [k] at h52; simp at h52); exact h56 k)
          · rw [if_neg hc]
            first
            | (exfalso; apply hc; first | exact .inl (by assumption) | exact .inr (.inl (by simpa using h52)) | exact .inr (.inr (by assumption)))
            | exact ⟨_, rfl, Ow.au, hRt.nw Ch.au, Ch.au⟩
        · refine W_skip ?_
          refine W_seq ?_
          refine W_region ?_
          refine L_r (r_mv) ?_
          refine L_r (r_av) ?_
          refine L_nil ?_
          refine W_ret ?_
          refine ret1 rfl (by conv => lhs; whnf) ?_
          have hi' : i = cn l (a, e) := by omega
          have hA : takeA l (a, e) = t := by unfold takeA; rw [← hi', ← ht]
          unfold takeL
          rw [hA]
          by_cases hc : t.st.2 ≠ 0 ∨ t.ok = false ∨ allI t.out ≠ 0
          · rw [if_pos hc]
            first
            | exact ⟨_, rfl, Ow.nil _ _ _ _, hRt.nw Ch.au, Ch.au⟩
            | (exfalso; rcases hc with k | k | k; exact h48 k; (rw [k] at h52; simp at h52); exact h56 k)
          · rw [if_neg hc]
            first
            | (exfalso; apply hc; first | exact .inl (by assumption) | exact .inr (.inl (by simpa using h52)) | exact .inr (.inr (by assumption)))
            | exact ⟨_, rfl, Ow.au, hRt.nw Ch.au, Ch.au⟩
end Go.Proofs.YtioonbfinnigpaaGreatDoor

