/- Instructions out of a text: the walk. -/
import Derived.Test.YtioonbfinnigpaaGreatDoorCode9
namespace Go.Proofs.YtioonbfinnigpaaGreatDoor
open Go Go.RowKit
set_option linter.unusedVariables false
set_option linter.unusedSimpArgs false
set_option maxRecDepth 100000
theorem readN_end {k : Nat} {s : ByteArray} {acc : List Ins} (h : s.size < k) (h0 : s = { data := #[] }) : readN k s acc = some acc := by
  cases k with
  | zero => omega
  | succ k => unfold readN; exact if_pos h0
theorem readN_no {k : Nat} {s : ByteArray} {acc : List Ins} (h : s.size < k) (h0 : ¬ s = { data := #[] }) (h1 : checkI (insL (oneL s)) ≠ 0 ∨ Lib.hasPrefix (bs s) (bs (linF (insL (oneL s)))) = false) : readN k s acc = none := by
  cases k with
  | zero => omega
  | succ k => unfold readN; rw [if_neg h0, if_pos h1]
theorem readN_on {k : Nat} {s : ByteArray} {acc : List Ins} (h : s.size < k) (h0 : ¬ s = { data := #[] }) (h1 : ¬ checkI (insL (oneL s)) ≠ 0) (h2 : Lib.hasPrefix (bs s) (bs (linF (insL (oneL s)))) = true) : readN k s acc = readN (k - 1) (restL s) (acc ++ [insL (oneL s)]) := by
  cases k with
  | zero => omega
  | succ k =>
    conv => lhs; unfold readN
    rw [if_neg h0, if_neg (by rintro (h | h); exact h1 h; rw [h2] at h; cases h)]; rfl
theorem oneL_le (s : ByteArray) : (oneL s).size ≤ s.size := by have := (cut_le (bs s) [10]).1; rw [bs_length] at this; exact this
theorem restL_le (s : ByteArray) : (restL s).size ≤ s.size := by have := (cut_le (bs s) [10]).2; rw [bs_length] at this; exact this
set_option maxHeartbeats 4000000 in
theorem iread_walk (base : Nat) (s0 : ByteArray) (w0 : World) (hG : Gv base w0) (hF : Fv base w0) (hE : Ev base w0) (hb : base ≤ w0.heap.size) (hs : s0.size ≤ 200000) : Does Tryz.prog 19 #[.string s0] w0 (fun r w' => ∃ v' e, r = .tuple #[v', .int .i64 e] ∧ (readL s0 = none → e = 42 ∧ v' = .slice none 0 0) ∧ (∀ z, readL s0 = some z → e = 0 ∧ Ow w' w0.heap.size 47 3 v' z.length (cellsI z)) ∧ Nw w0 w') := by
  have hGw := fun W (c : Nw w0 W) => hG.nw c hb
  have hFw := fun W (c : Nw w0 W) => hF.nw c hb
  have hEw := fun W (c : Nw w0 W) => hE.nw c hb
  refine fn_of (n := 63) (args := [.string s0]) Tryz.func19 rfl rfl rfl ?_
  refine W_seq ?_
  refine W_region ?_
  refine L_r (r_av) ?_
  refine L_r (r_ai rfl) ?_
  refine L_nil ?_
  refine W_seq ?_
  refine W_region ?_
  refine L_r (r_av) ?_
  refine L_nil ?_
  refine W_seq ?_
  refine W_block ?_
  refine W_loopF [] (fun mz_ f W => ∃ (s : ByteArray) (k : Nat) (acc : List Ins) (vo : Value), f 0 = .string s ∧ f 4 = vo ∧ (readL s0 = readN k s acc ∧ s.size < k ∧ acc.length + s.size ≤ s0.size ∧ Ow W w0.heap.size 47 3 vo acc.length (cellsI acc) ∧ Nw w0 W) ∧ mz_ = s.size) ?_ ?_
  · refine ⟨_, s0, s0.size + 1, [], .slice none 0 0, rfl, rfl, ?_, rfl⟩
    exact ⟨rfl, by omega, by show 0 + _ ≤ _; omega, Ow.nil _ _ _ _, Ch.au⟩
  rintro m0 g0 w1 ⟨s, k, acc, vo, hf0, hf4, hR0, rfl⟩
  refine W_as 0 hf0 rfl ?_
  refine W_as 4 hf4 rfl ?_
  clear hf0 hf4
  obtain ⟨hrd, hk, hac, hO, hnw⟩ := hR0
  have hz := hnw.size
  obtain ⟨q, hq⟩ : ∃ x, x = vo := ⟨_, rfl⟩
  refine W_seq ?_
  refine W_seq ?_
  refine W_region ?_
  refine L_r (r_ms rfl) ?_
  refine L_r (r_neqs rfl rfl) ?_
  refine L_nil ?_
  refine W_if rfl (fun h16 => ?_) (fun h16 => ?_)
  · have hol := oneL_le s
    have hre := restL_le s
    have hls := restL_less h16
    refine W_skip ?_
    refine W_block ?_
    refine W_seq ?_
    refine W_region ?_
    refine L_r (r_ms rfl) ?_
    refine L_call (.plain rfl) rfl rfl (r_call Tryz.func43 rfl rfl rfl (by rfl)) (cut_ex base s _ _ (by omega) (hGw _ Ch.au)) ?_
    rintro v19 w2 ⟨one, rst, f1, rfl, ⟨hone, hrst⟩, c2⟩
    have hz2 := c2.size
    have hone' : one = oneL s := hone
    have hrst' : rst = restL s := hrst
    subst hone'
    subst hrst'
    clear hone hrst
    refine L_r (r_mv) ?_
    refine L_r (r_ext3_0 rfl) ?_
    refine L_r (r_ext3_1 rfl) ?_
    refine L_r (r_ext3_2 rfl) ?_
    refine L_r (r_as rfl) ?_
    refine L_r (r_as rfl) ?_
    refine L_r (r_ab rfl) ?_
    refine L_nil ?_
    refine W_seq ?_
    refine W_region ?_
    refine L_r (r_ms rfl) ?_
    refine L_call (.plain rfl) rfl rfl (r_call Tryz.func43 rfl rfl rfl (by rfl)) (cut_ex base (oneL s) _ _ (by omega) (hGw _ Ch.au)) ?_
    rintro v25 w3 ⟨nam, arg, f2, rfl, ⟨hnam, harg⟩, c3⟩
    have hz3 := c3.size
    have hnl : nam.size ≤ 200000 := by { rw [hnam]; have h := (cut_le (bs (oneL s)) [32]).1; rw [bs_length] at h; exact Nat.le_trans h (by omega) }
    have hal : arg.size ≤ 200000 := by { rw [harg]; have h := (cut_le (bs (oneL s)) [32]).2; rw [bs_length] at h; exact Nat.le_trans h (by omega) }
    have hins : insL (oneL s) = insT' (takesF nam) nam arg := by { unfold insL; rw [hnam, harg]; rfl }
    clear hnam harg
    refine L_r (r_mv) ?_
    refine L_r (r_ext3_0 rfl) ?_
    refine L_r (r_ext3_1 rfl) ?_
    refine L_r (r_ext3_2 rfl) ?_
    refine L_r (r_as rfl) ?_
    refine L_r (r_as rfl) ?_
    refine L_r (r_ab rfl) ?_
    refine L_nil ?_
    refine W_seq ?_
    refine W_region ?_
    refine L_r (r_ms rfl) ?_
    refine L_r (r_build1 (pl := [(0, 1), (1, 1), (2, 1)]) (vs := [(0, .string _)]) (cells := [_, _, _]) Tryz.underlying47 rfl rfl (by rfl) rfl (by rfl)) ?_
    refine L_new (.plain rfl) rfl rfl (r_alloca rfl) (fun w4 b11 hb11 eb4 hs4 c4 => ?_)
    refine L_storerow (.plain rfl) rfl rfl Bk.au (by first | rfl | (simp; done) | assumption) (by first | rfl | assumption) (by first | rfl | (simp [Value.oneCell']; done) | assumption) (fun w5 hb5 hs5 c5 => ?_)
    refine L_nil ?_
    refine W_seq ?_
    refine W_seq ?_
    refine W_region ?_
    refine L_r (r_ms rfl) ?_
    refine L_call (.plain rfl) rfl rfl (r_call Tryz.func44 rfl rfl rfl (by rfl)) (takes_walk base nam _ (hGw _ Ch.au) (by omega)) ?_
    rintro v33 w6 ⟨rfl, c6⟩
    have hz6 := c6.size
    generalize takesF nam = tt at hins ⊢
    obtain ⟨ta, tb, tc⟩ := tt
    refine L_r (r_mv) ?_
    refine L_r (r_ext3_0 rfl) ?_
    refine L_r (r_ext3_1 rfl) ?_
    refine L_r (r_ext3_2 rfl) ?_
    refine L_r (r_ab rfl) ?_
    refine L_r (r_ab rfl) ?_
    refine L_r (r_ab rfl) ?_
    refine L_nil ?_
    refine W_seq ?_
    refine W_region ?_
    refine L_r (r_mb rfl) ?_
    refine L_nil ?_
    refine W_endF [0, 4, 6, 11] (fun f W => True ∧ (Bk W b11 #[.string nam, .int .i64 (if ta = true then parseV (bs arg) else 0), .string (if ta = true then { data := #[] } else if tb = true then arg else { data := #[] })] 47 ∧ Ow W w0.heap.size 47 3 vo acc.length (cellsI acc) ∧ Nw w0 W)) ?_ ?_
    · refine W_bool rfl (fun h37 => ?_) (fun h37 => ?_)
      · refine W_region ?_
        refine L_r (r_ms rfl) ?_
        refine L_call (.plain rfl) rfl rfl (r_call Tryz.func45 rfl rfl rfl (by rfl)) (parse_use base arg _ (by omega) (hEw _ Ch.au)) ?_
        rintro v40 w7 ⟨er, rfl, c7⟩
        have hz7 := c7.size
        refine L_r (r_mv) ?_
        refine L_r (r_ext2_0 rfl) ?_
        refine L_r (r_ext2_1 rfl) ?_
        refine L_r (r_fieldb Tryz.underlying47 rfl (show _ = some 1 from rfl) rfl rfl (show _ = 1 from rfl)) ?_
        refine L_set (.plain rfl) rfl Bk.au (r_store (v := .int _ _) rfl rfl rfl rfl Bk.au (by first | decide | (simp; done) | omega)) (fun w8 hb8 hs8 c8 => ?_)
        try simp only [List.setIfInBounds_toArray, List.set_cons_zero, List.set_cons_succ] at hb8
        refine L_nil ?_
        refine ⟨⟨fx2, fx2, fx2, fx2, trivial⟩, trivial, ?_⟩
        first
        | (have e : ta = true := h37
           rw [if_pos e, if_pos e]; exact ⟨Bk.au, Ow.au, Ch.au⟩)
        | (have e : ¬ ta = true := by rw [show ta = false from h37]; decide
           have e2 : tb = true := h44
           rw [if_neg e, if_neg e, if_pos e2]; exact ⟨Bk.au, Ow.au, Ch.au⟩)
        | (have e : ¬ ta = true := by rw [show ta = false from h37]; decide
           have e2 : ¬ tb = true := by rw [show tb = false from h44]; decide
           rw [if_neg e, if_neg e, if_neg e2]; exact ⟨Bk.au, Ow.au, Ch.au⟩)
      · refine W_seq ?_
        refine W_region ?_
        refine L_r (r_mb rfl) ?_
        refine L_nil ?_
        refine W_bool rfl (fun h44 => ?_) (fun h44 => ?_)
        · refine W_region ?_
          refine L_r (r_ms rfl) ?_
          refine L_r (r_fieldb Tryz.underlying47 rfl (show _ = some 1 from rfl) rfl rfl (show _ = 2 from rfl)) ?_
          refine L_set (.plain rfl) rfl Bk.au (r_store (v := .string _) rfl rfl rfl rfl Bk.au (by first | decide | (simp; done) | omega)) (fun w9 hb9 hs9 c9 => ?_)
          try simp only [List.setIfInBounds_toArray, List.set_cons_zero, List.set_cons_succ] at hb9
          refine L_nil ?_
          refine ⟨⟨fx2, fx2, fx2, fx2, trivial⟩, trivial, ?_⟩
          first
          | (have e : ta = true := h37
             rw [if_pos e, if_pos e]; exact ⟨Bk.au, Ow.au, Ch.au⟩)
          | (have e : ¬ ta = true := by rw [show ta = false from h37]; decide
             have e2 : tb = true := h44
             rw [if_neg e, if_neg e, if_pos e2]; exact ⟨Bk.au, Ow.au, Ch.au⟩)
          | (have e : ¬ ta = true := by rw [show ta = false from h37]; decide
             have e2 : ¬ tb = true := by rw [show tb = false from h44]; decide
             rw [if_neg e, if_neg e, if_neg e2]; exact ⟨Bk.au, Ow.au, Ch.au⟩)
        · refine W_skip ?_
          refine ⟨⟨fx2, fx2, fx2, fx2, trivial⟩, trivial, ?_⟩
          first
          | (have e : ta = true := h37
             rw [if_pos e, if_pos e]; exact ⟨Bk.au, Ow.au, Ch.au⟩)
          | (have e : ¬ ta = true := by rw [show ta = false from h37]; decide
             have e2 : tb = true := h44
             rw [if_neg e, if_neg e, if_pos e2]; exact ⟨Bk.au, Ow.au, Ch.au⟩)
          | (have e : ¬ ta = true := by rw [show ta = false from h37]; decide
             have e2 : ¬ tb = true := by rw [show tb = false from h44]; decide
             rw [if_neg e, if_neg e, if_neg e2]; exact ⟨Bk.au, Ow.au, Ch.au⟩)
    rintro gct37 w10 ⟨-, hCt37⟩
    obtain ⟨hbk, hO2, hnw2⟩ := hCt37
    have hz2 := hnw2.size
    clear hO
    obtain ⟨x, hx⟩ : ∃ x, x = insL (oneL s) := ⟨_, rfl⟩
    have hbx : Bk w10 b11 #[.string x.op, .int .i64 x.n, .string x.s] 47 := by rw [hx, hins]; exact hbk
    have hxn : -9223372036854775808 ≤ x.n ∧ x.n ≤ 9223372036854775807 := by
      rw [hx, hins]
      show _ ≤ (if ta = true then parseV (bs arg) else 0) ∧ (if ta = true then parseV (bs arg) else 0) ≤ _
      split
      · exact parseV_range _
      · omega
    have hxo : x.op.size ≤ 200000 := by rw [hx, hins]; exact hnl
    have hxs : x.s.size ≤ 200000 := by
      rw [hx, hins]
      show ByteArray.size (if ta = true then { data := #[] } else if tb = true then arg else { data := #[] }) ≤ _
      split
      · exact Nat.zero_le _
      · split
        · exact hal
        · exact Nat.zero_le _
    clear hbk hins
    refine W_seq ?_
    refine W_seq ?_
    refine W_region ?_
    refine L_r (r_loadrow Tryz.underlying47 rfl rfl Bk.au (by first | rfl | assumption)) ?_
    refine L_call (.plain rfl) rfl rfl (r_call Tryz.func46 rfl rfl rfl (by rfl)) (icheck_walk base x _ (hGw _ Ch.au) (by omega) (by omega)) ?_
    rintro v48 w11 ⟨rfl, c11⟩
    have hz11 := c11.size
    refine L_r (r_neq rfl rfl) ?_
    refine L_r (r_mb rfl) ?_
    refine L_case (d := 50) rfl (fun h50 => ?_) (fun h50 => ?_)
    · refine L_ps ?_
      refine L_ps ?_
      refine L_ps ?_
      refine L_ps ?_
      refine L_ps ?_
      refine L_r (r_pt rfl rfl) ?_
      refine L_nil ?_
      refine W_true rfl ?_
      refine W_seq ?_
      refine W_region ?_
      refine L_r (r_av) ?_
      refine L_r (r_ai rfl) ?_
      refine L_nil ?_
      refine W_ret ?_
      refine ret2 (v := .int _ _) rfl (by conv => lhs; whnf) rfl ?_
      by_cases h0 : s = { data := #[] }
      · have hen := readN_end (acc := acc) hk h0
        rw [hrd, hen]
        first
        | exact absurd h0 h16
        | exact ⟨_, _, rfl, fun h => (by cases h), fun z hz => (by injection hz with hz; subst hz; exact ⟨rfl, Ow.au⟩), Ch.au⟩
      · (try exact absurd (Classical.not_not.1 h16) h0)
        all_goals have hno := readN_no (acc := acc) hk h0 (by rw [← hx]; first | exact .inl (by assumption) | exact .inr (by simpa using h56))
        all_goals rw [hrd, hno]
        all_goals exact ⟨_, _, rfl, fun _ => ⟨rfl, rfl⟩, fun z hz => (by cases hz), Ch.au⟩
    · refine L_g (r_ms rfl) ?_
      refine L_g (r_loadrow Tryz.underlying47 rfl rfl Bk.au (by first | rfl | assumption)) ?_
      refine L_call (.yes 3 false rfl rfl) rfl rfl (r_call Tryz.func42 rfl rfl rfl (by rfl)) (line_walk base x _ (hGw _ Ch.au) (hFw _ Ch.au) (by omega) hxn (by omega) (by omega)) ?_
      rintro v53 w12 ⟨rfl, c12⟩
      have hz12 := c12.size
      refine L_call (.yes 3 false rfl rfl) rfl rfl (r_call Tryz.func47 rfl rfl rfl (by rfl)) (prefix_use s (linF x) _) ?_
      rintro v54 w13 ⟨rfl, rfl⟩
      refine L_g (r_not rfl) ?_
      refine L_r (r_pf rfl rfl) ?_
      refine L_nil ?_
      refine W_bool rfl (fun h56 => ?_) (fun h56 => ?_)
      · refine W_seq ?_
        refine W_region ?_
        refine L_r (r_av) ?_
        refine L_r (r_ai rfl) ?_
        refine L_nil ?_
        refine W_ret ?_
        refine ret2 (v := .int _ _) rfl (by conv => lhs; whnf) rfl ?_
        by_cases h0 : s = { data := #[] }
        · have hen := readN_end (acc := acc) hk h0
          rw [hrd, hen]
          first
          | exact absurd h0 h16
          | exact ⟨_, _, rfl, fun h => (by cases h), fun z hz => (by injection hz with hz; subst hz; exact ⟨rfl, Ow.au⟩), Ch.au⟩
        · (try exact absurd (Classical.not_not.1 h16) h0)
          all_goals have hno := readN_no (acc := acc) hk h0 (by rw [← hx]; first | exact .inl (by assumption) | exact .inr (by simpa using h56))
          all_goals rw [hrd, hno]
          all_goals exact ⟨_, _, rfl, fun _ => ⟨rfl, rfl⟩, fun z hz => (by cases hz), Ch.au⟩
      · refine W_skip ?_
        refine W_region ?_
        refine L_r (r_mv) ?_
        refine L_r (r_loadrow Tryz.underlying47 rfl rfl Bk.au (by first | rfl | assumption)) ?_
        refine L_buildrow [[_, _, _]] Tryz.underlying22 (show _ = some (some _, 3, _) from rfl) rfl rfl (.plain rfl) rfl (by rfl) (by rfl) rfl (fun b59 w14 hb59 hv59 eb14 hs14 c14 => ?_)
        simp only [List.flatten_cons, List.flatten_nil, List.append_nil, List.cons_append, List.nil_append] at hb59 hv59
        refine L_apow Tryz.underlying22 ins_info rfl (by decide) (.plain rfl) rfl (by conv => lhs; whnf) (by conv => lhs; whnf) Ow.au Sl.au (by intro y hy; simp at hy; rcases hy with rfl | rfl | rfl <;> rfl) (by unfold maxLen; omega) (by omega) (by omega) (fun v60 w15 ho60 c15 hob60 => ?_)
        have hz15 := c15.size
        clear hq
        obtain ⟨q, hq⟩ : ∃ x, x = v60 := ⟨_, rfl⟩
        refine L_r (r_ms rfl) ?_
        refine L_r (r_av) ?_
        refine L_r (r_as rfl) ?_
        refine L_nil ?_
        refine ⟨trivial, _, ?_, restL s, k - 1, acc ++ [x], q, rfl, (by exact hq.symm), ?_, rfl⟩
        · exact restL_less h16
        have hls := restL_less h16
        have hon := readN_on (acc := acc) hk h16 (by rw [← hx]; exact h50) (by rw [← hx]; simpa using h56)
        rw [← hx] at hon
        subst hq
        refine ⟨hrd.trans hon, by omega, by rw [List.length_append]; show _ + 1 + _ ≤ _; omega, ?_, Ch.au⟩
        rw [List.length_append, cellsI_append]
        exact ho60
  · refine W_exit ?_
    repeat (first | refine blk_hit ?_ | refine blk_miss rfl ?_)
    refine W_seq ?_
    refine W_region ?_
    refine L_r (r_mv) ?_
    refine L_r (r_av) ?_
    refine L_r (r_ai rfl) ?_
    refine L_nil ?_
    refine W_ret ?_
    refine ret2 (v := .int _ _) rfl (by conv => lhs; whnf) rfl ?_
    by_cases h0 : s = { data := #[] }
    · have hen := readN_end (acc := acc) hk h0
      rw [hrd, hen]
      first
      | exact absurd h0 h16
      | exact ⟨_, _, rfl, fun h => (by cases h), fun z hz => (by injection hz with hz; subst hz; exact ⟨rfl, Ow.au⟩), Ch.au⟩
    · (try exact absurd (Classical.not_not.1 h16) h0)
      all_goals have hno := readN_no (acc := acc) hk h0 (by rw [← hx]; first | exact .inl (by assumption) | exact .inr (by simpa using h56))
      all_goals rw [hrd, hno]
      all_goals exact ⟨_, _, rfl, fun _ => ⟨rfl, rfl⟩, fun z hz => (by cases hz), Ch.au⟩
end Go.Proofs.YtioonbfinnigpaaGreatDoor

