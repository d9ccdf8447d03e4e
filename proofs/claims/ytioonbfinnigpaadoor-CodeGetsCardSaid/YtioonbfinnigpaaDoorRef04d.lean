/- Instructions that bytes begin with, by the document; walked. -/
import Derived.Test.YtioonbfinnigpaaDoorRef04b
import Derived.Test.YtioonbfinnigpaaDoorPackG
import Derived.Test.YtioonbfinnigpaaDoorCode6
namespace Go.Proofs.YtioonbfinnigpaaDoor
open Go Go.RowKit
set_option linter.unusedVariables false
set_option linter.unusedSimpArgs false
set_option maxRecDepth 100000
theorem tk_rowB : ((List.range 42).all fun k => decide (takesF (opT.getD k default).1 = ((opT.getD k default).2.1, (opT.getD k default).2.2, true))) = true := by decide +kernel
theorem tk_row {k : Nat} (hk : k < 42) : takesF (opT.getD k default).1 = ((opT.getD k default).2.1, (opT.getD k default).2.2, true) := of_decide_eq_true (List.all_eq_true.1 tk_rowB k (List.mem_range.2 hk))
theorem nmL_at {k : Nat} (hk : k < 42) : nmL[k]? = some (.string (opT.getD k default).1) := by
  have h : k < opT.length := by rw [opT_len]; exact hk
  show (opT.map fun o => Value.string o.1)[k]? = _
  rw [List.getElem?_map, List.getD_eq_getElem?_getD, List.getElem?_eq_getElem h]; rfl
/-- An instruction's rest: the number or the text, ahead of what is behind. -/
def rRest (o : ByteArray × Bool × Bool) (m : List UInt8) : Option (Ins × List UInt8) :=
  if rtI (o.2.1, o.2.2, true) = 1 then (if (rdF 1 0 m).1 ≠ 0 then none else some (⟨o.1, (rdF 1 0 m).2.1.i, { data := #[] }⟩, m.drop (rdF 1 0 m).2.2))
  else if rtI (o.2.1, o.2.2, true) = 2 then (if (rdF 4 0 m).1 ≠ 0 then none else some (⟨o.1, 0, (rdF 4 0 m).2.1.s⟩, m.drop (rdF 4 0 m).2.2))
  else some (⟨o.1, 0, { data := #[] }⟩, m)
def rChk : Option (Ins × List UInt8) → Option (Ins × List UInt8)
  | none => none
  | some (x, m) => if checkI x ≠ 0 then none else some (x, m)
def rItem (m : List UInt8) : Option (Ins × List UInt8) :=
  if (numL 0 m).1 ≠ 0 ∨ 42 ≤ (numL 0 m).2.1 then none else rChk (rRest (opT.getD (numL 0 m).2.1 default) (m.drop (numL 0 m).2.2))
def rItems : Nat → List UInt8 → List Ins → Option (List Ins × List UInt8)
  | 0, m, out => some (out, m)
  | n + 1, m, out => match rItem m with
    | none => none
    | some (x, m') => rItems n m' (out ++ [x])
/-- What the document takes of bytes. -/
def rTake (l : List UInt8) : Option (List Ins × List UInt8) := if (countR 200 l).1 ≠ 0 then none else rItems (countR 200 l).2.1 (l.drop (countR 200 l).2.2) []
theorem num_ex (s : ByteArray) (w : World) : Does Tryd.prog 36 #[.string s] w fun r w' => ∃ (v : Nat) (s' : ByteArray) (e : Int), r = .tuple #[.int .u64 (v : Int), .string s', .int .i64 e] ∧ (e = (numL 0 (bs s)).1 ∧ (e = 0 → v = (numL 0 (bs s)).2.1 ∧ bs s' = (bs s).drop (numL 0 (bs s)).2.2) ∧ s'.size ≤ s.size) ∧ Nw w w' := by
  refine (rnum_walk s w).mono ?_
  rintro r w' ⟨rfl, c⟩
  unfold numV
  by_cases h : (numL 0 (bs s)).1 = 0
  · rw [if_pos h]
    refine ⟨_, _, _, rfl, ⟨h.symm, fun _ => ⟨rfl, bs_extract_l _ _⟩, ?_⟩, c⟩
    rw [← bs_length, bs_extract_l, List.length_drop, bs_length]; omega
  · rw [if_neg h]
    exact ⟨0, s, _, rfl, ⟨rfl, fun h' => absurd h' h, Nat.le_refl _⟩, c⟩
theorem get_ex (kind most : Int) (s : ByteArray) (w0 : World) (hm : -9223372036854775808 ≤ most ∧ most ≤ 9223372036854775807) (hs : s.size ≤ 100000000) :
    Does Tryd.prog 35 #[.int .i64 kind, .int .i64 most, .string s] w0 fun r w' => ∃ (f : Fld) (s' : ByteArray) (e : Int), r = .tuple #[.agg #[.int .i64 f.kind, .int .i64 f.most, .int .u64 (f.n : Int), .int .i64 f.i, .bool f.yes, .string f.s], .string s', .int .i64 e] ∧ (e = (rdF kind most (bs s)).1 ∧ (e = 0 → f = (rdF kind most (bs s)).2.1 ∧ bs s' = (bs s).drop (rdF kind most (bs s)).2.2) ∧ s'.size ≤ s.size) ∧ Nw w0 w' := by
  refine (rget_walk kind most s w0 hm hs).mono ?_
  rintro r w' ⟨rfl, c⟩
  unfold getV
  by_cases h : (rdF kind most (bs s)).1 = 0
  · rw [if_pos h]
    refine ⟨_, _, _, rfl, ⟨h.symm, fun _ => ⟨rfl, bs_extract_l _ _⟩, ?_⟩, c⟩
    rw [← bs_length, bs_extract_l, List.length_drop, bs_length]; omega
  · rw [if_neg h]
    exact ⟨Fld.none kind most, s, _, rfl, ⟨rfl, fun h' => absurd h' h, Nat.le_refl _⟩, c⟩
theorem rd_count_n {most : Int} {m : List UInt8} (h : (rdF 2 most m).1 = 0) : (countR most m).1 = 0 ∧ (rdF 2 most m).2.1.n = (countR most m).2.1 ∧ (rdF 2 most m).2.2 = (countR most m).2.2 := by
  rw [rk_2 rfl] at h ⊢
  exact ⟨h, rfl, rfl⟩
theorem rd_count_e {most : Int} {m : List UInt8} : (rdF 2 most m).1 = (countR most m).1 := by rw [rk_2 rfl]
theorem rItem_bad {m : List UInt8} (h : (numL 0 m).1 ≠ 0 ∨ 42 ≤ (numL 0 m).2.1) : rItem m = none := if_pos h
theorem rItem_on {m : List UInt8} (h : ¬ ((numL 0 m).1 ≠ 0 ∨ 42 ≤ (numL 0 m).2.1)) : rItem m = rChk (rRest (opT.getD (numL 0 m).2.1 default) (m.drop (numL 0 m).2.2)) := if_neg h
theorem rItems_bad {n : Nat} {m : List UInt8} {out : List Ins} (h0 : 0 < n) (h : rItem m = none) : rItems n m out = none := by
  cases n with
  | zero => omega
  | succ n => unfold rItems; rw [h]
theorem rItems_on {n : Nat} {m m' : List UInt8} {out : List Ins} {x : Ins} (h0 : 0 < n) (h : rItem m = some (x, m')) : rItems n m out = rItems (n - 1) m' (out ++ [x]) := by
  cases n with
  | zero => omega
  | succ n => conv => lhs; unfold rItems
              rw [h]; rfl
theorem textR_ln (m : List UInt8) : (rdF 4 0 m).2.1.s.size ≤ 4096 := by
  have e : rdF 4 0 m = ((textR m).1, { Fld.none 4 0 with s := sb (textR m).2.1 }, (textR m).2.2) := rd_t (by decide) (by decide) (by decide) (by decide)
  rw [e]
  show (sb (textR m).2.1).size ≤ _
  rw [sb_size]
  unfold textR
  split
  · exact Nat.zero_le _
  · split
    · exact Nat.zero_le _
    · split
      · exact Nat.zero_le _
      · split
        · show (List.take _ _).length ≤ _
          rw [List.length_take]; omega
        · exact Nat.zero_le _
set_option maxHeartbeats 4000000 in
theorem rtake04_walk (s : ByteArray) (w0 : World) (hs : s.size ≤ 1000000) : Does Tryd.prog 16 #[.string s] w0 (fun r w' => ∃ v' s' b, r = .tuple #[v', .string s', .bool b] ∧ (rTake (bs s) = none → b = false) ∧ (∀ z m, rTake (bs s) = some (z, m) → b = true ∧ s' = sb m ∧ Ow w' w0.heap.size 23 3 v' z.length (cellsI z)) ∧ Nw w0 w') := by
  refine fn_of (n := 93) (args := [.string s]) Tryd.func16 rfl rfl rfl ?_
  refine W_seq ?_
  refine W_region ?_
  refine L_r (r_av) ?_
  refine L_r (r_as rfl) ?_
  refine L_r (r_ab rfl) ?_
  refine L_nil ?_
  refine W_seq ?_
  refine W_region ?_
  refine L_build0 (sz := 3) Tryd.underlying25 rfl (.plain rfl) rfl (fun v20 w1 ho20 eb1 nl20 hs1 c1 => ?_)
  refine L_r (r_av) ?_
  refine L_nil ?_
  refine W_seq ?_
  refine W_region ?_
  refine L_r (r_ms rfl) ?_
  refine L_call (.plain rfl) rfl rfl (r_call Tryd.func35 rfl rfl rfl (by rfl)) (get_ex 2 200 s _ (by decide) (by omega)) ?_
  rintro v23 w2 ⟨fl, m0, e0, rfl, ⟨he0, hf0, hms0⟩, c2⟩
  have hz2 := c2.size
  refine L_r (r_mv) ?_
  refine L_r (r_ext3_0 rfl) ?_
  refine L_r (r_ext3_1 rfl) ?_
  refine L_r (r_ext3_2 rfl) ?_
  refine L_new (.plain rfl) rfl rfl (r_alloca rfl) (fun w3 b6 hb6 eb3 hs3 c3 => ?_)
  refine L_storerow (.plain rfl) rfl rfl Bk.au (by first | rfl | (simp; done) | assumption) (by first | rfl | assumption) (by first | rfl | (simp [Value.oneCell']; done) | assumption) (fun w4 hb4 hs4 c4 => ?_)
  refine L_r (r_as rfl) ?_
  refine L_r (r_ai rfl) ?_
  refine L_nil ?_
  refine W_seq ?_
  refine W_seq ?_
  refine W_region ?_
  refine L_r (r_mi rfl) ?_
  refine L_r (r_neq rfl rfl) ?_
  refine L_nil ?_
  refine W_if rfl (fun h28 => ?_) (fun h28 => ?_)
  · have hno : rTake (bs s) = none := by unfold rTake; rw [if_pos (by rw [← rd_count_e, ← he0]; exact h28)]
    refine W_seq ?_
    refine W_region ?_
    refine L_r (r_av) ?_
    refine L_r (r_as rfl) ?_
    refine L_r (r_ab rfl) ?_
    refine L_nil ?_
    refine W_ret ?_
    refine ret3 (v := .string _) (x := .bool _) rfl (by conv => lhs; whnf) rfl rfl ?_
    first
    | (rw [hno]
       exact ⟨_, _, _, rfl, fun _ => rfl, fun z m h => (by cases h), Ch.au⟩)
    | (have hen : rTake (bs s) = some (out, bs m) := by rw [hri, show fl.n - i = 0 by omega]; rfl
       rw [hen]
       exact ⟨_, _, _, rfl, fun h => (by cases h), fun z m' h => (by injection h with h; injection h with h1 h2; subst h1; subst h2; exact ⟨rfl, (sb_bs _).symm, Ow.au⟩), Ch.au⟩)
  · have hz0 : e0 = 0 := Classical.not_not.1 h28
    obtain ⟨hfe, hbm0⟩ := hf0 hz0
    obtain ⟨hc1, hc2, hc3⟩ := rd_count_n (m := bs s) (by rw [← he0]; exact hz0)
    have hrt : rTake (bs s) = rItems fl.n (bs m0) [] := by unfold rTake; rw [if_neg (by rw [hc1]; decide), hbm0, hfe, hc2, hc3]
    have hn200 : fl.n ≤ 200 := by
      rw [hfe, hc2]
      unfold countR at hc1 ⊢
      split at hc1
      · exact absurd hc1 (by decide)
      · rename_i hn
        rw [if_neg hn]
        have : ¬ ((200 : Int) < 0 ∨ (200 : Int) < (numL 0 (bs s)).2.1 ∨ (bs s).length - (numL 0 (bs s)).2.2 < (numL 0 (bs s)).2.1) := fun h => hn ⟨hc1, h⟩
        omega
    clear hfe
    refine W_skip ?_
    refine W_seq ?_
    refine W_seq ?_
    refine W_region ?_
    refine L_r (r_ai rfl) ?_
    refine L_nil ?_
    refine W_block ?_
    refine W_loopF [6] (fun mz_ f W => ∃ (i : Nat) (m : ByteArray) (out : List Ins) (vo : Value), f 9 = .int .u64 (i : Int) ∧ f 7 = .string m ∧ f 5 = vo ∧ (i ≤ fl.n ∧ rTake (bs s) = rItems (fl.n - i) (bs m) out ∧ Ow W w0.heap.size 23 3 vo out.length (cellsI out) ∧ out.length ≤ i ∧ m.size ≤ s.size ∧ Bk W b6 #[.int .i64 fl.kind, .int .i64 fl.most, .int .u64 (fl.n : Int), .int .i64 fl.i, .bool fl.yes, .string fl.s] 63 ∧ Nw w0 W) ∧ mz_ = fl.n - i) ?_ ?_
    · refine ⟨_, 0, m0, [], _, rfl, rfl, rfl, ?_, rfl⟩
      exact ⟨by omega, hrt, Ow.au, Nat.le_refl _, by omega, Bk.au, Ch.au⟩
    rintro m0 g0 w5 ⟨i, m, out, vo, hf9, hf7, hf5, hR0, rfl⟩
    refine W_as 9 hf9 rfl ?_
    refine W_as 7 hf7 rfl ?_
    refine W_as 5 hf5 rfl ?_
    clear hf9 hf7 hf5
    obtain ⟨hi, hri, hO, hol, hml, hbf, hnw⟩ := hR0
    have hz := hnw.size
    obtain ⟨q, hq⟩ : ∃ x, x = vo := ⟨_, rfl⟩
    refine W_seq ?_
    refine W_seq ?_
    refine W_region ?_
    refine L_r (r_mi rfl) ?_
    refine L_r (r_fieldb Tryd.underlying63 rfl (show _ = some 1 from rfl) rfl rfl (show _ = 2 from rfl)) ?_
    refine L_r (r_lb rfl rfl) ?_
    refine L_r (r_lss rfl rfl) ?_
    refine L_nil ?_
    refine W_if rfl (fun h32 => ?_) (fun h32 => ?_)
    · refine W_skip ?_
      refine W_seq ?_
      refine W_block ?_
      refine W_seq ?_
      refine W_region ?_
      refine L_r (r_ms rfl) ?_
      refine L_call (.plain rfl) rfl rfl (r_call Tryd.func36 rfl rfl rfl (by rfl)) (num_ex m _) ?_
      rintro v37 w6 ⟨nv, a1, e1, rfl, ⟨he1, hn1, hms1⟩, c6⟩
      have hz6 := c6.size
      refine L_r (r_mv) ?_
      refine L_r (r_ext3_0 rfl) ?_
      refine L_r (r_ext3_1 rfl) ?_
      refine L_r (r_ext3_2 rfl) ?_
      refine L_r (r_ai rfl) ?_
      refine L_r (r_as rfl) ?_
      refine L_r (r_ai rfl) ?_
      refine L_nil ?_
      refine W_seq ?_
      refine W_seq ?_
      refine W_region ?_
      refine L_r (r_mi rfl) ?_
      refine L_r (r_neq rfl rfl) ?_
      refine L_r (r_mb rfl) ?_
      refine L_case (d := 43) rfl (fun h43 => ?_) (fun h43 => ?_)
      · have hno : rTake (bs s) = none := by rw [hri]; exact rItems_bad (by omega) (rItem_bad (.inl (by rw [← he1]; exact h43)))
        refine L_ps ?_
        refine L_ps ?_
        refine L_r (r_pt rfl rfl) ?_
        refine L_nil ?_
        refine W_true rfl ?_
        refine W_seq ?_
        refine W_region ?_
        refine L_r (r_av) ?_
        refine L_r (r_as rfl) ?_
        refine L_r (r_ab rfl) ?_
        refine L_nil ?_
        refine W_ret ?_
        refine ret3 (v := .string _) (x := .bool _) rfl (by conv => lhs; whnf) rfl rfl ?_
        first
        | (rw [hno]
           exact ⟨_, _, _, rfl, fun _ => rfl, fun z m h => (by cases h), Ch.au⟩)
        | (have hen : rTake (bs s) = some (out, bs m) := by rw [hri, show fl.n - i = 0 by omega]; rfl
           rw [hen]
           exact ⟨_, _, _, rfl, fun h => (by cases h), fun z m' h => (by injection h with h; injection h with h1 h2; subst h1; subst h2; exact ⟨rfl, (sb_bs _).symm, Ow.au⟩), Ch.au⟩)
      · refine L_g (r_mi rfl) ?_
        refine L_g (r_geq rfl rfl) ?_
        refine L_r (r_pf rfl rfl) ?_
        refine L_nil ?_
        refine W_if rfl (fun h46 => ?_) (fun h46 => ?_)
        · obtain ⟨hn1a, hn1b⟩ := hn1 (Classical.not_not.1 h43)
          have hno : rTake (bs s) = none := by rw [hri]; exact rItems_bad (by omega) (rItem_bad (.inr (by rw [← hn1a]; omega)))
          refine W_seq ?_
          refine W_region ?_
          refine L_r (r_av) ?_
          refine L_r (r_as rfl) ?_
          refine L_r (r_ab rfl) ?_
          refine L_nil ?_
          refine W_ret ?_
          refine ret3 (v := .string _) (x := .bool _) rfl (by conv => lhs; whnf) rfl rfl ?_
          first
          | (rw [hno]
             exact ⟨_, _, _, rfl, fun _ => rfl, fun z m h => (by cases h), Ch.au⟩)
          | (have hen : rTake (bs s) = some (out, bs m) := by rw [hri, show fl.n - i = 0 by omega]; rfl
             rw [hen]
             exact ⟨_, _, _, rfl, fun h => (by cases h), fun z m' h => (by injection h with h; injection h with h1 h2; subst h1; subst h2; exact ⟨rfl, (sb_bs _).symm, Ow.au⟩), Ch.au⟩)
        · obtain ⟨hn1a, hn1b⟩ := hn1 (Classical.not_not.1 h43)
          have hk42 : nv < 42 := by omega
          have hon := rItem_on (m := bs m) (by rw [← he1, ← hn1a]; omega)
          rw [← hn1a, ← hn1b] at hon
          have hnm := nmL_at hk42
          have htr := tk_row hk42
          generalize opT.getD nv default = o at hon hnm htr
          have hrt2 := rtakes_walk o.1
          rw [htr] at hrt2
          unfold rRest at hon
          generalize rtI (o.2.1, o.2.2, true) = r at hon hrt2
          obtain ⟨xg, hxg⟩ : ∃ x : Ins, x = ⟨o.1, 0, { data := #[] }⟩ := ⟨_, rfl⟩
          refine W_skip ?_
          refine W_seq ?_
          refine W_region ?_
          refine L_call (.plain rfl) rfl rfl (r_call Tryd.func14 rfl rfl rfl (by rfl)) (rops_walk _) ?_
          rintro v47 w7 ⟨_, rfl, hOp, c7⟩
          have hz7 := c7.size
          refine L_r (r_mi rfl) ?_
          refine L_r (r_ix Tryd.underlying33 (show _ = some 1 from rfl) (by conv => lhs; whnf) rfl Sl.au) ?_
          refine L_r (r_loadSl rfl rfl Sl.au (by exact hnm)) ?_
          refine L_r (r_build1 (pl := [(0, 1), (1, 1), (2, 1)]) (vs := [(0, .string _)]) (cells := [_, _, _]) Tryd.underlying23 rfl rfl (by rfl) rfl (by rfl)) ?_
          refine L_new (.plain rfl) rfl rfl (r_alloca rfl) (fun w8 b13 hb13 eb8 hs8 c8 => ?_)
          refine L_storerow (.plain rfl) rfl rfl Bk.au (by first | rfl | (simp; done) | assumption) (by first | rfl | assumption) (by first | rfl | (simp [Value.oneCell']; done) | assumption) (fun w9 hb9 hs9 c9 => ?_)
          refine L_nil ?_
          refine W_seq ?_
          refine W_seq ?_
          refine W_region ?_
          refine L_r (r_fieldb Tryd.underlying23 rfl (show _ = some 1 from rfl) rfl rfl (show _ = 0 from rfl)) ?_
          refine L_r (r_lb rfl rfl) ?_
          refine L_call (.plain rfl) rfl rfl (r_call Tryd.func10 rfl rfl rfl (by rfl)) (hrt2 _) ?_
          rintro v54 w10 ⟨rfl, c10⟩
          have hz10 := c10.size
          refine L_nil ?_
          refine W_endF [5, 6, 9, 13] (fun f W => ∃ (x : Ins) (a2 : ByteArray), f 11 = .string a2 ∧ (rItem (bs m) = rChk (some (x, bs a2)) ∧ x.s.size ≤ 5000 ∧ Bk W b13 #[.string x.op, .int .i64 x.n, .string x.s] 23 ∧ Bk W b6 #[.int .i64 fl.kind, .int .i64 fl.most, .int .u64 (fl.n : Int), .int .i64 fl.i, .bool fl.yes, .string fl.s] 63 ∧ Ow W w0.heap.size 23 3 vo out.length (cellsI out) ∧ a2.size ≤ m.size ∧ Nw w0 W)) ?_ ?_
          · refine W_block ?_
            refine W_seq ?_
            refine W_region ?_
            refine L_r (r_eql rfl rfl) ?_
            refine L_r (r_ab rfl) ?_
            refine L_nil ?_
            refine W_if rfl (fun h55 => ?_) (fun h55 => ?_)
            · refine W_seq ?_
              refine W_region ?_
              refine L_r (r_ms rfl) ?_
              refine L_call (.plain rfl) rfl rfl (r_call Tryd.func35 rfl rfl rfl (by rfl)) (get_ex 1 0 a1 _ (by decide) (by omega)) ?_
              rintro v59 w11 ⟨f1, a3, e2, rfl, ⟨he2, hf2, hms2⟩, c11⟩
              have hz11 := c11.size
              refine L_r (r_mv) ?_
              refine L_r (r_ext3_0 rfl) ?_
              refine L_r (r_ext3_1 rfl) ?_
              refine L_r (r_ext3_2 rfl) ?_
              refine L_new (.plain rfl) rfl rfl (r_alloca rfl) (fun w12 b14 hb14 eb12 hs12 c12 => ?_)
              refine L_storerow (.plain rfl) rfl rfl Bk.au (by first | rfl | (simp; done) | assumption) (by first | rfl | assumption) (by first | rfl | (simp [Value.oneCell']; done) | assumption) (fun w13 hb13 hs13 c13 => ?_)
              refine L_r (r_as rfl) ?_
              refine L_r (r_ai rfl) ?_
              refine L_nil ?_
              refine W_seq ?_
              refine W_seq ?_
              refine W_region ?_
              refine L_r (r_mi rfl) ?_
              refine L_r (r_neq rfl rfl) ?_
              refine L_nil ?_
              refine W_if rfl (fun h64 => ?_) (fun h64 => ?_)
              · have hno : rTake (bs s) = none := by rw [hri]; exact rItems_bad (by omega) (by rw [hon, if_pos (by assumption), if_pos (by rw [← he2]; exact h64)]; rfl)
                refine W_seq ?_
                refine W_region ?_
                refine L_r (r_av) ?_
                refine L_r (r_as rfl) ?_
                refine L_r (r_ab rfl) ?_
                refine L_nil ?_
                refine W_ret ?_
                refine ret3 (v := .string _) (x := .bool _) rfl (by conv => lhs; whnf) rfl rfl ?_
                first
                | (rw [hno]
                   exact ⟨_, _, _, rfl, fun _ => rfl, fun z m h => (by cases h), Ch.au⟩)
                | (have hen : rTake (bs s) = some (out, bs m) := by rw [hri, show fl.n - i = 0 by omega]; rfl
                   rw [hen]
                   exact ⟨_, _, _, rfl, fun h => (by cases h), fun z m' h => (by injection h with h; injection h with h1 h2; subst h1; subst h2; exact ⟨rfl, (sb_bs _).symm, Ow.au⟩), Ch.au⟩)
              · obtain ⟨hf2a, hf2b⟩ := hf2 (Classical.not_not.1 h64)
                clear hxg
                obtain ⟨xg, hxg⟩ : ∃ x : Ins, x = ⟨o.1, f1.i, { data := #[] }⟩ := ⟨_, rfl⟩
                have hon2 : rItem (bs m) = rChk (some (xg, bs a3)) := by rw [hon, if_pos (by assumption), if_neg (by rw [← he2]; exact h64), hf2b, hxg, hf2a]
                refine W_skip ?_
                refine W_region ?_
                refine L_r (r_fieldb Tryd.underlying63 rfl (show _ = some 1 from rfl) rfl rfl (show _ = 3 from rfl)) ?_
                refine L_r (r_lb rfl rfl) ?_
                refine L_r (r_ms rfl) ?_
                refine L_r (r_fieldb Tryd.underlying23 rfl (show _ = some 1 from rfl) rfl rfl (show _ = 1 from rfl)) ?_
                refine L_set (.plain rfl) rfl Bk.au (r_store (v := .int _ _) rfl rfl rfl rfl Bk.au (by first | decide | (simp; done) | omega)) (fun w14 hb14 hs14 c14 => ?_)
                try simp only [List.setIfInBounds_toArray, List.set_cons_zero, List.set_cons_succ] at hb14
                refine L_r (r_as rfl) ?_
                refine L_nil ?_
                refine ⟨⟨fx2, fx2, fx2, fx2, trivial⟩, xg, _, rfl, ?_⟩
                have h05 : ({ data := #[] } : ByteArray).size ≤ 5000 := by decide
                first
                | (refine ⟨hon2, ?_, ?_, Bk.au, Ow.au, by omega, Ch.au⟩
                   · rw [hxg]; first | exact h05 | exact Nat.le_trans hts (by decide)
                   · rw [hxg]; (exact Bk.au))
                | (refine ⟨?_, ?_, ?_, Bk.au, Ow.au, by omega, Ch.au⟩
                   · rw [hon, if_neg (by assumption), if_neg (by assumption), hxg]
                   · rw [hxg]; exact h05
                   · rw [hxg]; (exact Bk.au))
            · refine W_seq ?_
              refine W_region ?_
              refine L_r (r_eql rfl rfl) ?_
              refine L_r (r_ab rfl) ?_
              refine L_nil ?_
              refine W_if rfl (fun h69 => ?_) (fun h69 => ?_)
              · refine W_seq ?_
                refine W_region ?_
                refine L_r (r_ms rfl) ?_
                refine L_call (.plain rfl) rfl rfl (r_call Tryd.func35 rfl rfl rfl (by rfl)) (get_ex 4 0 a1 _ (by decide) (by omega)) ?_
                rintro v73 w15 ⟨f1, a3, e2, rfl, ⟨he2, hf2, hms2⟩, c15⟩
                have hz15 := c15.size
                refine L_r (r_mv) ?_
                refine L_r (r_ext3_0 rfl) ?_
                refine L_r (r_ext3_1 rfl) ?_
                refine L_r (r_ext3_2 rfl) ?_
                refine L_new (.plain rfl) rfl rfl (r_alloca rfl) (fun w16 b17 hb17 eb16 hs16 c16 => ?_)
                refine L_storerow (.plain rfl) rfl rfl Bk.au (by first | rfl | (simp; done) | assumption) (by first | rfl | assumption) (by first | rfl | (simp [Value.oneCell']; done) | assumption) (fun w17 hb17 hs17 c17 => ?_)
                refine L_r (r_as rfl) ?_
                refine L_r (r_ai rfl) ?_
                refine L_nil ?_
                refine W_seq ?_
                refine W_seq ?_
                refine W_region ?_
                refine L_r (r_mi rfl) ?_
                refine L_r (r_neq rfl rfl) ?_
                refine L_nil ?_
                refine W_if rfl (fun h78 => ?_) (fun h78 => ?_)
                · have hno : rTake (bs s) = none := by rw [hri]; exact rItems_bad (by omega) (by rw [hon, if_neg (by assumption), if_pos (by assumption), if_pos (by rw [← he2]; exact h78)]; rfl)
                  refine W_seq ?_
                  refine W_region ?_
                  refine L_r (r_av) ?_
                  refine L_r (r_as rfl) ?_
                  refine L_r (r_ab rfl) ?_
                  refine L_nil ?_
                  refine W_ret ?_
                  refine ret3 (v := .string _) (x := .bool _) rfl (by conv => lhs; whnf) rfl rfl ?_
                  first
                  | (rw [hno]
                     exact ⟨_, _, _, rfl, fun _ => rfl, fun z m h => (by cases h), Ch.au⟩)
                  | (have hen : rTake (bs s) = some (out, bs m) := by rw [hri, show fl.n - i = 0 by omega]; rfl
                     rw [hen]
                     exact ⟨_, _, _, rfl, fun h => (by cases h), fun z m' h => (by injection h with h; injection h with h1 h2; subst h1; subst h2; exact ⟨rfl, (sb_bs _).symm, Ow.au⟩), Ch.au⟩)
                · obtain ⟨hf2a, hf2b⟩ := hf2 (Classical.not_not.1 h78)
                  have hts := textR_ln (bs a1)
                  rw [← hf2a] at hts
                  clear hxg
                  obtain ⟨xg, hxg⟩ : ∃ x : Ins, x = ⟨o.1, 0, f1.s⟩ := ⟨_, rfl⟩
                  have hon2 : rItem (bs m) = rChk (some (xg, bs a3)) := by rw [hon, if_neg (by assumption), if_pos (by assumption), if_neg (by rw [← he2]; exact h78), hf2b, hxg, hf2a]
                  refine W_skip ?_
                  refine W_region ?_
                  refine L_r (r_fieldb Tryd.underlying63 rfl (show _ = some 1 from rfl) rfl rfl (show _ = 5 from rfl)) ?_
                  refine L_r (r_lb rfl rfl) ?_
                  refine L_r (r_ms rfl) ?_
                  refine L_r (r_fieldb Tryd.underlying23 rfl (show _ = some 1 from rfl) rfl rfl (show _ = 2 from rfl)) ?_
                  refine L_set (.plain rfl) rfl Bk.au (r_store (v := .string _) rfl rfl rfl rfl Bk.au (by first | decide | (simp; done) | omega)) (fun w18 hb18 hs18 c18 => ?_)
                  try simp only [List.setIfInBounds_toArray, List.set_cons_zero, List.set_cons_succ] at hb18
                  refine L_r (r_as rfl) ?_
                  refine L_nil ?_
                  refine ⟨⟨fx2, fx2, fx2, fx2, trivial⟩, xg, _, rfl, ?_⟩
                  have h05 : ({ data := #[] } : ByteArray).size ≤ 5000 := by decide
                  first
                  | (refine ⟨hon2, ?_, ?_, Bk.au, Ow.au, by omega, Ch.au⟩
                     · rw [hxg]; first | exact h05 | exact Nat.le_trans hts (by decide)
                     · rw [hxg]; (exact Bk.au))
                  | (refine ⟨?_, ?_, ?_, Bk.au, Ow.au, by omega, Ch.au⟩
                     · rw [hon, if_neg (by assumption), if_neg (by assumption), hxg]
                     · rw [hxg]; exact h05
                     · rw [hxg]; (exact Bk.au))
              · refine W_skip ?_
                refine ⟨⟨fx2, fx2, fx2, fx2, trivial⟩, xg, _, rfl, ?_⟩
                have h05 : ({ data := #[] } : ByteArray).size ≤ 5000 := by decide
                first
                | (refine ⟨hon2, ?_, ?_, Bk.au, Ow.au, by omega, Ch.au⟩
                   · rw [hxg]; first | exact h05 | exact Nat.le_trans hts (by decide)
                   · rw [hxg]; (exact Bk.au))
                | (refine ⟨?_, ?_, ?_, Bk.au, Ow.au, by omega, Ch.au⟩
                   · rw [hon, if_neg (by assumption), if_neg (by assumption), hxg]
                   · rw [hxg]; exact h05
                   · rw [hxg]; (exact Bk.au))
          rintro gcb2 w19 ⟨x, a2, hf11, hCb2⟩
          refine W_as 11 hf11 rfl ?_
          clear hf11
          obtain ⟨hrx, hxs, hbx, hbf2, hO2, ha2, hnw2⟩ := hCb2
          have hz2 := hnw2.size
          have hnb6 : vo.ownBlock ≠ some b6 := ow_nb hO2 hbf2 (by decide)
          clear hO
          refine W_seq ?_
          refine W_seq ?_
          refine W_region ?_
          refine L_r (r_loadrow Tryd.underlying23 rfl rfl Bk.au (by first | rfl | assumption)) ?_
          refine L_call (.plain rfl) rfl rfl (r_call Tryd.func12 rfl rfl rfl (by rfl)) (rcheck04_walk x _ (by omega)) ?_
          rintro v84 w20 ⟨rfl, c20⟩
          have hz20 := c20.size
          refine L_r (r_neq rfl rfl) ?_
          refine L_nil ?_
          refine W_if rfl (fun h85 => ?_) (fun h85 => ?_)
          · have hno : rTake (bs s) = none := by rw [hri]; exact rItems_bad (by omega) (by rw [hrx]; exact if_pos h85)
            refine W_seq ?_
            refine W_region ?_
            refine L_r (r_av) ?_
            refine L_r (r_as rfl) ?_
            refine L_r (r_ab rfl) ?_
            refine L_nil ?_
            refine W_ret ?_
            refine ret3 (v := .string _) (x := .bool _) rfl (by conv => lhs; whnf) rfl rfl ?_
            first
            | (rw [hno]
               exact ⟨_, _, _, rfl, fun _ => rfl, fun z m h => (by cases h), Ch.au⟩)
            | (have hen : rTake (bs s) = some (out, bs m) := by rw [hri, show fl.n - i = 0 by omega]; rfl
               rw [hen]
               exact ⟨_, _, _, rfl, fun h => (by cases h), fun z m' h => (by injection h with h; injection h with h1 h2; subst h1; subst h2; exact ⟨rfl, (sb_bs _).symm, Ow.au⟩), Ch.au⟩)
          · refine W_skip ?_
            refine W_region ?_
            refine L_r (r_mv) ?_
            refine L_r (r_loadrow Tryd.underlying23 rfl rfl Bk.au (by first | rfl | assumption)) ?_
            refine L_buildrow [[_, _, _]] Tryd.underlying25 (show _ = some (some _, 3, _) from rfl) rfl rfl (.plain rfl) rfl (by rfl) (by rfl) rfl (fun b88 w21 hb88 hv88 eb21 hs21 c21 => ?_)
            simp only [List.flatten_cons, List.flatten_nil, List.append_nil, List.cons_append, List.nil_append] at hb88 hv88
            refine L_apow Tryd.underlying25 ins_info rfl (by decide) (.plain rfl) rfl (by conv => lhs; whnf) (by conv => lhs; whnf) Ow.au Sl.au (by intro y hy; simp at hy; rcases hy with rfl | rfl | rfl <;> rfl) (by unfold maxLen; omega) (by omega) (by omega) (fun v89 w22 ho89 c22 hob89 => ?_)
            have hz22 := c22.size
            clear hq
            obtain ⟨q, hq⟩ : ∃ x, x = v89 := ⟨_, rfl⟩
            refine L_r (r_ms rfl) ?_
            refine L_r (r_av) ?_
            refine L_r (r_as rfl) ?_
            refine L_nil ?_
            refine W_region ?_
            refine L_r (r_mi rfl) ?_
            refine L_r (r_add rfl rfl (by first | exact wr_u64 (by omega) | rfl)) ?_
            refine L_r (r_ai rfl) ?_
            refine L_nil ?_
            refine ⟨⟨fx2, trivial⟩, _, ?_, i + 1, a2, out ++ [x], q, rfl, rfl, (by exact hq.symm), ?_, rfl⟩
            · omega
            have hit : rItem (bs m) = some (x, bs a2) := by rw [hrx]; exact if_neg h85
            have hgo := rItems_on (out := out) (n := fl.n - i) (by omega) hit
            subst hq
            refine ⟨by omega, hri.trans (by rw [hgo, Nat.sub_sub]), ?_, by rw [List.length_append]; show _ + 1 ≤ _; omega, by omega, Bk.au, Ch.au⟩
            rw [List.length_append, cellsI_append]
            exact ho89
    · refine W_exit ?_
      repeat (first | refine blk_hit ?_ | refine blk_miss rfl ?_)
      refine W_seq ?_
      refine W_region ?_
      refine L_r (r_mv) ?_
      refine L_r (r_ms rfl) ?_
      refine L_r (r_av) ?_
      refine L_r (r_as rfl) ?_
      refine L_r (r_ab rfl) ?_
      refine L_nil ?_
      refine W_ret ?_
      refine ret3 (v := .string _) (x := .bool _) rfl (by conv => lhs; whnf) rfl rfl ?_
      first
      | (rw [hno]
         exact ⟨_, _, _, rfl, fun _ => rfl, fun z m h => (by cases h), Ch.au⟩)
      | (have hen : rTake (bs s) = some (out, bs m) := by rw [hri, show fl.n - i = 0 by omega]; rfl
         rw [hen]
         exact ⟨_, _, _, rfl, fun h => (by cases h), fun z m' h => (by injection h with h; injection h with h1 h2; subst h1; subst h2; exact ⟨rfl, (sb_bs _).symm, Ow.au⟩), Ch.au⟩)
end Go.Proofs.YtioonbfinnigpaaDoor

