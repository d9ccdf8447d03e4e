/- The document's caller, walked: what it tells, and a call of it changed. -/
import Derived.Test.YtjjddbicggfgnaaCalW
import Derived.Test.YtjjddbicggfgnaaDocM
namespace Go.Proofs.Ytjjddbicggfgnaa
open Go Go.RowKit
set_option linter.unusedVariables false
set_option linter.unusedSimpArgs false
set_option maxRecDepth 100000
structure RCl where
  m : Msg
  waited : Int
  asks : Int
  ended : Bool
structure RCal where
  life : Int
  wait : Int
  most : Int
  L : List RCl
  out : List Msg
  res : List Rst
abbrev rcl (c : RCl) : List Value := [.int .i64 c.m.kind, .int .u64 c.m.life, .int .u64 c.m.seq, .int .u64 c.m.below, .int .u64 c.m.object, .string c.m.method, .int .i64 c.m.way, .string c.m.body, .int .i64 c.waited, .int .i64 c.asks, .bool c.ended]
def cellsC (L : List RCl) : List Value := L.flatMap rcl
theorem cellsC_append (M K : List RCl) : cellsC (M ++ K) = cellsC M ++ cellsC K := by simp [cellsC]
theorem cellsC_length (M : List RCl) : (cellsC M).length = M.length * 11 := flat_length _ 11 (fun _ => rfl) M
theorem cellsC_row (z : List RCl) (i : Nat) (h : i < z.length) (j : Nat) (u : Value) : (rcl z[i])[j]? = some u → (cellsC z)[i * 11 + j]? = some u := flat_row rcl 11 (fun _ => rfl) z i h j u
theorem cellsC_one (M : List RCl) : ∀ y ∈ cellsC M, y.oneCell' = true := by
  intro y hy
  simp only [cellsC, List.mem_flatMap] at hy
  obtain ⟨m, _, hy⟩ := hy
  simp only [rcl, List.mem_cons, List.not_mem_nil, or_false] at hy
  rcases hy with rfl | rfl | rfl | rfl | rfl | rfl | rfl | rfl | rfl | rfl | rfl <;> rfl
theorem sets_eq : ∀ (us xs : List Value) (i : Nat), i + us.length ≤ xs.length → sets xs i us = xs.take i ++ us ++ xs.drop (i + us.length)
  | [], xs, i, _ => by simp [sets]
  | u :: us, xs, i, h => by
    rw [List.length_cons] at h
    have ih := sets_eq us (xs.set i u) (i + 1) (by rw [List.length_set]; omega)
    show sets (xs.set i u) (i + 1) us = _
    rw [ih, List.take_add_one, List.take_set_of_le (Nat.le_refl _), List.getElem?_set_self (by omega), List.drop_set_of_lt (by omega)]
    simp only [Option.toList_some, List.append_assoc, List.cons_append, List.nil_append, List.length_cons]
    rw [show i + 1 + us.length = i + (us.length + 1) by omega]
theorem cellsC_set (L : List RCl) (i : Nat) (h : i < L.length) (x : RCl) : sets (cellsC L) (i * 11) (rcl x) = cellsC (L.set i x) := by
  have hl := cellsC_length L
  rw [sets_eq _ _ _ (by rw [hl]; show i * 11 + 11 ≤ _; omega)]
  rw [List.set_eq_take_append_cons_drop, if_pos h, cellsC_append]
  have e1 : (cellsC L).take (i * 11) = cellsC (L.take i) := by
    conv => lhs; rw [← List.take_append_drop i L, cellsC_append]
    rw [List.take_left' (by rw [cellsC_length, List.length_take]; omega)]
  have e2 : (cellsC L).drop (i * 11 + 11) = cellsC (L.drop (i + 1)) := by
    conv => lhs; rw [← List.take_append_drop (i + 1) L, cellsC_append]
    rw [List.drop_left' (by rw [cellsC_length, List.length_take]; omega)]
  show (cellsC L).take (i * 11) ++ rcl x ++ (cellsC L).drop (i * 11 + 11) = _
  rw [e1, e2]
  simp [cellsC]
theorem rc_info : (Try.prog.info? 75).map (fun i => (i.zero, i.size, i.bytes)) = some (some (.agg #[.int .i64 0, .int .u64 0, .int .u64 0, .int .u64 0, .int .u64 0, .string ByteArray.empty, .int .i64 0, .string ByteArray.empty, .int .i64 0, .int .i64 0, .bool false]), 11, 104) := rfl
abbrev RCal.row (R : RCal) (vl vo vr : Value) : Array Value := #[.int .u64 R.life, .int .i64 R.wait, .int .i64 R.most, vl, vo, vr]
theorem six_one {a b c : Int} {x y z : Value} (h1 : x.oneCell' = true) (h2 : y.oneCell' = true) (h3 : z.oneCell' = true) : (#[Value.int .u64 a, .int .i64 b, .int .i64 c, x, y, z].all (·.oneCell')) = true := by
  rw [Array.all_eq_true_iff_forall_mem]
  intro v hv
  simp at hv
  rcases hv with rfl | rfl | rfl | rfl | rfl | rfl
  · rfl
  · rfl
  · rfl
  · exact h1
  · exact h2
  · exact h3
/-- The rows of the document's caller. -/
structure RcAt (base : Nat) (w : World) (vl vo vr : Value) (R : RCal) : Prop where
  l : Ow w base 75 11 vl R.L.length (cellsC R.L)
  o : Ow w base 33 8 vo R.out.length (cellsM R.out)
  r : Ow w base 58 3 vr R.res.length (cellsT R.res)
def Rown (vl vo vr : Value) (j : Nat) : Prop := vl.ownBlock = some j ∨ vo.ownBlock = some j ∨ vr.ownBlock = some j
variable {base : Nat} {w w' : World} {vl vo vr : Value} {R : RCal}
theorem RcAt.ch {X : Nat → Prop} (h : RcAt base w vl vo vr R) (c : Ch X w w') (hX : ∀ j, Rown vl vo vr j → ¬ X j) : RcAt base w' vl vo vr R :=
  ⟨h.l.to fun i hi => Sm.step c (fun _ => hX i (.inl hi)) (Sm.refl _ _), h.o.to fun i hi => Sm.step c (fun _ => hX i (.inr (.inl hi))) (Sm.refl _ _), h.r.to fun i hi => Sm.step c (fun _ => hX i (.inr (.inr hi))) (Sm.refl _ _)⟩
theorem RcAt.nw (h : RcAt base w vl vo vr R) (c : Nw w w') : RcAt base w' vl vo vr R := h.ch c fun _ _ => not_no
theorem RcAt.lt (h : RcAt base w vl vo vr R) : ∀ j, Rown vl vo vr j → base ≤ j ∧ j < w.heap.size := by
  rintro j (e | e | e)
  · exact ⟨ow_base h.l e, h.l.lt e⟩
  · exact ⟨ow_base h.o e, h.o.lt e⟩
  · exact ⟨ow_base h.r e, h.r.lt e⟩
theorem RcAt.base' {base' : Nat} (h : RcAt base w vl vo vr R) (hb : base' ≤ base) : RcAt base' w vl vo vr R := ⟨h.l.mono hb, h.o.mono hb, h.r.mono hb⟩
def openN (L : List RCl) : Nat := (L.filter (fun c => !c.ended)).length
def belowR (L : List RCl) : Nat := (L.takeWhile (fun c => c.ended)).length + 1
theorem openN_next (L : List RCl) (i : Nat) (h : i < L.length) : openN (L.take (i + 1)) = openN (L.take i) + (if L[i].ended then 0 else 1) := by
  unfold openN
  rw [List.take_succ_eq_append_getElem h, List.filter_append, List.length_append]
  cases hh : L[i].ended <;> simp [hh]
theorem belowR_at {L : List RCl} : ∀ {i : Nat} (h : i < L.length), (∀ (j : Nat) (hj : j < L.length), j < i → L[j].ended = true) → L[i].ended = false → belowR L = i + 1 := by
  unfold belowR
  induction L with
  | nil => intro i h; simp at h
  | cons c L ih =>
    intro i h h1 h2
    cases i with
    | zero =>
      have h2' : c.ended = false := h2
      rw [List.takeWhile_cons, h2']; rfl
    | succ i =>
      have hc : c.ended = true := h1 0 (by simp) (by omega)
      rw [List.takeWhile_cons, hc]
      have := ih (i := i) (by simpa using h) (fun j hj hji => h1 (j + 1) (by simpa using hj) (by omega)) h2
      simpa using this
theorem belowR_no {L : List RCl} (h : ∀ (j : Nat) (hj : j < L.length), L[j].ended = true) : belowR L = L.length + 1 := by
  unfold belowR
  induction L with
  | nil => rfl
  | cons c L ih =>
    have hc : c.ended = true := h 0 (by simp)
    rw [List.takeWhile_cons, hc]
    have := ih fun j hj => h (j + 1) (by simpa using hj)
    simpa using this
theorem ropen_walk (base : Nat) (vl vo vr : Value) (R : RCal) (w0 : World) (hR : RcAt base w0 vl vo vr R) (hl : R.L.length ≤ 100000) : Does Try.prog 22 #[.agg #[.int .u64 R.life, .int .i64 R.wait, .int .i64 R.most, vl, vo, vr]] w0 (fun r w' => r = .int .i64 (openN R.L : Int) ∧ Nw w0 w') := by
  have hv := hR.l.sl
  have h1 := sl_one hR.l.sl
  have h2 := sl_one hR.o.sl
  have h3 := sl_one hR.r.sl
  refine fn_of (n := 22) (args := [.agg #[.int .u64 R.life, .int .i64 R.wait, .int .i64 R.most, vl, vo, vr]]) Try.func22 rfl rfl rfl ?_
  refine W_seq ?_
  refine W_region ?_
  refine L_new (.plain rfl) rfl rfl (r_boxa rfl) (fun w1 b1 hb1 eb1 hs1 c1 => ?_)
  refine L_r (r_ai rfl) ?_
  refine L_nil ?_
  refine W_seq ?_
  refine W_region ?_
  refine L_r (r_ai rfl) ?_
  refine L_nil ?_
  refine W_seq ?_
  refine W_seq ?_
  refine W_region ?_
  refine L_r (r_ai rfl) ?_
  refine L_nil ?_
  refine W_block ?_
  refine W_loopF [1] (fun mz_ f W => ∃ (i : Nat) (n : Nat), f 4 = .int .i64 i ∧ f 3 = .int .i64 n ∧ (i ≤ R.L.length ∧ n = openN (R.L.take i) ∧ n ≤ i ∧ Bk W b1 (R.row vl vo vr) 41 ∧ Nw w0 W) ∧ mz_ = R.L.length - i) ?_ ?_
  · refine ⟨_, 0, 0, rfl, rfl, ?_, rfl⟩
    exact ⟨by omega, rfl, by omega, Bk.au, Ch.au⟩
  rintro m0 g0 w2 ⟨i, n, hf4, hf3, hR0, rfl⟩
  refine W_as 4 hf4 rfl ?_
  refine W_as 3 hf3 rfl ?_
  clear hf4 hf3
  obtain ⟨hi, hn, hni, hbx, hnw⟩ := hR0
  have hz := hnw.size
  obtain ⟨n', hn'⟩ : ∃ x, x = n := ⟨_, rfl⟩
  refine W_seq ?_
  refine W_seq ?_
  refine W_region ?_
  refine L_r (r_mi rfl) ?_
  refine L_r (r_fieldb Try.underlying41 rfl (show _ = some 1 from rfl) rfl rfl (show _ = 3 from rfl)) ?_
  refine L_r (r_lb rfl rfl) ?_
  refine L_r (r_lenSl Try.underlying39 (by conv => lhs; whnf) Sl.au) ?_
  refine L_r (r_lss rfl rfl) ?_
  refine L_nil ?_
  refine W_if rfl (fun h9 => ?_) (fun h9 => ?_)
  · have hin : i < R.L.length := by omega
    obtain ⟨c, hc⟩ : ∃ c, c = R.L[i] := ⟨_, rfl⟩
    have hrow : ∀ (j : Nat) (u : Value), (rcl c)[j]? = some u → (cellsC R.L)[i * 11 + j]? = some u := by rw [hc]; exact cellsC_row R.L i hin
    refine W_skip ?_
    refine W_seq ?_
    refine W_block ?_
    refine W_seq ?_
    refine W_region ?_
    refine L_r (r_fieldb Try.underlying41 rfl (show _ = some 1 from rfl) rfl rfl (show _ = 3 from rfl)) ?_
    refine L_r (r_lb rfl rfl) ?_
    refine L_r (r_mi rfl) ?_
    refine L_r (r_ix Try.underlying39 (show _ = some 11 from rfl) (by conv => lhs; whnf) rfl Sl.au) ?_
    refine L_r (r_fieldSl Try.underlying75 rfl (show _ = some 1 from rfl) rfl (show _ = 10 from rfl) rfl rfl) ?_
    refine L_r (r_loadSl rfl rfl Sl.au (by first | assumption | exact hrow 10 _ rfl | (conv => lhs; simp only [List.getElem?_toArray, List.getElem?_cons_succ, List.getElem?_cons_zero]))) ?_
    refine L_r (r_not rfl) ?_
    refine L_nil ?_
    refine W_bool rfl (fun h18 => ?_) (fun h18 => ?_)
    · clear hn'
      obtain ⟨n', hn'⟩ : ∃ x, x = n + 1 := ⟨_, rfl⟩
      refine W_region ?_
      refine L_r (r_mi rfl) ?_
      refine L_r (r_add rfl rfl (by first | exact wr_i64 (by omega) | rfl)) ?_
      refine L_r (r_ai rfl) ?_
      refine L_nil ?_
      refine W_region ?_
      refine L_r (r_mi rfl) ?_
      refine L_r (r_add rfl rfl (by first | exact wr_i64 (by omega) | rfl)) ?_
      refine L_r (r_ai rfl) ?_
      refine L_nil ?_
      refine ⟨⟨rfl, trivial⟩, _, ?_, i + 1, n', rfl, (by rw [hn']; rfl), ?_, rfl⟩
      · omega
      have hnx := openN_next R.L i hin
      rw [← hc] at hnx
      first
        | (rw [show c.ended = true by simpa using h18] at hnx
           subst hn'
           exact ⟨by omega, by simp at hnx; omega, by omega, Bk.au, Ch.au⟩)
        | (rw [show c.ended = false by simpa using h18] at hnx
           subst hn'
           exact ⟨by omega, by simp at hnx; omega, by omega, Bk.au, Ch.au⟩)
    · refine W_skip ?_
      refine W_region ?_
      refine L_r (r_mi rfl) ?_
      refine L_r (r_add rfl rfl (by first | exact wr_i64 (by omega) | rfl)) ?_
      refine L_r (r_ai rfl) ?_
      refine L_nil ?_
      refine ⟨⟨rfl, trivial⟩, _, ?_, i + 1, n', rfl, (by rw [hn']; rfl), ?_, rfl⟩
      · omega
      have hnx := openN_next R.L i hin
      rw [← hc] at hnx
      first
        | (rw [show c.ended = true by simpa using h18] at hnx
           subst hn'
           exact ⟨by omega, by simp at hnx; omega, by omega, Bk.au, Ch.au⟩)
        | (rw [show c.ended = false by simpa using h18] at hnx
           subst hn'
           exact ⟨by omega, by simp at hnx; omega, by omega, Bk.au, Ch.au⟩)
  · refine W_exit ?_
    repeat (first | refine blk_hit ?_ | refine blk_miss rfl ?_)
    refine W_seq ?_
    refine W_region ?_
    refine L_r (r_mi rfl) ?_
    refine L_r (r_ai rfl) ?_
    refine L_nil ?_
    refine W_ret ?_
    refine ret1 (v := .int _ _) rfl rfl ?_
    exact ⟨by rw [hn, show i = R.L.length by omega, List.take_length], Ch.au⟩
theorem rbelow_walk (base : Nat) (vl vo vr : Value) (R : RCal) (w0 : World) (hR : RcAt base w0 vl vo vr R) (hl : R.L.length ≤ 100000) : Does Try.prog 24 #[.agg #[.int .u64 R.life, .int .i64 R.wait, .int .i64 R.most, vl, vo, vr]] w0 (fun r w' => r = .int .u64 (belowR R.L : Int) ∧ Nw w0 w') := by
  have hv := hR.l.sl
  have h1 := sl_one hR.l.sl
  have h2 := sl_one hR.o.sl
  have h3 := sl_one hR.r.sl
  refine fn_of (n := 26) (args := [.agg #[.int .u64 R.life, .int .i64 R.wait, .int .i64 R.most, vl, vo, vr]]) Try.func24 rfl rfl rfl ?_
  refine W_seq ?_
  refine W_region ?_
  refine L_new (.plain rfl) rfl rfl (r_boxa rfl) (fun w1 b1 hb1 eb1 hs1 c1 => ?_)
  refine L_r (r_ai rfl) ?_
  refine L_nil ?_
  refine W_seq ?_
  refine W_seq ?_
  refine W_region ?_
  refine L_r (r_ai rfl) ?_
  refine L_nil ?_
  refine W_block ?_
  refine W_loopF [1] (fun mz_ f W => ∃ (i : Nat), f 3 = .int .i64 i ∧ (i ≤ R.L.length ∧ (∀ (j : Nat) (hj : j < R.L.length), j < i → R.L[j].ended = true) ∧ Bk W b1 (R.row vl vo vr) 41 ∧ Nw w0 W) ∧ mz_ = R.L.length - i) ?_ ?_
  · refine ⟨_, 0, rfl, ?_, rfl⟩
    exact ⟨by omega, fun j hj hji => absurd hji (by omega), Bk.au, Ch.au⟩
  rintro m0 g0 w2 ⟨i, hf3, hR0, rfl⟩
  refine W_as 3 hf3 rfl ?_
  clear hf3
  obtain ⟨hi, hn, hbx, hnw⟩ := hR0
  have hz := hnw.size
  refine W_seq ?_
  refine W_seq ?_
  refine W_region ?_
  refine L_r (r_mi rfl) ?_
  refine L_r (r_fieldb Try.underlying41 rfl (show _ = some 1 from rfl) rfl rfl (show _ = 3 from rfl)) ?_
  refine L_r (r_lb rfl rfl) ?_
  refine L_r (r_lenSl Try.underlying39 (by conv => lhs; whnf) Sl.au) ?_
  refine L_r (r_lss rfl rfl) ?_
  refine L_nil ?_
  refine W_if rfl (fun h8 => ?_) (fun h8 => ?_)
  · have hin : i < R.L.length := by omega
    obtain ⟨c, hc⟩ : ∃ c, c = R.L[i] := ⟨_, rfl⟩
    have hrow : ∀ (j : Nat) (u : Value), (rcl c)[j]? = some u → (cellsC R.L)[i * 11 + j]? = some u := by rw [hc]; exact cellsC_row R.L i hin
    refine W_skip ?_
    refine W_seq ?_
    refine W_block ?_
    refine W_seq ?_
    refine W_region ?_
    refine L_r (r_fieldb Try.underlying41 rfl (show _ = some 1 from rfl) rfl rfl (show _ = 3 from rfl)) ?_
    refine L_r (r_lb rfl rfl) ?_
    refine L_r (r_mi rfl) ?_
    refine L_r (r_ix Try.underlying39 (show _ = some 11 from rfl) (by conv => lhs; whnf) rfl Sl.au) ?_
    refine L_r (r_fieldSl Try.underlying75 rfl (show _ = some 1 from rfl) rfl (show _ = 10 from rfl) rfl rfl) ?_
    refine L_r (r_loadSl rfl rfl Sl.au (by first | assumption | exact hrow 10 _ rfl | (conv => lhs; simp only [List.getElem?_toArray, List.getElem?_cons_succ, List.getElem?_cons_zero]))) ?_
    refine L_r (r_not rfl) ?_
    refine L_nil ?_
    refine W_bool rfl (fun h17 => ?_) (fun h17 => ?_)
    · refine W_seq ?_
      refine W_region ?_
      refine L_r (r_mi rfl) ?_
      refine L_r (r_conv Try.underlying3 Try.underlying26 rfl (by first | exact wr_u64 (by omega) | rfl)) ?_
      refine L_r (r_add rfl rfl (by first | exact wr_u64 (by omega) | rfl)) ?_
      refine L_r (r_ai rfl) ?_
      refine L_nil ?_
      refine W_ret ?_
      refine ret1 (v := .int _ _) rfl rfl ?_
      first
      | (have e := belowR_at hin hn (by rw [← hc]; simpa using h17)
         exact ⟨by rw [e]; rfl, Ch.au⟩)
      | (have e := belowR_no (L := R.L) (fun j hj => hn j hj (by omega))
         exact ⟨by rw [e]; rfl, Ch.au⟩)
    · refine W_skip ?_
      refine W_region ?_
      refine L_r (r_mi rfl) ?_
      refine L_r (r_add rfl rfl (by first | exact wr_i64 (by omega) | rfl)) ?_
      refine L_r (r_ai rfl) ?_
      refine L_nil ?_
      refine ⟨⟨rfl, trivial⟩, _, ?_, i + 1, rfl, ?_, rfl⟩
      · omega
      refine ⟨by omega, fun j hj hji => ?_, Bk.au, Ch.au⟩
      by_cases e : j < i
      · exact hn j hj e
      · have e2 : j = i := by omega
        subst e2
        rw [← hc]; simpa using h17
  · refine W_exit ?_
    repeat (first | refine blk_hit ?_ | refine blk_miss rfl ?_)
    refine W_seq ?_
    refine W_region ?_
    refine L_r (r_fieldb Try.underlying41 rfl (show _ = some 1 from rfl) rfl rfl (show _ = 3 from rfl)) ?_
    refine L_r (r_lb rfl rfl) ?_
    refine L_r (r_lenSl Try.underlying39 (by conv => lhs; whnf) Sl.au) ?_
    refine L_r (r_conv Try.underlying3 Try.underlying26 rfl (by first | exact wr_u64 (by omega) | rfl)) ?_
    refine L_r (r_add rfl rfl (by first | exact wr_u64 (by omega) | rfl)) ?_
    refine L_r (r_ai rfl) ?_
    refine L_nil ?_
    refine W_ret ?_
    refine ret1 (v := .int _ _) rfl rfl ?_
    first
    | (have e := belowR_at hin hn (by rw [← hc]; simpa using h17)
       exact ⟨by rw [e]; rfl, Ch.au⟩)
    | (have e := belowR_no (L := R.L) (fun j hj => hn j hj (by omega))
       exact ⟨by rw [e]; rfl, Ch.au⟩)
end Go.Proofs.Ytjjddbicggfgnaa

